/- A part of the proof: Rh, Sc, Sd, Se, Ta, Tb, Tc, Td, Sg, Mb, Mc, Md, Me, Mf, Mg, Mh, Mi. -/
import Derived.Test.YtfelpjfopgiabaaZTu4
set_option linter.unusedSimpArgs false
set_option linter.unusedVariables false
namespace Go.Proofs.Ytfelpjfopgiabaa
open Go Go.Lft
def phiOf (f : FuncD) (t : Th) : PhiD := nth (blkOf f t).phis (-1 - t.place).toNat
def insLen (f : FuncD) (b : Int) : Int := ((nth f.blocks b.toNat).ins.length : Nat)
def sameS (f : FuncD) (t : Th) : Bool := decide (0 < t.blk) && decide ((phiOf f t).ins.map InD.frm = refPredsS f t.blk)
def stT (f : FuncD) (made : List Th) (away : List BL) (t : Th) (x : Int) : Bool := !standsS f made away x t.blk t.place
def stP (f : FuncD) (made : List Th) (away : List BL) (p : InD) : Bool := !standsS f made away p.val p.frm (insLen f p.frm)
def thStand (f : FuncD) (made : List Th) (away : List BL) (t : Th) : Except Tr Unit :=
 if 0 ≤ t.place then (if t.tks.any (stT f made away t) then .error (13, t.blk, t.place) else .ok ())
 else if !sameS f t then .error (16, t.blk, t.place)
 else if (phiOf f t).ins.any (stP f made away) then .error (13, t.blk, t.place)
 else .ok ()
def madeS (f : FuncD) : List Th := sitesS (thingsS f)
def awayS (f : FuncD) : List BL := rows (fun b => reachedS f b) f.blocks.length
def cntTo (f : FuncD) : Nat → Nat
 | 0 => f.blocks.length
 | n + 1 => cntTo f n + (nth f.blocks n).phis.length + (nth f.blocks n).ins.length
def wayE (f : FuncD) : Except Tr Unit := upE (fun b _ => if nth (reachedS f (-1)) b = true then .ok () else .error (15, b, 0)) f.blocks.length ()
def usesE (f : FuncD) : Except Tr Unit := upE (fun i _ => thStand f (madeS f) (awayS f) (nth (thingsS f) i)) (thingsS f).length ()
def thenE : Except Tr Unit → Except Tr Unit → Except Tr Unit
 | .ok _, y => y
 | .error e, _ => .error e
def refFuncS (f : FuncD) : Tr :=
 if f.params < 0 ∨ 4 < f.params then (1, 0, 0)
 else if f.blocks.length = 0 then (14, 0, 0)
 else if 512 < f.blocks.length ∨ 4096 < cntTo f f.blocks.length then (2, 0, 0)
 else if (errOf (refShapeS f)).1 ≠ 0 then errOf (refShapeS f)
 else errOf (thenE (wayE f) (usesE f))
theorem cntTo_le {f : FuncD} (hsm : SmF f) {n : Nat} (hn : n ≤ f.blocks.length) : cntTo f n ≤ 10000 + n * 20000 := by
 induction n with
 | zero => simpa [cntTo] using hsm.len
 | succ n ih =>
  have := ih (by omega)
  have b := hsm.blk n (by omega)
  have := b.phis
  have := b.ins
  simp only [cntTo]; omega
theorem upE_inv {σ ε : Type} {f : Nat → σ → Except ε σ} {s : σ} {t : ε} : ∀ {n : Nat}, upE f n s = .error t → ∃ k s', k < n ∧ upE f k s = .ok s' ∧ f k s' = .error t
 | n + 1, h => by
  simp only [upE] at h
  split at h
  ·rename_i s' hs
   exact ⟨n, s', Nat.lt_succ_self n, hs, h⟩
  ·rename_i t' ht
   cases h
   obtain ⟨k, s', h1, h2⟩ := upE_inv ht
   exact ⟨k, s', Nat.lt_succ_of_lt h1, h2⟩
theorem thShape_err {f : FuncD} {t : Th} {m : BL} {e : Tr} (h : thShape f t m = .error e) : (10 ≤ e.1 ∧ e.1 ≤ 14) ∧ e.2.1 = t.blk ∧ e.2.2 = t.place := by
 unfold thShape at h
 split at h
 ·cases h; simp
 ·split at h
  ·cases h; simp
  ·split at h
   ·cases h; simp
   ·unfold afterMk at h
    split at h
    ·rename_i e' he
     cases h
     obtain ⟨k, s', _, _, h3⟩ := upE_inv he
     unfold mkdStep at h3
     split at h3
     ·cases h3; simp
     ·cases h3
    ·split at h
     ·cases h; simp
     ·cases h
theorem refShape_err {f : FuncD} (hsm : SmF f) : 0 ≤ (errOf (refShapeS f)).1 ∧ (errOf (refShapeS f)).1 ≤ 100 ∧ I64 (errOf (refShapeS f)).2.1 ∧ I64 (errOf (refShapeS f)).2.2 := by
 cases h : refShapeS f with
 | ok m => exact ⟨by simp [errOf], by simp [errOf], by constructor <;> simp [errOf], by constructor <;> simp [errOf]⟩
 | error e =>
  obtain ⟨k, s', h1, _, h3⟩ := upE_inv h
  obtain ⟨h4, h5, h6⟩ := thShape_err h3
  have ok := thing_ok hsm (nth_mem h1)
  have := ok.blk
  have := ok.place
  have := hsm.len
  refine ⟨by simp only [errOf]; omega, by simp only [errOf]; omega, ⟨?_, ?_⟩, ⟨?_, ?_⟩⟩ <;> simp only [errOf, h5, h6] <;> omega
theorem sites_blk {n : Int} (hn : 0 ≤ n) {ts : List Th} (h : ∀ t ∈ ts, t.blk < n) {i : Nat} (hi : i < 8192) : (nth (sitesS ts) i).blk < n := by
 have key : ∀ (ts : List Th), (∀ t ∈ ts, t.blk < n) → ∀ l : List Th, (∀ x ∈ l, x.blk < n) → ∀ x ∈ ts.foldl siteTh l, x.blk < n := by
  intro ts
  induction ts with
  | nil => exact fun _ l hl => hl
  | cons t ts ih =>
   intro ht l hl
   refine ih (fun x hx => ht x (List.mem_cons_of_mem _ hx)) _ ?_
   refine foldl_inv (f := siteStep t) (fun l : List Th => ∀ x ∈ l, x.blk < n) (fun l a hl x hx => ?_) _ _ hl
   unfold siteStep at hx
   split at hx
   ·rcases List.mem_or_eq_of_mem_set hx with h | rfl
    ·exact hl x h
    ·exact ht _ List.mem_cons_self
   ·exact hl x hx
 refine key ts h _ (fun x hx => ?_) _ (nth_mem (by show i < (sitesS ts).length; rw [sitesS_len]; exact hi))
 rw [(List.mem_replicate.1 hx).2]; show (-1 : Int) < n; omega
theorem thing_phi {f : FuncD} {t : Th} (h : t ∈ thingsS f) (hp : t.place < 0) : (-1 - t.place).toNat < (blkOf f t).phis.length := by
 obtain ⟨b, hb, h⟩ := mem_thTo.1 h
 rcases mem_thB.1 h with ⟨i, hi, rfl⟩ | ⟨i, hi, rfl⟩ | rfl
 ·simp only [phiT, blkOf] at *
  rw [show (-1 - (-1 - (i : Int))).toNat = i by omega]; simpa using hi
 ·simp only [insT] at hp; omega
 ·simp only [endT] at hp; omega
theorem sm_phi {f : FuncD} (hsm : SmF f) {t : Th} (h : t ∈ thingsS f) (hp : t.place < 0) : (phiOf f t).ins.length ≤ 10000 :=
 (hsm.blk t.blk.toNat (by have := (thing_ok hsm h).blk; omega)).phi _ (thing_phi h hp)
theorem GotD.p_e : Part GotD Int 0 GotD.e (fun d x => { d with e := x }) := (Part.fst Part.all).via (fun _ => rfl) fun _ _ => rfl
theorem refFunc_ok {f : FuncD} {v : Value} {h : Heap} (hv : Rd (vw h) v f) (hsm : SmF f) :
  HCalls Try.prog N.ref03_Func #[v] h (fun u h' => u = gotV (refFuncS f) ∧ (vw h).le (vw h')) := by
 refine calls_lift (args := [v]) follows F.ref03_Func E.ref03_Func (Nat.le_of_ble_eq_true (by kernel_rfl)) fun K hK => ?_
 have hn := hsm.len
 dsimp only [L.ref03_Func]
 refine lwp_hide fun z hz => ?_
 simp
 refine do_boxT rfl hv fun h1 _ hle1 hs1 hat => ?_
 obtain ⟨cp, vb, cb⟩ := at_funcB hat
 obtain ⟨u, hu, hur⟩ := hat.loads rfl
 have hu : Un.ev (vw h1) (.loads 2) (.pointer (some ⟨h.size, 0, none⟩)) = some u := hu
 generalize h.size = B at cp cb hu
 refine do_alloc (z := .agg #[.int .i64 0, .int .i64 0, .int .i64 0]) (by kernel_rfl) ?_
 have q1 := push_le h1 (.cells (Value.cells (.agg #[.int .i64 0, .int .i64 0, .int .i64 0])) T.ref03_Got)
 generalize e2 : h1.push (.cells (Value.cells (.agg #[.int .i64 0, .int .i64 0, .int .i64 0])) T.ref03_Got) = h2 at q1
 have b2 : h2[h1.size]? = some (.cells (gotV (0, 0, 0)).cells T.ref03_Got (0, 0)) := by rw [← e2]; simp; rfl
 have w2 := (Owns.start (h := h1) (View.le_refl (vw h1))).add (k := (1, 0)) rfl (ownT_box (h := h2) (d := gotD (0, 0, 0)) b2 (rd_got (by constructor <;> decide) (by constructor <;> decide) (by constructor <;> decide)) (by decide)) q1 (fun b hb => by simp only [Value.ownBlock, Option.some.injEq] at hb; omega)
 generalize h1.size = R at w2
 generalize hV1 : vw h1 = V1 at cp cb hu hur w2
 generalize ho2 : Own.upd (fun x => none) (1, 0) (it T.ref03_Got (.slice (some ⟨R, 0, none⟩) 1 1) [gotD (0, 0, 0)]) = o2 at w2
 have hR2 : o2 (1, 0) = bx T.ref03_Got R (gotD (0, 0, 0)) := by rw [← ho2]; rfl
 have hO2 : ∀ k, k ≠ (1, 0) → o2 k = none := fun k hk => by rw [← ho2]; exact Own.upd_ne hk
 clear ho2 b2 e2
 rw [hV1] at hle1
 have cpv : ∀ {h' : Heap}, V1.le (vw h') → cellH (vw h') ⟨B, 0, none⟩ = some (.int .i64 f.params) := fun q => cellH_mono q cp
 have cbv : ∀ {h' : Heap}, V1.le (vw h') → cellH (vw h') ⟨B, 1, none⟩ = some vb := fun q => cellH_mono q cb.1
 have cbl : ∀ {h' : Heap}, V1.le (vw h') → Un.ev (vw h') .len vb = some (.int .i64 f.blocks.length) := fun q => (cb.2.mono q).len
 have huv : ∀ {h' : Heap}, V1.le (vw h') → Un.ev (vw h') (.loads 2) (.pointer (some ⟨B, 0, none⟩)) = some u := fun q => by
  have := ev_mono (ρ := fun _ => none) (e := .un (.loads 2) (.con (.pointer (some ⟨B, 0, none⟩)))) q (v := u) (by simpa using hu)
  simpa using this
 have ret : ∀ {t : Tr} {h8 : Heap} {W8 : View} {o : Own} {x y : Operand} {us : List (Nat × Value)} {ty : TypeId} {K9 : Value → Heap → Prop}, I64 t.1 → I64 t.2.1 → I64 t.2.2 → Owns W8 h8 o → o (1, 0) = bx T.ref03_Got R (gotD (0, 0, 0)) → V1.le W8 → refFuncS f = t →
   asg us x = .pointer (some ⟨R, 0, none⟩) → asg us y = gotV t → (∀ v h9, Un.ev (vw h9) (.loads 3) (.pointer (some ⟨R, 0, none⟩)) = some (gotV (refFuncS f)) → K (gotV (refFuncS f)) h9 → K9 v h9) → @Lft.step (@opAt noPP none) Try.prog (.store T.ref03_Got x y) ty us h8 K9 := by
  intro t h8 W8 o x y us ty K9 t1 t2 t3 w8 ho hW8 hbad hx hy hK9
  refine w8.do_field (k := (1, 0)) (e := T.ref03_Got) (D := gotD (0, 0, 0)) (Part.all) (d := gotD t) ho (by kernel_rfl) hx hy (rd_got t1 t2 t3) fun h9 w9 hs9 => ?_
  refine hK9 _ _ ?_ ?_
  ·rw [hbad]; exact got_load w9 (Own.upd_self)
  ·exact hK _ _ ⟨rfl, View.le_trans hle1 (View.le_trans hW8 w9.wle)⟩
 have i0 : I64 0 := by constructor <;> decide
 rw [hz]; clear hz z
 refine lwp_hide fun z hz => ?_
 have hst : refFuncS f = refFuncS f := rfl
 conv at hst => rhs; unfold refFuncS
 by_cases c1 : f.params < 0 ∨ 4 < f.params
 ·rw [if_pos c1] at hst
  have hc : (decide (f.params < 0) || decide (4 < f.params)) = true := by simpa using c1
  simp [cpv w2.wle, hc]
  refine do_got1 ?_
  refine ret (by constructor <;> decide) i0 i0 w2 hR2 (View.le_refl _) hst rfl rfl fun _ h9 hl9 hK9 => ?_
  simp [hl9]
  exact hK9
 rw [if_neg c1] at hst
 have hc : (decide (f.params < 0) || decide (4 < f.params)) = false := by rw [Bool.eq_false_iff]; intro e; exact c1 (by simpa using e)
 simp [cpv w2.wle, hc]
 rw [hz]; clear hz z
 refine lwp_hide fun z hz => ?_
 simp [cbv w2.wle, cbl w2.wle]
 refine ⟨fun c2 => ?_, fun c2 => ?_⟩
 ·rw [if_pos (by simp [c2])] at hst
  refine do_got1 ?_
  refine ret (by constructor <;> decide) i0 i0 w2 hR2 (View.le_refl _) hst rfl rfl fun _ h9 hl9 hK9 => ?_
  simp [hl9]
  exact hK9
 rw [if_neg (by simp [c2])] at hst
 rw [hz]; clear hz z
 refine lwp_hide fun z hz => ?_
 simp [cbv w2.wle, cbl w2.wle]
 rw [hz]; clear hz z
 refine lwp_hide fun z hz => ?_
 simp
 refine lwp_for [1, 2, 3, 4] (fun (_ : Unit) k => [.pointer (some ⟨B, 0, none⟩), .pointer (some ⟨R, 0, none⟩), .int .i64 (cntTo f k : Nat), .int .i64 k]) (fun _ k h3 => h3 = h2) f.blocks.length ()
  rfl (by omega) rfl rfl (fun _ _ => rfl) (fun v k h3 hk q => by subst q; simp [cbv w2.wle, cbl w2.wle]) ?_ ?_
 ·rintro _ k h3 hltk rfl K2 hK2
  have hle := cntTo_le hsm (Nat.le_of_lt hltk)
  have cb3 := cb.2.mono w2.wle
  have hatk := cb3.at hltk
  rw [← nth_eq hltk] at hatk
  obtain ⟨vp, hvp⟩ := (hatk.part BlkD.p_phis).sl
  obtain ⟨vi, hvi⟩ := (hatk.part BlkD.p_ins).sl
  have hvp1 : cellH (vw h3) (((slA vb).add (k * 6)).add 0) = some vp := hvp.1
  have hvi1 : cellH (vw h3) (((slA vb).add (k * 6)).add 1) = some vi := hvi.1
  have b1 := (hsm.blk k hltk).phis
  have b2 := (hsm.blk k hltk).ins
  simp (disch := omega) [cbv w2.wle, cb3.idxn (N := 6) rfl, hvp1, hvi1, hvp.2.len, hvi.2.len]
  refine hK2 () _ _ rfl ?_ rfl
  simp (disch := omega) [keepE, setE, cntTo, Lft.look]
  done
 ·rintro _ h3 rfl
  have hcb := cntTo_le hsm (Nat.le_refl f.blocks.length)
  simp
  rw [hz]; clear hz z
  refine lwp_hide fun z hz => ?_
  by_cases c3 : 512 < f.blocks.length ∨ 4096 < cntTo f f.blocks.length
  ·rw [if_pos c3] at hst
   have hc3 : (decide ((512 : Int) < f.blocks.length) || decide ((4096 : Int) < (cntTo f f.blocks.length : Nat))) = true := by simp only [Bool.or_eq_true, decide_eq_true_eq]; omega
   simp [cbv w2.wle, cbl w2.wle, hc3]
   refine do_got1 ?_
   refine ret (by constructor <;> decide) i0 i0 w2 hR2 (View.le_refl _) hst rfl rfl fun _ h9 hl9 hK9 => ?_
   simp [hl9]
   exact hK9
  rw [if_neg c3] at hst
  have hc3 : (decide ((512 : Int) < f.blocks.length) || decide ((4096 : Int) < (cntTo f f.blocks.length : Nat))) = false := by rw [Bool.eq_false_iff]; simp only [ne_eq, Bool.or_eq_true, decide_eq_true_eq]; omega
  simp [cbv w2.wle, cbl w2.wle, hc3]
  rw [hz]; clear hz z
  refine lwp_hide fun z hz => ?_
  simp [huv w2.wle]
  refine call_to (by kernel_rfl) (refShape_ok (hur.mono w2.wle) hsm (by omega)) ?_
  rintro _ h4 ⟨rfl, hle4⟩
  have w4 := w2.ext' hle4
  obtain ⟨e1, e2, e3, e4⟩ := refShape_err hsm
  generalize hT : errOf (refShapeS f) = tr at hst e1 e2 e3 e4
  have eI : I64 tr.1 := ⟨by show _ ≤ tr.1; omega, by show tr.1 ≤ _; omega⟩
  refine do_newV (n := 3) (v := gotV tr) (z := .agg #[.int .i64 0, .int .i64 0, .int .i64 0]) (by kernel_rfl) rfl (by kernel_rfl) rfl (by simp [gotV, Value.cells, Value.oneCell']) (fun _ => by simp) (fun _ => by simp) fun h5 hle5 hs5 hb5 => ?_
  have w5 := w4.add (k := (2, 0)) (hO2 _ (by decide)) (ownT_box (h := h5) (d := gotD tr) hb5 (rd_got eI e3 e4) (by decide)) hle5 (fun b hb => by simp only [Value.ownBlock, Option.some.injEq] at hb; omega)
  have hR5 : (o2.upd (2, 0) (it T.ref03_Got (.slice (some ⟨h4.size, 0, none⟩) 1 1) [gotD tr])) (1, 0) = bx T.ref03_Got R (gotD (0, 0, 0)) := by rw [Own.upd_ne (by decide)]; exact hR2
  have l5 := got_load w5 (k := (2, 0)) (t := tr) (B := h4.size) Own.upd_self
  have f5 : cellH (vw h5) ⟨h4.size, 0, none⟩ = some (.int .i64 tr.1) := by simpa [gotD] using ((w5.at (k := (2, 0)) (d := gotD tr) (B := h4.size) Own.upd_self).part GotD.p_e).int
  generalize h4.size = D at w5 hR5 l5 f5
  have w6 : Owns V1 h5 o2 := w5.sub fun k i hk => by
   by_cases he : k = (2, 0)
   ·subst he; rw [hO2 _ (by decide)] at hk; cases hk
   ·rw [Own.upd_ne he]; exact hk
  rw [hz]; clear hz z
  refine lwp_hide fun z hz => ?_
  simp [f5]
  refine And.symm ⟨fun c4 => ?_, fun c4 => ?_⟩
  ·rw [if_pos c4] at hst
   simp [l5]
   refine ret eI e3 e4 w6 hR2 (View.le_refl _) hst rfl rfl fun _ h9 hl9 hK9 => ?_
   simp [hl9]
   exact hK9
  rw [if_neg (by simpa using c4)] at hst
  rw [hz]; clear hz z
  refine lwp_hide fun z hz => ?_
  simp [huv w6.wle]
  refine call_to (by kernel_rfl) (reached_ok (hur.mono w6.wle) (by omega)) ?_
  rintro vr h7 ⟨hle7, hr7⟩
  have w7 := w6.ext hle7
  have hr := hr7.mono (fresh_grow V1 h5 h7)
  have hX7 : V1.le (grow V1 h5 h7) := le_grow w6.wle
  generalize grow V1 h5 h7 = X7 at w7 hr hX7
  clear hr7 hle7 l5 f5 w5 w6 hR5
  rw [hz]; clear hz z
  refine lwp_hide fun z hz => ?_
  simp
  refine do_lit0 (α := List Bool) El.ss_bool fun h8 hle8 hsz8 own8 => ?_
  have w8 := w7.add (k := (0, 0)) (hO2 _ (by decide)) (own8 X7) hle8 (fun b hb => by simp only [Value.ownBlock, Option.some.injEq] at hb; omega)
  generalize Value.slice (some ⟨h7.size, 0, none⟩) 0 0 = va0 at w8
  rw [hz]; clear hz z
  refine lwp_hide fun z hz => ?_
  simp
  have wle8 := View.le_trans hX7 w8.wle
  have hrl := reachedS_len (f := f) (wo := -1)
  refine lwp_for [1, 2, 6, 7, 8] (fun (_ : Unit) k => [.pointer (some ⟨B, 0, none⟩), .pointer (some ⟨R, 0, none⟩), vr, va0, .int .i64 k]) (fun _ k h3 => h3 = h8 ∧ upE (fun b _ => if nth (reachedS f (-1)) b = true then .ok () else .error ((15, b, 0) : Tr)) k () = .ok ()) f.blocks.length ()
   rfl (by omega) rfl ⟨rfl, rfl⟩ (fun _ _ => rfl) (fun v k h3 hk ⟨q, _⟩ => by subst q; simp [cbv wle8, cbl wle8]) ?_ ?_
  ·rintro _ k h3 hltk ⟨rfl, hup⟩ K2 hK2
   have hr3 := hr.mono w8.wle
   have e3 := (hr3.at (i := k) (by omega)).bool
   rw [← nth_eq, show k * Rep.n Bool = k from Nat.mul_one _] at e3
   simp (disch := omega) [hr3.idxn (N := 1) rfl, e3]
   cases hb : nth (reachedS f (-1)) k with
   | true =>
    rw [condP_true]
    exact hK2 () _ _ rfl rfl ⟨rfl, by rw [upE_succ hup, if_pos hb]⟩
   | false =>
    rw [condP_false]
    have hway : wayE f = .error (15, k, 0) := upE_at hup hltk (by rw [if_neg (by simp [hb])])
    rw [hway, thenE] at hst
    refine do_got2 rfl ?_
    refine ret (t := (15, k, 0)) ⟨by show _ ≤ (15 : Int); omega, by show (15 : Int) ≤ _; omega⟩ ⟨by show _ ≤ (k : Int); omega, by show (k : Int) ≤ _; omega⟩ i0 w8 (by rw [Own.upd_ne (by decide)]; exact hR2) hX7 hst rfl rfl fun _ h9 hl9 hK9 => ?_
    simp [hl9]
    exact hK9
  ·rintro _ h3 ⟨rfl, hup⟩
   have hway : wayE f = .ok () := hup
   rw [hway, thenE] at hst
   simp
   rw [hz]; clear hz z
   refine lwp_hide fun z hz => ?_
   simp
   have w8 : Owns X7 h3 (o2.upd (0, 0) (it T.s_bool va0 (rows (fun b : Nat => reachedS f b) 0))) := w8
   refine lwp_for [1, 2, 7, 9] (fun (va : Value) k => [.pointer (some ⟨B, 0, none⟩), .pointer (some ⟨R, 0, none⟩), va, .int .i64 k]) (fun va k h4 => ∃ W, X7.le W ∧ Owns W h4 (o2.upd (0, 0) (it T.s_bool va (rows (fun b : Nat => reachedS f b) k)))) f.blocks.length va0
    rfl (by omega) rfl ⟨X7, View.le_refl _, w8⟩ (fun _ _ => rfl) (fun v k h4 hk ⟨W, q1, q2⟩ => by simp [cbv (View.le_trans hX7 (View.le_trans q1 q2.wle)), cbl (View.le_trans hX7 (View.le_trans q1 q2.wle))]) ?_ ?_
   ·rintro va k h4 hltk ⟨W4, hW4, w4⟩ K2 hK2
    have q4 := View.le_trans hX7 (View.le_trans hW4 w4.wle)
    simp [huv q4]
    refine call_to (by kernel_rfl) (reached_ok (hur.mono q4) (by omega)) ?_
    rintro u5 h5 ⟨hle5, hr5⟩
    have w5 := w4.ext hle5
    have hr5 := hr5.mono (fresh_grow W4 h4 h5)
    have hW5 := View.le_trans hW4 (le_grow (h' := h5) w4.wle)
    generalize grow W4 h4 h5 = W5 at w5 hr5 hW5
    refine w5.do_push (k := (0, 0)) (α := List Bool) (d := reachedS f k) rfl El.ss_bool rfl (rd_list.2 hr5) (by simp; omega) (by simp; omega) (fun _ => by simp) (fun _ => by simp) fun u6 va6 h6 w6 _ => ?_
    exact hK2 va6 _ _ rfl rfl ⟨W5, hW5, w6.congr fun q => by
     rw [rows_succ]
     unfold Own.upd
     split <;> rfl⟩
   ·rintro va h4 ⟨W4, hW4, w4⟩
    simp
    rw [hz]; clear hz z
    refine lwp_hide fun z hz => ?_
    simp
    have q4 := View.le_trans hX7 (View.le_trans hW4 w4.wle)
    simp [huv q4]
    have hav : Av W4 va := w4.av (0, 0) _ rfl
    obtain ⟨w5, ha⟩ := w4.freeze (k := (0, 0)) (v := va) (l := rows (fun b : Nat => reachedS f b) f.blocks.length) rfl
    have hW5 : V1.le (W4.plus va h4) := View.le_trans hX7 (View.le_trans hW4 (le_plus hav))
    have w5 : Owns (W4.plus va h4) h4 o2 := w5.sub fun k i hk => by
     by_cases he : k = (0, 0)
     ·subst he; rw [hO2 _ (by decide)] at hk; cases hk
     ·rw [Own.upd_ne he, Own.upd_ne he]; exact hk
    generalize W4.plus va h4 = W5 at w5 ha hW5
    clear w4 hW4 hav
    refine call_to (by kernel_rfl) (refThings_ok (hur.mono hW5) w5.wle hsm) ?_
    rintro vt h6 ⟨hle6, ht⟩
    have w6 := w5.ext hle6
    have hW56 : W5.le (grow W5 h4 h6) := le_grow w5.wle
    have hW6 := View.le_trans hW5 hW56
    have ha := ha.mono hW56
    generalize grow W5 h4 h6 = W6 at w6 ht hW6 ha
    rw [hz]; clear hz z
    refine lwp_hide fun z hz => ?_
    simp
    refine call_to (by kernel_rfl) (refSites_ok ht w6.wle) ?_
    rintro vm h7 ⟨hle7, hm⟩
    have w7 := w6.ext hle7
    have hW67 : W6.le (grow W6 h6 h7) := le_grow w6.wle
    have hW7 := View.le_trans hW6 hW67
    have ha := ha.mono hW67
    have ht := ht.mono hW67
    generalize grow W6 h6 h7 = W7 at w7 ht hW7 ha hm
    clear hW56 hW67
    rw [hz]; clear hz z
    refine lwp_hide fun z hz => ?_
    simp
    have hst : refFuncS f = errOf (usesE f) := hst
    have hus : usesE f = upE (fun i _ => thStand f (madeS f) (awayS f) (nth (thingsS f) i)) (thingsS f).length () := rfl
    have hml : (madeS f).length = 8192 := sitesS_len
    have hal : (awayS f).length = f.blocks.length := rows_len
    have hq1 : ∀ i, i < 8192 → (nth (madeS f) i).blk < (awayS f).length := fun i hi => by
     rw [hal]; exact sites_blk (by omega) (fun t ht => (thing_ok hsm ht).blk.2) hi
    have hq2 : ∀ i, i < (awayS f).length → (nth (awayS f) i).length = f.blocks.length := fun i hi => by
     rw [nth_eq hi]; simp [awayS, rows, reachedS_len]
    have hth : ∀ t ∈ thingsS f, ThOk f t := fun t ht => thing_ok hsm ht
    have hph : ∀ t ∈ thingsS f, t.place < 0 → (-1 - t.place).toNat < (blkOf f t).phis.length := fun t => thing_phi
    have hpn : ∀ t ∈ thingsS f, t.place < 0 → (phiOf f t).ins.length ≤ 10000 := fun t => sm_phi hsm
    have ha : SlRd W7 va (awayS f) := ha
    have hm : SlRd W7 vm (madeS f) := hm
    have htl := ht.bound
    clear hway
    generalize madeS f = made at hus hml hq1 hm
    generalize awayS f = away at hus hal hq1 hq2 ha
    generalize thingsS f = ts at hus hth hph hpn ht htl
    refine lwp_for [1, 2, 7, 10, 11, 12] (fun (_ : Unit) i => [.pointer (some ⟨B, 0, none⟩), .pointer (some ⟨R, 0, none⟩), va, vt, vm, .int .i64 i])
     (fun _ i h8 => ∃ W, W7.le W ∧ Owns W h8 o2 ∧ upE (fun i _ => thStand f made away (nth ts i)) i () = .ok ()) ts.length ()
     rfl (by omega) rfl ⟨W7, View.le_refl _, w7, rfl⟩ (fun _ _ => rfl) (fun v k h8 hk ⟨W, q1, q2, _⟩ => by simp [(ht.mono (View.le_trans q1 q2.wle)).len]) ?_ ?_
    ·rintro _ i h8 hlti ⟨W8, hW8, w8, hup⟩ K2 hK2
     have hsx : upE (fun i _ => thStand f made away (nth ts i)) (i + 1) () = thStand f made away (nth ts i) := upE_succ hup
     have her : ∀ {e}, thStand f made away (nth ts i) = .error e → refFuncS f = e := fun e => by rw [hst, hus, upE_at hup hlti e]; rfl
     have ht8 := ht.mono hW8
     obtain ⟨ut, hut, hutr⟩ := ht8.wh rfl (N := 4) rfl hlti
     have ok := hth _ (nth_mem hlti)
     have hphi := hph _ (nth_mem hlti)
     have hpin := hpn _ (nth_mem hlti)
     generalize nth ts i = t at hsx her hutr ok hphi hpin
     refine lwp_hide fun y hy => ?_
     simp (disch := omega) [(ht8.mono w8.wle).idxn (N := 4) rfl, hut _ w8.wle]
     refine do_newX (X := W8) (z := .agg #[.int .i64 0, .int .i64 0, .slice none 0 0, .slice none 0 0]) (by kernel_rfl) rfl (by kernel_rfl) hutr (fun _ => by simp) (fun _ => by simp) fun h9 hle9 hs9 hat9 => ?_
     have w9 := w8.ext hle9
     obtain ⟨tb, tp, _, vk, tk⟩ := at_thB (hat9 (grow W8 h8 h9) (le_grow w8.wle) (grow_new (Nat.le_refl _)))
     have hW9 := View.le_trans hW8 (le_grow (h' := h9) w8.wle)
     generalize grow W8 h8 h9 = W9 at w9 tb tp tk hW9
     generalize h8.size = D at tb tp tk
     rw [hy]; clear hy y
     refine lwp_hide fun y hy => ?_
     have hb := ok.blk
     have cb9 := cb.2.mono (View.le_trans hW7 hW9)
     have cc9 := cellH_mono (View.le_trans hW7 hW9) cb.1
     obtain ⟨ux, hux, huxr⟩ := cb9.wh rfl (N := 6) rfl (i := t.blk.toNat) (by omega)
     simp (disch := omega) [cellH_mono w9.wle cc9, (cb9.mono w9.wle).idxn (N := 6) rfl, cellH_mono w9.wle tb, hux _ w9.wle]
     refine do_newX (X := W9) (z := .agg #[.slice none 0 0, .slice none 0 0, .int .i64 0, .slice none 0 0, .slice none 0 0, .int .i32 0]) (by kernel_rfl) rfl (by kernel_rfl) huxr (fun _ => by simp) (fun _ => by simp) fun h10 hle10 hs10 hat10 => ?_
     have w10 := w9.ext hle10
     obtain ⟨vp, vi, va', vto, bp, bi, bk, ba, bt⟩ := at_blkB (hat10 (grow W9 h9 h10) (le_grow w9.wle) (grow_new (Nat.le_refl _)))
     have hW910 := le_grow (h' := h10) w9.wle
     have hW10 := View.le_trans hW9 hW910
     have tb10 := cellH_mono hW910 tb
     have tp10 := cellH_mono hW910 tp
     have tk10 := cellH_mono hW910 tk.1
     have tkr := tk.2.mono hW910
     have hxeq : blkOf f t = nth f.blocks t.blk.toNat := rfl
     generalize grow W9 h9 h10 = W10 at w10 bp bi bk ba bt hW10 tb10 tp10 tk10 tkr
     generalize h9.size = D10 at bp bi bk ba bt
     clear hat10 hat9 hW910 tk cb9 cc9 hux huxr hut hutr ht8 bi bk ba bt w8 w9 tb tp hle9 hle10 hs9 hs10
     have hV10 := View.le_trans hW7 hW10
     have hpl := ok.place
     rw [hy]; clear hy y
     refine lwp_hide fun y hy => ?_
     simp [cellH_mono w10.wle tp10]
     refine ⟨fun c5 => ?_, fun c5 => ?_⟩
     ·have e1 : thStand f made away t = if t.tks.any (stT f made away t) then .error (13, t.blk, t.place) else .ok () := by rw [thStand, if_pos c5]
      have tkb := tkr.bound
      refine lwp_for [1, 2, 7, 10, 11, 12, 13, 15] (fun (_ : Unit) j => [.pointer (some ⟨B, 0, none⟩), .pointer (some ⟨R, 0, none⟩), va, vt, vm, .int .i64 i, .pointer (some ⟨D, 0, none⟩), .int .i64 j])
       (fun _ j h11 => ∃ W, W10.le W ∧ Owns W h11 o2 ∧ ∀ q, q < j → stT f made away t (nth t.tks q) = false) t.tks.length ()
       rfl (by omega) rfl ⟨W10, View.le_refl _, w10, fun q hq => by omega⟩ (fun _ _ => rfl) (fun v k h11 hk ⟨W, q1, q2, _⟩ => by simp [cellH_mono (View.le_trans q1 q2.wle) tk10, (tkr.mono (View.le_trans q1 q2.wle)).len]) ?_ ?_
      ·rintro _ j h11 hltj ⟨W11, hW11, w11, hpre⟩ K3 hK3
       have g11 := View.le_trans hW11 w11.wle
       have tkr11 := tkr.mono g11
       have hx1 : W7.le (vw h11) := View.le_trans hW10 g11
       refine lwp_hide fun q hq => ?_
       refine drawn_at (vw h11) (View.le_refl _) ?_
       simp (disch := omega) [huv (View.le_trans hW7 hx1), cellH_mono g11 tb10, cellH_mono g11 tp10, cellH_mono g11 tk10, tkr11.idx1 rfl, tkr11.int (View.le_refl _)]
       refine step_call _ (by kernel_rfl) (by simp) (refStands_ok (x := nth t.tks j) (blk := t.blk) (place := t.place) (hur.mono (View.le_trans hW7 hx1)) (hm.mono hx1) (ha.mono hx1) (View.le_refl _) hml hq1 (fun i hi => by rw [hq2 i hi]; omega) (by omega)) ?_
       rintro _ h12 ⟨rfl, hle12⟩
       have w12 := w11.ext' hle12
       simp
       rw [hq]; clear hq q
       have hbe : (!standsS f made away (nth t.tks j) t.blk t.place) = stT f made away t (nth t.tks j) := rfl
       rw [hbe]
       cases hbad : stT f made away t (nth t.tks j) with
       | true =>
        refine lwp_cond_t (by simp) ?_
        simp [cellH_mono (View.le_trans g11 hle12) tb10, cellH_mono (View.le_trans g11 hle12) tp10]
        refine do_got (t := (13, t.blk, t.place)) rfl rfl rfl ?_
        refine ret (t := (13, t.blk, t.place)) ⟨by show _ ≤ (13 : Int); omega, by show (13 : Int) ≤ _; omega⟩ ⟨by show _ ≤ t.blk; omega, by show t.blk ≤ _; omega⟩ ⟨by show _ ≤ t.place; omega, by show t.place ≤ _; omega⟩ w12 hR2 (View.le_trans hV10 hW11) (her (by rw [e1, if_pos]; rw [List.any_eq_true]; exact ⟨_, nth_mem hltj, hbad⟩)) rfl rfl fun _ h9 hl9 hK9 => ?_
        simp [hl9]
        exact hK9
       | false =>
        refine lwp_cond_f (by simp) ?_
        simp
        refine hK3 () _ _ rfl rfl ⟨W11, hW11, w12, fun q hq => ?_⟩
        rcases Nat.lt_or_ge q j with h | h
        ·exact hpre q h
        ·have : q = j := by omega
         subst this; exact hbad
      ·rintro _ h11 ⟨W11, hW11, w11, hpre⟩
       simp
       refine hK2 () _ _ rfl rfl ⟨W11, View.le_trans hW10 hW11, w11, ?_⟩
       rw [hsx, e1, if_neg]
       intro e
       obtain ⟨n, hn, hb⟩ := List.any_eq_true.1 e
       obtain ⟨j, hj, rfl⟩ := List.getElem_of_mem hn
       rw [← nth_eq hj, hpre j hj] at hb; cases hb
     ·have hphi := hphi (by omega)
      have hpin := hpin (by omega)
      have e1 : thStand f made away t = if !sameS f t then .error (16, t.blk, t.place) else if (phiOf f t).ins.any (stP f made away) then .error (13, t.blk, t.place) else .ok () := by rw [thStand, if_neg (by omega)]
      rw [hy]; clear hy y
      refine lwp_hide fun y hy => ?_
      have hpe : phiOf f t = nth (nth f.blocks t.blk.toNat).phis (-1 - t.place).toNat := rfl
      rw [hxeq] at hphi
      obtain ⟨vq, hvq⟩ := ((bp.2.at hphi).part PhiD.p_ins).sl
      rw [← nth_eq hphi, ← hpe] at hvq
      have hvq1 : cellH W10 (((slA vp).add ((-1 - t.place).toNat * 2)).add 1) = some vq := hvq.1
      have hvq2 := hvq.2
      clear hvq
      simp (disch := omega) [cellH_mono w10.wle bp.1, (bp.2.mono w10.wle).idxn (N := 2) rfl, cellH_mono w10.wle tp10, cellH_mono w10.wle hvq1]
      rw [hy]; clear hy y
      refine lwp_hide fun y hy => ?_
      simp [huv (View.le_trans hV10 w10.wle), cellH_mono w10.wle tb10]
      refine call_to (by kernel_rfl) (refPreds_ok (hur.mono (View.le_trans hV10 w10.wle)) (by omega)) ?_
      rintro vs h11 ⟨hle11, hs11⟩
      have w11 := w10.ext hle11
      have hs11 := hs11.mono (fresh_grow W10 h10 h11)
      have hW101 := le_grow (h' := h11) w10.wle
      have hvq1 := cellH_mono hW101 hvq1
      have hvq2 := hvq2.mono hW101
      have bp1 := cellH_mono hW101 bp.1
      have bp2 := bp.2.mono hW101
      have tb11 := cellH_mono hW101 tb10
      have tp11 := cellH_mono hW101 tp10
      have hW11 := View.le_trans hW10 hW101
      generalize grow W10 h10 h11 = W11 at w11 hs11 hvq1 hvq2 bp1 bp2 tb11 tp11 hW11
      clear hW101 bp tb10 tp10 tk10 tkr w10
      have hV11 := View.le_trans hW7 hW11
      have hsm1 : sameS f t = (decide (0 < t.blk) && decide ((phiOf f t).ins.map InD.frm = refPredsS f t.blk)) := rfl
      have hrp : ∀ p ∈ refPredsS f t.blk, 0 ≤ p ∧ p < f.blocks.length := fun p hp => by
       obtain ⟨b, h1, _, rfl⟩ := mem_sift.1 hp
       omega
      generalize hPS : phiOf f t = ph at hsm1 hvq2 e1 hpin hpe
      generalize hQS : refPredsS f t.blk = qs at hsm1 hs11 hrp
      have hqb := hs11.bound
      rw [hy]; clear hy y
      refine lwp_hide fun y hy => ?_
      simp [cellH_mono w11.wle tb11, (hvq2.mono w11.wle).len, (hs11.mono w11.wle).len]
      rw [hy]; clear hy y
      refine lwp_hide fun y hy => ?_
      have hs0 : (decide (0 < t.blk) && decide ((ph.ins.length : Int) = (qs.length : Int))) = false → sameS f t = false := fun e => by
       rw [hsm1, Bool.eq_false_iff]
       intro e2
       simp only [Bool.and_eq_true, decide_eq_true_eq] at e2
       rw [Bool.eq_false_iff] at e
       refine e ?_
       simp only [Bool.and_eq_true, decide_eq_true_eq]
       refine ⟨e2.1, ?_⟩
       rw [← e2.2, List.length_map]
      have hs1 : (decide (0 < t.blk) && decide ((ph.ins.length : Int) = (qs.length : Int))) = true → ph.ins.length = qs.length ∧ ((∀ j, j < qs.length → (nth ph.ins j).frm = nth qs j) → sameS f t = true) ∧ ∀ j, j < qs.length → (nth ph.ins j).frm ≠ nth qs j → sameS f t = false := fun e => by
       simp only [Bool.and_eq_true, decide_eq_true_eq] at e
       refine ⟨by omega, fun hj => ?_, fun j hj hne => ?_⟩
       ·rw [hsm1]
        simp only [Bool.and_eq_true, decide_eq_true_eq]
        refine ⟨e.1, List.ext_getElem (by simp; omega) fun i h1 h2 => ?_⟩
        have := hj i h2
        rw [nth_eq h2, nth_eq (by simpa using h1)] at this
        simpa using this
       ·rw [hsm1, Bool.eq_false_iff]
        intro e2
        simp only [Bool.and_eq_true, decide_eq_true_eq] at e2
        apply hne
        rw [← e2.2, nth_eq (l := List.map InD.frm ph.ins) (by rw [List.length_map]; omega), nth_eq (l := ph.ins) (by omega)]
        simp
      generalize (decide (0 < t.blk) && decide ((ph.ins.length : Int) = (qs.length : Int))) = s0 at hs0 hs1
      have k1 := hvq2.mono w11.wle
      have k2 := hs11.mono w11.wle
      refine lwp_cut (fun ρ h12 => h12 = h11 ∧ ∃ k : Nat, ρ = [(1, .pointer (some ⟨B, 0, none⟩)), (2, .pointer (some ⟨R, 0, none⟩)), (7, va), (10, vt), (11, vm), (12, .int .i64 i), (13, .pointer (some ⟨D, 0, none⟩)), (16, vq), (17, vs), (18, .bool (sameS f t)), (19, .int .i64 k)]) ?_ ?_
      ·intro K3 hK3
       simp
       have fin : ∀ (sm : Bool) (k : Nat), sm = sameS f t → K3 [(1, .pointer (some ⟨B, 0, none⟩)), (2, .pointer (some ⟨R, 0, none⟩)), (7, va), (10, vt), (11, vm), (12, .int .i64 i), (13, .pointer (some ⟨D, 0, none⟩)), (16, vq), (17, vs), (18, .bool sm), (19, .int .i64 k)] h11 := fun sm k e => hK3 _ _ ⟨rfl, k, by rw [e]⟩
       refine lwp_loop [1, 2, 7, 10, 11, 12, 13, 16, 17, 18, 19] (fun n ρ h12 => ∃ (sm : Bool) (k : Nat), k ≤ qs.length ∧ n = qs.length - k ∧ h12 = h11 ∧ ρ = [(1, .pointer (some ⟨B, 0, none⟩)), (2, .pointer (some ⟨R, 0, none⟩)), (7, va), (10, vt), (11, vm), (12, .int .i64 i), (13, .pointer (some ⟨D, 0, none⟩)), (16, vq), (17, vs), (18, .bool sm), (19, .int .i64 k)] ∧
        (sm = true → s0 = true ∧ ∀ j, j < k → (nth ph.ins j).frm = nth qs j) ∧ (sm = false → sameS f t = false)) qs.length ⟨s0, 0, by omega, by omega, rfl, by simp [keepE], fun e => ⟨e, fun j hj => by omega⟩, hs0⟩ ?_
       rintro n ρ h11 ⟨sm, k, hk, rfl, rfl, rfl, ht1, hf1⟩ K4 hK4
       cases hsm2 : sm with
       | false =>
        simp [L.ref03_Func.l6]
        exact fin _ _ (hf1 hsm2).symm
       | true =>
        obtain ⟨u1, u2⟩ := ht1 hsm2
        obtain ⟨u3, u4, u5⟩ := hs1 u1
        by_cases hlt : k < qs.length
        ·refine lwp_hide fun q hq => ?_
         simp [k2.len, hlt]
         rw [hq]; clear hq q
         refine lwp_hide fun q hq => ?_
         have a1 := k1.at (i := k) (by omega)
         rw [← nth_eq (by omega)] at a1
         have a2 : cellH (vw h11) (((slA vq).add (k * 2)).add 0) = some (.int .i64 (nth ph.ins k).frm) := (a1.part InD.p_frm).int
         simp (disch := omega) [k1.idxn (N := 2) rfl, a2, k2.idx1 rfl, k2.int (View.le_refl _)]
         rw [hq]; clear hq q
         simp (disch := omega)
         refine hK4 (qs.length - (k + 1)) _ _ (by omega) ⟨decide ((nth ph.ins k).frm = nth qs k), k + 1, by omega, rfl, rfl, by simp [keepE], fun e => ⟨u1, fun j hj => ?_⟩, fun e => u5 k hlt (by simpa using e)⟩
         rcases Nat.lt_or_ge j k with h | h
         ·exact u2 j h
         ·have : j = k := by omega
          subst this; simpa using e
        ·have hlt' : ¬ (k : Int) < qs.length := by omega
         simp [L.ref03_Func.l6, k2.len, hlt]
         exact fin _ _ (u4 fun j hj => u2 j (by omega)).symm
      ·rintro ρ h11 ⟨rfl, k, rfl⟩
       rw [hy]; clear hy y
       refine lwp_hide fun y hy => ?_
       cases hss : sameS f t with
       | false =>
        rw [hss, if_pos (by simp)] at e1
        simp [cellH_mono w11.wle tb11, cellH_mono w11.wle tp11]
        refine do_got (t := (16, t.blk, t.place)) rfl rfl rfl ?_
        refine ret (t := (16, t.blk, t.place)) ⟨by show _ ≤ (16 : Int); omega, by show (16 : Int) ≤ _; omega⟩ ⟨by show _ ≤ t.blk; omega, by show t.blk ≤ _; omega⟩ ⟨by show _ ≤ t.place; omega, by show t.place ≤ _; omega⟩ w11 hR2 hV11 (her e1) rfl rfl fun _ h9 hl9 hK9 => ?_
        simp [hl9]
        exact hK9
       | true =>
        rw [hss, if_neg (by simp)] at e1
        simp
        rw [hy]; clear hy y
        refine lwp_hide fun y hy => ?_
        simp
        have hfr : ∀ j, j < ph.ins.length → 0 ≤ (nth ph.ins j).frm ∧ (nth ph.ins j).frm < f.blocks.length := fun j hj => by
         rw [hss] at hsm1
         have hsm1 := hsm1.symm
         simp only [Bool.and_eq_true, decide_eq_true_eq] at hsm1
         refine hrp _ ?_
         rw [← hsm1.2]
         exact List.mem_map_of_mem (nth_mem hj)
        have k1 := hvq2
        rw [hy]; clear hy y
        simp
        refine lwp_for [1, 2, 7, 10, 11, 12, 13, 16, 20] (fun (_ : Unit) j => [.pointer (some ⟨B, 0, none⟩), .pointer (some ⟨R, 0, none⟩), va, vt, vm, .int .i64 i, .pointer (some ⟨D, 0, none⟩), vq, .int .i64 j])
         (fun _ j h12 => ∃ W, W11.le W ∧ Owns W h12 o2 ∧ ∀ q, q < j → stP f made away (nth ph.ins q) = false) ph.ins.length ()
         rfl (by omega) rfl ⟨W11, View.le_refl _, w11, fun q hq => by omega⟩ (fun _ _ => rfl) (fun v k h11 hk ⟨W, q1, q2, _⟩ => by simp [(hvq2.mono (View.le_trans q1 q2.wle)).len]) ?_ ?_
        ·rintro _ j h12 hltj ⟨W12, hW12, w12, hpre⟩ K3 hK3
         have g12 := View.le_trans hW12 w12.wle
         have k1 := hvq2.mono g12
         have hx1 : W7.le (vw h12) := View.le_trans hW11 g12
         obtain ⟨f1, f2⟩ := hfr j hltj
         have a1 := k1.at hltj
         rw [← nth_eq hltj] at a1
         have a2 : cellH (vw h12) (((slA vq).add (j * 2)).add 0) = some (.int .i64 (nth ph.ins j).frm) := (a1.part InD.p_frm).int
         have a3 : cellH (vw h12) (((slA vq).add (j * 2)).add 1) = some (.int .i64 (nth ph.ins j).val) := (a1.part InD.p_val).int
         have hbe : (!standsS f made away (nth ph.ins j).val (nth ph.ins j).frm (insLen f (nth ph.ins j).frm)) = stP f made away (nth ph.ins j) := rfl
         have hmem := nth_mem hltj
         generalize hp : nth ph.ins j = p at a2 a3 f1 f2 hbe hmem
         have hcb := cb.2.mono (View.le_trans hW7 hx1)
         have hat := hcb.at (i := p.frm.toNat) (by omega)
         rw [← nth_eq (by omega)] at hat
         obtain ⟨vi, hvi⟩ := (hat.part BlkD.p_ins).sl
         have hvi1 : cellH (vw h12) (((slA vb).add (p.frm.toNat * 6)).add 1) = some vi := hvi.1
         have hvi2 : ∀ {K : View}, Un.ev K .len vi = some (.int .i64 (insLen f p.frm)) := fun {K} => hvi.2.len
         refine lwp_hide fun q hq => ?_
         refine drawn_at (vw h12) (View.le_refl _) ?_
         simp (disch := omega) [huv (View.le_trans hW7 hx1), k1.idxn (N := 2) rfl, a2, a3, cbv (View.le_trans hW7 hx1), hcb.idxn (N := 6) rfl, hvi1, hvi2]
         refine step_call _ (by kernel_rfl) (by simp) (refStands_ok (x := p.val) (blk := p.frm) (place := insLen f p.frm) (hur.mono (View.le_trans hW7 hx1)) (hm.mono hx1) (ha.mono hx1) (View.le_refl _) hml hq1 (fun i hi => by rw [hq2 i hi]; omega) (by omega)) ?_
         rintro _ h13 ⟨rfl, hle13⟩
         have w13 := w12.ext' hle13
         simp
         rw [hq]; clear hq q
         rw [hbe]
         cases hbad : stP f made away p with
         | true =>
          refine lwp_cond_t (by simp) ?_
          simp [cellH_mono (View.le_trans g12 hle13) tb11, cellH_mono (View.le_trans g12 hle13) tp11]
          refine do_got (t := (13, t.blk, t.place)) rfl rfl rfl ?_
          refine ret (t := (13, t.blk, t.place)) ⟨by show _ ≤ (13 : Int); omega, by show (13 : Int) ≤ _; omega⟩ ⟨by show _ ≤ t.blk; omega, by show t.blk ≤ _; omega⟩ ⟨by show _ ≤ t.place; omega, by show t.place ≤ _; omega⟩ w13 hR2 (View.le_trans hV11 hW12) (her (by rw [e1, if_pos]; rw [List.any_eq_true]; exact ⟨_, hmem, hbad⟩)) rfl rfl fun _ h9 hl9 hK9 => ?_
          simp [hl9]
          exact hK9
         | false =>
          refine lwp_cond_f (by simp) ?_
          simp
          refine hK3 () _ _ rfl rfl ⟨W12, hW12, w13, fun q hq => ?_⟩
          rcases Nat.lt_or_ge q j with h | h
          ·exact hpre q h
          ·have : q = j := by omega
           subst this; rw [hp]; exact hbad
        ·rintro _ h12 ⟨W12, hW12, w12, hpre⟩
         simp
         refine hK2 () _ _ rfl rfl ⟨W12, View.le_trans hW11 hW12, w12, ?_⟩
         rw [hsx, e1, if_neg]
         intro e
         obtain ⟨n, hn, hb⟩ := List.any_eq_true.1 e
         obtain ⟨j, hj, rfl⟩ := List.getElem_of_mem hn
         rw [← nth_eq hj, hpre j hj] at hb; cases hb
    ·rintro _ h8 ⟨W8, hW8, w8, hup⟩
     simp
     rw [hz]; clear hz z
     simp
     refine do_got0 ?_
     refine ret i0 i0 i0 w8 hR2 (View.le_trans hW7 hW8) (by rw [hst, hus, hup]; rfl) rfl rfl fun _ h9 hl9 hK9 => ?_
     simp [hl9]
     exact hK9
end Go.Proofs.Ytfelpjfopgiabaa
namespace Go.Proofs.Ytfelpjfopgiabaa
open Go Go.Lft
theorem sl_push {α : Type} [Rep α] {cs : Array Value} {e B : Nat} {ds : List α} {H : View} (hH : H B = some (.cells cs e (0, 0))) (hb : ds.length ≤ 1000) (hel : ∀ i (hi : i < ds.length), Rep.rd H ((cs.toList.drop (i * Rep.n α)).take (Rep.n α)) ds[i]) :
  SlRd H (.slice (some ⟨B, 0, none⟩) ds.length ds.length) ds :=
 ⟨some ⟨B, 0, none⟩, ds.length, rfl, Nat.le_refl _, by omega, .inr ⟨_, rfl, rfl, fun i hi => by
  rw [addr_add_none rfl]
  refine ⟨_, ⟨cs, e, (0, 0), rfl, hH, ?_⟩, hel i hi⟩
  have := Rep.len (hel i hi)
  rw [this]; simp⟩⟩
def oneF (p : Int) (l : List InsD) (t : TermD) : FuncD := ⟨p, [⟨[], l, t⟩]⟩
theorem one_ok {p : Int} {l : List InsD} {t : TermD} {vi vt : Value} {h : Heap} (hp : I64 p) (hi : SlRd (vw h) vi l) (ht : Rd (vw h) vt t) :
  HCalls Try.prog N.law03_one #[.int .i64 p, vi, vt] h (fun u h' => (vw h).le (vw h') ∧ Rd (vw h') u (oneF p l t)) := by
 refine calls_lift (args := [.int .i64 p, vi, vt]) follows F.law03_one E.law03_one (Nat.le_of_ble_eq_true (by kernel_rfl)) fun K hK => ?_
 dsimp only [L.law03_one]
 refine lwp_hide fun z hz => ?_
 simp
 refine do_boxT rfl ht fun h1 _ hle1 hs1 hat => ?_
 obtain ⟨uT, huT, huTr⟩ := hat.loads rfl
 obtain ⟨va', vt', rfl, ta, tt⟩ := term_val huTr
 have tk := (hat.part TermD.p_kind).rng
 have ti : -2147483648 ≤ t.imm.v ∧ t.imm.v ≤ 2147483647 := by
  obtain ⟨cs, _, c1, r1, _, _, c2, r2, _, _, c3, r3, _, _, _, h6⟩ := hat
  exact h6
 have huT : Un.ev (vw h1) (.loads 4) (.pointer (some ⟨h.size, 0, none⟩)) = some (.agg #[.int .i64 t.kind, va', vt', .int .i32 t.imm.v]) := huT
 generalize h.size = B at huT
 refine (Owns.start (h := h1) (View.le_refl (vw h1))).do_zero (k := (5, 0)) (n := 1) (z := .agg #[.int .i64 0, .slice none 0 0]) rfl (by kernel_rfl) rfl (by decide) (by simp [Value.cells, Value.oneCell']) fun h2 q2 w2 => ?_
 generalize h1.size = R at w2
 have huT2 : Un.ev (vw h2) (.loads 4) (.pointer (some ⟨B, 0, none⟩)) = some (.agg #[.int .i64 t.kind, va', vt', .int .i32 t.imm.v]) := by
  have := ev_mono (ρ := fun _ => none) (e := .un (.loads 4) (.con (.pointer (some ⟨B, 0, none⟩)))) q2 (by simpa using huT)
  simpa using this
 rw [hz]; clear hz z
 simp [huT2]
 refine do_build (z := .agg #[.slice none 0 0, .slice none 0 0, .int .i64 0, .slice none 0 0, .slice none 0 0, .int .i32 0]) (places := [(0, 1), (1, 1), (2, 4)]) (vs := [(1, vi), (2, .agg #[.int .i64 t.kind, va', vt', .int .i32 t.imm.v])]) (cs := #[.slice none 0 0, vi, .int .i64 t.kind, va', vt', .int .i32 t.imm.v]) (by kernel_rfl) (by kernel_rfl) (by simp) (by simp [Instr.fill, hi.cells.1]) ?_
 have hblk : Rd (vw h1) (.agg #[.slice none 0 0, vi, .int .i64 t.kind, va', vt', .int .i32 t.imm.v]) (BlkD.mk [] l t) := rd_blkOf nil_sl (hi.mono hle1) ta tt tk ti
 refine do_lits (n := 1) (size := 6) (vs := [(0, .agg #[.slice none 0 0, vi, .int .i64 t.kind, va', vt', .int .i32 t.imm.v])]) (cs := #[.slice none 0 0, vi, .int .i64 t.kind, va', vt', .int .i32 t.imm.v]) El.s_api_Block (by decide) (by simp) (by simp [Instr.fill, Value.cells, Array.range_zero', Array.range_succ]) ?_
 have q3 := push_le h2 (.cells #[.slice none 0 0, vi, .int .i64 t.kind, va', vt', .int .i32 t.imm.v] T.api_Block)
 have b3 : (h2.push (.cells #[.slice none 0 0, vi, .int .i64 t.kind, va', vt', .int .i32 t.imm.v] T.api_Block))[h2.size]? = some (.cells #[.slice none 0 0, vi, .int .i64 t.kind, va', vt', .int .i32 t.imm.v] T.api_Block (0, 0)) := by simp
 generalize h2.push (.cells #[.slice none 0 0, vi, .int .i64 t.kind, va', vt', .int .i32 t.imm.v] T.api_Block) = h3 at q3 b3
 have w3 := w2.ext' q3
 have hsl : SlRd (grow (vw h1) h2 h3) (.slice (some ⟨h2.size, 0, none⟩) 1 1) [BlkD.mk [] l t] := sl_push (ds := [BlkD.mk [] l t]) (by rw [grow_new (Nat.le_refl _)]; exact b3) (by simp) fun i hi2 => by
  have : i = 0 := by simpa using hi2
  subst this
  exact (rd_cells (hblk.mono (le_grow w2.wle))).1
 have w3 := w2.ext q3
 have hle3 := le_grow (h' := h3) w2.wle
 generalize grow (vw h1) h2 h3 = W3 at w3 hsl hle3
 generalize Value.slice (some ⟨h2.size, 0, none⟩) 1 1 = vs at hsl
 refine do_build (z := .agg #[.int .i64 0, .slice none 0 0]) (places := [(0, 1), (1, 1)]) (vs := [(0, .int .i64 p), (1, vs)]) (cs := #[.int .i64 p, vs]) (by kernel_rfl) (by kernel_rfl) (by simp) (by simp [Instr.fill, hsl.cells.1]) ?_
 refine w3.do_field (k := (5, 0)) (e := T.api_Func) (B := R) (D := RawN.mk (n := 1) [.int .i64 0, .slice none 0 0]) Part.all (d := RawN.mk (n := 1) [.int .i64 p, vs]) Own.upd_self (by kernel_rfl) rfl rfl (rd_rawN rfl (by intro c hc; simp only [List.mem_cons, List.not_mem_nil, or_false] at hc; rcases hc with rfl | rfl <;> first | rfl | exact hsl.cells.2)) fun h5 w5 _ => ?_
 have c2 := w5.rawAll (k := (5, 0)) (e := T.api_Func) (B := R) (l := [.int .i64 p, vs]) (n := 1) Own.upd_self
 simp [c2]
 exact hK _ _ ⟨View.le_trans hle1 (View.le_trans hle3 w5.wle), _, rfl, [.int .i64 p], [vs], rfl, ⟨rfl, hp⟩, vs, rfl, hsl.mono w5.wle⟩
theorem same_ok {f : FuncD} {v : Value} {h : Heap} (hv : Rd (vw h) v f) (hsm : SmF f) (he : toldS f = refFuncS f) :
  HCalls Try.prog N.law03_same #[v] h (fun u h' => u = .bool true ∧ (vw h).le (vw h')) := by
 refine calls_lift (args := [v]) follows F.law03_same E.law03_same (Nat.le_of_ble_eq_true (by kernel_rfl)) fun K hK => ?_
 dsimp only [L.law03_same]
 refine lwp_hide fun z hz => ?_
 simp
 refine do_boxT rfl hv fun h1 _ hle1 hs1 hat => ?_
 obtain ⟨u, hu, hur⟩ := hat.loads rfl
 have hu : Un.ev (vw h1) (.loads 2) (.pointer (some ⟨h.size, 0, none⟩)) = some u := hu
 generalize h.size = B at hu
 have huv : ∀ {h' : Heap}, (vw h1).le (vw h') → Un.ev (vw h') (.loads 2) (.pointer (some ⟨B, 0, none⟩)) = some u := fun q => by
  have := ev_mono (ρ := fun _ => none) (e := .un (.loads 2) (.con (.pointer (some ⟨B, 0, none⟩)))) q (v := u) (by simpa using hu)
  simpa using this
 rw [hz]; clear hz z
 refine lwp_hide fun z hz => ?_
 simp [hu]
 refine call_to (by kernel_rfl) (func_ok hur hsm) ?_
 rintro _ h2 ⟨rfl, hle2⟩
 simp
 rw [hz]; clear hz z
 refine lwp_hide fun z hz => ?_
 simp [huv hle2]
 refine call_to (by kernel_rfl) (refFunc_ok (hur.mono hle2) hsm) ?_
 rintro _ h3 ⟨rfl, hle3⟩
 rw [← he]
 generalize ht : toldS f = t
 refine (Owns.start (h := h3) (View.le_refl (vw h3))).do_var (k := (0, 0)) (n := 2) (l := [.int .i64 t.1, .int .i64 t.2.1, .int .i64 t.2.2]) rfl (z := .agg #[.int .i64 0, .int .i64 0, .int .i64 0]) (by kernel_rfl) rfl (by kernel_rfl) rfl (by decide) (by simp [Value.oneCell']) (fun _ => by simp) (fun _ => by simp [gotV]) fun h4 hle4 w4 => ?_
 have c0 := w4.raw (k := (0, 0)) (i := 0) Own.upd_self (by decide)
 have c1 := w4.raw (k := (0, 0)) (i := 1) Own.upd_self (by decide)
 have c2 := w4.raw (k := (0, 0)) (i := 2) Own.upd_self (by decide)
 generalize h3.size = D at c0 c1 c2
 rw [hz]; clear hz z
 refine lwp_hide fun z hz => ?_
 have h14 := View.le_trans hle2 (View.le_trans hle3 hle4)
 refine drawn_at (vw h4) (View.le_refl _) ?_
 simp [c0, c1, c2, huv h14]
 refine call_to (by kernel_rfl) (right_ok (hur.mono h14) hsm) ?_
 rintro _ h5 ⟨rfl, hle5⟩
 refine ⟨hle5, ?_⟩
 rw [ht]
 simp
 rw [hz]; clear hz z
 simp
 exact hK _ _ ⟨rfl, View.le_trans hle1 (View.le_trans h14 hle5)⟩
end Go.Proofs.Ytfelpjfopgiabaa
namespace Go.Proofs.Ytfelpjfopgiabaa
open Go Go.Lft
def sh1 : FuncD := oneF 0 [⟨1, 0, 0, [], ⟨1⟩⟩] ⟨4, [0], [], ⟨0⟩⟩
def sh2 : FuncD := oneF 0 [] ⟨4, [0], [], ⟨0⟩⟩
def sh3 : FuncD := oneF 1 [⟨2, 1, 0, [0, 2], ⟨0⟩⟩, ⟨1, 2, 0, [], ⟨0⟩⟩] ⟨5, [], [], ⟨0⟩⟩
def sh4 : FuncD := oneF 1 [⟨1, 1, 0, [], ⟨0⟩⟩, ⟨2, 2, 0, [0, 1], ⟨0⟩⟩] ⟨4, [2], [], ⟨0⟩⟩
theorem told1 : toldS sh1 = (0, 0, 0) := by kernel_rfl
theorem told2 : toldS sh2 = (13, 0, 0) := by kernel_rfl
theorem told3 : toldS sh3 = (13, 0, 0) := by kernel_rfl
theorem told4 : toldS sh4 = (0, 0, 0) := by kernel_rfl
theorem told5 : toldS ⟨0, []⟩ = (14, 0, 0) := by kernel_rfl
theorem top4 : topS sh4 = 3 := by kernel_rfl
theorem used4 : usedS sh4 = [1, 1, 1] := by kernel_rfl
theorem fold41 : foldableS sh4 1 = true := by kernel_rfl
theorem fold42 : foldableS sh4 2 = true := by kernel_rfl
theorem fold40 : foldableS sh4 0 = false := by kernel_rfl
theorem sm_one {p : Int} {l : List InsD} {t : TermD} (h1 : l.length ≤ 10000) (h2 : t.args.length ≤ 10000) (h3 : t.to.length ≤ 10000) (h4 : ∀ x ∈ l, x.args.length ≤ 10000) : SmF (oneF p l t) where
 len := by simp [oneF]
 blk := fun i hi => by
  have : i = 0 := by simpa [oneF] using hi
  subst this
  exact ⟨by simp [oneF, nth], by simpa [oneF, nth] using h1, by simpa [oneF, nth] using h2, by simpa [oneF, nth] using h3, fun i hi => by simp [oneF, nth] at hi, fun i hi => h4 _ (nth_mem hi)⟩
end Go.Proofs.Ytfelpjfopgiabaa
namespace Go.Proofs.Ytfelpjfopgiabaa
open Go Go.Lft
theorem rd_term {H : View} {va vt : Value} {a t : List Int} {kd : Int} {imm : I32} (h3 : SlRd H va a) (h4 : SlRd H vt t) (h5 : I64 kd) (h6 : -2147483648 ≤ imm.v ∧ imm.v ≤ 2147483647) : Rd H (.agg #[.int .i64 kd, va, vt, .int .i32 imm.v]) (TermD.mk kd a t imm) :=
 ⟨_, rfl, [.int .i64 kd], _, rfl, ⟨rfl, h5⟩, [va], _, rfl, ⟨va, rfl, h3⟩, [vt], _, rfl, ⟨vt, rfl, h4⟩, rfl, h6⟩
theorem shown_ok {h : Heap} : HCalls Try.prog N.law03_shown #[] h (fun u h' => u = .bool true ∧ (vw h).le (vw h')) := by
 refine calls_lift (args := []) follows F.law03_shown E.law03_shown (Nat.le_of_ble_eq_true (by kernel_rfl)) fun K hK => ?_
 dsimp only [L.law03_shown]
 refine lwp_hide fun z hz => ?_
 simp
 rw [hz]; clear hz z
 refine lwp_hide fun z hz => ?_
 simp
 refine do_build (z := .agg #[.int .i64 0, .int .i64 0, .int .i64 0, .slice none 0 0, .int .i32 0]) (places := [(0, 1), (1, 1), (2, 1), (3, 1), (4, 1)]) (vs := [(0, .int .i64 1), (4, .int .i32 1)]) (cs := #[.int .i64 1, .int .i64 0, .int .i64 0, .slice none 0 0, .int .i32 1]) (by kernel_rfl) (by kernel_rfl) (by simp) (by rfl) ?_
 refine do_lits (n := 1) (size := 5) (vs := [(0, .agg #[.int .i64 1, .int .i64 0, .int .i64 0, .slice none 0 0, .int .i32 1])]) (cs := #[.int .i64 1, .int .i64 0, .int .i64 0, .slice none 0 0, .int .i32 1]) El.s_api_Ins (by decide) (by simp) (by simp [Instr.fill, Value.cells, Array.range_zero', Array.range_succ]) ?_
 have q1 := push_le h (.cells #[.int .i64 1, .int .i64 0, .int .i64 0, .slice none 0 0, .int .i32 1] T.api_Ins)
 have b1 : (h.push (.cells #[.int .i64 1, .int .i64 0, .int .i64 0, .slice none 0 0, .int .i32 1] T.api_Ins))[h.size]? = some (.cells #[.int .i64 1, .int .i64 0, .int .i64 0, .slice none 0 0, .int .i32 1] T.api_Ins (0, 0)) := by simp
 generalize h.push (.cells #[.int .i64 1, .int .i64 0, .int .i64 0, .slice none 0 0, .int .i32 1] T.api_Ins) = h1 at q1 b1
 have s1 : SlRd (vw h1) (.slice (some ⟨h.size, 0, none⟩) 1 1) [InsD.mk 1 0 0 [] ⟨1⟩] := sl_push (ds := [InsD.mk 1 0 0 [] ⟨1⟩]) b1 (by simp) fun i hi2 => by
  have : i = 0 := by simpa using hi2
  subst this
  exact (rd_cells (rd_insOf (H := vw h1) (imm := ⟨1⟩) ⟨⟨by decide, by decide⟩, ⟨by decide, by decide⟩, ⟨by decide, by decide⟩, by decide, by decide⟩ nil_sl)).1
 generalize Value.slice (some ⟨h.size, 0, none⟩) 1 1 = v1 at s1
 refine do_litN (α := Int) (X := nothing) (ds := [0]) (vs := [.int .i64 0]) rfl El.s_int (by simp) ⟨rd_i (by decide) (by decide), trivial⟩ nothing_le rfl (by omega) fun v2 h2 q2 _ s2 _ => ?_
 have s2 := s2 (vw h2) nothing_le rfl
 refine do_build (z := .agg #[.int .i64 0, .slice none 0 0, .slice none 0 0, .int .i32 0]) (places := [(0, 1), (1, 1), (2, 1), (3, 1)]) (vs := [(0, .int .i64 4), (1, v2)]) (cs := #[.int .i64 4, v2, .slice none 0 0, .int .i32 0]) (by kernel_rfl) (by kernel_rfl) (by simp) (by simp [Instr.fill, s2.cells.1]) ?_
 refine call_to (by kernel_rfl) (one_ok (p := 0) (l := [⟨1, 0, 0, [], ⟨1⟩⟩]) (t := ⟨4, [0], [], ⟨0⟩⟩) ⟨by decide, by decide⟩ (s1.mono q2) (rd_term s2 nil_sl ⟨by decide, by decide⟩ ⟨by decide, by decide⟩)) ?_
 rintro v3 h3 ⟨q3, r3⟩
 refine call_to (by kernel_rfl) (func_ok r3 (sm_one (by decide) (by decide) (by decide) (by decide))) ?_
 rintro _ h4 ⟨rfl, q4⟩
 rw [show toldS (oneF 0 [⟨1, 0, 0, [], ⟨1⟩⟩] ⟨4, [0], [], ⟨0⟩⟩) = (0, 0, 0) from told1]
 have k4 : (vw h).le (vw h4) := View.le_trans q1 (View.le_trans q2 (View.le_trans q3 q4))
 clear s1 s2 r3 q1 q2 q3 q4 b1
 simp
 rw [hz]; clear hz z
 refine lwp_hide fun z hz => ?_
 simp
 refine do_litN (α := Int) (X := nothing) (ds := [0]) (vs := [.int .i64 0]) rfl El.s_int (by simp) ⟨rd_i (by decide) (by decide), trivial⟩ nothing_le rfl (by omega) fun v2 h5 q5 _ s2 _ => ?_
 have s2 := s2 (vw h5) nothing_le rfl
 refine do_build (z := .agg #[.int .i64 0, .slice none 0 0, .slice none 0 0, .int .i32 0]) (places := [(0, 1), (1, 1), (2, 1), (3, 1)]) (vs := [(0, .int .i64 4), (1, v2)]) (cs := #[.int .i64 4, v2, .slice none 0 0, .int .i32 0]) (by kernel_rfl) (by kernel_rfl) (by simp) (by simp [Instr.fill, s2.cells.1]) ?_
 refine call_to (by kernel_rfl) (one_ok (p := 0) (l := []) (t := ⟨4, [0], [], ⟨0⟩⟩) ⟨by decide, by decide⟩ nil_sl (rd_term s2 nil_sl ⟨by decide, by decide⟩ ⟨by decide, by decide⟩)) ?_
 rintro v3 h6 ⟨q6, r3⟩
 refine call_to (by kernel_rfl) (func_ok r3 (sm_one (by decide) (by decide) (by decide) (by decide))) ?_
 rintro _ h7 ⟨rfl, q7⟩
 rw [show toldS (oneF 0 [] ⟨4, [0], [], ⟨0⟩⟩) = (13, 0, 0) from told2]
 have k7 : (vw h).le (vw h7) := View.le_trans k4 (View.le_trans q5 (View.le_trans q6 q7))
 clear s2 r3 q5 q6 q7 k4
 simp
 rw [hz]; clear hz z
 refine lwp_hide fun z hz => ?_
 simp
 refine do_litN (α := Int) (X := nothing) (ds := [0, 2]) (vs := [.int .i64 0, .int .i64 2]) rfl El.s_int (by simp) ⟨rd_i (by decide) (by decide), rd_i (by decide) (by decide), trivial⟩ nothing_le rfl (by omega) fun v2 h8 q8 _ s2 _ => ?_
 have s2 := s2 (vw h8) nothing_le rfl
 refine do_build (z := .agg #[.int .i64 0, .int .i64 0, .int .i64 0, .slice none 0 0, .int .i32 0]) (places := [(0, 1), (1, 1), (2, 1), (3, 1), (4, 1)]) (vs := [(0, .int .i64 2), (1, .int .i64 1), (3, v2)]) (cs := #[.int .i64 2, .int .i64 1, .int .i64 0, v2, .int .i32 0]) (by kernel_rfl) (by kernel_rfl) (by simp) (by simp [Instr.fill, s2.cells.1]) ?_
 refine do_build (z := .agg #[.int .i64 0, .int .i64 0, .int .i64 0, .slice none 0 0, .int .i32 0]) (places := [(0, 1), (1, 1), (2, 1), (3, 1), (4, 1)]) (vs := [(0, .int .i64 1), (1, .int .i64 2)]) (cs := #[.int .i64 1, .int .i64 2, .int .i64 0, .slice none 0 0, .int .i32 0]) (by kernel_rfl) (by kernel_rfl) (by simp) (by rfl) ?_
 refine do_lits (n := 2) (size := 5) (vs := [(0, .agg #[.int .i64 2, .int .i64 1, .int .i64 0, v2, .int .i32 0]), (1, .agg #[.int .i64 1, .int .i64 2, .int .i64 0, .slice none 0 0, .int .i32 0])]) (cs := #[.int .i64 2, .int .i64 1, .int .i64 0, v2, .int .i32 0, .int .i64 1, .int .i64 2, .int .i64 0, .slice none 0 0, .int .i32 0]) El.s_api_Ins (by decide) (by simp) (by simp [Instr.fill, Value.cells, Array.range_zero', Array.range_succ]) ?_
 have q9 := push_le h8 (.cells #[.int .i64 2, .int .i64 1, .int .i64 0, v2, .int .i32 0, .int .i64 1, .int .i64 2, .int .i64 0, .slice none 0 0, .int .i32 0] T.api_Ins)
 have b9 : (h8.push (.cells #[.int .i64 2, .int .i64 1, .int .i64 0, v2, .int .i32 0, .int .i64 1, .int .i64 2, .int .i64 0, .slice none 0 0, .int .i32 0] T.api_Ins))[h8.size]? = some (.cells #[.int .i64 2, .int .i64 1, .int .i64 0, v2, .int .i32 0, .int .i64 1, .int .i64 2, .int .i64 0, .slice none 0 0, .int .i32 0] T.api_Ins (0, 0)) := by simp
 generalize h8.push (.cells #[.int .i64 2, .int .i64 1, .int .i64 0, v2, .int .i32 0, .int .i64 1, .int .i64 2, .int .i64 0, .slice none 0 0, .int .i32 0] T.api_Ins) = h9 at q9 b9
 have s9 : SlRd (vw h9) (.slice (some ⟨h8.size, 0, none⟩) 2 2) [InsD.mk 2 1 0 [0, 2] ⟨0⟩, InsD.mk 1 2 0 [] ⟨0⟩] := sl_push (ds := [InsD.mk 2 1 0 [0, 2] ⟨0⟩, InsD.mk 1 2 0 [] ⟨0⟩]) b9 (by simp) fun i hi2 => by
  have : i = 0 ∨ i = 1 := by simp at hi2; omega
  rcases this with rfl | rfl
  ·exact (rd_cells (rd_insOf (H := vw h9) (imm := ⟨0⟩) ⟨⟨by decide, by decide⟩, ⟨by decide, by decide⟩, ⟨by decide, by decide⟩, by decide, by decide⟩ (s2.mono q9))).1
  ·exact (rd_cells (rd_insOf (H := vw h9) (imm := ⟨0⟩) ⟨⟨by decide, by decide⟩, ⟨by decide, by decide⟩, ⟨by decide, by decide⟩, by decide, by decide⟩ nil_sl)).1
 generalize Value.slice (some ⟨h8.size, 0, none⟩) 2 2 = v4 at s9
 refine do_build (z := .agg #[.int .i64 0, .slice none 0 0, .slice none 0 0, .int .i32 0]) (places := [(0, 1), (1, 1), (2, 1), (3, 1)]) (vs := [(0, .int .i64 5)]) (cs := #[.int .i64 5, .slice none 0 0, .slice none 0 0, .int .i32 0]) (by kernel_rfl) (by kernel_rfl) (by simp) (by rfl) ?_
 refine call_to (by kernel_rfl) (one_ok (p := 1) (l := [⟨2, 1, 0, [0, 2], ⟨0⟩⟩, ⟨1, 2, 0, [], ⟨0⟩⟩]) (t := ⟨5, [], [], ⟨0⟩⟩) ⟨by decide, by decide⟩ s9 (rd_term nil_sl nil_sl ⟨by decide, by decide⟩ ⟨by decide, by decide⟩)) ?_
 rintro v3 h10 ⟨q10, r3⟩
 refine call_to (by kernel_rfl) (func_ok r3 (sm_one (by decide) (by decide) (by decide) (by decide))) ?_
 rintro _ h11 ⟨rfl, q11⟩
 rw [show toldS (oneF 1 [⟨2, 1, 0, [0, 2], ⟨0⟩⟩, ⟨1, 2, 0, [], ⟨0⟩⟩] ⟨5, [], [], ⟨0⟩⟩) = (13, 0, 0) from told3]
 have k11 : (vw h).le (vw h11) := View.le_trans k7 (View.le_trans q8 (View.le_trans q9 (View.le_trans q10 q11)))
 clear s2 r3 s9 b9 q8 q9 q10 q11 k7
 simp
 rw [hz]; clear hz z
 refine lwp_hide fun z hz => ?_
 simp
 refine do_build (z := .agg #[.int .i64 0, .int .i64 0, .int .i64 0, .slice none 0 0, .int .i32 0]) (places := [(0, 1), (1, 1), (2, 1), (3, 1), (4, 1)]) (vs := [(0, .int .i64 1), (1, .int .i64 1)]) (cs := #[.int .i64 1, .int .i64 1, .int .i64 0, .slice none 0 0, .int .i32 0]) (by kernel_rfl) (by kernel_rfl) (by simp) (by rfl) ?_
 refine do_litN (α := Int) (X := nothing) (ds := [0, 1]) (vs := [.int .i64 0, .int .i64 1]) rfl El.s_int (by simp) ⟨rd_i (by decide) (by decide), rd_i (by decide) (by decide), trivial⟩ nothing_le rfl (by omega) fun v2 h8 q8 _ s2 _ => ?_
 have s2 := s2 (vw h8) nothing_le rfl
 refine do_build (z := .agg #[.int .i64 0, .int .i64 0, .int .i64 0, .slice none 0 0, .int .i32 0]) (places := [(0, 1), (1, 1), (2, 1), (3, 1), (4, 1)]) (vs := [(0, .int .i64 2), (1, .int .i64 2), (3, v2)]) (cs := #[.int .i64 2, .int .i64 2, .int .i64 0, v2, .int .i32 0]) (by kernel_rfl) (by kernel_rfl) (by simp) (by simp [Instr.fill, s2.cells.1]) ?_
 refine do_lits (n := 2) (size := 5) (vs := [(0, .agg #[.int .i64 1, .int .i64 1, .int .i64 0, .slice none 0 0, .int .i32 0]), (1, .agg #[.int .i64 2, .int .i64 2, .int .i64 0, v2, .int .i32 0])]) (cs := #[.int .i64 1, .int .i64 1, .int .i64 0, .slice none 0 0, .int .i32 0, .int .i64 2, .int .i64 2, .int .i64 0, v2, .int .i32 0]) El.s_api_Ins (by decide) (by simp) (by simp [Instr.fill, Value.cells, Array.range_zero', Array.range_succ]) ?_
 have q9 := push_le h8 (.cells #[.int .i64 1, .int .i64 1, .int .i64 0, .slice none 0 0, .int .i32 0, .int .i64 2, .int .i64 2, .int .i64 0, v2, .int .i32 0] T.api_Ins)
 have b9 : (h8.push (.cells #[.int .i64 1, .int .i64 1, .int .i64 0, .slice none 0 0, .int .i32 0, .int .i64 2, .int .i64 2, .int .i64 0, v2, .int .i32 0] T.api_Ins))[h8.size]? = some (.cells #[.int .i64 1, .int .i64 1, .int .i64 0, .slice none 0 0, .int .i32 0, .int .i64 2, .int .i64 2, .int .i64 0, v2, .int .i32 0] T.api_Ins (0, 0)) := by simp
 generalize h8.push (.cells #[.int .i64 1, .int .i64 1, .int .i64 0, .slice none 0 0, .int .i32 0, .int .i64 2, .int .i64 2, .int .i64 0, v2, .int .i32 0] T.api_Ins) = h9 at q9 b9
 have s9 : SlRd (vw h9) (.slice (some ⟨h8.size, 0, none⟩) 2 2) [InsD.mk 1 1 0 [] ⟨0⟩, InsD.mk 2 2 0 [0, 1] ⟨0⟩] := sl_push (ds := [InsD.mk 1 1 0 [] ⟨0⟩, InsD.mk 2 2 0 [0, 1] ⟨0⟩]) b9 (by simp) fun i hi2 => by
  have : i = 0 ∨ i = 1 := by simp at hi2; omega
  rcases this with rfl | rfl
  ·exact (rd_cells (rd_insOf (H := vw h9) (imm := ⟨0⟩) ⟨⟨by decide, by decide⟩, ⟨by decide, by decide⟩, ⟨by decide, by decide⟩, by decide, by decide⟩ nil_sl)).1
  ·exact (rd_cells (rd_insOf (H := vw h9) (imm := ⟨0⟩) ⟨⟨by decide, by decide⟩, ⟨by decide, by decide⟩, ⟨by decide, by decide⟩, by decide, by decide⟩ (s2.mono q9))).1
 generalize Value.slice (some ⟨h8.size, 0, none⟩) 2 2 = v4 at s9
 refine do_litN (α := Int) (X := nothing) (ds := [2]) (vs := [.int .i64 2]) rfl El.s_int (by simp) ⟨rd_i (by decide) (by decide), trivial⟩ nothing_le rfl (by omega) fun v5 h10 q10 _ s10 _ => ?_
 have s10 := s10 (vw h10) nothing_le rfl
 refine do_build (z := .agg #[.int .i64 0, .slice none 0 0, .slice none 0 0, .int .i32 0]) (places := [(0, 1), (1, 1), (2, 1), (3, 1)]) (vs := [(0, .int .i64 4), (1, v5)]) (cs := #[.int .i64 4, v5, .slice none 0 0, .int .i32 0]) (by kernel_rfl) (by kernel_rfl) (by simp) (by simp [Instr.fill, s10.cells.1]) ?_
 refine call_to (by kernel_rfl) (one_ok (p := 1) (l := [⟨1, 1, 0, [], ⟨0⟩⟩, ⟨2, 2, 0, [0, 1], ⟨0⟩⟩]) (t := ⟨4, [2], [], ⟨0⟩⟩) ⟨by decide, by decide⟩ (s9.mono q10) (rd_term s10 nil_sl ⟨by decide, by decide⟩ ⟨by decide, by decide⟩)) ?_
 rintro v3 h12 ⟨q12, r3⟩
 have hsm : SmF sh4 := sm_one (by decide) (by decide) (by decide) (by decide)
 have r3 : Rd (vw h12) v3 sh4 := r3
 have k12 : (vw h).le (vw h12) := View.le_trans k11 (View.le_trans q8 (View.le_trans q9 (View.le_trans q10 q12)))
 clear s2 s9 b9 q8 q9 q10 q12 k11
 refine do_newX (X := vw h12) (z := .agg #[.int .i64 0, .slice none 0 0]) (by kernel_rfl) rfl (by kernel_rfl) r3 (fun _ => by simp) (fun _ => by simp) fun h13 hle13 hs13 hat13 => ?_
 have hat13 := hat13 (vw h13) hle13 rfl
 obtain ⟨u, hu, hur⟩ := hat13.loads rfl
 have hu : Un.ev (vw h13) (.loads 2) (.pointer (some ⟨h12.size, 0, none⟩)) = some u := hu
 generalize h12.size = B at hu
 have huv : ∀ {h' : Heap}, (vw h13).le (vw h') → Un.ev (vw h') (.loads 2) (.pointer (some ⟨B, 0, none⟩)) = some u := fun q => by
  have := ev_mono (ρ := fun _ => none) (e := .un (.loads 2) (.con (.pointer (some ⟨B, 0, none⟩)))) q (v := u) (by simpa using hu)
  simpa using this
 have k13 := View.le_trans k12 hle13
 clear r3 hat13 k12 hle13
 rw [hz]; clear hz z
 refine lwp_hide fun z hz => ?_
 refine lwp_cut (fun ρ h14 => ∃ vu tl, (vw h13).le (vw h14) ∧ SlRd (vw h14) vu ([1, 1, 1] : List Int) ∧ ρ = [(0, .bool false), (1, .int .i64 0), (2, .int .i64 0), (3, .int .i64 0), (4, .int .i64 13), (5, .int .i64 0), (6, .int .i64 0), (7, .int .i64 13), (9, .int .i64 0), (10, .pointer (some ⟨B, 0, none⟩)), (11, vu)] ++ tl) ?_ ?_
 ·intro K2 hK2
  simp [hu]
  refine call_to (by kernel_rfl) (uses2_ok hur hsm) ?_
  rintro vu h14 ⟨hle14, su⟩
  have su := su.mono (fresh_le h13 h14)
  rw [used4] at su
  exact hK2 _ _ ⟨vu, _, hle14, su, rfl⟩
 ·rintro ρ h14 ⟨vu, tl, q14, su, rfl⟩
  rw [hz]; clear hz z
  refine lwp_hide fun z hz => ?_
  simp [huv q14, look_setE, look_kill]
  refine call_to (by kernel_rfl) (right_ok (hur.mono q14) hsm) ?_
  rintro _ h15 ⟨rfl, hle15⟩
  have q15 := View.le_trans q14 hle15
  rw [show toldS sh4 = (0, 0, 0) from told4]
  have sl : ∀ {K : View}, Un.ev K .len vu = some (.int .i64 3) := fun {K} => su.len
  have se : ∀ {h' : Heap}, (vw h14).le (vw h') → cellH (vw h') ((slA vu).add 1) = some (.int .i64 1) := fun q => by
   have := (su.mono q).int (i := 1) (View.le_refl _) (by decide)
   simpa [nth] using this
  simp [huv q15, look_setE, look_kill]
  refine call_to (by kernel_rfl) (top_ok (hur.mono q15) hsm) ?_
  rintro _ h16 ⟨rfl, hle16⟩
  have q16 := View.le_trans q15 hle16
  rw [top4]
  have ix : Bn.ev (.idx 1) vu (.int .i64 1) = some (.pointer (some ((slA vu).add 1))) := by
   have := su.idx1 rfl (k := .i64) (i := 1) (by decide) (by decide)
   simpa using this
  simp [huv q16, sl, ix, se (View.le_trans hle15 hle16), look_setE, look_kill]
  refine call_to (by kernel_rfl) (foldable_ok (val := 1) (hur.mono q16) hsm ⟨by decide, by decide⟩) ?_
  rintro _ h17 ⟨rfl, hle17⟩
  have q17 := View.le_trans q16 hle17
  rw [fold41]
  simp [huv q17, look_setE, look_kill]
  refine call_to (by kernel_rfl) (foldable_ok (val := 2) (hur.mono q17) hsm ⟨by decide, by decide⟩) ?_
  rintro _ h18 ⟨rfl, hle18⟩
  have q18 := View.le_trans q17 hle18
  rw [fold42]
  simp [huv q18, look_setE, look_kill]
  refine call_to (by kernel_rfl) (foldable_ok (val := 0) (hur.mono q18) hsm ⟨by decide, by decide⟩) ?_
  rintro _ h19 ⟨rfl, hle19⟩
  have q19 := View.le_trans q18 hle19
  rw [fold40]
  simp [look_setE, look_kill]
  refine do_build (z := .agg #[.int .i64 0, .slice none 0 0]) (places := [(0, 1), (1, 1)]) (vs := []) (cs := #[.int .i64 0, .slice none 0 0]) (by kernel_rfl) (by kernel_rfl) (by simp) (by rfl) ?_
  have r5 : Rd (vw h19) (.agg #[.int .i64 0, .slice none 0 0]) (FuncD.mk 0 []) := ⟨_, rfl, [.int .i64 0], [.slice none 0 0], rfl, ⟨rfl, by decide, by decide⟩, _, rfl, nil_sl⟩
  refine call_to (by kernel_rfl) (right_ok r5 ⟨by simp, fun i hi => by simp at hi⟩) ?_
  rintro _ h20 ⟨rfl, hle20⟩
  rw [told5]
  simp [look_setE, look_kill]
  rw [hz]; clear hz z
  simp [look_setE, look_kill]
  exact hK _ _ ⟨rfl, View.le_trans k13 (View.le_trans q19 hle20)⟩
end Go.Proofs.Ytfelpjfopgiabaa
namespace Go.Proofs.Ytfelpjfopgiabaa
open Go Go.Lft
theorem ofG_len {l : List BlkD} : (ofG l).length = l.length := by simp [ofG]
theorem edge_ofG {l : List BlkD} {a b : Int} : edgeS (ofG l) a b = true ↔ (0 ≤ a ∧ a < l.length ∧ 0 ≤ b ∧ b < l.length) ∧ b ∈ (nth l a.toNat).term.to := by
 rw [edgeS_iff, ofG_len]
 constructor
 ·rintro ⟨h, hm⟩
  rw [ofG, nth_rows (by omega), mem_keptS] at hm
  exact ⟨h, hm.1⟩
 ·rintro ⟨h, hm⟩
  refine ⟨h, ?_⟩
  rw [ofG, nth_rows (by omega), mem_keptS]
  exact ⟨hm, h.2.2.1, h.2.2.2⟩
structure Rb (f : FuncD) (wo : Int) (s : RSt) : Prop where
 ok : ROk f.blocks.length s
 seen : ∀ b : Nat, b < f.blocks.length → (nth s.1 b = true ↔ (b : Int) ∈ s.2)
 sound : ∀ x ∈ s.2, Re (ofG f.blocks) wo x.toNat
theorem rb_in {f : FuncD} {wo a : Int} {k : Nat} {s : RSt} (h : Rb f wo s) (h0 : 0 ≤ a) (h1 : a < f.blocks.length) (ha : Re (ofG f.blocks) wo a.toNat) (hk : k < (nth f.blocks a.toNat).term.to.length) :
  Rb f wo (rchIn wo (nth f.blocks a.toNat).term.to k s) ∧ s.2 <+: (rchIn wo (nth f.blocks a.toNat).term.to k s).2 ∧
   (0 ≤ nth (nth f.blocks a.toNat).term.to k → nth (nth f.blocks a.toNat).term.to k < f.blocks.length → nth (nth f.blocks a.toNat).term.to k ≠ wo → nth (nth f.blocks a.toNat).term.to k ∈ (rchIn wo (nth f.blocks a.toNat).term.to k s).2) := by
 have hok := rchIn_ok (wo := wo) (to := (nth f.blocks a.toNat).term.to) (k := k) h.ok
 have hm := nth_mem hk
 unfold rchIn at hok ⊢
 generalize hto : (nth f.blocks a.toNat).term.to = to at hm hok ⊢
 split
 ·rename_i hc
  rw [if_pos hc] at hok
  obtain ⟨⟨c1, c2⟩, c3, c4⟩ := hc
  rw [h.ok.len] at c2
  have hb : ((nth to k).toNat : Int) = nth to k := Int.toNat_of_nonneg c1
  refine ⟨⟨hok, fun b hb => ?_, fun x hx => ?_⟩, List.prefix_append _ _, fun _ _ _ => List.mem_append_right _ (List.mem_singleton.2 rfl)⟩
  ·rw [List.mem_append, List.mem_singleton]
   by_cases he : b = (nth to k).toNat
   ·subst he
    rw [nth_set (by rw [h.ok.len]; omega), if_pos rfl]
    exact ⟨fun _ => .inr (Int.toNat_of_nonneg c1), fun _ => rfl⟩
   ·rw [nth_set (by rw [h.ok.len]; exact hb), if_neg (fun e => he e.symm), h.seen b hb]
    exact ⟨.inl, fun e => e.resolve_right (by omega)⟩
  ·rcases List.mem_append.1 hx with hx | hx
   ·exact h.sound x hx
   ·rw [List.mem_singleton.1 hx]
    refine .step ha ?_ (by rw [hb]; exact c4)
    rw [edge_ofG, hb]
    exact ⟨⟨by omega, by omega, c1, c2⟩, by rw [Int.toNat_natCast, hto]; exact hm⟩
 ·rename_i hc
  rw [if_neg hc] at hok
  refine ⟨h, List.prefix_refl _, fun c1 c2 c4 => ?_⟩
  have hb : ((nth to k).toNat : Int) = nth to k := Int.toNat_of_nonneg c1
  rw [← hb, ← h.seen _ (by omega)]
  cases e : nth s.1 (nth to k).toNat with
  | true => rfl
  | false => exact absurd ⟨⟨c1, by rw [h.ok.len]; exact c2⟩, e, c4⟩ hc
theorem rb_row {f : FuncD} {wo a : Int} {s : RSt} (h : Rb f wo s) (h0 : 0 ≤ a) (h1 : a < f.blocks.length) (ha : Re (ofG f.blocks) wo a.toNat) : ∀ m, m ≤ (nth f.blocks a.toNat).term.to.length →
  Rb f wo (up (rchIn wo (nth f.blocks a.toNat).term.to) m s) ∧ s.2 <+: (up (rchIn wo (nth f.blocks a.toNat).term.to) m s).2 ∧
   ∀ k, k < m → 0 ≤ nth (nth f.blocks a.toNat).term.to k → nth (nth f.blocks a.toNat).term.to k < f.blocks.length → nth (nth f.blocks a.toNat).term.to k ≠ wo → nth (nth f.blocks a.toNat).term.to k ∈ (up (rchIn wo (nth f.blocks a.toNat).term.to) m s).2
 | 0, _ => ⟨h, List.prefix_refl _, fun k hk => by omega⟩
 | m + 1, hm => by
  obtain ⟨i1, i2, i3⟩ := rb_row h h0 h1 ha m (by omega)
  obtain ⟨j1, j2, j3⟩ := rb_in (k := m) i1 h0 h1 ha (by omega)
  rw [up]
  refine ⟨j1, i2.trans j2, fun k hk c1 c2 c3 => ?_⟩
  rcases Nat.lt_or_ge k m with hlt | hge
  ·exact j2.subset (i3 k hlt c1 c2 c3)
  ·have : k = m := by omega
   subst this; exact j3 c1 c2 c3
structure Rc (f : FuncD) (wo : Int) (i : Nat) (s : RSt) : Prop where
 b : Rb f wo s
 root : wo ≠ 0 → 0 < f.blocks.length → (0 : Int) ∈ s.2
 done : ∀ j, j < i → j < s.2.length → ∀ b : Nat, edgeS (ofG f.blocks) (nth s.2 j) b = true → (b : Int) ≠ wo → (b : Int) ∈ s.2
theorem pre_nth {α : Type} [Inhabited α] {a b : List α} (h : a <+: b) {i : Nat} (hi : i < a.length) : nth b i = nth a i := by
 obtain ⟨t, rfl⟩ := h
 rw [nth_eq (by simp; omega), nth_eq hi, List.getElem_append_left hi]
theorem rc_step {f : FuncD} {wo : Int} {i : Nat} {s : RSt} (h : Rc f wo i s) (hi : i < s.2.length) : Rc f wo (i + 1) (rchRow f wo i s) ∧ s.2 <+: (rchRow f wo i s).2 := by
 have hm := nth_mem hi
 obtain ⟨h0, h1⟩ := h.b.ok.rng _ hm
 have hre := h.b.sound _ hm
 obtain ⟨i1, i2, i3⟩ := rb_row h.b h0 h1 hre _ (Nat.le_refl _)
 have he : rchRow f wo i s = up (rchIn wo (nth f.blocks (nth s.2 i).toNat).term.to) (nth f.blocks (nth s.2 i).toNat).term.to.length s := rfl
 rw [← he] at i1 i2 i3
 refine ⟨⟨i1, fun a b => i2.subset (h.root a b), fun j hj hjl b hb hne => ?_⟩, i2⟩
 rcases Nat.lt_or_ge j i with hlt | hge
 ·rw [pre_nth i2 (by omega)] at hb
  exact i2.subset (h.done j hlt (by omega) b hb hne)
 ·have : j = i := by omega
  subst this
  rw [pre_nth i2 hi, edge_ofG] at hb
  obtain ⟨⟨_, _, q1, q2⟩, hmem⟩ := hb
  obtain ⟨k, hk, e⟩ := List.getElem_of_mem hmem
  rw [← nth_eq hk] at e
  rw [← e]
  exact i3 k hk (by omega) (by omega) (by rw [e]; exact hne)
theorem rc_all {f : FuncD} {wo : Int} : ∀ {m i : Nat} {s : RSt}, Rc f wo i s → f.blocks.length < i + m → ∃ k, Rc f wo k (rchS f wo m i s) ∧ (rchS f wo m i s).2.length ≤ k
 | 0, i, s, h, hm => ⟨i, h, by have := h.b.ok.cnt; rw [rchS]; omega⟩
 | m + 1, i, s, h, hm => by
  rw [rchS]
  split
  ·rename_i hi
   exact rc_all (rc_step h hi).1 (by omega)
  ·rename_i hi
   exact ⟨i, h, by omega⟩
theorem rc_zero {f : FuncD} {wo : Int} : Rc f wo 0 (rch0 f wo) := by
 have hok := rch0_ok (f := f) (wo := wo)
 unfold rch0 at hok ⊢
 split
 ·rename_i hc
  rw [if_pos hc] at hok
  refine ⟨⟨hok, fun b hb => ?_, fun x hx => ?_⟩, fun _ _ => List.mem_singleton.2 rfl, fun j hj => by omega⟩
  ·rw [nth_set (by simpa using hb), List.mem_singleton]
   split
   ·rename_i e; subst e; simp
   ·rename_i e
    rw [nth_eq (by simpa using hb)]
    simp; omega
  ·rw [List.mem_singleton.1 hx]
   exact .root (by rw [ofG_len]; exact hc.2) hc.1
 ·rename_i hc
  rw [if_neg hc] at hok
  refine ⟨⟨hok, fun b hb => ?_, fun x hx => by cases hx⟩, fun a b => absurd ⟨a, b⟩ hc, fun j hj => by omega⟩
  rw [nth_eq (by simpa using hb)]
  simp
theorem reached_spec {f : FuncD} {wo : Int} {b : Nat} (hb : b < f.blocks.length) : nth (reachedS f wo) b = true ↔ Re (ofG f.blocks) wo b := by
 obtain ⟨k, h, hk⟩ := rc_all (rc_zero (f := f) (wo := wo)) (m := f.blocks.length + 1) (by omega)
 unfold reachedS
 generalize rchS f wo (f.blocks.length + 1) 0 (rch0 f wo) = s at h hk
 rw [h.b.seen b hb]
 constructor
 ·exact fun hm => by simpa using h.b.sound _ hm
 ·intro hr
  induction hr with
  | root h1 h2 => exact h.root h2 (by rw [← ofG_len]; exact h1)
  | @step a b ha he hne ih =>
   have hm := ih (by have := (edge_ofG.1 he).1; omega)
   obtain ⟨j, hj, e⟩ := List.getElem_of_mem hm
   rw [← nth_eq hj] at e
   exact h.done j (by omega) hj b (by rw [e]; exact he) hne
end Go.Proofs.Ytfelpjfopgiabaa
namespace Go.Proofs.Ytfelpjfopgiabaa
open Go Go.Lft
theorem foldlM_app {σ α ε : Type} {f : σ → α → Except ε σ} {a b : List α} {s : σ} : (a ++ b).foldlM f s = (match a.foldlM f s with | .ok s' => b.foldlM f s' | .error e => .error e) := by
 rw [List.foldlM_append]
 cases a.foldlM f s <;> rfl
theorem foldlM_one {σ α ε : Type} {f : σ → α → Except ε σ} {a : α} {s : σ} : [a].foldlM f s = f s a := by
 rw [List.foldlM_cons]
 cases f s a <;> rfl
theorem upE_fold {σ α ε : Type} {g : Nat → σ → Except ε σ} {f : σ → α → Except ε σ} {x : Nat → α} {s : σ} : ∀ {n : Nat}, (∀ i s, i < n → g i s = f s (x i)) → upE g n s = (rows x n).foldlM f s
 | 0, _ => rfl
 | n + 1, h => by
  have ih := upE_fold (n := n) (s := s) fun i s hi => h i s (by omega)
  rw [rows_succ, foldlM_app, ← ih]
  simp only [upE]
  cases upE g n s with
  | ok s' =>
   show g n s' = [x n].foldlM f s'
   rw [foldlM_one]; exact h n s' (by omega)
  | error e => rfl
theorem upE_list {σ α ε : Type} [Inhabited α] {f : σ → α → Except ε σ} {l : List α} {s : σ} : upE (fun i s => f s (nth l i)) l.length s = l.foldlM f s := by
 rw [upE_fold (f := f) (x := nth l) fun _ _ _ => rfl]
 congr 1
 refine List.ext_getElem (by simp) fun i h1 h2 => ?_
 simp [rows, nth_eq h2]
def pStep (f : FuncD) (m : MW) (t : Th) : Except Tr MW :=
 if t.place < 0 then allS f.params t.mks t.blk t.place m
 else if t.place < (blkOf f t).ins.length then insS f.params t.blk (blkOf f t) t.place.toNat m
 else endS f.blocks.length t.blk (blkOf f t) m
theorem pStep_phi {f : FuncD} {b i : Nat} {m : MW} : pStep f m (phiT f b i) = phiS f.params b (nth f.blocks b) i m := by
 unfold pStep
 rw [if_pos (show (phiT f b i).place < 0 by show -1 - (i : Int) < 0; omega)]
 rfl
theorem pStep_ins {f : FuncD} {b i : Nat} {m : MW} (hi : i < (nth f.blocks b).ins.length) : pStep f m (insT f b i) = insS f.params b (nth f.blocks b) i m := by
 unfold pStep
 rw [if_neg (show ¬ (insT f b i).place < 0 by show ¬ (i : Int) < 0; omega), if_pos (show (insT f b i).place < ((blkOf f (insT f b i)).ins.length : Int) by show (i : Int) < ((nth f.blocks b).ins.length : Int); omega)]
 rfl
theorem pStep_end {f : FuncD} {b : Nat} {m : MW} : pStep f m (endT f b) = endS f.blocks.length b (nth f.blocks b) m := by
 unfold pStep
 rw [if_neg (show ¬ (endT f b).place < 0 by show ¬ ((nth f.blocks b).ins.length : Int) < 0; omega), if_neg (show ¬ (endT f b).place < ((blkOf f (endT f b)).ins.length : Int) by show ¬ ((nth f.blocks b).ins.length : Int) < ((nth f.blocks b).ins.length : Int); omega)]
 rfl
theorem blk_fold {f : FuncD} {b : Nat} {m : MW} : blkS f b m = (thB f b).foldlM (pStep f) m := by
 unfold blkS thB
 rw [upE_fold (f := pStep f) (x := phiT f b) (n := (nth f.blocks b).phis.length) fun i s hi => pStep_phi.symm]
 rw [foldlM_app, foldlM_app]
 cases (rows (phiT f b) (nth f.blocks b).phis.length).foldlM (pStep f) m with
 | error e => rfl
 | ok m1 =>
  simp only
  rw [upE_fold (f := pStep f) (x := insT f b) (n := (nth f.blocks b).ins.length) fun i s hi => (pStep_ins hi).symm]
  cases (rows (insT f b) (nth f.blocks b).ins.length).foldlM (pStep f) m1 with
  | error e => rfl
  | ok m2 =>
   simp only
   rw [foldlM_one]
   exact pStep_end.symm
theorem shape_fold {f : FuncD} {m : MW} : shapeS f m = (thingsS f).foldlM (pStep f) m := by
 have key : ∀ n, upE (blkS f) n m = (thTo f n).foldlM (pStep f) m := by
  intro n
  induction n with
  | zero => rfl
  | succ n ih =>
   rw [thTo_succ, foldlM_app, ← ih]
   simp only [upE]
   cases upE (blkS f) n m with
   | error e => rfl
   | ok s => exact blk_fold
 exact key _
theorem refShape_fold {f : FuncD} : refShapeS f = (thingsS f).foldlM (fun m t => thShape f t m) (List.replicate 8192 false) := upE_list (f := fun (m : BL) (t : Th) => thShape f t m)
def Same' (m : MW) (l : BL) : Prop := l.length = 8192 ∧ ∀ n : Int, 0 ≤ n → n < 8192 → (m n).isSome = nth l n.toNat
def Alike {α β : Type} (R : α → β → Prop) : Except Tr α → Except Tr β → Prop
 | .ok a, .ok b => R a b
 | .error e, .error e' => e = e'
 | _, _ => False
theorem alike_fold {α β γ : Type} {R : α → β → Prop} {F : α → γ → Except Tr α} {G : β → γ → Except Tr β} : ∀ {l : List γ}, (∀ t ∈ l, ∀ a b, R a b → Alike R (F a t) (G b t)) → ∀ {a : α} {b : β}, R a b → Alike R (l.foldlM F a) (l.foldlM G b)
 | [], _, a, b, h => h
 | t :: l, hs, a, b, h => by
  rw [List.foldlM_cons, List.foldlM_cons]
  have := hs t List.mem_cons_self a b h
  cases e1 : F a t with
  | error e =>
   cases e2 : G b t with
   | error e' => rw [e1, e2] at this; exact this
   | ok b' => rw [e1, e2] at this; exact this.elim
  | ok a' =>
   cases e2 : G b t with
   | error e' => rw [e1, e2] at this; exact this.elim
   | ok b' =>
    rw [e1, e2] at this
    exact alike_fold (fun t ht => hs t (List.mem_cons_of_mem _ ht)) this
theorem within_eq {f : FuncD} {n : Int} : withinS n f.params 8191 = !numBad f n := by
 rw [Bool.eq_iff_iff]; simp [withinS, numBad]
theorem all_not {α : Type} {p : α → Bool} {l : List α} : l.all (fun n => !p n) = !l.any p := by
 induction l with
 | nil => rfl
 | cons a l ih => simp [ih]
def refOnce (t : Th) (m : BL) (n : Int) : Except Tr BL := if nth m n.toNat then .error (12, t.blk, t.place) else .ok (m.set n.toNat true)
theorem once_same {f : FuncD} {t : Th} {m : MW} {l : BL} (h : Same' m l) (hp : 0 ≤ f.params) (hn : ∀ n ∈ t.mks, numBad f n = false) : Alike Same' (t.mks.foldlM (onceS t.blk t.place) m) (upE (mkdStep t) t.mks.length l) := by
 have e : upE (mkdStep t) t.mks.length l = t.mks.foldlM (refOnce t) l := upE_list (f := refOnce t)
 rw [e]
 refine alike_fold (fun n hnm m l h => ?_) h
 have hb := hn n hnm
 simp only [numBad, Bool.or_eq_false_iff, decide_eq_false_iff_not] at hb
 have hs := h.2 n (by omega) (by omega)
 unfold onceS refOnce
 rw [hs]
 cases hc : nth l n.toNat with
 | true => exact rfl
 | false =>
  refine ⟨by simpa using h.1, fun k h0 h1 => ?_⟩
  rw [nth_set (by rw [h.1]; omega)]
  simp only [putM]
  by_cases hk : k = n
  ·subst hk; simp
  ·rw [if_neg hk, if_neg (by omega)]; exact h.2 k h0 h1
theorem allS_same {f : FuncD} {t : Th} {m : MW} {l : BL} (h : Same' m l) (hp : 0 ≤ f.params) :
  Alike Same' (allS f.params t.mks t.blk t.place m) (if t.mks.any (numBad f) then .error (11, t.blk, t.place) else upE (mkdStep t) t.mks.length l) := by
 unfold allS
 have e : (t.mks.all fun n => withinS n f.params 8191) = !t.mks.any (numBad f) := by
  rw [← all_not]; congr 1; funext n; exact within_eq
 rw [e]
 cases hb : t.mks.any (numBad f) with
 | true => exact rfl
 | false =>
  refine once_same h hp fun n hn => ?_
  rw [Bool.eq_false_iff]
  intro e2
  rw [Bool.eq_false_iff] at hb
  exact hb (List.any_eq_true.2 ⟨n, hn, e2⟩)
theorem op_same {x : InsD} : (withinS x.op 1 18 && withinS x.args.length (operandsS x.op).1 (operandsS x.op).2) = !opBad x := by
 rw [Bool.eq_iff_iff]
 simp only [opBad, withinS, operandsS, countsS, Bool.and_eq_true, Bool.not_eq_true', Bool.or_eq_false_iff, decide_eq_true_eq, decide_eq_false_iff_not, Bool.not_eq_false']
 by_cases h1 : x.op = 1
 ·simp [h1]
 by_cases h2 : x.op = 15
 ·simp [h2]; omega
 by_cases h3 : x.op = 17
 ·simp [h3]
 simp only [h1, h2, h3, if_false, decide_eq_true_eq]; omega
theorem to_same {f : FuncD} {n : Int} : withinS n 1 ((f.blocks.length : Int) - 1) = !toBad f n := by
 rw [Bool.eq_iff_iff]; simp [withinS, toBad]; omega
theorem term_same {t : TermD} : termOk t = termS t := by
 unfold termOk termS shapesS
 by_cases h1 : t.kind = 1
 ·rw [Bool.eq_iff_iff]; simp [putM, h1, withinS]; omega
 by_cases h2 : t.kind = 2
 ·rw [Bool.eq_iff_iff]; simp [putM, h2, withinS]; omega
 by_cases h3 : t.kind = 3
 ·rw [Bool.eq_iff_iff]; simp [putM, h3, withinS]; omega
 by_cases h4 : t.kind = 4
 ·rw [Bool.eq_iff_iff]; simp [putM, h4, withinS]
 by_cases h5 : t.kind = 5
 ·rw [Bool.eq_iff_iff]; simp [putM, h5, withinS]
 simp [putM, h1, h2, h3, h4, h5]
theorem afterMk_not {f : FuncD} {t : Th} {x : Except Tr BL} (h : isLast f t = false) : afterMk f t x = x := by
 unfold afterMk
 cases x with
 | error e => rfl
 | ok m => simp only [h, Bool.false_and]; rfl
theorem step_same {f : FuncD} {t : Th} (ht : t ∈ thingsS f) (hp : 0 ≤ f.params) {m : MW} {l : BL} (h : Same' m l) : Alike Same' (pStep f m t) (thShape f t l) := by
 obtain ⟨b, hb, ht⟩ := mem_thTo.1 ht
 rcases mem_thB.1 ht with ⟨i, hi, rfl⟩ | ⟨i, hi, rfl⟩ | rfl
 ·have e1 : isIns f (phiT f b i) = false := by simp [isIns, phiT]; omega
  have e2 : isLast f (phiT f b i) = false := by
   show decide (-1 - (i : Int) = ((nth f.blocks b).ins.length : Int)) = false
   rw [decide_eq_false_iff_not]; omega
  rw [pStep_phi, thShape, e1, e2, afterMk_not e2]
  exact allS_same (t := phiT f b i) h hp
 ·have e1 : isIns f (insT f b i) = true := by simp [isIns, insT, blkOf]; omega
  have e2 : isLast f (insT f b i) = false := by
   show decide ((i : Int) = ((nth f.blocks b).ins.length : Int)) = false
   rw [decide_eq_false_iff_not]; omega
  have e3 : insOf f (insT f b i) = nth (nth f.blocks b).ins i := by simp [insOf, blkOf, insT]
  rw [pStep_ins hi, thShape, e1, e2, afterMk_not e2, e3, insS, op_same]
  cases hb : opBad (nth (nth f.blocks b).ins i) with
  | true => exact rfl
  | false => exact allS_same (t := insT f b i) h hp
 ·have e1 : isIns f (endT f b) = false := by simp [isIns, endT, blkOf]
  have e2 : isLast f (endT f b) = true := by simp [isLast, endT, blkOf]
  have e3 : blkOf f (endT f b) = nth f.blocks b := by simp [blkOf, endT]
  rw [pStep_end, thShape, e1, e2, e3, endS, term_same]
  cases hb : termS (nth f.blocks b).term with
  | false => exact rfl
  | true =>
   have e4 : ((nth f.blocks b).term.to.all fun t => withinS t 1 ((f.blocks.length : Int) - 1)) = !(nth f.blocks b).term.to.any (toBad f) := by
    rw [← all_not]; congr 1; funext n; exact to_same
   rw [e4]
   show Alike Same' _ (afterMk f (endT f b) (.ok l))
   unfold afterMk
   rw [e2, e3]
   cases (nth f.blocks b).term.to.any (toBad f) with
   | true => exact rfl
   | false => exact h
theorem shape_same {f : FuncD} (hp : 0 ≤ f.params) : Alike Same' (shapeS f (fun _ => none)) (refShapeS f) := by
 rw [shape_fold, refShape_fold]
 refine alike_fold (fun t ht m l h => step_same ht hp h) ⟨List.length_replicate .., fun n h0 h1 => ?_⟩
 rw [nth_eq (by rw [List.length_replicate]; omega), List.getElem_replicate]; rfl
end Go.Proofs.Ytfelpjfopgiabaa
namespace Go.Proofs.Ytfelpjfopgiabaa
open Go Go.Lft
def siteOf (t : Th) : Option (Int × Int) := if t.blk < 0 then none else some (t.blk, t.place)
structure Site (m : MW) (s : List Th) : Prop where
 len : s.length = 8192
 inn : ∀ n : Int, 0 ≤ n → n < 8192 → m n = siteOf (nth s n.toNat)
 out : ∀ n : Int, ¬ (0 ≤ n ∧ n < 8192) → m n = none
theorem put_site {t : Th} (hb : 0 ≤ t.blk) : ∀ {l : List Int} {m : MW} {s : List Th}, Site m s → (∀ n ∈ l, 0 ≤ n ∧ n < 8192) → Site (l.foldl (fun m n => putM m n (t.blk, t.place)) m) (l.foldl (siteStep t) s)
 | [], m, s, h, _ => h
 | n :: l, m, s, h, hl => by
  rw [List.foldl_cons, List.foldl_cons]
  have hn := hl n List.mem_cons_self
  refine put_site hb ⟨siteStep_len.trans h.len, fun k h0 h1 => ?_, fun k hk => ?_⟩ fun k hk => hl k (List.mem_cons_of_mem _ hk)
  ·unfold siteStep putM
   rw [if_pos hn, nth_set (by rw [h.len]; omega)]
   by_cases e : k = n
   ·subst e; rw [if_pos rfl, if_pos rfl]; unfold siteOf; rw [if_neg (by omega)]
   ·rw [if_neg e, if_neg (by omega)]; exact h.inn k h0 h1
  ·unfold putM
   rw [if_neg (by rintro rfl; exact hk hn)]; exact h.out k hk
theorem once_put {b p : Int} : ∀ {l : List Int} {m m' : MW}, l.foldlM (onceS b p) m = .ok m' → m' = l.foldl (fun m n => putM m n (b, p)) m
 | [], m, m', h => by cases h; rfl
 | n :: l, m, m', h => by
  rw [List.foldlM_cons] at h
  cases e : onceS b p m n with
  | error t => rw [e] at h; cases h
  | ok m1 =>
   rw [e] at h
   unfold onceS at e
   split at e
   ·cases e
   ·cases e; exact once_put (l := l) (m := putM m n (b, p)) h
theorem allS_ok2 {ps b p : Int} {l : List Int} {m m' : MW} (h : allS ps l b p m = .ok m') : m' = l.foldl (fun m n => putM m n (b, p)) m ∧ ∀ n ∈ l, ps ≤ n ∧ n ≤ 8191 := by
 unfold allS at h
 split at h
 ·rename_i ha
  refine ⟨once_put h, fun n hn => ?_⟩
  have := List.all_eq_true.1 ha n hn
  simpa [withinS] using this
 ·cases h
theorem pStep_ok {f : FuncD} {t : Th} (ht : t ∈ thingsS f) {m m' : MW} (h : pStep f m t = .ok m') : (m' = t.mks.foldl (fun m n => putM m n (t.blk, t.place)) m ∧ ∀ n ∈ t.mks, f.params ≤ n ∧ n ≤ 8191) ∧ 0 ≤ t.blk := by
 obtain ⟨b, hb, ht⟩ := mem_thTo.1 ht
 rcases mem_thB.1 ht with ⟨i, hi, rfl⟩ | ⟨i, hi, rfl⟩ | rfl
 ·rw [pStep_phi] at h
  exact ⟨allS_ok2 h, by show 0 ≤ (b : Int); omega⟩
 ·rw [pStep_ins hi] at h
  unfold insS at h
  split at h
  ·exact ⟨allS_ok2 h, by show 0 ≤ (b : Int); omega⟩
  ·cases h
 ·rw [pStep_end] at h
  unfold endS at h
  split at h
  ·split at h
   ·cases h; exact ⟨⟨rfl, fun n hn => by cases hn⟩, by show 0 ≤ (b : Int); omega⟩
   ·cases h
  ·cases h
theorem site_fold {f : FuncD} (hp : 0 ≤ f.params) : ∀ {l : List Th}, (∀ t ∈ l, t ∈ thingsS f) → ∀ {m m' : MW} {s : List Th}, Site m s → l.foldlM (pStep f) m = .ok m' → Site m' (l.foldl siteTh s)
 | [], _, m, m', s, h, e => by cases e; exact h
 | t :: l, hl, m, m', s, h, e => by
  rw [List.foldlM_cons] at e
  cases e1 : pStep f m t with
  | error x => rw [e1] at e; cases e
  | ok m1 =>
   rw [e1] at e
   obtain ⟨⟨q1, q2⟩, q3⟩ := pStep_ok (hl t List.mem_cons_self) e1
   rw [List.foldl_cons]
   refine site_fold hp (fun t ht => hl t (List.mem_cons_of_mem _ ht)) (m := m1) ?_ e
   rw [q1]
   exact put_site q3 h fun n hn => by have := q2 n hn; omega
theorem site_same {f : FuncD} (hp : 0 ≤ f.params) {m : MW} (h : shapeS f (fun _ => none) = .ok m) : Site m (madeS f) := by
 rw [shape_fold] at h
 refine site_fold hp (fun t ht => ht) ⟨List.length_replicate .., fun n h0 h1 => ?_, fun n _ => rfl⟩ h
 rw [nth_eq (by rw [List.length_replicate]; omega), List.getElem_replicate]; rfl
theorem use_same {f : FuncD} {m : MW} {made : List Th} {away : List BL} {idom : List Int} {v blk place at_ told : Int} (hp : f.params ≤ 8192) (hs : Site m made) (hd : ∀ a : Int, 0 ≤ a → a < f.blocks.length → dominatesS idom a blk = !nth (nth away a.toNat) blk.toNat)
  (hm : ∀ i, i < 8192 → (nth made i).blk < f.blocks.length) : useS f.params m idom v blk place at_ told = if (!standsS f made away v blk at_) then .error (13, told, place) else .ok () := by
 unfold useS
 by_cases c1 : 0 ≤ v ∧ v < f.params
 ·have e : standsS f made away v blk at_ = true := by unfold standsS; rw [if_pos c1]
  rw [if_pos c1, e]; rfl
 rw [if_neg c1]
 by_cases c2 : v < 0 ∨ 8191 < v
 ·have e : standsS f made away v blk at_ = false := by unfold standsS; rw [if_neg c1, if_pos (.inl c2)]
  rw [hs.out v (by omega), e]; rfl
 have e : standsS f made away v blk at_ = if (nth made v.toNat).blk < 0 then false else if (nth made v.toNat).blk = blk then decide ((nth made v.toNat).place < 0) || decide ((nth made v.toNat).place < at_) else !nth (nth away (nth made v.toNat).blk.toNat) blk.toNat := by
  unfold standsS
  rw [if_neg c1]
  by_cases c3 : (nth made v.toNat).blk < 0
  ·rw [if_pos (.inr c3), if_pos c3]
  ·rw [if_neg (by rintro (q | q) <;> contradiction), if_neg c3]
 rw [hs.inn v (by omega) (by omega), e]
 have hmb := hm v.toNat (by omega)
 generalize nth made v.toNat = t at hmb
 unfold siteOf
 by_cases c3 : t.blk < 0
 ·rw [if_pos c3, if_pos c3]; rfl
 rw [if_neg c3, if_neg c3]
 have e2 : standOk (t.blk, t.place) idom blk at_ = if t.blk = blk then decide (t.place < 0) || decide (t.place < at_) else !nth (nth away t.blk.toNat) blk.toNat := by
  unfold standOk
  by_cases c4 : t.blk = blk
  ·simp only [c4, decide_true, Bool.true_and, Bool.not_true, Bool.false_and, Bool.or_false, if_true]
   rw [Bool.or_comm]
  ·simp only [c4, decide_false, Bool.false_and, Bool.not_false, Bool.true_and, Bool.false_or, if_false]
   exact hd t.blk (by omega) hmb
 simp only [e2]
 generalize (if t.blk = blk then decide (t.place < 0) || decide (t.place < at_) else !nth (nth away t.blk.toNat) blk.toNat) = B
 cases B <;> rfl
theorem uAll_any {α : Type} [Inhabited α] {l : List α} {p : α → Bool} {e : Tr} {g : Nat → Except Tr Unit} (h : ∀ j, j < l.length → g j = if p (nth l j) then .error e else .ok ()) : uAll g l.length = if l.any p then .error e else .ok () := by
 have h1 : uAll g l.length = l.foldlM (fun (_ : Unit) x => if p x then Except.error e else .ok ()) () := by
  unfold uAll
  rw [← upE_list (f := fun (_ : Unit) x => if p x then Except.error e else .ok ())]
  have key : ∀ n, n ≤ l.length → upE (fun i (_ : Unit) => g i) n () = upE (fun i (_ : Unit) => if p (nth l i) then Except.error e else .ok ()) n () := by
   intro n
   induction n with
   | zero => exact fun _ => rfl
   | succ n ih =>
    intro hn
    simp only [upE]
    rw [ih (by omega), h n (by omega)]
  exact key _ (Nat.le_refl _)
 rw [h1]
 clear h1 h
 induction l with
 | nil => rfl
 | cons a l ih =>
  rw [List.foldlM_cons, List.any_cons]
  cases hp : p a with
  | true => rfl
  | false => rw [Bool.false_or]; exact ih
theorem sift_congr {β : Type} {p q : Nat → Bool} {x : Nat → β} {n : Nat} (h : ∀ a, a < n → p a = q a) : sift p x n = sift q x n := by
 rw [sift_eq, sift_eq]
 congr 1
 exact List.filter_congr fun a ha => h a (List.mem_range.1 ha)
theorem preds_same {f : FuncD} {b : Nat} (hb : b < f.blocks.length) : nth (predsG (ofG f.blocks)) b = refPredsS f b := by
 rw [preds_eq, predsS, ofG_len, nth_rows hb, refPredsS]
 refine sift_congr fun a ha => ?_
 rw [Bool.eq_iff_iff, edge_ofG, decide_eq_true_eq, Int.toNat_natCast]
 exact ⟨fun h => h.2, fun h => ⟨by omega, h⟩⟩
theorem fits_same {f : FuncD} {b i : Nat} (hb : b < f.blocks.length) : fitsS (nth (nth f.blocks b).phis i) (nth (predsG (ofG f.blocks)) b) b = sameS f (phiT f b i) := by
 have e1 : phiOf f (phiT f b i) = nth (nth f.blocks b).phis i := by
  unfold phiOf blkOf phiT
  simp only [Int.toNat_natCast]
  rw [show (-1 - (-1 - (i : Int))).toNat = i by omega]
 have e2 : (phiT f b i).blk = (b : Int) := rfl
 unfold fitsS fitsBase sameS
 rw [e1, e2, preds_same hb]
 generalize nth (nth f.blocks b).phis i = x
 generalize refPredsS f b = row
 rw [Bool.eq_iff_iff]
 simp only [Bool.and_eq_true, decide_eq_true_eq, all_iff, fitsP]
 constructor
 ·rintro ⟨⟨h1, h2⟩, h3⟩
  refine ⟨by omega, List.ext_getElem (by simp; omega) fun j hj hj2 => ?_⟩
  have := h3 j (by simpa using hj)
  rw [nth_eq hj2, nth_eq (by simpa using hj)] at this
  simpa using this
 ·rintro ⟨h1, h2⟩
  have hl : x.ins.length = row.length := by rw [← h2, List.length_map]
  refine ⟨⟨by omega, by omega⟩, fun j hj => ?_⟩
  rw [← h2, nth_eq (l := List.map InD.frm x.ins) (by rw [List.length_map]; exact hj), nth_eq hj]
  simp
theorem made_blk {f : FuncD} : ∀ i, i < 8192 → (nth (madeS f) i).blk < f.blocks.length := fun i hi => sites_blk (by omega) (fun t ht => by
 obtain ⟨b, hb, ht⟩ := mem_thTo.1 ht
 rcases mem_thB.1 ht with ⟨i, hi, rfl⟩ | ⟨i, hi, rfl⟩ | rfl
 ·show (b : Int) < _; omega
 ·show (b : Int) < _; omega
 ·show (b : Int) < _; omega) hi
section
variable {f : FuncD} {m : MW} {idom : List Int} (hp0 : f.params ≤ 8192) (hs : Site m (madeS f)) (hd : ∀ a b : Int, 0 ≤ a → a < f.blocks.length → 0 ≤ b → b < f.blocks.length → dominatesS idom a b = !nth (nth (awayS f) a.toNat) b.toNat)
include hp0 hs hd
theorem phi_use {b i : Nat} (hb : b < f.blocks.length) (hi : i < (nth f.blocks b).phis.length) : phiU f m idom (predsG (ofG f.blocks)) b i = thStand f (madeS f) (awayS f) (phiT f b i) := by
 have hf := fits_same (f := f) (i := i) hb
 have e1 : phiOf f (phiT f b i) = nth (nth f.blocks b).phis i := by
  unfold phiOf blkOf phiT
  simp only [Int.toNat_natCast]
  rw [show (-1 - (-1 - (i : Int))).toNat = i by omega]
 have e3 : thStand f (madeS f) (awayS f) (phiT f b i) = if !sameS f (phiT f b i) then .error (16, b, -1 - i) else if (nth (nth f.blocks b).phis i).ins.any (stP f (madeS f) (awayS f)) then .error (13, b, -1 - i) else .ok () := by
  unfold thStand
  rw [if_neg (show ¬ 0 ≤ (phiT f b i).place by show ¬ 0 ≤ -1 - (i : Int); omega), e1]
  rfl
 rw [e3]
 unfold phiU
 simp only [hf]
 cases hss : sameS f (phiT f b i) with
 | false => rfl
 | true =>
  rw [if_pos rfl, if_neg (by simp)]
  refine uAll_any fun j hj => ?_
  have hfr : 0 ≤ (nth (nth (nth f.blocks b).phis i).ins j).frm ∧ (nth (nth (nth f.blocks b).phis i).ins j).frm < f.blocks.length := by
   unfold sameS at hss
   rw [e1] at hss
   simp only [Bool.and_eq_true, decide_eq_true_eq] at hss
   have hm := List.mem_map_of_mem (f := InD.frm) (nth_mem hj)
   rw [hss.2] at hm
   obtain ⟨a, h1, _, h2⟩ := mem_sift.1 hm
   omega
  rw [use_same hp0 hs (fun a h0 h1 => hd a _ h0 h1 hfr.1 hfr.2) made_blk]
  rfl
theorem ins_use {b i : Nat} (hb : b < f.blocks.length) (hi : i < (nth f.blocks b).ins.length) : insU f m idom b i = thStand f (madeS f) (awayS f) (insT f b i) := by
 have e3 : thStand f (madeS f) (awayS f) (insT f b i) = if (nth (nth f.blocks b).ins i).args.any (stT f (madeS f) (awayS f) (insT f b i)) then .error (13, b, i) else .ok () := by
  unfold thStand
  rw [if_pos (show 0 ≤ (insT f b i).place by show 0 ≤ (i : Int); omega)]
  rfl
 rw [e3]
 unfold insU
 refine uAll_any fun j hj => ?_
 rw [use_same hp0 hs (fun a h0 h1 => hd a _ h0 h1 (by omega) (by omega)) made_blk]
 rfl
theorem end_use {b : Nat} (hb : b < f.blocks.length) : endU f m idom b = thStand f (madeS f) (awayS f) (endT f b) := by
 have e3 : thStand f (madeS f) (awayS f) (endT f b) = if (nth f.blocks b).term.args.any (stT f (madeS f) (awayS f) (endT f b)) then .error (13, b, (nth f.blocks b).ins.length) else .ok () := by
  unfold thStand
  rw [if_pos (show 0 ≤ (endT f b).place by show 0 ≤ ((nth f.blocks b).ins.length : Int); omega)]
  rfl
 rw [e3]
 unfold endU
 refine uAll_any fun j hj => ?_
 rw [use_same hp0 hs (fun a h0 h1 => hd a _ h0 h1 (by omega) (by omega)) made_blk]
 rfl
def stF (f : FuncD) (_ : Unit) (t : Th) : Except Tr Unit := thStand f (madeS f) (awayS f) t
theorem blk_use {b : Nat} (hb : b < f.blocks.length) : blkU f m idom (predsG (ofG f.blocks)) b = (thB f b).foldlM (stF f) () := by
 unfold blkU thB uAll
 rw [upE_fold (f := stF f) (x := phiT f b) (n := (nth f.blocks b).phis.length) fun i s hi => phi_use hp0 hs hd hb hi]
 rw [upE_fold (f := stF f) (x := insT f b) (n := (nth f.blocks b).ins.length) fun i s hi => ins_use hp0 hs hd hb hi]
 rw [foldlM_app, foldlM_app, end_use hp0 hs hd hb]
 cases (rows (phiT f b) (nth f.blocks b).phis.length).foldlM (stF f) () with
 | error e => rfl
 | ok m1 =>
  obtain ⟨⟩ := m1
  cases hI : (rows (insT f b) (nth f.blocks b).ins.length).foldlM (stF f) () with
  | error e => simp only [andE, hI]
  | ok m2 =>
   simp only [andE, hI]
   rw [foldlM_one]; rfl
theorem uses_fold : uAll (blkU f m idom (predsG (ofG f.blocks))) f.blocks.length = usesE f := by
 have key : ∀ n, n ≤ f.blocks.length → uAll (blkU f m idom (predsG (ofG f.blocks))) n = (thTo f n).foldlM (stF f) () := by
  intro n
  induction n with
  | zero => exact fun _ => rfl
  | succ n ih =>
   intro hn
   rw [thTo_succ, foldlM_app, ← ih (by omega)]
   have e : uAll (blkU f m idom (predsG (ofG f.blocks))) (n + 1) = match uAll (blkU f m idom (predsG (ofG f.blocks))) n with | .ok _ => blkU f m idom (predsG (ofG f.blocks)) n | .error e => .error e := by
    show upE _ (n + 1) () = _
    simp only [upE]
    unfold uAll
    cases upE (fun i (_ : Unit) => blkU f m idom (predsG (ofG f.blocks)) i) n () <;> rfl
   rw [e]
   cases uAll (blkU f m idom (predsG (ofG f.blocks))) n with
   | error e => rfl
   | ok s => exact blk_use hp0 hs hd (by omega)
 rw [key _ (Nat.le_refl _)]
 exact (upE_list (f := stF f)).symm
end
end Go.Proofs.Ytfelpjfopgiabaa
namespace Go.Proofs.Ytfelpjfopgiabaa
open Go Go.Lft
theorem many_same {f : FuncD} : ∀ k, manyN f k = (cntTo f k : Int)
 | 0 => rfl
 | k + 1 => by
  have ih := many_same (f := f) k
  unfold manyN at ih ⊢
  rw [up, ih, cntTo]; omega
theorem upE_congr {σ ε : Type} {f g : Nat → σ → Except ε σ} {s : σ} : ∀ {n : Nat}, (∀ i s, i < n → f i s = g i s) → upE f n s = upE g n s
 | 0, _ => rfl
 | n + 1, h => by
  simp only [upE]
  rw [upE_congr (n := n) fun i s hi => h i s (by omega)]
  cases upE g n s with
  | ok s' => exact h n s' (by omega)
  | error e => rfl
theorem upE_all {f : Nat → Unit → Except Tr Unit} : ∀ {n : Nat}, upE f n () = .ok () → ∀ i, i < n → f i () = .ok ()
 | n + 1, h, i, hi => by
  simp only [upE] at h
  cases e : upE f n () with
  | error t => rw [e] at h; cases h
  | ok s =>
   rw [e] at h
   rcases Nat.lt_or_ge i n with hlt | hge
   ·exact upE_all e i hlt
   ·have : i = n := by omega
    subst this; exact h
theorem way_same {f : FuncD} (hn : 0 < f.blocks.length) : uAll (reachE f) f.blocks.length = wayE f := by
 unfold uAll wayE
 refine upE_congr fun b s hb => ?_
 unfold reachE
 have e : decide ((b : Int) ∈ gOrderS (ofG f.blocks)) = nth (reachedS f (-1)) b := by
  rw [Bool.eq_iff_iff, decide_eq_true_eq, (order_is (by rw [ofG_len]; exact hn)).mem, reached_spec hb]
 rw [e]
theorem dom_same {f : FuncD} (hn : 0 < f.blocks.length) (hw : wayE f = .ok ()) (a b : Int) (h0 : 0 ≤ a) (h1 : a < f.blocks.length) (h2 : 0 ≤ b) (h3 : b < f.blocks.length) :
  dominatesS (idomL (ofG f.blocks)) a b = !nth (nth (awayS f) a.toNat) b.toNat := by
 have hR : ∀ x : Nat, x < f.blocks.length → Re (ofG f.blocks) (-1) x := fun x hx => by
  have := upE_all hw x hx
  rw [← reached_spec hx]
  split at this
  ·assumption
  ·cases this
 have hg : 0 < (ofG f.blocks).length := by rw [ofG_len]; exact hn
 obtain ⟨fp, C, l, hl, I⟩ := idom_spec hg
 have hi : idomL (ofG f.blocks) = l := by unfold idomL; rw [hl]; rfl
 rw [hi]
 have e := dominates_reached I C (a := a.toNat) (b := b.toNat) (by rw [ofG_len]; omega) (hR _ (by omega))
 rw [Int.toNat_of_nonneg h0, Int.toNat_of_nonneg h2] at e
 rw [e, Bool.eq_iff_iff, domC_iff]
 have ha : nth (awayS f) a.toNat = reachedS f a := by
  unfold awayS
  rw [nth_rows (by omega), Int.toNat_of_nonneg h0]
 rw [ha]
 have hr := reached_spec (f := f) (wo := a) (b := b.toNat) (by omega)
 have haa : ((a.toNat : Nat) : Int) = a := Int.toNat_of_nonneg h0
 rw [haa]
 cases hc : nth (reachedS f a) b.toNat with
 | true =>
  rw [hc] at hr
  simp [hr.1 rfl]
 | false =>
  rw [hc] at hr
  have hnr : ¬ Re (ofG f.blocks) a b.toNat := fun h => by have := hr.2 h; cases this
  simp [hnr, hR _ (show a.toNat < f.blocks.length by omega), hR _ (show b.toNat < f.blocks.length by omega)]
theorem told_same (f : FuncD) : toldS f = refFuncS f := by
 unfold toldS checkS refFuncS
 by_cases c1 : f.params < 0 ∨ 4 < f.params
 ·have : withinS f.params 0 4 = false := by rw [Bool.eq_false_iff]; simp [withinS]; omega
  rw [if_pos this, if_pos c1]
 have hw4 : ¬ withinS f.params 0 4 = false := by simp [withinS]; omega
 rw [if_neg hw4, if_neg c1]
 by_cases c2 : f.blocks.length = 0
 ·rw [if_pos c2, if_pos c2]
 rw [if_neg c2, if_neg c2]
 have hm : manyS f = (cntTo f f.blocks.length : Int) := many_same _
 by_cases c3 : 512 < f.blocks.length ∨ 4096 < cntTo f f.blocks.length
 ·rw [if_pos (by rw [hm]; omega), if_pos c3]
 rw [if_neg (by rw [hm]; omega), if_neg c3]
 have hp : 0 ≤ f.params := by omega
 have hsh := shape_same hp
 cases hS : shapeS f (fun _ => none) with
 | error e =>
  cases hR : refShapeS f with
  | ok l => rw [hS, hR] at hsh; exact hsh.elim
  | error e' =>
   rw [hS, hR] at hsh
   have hee : e = e' := hsh
   subst hee
   obtain ⟨k, s', h1, _, h3⟩ := upE_inv hR
   have := (thShape_err h3).1
   rw [if_pos (by show e.1 ≠ 0; omega)]
   rfl
 | ok m =>
  cases hR : refShapeS f with
  | error e' => rw [hS, hR] at hsh; exact hsh.elim
  | ok l =>
   rw [if_neg (by simp [errOf])]
   have hs := site_same hp hS
   show (match usesS f m (idomL (ofG f.blocks)) with | .ok _ => ((0, 0, 0) : Tr) | .error t => t) = _
   unfold usesS
   rw [way_same (by omega)]
   cases hW : wayE f with
   | error e => rfl
   | ok s =>
    obtain ⟨⟩ := s
    have := uses_fold (f := f) (m := m) (idom := idomL (ofG f.blocks)) (by omega) hs fun a b h0 h1 h2 h3 => dom_same (by omega) hW a b h0 h1 h2 h3
    show (match uAll (blkU f m (idomL (ofG f.blocks)) (predsG (ofG f.blocks))) f.blocks.length with | .ok _ => ((0, 0, 0) : Tr) | .error t => t) = errOf (usesE f)
    rw [this]
    cases usesE f <;> rfl
end Go.Proofs.Ytfelpjfopgiabaa
namespace Go.Proofs.Ytfelpjfopgiabaa
open Go Go.Lft
structure BlkR where
 phis : List PhiD
 ins : Raw
 term : TermD
instance : Rep BlkR := Rep.via fun d => Cat.mk d.phis (Cat.mk d.ins d.term)
instance : Inhabited BlkR := ⟨⟨[], default, default⟩⟩
theorem sl_conv {α β : Type} [Rep α] [Rep β] {H : View} {v : Value} {l : List α} {l2 : List β} (h : SlRd H v l) (hn : Rep.n α = Rep.n β) (hl : l.length = l2.length) (hc : ∀ i (h1 : i < l.length) (h2 : i < l2.length) cs, Rep.rd H cs l[i] → Rep.rd H cs l2[i]) : SlRd H v l2 := by
 obtain ⟨a, cap, rfl, h1, h2, h3⟩ := h
 refine ⟨a, cap, by rw [hl], by omega, by omega, ?_⟩
 rcases h3 with rfl | ⟨ad, rfl, hs, hat⟩
 ·left; exact List.eq_nil_of_length_eq_zero (by rw [← hl]; rfl)
 ·refine .inr ⟨ad, rfl, hs, fun i hi => ?_⟩
  obtain ⟨cs, g1, g2⟩ := hat i (by omega)
  rw [← hn]
  exact ⟨cs, g1, hc i (by omega) hi cs g2⟩
end Go.Proofs.Ytfelpjfopgiabaa
namespace Go.Lft
open Go
variable {po : OP}
theorem do_neg {P : Program} {t ty : TypeId} {us : List (Nat × Value)} {h : Heap} {K : Value → Heap → Prop} {x : Operand} {n : Int} (hx : asg us x = .int .i64 n) (hk : K (.int .i64 (IntKind.i64.wrap (-n))) h) : step P (.unOp .neg t x) ty us h K := by
 refine step_of (runs_value fun w hw => ⟨.int .i64 (IntKind.i64.wrap (-n)), w, ?_, Same.refl _, by rw [hw]; exact hk⟩)
 simp only [loudSem, execOp, hx]
 simp [Op.unary, Op.intArith]
end Go.Lft
namespace Go.Proofs.Ytfelpjfopgiabaa
open Go Go.Lft
structure MS where
 at_ : Nat
 ps : Int
 blocks : List BlkD
 next : Int
 live : List Int
def MS.took (m : MS) : MS := { m with at_ := m.at_ + 1 }
def MS.freshed (m : MS) : MS := { m with next := m.next + 1 }
structure BlkM where
 phis : Raw
 ins : Raw
 term : TermD
instance : Rep BlkM := Rep.via fun d => Cat.mk d.phis (Cat.mk d.ins d.term)
instance : Inhabited BlkM := ⟨⟨default, default, default⟩⟩
theorem BlkM.p_phis : Part BlkM Raw 0 BlkM.phis (fun d x => { d with phis := x }) := (Part.fst Part.all).via (fun _ => rfl) fun _ _ => rfl
theorem BlkM.p_ins : Part BlkM Raw 1 BlkM.ins (fun d x => { d with ins := x }) := (Part.snd (Part.fst Part.all)).via (fun _ => rfl) fun _ _ => rfl
theorem BlkM.p_term : Part BlkM TermD 2 BlkM.term (fun d x => { d with term := x }) := (Part.snd (Part.snd Part.all)).via (fun _ => rfl) fun _ _ => rfl
theorem blkM_blk {H : View} {cs : List Value} {d : BlkM} {p : List PhiD} {i : List InsD} (h : Rep.rd H cs d) (hp : SlRd H d.phis.v p) (hi : SlRd H d.ins.v i) : Rep.rd H cs (BlkD.mk p i d.term) := by
 obtain ⟨c1, r1, e1, ⟨h1, _⟩, c2, r2, e2, ⟨h2, _⟩, h3⟩ := h
 have h1 : c1 = [d.phis.v] := h1
 have h2 : c2 = [d.ins.v] := h2
 exact ⟨c1, r1, e1, ⟨d.phis.v, h1, hp⟩, c2, r2, e2, ⟨d.ins.v, h2, hi⟩, h3⟩
structure MkB (M : Nat) (vs : Value) (m : MS) (o : Own) (vb vl : Value) (lb : List BlkM) : Prop where
 box : o (0, 0) = bx T.ref03_maker M (RawN.mk (n := 5) (mkL vs m.at_ m.ps vb m.next vl))
 live : o (0, 1) = it T.int vl m.live
 blk : o (0, 2) = it T.api_Block vb lb
 len : lb.length = m.blocks.length
 term : ∀ i, i < m.blocks.length → (nth lb i).term = (nth m.blocks i).term
 phis : ∀ i, i < m.blocks.length → o (1, i) = it T.api_Phi (nth lb i).phis.v (nth m.blocks i).phis
 ins : ∀ i, i < m.blocks.length → o (2, i) = it T.api_Ins (nth lb i).ins.v (nth m.blocks i).ins
structure Mk (s : List Int) (M : Nat) (vs : Value) (W : View) (h : Heap) (o : Own) (m : MS) : Prop where
 own : Owns W h o
 src : SlRd W vs s
 box : ∃ vb vl lb, MkB M vs m o vb vl lb
def Nx (s : List Int) (M : Nat) (vs : Value) (W : View) (h : Heap) (o : Own) (m : MS) : Prop := ∃ W' o', W.le W' ∧ Mk s M vs W' h o' m ∧ ∀ k : Key, 3 ≤ k.1 → o' k = o k
variable {s : List Int} {M : Nat} {vs : Value} {W : View} {h : Heap} {o : Own} {m : MS}
theorem Mk.nx (w : Mk s M vs W h o m) : Nx s M vs W h o m := ⟨W, o, View.le_refl _, w, fun _ _ => rfl⟩
theorem Nx.trans {W' : View} {o' : Own} (hW : W.le W') (ho : ∀ k : Key, 3 ≤ k.1 → o' k = o k) (n : Nx s M vs W' h o' m) : Nx s M vs W h o m := by
 obtain ⟨W2, o2, h1, h2, h3⟩ := n
 exact ⟨W2, o2, View.le_trans hW h1, h2, fun k hk => (h3 k hk).trans (ho k hk)⟩
theorem MkB.at {vb vl : Value} {lb : List BlkM} (b : MkB M vs m o vb vl lb) {at_ : Nat} {next : Int} : MkB M vs { m with at_ := at_, next := next } (o.upd (0, 0) (bx T.ref03_maker M (RawN.mk (n := 5) (mkL vs at_ m.ps vb next vl)))) vb vl lb :=
 ⟨rfl, b.live, b.blk, b.len, b.term, fun i hi => b.phis i hi, fun i hi => b.ins i hi⟩
theorem upd_frame {k : Key} {i : Option Lft.Item} (hk : k.1 < 3) : ∀ q : Key, 3 ≤ q.1 → o.upd k i q = o q := fun q hq => Own.upd_ne fun e => by rw [e] at hq; omega
theorem upd_upd {k : Key} {i j : Option Lft.Item} (q : Key) : (o.upd k i).upd k j q = o.upd k j q := by
 unfold Own.upd; split <;> rfl
theorem Mk.take (w : Mk s M vs W h o m) {n : Int} (h1 : m.at_ ≤ 1000000000) (hn : 0 < n) (hn2 : n ≤ 1000000000) :
  HCalls Try.prog N.ref03_maker_take #[.pointer (some ⟨M, 0, none⟩), .int .i64 n] h (fun u h' => u = .int .i64 (takeV s m.at_ n) ∧ ∃ o', Mk s M vs W h' o' m.took ∧ ∀ k : Key, 3 ≤ k.1 → o' k = o k) := by
 obtain ⟨vb, vl, lb, b⟩ := w.box
 refine (take_ok w.own b.box w.src h1 hn hn2).mono ?_
 rintro u h' ⟨rfl, w2⟩
 exact ⟨rfl, _, ⟨w2, w.src, vb, vl, lb, b.at⟩, upd_frame (by decide)⟩
theorem Mk.fresh (w : Mk s M vs W h o m) (h0 : 0 ≤ m.next) (h1 : m.next ≤ 1000000000) :
  HCalls Try.prog N.ref03_maker_fresh #[.pointer (some ⟨M, 0, none⟩)] h (fun u h' => u = .int .i64 m.next ∧ ∃ o', Mk s M vs W h' o' m.freshed ∧ ∀ k : Key, 3 ≤ k.1 → o' k = o k) := by
 obtain ⟨vb, vl, lb, b⟩ := w.box
 refine (fresh_ok w.own b.box h0 h1).mono ?_
 rintro u h' ⟨rfl, w2, -⟩
 exact ⟨rfl, _, ⟨w2, w.src, vb, vl, lb, b.at⟩, upd_frame (by decide)⟩
theorem i32_rng {x : Int} : -2147483648 ≤ IntKind.i32.wrap x ∧ IntKind.i32.wrap x ≤ 2147483647 := by
 rw [IntKind.wrap_i32]; omega
def wordV (s : List Int) (m : MS) : Int :=
 if takeV s (m.at_ + 1) 8 = 0 then IntKind.i32.wrap (IntKind.i64.wrap (takeV s m.at_ 1048576 * 4099))
 else if takeV s (m.at_ + 1) 8 = 1 then IntKind.i32.wrap (IntKind.i64.wrap (-takeV s m.at_ 1048576))
 else if takeV s (m.at_ + 1) 8 = 2 then -2147483648
 else if takeV s (m.at_ + 1) 8 = 3 then IntKind.i32.wrap ((takeV s m.at_ 1048576).tmod 70000)
 else IntKind.i32.wrap (IntKind.i64.wrap ((takeV s m.at_ 1048576).tmod 20 - 4))
theorem wordV_rng : -2147483648 ≤ wordV s m ∧ wordV s m ≤ 2147483647 := by
 unfold wordV
 repeat' split
 all_goals first | exact i32_rng | decide
theorem Mk.word (w : Mk s M vs W h o m) (h1 : m.at_ ≤ 999999990) :
  HCalls Try.prog N.ref03_maker_word #[.pointer (some ⟨M, 0, none⟩)] h (fun u h' => u = .int .i32 (wordV s m) ∧ ∃ o', Mk s M vs W h' o' m.took.took ∧ ∀ k : Key, 3 ≤ k.1 → o' k = o k) := by
 refine calls_lift (args := [.pointer (some ⟨M, 0, none⟩)]) follows F.ref03_maker_word E.ref03_maker_word (Nat.le_of_ble_eq_true (by kernel_rfl)) fun K hK => ?_
 dsimp only [L.ref03_maker_word]
 refine lwp_hide fun z hz => ?_
 simp
 rw [hz]; clear hz z
 refine lwp_hide fun z hz => ?_
 simp
 refine call_to (by kernel_rfl) (w.take (by omega) (n := 1048576) (by decide) (by decide)) ?_
 rintro _ h2 ⟨rfl, o2, w2, f2⟩
 rw [hz]; clear hz z
 refine lwp_hide fun z hz => ?_
 simp
 refine call_to (by kernel_rfl) (w2.take (show m.at_ + 1 ≤ _ by omega) (n := 8) (by decide) (by decide)) ?_
 rintro _ h3 ⟨rfl, o3, w3, f3⟩
 have hx : m.took.at_ = m.at_ + 1 := rfl
 rw [hx]
 have hf : ∀ k : Key, 3 ≤ k.1 → o3 k = o k := fun k hk => (f3 k hk).trans (f2 k hk)
 have hwd : wordV s m = _ := wordV.eq_1 s m
 generalize wordV s m = r at hwd hK
 generalize takeV s (m.at_ + 1) 8 = q at hwd
 generalize takeV s m.at_ 1048576 = x at hwd
 by_cases c0 : q = 0
 ·rw [if_pos c0] at hwd
  simp [c0]
  exact hK _ _ ⟨by rw [hwd], _, w3, hf⟩
 rw [if_neg c0] at hwd
 by_cases c1 : q = 1
 ·rw [if_pos c1] at hwd
  simp [c1]
  refine do_neg rfl ?_
  simp
  exact hK _ _ ⟨by rw [hwd], _, w3, hf⟩
 rw [if_neg c1] at hwd
 by_cases c2 : q = 2
 ·rw [if_pos c2] at hwd
  simp [c2]
  exact hK _ _ ⟨by rw [hwd], _, w3, hf⟩
 rw [if_neg c2] at hwd
 by_cases c3 : q = 3
 ·rw [if_pos c3] at hwd
  simp [c3]
  exact hK _ _ ⟨by rw [hwd], _, w3, hf⟩
 rw [if_neg c3] at hwd
 simp [c0, c1, c2, c3]
 rw [hz]; clear hz z
 simp
 exact hK _ _ ⟨by rw [hwd], _, w3, hf⟩
end Go.Proofs.Ytfelpjfopgiabaa
namespace Go.Proofs.Ytfelpjfopgiabaa
open Go Go.Lft
def MS.add (m : MS) (b : Nat) (i : InsD) : MS := { m with blocks := m.blocks.set b { nth m.blocks b with ins := (nth m.blocks b).ins ++ [i] }, live := m.live ++ makesS i }
def conD (v : Int) (n : Int) : InsD := ⟨1, v, 0, [], ⟨n⟩⟩
def MS.constant (m : MS) (b : Nat) (n : Int) : MS := m.freshed.add b (conD m.next n)
def valAt (s : List Int) (m : MS) : Int := nth m.live (if takeV s (m.at_ + 1) 3 = 0 then m.live.length - 1 else (takeV s m.at_ m.live.length).toNat)
def someW (s : List Int) (m : MS) (b : Nat) : MS := (m.took.took).constant b (wordV s m)
def someS (s : List Int) (m : MS) (b : Nat) : Int × MS :=
 if m.live.length = 0 then (m.next, someW s m b)
 else if takeV s (m.at_ + 2) 9 = 0 then (m.next, someW s m.took.took.took b)
 else (valAt s m, m.took.took.took)
def MS.two (m : MS) (b : Nat) (op x y : Int) : MS := m.freshed.add b ⟨op, m.next, 0, [x, y], ⟨0⟩⟩
def binS (s : List Int) (m : MS) (b : Nat) (op : Int) : MS :=
 let r1 := someS s m b
 let r2 := someS s r1.2 b
 if takeV s r2.2.at_ 3 = 0 then
  (r2.2.took.took.constant b (IntKind.i32.wrap (IntKind.i64.wrap (takeV s (r2.2.at_ + 1) 40 - 8)))).two b op r1.1 r2.2.next
 else r2.2.took.two b op r1.1 r2.1
def ltuS (s : List Int) (m : MS) (b : Nat) : MS :=
 let r1 := someS s m b
 let r2 := someS s r1.2 b
 r2.2.two b 13 r1.1 r2.1
def divS (s : List Int) (m : MS) (b : Nat) : MS :=
 let r1 := someS s m b
 let m2 := r1.2.took.constant b (IntKind.i32.wrap (takeV s r1.2.at_ 12))
 if 0 < takeV s m2.at_ 3 then
  (m2.took.took.constant b (IntKind.i32.wrap (1 + IntKind.i32.wrap (takeV s (m2.at_ + 1) 12)))).two b 14 r1.1 m2.next
 else m2.took.two b 14 r1.1 r1.2.next
def mulwS (s : List Int) (m : MS) (b : Nat) : MS :=
 let r1 := someS s m b
 let r2 := someS s r1.2 b
 r2.2.freshed.freshed.add b ⟨18, r2.2.next, r2.2.next + 1, [r1.1, r2.1], ⟨0⟩⟩
def argsS (s : List Int) (b : Nat) : Nat → List Int × MS → List Int × MS := fun _ x => (x.1 ++ [(someS s x.2 b).1], (someS s x.2 b).2)
def callS (s : List Int) (m : MS) (b : Nat) : MS :=
 let r := up (argsS s b) (takeV s m.at_ 5).toNat ([], m.took)
 r.2.freshed.took.add b ⟨17, r.2.next, 0, r.1, ⟨IntKind.i32.wrap (takeV s r.2.at_ 5)⟩⟩
def addrS (s : List Int) (m : MS) (b : Nat) : Int × MS :=
 let m1 := m.took.constant b (IntKind.i32.wrap (takeV s m.at_ 9))
 if takeV s m1.at_ 3 = 0 then
  let r := someS s m1.took b
  let m3 := (r.2.constant b 7).two b 5 r.1 r.2.next
  (m3.next, m3.two b 2 m.next (r.2.next + 1))
 else (m.next, m1.took)
def offS (s : List Int) (m : MS) : Int × MS :=
 if takeV s (m.at_ + 1) 12 = 0 then (wordV s m.took.took, m.took.took.took.took) else (IntKind.i32.wrap (takeV s m.at_ 4), m.took.took)
def memoryS (s : List Int) (m : MS) (b : Nat) (store : Bool) : MS :=
 let a := addrS s m b
 let i := offS s a.2
 if store then (someS s i.2 b).2.add b ⟨16, 0, 0, [a.1, (someS s i.2 b).1], ⟨i.1⟩⟩
 else i.2.freshed.add b ⟨15, i.2.next, 0, [a.1], ⟨i.1⟩⟩
def opsL : List Int := [2, 2, 3, 4, 5, 6, 7, 8, 9, 10, 12, 11]
def instructionS (s : List Int) (b : Nat) (m : MS) : MS :=
 let k := takeV s m.at_ 20
 if k < 12 then binS s m.took b (nth opsL k.toNat)
 else if k = 12 then ltuS s m.took b
 else if k = 13 then divS s m.took b
 else if k < 16 then memoryS s m.took b (decide (k = 15))
 else if k = 16 then callS s m.took b
 else if k = 17 then mulwS s m.took b
 else m.took.took.took.constant b (wordV s m.took)
end Go.Proofs.Ytfelpjfopgiabaa
namespace Go.Proofs.Ytfelpjfopgiabaa
open Go Go.Lft
theorem loads_cells {H : View} {b n : Nat} {cs : List Value} (hc : cellsAt H ⟨b, 0, none⟩ cs) (hl : cs.length = n) : Un.ev H (.loads n) (.pointer (some ⟨b, 0, none⟩)) = some (.agg cs.toArray) := by
 have := cellsFrom_at hc n 0 #[] (by omega)
 simp only [Un.ev, vP, Option.bind_some]
 rw [this]
 simp [← hl]
theorem loads_new {H : View} {b n : Nat} {cs : Array Value} {t : TypeId} (hb : H b = some (.cells cs t (0, 0))) (hl : cs.size = n) : Un.ev H (.loads n) (.pointer (some ⟨b, 0, none⟩)) = some (.agg cs) := by
 have : cellsAt H ⟨b, 0, none⟩ cs.toList := ⟨cs, t, (0, 0), rfl, hb, by simp [List.take_of_length_le]⟩
 simpa using loads_cells this (by simpa using hl)
theorem MkB.stable {s : List Int} {M : Nat} {vs : Value} {W : View} {h : Heap} {o : Own} {m : MS} {vb vl : Value} {lb : List BlkM} (w : Owns W h o) (b : MkB M vs m o vb vl lb) :
  ∃ X : View, W.le X ∧ X.le (vw h) ∧ (∀ i, i ≤ 5 → cellH X ⟨M, i, none⟩ = some ((mkL vs m.at_ m.ps vb m.next vl).getD i undef)) ∧ SlRd X vb lb ∧ Av X vl ∧ ∀ i, i < m.blocks.length → Av X (nth lb i).phis.v ∧ Av X (nth lb i).ins.v := by
 obtain ⟨w5, s5⟩ := w.freeze (k := (0, 0)) (v := .slice (some ⟨M, 0, none⟩) 1 1) (l := [RawN.mk (n := 5) (mkL vs m.at_ m.ps vb m.next vl)]) b.box
 have hb2 : o.upd (0, 0) none (0, 2) = it T.api_Block vb lb := b.blk
 obtain ⟨w6, s6⟩ := w5.freeze (k := (0, 2)) (v := vb) (l := lb) hb2
 have s5 := s5.mono (le_plus (h := h) (w5.av (0, 2) _ hb2))
 refine ⟨_, View.le_trans (le_plus (h := h) (w.av (0, 0) _ b.box)) (le_plus (h := h) (w5.av (0, 2) _ hb2)), w6.wle, fun i hi => ?_, s6, w6.av (0, 1) _ b.live, fun i hi => ⟨w6.av (1, i) _ (b.phis i hi), w6.av (2, i) _ (b.ins i hi)⟩⟩
 have := ((s5.at (i := 0) (by simp)).part (RawN.p (n := 5) (o := i) hi)).raw
 simpa [slA] using this
variable {s : List Int} {M : Nat} {vs : Value} {W : View} {h : Heap} {o : Own} {m : MS}
theorem MkB.cell {vb vl : Value} {lb : List BlkM} (w : Owns W h o) (b : MkB M vs m o vb vl lb) {i : Nat} (hi : i ≤ 5) : cellH (vw h) ⟨M, i, none⟩ = some ((mkL vs m.at_ m.ps vb m.next vl).getD i undef) := w.raw b.box hi
theorem MkB.setBlk {vb vl : Value} {lb : List BlkM} (bb : MkB M vs m o vb vl lb) {b : Nat} (hb : b < m.blocks.length) {x' : BlkD} {y' : BlkM} {o' : Own} (hy : y'.term = x'.term) (h02 : o' (0, 2) = it T.api_Block vb (lb.set b y')) (h1 : o' (1, b) = it T.api_Phi y'.phis.v x'.phis) (h2 : o' (2, b) = it T.api_Ins y'.ins.v x'.ins)
  (ho : ∀ q : Key, q ≠ (0, 2) → q ≠ (1, b) → q ≠ (2, b) → o' q = o q) : MkB M vs { m with blocks := m.blocks.set b x' } o' vb vl (lb.set b y') := by
 have hbl : b < lb.length := by rw [bb.len]; exact hb
 refine ⟨(ho _ (by simp) (by simp) (by simp)).trans bb.box, (ho _ (by simp) (by simp) (by simp)).trans bb.live, h02, by simp [bb.len], fun j hj => ?_, fun j hj => ?_, fun j hj => ?_⟩
 all_goals
  have hj : j < m.blocks.length := by simpa using hj
  have hjl : j < lb.length := by rw [bb.len]; exact hj
  show _ = _
  simp only [nth_set hj, nth_set hjl]
  by_cases e : b = j
  ·subst e
   simp only [if_true]
   assumption
  ·simp only [if_neg e]
   first
    | exact bb.term j hj
    | exact (ho _ (by simp) (fun q => e (by injection q with _ q; exact q.symm)) (by simp)).trans (bb.phis j hj)
    | exact (ho _ (by simp) (by simp) (fun q => e (by injection q with _ q; exact q.symm))).trans (bb.ins j hj)
theorem Mk.value (w : Mk s M vs W h o m) (h1 : m.at_ ≤ 999999990) (hl : m.live.length ≤ 1000000000) :
  HCalls Try.prog N.ref03_maker_value #[.pointer (some ⟨M, 0, none⟩)] h (fun u h' => (m.live.length = 0 ∧ u = .tuple #[.int .i64 0, .bool false] ∧ h' = h) ∨ (m.live.length ≠ 0 ∧ u = .tuple #[.int .i64 (valAt s m), .bool true] ∧ I64 (valAt s m) ∧ ∃ o', Mk s M vs W h' o' m.took.took ∧ ∀ k : Key, 3 ≤ k.1 → o' k = o k)) := by
 refine calls_lift (args := [.pointer (some ⟨M, 0, none⟩)]) follows F.ref03_maker_value E.ref03_maker_value (Nat.le_of_ble_eq_true (by kernel_rfl)) fun K hK => ?_
 obtain ⟨vb, vl, lb, b⟩ := w.box
 have c5 : cellH (vw h) ⟨M, 5, none⟩ = some vl := b.cell w.own (i := 5) (by decide)
 have hsl := w.own.now b.live
 dsimp only [L.ref03_maker_value]
 refine lwp_hide fun z hz => ?_
 simp
 rw [hz]; clear hz z
 refine lwp_hide fun z hz => ?_
 by_cases h0 : m.live.length = 0
 ·have h0' : m.live = [] := List.eq_nil_of_length_eq_zero h0
  simp [c5, hsl.len, h0]
  exact hK _ _ (.inl ⟨h0, rfl, rfl⟩)
 ·have h0' : ¬ (m.live = []) := fun e => h0 (by rw [e]; rfl)
  simp [c5, hsl.len, h0']
  rw [hz]; clear hz z
  refine lwp_hide fun z hz => ?_
  simp [c5, hsl.len]
  refine call_to (by kernel_rfl) (w.take (by omega) (n := (m.live.length : Int)) (by omega) (by omega)) ?_
  rintro _ h2 ⟨rfl, o2, w2, f2⟩
  rw [hz]; clear hz z
  refine lwp_hide fun z hz => ?_
  simp
  refine call_to (by kernel_rfl) (w2.take (show m.at_ + 1 ≤ _ by omega) (n := 3) (by decide) (by decide)) ?_
  rintro _ h3 ⟨rfl, o3, w3, f3⟩
  have hx : m.took.at_ = m.at_ + 1 := rfl
  rw [hx]
  have hf : ∀ k : Key, 3 ≤ k.1 → o3 k = o k := fun k hk => (f3 k hk).trans (f2 k hk)
  have hv : valAt s m = _ := valAt.eq_1 s m
  obtain ⟨vb3, vl3, lb3, b3⟩ := w3.box
  have c53 : cellH (vw h3) ⟨M, 5, none⟩ = some vl3 := b3.cell w3.own (i := 5) (by decide)
  have hsl3 : SlRd (vw h3) vl3 m.live := w3.own.now b3.live
  obtain ⟨r0, r1⟩ := takeV_rng (s := s) (at_ := m.at_) (n := (m.live.length : Int)) (by omega)
  generalize takeV s m.at_ m.live.length = x at hv r0 r1
  generalize takeV s (m.at_ + 1) 3 = q at hv
  obtain ⟨i, hi, hvi, hii⟩ : ∃ i : Nat, i < m.live.length ∧ valAt s m = nth m.live i ∧ (i : Int) = if q = 0 then (m.live.length : Int) - 1 else x := by
   by_cases c : q = 0
   ·rw [if_pos c] at hv ⊢
    exact ⟨m.live.length - 1, by omega, hv, by omega⟩
   ·rw [if_neg c] at hv ⊢
    exact ⟨x.toNat, by omega, hv, by omega⟩
  have h64 : IntKind.i64.wrap ((m.live.length : Int) - 1) = (m.live.length : Int) - 1 := wrap64_id (by omega) (by omega)
  have fin : ∀ ρ : Env, ρ = [(0, .pointer (some ⟨M, 0, none⟩)), (2, .int .i64 0), (3, .bool false), (4, .int .i64 i), (17, .int .i64 x), (19, .int .i64 q)] → LC.wp Try.prog z (fnPost [.tmp 2, .tmp 3] K) ρ h3 := by
   rintro _ rfl
   rw [hz]; clear hz z
   refine lwp_hide fun z hz => ?_
   simp (disch := omega) [c53, hsl3.idx1 rfl, hsl3.int (View.le_refl _)]
   rw [hz]; clear hz z
   simp
   exact hK _ _ (.inr ⟨h0, by rw [hvi], by rw [hvi]; exact hsl3.range hi, o3, w3, hf⟩)
  by_cases c : q = 0
  ·rw [if_pos c] at hii
   simp [c, c53, hsl3.len, h64]
   refine fin _ ?_
   rw [hii, c]
  ·rw [if_neg c] at hii
   simp [c]
   refine fin _ ?_
   rw [hii]
theorem Mk.add (w : Mk s M vs W h o m) {b : Nat} {i : InsD} {v : Value} (hb : b < m.blocks.length) (hi : Rd W v i) (hn : (nth m.blocks b).ins.length ≤ 100000000) (hl : m.live.length ≤ 100000000) :
    HCalls Try.prog N.ref03_maker_add #[.pointer (some ⟨M, 0, none⟩), .int .i64 b, v] h (fun u h' => Nx s M vs W h' o (m.add b i)) := by
  refine calls_lift (args := [.pointer (some ⟨M, 0, none⟩), .int .i64 b, v]) follows F.ref03_maker_add E.ref03_maker_add (Nat.le_of_ble_eq_true (by kernel_rfl)) fun K hK => ?_
  obtain ⟨vb, vl, lb, bb⟩ := w.box
  obtain ⟨va, rfl, hir, hia⟩ := ins_val hi
  dsimp only [L.ref03_maker_add]
  refine lwp_hide fun z hz => ?_
  simp
  refine do_boxT rfl (hi.mono w.own.wle) fun h1 e1 hle1 hs1 hat => ?_
  have w1 := w.own.ext hle1
  have hbx : (grow W h h1) h.size = some (.cells #[.int .i64 i.op, .int .i64 i.dst, .int .i64 i.two, va, .int .i32 i.imm.v] T.api_Ins (0, 0)) := by
    rw [grow_new (Nat.le_refl _), e1]; simp [Value.cells]
  have hi1 := hi.mono (le_grow (h' := h1) w.own.wle)
  have src1 := w.src.mono (le_grow (h' := h1) w.own.wle)
  have hW1 := le_grow (h' := h1) w.own.wle
  clear hat e1
  have hld := loads_new hbx (n := 5) rfl
  generalize grow W h h1 = W1 at w1 hld hi1 src1 hW1
  generalize h.size = B at hld
  rw [hz]; clear hz z
  refine lwp_hide fun z hz => ?_
  obtain ⟨X, hWX, hX, cX, sX, avl, avX⟩ := bb.stable (s := s) w1
  have c3 : cellH X ⟨M, 3, none⟩ = some vb := cX 3 (by decide)
  have hbl : b < lb.length := by rw [bb.len]; exact hb
  have a1 := (sX.at hbl).part BlkM.p_ins
  have hsv := sX.bound
  have a2 : cellH X (((slA vb).add (b * 6)).add 1) = some (nth lb b).ins.v := by rw [nth_eq hbl]; exact a1.raw
  have hldX : Un.ev X (.loads 5) (.pointer (some ⟨B, 0, none⟩)) = some (.agg #[.int .i64 i.op, .int .i64 i.dst, .int .i64 i.two, va, .int .i32 i.imm.v]) := by
    have := ev_mono (ρ := fun _ => none) (e := .un (.loads 5) (.con (.pointer (some ⟨B, 0, none⟩)))) hWX (by simpa using hld)
    simpa using this
  refine drawn_at X hX ?_
  simp (disch := omega) [c3, sX.idxn (N := 6) rfl, a2, hldX]
  refine do_one (α := InsD) (W := W1) (d := i) El.s_api_Ins rfl hi1 fun u5 h5 src hle5 hs5 => ⟨View.le_trans hX hle5, ?_⟩
  refine (w1.ext' hle5).do_append (k := (2, b)) (α := InsD) (v := (nth lb b).ins.v) (l := (nth m.blocks b).ins) (l2 := [i]) (bb.ins b hb) El.s_api_Ins rfl rfl src (by simp; omega) (by simp; omega) fun v6 h6 w6 m6 => ⟨(m6.view (View.le_trans hX hle5) (avX b hb).2).1, ?_⟩
  have hv6 := (w6.cells (k := (2, b)) Own.upd_self).2
  refine w6.do_part (k := (0, 2)) (α := BlkM) BlkM.p_ins (v := vb) (l := lb) (i := b) (d := ⟨v6⟩) bb.blk (by kernel_rfl) rfl rfl hbl (rd_raw.2 ⟨rfl, hv6⟩) fun h7 w7 _ => ?_
  have b7 := bb.setBlk hb (x' := { nth m.blocks b with ins := (nth m.blocks b).ins ++ [i] }) (y' := { lb[b] with ins := ⟨v6⟩ }) (o' := (o.upd (2, b) (it T.api_Ins v6 ((nth m.blocks b).ins ++ [i]))).upd (0, 2) (it T.api_Block vb (lb.set b { lb[b] with ins := ⟨v6⟩ }))) (by rw [← bb.term b hb, nth_eq hbl]) Own.upd_self (by rw [← nth_eq hbl]; exact bb.phis b hb) ((Own.upd_ne (by simp)).trans Own.upd_self) (fun q h1 h2 h3 => by rw [Own.upd_ne h1, Own.upd_ne h3])
  generalize hm7 : ({ m with blocks := m.blocks.set b { nth m.blocks b with ins := (nth m.blocks b).ins ++ [i] } } : MS) = m7 at b7
  have hadd : m.add b i = { m7 with live := m.live ++ makesS i } := by rw [← hm7]; rfl
  have hl7 : m7.live = m.live := by rw [← hm7]
  have hf7 : ∀ k : Key, 3 ≤ k.1 → ((o.upd (2, b) (it T.api_Ins v6 ((nth m.blocks b).ins ++ [i]))).upd (0, 2) (it T.api_Block vb (lb.set b { lb[b] with ins := ⟨v6⟩ }))) k = o k := fun k hk => by
    rw [Own.upd_ne (by rintro rfl; simp at hk), Own.upd_ne (by rintro rfl; simp at hk)]
  generalize (o.upd (2, b) (it T.api_Ins v6 ((nth m.blocks b).ins ++ [i]))).upd (0, 2) (it T.api_Block vb (lb.set b { lb[b] with ins := ⟨v6⟩ })) = o7 at w7 b7 hf7
  generalize lb.set b { lb[b] with ins := ⟨v6⟩ } = lb7 at b7
  clear src avX m6
  rw [hz]; clear hz z
  refine lwp_hide fun z hz => ?_
  have hld7 : Un.ev (vw h7) (.loads 5) (.pointer (some ⟨B, 0, none⟩)) = some (.agg #[.int .i64 i.op, .int .i64 i.dst, .int .i64 i.two, va, .int .i32 i.imm.v]) := by
    have := ev_mono (ρ := fun _ => none) (e := .un (.loads 5) (.con (.pointer (some ⟨B, 0, none⟩)))) w7.wle (by simpa using hld)
    simpa using this
  simp [hld7]
  refine call_to (by kernel_rfl) (refMakes_ok (hi1.mono w7.wle)) ?_
  rintro u8 h8 ⟨hle8, hu8, -⟩
  have w8 := w7.ext hle8
  have hu8 : SlRd (grow W1 h7 h8) u8 (makesS i) := hu8.mono (fresh_in (Nat.le_refl _) (View.le_refl _))
  have hW8 := le_grow (h' := h8) w7.wle
  generalize grow W1 h7 h8 = W8 at w8 hu8 hW8
  rw [hz]; clear hz z
  have c58 : cellH (vw h8) ⟨M, 5, none⟩ = some vl := b7.cell w8 (i := 5) (by decide)
  have hmk : (makesS i).length ≤ 2 := by unfold makesS; repeat' split
                                         all_goals simp
  simp [c58]
  refine w8.do_append (k := (0, 1)) (α := Int) (v := vl) (l := m.live) (l2 := makesS i) (by rw [← hl7]; exact b7.live) El.s_int rfl rfl (hu8.src w8.wle) (by omega) (by omega) fun v9 h9 w9 m9 => ?_
  have hv9 := (w9.cells (k := (0, 1)) Own.upd_self).2
  have hbx9 : (o7.upd (0, 1) (it T.int v9 (m.live ++ makesS i))) (0, 0) = bx T.ref03_maker M (RawN.mk (n := 5) (mkL vs m7.at_ m7.ps vb m7.next vl)) := b7.box
  refine w9.do_cell (k := (0, 0)) (n := 5) (i := 5) (e := T.ref03_maker) (B := M) (l := mkL vs m7.at_ m7.ps vb m7.next vl) hbx9 (by decide) (by kernel_rfl) rfl rfl hv9 fun h10 w10 _ => ?_
  refine hK _ _ ⟨W8, _, View.le_trans hW1 hW8, ⟨w10, src1.mono hW8, vb, v9, lb7, ?_⟩, fun k hk => ?_⟩
  · rw [hadd]
    exact ⟨rfl, rfl, b7.blk, b7.len, b7.term, b7.phis, b7.ins⟩
  · rw [Own.upd_ne (by rintro rfl; simp at hk), Own.upd_ne (by rintro rfl; simp at hk)]
    exact hf7 k hk
end Go.Proofs.Ytfelpjfopgiabaa
namespace Go.Proofs.Ytfelpjfopgiabaa
open Go Go.Lft
structure MS.ok (c : Nat) (m : MS) : Prop where
 at_ : m.at_ ≤ c
 n0 : 0 ≤ m.next
 next : m.next ≤ c
 live : m.live.length ≤ c
 ins : ∀ i, (nth m.blocks i).ins.length ≤ c
theorem MS.ok.mono {c d : Nat} {m : MS} (h : m.ok c) (hd : c ≤ d) : m.ok d :=
 ⟨by have := h.at_; omega, h.n0, by have := h.next; omega, by have := h.live; omega, fun i => by have := h.ins i; omega⟩
theorem MS.ok.took {c : Nat} {m : MS} (h : m.ok c) : m.took.ok (c + 1) :=
 ⟨by have := h.at_; show m.at_ + 1 ≤ _; omega, h.n0, by have := h.next; show m.next ≤ _; omega, by have := h.live; show m.live.length ≤ _; omega, fun i => by have := h.ins i; show (nth m.blocks i).ins.length ≤ _; omega⟩
theorem MS.ok.freshed {c : Nat} {m : MS} (h : m.ok c) : m.freshed.ok (c + 1) :=
 ⟨by have := h.at_; show m.at_ ≤ _; omega, by have := h.n0; show 0 ≤ m.next + 1; omega, by have := h.next; show m.next + 1 ≤ _; omega, by have := h.live; show m.live.length ≤ _; omega, fun i => by have := h.ins i; show (nth m.blocks i).ins.length ≤ _; omega⟩
theorem makes_le2 {i : InsD} : (makesS i).length ≤ 2 := by
 unfold makesS
 repeat' split
 all_goals simp
theorem MS.ok.add {c b : Nat} {m : MS} {i : InsD} (h : m.ok c) : (m.add b i).ok (c + 2) := by
 refine ⟨by have := h.at_; show m.at_ ≤ _; omega, h.n0, by have := h.next; show m.next ≤ _; omega, ?_, fun j => ?_⟩
 ·have := h.live
  have := makes_le2 (i := i)
  show (m.live ++ makesS i).length ≤ _
  rw [List.length_append]; omega
 ·show (nth (m.blocks.set b _) j).ins.length ≤ _
  have hj := h.ins j
  rcases Nat.lt_or_ge j m.blocks.length with hl | hl
  ·rw [nth_set hl]
   split
   ·rename_i e
    subst e
    rw [List.length_append, List.length_singleton]; omega
   ·omega
  ·rw [nth_ge (by simpa using hl)]
   rw [nth_ge hl] at hj; omega
theorem MS.ok.constant {c b : Nat} {m : MS} {n : Int} (h : m.ok c) : (m.constant b n).ok (c + 3) := h.freshed.add
theorem MS.ok.two {c b : Nat} {m : MS} {op x y : Int} (h : m.ok c) : (m.two b op x y).ok (c + 3) := h.freshed.add
variable {s : List Int} {M : Nat} {vs : Value} {W : View} {h : Heap} {o : Own} {m : MS}
theorem MS.ok.someS {c b : Nat} (h : m.ok c) : (someS s m b).2.ok (c + 10) := by
 unfold Go.Proofs.Ytfelpjfopgiabaa.someS
 repeat' split
 ·exact (h.took.took.constant).mono (by omega)
 ·exact (h.took.took.took.took.took.constant).mono (by omega)
 ·exact (h.took.took.took).mono (by omega)
theorem add_len {b : Nat} {i : InsD} : (m.add b i).blocks.length = m.blocks.length := by simp [MS.add]
theorem some_len {b : Nat} : (someS s m b).2.blocks.length = m.blocks.length := by
 unfold someS
 repeat' split
 all_goals simp [someW, MS.constant, add_len, MS.took, MS.freshed]
theorem Mk.constant (w : Mk s M vs W h o m) {b c : Nat} {n : Int} (hb : b < m.blocks.length) (hm : m.ok c) (hc : c ≤ 1000000) (hn : -2147483648 ≤ n ∧ n ≤ 2147483647) :
  HCalls Try.prog N.ref03_maker_constant #[.pointer (some ⟨M, 0, none⟩), .int .i64 b, .int .i32 n] h (fun u h' => u = .int .i64 m.next ∧ Nx s M vs W h' o (m.constant b n)) := by
 refine calls_lift (args := [.pointer (some ⟨M, 0, none⟩), .int .i64 b, .int .i32 n]) follows F.ref03_maker_constant E.ref03_maker_constant (Nat.le_of_ble_eq_true (by kernel_rfl)) fun K hK => ?_
 have q1 := hm.next
 have q0 := hm.n0
 dsimp only [L.ref03_maker_constant]
 refine lwp_hide fun z hz => ?_
 simp
 rw [hz]; clear hz z
 refine lwp_hide fun z hz => ?_
 simp
 refine call_to (by kernel_rfl) (w.fresh q0 (by omega)) ?_
 rintro _ h2 ⟨rfl, o2, w2, f2⟩
 rw [hz]; clear hz z
 refine lwp_hide fun z hz => ?_
 simp
 refine do_build (z := .agg #[.int .i64 0, .int .i64 0, .int .i64 0, .slice none 0 0, .int .i32 0]) (places := [(0, 1), (1, 1), (2, 1), (3, 1), (4, 1)]) (vs := [(0, .int .i64 1), (1, .int .i64 m.next), (4, .int .i32 n)]) (cs := #[.int .i64 1, .int .i64 m.next, .int .i64 0, .slice none 0 0, .int .i32 n]) (by kernel_rfl) (by kernel_rfl) (by simp) (by rfl) ?_
 have hm2 := hm.freshed
 refine call_to (by kernel_rfl) (w2.add (i := conD m.next n) hb (rd_insOf (imm := ⟨n⟩) ⟨⟨by decide, by decide⟩, ⟨by omega, by omega⟩, ⟨by decide, by decide⟩, hn⟩ nil_sl) (by have := hm2.ins b; omega) (by have := hm2.live; omega)) ?_
 rintro u3 h3 n3
 rw [hz]; clear hz z
 simp
 exact hK _ _ ⟨rfl, n3.trans (View.le_refl _) f2⟩
theorem mk_some (w : Mk s M vs W h o m) {b c : Nat} (hb : b < m.blocks.length) (hm : m.ok c) (hc : c ≤ 999990) :
  HCalls Try.prog N.ref03_maker_some #[.pointer (some ⟨M, 0, none⟩), .int .i64 b] h (fun u h' => u = .int .i64 (someS s m b).1 ∧ I64 (someS s m b).1 ∧ Nx s M vs W h' o (someS s m b).2) := by
 refine calls_lift (args := [.pointer (some ⟨M, 0, none⟩), .int .i64 b]) follows F.ref03_maker_some E.ref03_maker_some (Nat.le_of_ble_eq_true (by kernel_rfl)) fun K hK => ?_
 have qa := hm.at_
 have ql := hm.live
 have hsd : someS s m b = _ := someS.eq_1 s m b
 dsimp only [L.ref03_maker_some]
 refine lwp_hide fun z hz => ?_
 simp
 rw [hz]; clear hz z
 refine lwp_hide fun z hz => ?_
 simp
 refine call_to (by kernel_rfl) (w.value (by omega) (by omega)) ?_
 rintro u h2 hu
 have con : ∀ {m2 : MS} {o2 : Own} {h2 : Heap} {ρ : Env} {z : LC}, Mk s M vs W h2 o2 m2 → (∀ k : Key, 3 ≤ k.1 → o2 k = o k) → m2.ok (c + 3) → b < m2.blocks.length → someS s m b = (m2.next, someW s m2 b) → Lft.look ρ 0 = some (.pointer (some ⟨M, 0, none⟩)) → Lft.look ρ 1 = some (.int .i64 b) →
   LC.wp Try.prog (.seq (.reg false (.loud [19, 20, 21] [(19, (.tmp 0)), (20, (.tmp 1))] [(21, (.tmp 0))] none [] false (.call ⟨.value (.func 58), #[(.tmp 21)], #[72]⟩) 21 (some 22) true
   (.loud [] [] [(19, (.tmp 19)), (20, (.tmp 20)), (22, (.tmp 22))] none [] false (.call ⟨.value (.func 57), #[(.tmp 19), (.tmp 20), (.tmp 22)], #[72, 3, 21]⟩) 3 (some 23) true
    (.fin [4] [(4, (.tmp 23))] [])))) .ret) (thenL (LC.wp Try.prog z (fnPost [.tmp 4] K)) (fnPost [.tmp 4] K)) ρ h2 := by
  intro m2 o2 h2 ρ z w2 f2 k2 b2 e2 r0 r1
  refine lwp_hide fun y hy => ?_
  simp [r0, r1]
  refine call_to (by kernel_rfl) (w2.word (by have := k2.at_; omega)) ?_
  rintro _ h3 ⟨rfl, o3, w3, f3⟩
  simp [look_setE, look_kill, r0, r1]
  refine call_to (by kernel_rfl) (w3.constant (n := wordV s m2) b2 k2.took.took (by omega) wordV_rng) ?_
  rintro _ h4 ⟨rfl, n4⟩
  rw [hy]; clear hy y
  simp [look_setE, look_kill]
  refine hK _ _ ⟨by rw [e2]; rfl, by rw [e2]; have := k2.n0; have := k2.next; exact ⟨by show _ ≤ m2.next; omega, by show m2.next ≤ _; omega⟩, ?_⟩
  rw [e2]
  exact n4.trans (View.le_refl _) fun k hk => (f3 k hk).trans (f2 k hk)
 rcases hu with ⟨h0, rfl, rfl⟩ | ⟨h0, rfl, hi64, o2, w2, f2⟩
 ·rw [if_pos h0] at hsd
  simp
  rw [hz]; clear hz z
  refine lwp_hide fun z hz => ?_
  refine lwp_hide fun y hy => ?_
  simp
  rw [hy]; clear hy y
  refine lwp_cond_t (by simp) ?_
  exact con w (fun _ _ => rfl) (hm.mono (by omega)) hb hsd (by simp [look_setE, look_kill]) (by simp [look_setE, look_kill])
 ·rw [if_neg h0] at hsd
  simp
  rw [hz]; clear hz z
  refine lwp_hide fun z hz => ?_
  refine lwp_hide fun y hy => ?_
  simp
  have k2 := hm.took.took
  refine call_to (by kernel_rfl) (w2.take (by have := k2.at_; omega) (n := 9) (by decide) (by decide)) ?_
  rintro _ h3 ⟨rfl, o3, w3, f3⟩
  have hx : m.took.took.at_ = m.at_ + 2 := rfl
  rw [hx]
  simp
  rw [hy]; clear hy y
  by_cases c9 : takeV s (m.at_ + 2) 9 = 0
  ·rw [if_pos c9] at hsd
   refine lwp_cond_t (by simp [c9]) ?_
   exact con w3 (fun k hk => (f3 k hk).trans (f2 k hk)) k2.took hb hsd (by simp [look_setE, look_kill]) (by simp [look_setE, look_kill])
  ·rw [if_neg c9] at hsd
   refine lwp_cond_f (by simp [c9]) ?_
   simp
   rw [hz]; clear hz z
   simp
   refine hK _ _ ⟨by rw [hsd], by rw [hsd]; exact hi64, ?_⟩
   rw [hsd]
   exact w3.nx.trans (View.le_refl _) fun k hk => (f3 k hk).trans (f2 k hk)
end Go.Proofs.Ytfelpjfopgiabaa
namespace Go.Proofs.Ytfelpjfopgiabaa
open Go Go.Lft
def Nz (s : List Int) (M : Nat) (vs : Value) (W0 : View) (h : Heap) (o0 : Own) (m : MS) (u : Value) (ds : List Int) : Prop := ∃ W o, W0.le W ∧ Mk s M vs W h o m ∧ (∀ k : Key, 3 ≤ k.1 → o k = o0 k) ∧ SlRd W u ds
section
variable {s : List Int} {M : Nat} {vs : Value} {W0 : View} {h : Heap} {o0 : Own} {m : MS} {u : Value} {ds : List Int}
theorem Nx.z (n : Nx s M vs W0 h o0 m) : Nz s M vs W0 h o0 m (.slice none 0 0) [] := by
 obtain ⟨W, o, h1, h2, h3⟩ := n
 exact ⟨W, o, h1, h2, h3, nil_sl⟩
theorem Nz.x (n : Nz s M vs W0 h o0 m u ds) : Nx s M vs W0 h o0 m := by
 obtain ⟨W, o, h1, h2, h3, _⟩ := n
 exact ⟨W, o, h1, h2, h3⟩
theorem Nz.call {f : FuncId} {args : Array Value} {m' : MS} {U : Value → Prop} (hc : ∀ {W o}, Mk s M vs W h o m → HCalls Try.prog f args h (fun u h' => U u ∧ Nx s M vs W h' o m')) (n : Nz s M vs W0 h o0 m u ds) :
  HCalls Try.prog f args h (fun v h' => U v ∧ Nz s M vs W0 h' o0 m' u ds) := by
 obtain ⟨W, o, h1, h2, h3, h4⟩ := n
 refine (hc h2).mono ?_
 rintro v h' ⟨hU, W', o', g1, g2, g3⟩
 exact ⟨hU, W', o', View.le_trans h1 g1, g2, fun k hk => (g3 k hk).trans (h3 k hk), h4.mono g1⟩
theorem nz_take (n : Nz s M vs W0 h o0 m u ds) {c : Nat} (hm : m.ok c) (hc : c ≤ 1000000) {k : Int} (hk : 0 < k) (hk2 : k ≤ 1000000000) :
  HCalls Try.prog N.ref03_maker_take #[.pointer (some ⟨M, 0, none⟩), .int .i64 k] h (fun v h' => v = .int .i64 (takeV s m.at_ k) ∧ Nz s M vs W0 h' o0 m.took u ds) :=
 n.call (U := fun v => v = _) fun w => ((w.take (by have := hm.at_; omega) hk hk2).mono fun v h' ⟨e, o', w', f'⟩ => ⟨e, w'.nx.trans (View.le_refl _) f'⟩)
theorem nz_fresh (n : Nz s M vs W0 h o0 m u ds) {c : Nat} (hm : m.ok c) (hc : c ≤ 1000000) :
  HCalls Try.prog N.ref03_maker_fresh #[.pointer (some ⟨M, 0, none⟩)] h (fun v h' => v = .int .i64 m.next ∧ Nz s M vs W0 h' o0 m.freshed u ds) :=
 n.call (U := fun v => v = _) fun w => ((w.fresh hm.n0 (by have := hm.next; omega)).mono fun v h' ⟨e, o', w', f'⟩ => ⟨e, w'.nx.trans (View.le_refl _) f'⟩)
theorem nz_word (n : Nz s M vs W0 h o0 m u ds) {c : Nat} (hm : m.ok c) (hc : c ≤ 1000000) :
  HCalls Try.prog N.ref03_maker_word #[.pointer (some ⟨M, 0, none⟩)] h (fun v h' => v = .int .i32 (wordV s m) ∧ Nz s M vs W0 h' o0 m.took.took u ds) :=
 n.call (U := fun v => v = _) fun w => ((w.word (by have := hm.at_; omega)).mono fun v h' ⟨e, o', w', f'⟩ => ⟨e, w'.nx.trans (View.le_refl _) f'⟩)
theorem nz_constant (n : Nz s M vs W0 h o0 m u ds) {b c : Nat} (hb : b < m.blocks.length) (hm : m.ok c) (hc : c ≤ 1000000) {k : Int} (hk : -2147483648 ≤ k ∧ k ≤ 2147483647) :
  HCalls Try.prog N.ref03_maker_constant #[.pointer (some ⟨M, 0, none⟩), .int .i64 b, .int .i32 k] h (fun v h' => v = .int .i64 m.next ∧ Nz s M vs W0 h' o0 (m.constant b k) u ds) :=
 n.call (U := fun v => v = _) fun w => w.constant hb hm hc hk
theorem nz_some (n : Nz s M vs W0 h o0 m u ds) {b c : Nat} (hb : b < m.blocks.length) (hm : m.ok c) (hc : c ≤ 999990) :
  HCalls Try.prog N.ref03_maker_some #[.pointer (some ⟨M, 0, none⟩), .int .i64 b] h (fun v h' => (v = .int .i64 (someS s m b).1 ∧ I64 (someS s m b).1) ∧ Nz s M vs W0 h' o0 (someS s m b).2 u ds) :=
 n.call (U := fun v => v = _ ∧ _) fun w => (mk_some w hb hm hc).mono fun v h' ⟨e1, e2, e3⟩ => ⟨⟨e1, e2⟩, e3⟩
theorem nz_add (n : Nz s M vs W0 h o0 m u ds) {b c : Nat} {op d two imm : Int} (hb : b < m.blocks.length) (hm : m.ok c) (hc : c ≤ 1000000) (h1 : I64 op) (h2 : I64 d) (h3 : I64 two) (h4 : -2147483648 ≤ imm ∧ imm ≤ 2147483647) :
  HCalls Try.prog N.ref03_maker_add #[.pointer (some ⟨M, 0, none⟩), .int .i64 b, .agg #[.int .i64 op, .int .i64 d, .int .i64 two, u, .int .i32 imm]] h (fun v h' => Nx s M vs W0 h' o0 (m.add b ⟨op, d, two, ds, ⟨imm⟩⟩)) := by
 obtain ⟨W, o, g1, g2, g3, g4⟩ := n
 refine (g2.add (i := ⟨op, d, two, ds, ⟨imm⟩⟩) hb (rd_insOf (imm := ⟨imm⟩) ⟨h1, h2, h3, h4⟩ g4) (by have := hm.ins b; omega) (by have := hm.live; omega)).mono ?_
 rintro v h' n'
 exact n'.trans g1 g3
theorem Nz.lit {po : OP} (n : Nz s M vs W0 h o0 m u ds) {ty : TypeId} {ps : Array (Nat × Operand)} {us : List (Nat × Value)} {ls : List Int} {k : Nat} {K : Value → Heap → Prop}
  (hp : ps.map (fun p => (p.1, asg us p.2)) = (((ls.map fun x => Value.int .i64 x).zipIdx 0).map fun p => (p.2, p.1)).toArray) (hr : ∀ x ∈ ls, I64 x) (hn : ls.length = k) (hb : k ≤ 16777216)
  (hk : ∀ a n c h', (vw h).le (vw h') → Nz s M vs W0 h' o0 m (.slice a n c) ls → K (.slice a n c) h') : @Lft.step po Try.prog (.buildSlice T.s_int k ps) ty us h K := by
 obtain ⟨W, o, g1, g2, g3, g4⟩ := n
 have hra : ∀ l : List Int, (∀ x ∈ l, I64 x) → RdAll W (l.map fun x => Value.int .i64 x) l := by
  intro l
  induction l with
  | nil => intro _; trivial
  | cons a l ih => intro hl; exact ⟨rd_int.2 ⟨rfl, hl a (by simp)⟩, ih fun x hx => hl x (by simp [hx])⟩
 refine do_litN (X := W) (ds := ls) (vs := ls.map fun x => Value.int .i64 x) rfl El.s_int hp (hra ls hr) g2.own.wle hn hb fun v h' hle hs hv _ => ?_
 have hs2 := hv _ (le_grow g2.own.wle) (grow_new (Nat.le_refl _))
 obtain ⟨a, cp, rfl, _⟩ := id hs2
 refine hk _ _ _ h' hle ?_
 exact ⟨_, o, View.le_trans g1 (le_grow g2.own.wle), ⟨g2.own.ext hle, g2.src.mono (le_grow g2.own.wle), g2.box⟩, g3, hs2⟩
end
theorem MS.ok.nextI {c : Nat} {m : MS} (h : m.ok c) (hc : c ≤ 1000000) : I64 m.next := by
 have := h.n0; have := h.next; constructor <;> omega
theorem constant_len {m : MS} {b : Nat} {n : Int} : (m.constant b n).blocks.length = m.blocks.length := add_len
theorem two_len {m : MS} {b : Nat} {op x y : Int} : (m.two b op x y).blocks.length = m.blocks.length := add_len
theorem i64c {x : Int} (h0 : -1000 ≤ x := by decide) (h1 : x ≤ 1000 := by decide) : I64 x := ⟨by omega, by omega⟩
theorem mk_memory {s : List Int} {M : Nat} {vs : Value} {W0 : View} {h : Heap} {o0 : Own} {m : MS} (n : Nx s M vs W0 h o0 m) {b c : Nat} {store : Bool} (hb : b < m.blocks.length) (hm : m.ok c) (hc : c ≤ 900000) :
  HCalls Try.prog N.ref03_maker_memory #[.pointer (some ⟨M, 0, none⟩), .int .i64 b, .bool store] h (fun v h' => Nx s M vs W0 h' o0 (memoryS s m b store)) := by
 refine calls_lift (args := [.pointer (some ⟨M, 0, none⟩), .int .i64 b, .bool store]) follows F.ref03_maker_memory E.ref03_maker_memory (Nat.le_of_ble_eq_true (by kernel_rfl)) fun K hK => ?_
 dsimp only [L.ref03_maker_memory]
 have n := n.z
 have hmm : memoryS s m b store = _ := memoryS.eq_1 s m b store
 refine lwp_hide fun z hz => ?_
 simp
 refine call_to (by kernel_rfl) (nz_take n hm (by omega) (k := 9) (by decide) (by decide)) ?_
 rintro _ h1 ⟨rfl, n⟩
 simp
 refine call_to (by kernel_rfl) (nz_constant n (b := b) hb hm.took (by omega) (k := IntKind.i32.wrap (takeV s m.at_ 9)) i32_rng) ?_
 rintro _ h2 ⟨rfl, n⟩
 have q := hm.took.constant (b := b) (n := IntKind.i32.wrap (takeV s m.at_ 9))
 have hb1 : b < (m.took.constant b (IntKind.i32.wrap (takeV s m.at_ 9))).blocks.length := by rw [constant_len]; exact hb
 obtain ⟨m1, hm1⟩ : ∃ m1, m1 = m.took.constant b (IntKind.i32.wrap (takeV s m.at_ 9)) := ⟨_, rfl⟩
 have had : addrS s m b = _ := addrS.eq_1 s m b
 rw [← hm1] at n q hb1
 simp only [← hm1] at had
 have hnx : I64 m.next := hm.nextI (by omega)
 have hnt : m.took.next = m.next := rfl
 rw [hnt]
 generalize m.next = a0 at had hnx
 clear hm1 hm hnt
 rw [hz]; clear hz z
 refine lwp_hide fun z hz => ?_
 have fin : ∀ (a : Int) (m2 : MS) (h' : Heap) (ρ : Env), addrS s m b = (a, m2) → I64 a → m2.ok (c + 30) → b < m2.blocks.length → Nz s M vs W0 h' o0 m2 (.slice none 0 0) [] → Lft.look ρ 0 = some (.pointer (some ⟨M, 0, none⟩)) → Lft.look ρ 1 = some (.int .i64 b) → Lft.look ρ 2 = some (.bool store) → Lft.look ρ 6 = some (.int .i64 a) → LC.wp Try.prog z (fnPost [] K) ρ h' := by
  intro a m2 h' ρ e ha q hb n r0 r1 r2 r6
  rw [hz]; clear hz z
  simp only [e] at hmm
  refine lwp_hide fun z hz => ?_
  simp [look_setE, look_kill, r0, r1, r2, r6]
  refine call_to (by kernel_rfl) (nz_take n q (by omega) (k := 4) (by decide) (by decide)) ?_
  rintro _ h1 ⟨rfl, n⟩
  simp [look_setE, look_kill, r0, r1, r2, r6]
  rw [hz]; clear hz z
  refine lwp_hide fun z hz => ?_
  have fin2 : ∀ (i : Int) (m3 : MS) (h' : Heap) (ρ : Env), offS s m2 = (i, m3) → (-2147483648 ≤ i ∧ i ≤ 2147483647) → m3.ok (c + 40) → b < m3.blocks.length → Nz s M vs W0 h' o0 m3 (.slice none 0 0) [] → Lft.look ρ 0 = some (.pointer (some ⟨M, 0, none⟩)) → Lft.look ρ 1 = some (.int .i64 b) → Lft.look ρ 2 = some (.bool store) → Lft.look ρ 6 = some (.int .i64 a) → Lft.look ρ 11 = some (.int .i32 i) → LC.wp Try.prog z (fnPost [] K) ρ h' := by
   intro i m3 h' ρ e hi q hb n r0 r1 r2 r6 r11
   rw [hz]; clear hz z
   simp only [e] at hmm
   refine lwp_hide fun z hz => ?_
   simp [look_setE, look_kill, r0, r1, r2, r6, r11]
   rw [hz]; clear hz z
   cases store with
   | true =>
    rw [if_pos rfl] at hmm
    refine lwp_cond_t (by simp [look_setE, look_kill, r2]) ?_
    simp [look_setE, look_kill, r0, r1, r2, r6, r11]
    refine call_to (by kernel_rfl) (nz_some n hb q (by omega)) ?_
    rintro _ h1 ⟨⟨rfl, hs⟩, n⟩
    refine n.lit (ls := [a, (someS s m3 b).1]) (by simp) (by simp [ha, hs]) rfl (by decide) fun ua un uc h2 _ n => ?_
    refine do_build (z := .agg #[.int .i64 0, .int .i64 0, .int .i64 0, .slice none 0 0, .int .i32 0]) (places := [(0, 1), (1, 1), (2, 1), (3, 1), (4, 1)]) (vs := [(0, .int .i64 16), (3, .slice ua un uc), (4, .int .i32 i)]) (cs := #[.int .i64 16, .int .i64 0, .int .i64 0, .slice ua un uc, .int .i32 i]) (by kernel_rfl) (by kernel_rfl) (by simp) (by rfl) ?_
    refine call_to (by kernel_rfl) (nz_add n (b := b) (by rw [some_len]; exact hb) (q.someS (b := b)) (by omega) i64c i64c i64c hi) ?_
    rintro _ h3 n
    refine hK _ _ ?_
    rw [hmm]; exact n
   | false =>
    rw [if_neg (by simp)] at hmm
    refine lwp_cond_f (by simp [look_setE, look_kill, r2]) ?_
    simp [look_setE, look_kill, r0, r1, r2, r6, r11]
    refine call_to (by kernel_rfl) (nz_fresh n q (by omega)) ?_
    rintro _ h1 ⟨rfl, n⟩
    refine n.lit (ls := [a]) (by simp) (by simp [ha]) rfl (by decide) fun ua un uc h2 _ n => ?_
    refine do_build (z := .agg #[.int .i64 0, .int .i64 0, .int .i64 0, .slice none 0 0, .int .i32 0]) (places := [(0, 1), (1, 1), (2, 1), (3, 1), (4, 1)]) (vs := [(0, .int .i64 15), (1, .int .i64 m3.next), (3, .slice ua un uc), (4, .int .i32 i)]) (cs := #[.int .i64 15, .int .i64 m3.next, .int .i64 0, .slice ua un uc, .int .i32 i]) (by kernel_rfl) (by kernel_rfl) (by simp) (by rfl) ?_
    refine call_to (by kernel_rfl) (nz_add n (b := b) hb q.freshed (by omega) i64c (q.nextI (by omega)) i64c hi) ?_
    rintro _ h3 n
    refine hK _ _ ?_
    rw [hmm]; exact n
  have hof : offS s m2 = _ := offS.eq_1 s m2
  refine lwp_hide fun y hy => ?_
  simp [look_setE, look_kill, r0, r1, r2, r6]
  refine call_to (by kernel_rfl) (nz_take n q.took (by omega) (k := 12) (by decide) (by decide)) ?_
  rintro _ h2 ⟨rfl, n⟩
  have hx : m2.took.at_ = m2.at_ + 1 := rfl
  rw [hx]
  simp [look_setE, look_kill, r0, r1, r2, r6]
  rw [hy]; clear hy y
  by_cases c12 : takeV s (m2.at_ + 1) 12 = 0
  ·rw [if_pos c12] at hof
   refine lwp_cond_t (by simp [look_setE, look_kill, c12]) ?_
   simp [look_setE, look_kill, r0, r1, r2, r6]
   refine call_to (by kernel_rfl) (nz_word n q.took.took (by omega)) ?_
   rintro _ h3 ⟨rfl, n⟩
   exact fin2 _ _ h3 _ hof wordV_rng (q.took.took.took.took.mono (by omega)) hb n (by simp [look_setE, look_kill, r0]) (by simp [look_setE, look_kill, r1]) (by simp [look_setE, look_kill, r2]) (by simp [look_setE, look_kill, r6]) (by simp [look_setE, look_kill])
  ·rw [if_neg c12] at hof
   refine lwp_cond_f (by simp [look_setE, look_kill, c12]) ?_
   simp [look_setE, look_kill, r0, r1, r2, r6]
   exact fin2 _ _ h2 _ hof i32_rng (q.took.took.mono (by omega)) hb n (by simp [look_setE, look_kill, r0]) (by simp [look_setE, look_kill, r1]) (by simp [look_setE, look_kill, r2]) (by simp [look_setE, look_kill, r6]) (by simp [look_setE, look_kill])
 refine lwp_hide fun y hy => ?_
 simp
 refine call_to (by kernel_rfl) (nz_take n q (by omega) (k := 3) (by decide) (by decide)) ?_
 rintro _ h3 ⟨rfl, n⟩
 simp
 rw [hy]; clear hy y
 by_cases c3 : takeV s m1.at_ 3 = 0
 ·rw [if_pos c3] at had
  refine lwp_cond_t (by simp [c3]) ?_
  refine lwp_hide fun y hy => ?_
  simp
  refine call_to (by kernel_rfl) (nz_some n (b := b) hb1 q.took (by omega)) ?_
  rintro _ h4 ⟨⟨rfl, hs⟩, n⟩
  have q := q.took.someS (s := s) (b := b)
  have hb2 : b < (someS s m1.took b).2.blocks.length := by rw [some_len]; exact hb1
  generalize someS s m1.took b = r at had hs n q hb2
  rw [hy]; clear hy y
  refine lwp_hide fun y hy => ?_
  simp
  refine call_to (by kernel_rfl) (nz_constant n (b := b) hb2 q (by omega) (k := 7) (by decide)) ?_
  rintro _ h5 ⟨rfl, n⟩
  rw [hy]; clear hy y
  refine lwp_hide fun y hy => ?_
  simp
  have q5 := q.constant (b := b) (n := 7)
  refine call_to (by kernel_rfl) (nz_fresh n q5 (by omega)) ?_
  rintro _ h6 ⟨rfl, n⟩
  have hn5 : (r.2.constant b 7).next = r.2.next + 1 := rfl
  rw [hn5]
  rw [hy]; clear hy y
  refine lwp_hide fun y hy => ?_
  simp
  have i5 := q5.nextI (by omega)
  rw [hn5] at i5
  refine n.lit (ls := [r.1, r.2.next]) (by simp) (by simp [hs, q.nextI (by omega : c + 1 + 3 + 1 + 10 ≤ 1000000)]) rfl (by decide) fun ua un uc h7 _ n => ?_
  refine do_build (z := .agg #[.int .i64 0, .int .i64 0, .int .i64 0, .slice none 0 0, .int .i32 0]) (places := [(0, 1), (1, 1), (2, 1), (3, 1), (4, 1)]) (vs := [(0, .int .i64 5), (1, .int .i64 (r.2.next + 1)), (3, .slice ua un uc)]) (cs := #[.int .i64 5, .int .i64 (r.2.next + 1), .int .i64 0, .slice ua un uc, .int .i32 0]) (by kernel_rfl) (by kernel_rfl) (by simp) (by rfl) ?_
  refine call_to (by kernel_rfl) (nz_add n (b := b) (imm := 0) (by rw [show (r.2.constant b 7).freshed.blocks = (r.2.constant b 7).blocks from rfl, constant_len]; exact hb2) q5.freshed (by omega) i64c i5 i64c (by decide)) ?_
  rintro _ h8 n
  have n : Nx s M vs W0 h8 o0 ((r.2.constant b 7).two b 5 r.1 r.2.next) := n
  have q6 := q5.two (b := b) (op := 5) (x := r.1) (y := r.2.next)
  have hb3 : b < ((r.2.constant b 7).two b 5 r.1 r.2.next).blocks.length := by rw [two_len, constant_len]; exact hb2
  generalize (r.2.constant b 7).two b 5 r.1 r.2.next = m3 at had n q6 hb3
  have n := n.z
  rw [hy]; clear hy y
  refine lwp_hide fun y hy => ?_
  simp
  refine call_to (by kernel_rfl) (nz_fresh n q6 (by omega)) ?_
  rintro _ h9 ⟨rfl, n⟩
  rw [hy]; clear hy y
  refine lwp_hide fun y hy => ?_
  simp
  refine n.lit (ls := [a0, r.2.next + 1]) (by simp) (by simp [hnx, i5]) rfl (by decide) fun ua2 un2 uc2 h10 _ n => ?_
  refine do_build (z := .agg #[.int .i64 0, .int .i64 0, .int .i64 0, .slice none 0 0, .int .i32 0]) (places := [(0, 1), (1, 1), (2, 1), (3, 1), (4, 1)]) (vs := [(0, .int .i64 2), (1, .int .i64 m3.next), (3, .slice ua2 un2 uc2)]) (cs := #[.int .i64 2, .int .i64 m3.next, .int .i64 0, .slice ua2 un2 uc2, .int .i32 0]) (by kernel_rfl) (by kernel_rfl) (by simp) (by rfl) ?_
  refine call_to (by kernel_rfl) (nz_add n (b := b) (imm := 0) hb3 q6.freshed (by omega) i64c (q6.nextI (by omega)) i64c (by decide)) ?_
  rintro _ h11 n
  rw [hy]; clear hy y
  simp
  refine fin m3.next (m3.two b 2 a0 (r.2.next + 1)) h11 _ had (q6.nextI (by omega)) (q6.two.mono (by omega)) (by rw [two_len]; exact hb3) n.z ?_ ?_ ?_ ?_
  all_goals simp
 ·rw [if_neg c3] at had
  refine lwp_cond_f (by simp [c3]) ?_
  simp
  exact fin a0 m1.took h3 _ had hnx (q.took.mono (by omega)) hb1 n (by simp) (by simp) (by simp) (by simp)
end Go.Proofs.Ytfelpjfopgiabaa
namespace Go.Proofs.Ytfelpjfopgiabaa
open Go Go.Lft
section
variable {s : List Int} {M : Nat} {vs : Value} {W0 : View} {h : Heap} {o0 : Own} {m : MS} {u : Value} {ds : List Int}
theorem Nz.le (n : Nz s M vs W0 h o0 m u ds) : W0.le (vw h) := by
 obtain ⟨W, o, h1, h2, _⟩ := n
 exact View.le_trans h1 h2.own.wle
theorem Nz.base (n : Nz s M vs W0 h o0 m u ds) : ∃ W o, Nz s M vs W h o m u ds ∧ SlRd W u ds ∧ ∀ {h' m' u' ds'}, Nz s M vs W h' o m' u' ds' → Nz s M vs W0 h' o0 m' u' ds' := by
 obtain ⟨W, o, h1, h2, h3, h4⟩ := n
 refine ⟨W, o, ⟨W, o, View.le_refl _, h2, fun _ _ => rfl, h4⟩, h4, ?_⟩
 rintro h' m' u' ds' ⟨W', o', g1, g2, g3, g4⟩
 exact ⟨W', o', View.le_trans h1 g1, g2, fun k hk => (g3 k hk).trans (h3 k hk), g4⟩
end
theorem sl_arr {H : View} {B n : Nat} {l : List Int} {t : TypeId} (hb : H B = some (.cells (l.map fun x => Value.int .i64 x).toArray t (0, 0))) (hn : l.length = n) (h1 : 0 < n ∧ n ≤ 1000) (hr : ∀ x ∈ l, I64 x) : SlRd H (.slice (some ⟨B, 0, none⟩) n n) l := by
 refine ⟨some ⟨B, 0, none⟩, n, by rw [hn], by omega, by omega, .inr ⟨⟨B, 0, none⟩, rfl, rfl, fun i hi => ?_⟩⟩
 have e : (⟨B, 0, none⟩ : Addr).add (i * Rep.n Int) = ⟨B, i, none⟩ := by
  show (⟨B, 0, none⟩ : Addr).add (i * 1) = _
  simp
 rw [e]
 refine ⟨[.int .i64 l[i]], ⟨_, t, (0, 0), rfl, hb, ?_⟩, (rd_int (v := .int .i64 l[i]) (H := H)).2 ⟨rfl, hr _ (List.getElem_mem hi)⟩ |> fun q => ?_⟩
 ·show ((l.map fun x => Value.int .i64 x).toArray.toList.drop i).take 1 = _
  rw [List.toList_toArray, List.drop_eq_getElem_cons (by simpa using hi)]
  simp
 ·exact ⟨rfl, hr _ (List.getElem_mem hi)⟩
theorem opsL_rng : ∀ x ∈ opsL, I64 x := by
 intro x hx
 have : ∀ x ∈ opsL, 0 ≤ x ∧ x ≤ 12 := by decide
 have := this x hx
 exact ⟨by omega, by omega⟩
theorem MkB.frame {M : Nat} {vs : Value} {m : MS} {o o' : Own} {vb vl : Value} {lb : List BlkM} (b : MkB M vs m o vb vl lb) (hf : ∀ k : Key, k.1 < 3 → o' k = o k) : MkB M vs m o' vb vl lb :=
 ⟨(hf _ (by decide)).trans b.box, (hf _ (by decide)).trans b.live, (hf _ (by decide)).trans b.blk, b.len, b.term, fun i hi => (hf _ (by show 1 < 3; decide)).trans (b.phis i hi), fun i hi => (hf _ (by show 2 < 3; decide)).trans (b.ins i hi)⟩
theorem up_args_len {s : List Int} {b : Nat} {x : List Int × MS} : ∀ k, (up (argsS s b) k x).2.blocks.length = x.2.blocks.length := by
 intro k
 induction k with
 | zero => rfl
 | succ k ih =>
  show (someS s (up (argsS s b) k x).2 b).2.blocks.length = _
  rw [some_len, ih]
theorem up_args {s : List Int} {b c : Nat} {x : List Int × MS} (hx : x.2.ok c) : ∀ k, (up (argsS s b) k x).2.ok (c + 10 * k) ∧ (up (argsS s b) k x).1.length = x.1.length + k ∧ (up (argsS s b) k x).2.blocks.length = x.2.blocks.length := by
 intro k
 induction k with
 | zero => exact ⟨hx, rfl, rfl⟩
 | succ k ih =>
  obtain ⟨h1, h2, h3⟩ := ih
  refine ⟨(h1.someS).mono (by omega), ?_, ?_⟩
  ·show ((up (argsS s b) k x).1 ++ [_]).length = _
   rw [List.length_append, h2, List.length_singleton]; omega
  ·show (someS s (up (argsS s b) k x).2 b).2.blocks.length = _
   rw [some_len, h3]
theorem mk_instruction {s : List Int} {M : Nat} {vs : Value} {W0 : View} {h : Heap} {o0 : Own} {m : MS} (n : Nx s M vs W0 h o0 m) {b c : Nat} (hb : b < m.blocks.length) (hm : m.ok c) (hc : c ≤ 800000) (hfree : o0 (9, 0) = none) :
  HCalls Try.prog N.ref03_maker_instruction #[.pointer (some ⟨M, 0, none⟩), .int .i64 b] h (fun v h' => Nx s M vs W0 h' o0 (instructionS s b m)) := by
 refine calls_lift (args := [.pointer (some ⟨M, 0, none⟩), .int .i64 b]) follows F.ref03_maker_instruction E.ref03_maker_instruction (Nat.le_of_ble_eq_true (by kernel_rfl)) fun K hK => ?_
 dsimp only [L.ref03_maker_instruction]
 have n := n.z
 have hmm : instructionS s b m = _ := instructionS.eq_1 s b m
 refine lwp_hide fun z hz => ?_
 simp
 refine call_to (by kernel_rfl) (nz_take n hm (by omega) (k := 20) (by decide) (by decide)) ?_
 rintro _ h1 ⟨rfl, n⟩
 obtain ⟨k0, k1⟩ := takeV_rng (s := s) (at_ := m.at_) (n := 20) (by decide)
 have q := hm.took
 have hb1 : b < m.took.blocks.length := hb
 rw [hz]; clear hz z
 generalize takeV s m.at_ 20 = k at hmm k0 k1
 generalize hm1 : m.took = m1 at hmm n q hb1
 have hw : wordV s m1 = wordV s m1 := rfl
 simp only [lwp_block]
 refine lwp_hide fun z hz => ?_
 simp
 rw [hz]; clear hz z
 by_cases c1 : k < 12
 ·rw [if_pos c1] at hmm
  refine lwp_cond_t (by simp [c1]) ?_
  obtain ⟨kn, rfl⟩ : ∃ kn : Nat, k = kn := ⟨k.toNat, by omega⟩
  have hkn : kn < 12 := by omega
  refine lwp_hide fun z hz => ?_
  simp
  have hcs : (#[.int .i64 2, .int .i64 2, .int .i64 3, .int .i64 4, .int .i64 5, .int .i64 6, .int .i64 7, .int .i64 8, .int .i64 9, .int .i64 10, .int .i64 12, .int .i64 11] : Array Value) = (opsL.map fun x => Value.int .i64 x).toArray := rfl
  refine do_build (z := .agg #[.int .i64 0, .int .i64 0, .int .i64 0, .int .i64 0, .int .i64 0, .int .i64 0, .int .i64 0, .int .i64 0, .int .i64 0, .int .i64 0, .int .i64 0, .int .i64 0]) (places := [(0, 1), (1, 1), (2, 1), (3, 1), (4, 1), (5, 1), (6, 1), (7, 1), (8, 1), (9, 1), (10, 1), (11, 1)]) (vs := [(0, .int .i64 2), (1, .int .i64 2), (2, .int .i64 3), (3, .int .i64 4), (4, .int .i64 5), (5, .int .i64 6), (6, .int .i64 7), (7, .int .i64 8), (8, .int .i64 9), (9, .int .i64 10), (10, .int .i64 12), (11, .int .i64 11)])
   (cs := #[.int .i64 2, .int .i64 2, .int .i64 3, .int .i64 4, .int .i64 5, .int .i64 6, .int .i64 7, .int .i64 8, .int .i64 9, .int .i64 10, .int .i64 12, .int .i64 11]) (by kernel_rfl) (by kernel_rfl) (by simp) (by rfl) ?_
  refine do_newV (v := .agg #[.int .i64 2, .int .i64 2, .int .i64 3, .int .i64 4, .int .i64 5, .int .i64 6, .int .i64 7, .int .i64 8, .int .i64 9, .int .i64 10, .int .i64 12, .int .i64 11]) (z := .agg #[.int .i64 0, .int .i64 0, .int .i64 0, .int .i64 0, .int .i64 0, .int .i64 0, .int .i64 0, .int .i64 0, .int .i64 0, .int .i64 0, .int .i64 0, .int .i64 0]) (n := 12) (by kernel_rfl) rfl (by kernel_rfl) rfl (by simp [Value.cells, Value.oneCell']) (fun _ => by simp) (fun _ => by simp) fun h2 hle2 hs2 hb2 => ?_
  have n : Nz s M vs W0 h2 o0 m1 (.slice (some ⟨h1.size, 0, none⟩) 12 12) opsL := by
   obtain ⟨W, o, g1, g2, g3, g4⟩ := n
   refine ⟨_, o, View.le_trans g1 (le_grow g2.own.wle), ⟨g2.own.ext hle2, g2.src.mono (le_grow g2.own.wle), g2.box⟩, g3, ?_⟩
   have hg : grow W h1 h2 h1.size = some (.cells (opsL.map fun x => Value.int .i64 x).toArray T.a12_int (0, 0)) := by
    rw [grow_new (Nat.le_refl _), hb2]; rfl
   exact sl_arr hg rfl (by decide) opsL_rng
  generalize h1.size = B at n
  rw [hz]; clear hz z
  refine lwp_hide fun z hz => ?_
  simp
  refine call_to (by kernel_rfl) (nz_some n hb1 q (by omega)) ?_
  rintro _ h3 ⟨⟨rfl, i2⟩, n⟩
  have q := q.someS (s := s) (b := b)
  have hb2 : b < (someS s m1 b).2.blocks.length := by rw [some_len]; exact hb1
  simp only [binS] at hmm
  generalize someS s m1 b = r1 at hmm n q hb2 i2
  rw [hz]; clear hz z
  refine lwp_hide fun z hz => ?_
  simp
  refine call_to (by kernel_rfl) (nz_some n hb2 q (by omega)) ?_
  rintro _ h4 ⟨⟨rfl, i3⟩, n⟩
  have q := q.someS (s := s) (b := b)
  have hb3 : b < (someS s r1.2 b).2.blocks.length := by rw [some_len]; exact hb2
  generalize someS s r1.2 b = r2 at hmm n q hb3 i3
  rw [hz]; clear hz z
  refine lwp_hide fun z hz => ?_
  have fin : ∀ (e : Int) (m3 : MS) (h' : Heap) (ρ : Env), instructionS s b m = m3.two b (nth opsL kn) r1.1 e → I64 e → m3.ok (c + 60) → b < m3.blocks.length → Nz s M vs W0 h' o0 m3 (.slice (some ⟨B, 0, none⟩) 12 12) opsL → Lft.look ρ 0 = some (.pointer (some ⟨M, 0, none⟩)) → Lft.look ρ 1 = some (.int .i64 b) → Lft.look ρ 4 = some (.int .i64 kn) → Lft.look ρ 5 = some (.pointer (some ⟨B, 0, none⟩)) → Lft.look ρ 6 = some (.int .i64 r1.1) → Lft.look ρ 7 = some (.int .i64 e) → LC.wp Try.prog z (inBlk 0 (fnPost [] K)) ρ h' := by
   intro e m3 h' ρ hmm ie q hb n r0 r1' r4 r5 r6 r7
   rw [hz]; clear hz z
   obtain ⟨W, o, n, sl, back⟩ := n.base
   have iop := sl.range (i := kn) (by show kn < 12; omega)
   have hop : cellH W ⟨B, kn, none⟩ = some (.int .i64 (nth opsL kn)) := by
    have := sl.int (View.le_refl W) (i := kn) (by show kn < 12; omega)
    simpa [slA] using this
   have hix : Bn.ev (.aidx 12 1) (.pointer (some ⟨B, 0, none⟩)) (.int .i64 kn) = some (.pointer (some ⟨B, kn, none⟩)) := by
    simp only [Bn.ev, vP, vI, Option.bind_some]
    rw [if_pos ⟨by omega, by omega⟩]
    simp
   generalize nth opsL kn = op at hmm iop hop
   refine drawn_at W n.le ?_
   simp [look_setE, look_kill, r0, r1', r4, r5, r6, r7, hix, hop]
   constructor
   ·refine call_to (by kernel_rfl) (nz_fresh n q (by omega)) ?_
    rintro _ h4 ⟨rfl, n⟩
    refine ⟨n.le, ?_⟩
    refine n.lit (ls := [r1.1, e]) (by simp) (by simp [i2, ie]) rfl (by decide) fun ua un uc h5 _ n => ⟨n.le, ?_⟩
    refine do_build (z := .agg #[.int .i64 0, .int .i64 0, .int .i64 0, .slice none 0 0, .int .i32 0]) (places := [(0, 1), (1, 1), (2, 1), (3, 1), (4, 1)]) (vs := [(0, .int .i64 op), (1, .int .i64 m3.next), (3, .slice ua un uc)]) (cs := #[.int .i64 op, .int .i64 m3.next, .int .i64 0, .slice ua un uc, .int .i32 0]) (by kernel_rfl) (by kernel_rfl) (by simp) (by rfl) ?_
    refine call_to (by kernel_rfl) (nz_add n (b := b) hb q.freshed (by omega) iop (q.nextI (by omega)) i64c (by decide)) ?_
    rintro _ h6 n
    exact hK _ _ (by rw [hmm]; exact (back n.z).x)
   ·refine n.lit (ls := [r1.1, e]) (by simp) (by simp [i2, ie]) rfl (by decide) fun ua un uc h5 _ n => ⟨n.le, ?_⟩
    refine call_to (by kernel_rfl) (nz_fresh n q (by omega)) ?_
    rintro _ h4 ⟨rfl, n⟩
    refine ⟨n.le, ?_⟩
    refine do_build (z := .agg #[.int .i64 0, .int .i64 0, .int .i64 0, .slice none 0 0, .int .i32 0]) (places := [(0, 1), (1, 1), (2, 1), (3, 1), (4, 1)]) (vs := [(0, .int .i64 op), (1, .int .i64 m3.next), (3, .slice ua un uc)]) (cs := #[.int .i64 op, .int .i64 m3.next, .int .i64 0, .slice ua un uc, .int .i32 0]) (by kernel_rfl) (by kernel_rfl) (by simp) (by rfl) ?_
    refine call_to (by kernel_rfl) (nz_add n (b := b) hb q.freshed (by omega) iop (q.nextI (by omega)) i64c (by decide)) ?_
    rintro _ h6 n
    exact hK _ _ (by rw [hmm]; exact (back n.z).x)
  refine lwp_hide fun y hy => ?_
  simp
  refine call_to (by kernel_rfl) (nz_take n q (by omega) (k := 3) (by decide) (by decide)) ?_
  rintro _ h5 ⟨rfl, n⟩
  simp
  rw [hy]; clear hy y
  by_cases c4 : takeV s r2.2.at_ 3 = 0
  ·rw [if_pos c4] at hmm
   refine lwp_cond_t (by simp [c4]) ?_
   simp
   refine call_to (by kernel_rfl) (nz_take n q.took (by omega) (k := 40) (by decide) (by decide)) ?_
   rintro _ h6 ⟨rfl, n⟩
   have hx : r2.2.took.at_ = r2.2.at_ + 1 := rfl
   rw [hx]
   simp
   refine call_to (by kernel_rfl) (nz_constant n (b := b) hb3 q.took.took (by omega) (k := IntKind.i32.wrap (IntKind.i64.wrap (takeV s (r2.2.at_ + 1) 40 - 8))) i32_rng) ?_
   rintro _ h7 ⟨rfl, n⟩
   refine fin r2.2.next _ h7 _ hmm (q.nextI (by omega)) (q.took.took.constant.mono (by omega)) (by rw [constant_len]; exact hb3) n ?_ ?_ ?_ ?_ ?_ ?_
   all_goals simp
   rfl
  ·rw [if_neg c4] at hmm
   refine lwp_cond_f (by simp [c4]) ?_
   simp
   refine fin r2.1 _ h5 _ hmm i3 (q.took.mono (by omega)) hb3 n ?_ ?_ ?_ ?_ ?_ ?_
   all_goals simp
 rw [if_neg c1] at hmm
 refine lwp_cond_f (by simp [c1]) ?_
 refine lwp_hide fun z hz => ?_
 simp
 rw [hz]; clear hz z
 by_cases c2 : k = 12
 ·rw [if_pos c2] at hmm
  refine lwp_cond_t (by simp [c2]) ?_
  refine lwp_hide fun z hz => ?_
  simp
  refine call_to (by kernel_rfl) (nz_some n hb1 q (by omega)) ?_
  rintro _ h2 ⟨⟨rfl, i2⟩, n⟩
  have q := q.someS (s := s) (b := b)
  have hb2 : b < (someS s m1 b).2.blocks.length := by rw [some_len]; exact hb1
  simp only [ltuS] at hmm
  generalize someS s m1 b = r1 at hmm n q hb2 i2
  rw [hz]; clear hz z
  refine lwp_hide fun z hz => ?_
  simp
  refine call_to (by kernel_rfl) (nz_some n hb2 q (by omega)) ?_
  rintro _ h3 ⟨⟨rfl, i3⟩, n⟩
  have q := q.someS (s := s) (b := b)
  have hb3 : b < (someS s r1.2 b).2.blocks.length := by rw [some_len]; exact hb2
  generalize someS s r1.2 b = r2 at hmm n q hb3 i3
  rw [hz]; clear hz z
  simp
  refine call_to (by kernel_rfl) (nz_fresh n q (by omega)) ?_
  rintro _ h4 ⟨rfl, n⟩
  refine n.lit (ls := [r1.1, r2.1]) (by simp) (by simp [i2, i3]) rfl (by decide) fun ua un uc h5 _ n => ?_
  refine do_build (z := .agg #[.int .i64 0, .int .i64 0, .int .i64 0, .slice none 0 0, .int .i32 0]) (places := [(0, 1), (1, 1), (2, 1), (3, 1), (4, 1)]) (vs := [(0, .int .i64 13), (1, .int .i64 r2.2.next), (3, .slice ua un uc)]) (cs := #[.int .i64 13, .int .i64 r2.2.next, .int .i64 0, .slice ua un uc, .int .i32 0]) (by kernel_rfl) (by kernel_rfl) (by simp) (by rfl) ?_
  refine call_to (by kernel_rfl) (nz_add n (b := b) hb3 q.freshed (by omega) i64c (q.nextI (by omega)) i64c (by decide)) ?_
  rintro _ h6 n
  exact hK _ _ (by rw [hmm]; exact n)
 rw [if_neg c2] at hmm
 refine lwp_cond_f (by simp [c2]) ?_
 refine lwp_hide fun z hz => ?_
 simp
 rw [hz]; clear hz z
 by_cases c3 : k = 13
 ·rw [if_pos c3] at hmm
  refine lwp_cond_t (by simp [c3]) ?_
  refine lwp_hide fun z hz => ?_
  simp
  refine call_to (by kernel_rfl) (nz_some n hb1 q (by omega)) ?_
  rintro _ h2 ⟨⟨rfl, i2⟩, n⟩
  have q := q.someS (s := s) (b := b)
  have hb2 : b < (someS s m1 b).2.blocks.length := by rw [some_len]; exact hb1
  simp only [divS] at hmm
  generalize someS s m1 b = r1 at hmm n q hb2 i2
  rw [hz]; clear hz z
  refine lwp_hide fun z hz => ?_
  simp
  refine call_to (by kernel_rfl) (nz_take n q (by omega) (k := 12) (by decide) (by decide)) ?_
  rintro _ h3 ⟨rfl, n⟩
  simp
  refine call_to (by kernel_rfl) (nz_constant n (b := b) hb2 q.took (by omega) (k := IntKind.i32.wrap (takeV s r1.2.at_ 12)) i32_rng) ?_
  rintro _ h4 ⟨rfl, n⟩
  have i4 : I64 r1.2.took.next := q.took.nextI (by omega)
  have q := q.took.constant (b := b) (n := IntKind.i32.wrap (takeV s r1.2.at_ 12))
  have hb3 : b < (r1.2.took.constant b (IntKind.i32.wrap (takeV s r1.2.at_ 12))).blocks.length := by rw [constant_len]; exact hb2
  have ht : r1.2.took.next = r1.2.next := rfl
  rw [ht] at i4 ⊢
  generalize r1.2.took.constant b (IntKind.i32.wrap (takeV s r1.2.at_ 12)) = m2 at hmm n q hb3
  generalize r1.2.next = d at hmm i4
  rw [hz]; clear hz z
  refine lwp_hide fun z hz => ?_
  have fin : ∀ (e : Int) (m3 : MS) (h' : Heap) (ρ : Env), instructionS s b m = m3.two b 14 r1.1 e → I64 e → m3.ok (c + 60) → b < m3.blocks.length → Nz s M vs W0 h' o0 m3 (.slice none 0 0) [] → Lft.look ρ 0 = some (.pointer (some ⟨M, 0, none⟩)) → Lft.look ρ 1 = some (.int .i64 b) → Lft.look ρ 10 = some (.int .i64 r1.1) → Lft.look ρ 11 = some (.int .i64 e) → LC.wp Try.prog z (inBlk 0 (fnPost [] K)) ρ h' := by
   intro e m3 h' ρ hmm ie q hb n r0 r1' r10 r11
   rw [hz]; clear hz z
   simp [look_setE, look_kill, r0, r1', r10, r11]
   refine call_to (by kernel_rfl) (nz_fresh n q (by omega)) ?_
   rintro _ h4 ⟨rfl, n⟩
   refine n.lit (ls := [r1.1, e]) (by simp) (by simp [i2, ie]) rfl (by decide) fun ua un uc h5 _ n => ?_
   refine do_build (z := .agg #[.int .i64 0, .int .i64 0, .int .i64 0, .slice none 0 0, .int .i32 0]) (places := [(0, 1), (1, 1), (2, 1), (3, 1), (4, 1)]) (vs := [(0, .int .i64 14), (1, .int .i64 m3.next), (3, .slice ua un uc)]) (cs := #[.int .i64 14, .int .i64 m3.next, .int .i64 0, .slice ua un uc, .int .i32 0]) (by kernel_rfl) (by kernel_rfl) (by simp) (by rfl) ?_
   refine call_to (by kernel_rfl) (nz_add n (b := b) hb q.freshed (by omega) i64c (q.nextI (by omega)) i64c (by decide)) ?_
   rintro _ h6 n
   exact hK _ _ (by rw [hmm]; exact n)
  refine lwp_hide fun y hy => ?_
  simp
  refine call_to (by kernel_rfl) (nz_take n q (by omega) (k := 3) (by decide) (by decide)) ?_
  rintro _ h5 ⟨rfl, n⟩
  simp
  rw [hy]; clear hy y
  by_cases c4 : 0 < takeV s m2.at_ 3
  ·rw [if_pos c4] at hmm
   refine lwp_cond_t (by simp [c4]) ?_
   simp
   refine call_to (by kernel_rfl) (nz_take n q.took (by omega) (k := 12) (by decide) (by decide)) ?_
   rintro _ h6 ⟨rfl, n⟩
   have hx : m2.took.at_ = m2.at_ + 1 := rfl
   rw [hx]
   simp
   refine call_to (by kernel_rfl) (nz_constant n (b := b) hb3 q.took.took (by omega) (k := IntKind.i32.wrap (1 + IntKind.i32.wrap (takeV s (m2.at_ + 1) 12))) i32_rng) ?_
   rintro _ h7 ⟨rfl, n⟩
   refine fin m2.next _ h7 _ hmm (q.nextI (by omega)) (q.took.took.constant.mono (by omega)) (by rw [constant_len]; exact hb3) n ?_ ?_ ?_ ?_
   all_goals simp
   rfl
  ·rw [if_neg c4] at hmm
   refine lwp_cond_f (by simp [c4]) ?_
   simp
   refine fin d _ h5 _ hmm i4 (q.took.mono (by omega)) hb3 n ?_ ?_ ?_ ?_
   all_goals simp
 rw [if_neg c3] at hmm
 refine lwp_cond_f (by simp [c3]) ?_
 refine lwp_hide fun z hz => ?_
 simp
 rw [hz]; clear hz z
 by_cases c4 : k < 16
 ·rw [if_pos c4] at hmm
  refine lwp_cond_t (by simp [c4]) ?_
  simp
  refine call_to (by kernel_rfl) (mk_memory n.x (store := decide (k = 15)) hb1 q (by omega)) ?_
  rintro _ h2 n
  exact hK _ _ (by rw [hmm]; exact n)
 rw [if_neg c4] at hmm
 refine lwp_cond_f (by simp [c4]) ?_
 refine lwp_hide fun z hz => ?_
 simp
 rw [hz]; clear hz z
 by_cases c5 : k = 16
 ·rw [if_pos c5] at hmm
  refine lwp_cond_t (by simp [c5]) ?_
  refine lwp_hide fun z hz => ?_
  simp
  obtain ⟨W, o, g1, w, f, -⟩ := n
  have hk9 : o (9, 0) = none := (f _ (by decide)).trans hfree
  refine w.own.do_empty (k := (9, 0)) (α := Int) hk9 El.s_int fun v h2 hle2 hv w2 _ => ?_
  have w2 : Mk s M vs W h2 (o.upd (9, 0) (it T.int v ([] : List Int))) m1 := by
   obtain ⟨vb, vl, lb, bb⟩ := w.box
   exact ⟨w2, w.src, vb, vl, lb, bb.frame fun k hk => Own.upd_ne (by rintro rfl; simp at hk)⟩
  rw [hz]; clear hz z
  refine lwp_hide fun z hz => ?_
  simp
  refine call_to (by kernel_rfl) (w2.take (by have := q.at_; omega) (n := 5) (by decide) (by decide)) ?_
  rintro _ h3 ⟨rfl, o3, w3, f3⟩
  simp only [callS] at hmm
  have q := q.took
  have hb2 : b < m1.took.blocks.length := hb1
  obtain ⟨t0, t1⟩ := takeV_rng (s := s) (at_ := m1.at_) (n := 5) (by decide)
  generalize takeV s m1.at_ 5 = t at hmm t0 t1
  obtain ⟨tn, rfl⟩ : ∃ tn : Nat, t = tn := ⟨t.toNat, by omega⟩
  rw [show ((tn : Int)).toNat = tn by omega] at hmm
  have hup := up_args (s := s) (b := b) (x := ([], m1.took)) q
  generalize m1.took = m2 at hmm q hb2 hup w3
  rw [hz]; clear hz z
  refine lwp_hide fun z hz => ?_
  simp
  refine lwp_for [0, 1, 4, 12, 13, 14] (fun (v : Value) i => [.pointer (some ⟨M, 0, none⟩), .int .i64 b, .int .i64 k, v, .int .i64 tn, .int .i64 i]) (fun v i h4 => ∃ W' o', W0.le W' ∧ Mk s M vs W' h4 o' (up (argsS s b) i ([], m2)).2 ∧ o' (9, 0) = it T.int v (up (argsS s b) i ([], m2)).1 ∧ ∀ q : Key, 3 ≤ q.1 → q ≠ (9, 0) → o' q = o0 q) tn v
   rfl (by omega) rfl ⟨W, o3, g1, w3, (f3 _ (by decide)).trans Own.upd_self, fun q h1 h2 => (f3 q h1).trans ((Own.upd_ne h2).trans (f q h1))⟩ (fun _ _ => rfl) (fun v k h hk m => by simp) ?_ ?_
  ·rintro v i h4 hlt ⟨W4, o4, g4, w4, e4, f4⟩ K2 hK2
   obtain ⟨qi, li, bi⟩ := hup i
   have e5 : up (argsS s b) (i + 1) ([], m2) = ((up (argsS s b) i ([], m2)).1 ++ [(someS s (up (argsS s b) i ([], m2)).2 b).1], (someS s (up (argsS s b) i ([], m2)).2 b).2) := rfl
   have hb4 : b < (up (argsS s b) i ([], m2)).2.blocks.length := by rw [bi]; exact hb2
   generalize up (argsS s b) i ([], m2) = x at w4 e4 e5 qi li bi hb4
   have li : x.1.length = i := by simpa using li
   simp
   refine call_to (by kernel_rfl) (mk_some w4 hb4 qi (by omega)) ?_
   rintro _ h5 ⟨rfl, i5, W5, o5, g5, w5, f5⟩
   have e6 : o5 (9, 0) = it T.int v x.1 := (f5 _ (by decide)).trans e4
   refine w5.own.do_push (k := (9, 0)) (α := Int) (d := (someS s x.2 b).1) e6 El.s_int rfl (rd_int.2 ⟨rfl, i5⟩) (by omega) (by omega) (fun _ => rfl) (fun _ => rfl) fun u v' h6 w6 _ => ?_
   refine hK2 v' _ _ rfl rfl ⟨W5, _, View.le_trans g4 g5, ⟨w6, w5.src, ?_⟩, ?_, ?_⟩
   ·obtain ⟨vb, vl, lb, bb⟩ := w5.box
    rw [e5]
    exact ⟨vb, vl, lb, bb.frame fun k hk => Own.upd_ne (by rintro rfl; simp at hk)⟩
   ·rw [e5]; exact Own.upd_self
   ·intro q h1 h2
    exact (Own.upd_ne h2).trans ((f5 q h1).trans (f4 q h1 h2))
  ·rintro v h4 ⟨W4, o4, g4, w4, e4, f4⟩
   obtain ⟨qi, li, bi⟩ := hup tn
   have hb4 : b < (up (argsS s b) tn ([], m2)).2.blocks.length := by rw [bi]; exact hb2
   generalize up (argsS s b) tn ([], m2) = x at w4 e4 qi li bi hb4 hmm
   obtain ⟨w5, sl⟩ := w4.own.freeze e4
   have sl2 := sl
   obtain ⟨ua, uc, rfl, _⟩ := sl2
   have hWp := le_plus (h := h4) (w4.own.av _ _ e4)
   have n : Nz s M vs W0 h4 o0 x.2 (.slice ua x.1.length uc) x.1 := by
    obtain ⟨vb, vl, lb, bb⟩ := w4.box
    refine ⟨_, _, View.le_trans g4 hWp, ⟨w5, w4.src.mono hWp, vb, vl, lb, bb.frame fun k hk => Own.upd_ne (by rintro rfl; simp at hk)⟩, fun q h1 => ?_, sl⟩
    by_cases e : q = (9, 0)
    ·rw [e, Own.upd_self, hfree]
    ·exact (Own.upd_ne e).trans (f4 q h1 e)
   generalize x.1.length = un at n
   simp
   rw [hz]; clear hz z
   simp
   refine call_to (by kernel_rfl) (nz_fresh n qi (by omega)) ?_
   rintro _ h5 ⟨rfl, n⟩
   refine call_to (by kernel_rfl) (nz_take n qi.freshed (by omega) (k := 5) (by decide) (by decide)) ?_
   rintro _ h6 ⟨rfl, n⟩
   have hx : x.2.freshed.at_ = x.2.at_ := rfl
   rw [hx]
   simp
   refine do_build (z := .agg #[.int .i64 0, .int .i64 0, .int .i64 0, .slice none 0 0, .int .i32 0]) (places := [(0, 1), (1, 1), (2, 1), (3, 1), (4, 1)]) (vs := [(0, .int .i64 17), (1, .int .i64 x.2.next), (3, .slice ua un uc), (4, .int .i32 (IntKind.i32.wrap (takeV s x.2.at_ 5)))]) (cs := #[.int .i64 17, .int .i64 x.2.next, .int .i64 0, .slice ua un uc, .int .i32 (IntKind.i32.wrap (takeV s x.2.at_ 5))]) (by kernel_rfl) (by kernel_rfl) (by simp) (by rfl) ?_
   refine call_to (by kernel_rfl) (nz_add n (b := b) hb4 qi.freshed.took (by omega) i64c (qi.nextI (by omega)) i64c i32_rng) ?_
   rintro _ h7 n
   exact hK _ _ (by rw [hmm]; exact n)
 rw [if_neg c5] at hmm
 refine lwp_cond_f (by simp [c5]) ?_
 refine lwp_hide fun z hz => ?_
 simp
 rw [hz]; clear hz z
 by_cases c6 : k = 17
 ·rw [if_pos c6] at hmm
  refine lwp_cond_t (by simp [c6]) ?_
  refine lwp_hide fun z hz => ?_
  simp
  refine call_to (by kernel_rfl) (nz_some n hb1 q (by omega)) ?_
  rintro _ h2 ⟨⟨rfl, i2⟩, n⟩
  have q := q.someS (s := s) (b := b)
  have hb2 : b < (someS s m1 b).2.blocks.length := by rw [some_len]; exact hb1
  simp only [mulwS] at hmm
  generalize someS s m1 b = r1 at hmm n q hb2 i2
  rw [hz]; clear hz z
  refine lwp_hide fun z hz => ?_
  simp
  refine call_to (by kernel_rfl) (nz_some n hb2 q (by omega)) ?_
  rintro _ h3 ⟨⟨rfl, i3⟩, n⟩
  have q := q.someS (s := s) (b := b)
  have hb3 : b < (someS s r1.2 b).2.blocks.length := by rw [some_len]; exact hb2
  generalize someS s r1.2 b = r2 at hmm n q hb3 i3
  rw [hz]; clear hz z
  refine lwp_hide fun z hz => ?_
  simp
  refine call_to (by kernel_rfl) (nz_fresh n q (by omega)) ?_
  rintro _ h4 ⟨rfl, n⟩
  rw [hz]; clear hz z
  simp
  refine call_to (by kernel_rfl) (nz_fresh n q.freshed (by omega)) ?_
  rintro _ h5 ⟨rfl, n⟩
  have hx : r2.2.freshed.next = r2.2.next + 1 := rfl
  rw [hx]
  have j5 := q.freshed.nextI (by omega)
  rw [hx] at j5
  refine n.lit (ls := [r1.1, r2.1]) (by simp) (by simp [i2, i3]) rfl (by decide) fun ua un uc h5 _ n => ?_
  refine do_build (z := .agg #[.int .i64 0, .int .i64 0, .int .i64 0, .slice none 0 0, .int .i32 0]) (places := [(0, 1), (1, 1), (2, 1), (3, 1), (4, 1)]) (vs := [(0, .int .i64 18), (1, .int .i64 r2.2.next), (2, .int .i64 (r2.2.next + 1)), (3, .slice ua un uc)]) (cs := #[.int .i64 18, .int .i64 r2.2.next, .int .i64 (r2.2.next + 1), .slice ua un uc, .int .i32 0]) (by kernel_rfl) (by kernel_rfl) (by simp) (by rfl) ?_
  refine call_to (by kernel_rfl) (nz_add n (b := b) hb3 q.freshed.freshed (by omega) i64c (q.nextI (by omega)) j5 (by decide)) ?_
  rintro _ h6 n
  exact hK _ _ (by rw [hmm]; exact n)
 rw [if_neg c6] at hmm
 refine lwp_cond_f (by simp [c6]) ?_
 simp
 refine call_to (by kernel_rfl) (nz_word n q (by omega)) ?_
 rintro _ h2 ⟨rfl, n⟩
 refine call_to (by kernel_rfl) (nz_constant n (b := b) hb1 q.took.took (by omega) (k := wordV s m1) wordV_rng) ?_
 rintro _ h3 ⟨rfl, n⟩
 exact hK _ _ (by rw [hmm]; exact n.x)
end Go.Proofs.Ytfelpjfopgiabaa
namespace Go.Proofs.Ytfelpjfopgiabaa
open Go Go.Lft
variable {s : List Int} {m : MS} {b c : Nat}
theorem took_len : m.took.blocks.length = m.blocks.length := rfl
theorem freshed_len : m.freshed.blocks.length = m.blocks.length := rfl
theorem MS.ok.addr (h : m.ok c) : (addrS s m b).2.ok (c + 30) := by
 unfold addrS
 simp only
 split
 ·exact ((((h.took.constant).took.someS).constant).two.two).mono (by omega)
 ·exact (h.took.constant.took).mono (by omega)
theorem addr_len : (addrS s m b).2.blocks.length = m.blocks.length := by
 unfold addrS
 simp only
 split <;> simp [two_len, constant_len, some_len, took_len]
theorem MS.ok.off (h : m.ok c) : (offS s m).2.ok (c + 4) := by
 unfold offS
 split
 ·exact h.took.took.took.took
 ·exact h.took.took.mono (by omega)
theorem off_len : (offS s m).2.blocks.length = m.blocks.length := by
 unfold offS; split <;> rfl
theorem MS.ok.memory {st : Bool} (h : m.ok c) : (memoryS s m b st).ok (c + 60) := by
 unfold memoryS
 simp only
 split
 ·exact (((h.addr).off.someS).add).mono (by omega)
 ·exact (((h.addr).off.freshed).add).mono (by omega)
theorem memory_len {st : Bool} : (memoryS s m b st).blocks.length = m.blocks.length := by
 unfold memoryS
 simp only
 split <;> simp [add_len, some_len, off_len, addr_len, freshed_len]
theorem MS.ok.bin {op : Int} (h : m.ok c) : (binS s m b op).ok (c + 60) := by
 unfold binS
 simp only
 split
 ·exact ((h.someS.someS).took.took.constant.two).mono (by omega)
 ·exact ((h.someS.someS).took.two).mono (by omega)
theorem bin_len {op : Int} : (binS s m b op).blocks.length = m.blocks.length := by
 unfold binS
 simp only
 split <;> simp [two_len, constant_len, some_len, took_len]
theorem MS.ok.div (h : m.ok c) : (divS s m b).ok (c + 60) := by
 unfold divS
 simp only
 split
 ·exact ((h.someS).took.constant.took.took.constant.two).mono (by omega)
 ·exact ((h.someS).took.constant.took.two).mono (by omega)
theorem div_len : (divS s m b).blocks.length = m.blocks.length := by
 unfold divS
 simp only
 split <;> simp [two_len, constant_len, some_len, took_len]
theorem MS.ok.callS (h : m.ok c) : (callS s m b).ok (c + 70) := by
 unfold Go.Proofs.Ytfelpjfopgiabaa.callS
 simp only
 have ht := takeV_rng (s := s) (at_ := m.at_) (n := 5) (by decide)
 have := (up_args (s := s) (b := b) (x := ([], m.took)) h.took (takeV s m.at_ 5).toNat).1
 exact (this.freshed.took.add).mono (by omega)
theorem call_len : (callS s m b).blocks.length = m.blocks.length := by
 unfold callS
 simp only
 rw [add_len, took_len, freshed_len]
 exact up_args_len (s := s) (b := b) (x := ([], m.took)) _
theorem MS.ok.instruction (h : m.ok c) : (instructionS s b m).ok (c + 80) := by
 unfold instructionS
 simp only
 repeat' split
 ·exact h.took.bin.mono (by omega)
 ·unfold ltuS
  exact (h.took.someS.someS.two).mono (by omega)
 ·exact h.took.div.mono (by omega)
 ·exact h.took.memory.mono (by omega)
 ·exact h.took.callS.mono (by omega)
 ·unfold mulwS
  exact (h.took.someS.someS.freshed.freshed.add).mono (by omega)
 ·exact h.took.took.took.constant.mono (by omega)
theorem instruction_len : (instructionS s b m).blocks.length = m.blocks.length := by
 unfold instructionS
 simp only
 repeat' split
 all_goals simp [bin_len, ltuS, div_len, memory_len, call_len, mulwS, two_len, constant_len, some_len, took_len, freshed_len, add_len]
end Go.Proofs.Ytfelpjfopgiabaa
namespace Go.Proofs.Ytfelpjfopgiabaa
open Go Go.Lft
def MS.setTerm (m : MS) (b : Nat) (t : TermD) : MS := { m with blocks := m.blocks.set b { nth m.blocks b with term := t } }
def cmpL : List Int := [11, 12, 13]
def mkTermS (s : List Int) (to : List Int) (b : Nat) (m : MS) : TermD × MS :=
 if to.length = 0 then
  if takeV s m.at_ 8 = 0 then (⟨5, [], [], ⟨IntKind.i32.wrap (takeV s (m.at_ + 1) 200)⟩⟩, m.took.took)
  else if 1 < takeV s m.at_ 8 then (⟨4, [(someS s m.took b).1], [], ⟨0⟩⟩, (someS s m.took b).2)
  else (⟨4, [], [], ⟨0⟩⟩, m.took)
 else if to.length = 1 then (⟨1, [], to, ⟨0⟩⟩, m)
 else if to.length = 2 then
  let r := someS s m b
  if takeV s r.2.at_ 2 = 0 then
   let w := someS s r.2.took b
   (⟨2, [w.2.next], to, ⟨0⟩⟩, w.2.freshed.took.add b ⟨nth cmpL (takeV s w.2.at_ 3).toNat, w.2.next, 0, [r.1, w.1], ⟨0⟩⟩)
  else (⟨2, [r.1], to, ⟨0⟩⟩, r.2.took)
 else
  let r := someS s m b
  let m2 := r.2.constant b 7
  (⟨3, [m2.next], to, ⟨0⟩⟩, m2.two b 5 r.1 r.2.next)
def mkEndS (s : List Int) (to : List Int) (b : Nat) (m : MS) : MS := (mkTermS s to b m).2.setTerm b (mkTermS s to b m).1
section
variable {s : List Int} {M : Nat} {vs : Value} {W0 : View} {h : Heap} {o0 : Own} {m : MS} {u : Value} {ds : List Int}
theorem Nz.do_cell {po : OP} (n : Nz s M vs W0 h o0 m u ds) {k : Key} {e : TypeId} {B N i : Nat} {l : List Value} {ty t : TypeId} {us : List (Nat × Value)} {x y : Operand} {v : Value} {K : Value → Heap → Prop} (h3 : 3 ≤ k.1) (hk : o0 k = bx e B (RawN.mk (n := N) l)) (hi : i ≤ N) (hsz : sizeB Try.prog t = some 1) (hx : asg us x = .pointer (some ⟨B, i, none⟩)) (hy : asg us y = v) (hv : v.oneCell' = true)
  (hK : ∀ h', Nz s M vs W0 h' (o0.upd k (bx e B (RawN.mk (n := N) (l.set i v)))) m u ds → K undef h') : @Lft.step po Try.prog (.store t x y) ty us h K := by
 obtain ⟨W, o, g1, w, f, sl⟩ := n
 refine w.own.do_cell (k := k) (n := N) (i := i) (e := e) (B := B) (l := l) ((f k h3).trans hk) hi hsz hx hy hv fun h' w' _ => hK h' ?_
 obtain ⟨vb, vl, lb, bb⟩ := w.box
 refine ⟨W, _, g1, ⟨w', w.src, vb, vl, lb, bb.frame fun q hq => Own.upd_ne (by rintro rfl; omega)⟩, fun q hq => ?_, sl⟩
 unfold Own.upd
 split
 ·rfl
 ·exact f q hq
theorem Nz.slice (n : Nz s M vs W0 h o0 m u ds) : ∃ a k c, u = .slice a k c := by
 obtain ⟨W, o, g1, w, f, a, c, e, _⟩ := n
 exact ⟨a, _, c, e⟩
theorem Nz.rows (n : Nz s M vs W0 h o0 m u ds) {u' : Value} {ds' : List Int} (h' : SlRd W0 u' ds') : Nz s M vs W0 h o0 m u' ds' := by
 obtain ⟨W, o, g1, w, f, sl⟩ := n
 exact ⟨W, o, g1, w, f, h'.mono g1⟩
theorem Nz.re (n : Nz s M vs W0 h o0 m u ds) {o0' : Own} (he : ∀ k, o0' k = o0 k) : Nz s M vs W0 h o0' m u ds := by
 obtain ⟨W, o, g1, w, f, sl⟩ := n
 exact ⟨W, o, g1, w, fun k hk => (f k hk).trans (he k).symm, sl⟩
theorem Mk.do_term {po : OP} {W : View} {o : Own} (w : Mk s M vs W h o m) {vb vl : Value} {lb : List BlkM} (bb : MkB M vs m o vb vl lb) {b : Nat} {t : TermD} {v : Value} {ty ty2 : TypeId} {us : List (Nat × Value)} {x y : Operand} {K : Value → Heap → Prop} (hb : b < m.blocks.length) (hsz : sizeB Try.prog ty2 = some 4) (hx : asg us x = .pointer (some (((slA vb).add (b * 6)).add 2))) (hy : asg us y = v) (hr : Rd W v t)
  (hK : ∀ h' o', Mk s M vs W h' o' (m.setTerm b t) → (∀ k : Key, 3 ≤ k.1 → o' k = o k) → K undef h') : @Lft.step po Try.prog (.store ty2 x y) ty us h K := by
 have hbl : b < lb.length := by rw [bb.len]; exact hb
 refine w.own.do_part (k := (0, 2)) (α := BlkM) BlkM.p_term (v := vb) (l := lb) (i := b) (d := t) bb.blk hsz hx hy hbl hr fun h7 w7 _ => ?_
 refine hK h7 _ ⟨w7, w.src, vb, vl, _, bb.setBlk hb (x' := { nth m.blocks b with term := t }) (y' := { lb[b] with term := t }) rfl Own.upd_self ?_ ?_ fun q h1 _ _ => Own.upd_ne h1⟩ (upd_frame (by decide))
 ·rw [Own.upd_ne (by simp), bb.phis b hb, nth_eq hbl]
 ·rw [Own.upd_ne (by simp), bb.ins b hb, nth_eq hbl]
end
theorem rd_termOf {H : View} {va vt : Value} {a t : List Int} {kd : Int} {imm : I32} (h3 : SlRd H va a) (h4 : SlRd H vt t) (h5 : I64 kd) (h6 : -2147483648 ≤ imm.v ∧ imm.v ≤ 2147483647) : Rd H (.agg #[.int .i64 kd, va, vt, .int .i32 imm.v]) (TermD.mk kd a t imm) :=
 ⟨_, rfl, [.int .i64 kd], _, rfl, ⟨rfl, h5⟩, [va], _, rfl, ⟨va, rfl, h3⟩, [vt], _, rfl, ⟨vt, rfl, h4⟩, rfl, h6⟩
theorem cmpL_rng : ∀ x ∈ cmpL, I64 x := by
 intro x hx
 have : ∀ x ∈ cmpL, 0 ≤ x ∧ x ≤ 13 := by decide
 have := this x hx
 exact ⟨by omega, by omega⟩
theorem mk_end {s : List Int} {M : Nat} {vs : Value} {W0 : View} {h : Heap} {o0 : Own} {m : MS} {vt : Value} {to : List Int} (n : Nx s M vs W0 h o0 m) {b c : Nat} (hb : b < m.blocks.length) (hm : m.ok c) (hc : c ≤ 800000) (hfree : o0 (9, 1) = none) (ht : SlRd W0 vt to) :
  HCalls Try.prog N.ref03_maker_end #[.pointer (some ⟨M, 0, none⟩), .int .i64 b, vt] h (fun v h' => Nx s M vs W0 h' o0 (mkEndS s to b m)) := by
 refine calls_lift (args := [.pointer (some ⟨M, 0, none⟩), .int .i64 b, vt]) follows F.ref03_maker_end E.ref03_maker_end (Nat.le_of_ble_eq_true (by kernel_rfl)) fun K hK => ?_
 dsimp only [L.ref03_maker_end]
 have hmm : mkEndS s to b m = _ := mkEndS.eq_1 s to b m
 have htm : mkTermS s to b m = _ := mkTermS.eq_1 s to b m
 obtain ⟨Wb, ob, gb, wb, fb⟩ := n
 refine lwp_hide fun z hz => ?_
 simp
 refine do_build (z := .agg #[.int .i64 0, .slice none 0 0, .slice none 0 0, .int .i32 0]) (places := [(0, 1), (1, 1), (2, 1), (3, 1)]) (vs := []) (cs := #[.int .i64 0, .slice none 0 0, .slice none 0 0, .int .i32 0]) (by kernel_rfl) (by kernel_rfl) (by simp) (by rfl) ?_
 refine wb.own.do_var (k := (9, 1)) (n := 3) (l := [.int .i64 0, .slice none 0 0, .slice none 0 0, .int .i32 0]) ((fb _ (by decide)).trans hfree) (z := .agg #[.int .i64 0, .slice none 0 0, .slice none 0 0, .int .i32 0]) (by kernel_rfl) rfl (by kernel_rfl) rfl (by decide) (by simp [Value.oneCell']) (fun _ => by simp) (fun _ => by simp) fun h1 q1 w1 => ?_
 generalize h.size = B at w1
 obtain ⟨o1, ho1⟩ : ∃ o1, o1 = ob.upd (9, 1) (bx T.api_Term B (RawN.mk (n := 3) [.int .i64 0, .slice none 0 0, .slice none 0 0, .int .i32 0])) := ⟨_, rfl⟩
 have k1 : o1 (9, 1) = bx T.api_Term B (RawN.mk (n := 3) [.int .i64 0, .slice none 0 0, .slice none 0 0, .int .i32 0]) := by rw [ho1, Own.upd_self]
 have ht := ht.mono gb
 have n : Nz s M vs Wb h1 o1 m (.slice none 0 0) [] := by
  obtain ⟨vb, vl, lb, bb⟩ := wb.box
  rw [ho1]
  exact ⟨Wb, _, View.le_refl _, ⟨w1, wb.src, vb, vl, lb, bb.frame fun q hq => Own.upd_ne (by rintro rfl; simp at hq)⟩, fun _ _ => rfl, nil_sl⟩
 have back : ∀ {h' : Heap} {W' : View} {o' : Own} {m' : MS} {i : Option Lft.Item}, Wb.le W' → Mk s M vs W' h' o' m' → (∀ k : Key, 3 ≤ k.1 → o' k = o1.upd (9, 1) i k) → Nx s M vs W0 h' o0 m' := by
  intro h' W' o' m' i g w f
  refine ⟨W', o'.upd (9, 1) none, View.le_trans gb g, ⟨w.own.sub fun q j hq => ?_, w.src, ?_⟩, fun k hk => ?_⟩
  ·unfold Own.upd at hq
   split at hq
   ·cases hq
   ·exact hq
  ·obtain ⟨vb, vl, lb, bb⟩ := w.box
   exact ⟨vb, vl, lb, bb.frame fun q hq => Own.upd_ne (by rintro rfl; simp at hq)⟩
  ·by_cases e : k = (9, 1)
   ·rw [e, Own.upd_self, hfree]
   ·rw [Own.upd_ne e, f k hk, Own.upd_ne e, ho1, Own.upd_ne e, fb k hk]
 clear wb w1 q1
 rw [hz]; clear hz z
 refine lwp_hide fun z hz => ?_
 have fin : ∀ (kd : Int) (va vt' : Value) (args to' : List Int) (im : Int) (m2 : MS) (h' : Heap) (ρ : Env), mkTermS s to b m = (⟨kd, args, to', ⟨im⟩⟩, m2) → I64 kd → (-2147483648 ≤ im ∧ im ≤ 2147483647) → b < m2.blocks.length → Nz s M vs Wb h' (o1.upd (9, 1) (bx T.api_Term B (RawN.mk (n := 3) [.int .i64 kd, va, vt', .int .i32 im]))) m2 va args → SlRd Wb vt' to' → Lft.look ρ 0 = some (.pointer (some ⟨M, 0, none⟩)) → Lft.look ρ 1 = some (.int .i64 b) → Lft.look ρ 6 = some (.pointer (some ⟨B, 0, none⟩)) → LC.wp Try.prog z (fnPost [] K) ρ h' := by
  intro kd va vt' args to' im m2 h' ρ e ikd iim hb n ht' r0 r1 r6
  rw [hz]; clear hz z
  rw [e] at hmm
  obtain ⟨W, o, g1, w, f, sl⟩ := n
  obtain ⟨vb, vl, lb, bb⟩ := w.box
  have hk : o (9, 1) = bx T.api_Term B (RawN.mk (n := 3) [.int .i64 kd, va, vt', .int .i32 im]) := (f _ (by decide)).trans Own.upd_self
  have c4 := w.own.rawAll (k := (9, 1)) (n := 3) hk
  have c4 : Un.ev (vw h') (.loads 4) (.pointer (some ⟨B, 0, none⟩)) = some (.agg #[.int .i64 kd, va, vt', .int .i32 im]) := c4
  have c3 : cellH (vw h') ⟨M, 3, none⟩ = some vb := bb.cell w.own (i := 3) (by decide)
  have hbl : b < lb.length := by rw [bb.len]; exact hb
  have sb := w.own.now bb.blk
  have sbb := sb.bound
  refine drawn_at (vw h') (View.le_refl _) ?_
  simp (disch := omega) [r0, r1, r6, c3, c4, sb.idxn (N := 6) rfl]
  refine w.do_term bb (b := b) (t := ⟨kd, args, to', ⟨im⟩⟩) hb (by kernel_rfl) rfl rfl (rd_termOf (imm := ⟨im⟩) sl (ht'.mono g1) ikd iim) fun h2 o2 w2 f2 => ?_
  refine hK _ _ ?_
  rw [hmm]
  exact back g1 w2 fun k hk => (f2 k hk).trans (f k hk)
 have hlen : ∀ {Q : View}, Un.ev Q .len vt = some (.int .i64 to.length) := fun {Q} => ht.len
 refine lwp_hide fun y hy => ?_
 simp [hlen]
 rw [hy]; clear hy y
 simp only [lwp_block]
 refine lwp_hide fun y hy => ?_
 simp
 rw [hy]; clear hy y
 by_cases c0 : to.length = 0
 ·have c0' : to = [] := List.eq_nil_of_length_eq_zero c0
  rw [if_pos c0] at htm
  refine lwp_cond_t (by simp [c0, c0']) ?_
  refine lwp_hide fun y hy => ?_
  simp
  refine n.do_cell (k := (9, 1)) (i := 0) (by decide) k1 (by decide) (by kernel_rfl) rfl rfl rfl fun h2 n => ?_
  rw [hy]; clear hy y
  refine lwp_hide fun y hy => ?_
  simp
  refine call_to (by kernel_rfl) (nz_take n hm (by omega) (k := 8) (by decide) (by decide)) ?_
  rintro _ h3 ⟨rfl, n⟩
  obtain ⟨t0, t1⟩ := takeV_rng (s := s) (at_ := m.at_) (n := 8) (by decide)
  rw [hy]; clear hy y
  refine lwp_hide fun y hy => ?_
  simp
  rw [hy]; clear hy y
  have n : Nz s M vs Wb h3 (o1.upd (9, 1) (bx T.api_Term B (RawN.mk (n := 3) [.int .i64 4, .slice none 0 0, .slice none 0 0, .int .i32 0]))) m.took (.slice none 0 0) [] := n
  by_cases c1 : takeV s m.at_ 8 = 0
  ·rw [if_pos c1] at htm
   refine lwp_cond_t (by simp [c1]) ?_
   refine lwp_hide fun y hy => ?_
   simp
   refine n.do_cell (k := (9, 1)) (i := 0) (by decide) Own.upd_self (by decide) (by kernel_rfl) rfl rfl rfl fun h4 n => ?_
   rw [hy]; clear hy y
   simp
   refine call_to (by kernel_rfl) (nz_take n hm.took (by omega) (k := 200) (by decide) (by decide)) ?_
   rintro _ h5 ⟨rfl, n⟩
   have hx : m.took.at_ = m.at_ + 1 := rfl
   rw [hx]
   simp
   refine n.do_cell (k := (9, 1)) (i := 3) (by decide) Own.upd_self (by decide) (by kernel_rfl) rfl rfl rfl fun h6 n => ?_
   refine fin 5 (.slice none 0 0) (.slice none 0 0) [] [] _ _ h6 _ htm i64c i32_rng hb ?_ nil_sl ?_ ?_ ?_
   ·exact n.re fun k => by rw [upd_upd, upd_upd]; rfl
   all_goals simp
  ·rw [if_neg c1] at htm
   refine lwp_cond_f (by simp [c1]) ?_
   refine lwp_hide fun y hy => ?_
   simp
   rw [hy]; clear hy y
   by_cases c2 : 1 < takeV s m.at_ 8
   ·rw [if_pos c2] at htm
    refine lwp_cond_t (by simp [c2]) ?_
    simp
    refine call_to (by kernel_rfl) (nz_some n (b := b) hb hm.took (by omega)) ?_
    rintro _ h4 ⟨⟨rfl, i4⟩, n⟩
    have hb2 : b < (someS s m.took b).2.blocks.length := by rw [some_len]; exact hb
    generalize someS s m.took b = r at htm i4 n hb2
    refine n.lit (ls := [r.1]) (by simp) (by simp [i4]) rfl (by decide) fun ua un uc h5 _ n => ?_
    refine n.do_cell (k := (9, 1)) (i := 1) (by decide) Own.upd_self (by decide) (by kernel_rfl) rfl rfl rfl fun h6 n => ?_
    refine fin 4 (.slice ua un uc) (.slice none 0 0) [r.1] [] 0 _ h6 _ htm i64c (by decide) hb2 (n.re fun k => by rw [upd_upd]; rfl) nil_sl ?_ ?_ ?_
    all_goals simp
   ·rw [if_neg c2] at htm
    refine lwp_cond_f (by simp [c2]) ?_
    simp
    refine fin 4 (.slice none 0 0) (.slice none 0 0) [] [] 0 _ h3 _ htm i64c (by decide) hb n nil_sl ?_ ?_ ?_
    all_goals simp
 rw [if_neg c0] at htm
 have c0' : ¬ to = [] := fun e => c0 (by rw [e]; rfl)
 have hvt : vt.oneCell' = true := ht.cells.2
 refine lwp_cond_f (by simp [c0']) ?_
 refine lwp_hide fun y hy => ?_
 simp
 rw [hy]; clear hy y
 by_cases c1 : to.length = 1
 ·rw [if_pos c1] at htm
  refine lwp_cond_t (by simp [c1]) ?_
  refine lwp_hide fun y hy => ?_
  simp
  refine n.do_cell (k := (9, 1)) (i := 0) (by decide) k1 (by decide) (by kernel_rfl) rfl rfl rfl fun h2 n => ?_
  rw [hy]; clear hy y
  simp
  refine n.do_cell (k := (9, 1)) (i := 2) (by decide) Own.upd_self (by decide) (by kernel_rfl) rfl rfl hvt fun h3 n => ?_
  refine fin 1 (.slice none 0 0) vt [] to 0 _ h3 _ htm i64c (by decide) hb (n.re fun k => by rw [upd_upd]; rfl) ht ?_ ?_ ?_
  all_goals simp
 rw [if_neg c1] at htm
 refine lwp_cond_f (by simp; omega) ?_
 refine lwp_hide fun y hy => ?_
 simp
 rw [hy]; clear hy y
 by_cases c2 : to.length = 2
 ·rw [if_pos c2] at htm
  refine lwp_cond_t (by simp [c2]) ?_
  refine lwp_hide fun y hy => ?_
  simp
  refine n.do_cell (k := (9, 1)) (i := 0) (by decide) k1 (by decide) (by kernel_rfl) rfl rfl rfl fun h2 n => ?_
  rw [hy]; clear hy y
  refine lwp_hide fun y hy => ?_
  simp
  refine n.do_cell (k := (9, 1)) (i := 2) (by decide) Own.upd_self (by decide) (by kernel_rfl) rfl rfl hvt fun h3 n => ?_
  have n : Nz s M vs Wb h3 (o1.upd (9, 1) (bx T.api_Term B (RawN.mk (n := 3) [.int .i64 2, .slice none 0 0, vt, .int .i32 0]))) m (.slice none 0 0) [] := n.re fun k => by rw [upd_upd]; rfl
  rw [hy]; clear hy y
  refine lwp_hide fun y hy => ?_
  simp
  refine call_to (by kernel_rfl) (nz_some n (b := b) hb hm (by omega)) ?_
  rintro _ h4 ⟨⟨rfl, i4⟩, n⟩
  have q := hm.someS (s := s) (b := b)
  have hb2 : b < (someS s m b).2.blocks.length := by rw [some_len]; exact hb
  simp only at htm
  generalize someS s m b = r at htm i4 n hb2 q
  rw [hy]; clear hy y
  refine lwp_hide fun y hy => ?_
  have fin2 : ∀ (v : Int) (m3 : MS) (h' : Heap) (ρ : Env) (u : Value) (ds : List Int), mkTermS s to b m = (⟨2, [v], to, ⟨0⟩⟩, m3) → I64 v → b < m3.blocks.length → Nz s M vs Wb h' (o1.upd (9, 1) (bx T.api_Term B (RawN.mk (n := 3) [.int .i64 2, .slice none 0 0, vt, .int .i32 0]))) m3 u ds → Lft.look ρ 0 = some (.pointer (some ⟨M, 0, none⟩)) → Lft.look ρ 1 = some (.int .i64 b) → Lft.look ρ 6 = some (.pointer (some ⟨B, 0, none⟩)) → Lft.look ρ 8 = some (.int .i64 v) → LC.wp Try.prog y (inBlk 0 (thenL (LC.wp Try.prog z (fnPost [] K)) (fnPost [] K))) ρ h' := by
   intro v m3 h' ρ u ds e iv hb n r0 r1 r6 r8
   rw [hy]; clear hy y
   simp [look_setE, look_kill, r0, r1, r6, r8]
   refine n.lit (ls := [v]) (by simp) (by simp [iv]) rfl (by decide) fun ua un uc h5 _ n => ?_
   refine n.do_cell (k := (9, 1)) (i := 1) (by decide) Own.upd_self (by decide) (by kernel_rfl) rfl rfl rfl fun h6 n => ?_
   refine fin 2 (.slice ua un uc) vt [v] to 0 _ h6 _ e i64c (by decide) hb (n.re fun k => by rw [upd_upd]; rfl) ht ?_ ?_ ?_
   all_goals simp [look_setE, look_kill, r0, r1, r6, r8]
  refine lwp_hide fun x hx => ?_
  simp
  refine call_to (by kernel_rfl) (nz_take n q (by omega) (k := 2) (by decide) (by decide)) ?_
  rintro _ h5 ⟨rfl, n⟩
  simp
  rw [hx]; clear hx x
  by_cases c3 : takeV s r.2.at_ 2 = 0
  ·rw [if_pos c3] at htm
   refine lwp_cond_t (by simp [c3]) ?_
   refine lwp_hide fun x hx => ?_
   simp
   refine do_build (z := .agg #[.int .i64 0, .int .i64 0, .int .i64 0]) (places := [(0, 1), (1, 1), (2, 1)]) (vs := [(0, .int .i64 11), (1, .int .i64 12), (2, .int .i64 13)]) (cs := #[.int .i64 11, .int .i64 12, .int .i64 13]) (by kernel_rfl) (by kernel_rfl) (by simp) (by rfl) ?_
   refine do_newV (v := .agg #[.int .i64 11, .int .i64 12, .int .i64 13]) (z := .agg #[.int .i64 0, .int .i64 0, .int .i64 0]) (n := 3) (by kernel_rfl) rfl (by kernel_rfl) rfl (by simp [Value.cells, Value.oneCell']) (fun _ => by simp) (fun _ => by simp) fun h6 hle6 hs6 hb6 => ?_
   have n : Nz s M vs Wb h6 (o1.upd (9, 1) (bx T.api_Term B (RawN.mk (n := 3) [.int .i64 2, .slice none 0 0, vt, .int .i32 0]))) r.2.took (.slice (some ⟨h5.size, 0, none⟩) 3 3) cmpL := by
    obtain ⟨W, o, g1, g2, g3, g4⟩ := n
    refine ⟨_, o, View.le_trans g1 (le_grow g2.own.wle), ⟨g2.own.ext hle6, g2.src.mono (le_grow g2.own.wle), g2.box⟩, g3, ?_⟩
    have hg : grow W h5 h6 h5.size = some (.cells (cmpL.map fun x => Value.int .i64 x).toArray T.a3_int (0, 0)) := by
     rw [grow_new (Nat.le_refl _), hb6]; rfl
    exact sl_arr hg rfl (by decide) cmpL_rng
   generalize h5.size = C at n
   rw [hx]; clear hx x
   refine lwp_hide fun x hx => ?_
   simp
   refine call_to (by kernel_rfl) (nz_some n (b := b) hb2 q.took (by omega)) ?_
   rintro _ h7 ⟨⟨rfl, i7⟩, n⟩
   have q := q.took.someS (s := s) (b := b)
   have hb3 : b < (someS s r.2.took b).2.blocks.length := by rw [some_len]; exact hb2
   generalize someS s r.2.took b = w at htm i7 n hb3 q
   rw [hx]; clear hx x
   refine lwp_hide fun x hx => ?_
   simp
   refine call_to (by kernel_rfl) (nz_fresh n q (by omega)) ?_
   rintro _ h8 ⟨rfl, n⟩
   have iw := q.nextI (by omega)
   rw [hx]; clear hx x
   refine lwp_hide fun x hx => ?_
   simp
   refine call_to (by kernel_rfl) (nz_take n q.freshed (by omega) (k := 3) (by decide) (by decide)) ?_
   rintro _ h9 ⟨rfl, n⟩
   have hfx : w.2.freshed.at_ = w.2.at_ := rfl
   rw [hfx]
   obtain ⟨t0, t1⟩ := takeV_rng (s := s) (at_ := w.2.at_) (n := 3) (by decide)
   generalize takeV s w.2.at_ 3 = k at htm t0 t1
   obtain ⟨kn, rfl⟩ : ∃ kn : Nat, k = kn := ⟨k.toNat, by omega⟩
   rw [show ((kn : Int)).toNat = kn by omega] at htm
   obtain ⟨iop, hop⟩ : I64 (nth cmpL kn) ∧ cellH (vw h9) ⟨C, kn, none⟩ = some (.int .i64 (nth cmpL kn)) := by
    obtain ⟨W, o, g1, g2, g3, g4⟩ := n
    refine ⟨g4.range (i := kn) (by show kn < 3; omega), ?_⟩
    have := g4.int g2.own.wle (i := kn) (by show kn < 3; omega)
    simpa [slA] using this
   have hix : Bn.ev (.aidx 3 1) (.pointer (some ⟨C, 0, none⟩)) (.int .i64 kn) = some (.pointer (some ⟨C, kn, none⟩)) := by
    simp only [Bn.ev, vP, vI, Option.bind_some]
    rw [if_pos ⟨by omega, by omega⟩]
    simp
   generalize nth cmpL kn = op at htm iop hop
   simp [hix, hop]
   refine n.lit (ls := [r.1, w.1]) (by simp) (by simp [i4, i7]) rfl (by decide) fun ua un uc h10 _ n => ?_
   refine do_build (z := .agg #[.int .i64 0, .int .i64 0, .int .i64 0, .slice none 0 0, .int .i32 0]) (places := [(0, 1), (1, 1), (2, 1), (3, 1), (4, 1)]) (vs := [(0, .int .i64 op), (1, .int .i64 w.2.next), (3, .slice ua un uc)]) (cs := #[.int .i64 op, .int .i64 w.2.next, .int .i64 0, .slice ua un uc, .int .i32 0]) (by kernel_rfl) (by kernel_rfl) (by simp) (by rfl) ?_
   refine call_to (by kernel_rfl) (nz_add n (b := b) hb3 q.freshed.took (by omega) iop iw i64c (by decide)) ?_
   rintro _ h11 n
   rw [hx]; clear hx x
   simp
   refine fin2 w.2.next _ h11 _ _ _ htm iw (by rw [add_len]; exact hb3) n.z ?_ ?_ ?_ ?_
   all_goals simp
  ·rw [if_neg c3] at htm
   refine lwp_cond_f (by simp [c3]) ?_
   simp
   refine fin2 r.1 _ h5 _ _ _ htm i4 hb2 n ?_ ?_ ?_ ?_
   all_goals simp
 rw [if_neg c2] at htm
 refine lwp_cond_f (by simp; omega) ?_
 refine lwp_hide fun y hy => ?_
 simp
 refine n.do_cell (k := (9, 1)) (i := 0) (by decide) k1 (by decide) (by kernel_rfl) rfl rfl rfl fun h2 n => ?_
 rw [hy]; clear hy y
 refine lwp_hide fun y hy => ?_
 simp
 refine n.do_cell (k := (9, 1)) (i := 2) (by decide) Own.upd_self (by decide) (by kernel_rfl) rfl rfl hvt fun h3 n => ?_
 have n : Nz s M vs Wb h3 (o1.upd (9, 1) (bx T.api_Term B (RawN.mk (n := 3) [.int .i64 3, .slice none 0 0, vt, .int .i32 0]))) m (.slice none 0 0) [] := n.re fun k => by rw [upd_upd]; rfl
 rw [hy]; clear hy y
 refine lwp_hide fun y hy => ?_
 simp
 refine call_to (by kernel_rfl) (nz_some n (b := b) hb hm (by omega)) ?_
 rintro _ h4 ⟨⟨rfl, i4⟩, n⟩
 have q := hm.someS (s := s) (b := b)
 have hb2 : b < (someS s m b).2.blocks.length := by rw [some_len]; exact hb
 simp only at htm
 generalize someS s m b = r at htm i4 n hb2 q
 rw [hy]; clear hy y
 refine lwp_hide fun y hy => ?_
 simp
 refine call_to (by kernel_rfl) (nz_constant n (b := b) hb2 q (by omega) (k := 7) (by decide)) ?_
 rintro _ h5 ⟨rfl, n⟩
 have i5 := q.nextI (by omega)
 have q5 := q.constant (b := b) (n := 7)
 have hb3 : b < (r.2.constant b 7).blocks.length := by rw [constant_len]; exact hb2
 generalize r.2.constant b 7 = m2 at htm n q5 hb3
 generalize r.2.next = d at htm i5
 rw [hy]; clear hy y
 refine lwp_hide fun y hy => ?_
 simp
 refine call_to (by kernel_rfl) (nz_fresh n q5 (by omega)) ?_
 rintro _ h6 ⟨rfl, n⟩
 have i6 := q5.nextI (by omega)
 rw [hy]; clear hy y
 refine lwp_hide fun y hy => ?_
 simp
 refine n.lit (ls := [r.1, d]) (by simp) (by simp [i4, i5]) rfl (by decide) fun ua un uc h7 _ n => ?_
 refine do_build (z := .agg #[.int .i64 0, .int .i64 0, .int .i64 0, .slice none 0 0, .int .i32 0]) (places := [(0, 1), (1, 1), (2, 1), (3, 1), (4, 1)]) (vs := [(0, .int .i64 5), (1, .int .i64 m2.next), (3, .slice ua un uc)]) (cs := #[.int .i64 5, .int .i64 m2.next, .int .i64 0, .slice ua un uc, .int .i32 0]) (by kernel_rfl) (by kernel_rfl) (by simp) (by rfl) ?_
 refine call_to (by kernel_rfl) (nz_add n (b := b) hb3 q5.freshed (by omega) i64c i6 i64c (by decide)) ?_
 rintro _ h8 n
 have n := n.z
 rw [hy]; clear hy y
 simp
 refine n.lit (ls := [m2.next]) (by simp) (by simp [i6]) rfl (by decide) fun ua un uc h9 _ n => ?_
 refine n.do_cell (k := (9, 1)) (i := 1) (by decide) Own.upd_self (by decide) (by kernel_rfl) rfl rfl rfl fun h10 n => ?_
 refine fin 3 (.slice ua un uc) vt [m2.next] to 0 _ h10 _ htm i64c (by decide) (show b < (m2.two b 5 r.1 d).blocks.length by rw [two_len]; exact hb3) (n.re fun k => by rw [upd_upd]; rfl) ht ?_ ?_ ?_
 all_goals simp
end Go.Proofs.Ytfelpjfopgiabaa
