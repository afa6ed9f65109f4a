/- A part of the proof: Hi, Hj, Hk, Ra, Ma, Sb, Rb, Rc, Rd, Rf, Rg, Rh, Sc, Sd, Se, Ta, Tb, Tc, Td, Sg, Mb, Mc, Md, Me. -/
import Derived.Test.YtfelpjfopgiabaaZReach3
set_option linter.unusedSimpArgs false
set_option linter.unusedVariables false
namespace Go.Proofs.Ytfelpjfopgiabaa
open Go Go.Lft
structure Th where
 blk : Int
 place : Int
 mks : List Int
 tks : List Int
 deriving Inhabited
def phiT (f : FuncD) (b i : Nat) : Th := ⟨b, -1 - i, [(nth (nth f.blocks b).phis i).dst], (nth (nth f.blocks b).phis i).ins.map InD.val⟩
def insT (f : FuncD) (b i : Nat) : Th := ⟨b, i, makesS (nth (nth f.blocks b).ins i), (nth (nth f.blocks b).ins i).args⟩
def endT (f : FuncD) (b : Nat) : Th := ⟨b, (nth f.blocks b).ins.length, [], (nth f.blocks b).term.args⟩
def thB (f : FuncD) (b : Nat) : List Th := rows (phiT f b) (nth f.blocks b).phis.length ++ rows (insT f b) (nth f.blocks b).ins.length ++ [endT f b]
def thTo (f : FuncD) (n : Nat) : List Th := up (fun b l => l ++ thB f b) n []
def thingsS (f : FuncD) : List Th := thTo f f.blocks.length
theorem thTo_succ {f : FuncD} {n : Nat} : thTo f (n + 1) = thTo f n ++ thB f n := rfl
theorem thTo_pre {f : FuncD} {n m : Nat} (h : n ≤ m) : thTo f n <+: thTo f m := by
 induction m with
 | zero => rw [show n = 0 by omega]; exact List.prefix_refl _
 | succ m ih =>
  rcases Nat.lt_or_ge n (m + 1) with h1 | h1
  ·exact (ih (by omega)).trans ⟨_, thTo_succ.symm⟩
  ·rw [show n = m + 1 by omega]; exact List.prefix_refl _
theorem rows_pre {β : Type} {x : Nat → β} {n m : Nat} (h : n ≤ m) : rows x n <+: rows x m := by
 induction m with
 | zero => rw [show n = 0 by omega]; exact List.prefix_refl _
 | succ m ih =>
  rcases Nat.lt_or_ge n (m + 1) with h1 | h1
  ·exact (ih (by omega)).trans ⟨_, rows_succ.symm⟩
  ·rw [show n = m + 1 by omega]; exact List.prefix_refl _
theorem pre_app {α : Type} {a b c : List α} (h : b <+: c) : a ++ b <+: a ++ c := by
 obtain ⟨t, rfl⟩ := h; exact ⟨t, by simp⟩
structure ThJ (J : List Th → View → Heap → Prop) : Prop where
 le : ∀ {l W h}, J l W h → W.le (vw h)
 ext : ∀ {l W h h'}, J l W h → (vw h).le (vw h') → J l (grow W h h') h'
theorem things_ok {f : FuncD} {v : Value} {h : Heap} {V : View} {gf : Nat} {caps : List Value} {J : List Th → View → Heap → Prop} (hv : Rd V v f) (hsm : SmF f) (hJ : ThJ J) (hg : isFn Try.prog gf = true) (h0 : J [] V h)
  (hstep : ∀ (l : List Th) (t : Th) (W : View) (h1 : Heap) (vm vt : Value), V.le W → l ++ [t] <+: thingsS f → J l W h1 → SlRd W vm t.mks → SlRd W vt t.tks → HCalls Try.prog gf (.int .i64 t.blk :: .int .i64 t.place :: vm :: vt :: caps).toArray h1 (fun _ h2 => J (l ++ [t]) W h2)) :
  HCalls Try.prog N.check_things #[v, .func (.func gf) #[] caps.toArray] h (fun _ h' => ∃ W, V.le W ∧ J (thingsS f) W h') := by
 refine calls_lift (args := [v, .func (.func gf) #[] caps.toArray]) follows F.check_things E.check_things (Nat.le_of_ble_eq_true (by kernel_rfl)) fun K hK => ?_
 dsimp only [L.check_things]
 refine lwp_hide fun z hz => ?_
 simp
 refine do_boxT rfl (hv.mono (hJ.le h0)) fun h1 e1 hle1 hs1 hat => ?_
 have j1 := hJ.ext h0 hle1
 obtain ⟨cp, vb, cb⟩ := at_funcB hat
 have hvb : SlRd V vb f.blocks := by
  obtain ⟨u, hu, hur⟩ := hv.part1 FuncD.p_blocks rfl rfl (K := vw h)
  have e : vb = u := by
   have hv' : ∃ cs : Array Value, v = .agg cs ∧ Rep.rd V cs.toList f := hv
   obtain ⟨cs, rfl, hcs⟩ := hv'
   have hb : h1[h.size]? = some (.cells cs T.api_Func (0, 0)) := by rw [e1]; simp
   have h3 : cellH (vw h1) ⟨h.size, 1, none⟩ = cs[1]? := by simp [cellH, vw, hb]
   simp at hu
   rw [cb.1] at h3
   rw [hu] at h3
   exact Option.some.inj h3
  rw [e]; exact rd_list.1 hur
 have hVW : V.le (grow V h h1) := le_grow (hJ.le h0)
 generalize grow V h h1 = W1 at j1 hVW
 generalize h.size = B at cb
 have hbb := cb.2.bound
 rw [hz]; clear hz z
 simp [cb.1, cb.2.len]
 refine lwp_range [1, 14, 15, 16] (fun (_ : Unit) b => [.func (.func gf) #[] caps.toArray, vb, .int .i64 f.blocks.length, .int .i64 b]) (fun _ b h2 => ∃ W, V.le W ∧ J (thTo f b) W h2) f.blocks.length ()
  rfl (by omega) rfl ⟨W1, hVW, j1⟩ (fun _ _ => rfl) (fun v i h1 hk m => by simp) ?_ ?_
 ·rintro _ b h2 hltb ⟨W2, hW2, j2⟩ K2 hK2
  have hvb2 := hvb.mono (View.le_trans hW2 (hJ.le j2))
  obtain ⟨u, hu, hur⟩ := (hvb.mono hW2).wh rfl (N := 6) rfl hltb
  refine lwp_hide fun z hz => ?_
  simp (disch := omega) [hvb2.idxn (N := 6) rfl, hu _ (hJ.le j2)]
  refine do_newX (X := W2) (z := .agg #[.slice none 0 0, .slice none 0 0, .int .i64 0, .slice none 0 0, .slice none 0 0, .int .i32 0]) (by kernel_rfl) rfl (by kernel_rfl) hur (fun _ => by simp) (fun _ => by simp) fun h3 hle3 hsz3 hat3 => ?_
  have j3 := hJ.ext j2 hle3
  have hat3' := hat3 (grow W2 h2 h3) (le_grow (hJ.le j2)) (by unfold grow; rw [if_neg (by omega)])
  obtain ⟨vp, vi, va, vt, bp, bi, bk, ba, bt⟩ := at_blkB hat3'
  have hVW3 := View.le_trans hW2 (le_grow (h' := h3) (hJ.le j2))
  generalize grow W2 h2 h3 = W3 at j3 hVW3 bp bi bk ba bt
  generalize h2.size = D at bp bi bk ba bt
  have hpre : thTo f b ++ thB f b <+: thingsS f := by rw [← thTo_succ]; exact thTo_pre hltb
  rw [hz]; clear hz z
  have bph := bp.2.bound
  have bih := bi.2.bound
  refine lwp_hide fun z hz => ?_
  simp [cellH_mono (hJ.le j3) bp.1, bp.2.len]
  refine lwp_range [1, 4, 5, 14, 15, 16, 22, 23, 24] (fun (_ : Unit) i => [.func (.func gf) #[] caps.toArray, .int .i64 b, .pointer (some ⟨D, 0, none⟩), vb, .int .i64 f.blocks.length, .int .i64 b, vp, .int .i64 (nth f.blocks b).phis.length, .int .i64 i])
   (fun _ i h4 => ∃ W, W3.le W ∧ J (thTo f b ++ rows (phiT f b) i) W h4) (nth f.blocks b).phis.length ()
   rfl (by omega) rfl ⟨W3, View.le_refl _, by simpa using j3⟩ (fun _ _ => rfl) (fun v i h1 hk m => by simp) ?_ ?_
  ·rintro _ i h4 hlti ⟨W4, hW4, j4⟩ K3 hK3
   have bp4 := bp.2.mono (View.le_trans hW4 (hJ.le j4))
   obtain ⟨u4, hu4, hur4⟩ := bp4.wh rfl (N := 2) rfl hlti
   refine lwp_hide fun y hy => ?_
   simp (disch := omega) [bp4.idxn (N := 2) rfl, hu4 _ (View.le_refl _)]
   refine do_newX (z := .agg #[.int .i64 0, .slice none 0 0]) (by kernel_rfl) rfl (by kernel_rfl) hur4 (fun _ => by simp) (fun _ => by simp) fun h5 hle5 hsz5 hat5 => ?_
   obtain ⟨c0, vq, cq⟩ := at_phiB (hat5 (vw h5) hle5 rfl)
   have rd := ((hat5 (vw h5) hle5 rfl).part PhiD.p_dst).rng
   have hpl := (hsm.blk b hltb).phi i hlti
   have hpt : phiT f b i = ⟨b, -1 - i, [(nth (nth f.blocks b).phis i).dst], (nth (nth f.blocks b).phis i).ins.map InD.val⟩ := rfl
   generalize nth (nth f.blocks b).phis i = x at c0 cq rd hpt hpl
   generalize h4.size = D4 at c0 cq
   have bq := cq.2.bound
   rw [hy]; clear hy y
   refine lwp_hide fun y hy => ?_
   simp
   rw [hy]; clear hy y
   refine lwp_hide fun y hy => ?_
   simp [cq.1, cq.2.len]
   refine lwp_range [1, 4, 5, 6, 7, 8, 14, 15, 16, 22, 23, 24, 30, 31, 32] (fun (r : Value) j => [.func (.func gf) #[] caps.toArray, .int .i64 b, .pointer (some ⟨D, 0, none⟩), .int .i64 i, .pointer (some ⟨D4, 0, none⟩), r, vb, .int .i64 f.blocks.length, .int .i64 b, vp, .int .i64 (nth f.blocks b).phis.length, .int .i64 i, vq, .int .i64 x.ins.length, .int .i64 j])
    (fun r j h6 => Mine nothing h5 h6 nothing T.int r ((x.ins.map InD.val).take j)) x.ins.length (.slice none 0 0)
    rfl (by omega) rfl (Mine.start nothing_le) (fun _ _ => rfl) (fun v i h1 hk m => by simp) ?_ ?_
   ·rintro r j h6 hltj m6 K4 hK4
    have cq6 := cq.2.mono m6.old
    obtain ⟨u6, hu6, hur6⟩ := cq6.wh rfl (N := 2) rfl hltj
    refine lwp_hide fun q hq => ?_
    simp (disch := omega) [cq6.idxn (N := 2) rfl, hu6 _ (View.le_refl _)]
    refine do_newX (z := .agg #[.int .i64 0, .int .i64 0]) (by kernel_rfl) rfl (by kernel_rfl) hur6 (fun _ => by simp) (fun _ => by simp) fun h7 hle7 hsz7 hat7 => ?_
    have e1 := (at_inB (hat7 (vw h7) hle7 rfl)).2
    have rv := ((hat7 (vw h7) hle7 rfl).part InD.p_val).rng
    generalize h6.size = D6 at e1
    rw [hq]; clear hq q
    simp [e1]
    have hl8 : ((x.ins.map InD.val).take j).length = j := by simp; omega
    refine (m6.ext' hle7).push (d := (nth x.ins j).val) El.s_int (by simp <;> rfl) (rd_i rv.1 rv.2) (by omega) (by omega) (fun _ => by simp) (fun _ => by simp) fun u8 v8 h8 m8 => ?_
    refine hK4 v8 _ _ rfl rfl ?_
    rw [List.take_add_one, List.getElem?_map, List.getElem?_eq_getElem hltj]
    rw [nth_eq hltj] at m8
    exact m8
   ·rintro r h6 m6
    rw [List.take_of_length_le (by simp)] at m6
    simp
    rw [hy]; clear hy y
    simp (disch := omega) [cellH_mono m6.old c0]
    refine do_litN (X := nothing) (ds := [x.dst]) (vs := [.int .i64 x.dst]) rfl El.s_int (by simp) ⟨rd_int.2 ⟨rfl, rd⟩, trivial⟩ nothing_le rfl (by omega) fun u7 h7 hle7 hsz7 hu7 _ => ?_
    have hle47 := View.le_trans hle5 (View.le_trans m6.old hle7)
    have j7 := hJ.ext j4 hle47
    have hW7 := View.le_trans hW4 (le_grow (h' := h7) (hJ.le j4))
    have pre : (thTo f b ++ rows (phiT f b) i) ++ [phiT f b i] <+: thingsS f := by
     rw [List.append_assoc, ← rows_succ]
     exact (pre_app ((rows_pre hlti).trans ⟨_, (List.append_assoc ..).symm⟩)).trans hpre
    rw [hpt] at pre
    refine do_callv (ops := [.tmp 43, .tmp 45, .tmp 48, .tmp 49]) rfl hg (hstep _ ⟨b, -1 - i, [x.dst], x.ins.map InD.val⟩ _ h7 u7 r (View.le_trans hVW3 hW7) pre j7 (hu7 _ nothing_le (grow_new (by have := ext_size hle5; have := ext_size m6.old; omega))) (m6.fresh.mono (fresh_in (ext_size hle5) hle7))) ?_
    rintro _ h8 j8
    exact hK3 () _ _ rfl rfl ⟨_, hW7, by rw [rows_succ, ← List.append_assoc, hpt]; exact j8⟩
  ·rintro _ h4 ⟨W4, hW4, j4⟩
   simp
   rw [hz]; clear hz z
   refine lwp_hide fun z hz => ?_
   have hW4h := View.le_trans hW4 (hJ.le j4)
   simp [cellH_mono hW4h bi.1, (bi.2.mono hW4h).len]
   refine lwp_range [1, 4, 5, 14, 15, 16, 53, 54, 55] (fun (_ : Unit) i => [.func (.func gf) #[] caps.toArray, .int .i64 b, .pointer (some ⟨D, 0, none⟩), vb, .int .i64 f.blocks.length, .int .i64 b, vi, .int .i64 (nth f.blocks b).ins.length, .int .i64 i])
    (fun _ i h5 => ∃ W, W3.le W ∧ J (thTo f b ++ rows (phiT f b) (nth f.blocks b).phis.length ++ rows (insT f b) i) W h5) (nth f.blocks b).ins.length ()
    rfl (by omega) rfl ⟨W4, hW4, by simpa using j4⟩ (fun _ _ => rfl) (fun v i h1 hk m => by simp) ?_ ?_
   ·rintro _ i h5 hlti ⟨W5, hW5, j5⟩ K3 hK3
    have bi5 := bi.2.mono (View.le_trans hW5 (hJ.le j5))
    obtain ⟨u5, hu5, hur5⟩ := (bi.2.mono hW5).wh rfl (N := 5) rfl hlti
    refine lwp_hide fun y hy => ?_
    simp (disch := omega) [bi5.idxn (N := 5) rfl, hu5 _ (hJ.le j5)]
    refine do_newX (z := .agg #[.int .i64 0, .int .i64 0, .int .i64 0, .slice none 0 0, .int .i32 0]) (by kernel_rfl) rfl (by kernel_rfl) hur5 (fun _ => by simp) (fun _ => by simp) fun h6 hle6 hsz6 hat6 => ?_
    have hatg := hat6 (grow W5 h5 h6) (le_grow (hJ.le j5)) (grow_new (Nat.le_refl _))
    have hat6' := hatg.mono (grow_le (View.le_trans (hJ.le j5) hle6))
    obtain ⟨_, _, _, vq, cq⟩ := at_insB hatg
    obtain ⟨w, w1, w2⟩ := hat6'.loads rfl
    have w1 : Un.ev (vw h6) (.loads 5) (.pointer (some ⟨h5.size, 0, none⟩)) = some w := w1
    have hpt : insT f b i = ⟨b, i, makesS (nth (nth f.blocks b).ins i), (nth (nth f.blocks b).ins i).args⟩ := rfl
    generalize nth (nth f.blocks b).ins i = x at cq w2 hpt
    generalize h5.size = D5 at cq w1
    rw [hy]; clear hy y
    have hg6 : (grow W5 h5 h6).le (vw h6) := grow_le (View.le_trans (hJ.le j5) hle6)
    refine drawn_at (vw h6) (View.le_refl _) ?_
    simp [cellH_mono hg6 cq.1, w1]
    refine call_to (by kernel_rfl) (makes_ok w2) ?_
    rintro u7 h7 ⟨hle7, hu7⟩
    refine ⟨hle7, ?_⟩
    have hle57 := View.le_trans hle6 hle7
    have j7 := hJ.ext j5 hle57
    have hW7 := View.le_trans hW5 (le_grow (h' := h7) (hJ.le j5))
    have pre : (thTo f b ++ rows (phiT f b) (nth f.blocks b).phis.length ++ rows (insT f b) i) ++ [insT f b i] <+: thingsS f := by
     rw [List.append_assoc, ← rows_succ, List.append_assoc]
     refine (pre_app ?_).trans hpre
     exact (pre_app (rows_pre hlti)).trans ⟨_, rfl⟩
    rw [hpt] at pre
    refine do_callv (ops := [.tmp 61, .tmp 62, .tmp 64, .tmp 66]) rfl hg (hstep _ ⟨b, i, makesS x, x.args⟩ _ h7 u7 vq (View.le_trans hVW3 hW7) pre j7 (hu7.mono (fresh_in (ext_size hle6) (View.le_refl _))) (cq.2.mono (grow_mono hle7))) ?_
    rintro _ h8 j8
    exact hK3 () _ _ rfl rfl ⟨_, hW7, by rw [rows_succ, ← List.append_assoc, hpt]; exact j8⟩
   ·rintro _ h5 ⟨W5, hW5, j5⟩
    simp
    rw [hz]; clear hz z
    have hW5h := View.le_trans hW5 (hJ.le j5)
    simp [cellH_mono hW5h bi.1, (bi.2.mono hW5h).len, cellH_mono hW5h ba.1]
    have pre : (thTo f b ++ rows (phiT f b) (nth f.blocks b).phis.length ++ rows (insT f b) (nth f.blocks b).ins.length) ++ [endT f b] <+: thingsS f := by
     rw [List.append_assoc, List.append_assoc, ← List.append_assoc (rows _ _)]
     exact hpre
    refine do_callv (ops := [.tmp 70, .tmp 73, .const (.slice none 0 0), .tmp 76]) rfl hg (hstep _ ⟨b, (nth f.blocks b).ins.length, [], (nth f.blocks b).term.args⟩ _ h5 (.slice none 0 0) va (View.le_trans hVW3 hW5) pre j5 nil_sl (ba.2.mono hW5)) ?_
    rintro _ h6 j6
    refine hK2 () _ _ rfl rfl ⟨_, View.le_trans hVW3 hW5, ?_⟩
    have e : thTo f (b + 1) = (thTo f b ++ rows (phiT f b) (nth f.blocks b).phis.length ++ rows (insT f b) (nth f.blocks b).ins.length) ++ [endT f b] := by
     rw [thTo_succ, thB]; simp [List.append_assoc]
    rw [e]; exact j6
 ·rintro _ h2 ⟨W2, hW2, j2⟩
  simp
  exact hK _ _ ⟨W2, hW2, j2⟩
end Go.Proofs.Ytfelpjfopgiabaa
namespace Go.Proofs.Ytfelpjfopgiabaa
open Go Go.Lft
def topStep (top n : Int) : Int := if withinS n 0 8191 then (if top < n + 1 then n + 1 else top) else top
def topTh (top : Int) (t : Th) : Int := t.mks.foldl topStep top
def topBase (ps : Int) : Int := if 8192 < (if ps < 0 then 0 else ps) then 8192 else (if ps < 0 then 0 else ps)
def topS (f : FuncD) : Int := (thingsS f).foldl topTh (topBase f.params)
theorem topStep_le {top n : Int} (h : 0 ≤ top ∧ top ≤ 8192) : 0 ≤ topStep top n ∧ topStep top n ≤ 8192 := by
 unfold topStep
 split
 ·rename_i hw
  simp only [withinS, Bool.and_eq_true, decide_eq_true_eq] at hw
  split <;> omega
 ·exact h
theorem foldl_inv {α β : Type} (I : β → Prop) {f : β → α → β} (hf : ∀ x a, I x → I (f x a)) : ∀ (l : List α) (x : β), I x → I (l.foldl f x)
 | [], _, h => h
 | a :: l, x, h => foldl_inv I hf l _ (hf x a h)
theorem topTh_le {top : Int} {t : Th} (h : 0 ≤ top ∧ top ≤ 8192) : 0 ≤ topTh top t ∧ topTh top t ≤ 8192 := foldl_inv (fun x => 0 ≤ x ∧ x ≤ 8192) (fun _ _ h => topStep_le h) _ _ h
theorem topBase_le {ps : Int} : 0 ≤ topBase ps ∧ topBase ps ≤ 8192 := by unfold topBase; split <;> split <;> omega
theorem topS_le {f : FuncD} : 0 ≤ topS f ∧ topS f ≤ 8192 := foldl_inv (fun x => 0 ≤ x ∧ x ≤ 8192) (fun _ _ h => topTh_le h) _ _ topBase_le
structure Nv (D : Nat) (T : TypeId) (x : Int) (W : View) (h : Heap) : Prop where
 le : W.le (vw h)
 av : W D = none
 cell : h[D]? = some (.cells #[.int .i64 x] T (0, 0))
theorem Nv.lt {D : Nat} {T : TypeId} {x : Int} {W : View} {h : Heap} (k : Nv D T x W h) : D < h.size := (Array.getElem?_eq_some_iff.1 k.cell).1
theorem Nv.ext {D : Nat} {T : TypeId} {x : Int} {W : View} {h h' : Heap} (k : Nv D T x W h) (hle : (vw h).le (vw h')) : Nv D T x (grow W h h') h' :=
 ⟨grow_le (View.le_trans k.le hle), by rw [grow_same k.lt]; exact k.av, hle _ _ k.cell⟩
theorem Nv.read {D : Nat} {T : TypeId} {x : Int} {W : View} {h : Heap} (k : Nv D T x W h) : cellH (vw h) ⟨D, 0, none⟩ = some (.int .i64 x) := cellH_blk (show vw h D = _ from k.cell) rfl
theorem Nv.put {po : OP} {P : Program} {t ty : TypeId} {x y : Operand} {us : List (Nat × Value)} {D : Nat} {T : TypeId} {a b : Int} {W : View} {h : Heap} {K : Value → Heap → Prop} (k : Nv D T a W h) (hsz : sizeB P t = some 1) (hx : asg us x = .pointer (some ⟨D, 0, none⟩)) (hy : asg us y = .int .i64 b)
  (hK : ∀ h', Nv D T b W h' → K undef h') : Lft.step P (.store t x y) ty us h K := by
 refine do_store (g := D) (o := 0) (n := 1) (v := .int .i64 b) hsz hx hy rfl (by simp [Value.oneCell']) k.cell (by simp) fun h' hs ⟨row, hr, he⟩ ho => hK h' ⟨fun c o hc => ?_, k.av, ?_⟩
 ·have hne : c ≠ D := fun e => by rw [e, k.av] at hc; cases hc
  show h'[c]? = _
  rw [ho c hne]; exact k.le c o hc
 ·rw [one_cell rfl rfl he] at hr; exact hr
theorem top1_ok {D : Nat} {x blk place : Int} {ms : List Int} {vm vt : Value} {W : View} {h : Heap} (k : Nv D T.int x W h) (hx : 0 ≤ x ∧ x ≤ 8192) (hm : SlRd W vm ms) :
  HCalls Try.prog N.check_Top_1 #[.int .i64 blk, .int .i64 place, vm, vt, .pointer (some ⟨D, 0, none⟩)] h (fun _ h2 => Nv D T.int (ms.foldl topStep x) W h2) := by
 refine calls_lift (args := [.int .i64 blk, .int .i64 place, vm, vt, .pointer (some ⟨D, 0, none⟩)]) follows F.check_Top_1 E.check_Top_1 (Nat.le_of_ble_eq_true (by kernel_rfl)) fun K hK => ?_
 have bm := hm.bound
 simp [L.check_Top_1, (hm.mono k.le).len]
 refine lwp_range [4, 11, 12, 13] (fun (_ : Unit) i => [.pointer (some ⟨D, 0, none⟩), vm, .int .i64 ms.length, .int .i64 i]) (fun _ i h1 => Nv D T.int ((ms.take i).foldl topStep x) W h1) ms.length ()
  rfl (by omega) rfl k (fun _ _ => rfl) (fun v i h1 hk m => by simp) ?_ ?_
 ·rintro _ i h1 hlt k1 K2 hK2
  have hm1 := hm.mono k1.le
  have hst : (ms.take (i + 1)).foldl topStep x = topStep ((ms.take i).foldl topStep x) (nth ms i) := by
   rw [List.take_succ_eq_append_getElem hlt, List.foldl_append, nth_eq hlt]; rfl
  have hb := foldl_inv (f := topStep) (fun x => 0 ≤ x ∧ x ≤ 8192) (fun _ _ h => topStep_le h) (ms.take i) x hx
  generalize (ms.take i).foldl topStep x = y at k1 hst hb
  refine lwp_hide fun z hz => ?_
  simp (disch := omega) [hm1.idx1 rfl, hm1.int (View.le_refl _)]
  rw [hz]; clear hz z
  refine lwp_hide fun z hz => ?_
  simp
  refine call_to (by kernel_rfl) within_ok ?_
  rintro _ _ ⟨rfl, rfl⟩
  rw [hz]; clear hz z
  cases hw : withinS (nth ms i) 0 8191 with
  | false =>
   simp
   exact hK2 () _ _ rfl rfl (by rw [hst, topStep, hw]; exact k1)
  | true =>
   have hw' := hw
   simp only [withinS, Bool.and_eq_true, decide_eq_true_eq] at hw'
   simp (disch := omega) [k1.read]
   refine k1.put (by kernel_rfl) rfl rfl fun h2 k2 => ?_
   exact hK2 () _ _ rfl rfl (by rw [hst, topStep, hw]; exact k2)
 ·rintro _ h1 k1
  rw [List.take_length] at k1
  simp
  exact hK _ _ k1
theorem top_ok {f : FuncD} {v : Value} {h : Heap} (hv : Rd (vw h) v f) (hsm : SmF f) : HCalls Try.prog N.check_Top #[v] h (fun u h' => u = .int .i64 (topS f) ∧ (vw h).le (vw h')) := by
 refine calls_lift (args := [v]) follows F.check_Top E.check_Top (Nat.le_of_ble_eq_true (by kernel_rfl)) fun K hK => ?_
 dsimp only [L.check_Top]
 refine lwp_hide fun z hz => ?_
 simp
 refine do_boxT rfl hv fun h1 e1 hle1 hs1 hat => ?_
 obtain ⟨cp, vb, cb⟩ := at_funcB hat
 obtain ⟨u, hu, hur⟩ := hat.loads rfl
 have hu : Un.ev (vw h1) (.loads 2) (.pointer (some ⟨h.size, 0, none⟩)) = some u := hu
 generalize h.size = B at cp cb hu
 rw [hz]; clear hz z
 refine lwp_hide fun z hz => ?_
 simp [cp]
 refine do_newV (n := 1) (z := .int .i64 0) (v := .int .i64 (topBase f.params)) (by kernel_rfl) rfl (by kernel_rfl) rfl (by simp [Value.oneCell']) (fun _ => by simp) (fun _ => by simp [topBase]) fun h2 hle2 hs2 hb2 => ?_
 have hu2 : Un.ev (vw h2) (.loads 2) (.pointer (some ⟨B, 0, none⟩)) = some u := by
  have := ev_mono (ρ := fun _ => none) (e := .un (.loads 2) (.con (.pointer (some ⟨B, 0, none⟩)))) hle2 (v := u) (by simpa using hu)
  simpa using this
 rw [hz]; clear hz z
 refine lwp_hide fun z hz => ?_
 simp [hu2]
 have hN : Nv h1.size T.int (topBase f.params) (vw h1) h2 := ⟨hle2, by simp [vw], hb2⟩
 refine call_to (by kernel_rfl) (things_ok (caps := [.pointer (some ⟨h1.size, 0, none⟩)]) (J := fun l W h => Nv h1.size T.int (l.foldl topTh (topBase f.params)) W h) hur hsm ⟨fun k => k.le, fun k hle => k.ext hle⟩ (by kernel_rfl) hN fun l t W h3 vm vt hVW _ k hm ht => ?_) ?_
 ·have := foldl_inv (f := topTh) (fun x => 0 ≤ x ∧ x ≤ 8192) (fun _ _ h => topTh_le h) l _ (topBase_le (ps := f.params))
  refine (top1_ok k this hm).mono fun _ h4 k4 => ?_
  rw [List.foldl_append]; exact k4
 ·rintro _ h3 ⟨W, hVW, k⟩
  rw [hz]; clear hz z
  simp [k.read]
  exact hK _ _ ⟨rfl, View.le_trans hle1 (View.le_trans hVW k.le)⟩
def inc64 (x : Int) : Int := IntKind.i64.wrap (x + 1)
def useStep (l : List Int) (n : Int) : List Int := if withinS n 0 ((l.length : Int) - 1) then l.set n.toNat (inc64 (nth l n.toNat)) else l
def useTh (l : List Int) (t : Th) : List Int := t.tks.foldl useStep l
def usedS (f : FuncD) : List Int := (thingsS f).foldl useTh (List.replicate (topS f).toNat 0)
theorem i64_rng {x : Int} : -9223372036854775808 ≤ IntKind.i64.wrap x ∧ IntKind.i64.wrap x ≤ 9223372036854775807 := by
 rw [IntKind.wrap_i64]; omega
structure Us (D : Nat) (vo : Value) (l : List Int) (W : View) (h : Heap) : Prop where
 le : W.le (vw h)
 av : Av W vo
 own : OwnT nothing h T.int vo l
 box : cellH W ⟨D, 0, none⟩ = some vo
theorem Us.ext {D : Nat} {vo : Value} {l : List Int} {W : View} {h h' : Heap} (k : Us D vo l W h) (hle : (vw h).le (vw h')) : Us D vo l (grow W h h') h' :=
 ⟨grow_le (View.le_trans k.le hle), k.av.grow fun b hb => k.own.lt hb, k.own.ext hle, cellH_mono (le_grow k.le) k.box⟩
theorem Us.now {D : Nat} {vo : Value} {l : List Int} {W : View} {h : Heap} (k : Us D vo l W h) : SlRd (vw h) vo l := k.own.now nothing_le
theorem uses1_ok {D : Nat} {blk place : Int} {vo vm vt : Value} {l ts : List Int} {W : View} {h : Heap} (k : Us D vo l W h) (ht : SlRd W vt ts) :
  HCalls Try.prog N.check_Uses_1 #[.int .i64 blk, .int .i64 place, vm, vt, .pointer (some ⟨D, 0, none⟩)] h (fun _ h2 => Us D vo (ts.foldl useStep l) W h2) := by
 refine calls_lift (args := [.int .i64 blk, .int .i64 place, vm, vt, .pointer (some ⟨D, 0, none⟩)]) follows F.check_Uses_1 E.check_Uses_1 (Nat.le_of_ble_eq_true (by kernel_rfl)) fun K hK => ?_
 have bm := ht.bound
 simp [L.check_Uses_1, (ht.mono k.le).len]
 refine lwp_range [4, 11, 12, 13] (fun (_ : Unit) i => [.pointer (some ⟨D, 0, none⟩), vt, .int .i64 ts.length, .int .i64 i]) (fun _ i h1 => Us D vo ((ts.take i).foldl useStep l) W h1) ts.length ()
  rfl (by omega) rfl k (fun _ _ => rfl) (fun v i h1 hk m => by simp) ?_ ?_
 ·rintro _ i h1 hlt k1 K2 hK2
  have hm1 := ht.mono k1.le
  have hst : (ts.take (i + 1)).foldl useStep l = useStep ((ts.take i).foldl useStep l) (nth ts i) := by
   rw [List.take_succ_eq_append_getElem hlt, List.foldl_append, nth_eq hlt]; rfl
  generalize (ts.take i).foldl useStep l = y at k1 hst
  have hy := k1.now
  have yb := hy.bound
  refine lwp_hide fun z hz => ?_
  simp (disch := omega) [hm1.idx1 rfl, hm1.int (View.le_refl _)]
  rw [hz]; clear hz z
  refine lwp_hide fun z hz => ?_
  simp (disch := omega) [cellH_mono k1.le k1.box, hy.len]
  refine call_to (by kernel_rfl) within_ok ?_
  rintro _ _ ⟨rfl, rfl⟩
  rw [hz]; clear hz z
  cases hw : withinS (nth ts i) 0 ((y.length : Int) - 1) with
  | false =>
   simp
   exact hK2 () _ _ rfl rfl (by rw [hst, useStep, hw]; exact k1)
  | true =>
   have hw' := hw
   simp only [withinS, Bool.and_eq_true, decide_eq_true_eq] at hw'
   simp (disch := omega) [cellH_mono k1.le k1.box, hy.idx1 rfl, hy.int (View.le_refl _)]
   refine do_set (W := nothing) (i := (nth ts i).toNat) (d := inc64 (nth y (nth ts i).toNat)) (by kernel_rfl) (by simp [show Rep.n Int = 1 from rfl]) (by simp [inc64] <;> rfl) k1.own (by omega) (rd_int.2 ⟨rfl, i64_rng⟩) fun h2 o2 m2 => ?_
   refine hK2 () _ _ rfl rfl ?_
   rw [hst, useStep, hw]
   exact ⟨(m2.view k1.le k1.av).1, k1.av, o2, k1.box⟩
 ·rintro _ h1 k1
  rw [List.take_length] at k1
  simp
  exact hK _ _ k1
theorem uses2_ok {f : FuncD} {v : Value} {h : Heap} (hv : Rd (vw h) v f) (hsm : SmF f) : HCalls Try.prog N.check_Uses #[v] h (fun u h' => (vw h).le (vw h') ∧ SlRd (fresh h h') u (usedS f)) := by
 refine calls_lift (args := [v]) follows F.check_Uses E.check_Uses (Nat.le_of_ble_eq_true (by kernel_rfl)) fun K hK => ?_
 dsimp only [L.check_Uses]
 refine lwp_hide fun z hz => ?_
 simp
 refine do_boxT rfl hv fun h1 e1 hle1 hs1 hat => ?_
 obtain ⟨u, hu, hur⟩ := hat.loads rfl
 have hu : Un.ev (vw h1) (.loads 2) (.pointer (some ⟨h.size, 0, none⟩)) = some u := hu
 generalize h.size = B at hu
 rw [hz]; clear hz z
 refine lwp_hide fun z hz => ?_
 simp [hu]
 refine call_to (by kernel_rfl) (top_ok hur hsm) ?_
 rintro _ h2 ⟨rfl, hle2⟩
 have ht := topS_le (f := f)
 obtain ⟨n, hn⟩ := Int.eq_ofNat_of_zero_le ht.1
 refine Mine.made (k := .i64) (V := nothing) (W := nothing) (h0 := h) (n := n) (d := (0 : Int)) El.s_int (View.le_trans hle1 hle2) nothing_le (Old.nothing _ _) (by simp [hn]) (by simp [hn]) ⟨rfl, by omega, by omega⟩ (by omega) (by omega) fun vo h3 m3 hle3 hb3 => ?_
 obtain ⟨hvc, hvo⟩ := cells_of_own m3.own
 refine do_newV (n := 1) (z := .slice none 0 0) (v := vo) (by kernel_rfl) rfl (by kernel_rfl) (by rw [hvc]; rfl) (by rw [hvc]; simpa using hvo) (fun _ => by simp) (fun _ => by simp) fun h4 hle4 hs4 hb4 => ?_
 have hle14 := View.le_trans hle2 (View.le_trans hle3 hle4)
 have hu4 : Un.ev (vw h4) (.loads 2) (.pointer (some ⟨B, 0, none⟩)) = some u := by
  have := ev_mono (ρ := fun _ => none) (e := .un (.loads 2) (.con (.pointer (some ⟨B, 0, none⟩)))) hle14 (v := u) (by simpa using hu)
  simpa using this
 rw [hz]; clear hz z
 refine lwp_hide fun z hz => ?_
 simp [hu4]
 have hbut : (but vo h4).le (vw h4) := but_le
 have hs2 : h2.size < h3.size := m3.own.lt hb3
 have hDne : vo.ownBlock ≠ some h3.size := by rw [hb3]; intro e; simp only [Option.some.injEq] at e; omega
 have hrow : usedS f = (thingsS f).foldl useTh (List.replicate n 0) := by rw [usedS, hn]; rfl
 have hU : Us h3.size vo (List.replicate n 0) (but vo h4) h4 := ⟨hbut, but_av, m3.own.ext hle4, cellH_blk (c := #[vo]) (T := T.s_int) (fz := (0, 0)) (by unfold but; rw [if_neg hDne, hb4, hvc]) rfl⟩
 have hur4 : Rd (but vo h4) u f := by
  have := hur.mono (K := but vo h4) (fun b o hb => by
   have hlt := View.lt (View.le_refl (vw h1)) hb
   have h4b := hle14 b o hb
   unfold but
   rw [if_neg]
   ·exact h4b
   ·rw [hb3]; intro e; simp only [Option.some.injEq] at e; have := ext_size hle2; omega)
  exact this
 refine call_to (by kernel_rfl) (things_ok (caps := [.pointer (some ⟨h3.size, 0, none⟩)]) (J := fun l W h => Us h3.size vo (l.foldl useTh (List.replicate n 0)) W h) hur4 hsm ⟨fun k => k.le, fun k hle => k.ext hle⟩ (by kernel_rfl) hU fun l t W h5 vm vt hVW _ k hm ht => ?_) ?_
 ·refine (uses1_ok k ht).mono fun _ h6 k6 => ?_
  rw [List.foldl_append]; exact k6
 ·rintro _ h5 ⟨W, hVW, k⟩
  rw [hz]; clear hz z
  simp [cellH_mono k.le k.box]
  have hle : (vw h).le (vw h5) := fun b o hb => by
   have hlt := View.lt (View.le_refl (vw h)) hb
   refine k.le b o (hVW b o ?_)
   unfold but
   rw [if_neg]
   ·exact View.le_trans hle1 hle14 b o hb
   ·rw [hb3]; intro e; simp only [Option.some.injEq] at e; have := ext_size hle2; omega
  refine hK _ _ ⟨hle, ?_⟩
  rw [hrow]
  refine k.own.fresh (fun _ _ h => by cases h) fun b hb => ?_
  rw [hb3] at hb; cases hb
  exact View.none_of_ge (View.le_refl _) (by have := ext_size hle2; omega)
end Go.Proofs.Ytfelpjfopgiabaa
namespace Go.Proofs.Ytfelpjfopgiabaa
open Go Go.Lft
theorem mem_rows {β : Type} {x : Nat → β} {n : Nat} {y : β} : y ∈ rows x n ↔ ∃ i, i < n ∧ y = x i := by
 simp only [rows, List.mem_map, List.mem_range]
 exact ⟨fun ⟨i, h, e⟩ => ⟨i, h, e.symm⟩, fun ⟨i, h, e⟩ => ⟨i, h, e.symm⟩⟩
theorem mem_thTo {f : FuncD} {n : Nat} {t : Th} : t ∈ thTo f n ↔ ∃ b, b < n ∧ t ∈ thB f b := by
 induction n with
 | zero => simp [thTo, up]
 | succ n ih =>
  rw [thTo_succ, List.mem_append, ih]
  constructor
  ·rintro (⟨b, h1, h2⟩ | h)
   ·exact ⟨b, by omega, h2⟩
   ·exact ⟨n, by omega, h⟩
  ·rintro ⟨b, h1, h2⟩
   rcases Nat.lt_or_ge b n with h | h
   ·exact .inl ⟨b, h, h2⟩
   ·rw [show b = n by omega] at h2; exact .inr h2
theorem mem_thB {f : FuncD} {b : Nat} {t : Th} : t ∈ thB f b ↔ (∃ i, i < (nth f.blocks b).phis.length ∧ t = phiT f b i) ∨ (∃ i, i < (nth f.blocks b).ins.length ∧ t = insT f b i) ∨ t = endT f b := by
 simp only [thB, List.mem_append, mem_rows, List.mem_singleton, or_assoc]
theorem makesS_len {i : InsD} : (makesS i).length ≤ 2 := by unfold makesS; split <;> (try split) <;> simp
structure ThOk (f : FuncD) (t : Th) : Prop where
 blk : 0 ≤ t.blk ∧ t.blk < f.blocks.length
 place : -10000 ≤ t.place ∧ t.place ≤ 10000
 mks : t.mks.length ≤ 10000
 tks : t.tks.length ≤ 10000
 ins : 0 ≤ t.place → t.mks ≠ [] → t.place < (nth f.blocks t.blk.toNat).ins.length
theorem thing_ok {f : FuncD} (hsm : SmF f) {t : Th} (h : t ∈ thingsS f) : ThOk f t := by
 obtain ⟨b, hb, h⟩ := mem_thTo.1 h
 have s := hsm.blk b hb
 have sp := s.phis
 have si := s.ins
 rcases mem_thB.1 h with ⟨i, hi, rfl⟩ | ⟨i, hi, rfl⟩ | rfl
 ·exact ⟨⟨by simp [phiT], by simp [phiT]; omega⟩, by simp only [phiT]; omega, by simp [phiT], by simpa [phiT] using s.phi i hi, fun h => by simp only [phiT] at h; omega⟩
 ·refine ⟨⟨by simp [insT], by simp [insT]; omega⟩, by simp only [insT]; omega, Nat.le_trans makesS_len (by decide), s.inn i hi, fun _ _ => by simp [insT]; omega⟩
 ·exact ⟨⟨by simp [endT], by simp [endT]; omega⟩, by simp only [endT]; omega, by simp [endT], s.args, fun _ h => absurd rfl h⟩
theorem thTo_len {f : FuncD} (hsm : SmF f) : ∀ {n : Nat}, n ≤ f.blocks.length → (thTo f n).length ≤ n * 20001
 | 0, _ => by simp [thTo, up]
 | n + 1, h => by
  have ih := thTo_len hsm (n := n) (by omega)
  have s := hsm.blk n (by omega)
  have sp := s.phis
  have si := s.ins
  rw [thTo_succ, List.length_append, thB]
  simp only [List.length_append, rows_len, List.length_singleton]
  omega
theorem things_len {f : FuncD} (hsm : SmF f) : (thingsS f).length ≤ 200010000 := by
 have := thTo_len hsm (Nat.le_refl f.blocks.length)
 have := hsm.len
 unfold thingsS; omega
abbrev WL := List (Int × Int)
def whereStep (val : Int) (w : Int × Int) (l : WL) (n : Int) : WL := if n = val then l ++ [w] else l
def madeTh (val : Int) (l : WL) (t : Th) : WL := t.mks.foldl (whereStep val (t.blk, t.place)) l
def takenTh (val : Int) (l : WL) (t : Th) : WL := t.tks.foldl (whereStep val (t.blk, t.place)) l
theorem whereStep_len {val : Int} {w : Int × Int} {ns : List Int} : ∀ {l : WL}, (ns.foldl (whereStep val w) l).length ≤ l.length + ns.length := by
 induction ns with
 | nil => simp
 | cons n ns ih =>
  intro l
  rw [List.foldl_cons]
  have := ih (l := whereStep val w l n)
  have h2 : (whereStep val w l n).length ≤ l.length + 1 := by unfold whereStep; split <;> simp
  simp only [List.length_cons]; omega
theorem foldTh_len {F : WL → Th → WL} {c : Nat} {l : List Th} (h : ∀ t ∈ l, ∀ x, (F x t).length ≤ x.length + c) : ∀ (x : WL), (l.foldl F x).length ≤ x.length + l.length * c := by
 induction l with
 | nil => simp
 | cons t l ih =>
  intro x
  rw [List.foldl_cons]
  have h1 := ih (fun t ht => h t (List.mem_cons_of_mem _ ht)) (F x t)
  have h2 := h t (List.mem_cons_self ..) x
  simp only [List.length_cons, Nat.succ_mul]; omega
def foldOwn (B1 : Nat) (v1 : Value) (l1 : WL) (B2 : Nat) (v2 : Value) (l2 : WL) : Own := fun k =>
 if k = (0, 0) then bx T.s_check_where B1 (Raw.mk v1) else if k = (0, 1) then it T.check_where v1 l1 else if k = (1, 0) then bx T.s_check_where B2 (Raw.mk v2) else if k = (1, 1) then it T.check_where v2 l2 else none
structure Fo (val : Int) (C B1 B2 : Nat) (l1 l2 : WL) (W : View) (h : Heap) : Prop where
 box : cellH W ⟨C, 0, none⟩ = some (.int .i64 val)
 ex : ∃ v1 v2, Owns W h (foldOwn B1 v1 l1 B2 v2 l2)
theorem Fo.le {val : Int} {C B1 B2 : Nat} {l1 l2 : WL} {W : View} {h : Heap} (k : Fo val C B1 B2 l1 l2 W h) : W.le (vw h) := let ⟨_, _, w⟩ := k.ex; w.wle
theorem Fo.ext {val : Int} {C B1 B2 : Nat} {l1 l2 : WL} {W : View} {h h' : Heap} (k : Fo val C B1 B2 l1 l2 W h) (hle : (vw h).le (vw h')) : Fo val C B1 B2 l1 l2 (grow W h h') h' :=
 ⟨cellH_mono (le_grow k.le) k.box, let ⟨v1, v2, w⟩ := k.ex; ⟨v1, v2, w.ext hle⟩⟩
theorem fold1_ok {val blk place : Int} {C B1 B2 : Nat} {l1 l2 : WL} {ms ts : List Int} {vm vt : Value} {W : View} {h : Heap} (k : Fo val C B1 B2 l1 l2 W h) (hm : SlRd W vm ms) (ht : SlRd W vt ts) (r1 : -10000 ≤ blk ∧ blk ≤ 10000) (r2 : -10000 ≤ place ∧ place ≤ 10000)
  (b1 : l1.length + ms.length ≤ 2000100000000) (b2 : l2.length + ts.length ≤ 2000100000000) :
  HCalls Try.prog N.check_Foldable_1 #[.int .i64 blk, .int .i64 place, vm, vt, .pointer (some ⟨C, 0, none⟩), .pointer (some ⟨B1, 0, none⟩), .pointer (some ⟨B2, 0, none⟩)] h
   (fun _ h2 => Fo val C B1 B2 (ms.foldl (whereStep val (blk, place)) l1) (ts.foldl (whereStep val (blk, place)) l2) W h2) := by
 refine calls_lift (args := [.int .i64 blk, .int .i64 place, vm, vt, .pointer (some ⟨C, 0, none⟩), .pointer (some ⟨B1, 0, none⟩), .pointer (some ⟨B2, 0, none⟩)]) follows F.check_Foldable_1 E.check_Foldable_1 (Nat.le_of_ble_eq_true (by kernel_rfl)) fun K hK => ?_
 have bm := hm.bound
 have bt := ht.bound
 dsimp only [L.check_Foldable_1]
 refine lwp_hide fun z hz => ?_
 simp [(hm.mono k.le).len]
 refine lwp_range [0, 1, 3, 4, 5, 6, 15, 16, 17] (fun (_ : Unit) i => [.int .i64 blk, .int .i64 place, vt, .pointer (some ⟨C, 0, none⟩), .pointer (some ⟨B1, 0, none⟩), .pointer (some ⟨B2, 0, none⟩), vm, .int .i64 ms.length, .int .i64 i])
  (fun _ i h1 => Fo val C B1 B2 ((ms.take i).foldl (whereStep val (blk, place)) l1) l2 W h1) ms.length ()
  rfl (by omega) rfl k (fun _ _ => rfl) (fun v i h1 hk m => by simp) ?_ ?_
 ·rintro _ i h1 hlt k1 K2 hK2
  have hm1 := hm.mono k1.le
  have hst : (ms.take (i + 1)).foldl (whereStep val (blk, place)) l1 = whereStep val (blk, place) ((ms.take i).foldl (whereStep val (blk, place)) l1) (nth ms i) := by
   rw [List.take_succ_eq_append_getElem hlt, List.foldl_append, nth_eq hlt]; rfl
  have hlen := whereStep_len (val := val) (w := (blk, place)) (ns := ms.take i) (l := l1)
  rw [List.length_take] at hlen
  generalize (ms.take i).foldl (whereStep val (blk, place)) l1 = y at k1 hst hlen
  refine lwp_hide fun z hz => ?_
  simp (disch := omega) [hm1.idx1 rfl, hm1.int (View.le_refl _)]
  rw [hz]; clear hz z
  refine lwp_hide fun z hz => ?_
  simp [cellH_mono k1.le k1.box]
  rw [hz]; clear hz z
  by_cases he : nth ms i = val
  ·rw [whereStep, if_pos he] at hst
   obtain ⟨v1, v2, w⟩ := k1.ex
   have hbx := (w.at (k := (0, 0)) (d := Raw.mk v1) (B := B1) (e := T.s_check_where) rfl).raw
   simp [he, hbx]
   refine do_build (z := .agg #[.int .i64 0, .int .i64 0]) (places := [(0, 1), (1, 1)]) (vs := [(0, .int .i64 blk), (1, .int .i64 place)]) (cs := #[.int .i64 blk, .int .i64 place]) (by kernel_rfl) (by kernel_rfl) (by simp) (by rfl) ?_
   refine w.do_push (k := (0, 1)) (α := Int × Int) (d := (blk, place)) rfl El.s_check_where rfl (rd_pair.2 ⟨rfl, ⟨by omega, by omega⟩, by omega, by omega⟩) (by omega) (by omega) (fun _ => rfl) (fun _ => rfl) fun u v' h2 w2 hs2 => ?_
   have hc := w2.cells (k := (0, 1)) (Own.upd_self)
   refine w2.do_field (k := (0, 0)) (D := Raw.mk v1) (B := B1) (e := T.s_check_where) (Part.all) (d := Raw.mk v') rfl (by kernel_rfl) rfl rfl (rd_raw.2 ⟨rfl, hc.2⟩) fun h3 w3 hs3 => ?_
   refine hK2 () _ _ rfl rfl ⟨k1.box, v', v2, w3.congr fun q => ?_⟩
   rw [hst]
   unfold foldOwn Own.upd
   repeat' split
   all_goals first | rfl | simp_all
  ·rw [whereStep, if_neg he] at hst
   simp [he]
   exact hK2 () _ _ rfl rfl (by rw [hst]; exact k1)
 ·rintro _ h1 k1
  rw [List.take_length] at k1
  simp
  rw [hz]; clear hz z
  simp [(ht.mono k1.le).len]
  generalize ms.foldl (whereStep val (blk, place)) l1 = m1 at k1 hK
  refine lwp_range [0, 1, 4, 5, 6, 31, 32, 33] (fun (_ : Unit) i => [.int .i64 blk, .int .i64 place, .pointer (some ⟨C, 0, none⟩), .pointer (some ⟨B1, 0, none⟩), .pointer (some ⟨B2, 0, none⟩), vt, .int .i64 ts.length, .int .i64 i])
   (fun _ i h2 => Fo val C B1 B2 m1 ((ts.take i).foldl (whereStep val (blk, place)) l2) W h2) ts.length ()
   rfl (by omega) rfl k1 (fun _ _ => rfl) (fun v i h1 hk m => by simp) ?_ ?_
  ·rintro _ i h2 hlt k2 K2 hK2
   have ht2 := ht.mono k2.le
   have hst : (ts.take (i + 1)).foldl (whereStep val (blk, place)) l2 = whereStep val (blk, place) ((ts.take i).foldl (whereStep val (blk, place)) l2) (nth ts i) := by
    rw [List.take_succ_eq_append_getElem hlt, List.foldl_append, nth_eq hlt]; rfl
   have hlen := whereStep_len (val := val) (w := (blk, place)) (ns := ts.take i) (l := l2)
   rw [List.length_take] at hlen
   generalize (ts.take i).foldl (whereStep val (blk, place)) l2 = y at k2 hst hlen
   refine lwp_hide fun z hz => ?_
   simp (disch := omega) [ht2.idx1 rfl, ht2.int (View.le_refl _)]
   rw [hz]; clear hz z
   refine lwp_hide fun z hz => ?_
   simp [cellH_mono k2.le k2.box]
   rw [hz]; clear hz z
   by_cases he : nth ts i = val
   ·rw [whereStep, if_pos he] at hst
    obtain ⟨v1, v2, w⟩ := k2.ex
    have hbx := (w.at (k := (1, 0)) (d := Raw.mk v2) (B := B2) (e := T.s_check_where) rfl).raw
    simp [he, hbx]
    refine do_build (z := .agg #[.int .i64 0, .int .i64 0]) (places := [(0, 1), (1, 1)]) (vs := [(0, .int .i64 blk), (1, .int .i64 place)]) (cs := #[.int .i64 blk, .int .i64 place]) (by kernel_rfl) (by kernel_rfl) (by simp) (by rfl) ?_
    refine w.do_push (k := (1, 1)) (α := Int × Int) (d := (blk, place)) rfl El.s_check_where rfl (rd_pair.2 ⟨rfl, ⟨by omega, by omega⟩, by omega, by omega⟩) (by omega) (by omega) (fun _ => rfl) (fun _ => rfl) fun u v' h3 w2 hs2 => ?_
    have hc := w2.cells (k := (1, 1)) (Own.upd_self)
    refine w2.do_field (k := (1, 0)) (D := Raw.mk v2) (B := B2) (e := T.s_check_where) (Part.all) (d := Raw.mk v') rfl (by kernel_rfl) rfl rfl (rd_raw.2 ⟨rfl, hc.2⟩) fun h4 w3 hs3 => ?_
    refine hK2 () _ _ rfl rfl ⟨k2.box, v1, v', w3.congr fun q => ?_⟩
    rw [hst]
    unfold foldOwn Own.upd
    repeat' split
    all_goals first | rfl | simp_all
   ·rw [whereStep, if_neg he] at hst
    simp [he]
    exact hK2 () _ _ rfl rfl (by rw [hst]; exact k2)
  ·rintro _ h2 k2
   rw [List.take_length] at k2
   simp
   exact hK _ _ k2
def madeL (val : Int) (l : List Th) : WL := l.foldl (madeTh val) []
def takenL (val : Int) (l : List Th) : WL := l.foldl (takenTh val) []
def foldBad (l1 l2 : WL) : Bool := !decide (l1.length = 1) || !decide (l2.length = 1) || decide ((nth l1 0).2 < 0) || !decide ((nth l1 0).1 = (nth l2 0).1) || decide ((nth l2 0).2 ≤ (nth l1 0).2)
def foldable1 (f : FuncD) (val : Int) (l1 l2 : WL) : Bool := !foldBad l1 l2 && (decide ((nth (nth f.blocks (nth l1 0).1.toNat).ins (nth l1 0).2.toNat).dst = val) && [1, 2, 4, 11, 12, 13].contains (nth (nth f.blocks (nth l1 0).1.toNat).ins (nth l1 0).2.toNat).op)
def foldableS (f : FuncD) (val : Int) : Bool := foldable1 f val (madeL val (thingsS f)) (takenL val (thingsS f))
theorem mem_whereFold {val : Int} {w x : Int × Int} {ns : List Int} : ∀ {l : WL}, x ∈ ns.foldl (whereStep val w) l ↔ x ∈ l ∨ (x = w ∧ val ∈ ns) := by
 induction ns with
 | nil => simp
 | cons n ns ih =>
  intro l
  rw [List.foldl_cons, ih, whereStep]
  grind
theorem mem_foldMade {val : Int} {x : Int × Int} {l : List Th} : ∀ {y : WL}, x ∈ l.foldl (madeTh val) y ↔ x ∈ y ∨ ∃ t ∈ l, x = (t.blk, t.place) ∧ val ∈ t.mks := by
 induction l with
 | nil => simp
 | cons t l ih =>
  intro y
  rw [List.foldl_cons, ih, madeTh, mem_whereFold]
  simp only [List.mem_cons, exists_eq_or_imp]
  constructor
  ·rintro ((h | h) | h)
   ·exact .inl h
   ·exact .inr (.inl h)
   ·exact .inr (.inr h)
  ·rintro (h | h | h)
   ·exact .inl (.inl h)
   ·exact .inl (.inr h)
   ·exact .inr h
theorem foldable_ok {f : FuncD} {v : Value} {val : Int} {h : Heap} (hv : Rd (vw h) v f) (hsm : SmF f) (hval : I64 val) : HCalls Try.prog N.check_Foldable #[v, .int .i64 val] h (fun u h' => u = .bool (foldableS f val) ∧ (vw h).le (vw h')) := by
 refine calls_lift (args := [v, .int .i64 val]) follows F.check_Foldable E.check_Foldable (Nat.le_of_ble_eq_true (by kernel_rfl)) fun K hK => ?_
 dsimp only [L.check_Foldable]
 refine lwp_hide fun z hz => ?_
 simp
 refine do_boxT rfl hv fun h1 e1 hle1 hs1 hat => ?_
 refine do_boxT (α := Int) rfl (rd_int.2 ⟨rfl, hval⟩) fun h2 e2 hle2 hs2 hat2 => ?_
 have hatf := hat.mono hle2
 obtain ⟨u, hu, hur⟩ := hatf.loads rfl
 have hu : Un.ev (vw h2) (.loads 2) (.pointer (some ⟨h.size, 0, none⟩)) = some u := hu
 obtain ⟨cp, vb, cb⟩ := at_funcB hatf
 have cval := hat2.int
 generalize hB : h.size = B at hu cp cb
 generalize hC : h1.size = C at cval
 rw [hz]; clear hz z
 refine lwp_hide fun z hz => ?_
 simp
 refine do_alloc (z := .slice none 0 0) (by kernel_rfl) ?_
 refine do_alloc (z := .slice none 0 0) (by kernel_rfl) ?_
 have q1 := push_le h2 (.cells (Value.slice none 0 0).cells T.s_check_where)
 generalize e3 : h2.push (.cells (Value.slice none 0 0).cells T.s_check_where) = h3 at q1
 have b3 : h3[h2.size]? = some (.cells (Value.slice none 0 0).cells T.s_check_where (0, 0)) := by rw [← e3]; simp
 have s3 : h3.size = h2.size + 1 := by rw [← e3]; simp
 have q2 := push_le h3 (.cells (Value.slice none 0 0).cells T.s_check_where)
 generalize e4 : h3.push (.cells (Value.slice none 0 0).cells T.s_check_where) = h4 at q2
 have b4 : h4[h3.size]? = some (.cells (Value.slice none 0 0).cells T.s_check_where (0, 0)) := by rw [← e4]; simp
 have hle24 := View.le_trans q1 q2
 have w0 : Owns (vw h2) h4 (foldOwn h2.size (.slice none 0 0) [] h3.size (.slice none 0 0) []) := by
  have w1 := (Owns.start (h := h2) (View.le_refl (vw h2))).add (k := (0, 0)) rfl (ownT_box (h := h3) (e := T.s_check_where) (d := Raw.mk (.slice none 0 0)) b3 (rd_raw.2 ⟨rfl, rfl⟩) (by decide)) q1 (fun b hb => by simp only [Value.ownBlock, Option.some.injEq] at hb; omega)
  have w2 := w1.add (k := (1, 0)) rfl (ownT_box (h := h4) (e := T.s_check_where) (d := Raw.mk (.slice none 0 0)) b4 (rd_raw.2 ⟨rfl, rfl⟩) (by decide)) q2 (fun b hb => by simp only [Value.ownBlock, Option.some.injEq] at hb; omega)
  have w3 := w2.add (k := (0, 1)) rfl (OwnT.nil (α := Int × Int) (vw h2) h4 T.check_where) (View.le_refl _) (fun b hb => by simp [Value.ownBlock] at hb)
  have w4 := w3.add (k := (1, 1)) rfl (OwnT.nil (α := Int × Int) (vw h2) h4 T.check_where) (View.le_refl _) (fun b hb => by simp [Value.ownBlock] at hb)
  refine w4.congr fun q => ?_
  unfold foldOwn Own.upd
  repeat' split
  all_goals first | rfl | simp_all
 have k0 : Fo val C h2.size h3.size [] [] (vw h2) h4 := ⟨cval, _, _, w0⟩
 have hu4 : Un.ev (vw h4) (.loads 2) (.pointer (some ⟨B, 0, none⟩)) = some u := by
  have := ev_mono (ρ := fun _ => none) (e := .un (.loads 2) (.con (.pointer (some ⟨B, 0, none⟩)))) hle24 (v := u) (by simpa using hu)
  simpa using this
 generalize h2.size = B1 at k0
 generalize h3.size = B2 at k0
 rw [hz]; clear hz z
 refine lwp_hide fun z hz => ?_
 simp [hu4]
 have hml := things_len hsm
 refine call_to (by kernel_rfl) (things_ok (caps := [.pointer (some ⟨C, 0, none⟩), .pointer (some ⟨B1, 0, none⟩), .pointer (some ⟨B2, 0, none⟩)]) (J := fun l W h => Fo val C B1 B2 (madeL val l) (takenL val l) W h) hur hsm ⟨fun k => k.le, fun k hle => k.ext hle⟩ (by kernel_rfl) k0 fun l t W h5 vm vt hVW hpre k hm ht => ?_) ?_
 ·have hmem : ∀ x ∈ l ++ [t], ThOk f x := fun x hx => thing_ok hsm (hpre.subset hx)
  have hll := hpre.length_le
  rw [List.length_append, List.length_singleton] at hll
  have ot := hmem t (by simp)
  have hl := hsm.len
  have c1 := foldTh_len (F := madeTh val) (c := 10000) (l := l) (fun t ht x => Nat.le_trans whereStep_len (Nat.add_le_add_left (hmem t (by simp [ht])).mks _)) []
  have c2 := foldTh_len (F := takenTh val) (c := 10000) (l := l) (fun t ht x => Nat.le_trans whereStep_len (Nat.add_le_add_left (hmem t (by simp [ht])).tks _)) []
  have c1' : (madeL val l).length ≤ l.length * 10000 := by simpa [madeL] using c1
  have c2' : (takenL val l).length ≤ l.length * 10000 := by simpa [takenL] using c2
  have o1 := ot.mks
  have o2 := ot.tks
  have ob := ot.blk
  refine (fold1_ok k hm ht (by omega) ot.place (by omega) (by omega)).mono fun _ h6 k6 => ?_
  have e1 : madeL val (l ++ [t]) = t.mks.foldl (whereStep val (t.blk, t.place)) (madeL val l) := by rw [madeL, List.foldl_append]; rfl
  have e2 : takenL val (l ++ [t]) = t.tks.foldl (whereStep val (t.blk, t.place)) (takenL val l) := by rw [takenL, List.foldl_append]; rfl
  simp only [e1, e2]; exact k6
 ·rintro _ h5 ⟨W, hVW, k⟩
  have hin : ∀ w ∈ madeL val (thingsS f), 0 ≤ w.1 ∧ w.1 < f.blocks.length ∧ (0 ≤ w.2 → w.2 < (nth f.blocks w.1.toNat).ins.length) := by
   intro w hw
   rcases mem_foldMade.1 hw with h | ⟨t, ht, rfl, hv⟩
   ·cases h
   ·have ot := thing_ok hsm ht
    exact ⟨ot.blk.1, ot.blk.2, fun h => ot.ins h (fun e => by rw [e] at hv; cases hv)⟩
  have hfs : foldableS f val = foldable1 f val (madeL val (thingsS f)) (takenL val (thingsS f)) := rfl
  rw [hfs] at hK
  generalize madeL val (thingsS f) = l1 at k hin hK
  generalize takenL val (thingsS f) = l2 at k hK
  obtain ⟨v1, v2, w⟩ := k.ex
  have hb1 := (w.at (k := (0, 0)) (d := Raw.mk v1) (B := B1) (e := T.s_check_where) rfl).raw
  have hb2 := (w.at (k := (1, 0)) (d := Raw.mk v2) (B := B2) (e := T.s_check_where) rfl).raw
  have n1 := w.now (k := (0, 1)) (v := v1) (l := l1) rfl
  have n2 := w.now (k := (1, 1)) (v := v2) (l := l2) rfl
  have hle5 := View.le_trans hVW w.wle
  have hle := View.le_trans hle1 (View.le_trans hle2 hle5)
  have cb5 := cb.2.mono hle5
  have cc5 := cellH_mono hle5 cb.1
  have cv5 := cellH_mono hle5 cval
  rw [hz]; clear hz z
  refine lwp_hide fun z hz => ?_
  have no : foldBad l1 l2 = true → K (.bool false) h5 := fun e => hK _ _ ⟨by rw [foldable1, e]; rfl, hle⟩
  by_cases hA : l1.length = 1
  ·by_cases hB2 : l2.length = 1
   ·have i1 : ∀ kd, Bn.ev (.idx 2) v1 (.int kd 0) = some (.pointer (some (slA v1))) := fun kd => by
     have := n1.idxn (N := 2) rfl (k := kd) (i := 0) (by omega) (by omega)
     simpa [Addr.add] using this
    have i2 : ∀ kd, Bn.ev (.idx 2) v2 (.int kd 0) = some (.pointer (some (slA v2))) := fun kd => by
     have := n2.idxn (N := 2) rfl (k := kd) (i := 0) (by omega) (by omega)
     simpa [Addr.add] using this
    obtain ⟨a0, a1⟩ := n1.pair_at (View.le_refl _) (i := 0) (by omega)
    obtain ⟨d0, d1⟩ := n2.pair_at (View.le_refl _) (i := 0) (by omega)
    have z1 : ∀ a : Addr, a.add (0 * 2) = a := fun a => by simp [Addr.add]
    rw [z1] at a0 a1 d0 d1
    have hw := hin (nth l1 0) (nth_mem (by omega))
    have hbad : foldBad l1 l2 = (decide ((nth l1 0).2 < 0) || !decide ((nth l1 0).1 = (nth l2 0).1) || decide ((nth l2 0).2 ≤ (nth l1 0).2)) := by simp [foldBad, hA, hB2]
    rw [hbad] at no
    have hfb : foldable1 f val l1 l2 = (!(decide ((nth l1 0).2 < 0) || !decide ((nth l1 0).1 = (nth l2 0).1) || decide ((nth l2 0).2 ≤ (nth l1 0).2)) && (decide ((nth (nth f.blocks (nth l1 0).1.toNat).ins (nth l1 0).2.toNat).dst = val) && [1, 2, 4, 11, 12, 13].contains (nth (nth f.blocks (nth l1 0).1.toNat).ins (nth l1 0).2.toNat).op)) := by rw [foldable1, hbad]
    rw [hfb] at hK
    generalize nth l1 0 = w1 at a0 a1 hw no hK
    generalize nth l2 0 = w2 at d0 d1 no hK
    by_cases c3 : w1.2 < 0
    ·simp [hb1, hb2, n1.len, n2.len, hA, hB2, i1, i2, a0, a1, d0, d1, c3]
     exact no (by simp [c3])
    ·by_cases c4 : w1.1 = w2.1
     ·by_cases c5 : w2.2 ≤ w1.2
      ·simp [hb1, hb2, n1.len, n2.len, hA, hB2, i1, i2, a0, a1, d0, d1, c3, c4, c5]
       exact no (by simp [c5])
      ·have hs : (!(decide (w1.2 < 0) || !decide (w1.1 = w2.1) || decide (w2.2 ≤ w1.2))) = true := by simp [c3, c4, c5]
       rw [hs, Bool.true_and] at hK
       have hw2 := hw.2.2 (by omega)
       obtain ⟨ul, hul⟩ := ((cb5.at (i := w1.1.toNat) (by omega)).part BlkD.p_ins).sl
       rw [← nth_eq (by omega)] at hul
       have hul1 : cellH (vw h5) (((slA vb).add (w1.1.toNat * 6)).add 1) = some ul := hul.1
       obtain ⟨ui, hui, huir⟩ := hul.2.wh rfl (N := 5) rfl (i := w1.2.toNat) (by omega)
       have hli := hul.2
       generalize nth (nth f.blocks w1.1.toNat).ins w1.2.toNat = x at huir hK
       simp [hb1, hb2, n1.len, n2.len, hA, hB2, i1, i2, a0, a1, d0, d1, c3, c5, ← c4]
       rw [hz]; clear hz z
       refine lwp_hide fun z hz => ?_
       have z0 : ∀ a : Addr, a.add 0 = a := fun a => by simp [Addr.add]
       refine drawn_at (vw h5) (View.le_refl _) ?_
       simp (disch := omega) [hb1, i1, a0, a1, cc5, cb5.idxn (N := 6) rfl, hul1, hli.idxn (N := 5) rfl, hui _ (View.le_refl _)]
       refine do_alloc (z := .agg #[.int .i64 0, .int .i64 0, .int .i64 0, .slice none 0 0, .int .i32 0]) (by kernel_rfl) ?_
       have hle6 := push_le h5 (.cells (Value.cells (.agg #[.int .i64 0, .int .i64 0, .int .i64 0, .slice none 0 0, .int .i32 0])) T.api_Ins)
       have hb6 : (h5.push (.cells (Value.cells (.agg #[.int .i64 0, .int .i64 0, .int .i64 0, .slice none 0 0, .int .i32 0])) T.api_Ins))[h5.size]? = some (.cells (Value.cells (.agg #[.int .i64 0, .int .i64 0, .int .i64 0, .slice none 0 0, .int .i32 0])) T.api_Ins (0, 0)) := by simp
       generalize h5.push (.cells (Value.cells (.agg #[.int .i64 0, .int .i64 0, .int .i64 0, .slice none 0 0, .int .i32 0])) T.api_Ins) = h6 at hle6 hb6
       refine ⟨hle6, ?_⟩
       obtain ⟨g1, g2, g3⟩ := rd_cells huir
       refine do_store (g := h5.size) (o := 0) (n := 5) (v := ui) (by kernel_rfl) rfl rfl g2 g3 hb6 (by simp) fun h7 hs7 ⟨row, hr7, he7⟩ ho7 => ?_
       have hrow : row = ui.cells := by
        have g2' : ui.cells.size = 5 := g2
        rw [← Array.toList_inj, he7]; simp
       rw [hrow] at hr7
       have hle7 : (vw h5).le (vw h7) := fun b o hb => by
        have hlt := View.lt (View.le_refl (vw h5)) hb
        show h7[b]? = _
        rw [ho7 b (by omega)]; exact hle6 b o hb
       have hat7 : At (vw h7) ⟨h5.size, 0, none⟩ x := at_new (show vw h7 h5.size = _ from hr7) (huir.mono hle7)
       obtain ⟨q0, q1, _⟩ := at_insB hat7
       have ro := (hat7.part InsD.p_op).rng
       generalize h5.size = D at q0 q1
       rw [hz]; clear hz z
       have cv7 := cellH_mono hle7 cv5
       refine lwp_hide fun z hz => ?_
       by_cases c6 : x.dst = val
       ·simp [q0, q1, cv7, c6]
        refine do_litN (α := Int) (X := nothing) (ds := [1, 2, 4, 11, 12, 13]) (vs := [.int .i64 1, .int .i64 2, .int .i64 4, .int .i64 11, .int .i64 12, .int .i64 13]) rfl El.s_int (by simp) ⟨rd_i (by omega) (by omega), rd_i (by omega) (by omega), rd_i (by omega) (by omega), rd_i (by omega) (by omega), rd_i (by omega) (by omega), rd_i (by omega) (by omega), trivial⟩ nothing_le rfl (by omega) fun u8 h8 hle8 hsz8 hu8 _ => ?_
        simp [cellH_mono hle8 q0]
        refine call_to (by kernel_rfl) (contains_ok (hu8 (vw h8) nothing_le rfl)) ?_
        rintro _ _ ⟨rfl, rfl⟩
        simp
        rw [hz]; clear hz z
        simp
        exact hK _ _ ⟨by simp [c6], View.le_trans hle (View.le_trans hle7 hle8)⟩
       ·simp [q0, q1, cv7, c6]
        rw [hz]; clear hz z
        simp
        exact hK _ _ ⟨by simp [c6], View.le_trans hle hle7⟩
     ·simp [hb1, hb2, n1.len, n2.len, hA, hB2, i1, i2, a0, a1, d0, d1, c3, c4]
      exact no (by simp [c4])
   ·have hB3 : ¬ (l2.length : Int) = 1 := by omega
    simp [hb1, hb2, n1.len, n2.len, hA, hB3]
    exact no (by simp [foldBad, hB2])
  ·have hA3 : ¬ (l1.length : Int) = 1 := by omega
   simp [hb1, hb2, n1.len, n2.len, hA3]
   exact no (by simp [foldBad, hA])
end Go.Proofs.Ytfelpjfopgiabaa
namespace Go.Proofs.Ytfelpjfopgiabaa
open Go Go.Lft
theorem refMakes_ok {d : InsD} {v : Value} {h : Heap} (hd : Rd (vw h) v d) : HCalls Try.prog N.ref03_Makes #[v] h (fun u h' => (vw h).le (vw h') ∧ SlRd (fresh h h') u (makesS d) ∧ (d.op = 16 → u = .slice none 0 0)) := by
 refine calls_lift (args := [v]) follows F.ref03_Makes E.ref03_Makes (Nat.le_of_ble_eq_true (by kernel_rfl)) fun K hK => ?_
 simp [L.ref03_Makes]
 refine do_boxT rfl hd fun h1 _ hle1 hsz1 hat => ?_
 obtain ⟨c0, c1, c2, va, ca⟩ := at_insB hat
 have r1 := (hat.part InsD.p_dst).rng
 have r2 := (hat.part InsD.p_two).rng
 simp [c0]
 refine ⟨fun e1 => hK _ _ ⟨hle1, by simpa [makesS, e1] using nil_sl, fun _ => rfl⟩, fun e1 => ⟨fun e2 => ?_, fun e2 => ?_⟩⟩
 ·simp [c1, c2]
  refine do_litN (X := nothing) (ds := [d.dst, d.two]) (vs := [.int .i64 d.dst, .int .i64 d.two]) rfl El.s_int (by simp) ⟨rd_int.2 ⟨rfl, r1⟩, rd_int.2 ⟨rfl, r2⟩, trivial⟩ nothing_le rfl (by omega) fun u h2 hle2 hsz2 hu _ => ?_
  exact hK _ _ ⟨View.le_trans hle1 hle2, by simpa [makesS, e2] using hu _ nothing_le (by unfold fresh; rw [if_neg (by omega)]), fun e => absurd e e1⟩
 ·simp [c1]
  refine do_litN (X := nothing) (ds := [d.dst]) (vs := [.int .i64 d.dst]) rfl El.s_int (by simp) ⟨rd_int.2 ⟨rfl, r1⟩, trivial⟩ nothing_le rfl (by omega) fun u h2 hle2 hsz2 hu _ => ?_
  exact hK _ _ ⟨View.le_trans hle1 hle2, by simpa [makesS, e1, e2] using hu _ nothing_le (by unfold fresh; rw [if_neg (by omega)]), fun e => absurd e e1⟩
def countsS (op n : Int) : Bool := if op = 1 then decide (n = 0) else if op = 15 then decide (n = 1) else if op = 17 then decide (n ≤ 4) else decide (n = 2)
def termS (t : TermD) : Bool :=
 if t.kind = 1 then decide ((t.args.length : Int) = 0) && decide ((t.to.length : Int) = 1)
 else if t.kind = 2 then decide ((t.args.length : Int) = 1) && decide ((t.to.length : Int) = 2)
 else if t.kind = 3 then decide ((t.args.length : Int) = 1) && decide ((2 : Int) ≤ t.to.length) && decide ((t.to.length : Int) ≤ 65)
 else if t.kind = 4 then decide ((t.args.length : Int) ≤ 1) && decide ((t.to.length : Int) = 0)
 else if t.kind = 5 then decide ((t.args.length : Int) = 0) && decide ((t.to.length : Int) = 0) else false
def refPredsS (f : FuncD) (b : Int) : List Int := sift (fun a => decide (b ∈ (nth f.blocks a).term.to)) (fun a => (a : Int)) f.blocks.length
theorem sl_toAt {H : View} {v : Value} {l : List BlkD} (h : SlRd H v l) {i : Nat} (hi : i < l.length) : ∃ u, Sl H ((((slA v).add (i * 6)).add 2).add 2) u (nth l i).term.to := by
 rw [nth_eq hi]
 exact ((((h.at hi).part BlkD.p_term).part TermD.p_to)).sl
theorem refPreds_ok {f : FuncD} {b : Int} {v : Value} {h : Heap} (hv : Rd (vw h) v f) (hn : f.blocks.length ≤ 1000000) :
  HCalls Try.prog N.ref03_Preds #[v, .int .i64 b] h (fun u h' => (vw h).le (vw h') ∧ SlRd (fresh h h') u (refPredsS f b)) := by
 refine calls_lift (args := [v, .int .i64 b]) follows F.ref03_Preds E.ref03_Preds (Nat.le_of_ble_eq_true (by kernel_rfl)) fun K hK => ?_
 dsimp only [L.ref03_Preds]
 refine lwp_hide fun z hz => ?_
 simp
 refine do_boxT rfl hv fun h1 _ hle1 hsz1 hat => ?_
 obtain ⟨_, vb, cb⟩ := at_funcB hat
 generalize h.size = B at cb
 rw [hz]; clear hz z
 refine lwp_hide fun z hz => ?_
 simp
 refine do_lit0 (α := Int) El.s_int fun h2 hle2 hsz2 own2 => ?_
 have m0 := Mine.empty (V := nothing) (W := nothing) (View.le_refl (vw h1)) hle2 nothing_le (Old.nothing _ _) own2
 generalize Value.slice (some ⟨h1.size, 0, none⟩) 0 0 = v0 at m0
 have cb2 := cb.2
 have cc2 := cb.1
 rw [hz]; clear hz z
 refine lwp_hide fun z hz => ?_
 simp
 refine lwp_for [1, 2, 5, 6] (fun (r : Value) k => [.int .i64 b, .pointer (some ⟨B, 0, none⟩), r, .int .i64 k]) (fun r k h3 => Mine nothing h1 h3 nothing T.int r (sift (fun a => decide (b ∈ (nth f.blocks a).term.to)) (fun a => (a : Int)) k)) f.blocks.length v0
  rfl (by omega) rfl m0 (fun _ _ => rfl) (fun v k h3 hk m => by simp [cellH_mono m.old cc2, (cb2.mono m.old).len]) ?_ ?_
 ·rintro r k h3 hlt m K2 hK2
  have hle3 := m.old
  have cb3 := cb2.mono hle3
  obtain ⟨w, hw⟩ := sl_toAt cb3 hlt
  have hwb := hw.2.bound
  have hsl := sift_len (p := fun a => decide (b ∈ (nth f.blocks a).term.to)) (x := fun a => (a : Int)) k
  refine lwp_hide fun y hy => ?_
  simp (disch := omega) [cellH_mono hle3 cc2, cb3.idxn (N := 6) rfl, hw.1]
  rw [hy]; clear hy y
  simp
  refine lwp_for [1, 2, 5, 6, 7, 8] (fun (_ : Unit) j => [.int .i64 b, .pointer (some ⟨B, 0, none⟩), r, .int .i64 k, w, .int .i64 j]) (fun _ j h4 => h4 = h3 ∧ ∀ i, i < j → nth (nth f.blocks k).term.to i ≠ b) (nth f.blocks k).term.to.length ()
   rfl (by omega) rfl ⟨rfl, fun i hi => by omega⟩ (fun _ _ => rfl) (fun v j h4 hk m => by simp [hw.2.len]) ?_ ?_
  ·rintro _ j h3 hltj ⟨rfl, hpre⟩ K3 hK3
   simp (disch := omega) [hw.2.idx1 rfl, hw.2.int (View.le_refl _)]
   refine ⟨fun e => ?_, fun e => hK3 () _ _ rfl rfl ⟨rfl, fun i hi => ?_⟩⟩
   ·have hmem : b ∈ (nth f.blocks k).term.to := e ▸ nth_mem hltj
    refine m.push (d := (k : Int)) El.s_int (by simp <;> rfl) (rd_i (by omega) (by omega)) (by omega) (by omega) (fun _ => by simp) (fun _ => by simp) fun u v' h5 m' => ?_
    exact hK2 v' _ _ rfl rfl (by rw [sift_true (by simpa using hmem)]; exact m')
   ·rcases Nat.lt_or_ge i j with h | h
    ·exact hpre i h
    ·have : i = j := by omega
     subst this; exact e
  ·rintro _ h3 ⟨rfl, hpre⟩
   have hmem : ¬ b ∈ (nth f.blocks k).term.to := fun hm => by
    obtain ⟨i, hi, e⟩ := List.getElem_of_mem hm
    exact hpre i hi (by rw [nth_eq hi]; exact e)
   simp
   exact hK2 r _ _ rfl rfl (by rw [sift_false (by simpa using hmem)]; exact m)
 ·rintro r h3 m
  simp
  rw [hz]; clear hz z
  simp
  exact hK _ _ ⟨View.le_trans hle1 m.old, m.fresh.mono (fresh_from hle1)⟩
end Go.Proofs.Ytfelpjfopgiabaa
namespace Go.Proofs.Ytfelpjfopgiabaa
open Go Go.Lft
def mkL (vs : Value) (at_ : Nat) (ps : Int) (vb : Value) (nx : Int) (vl : Value) : List Value := [vs, .int .i64 at_, .int .i64 ps, vb, .int .i64 nx, vl]
def rawV (s : List Int) (at_ : Nat) : Int := if at_ < s.length then nth s at_ else 0
def takeV (s : List Int) (at_ : Nat) (n : Int) : Int := ((rawV s at_).tmod n + n).tmod n
theorem takeV_rng {s : List Int} {at_ : Nat} {n : Int} (hn : 0 < n) : 0 ≤ takeV s at_ n ∧ takeV s at_ n < n := by
 have b1 := Int.lt_tmod_of_pos (rawV s at_) hn
 exact ⟨Int.tmod_nonneg _ (by omega), Int.tmod_lt_of_pos _ hn⟩
theorem take_ok {W : View} {h : Heap} {o : Own} {M at_ : Nat} {vs vb vl : Value} {ps nx n : Int} {s : List Int} (w : Owns W h o) (hk : o (0, 0) = bx T.ref03_maker M (RawN.mk (n := 5) (mkL vs at_ ps vb nx vl))) (hs : SlRd W vs s) (h1 : at_ ≤ 1000000000) (hn : 0 < n) (hn2 : n ≤ 1000000000) :
  HCalls Try.prog N.ref03_maker_take #[.pointer (some ⟨M, 0, none⟩), .int .i64 n] h (fun u h' => u = .int .i64 (takeV s at_ n) ∧ Owns W h' (o.upd (0, 0) (bx T.ref03_maker M (RawN.mk (n := 5) (mkL vs (at_ + 1) ps vb nx vl))))) := by
 refine calls_lift (args := [.pointer (some ⟨M, 0, none⟩), .int .i64 n]) follows F.ref03_maker_take E.ref03_maker_take (Nat.le_of_ble_eq_true (by kernel_rfl)) fun K hK => ?_
 have c0 : cellH (vw h) ⟨M, 0, none⟩ = some vs := w.raw hk (i := 0) (by decide)
 have c1 : cellH (vw h) ⟨M, 1, none⟩ = some (.int .i64 at_) := w.raw hk (i := 1) (by decide)
 dsimp only [L.ref03_maker_take]
 refine lwp_hide fun z hz => ?_
 simp
 rw [hz]; clear hz z
 refine lwp_hide fun z hz => ?_
 simp
 rw [hz]; clear hz z
 refine lwp_hide fun z hz => ?_
 have hsl : ∀ {Q : View}, Un.ev Q .len vs = some (.int .i64 s.length) := fun {Q} => hs.len
 refine lwp_cut (fun ρ h2 => h2 = h ∧ I64 (rawV s at_) ∧ ρ = [(0, .pointer (some ⟨M, 0, none⟩)), (1, .int .i64 n), (4, .int .i64 0), (5, .int .i64 (rawV s at_))]) ?_ ?_
 ·intro K2 hK2
  by_cases c : at_ < s.length
  ·have hs2 := hs.mono w.wle
   have hr := hs.range (i := at_) c
   have e : rawV s at_ = nth s at_ := if_pos c
   rw [e] at hK2
   simp (disch := omega) [c0, c1, hsl, c, hs2.idx1 rfl, hs2.int (View.le_refl _)]
   exact hK2 _ _ ⟨rfl, hr, rfl⟩
  ·have e : rawV s at_ = 0 := if_neg c
   rw [e] at hK2
   simp [c0, c1, hsl, c]
   exact hK2 _ _ ⟨rfl, ⟨by decide, by decide⟩, rfl⟩
 ·rintro _ h2 ⟨rfl, hx, rfl⟩
  rw [hz]; clear hz z
  refine lwp_hide fun z hz => ?_
  simp (disch := omega) [c1]
  refine w.do_cell (k := (0, 0)) (n := 5) (i := 1) (e := T.ref03_maker) (B := M) (l := mkL vs at_ ps vb nx vl) hk (by decide) (by kernel_rfl) rfl rfl rfl fun h3 w3 _ => ?_
  rw [hz]; clear hz z
  have b1 := Int.lt_tmod_of_pos (rawV s at_) hn
  have b2 := Int.tmod_lt_of_pos (rawV s at_) hn
  have hw : IntKind.i64.wrap ((rawV s at_).tmod n + n) = (rawV s at_).tmod n + n := wrap64_id (by omega) (by omega)
  have hne : ¬ n = 0 := by omega
  simp [hw, hne]
  refine hK _ _ ⟨rfl, w3.congr fun q => ?_⟩
  rfl
theorem fresh_ok {W : View} {h : Heap} {o : Own} {M at_ : Nat} {vs vb vl : Value} {ps nx : Int} (w : Owns W h o) (hk : o (0, 0) = bx T.ref03_maker M (RawN.mk (n := 5) (mkL vs at_ ps vb nx vl))) (h0 : 0 ≤ nx) (h1 : nx ≤ 1000000000) :
  HCalls Try.prog N.ref03_maker_fresh #[.pointer (some ⟨M, 0, none⟩)] h (fun u h' => u = .int .i64 nx ∧ Owns W h' (o.upd (0, 0) (bx T.ref03_maker M (RawN.mk (n := 5) (mkL vs at_ ps vb (nx + 1) vl)))) ∧ ∀ X : View, X.le (vw h) → X M = none → X.le (vw h')) := by
 refine calls_lift (args := [.pointer (some ⟨M, 0, none⟩)]) follows F.ref03_maker_fresh E.ref03_maker_fresh (Nat.le_of_ble_eq_true (by kernel_rfl)) fun K hK => ?_
 have c4 : cellH (vw h) ⟨M, 4, none⟩ = some (.int .i64 nx) := w.raw hk (i := 4) (by decide)
 dsimp only [L.ref03_maker_fresh]
 refine lwp_hide fun z hz => ?_
 simp
 rw [hz]; clear hz z
 refine lwp_hide fun z hz => ?_
 simp (disch := omega) [c4]
 refine w.do_cell (k := (0, 0)) (n := 5) (i := 4) (e := T.ref03_maker) (B := M) (l := mkL vs at_ ps vb nx vl) hk (by decide) (by kernel_rfl) rfl rfl rfl fun h3 w3 hx3 => ?_
 have w3 : Owns W h3 (o.upd (0, 0) (bx T.ref03_maker M (RawN.mk (n := 5) (mkL vs at_ ps vb (nx + 1) vl)))) := w3
 have c5 : cellH (vw h3) ⟨M, 4, none⟩ = some (.int .i64 (nx + 1)) := w3.raw Own.upd_self (i := 4) (by decide)
 rw [hz]; clear hz z
 simp (disch := omega) [c5]
 exact hK _ _ ⟨by congr 1, w3, hx3⟩
end Go.Proofs.Ytfelpjfopgiabaa
namespace Go.Proofs.Ytfelpjfopgiabaa
open Go Go.Lft
theorem term_val {H : View} {u : Value} {d : TermD} (h : Rd H u d) : ∃ va vt, u = .agg #[.int .i64 d.kind, va, vt, .int .i32 d.imm.v] ∧ SlRd H va d.args ∧ SlRd H vt d.to := by
 obtain ⟨cs, rfl, c1, r1, e1, ⟨rfl, h1⟩, c2, r2, e2, ⟨va, rfl, h2⟩, c3, r3, e3, ⟨vt, rfl, h3⟩, h4, h5⟩ := h
 subst e3 e2
 have he : cs.toList = [.int .i64 d.kind, va, vt, .int .i32 d.imm.v] := by rw [e1, h4]; rfl
 refine ⟨va, vt, ?_, h2, h3⟩
 rw [← Array.toList_inj.1 (he.trans rfl : cs.toList = #[Value.int .i64 d.kind, va, vt, .int .i32 d.imm.v].toList)]
theorem ins_val {H : View} {u : Value} {d : InsD} (h : Rd H u d) : ∃ va, u = .agg #[.int .i64 d.op, .int .i64 d.dst, .int .i64 d.two, va, .int .i32 d.imm.v] ∧ (I64 d.op ∧ I64 d.dst ∧ I64 d.two ∧ -2147483648 ≤ d.imm.v ∧ d.imm.v ≤ 2147483647) ∧ SlRd H va d.args := by
 obtain ⟨cs, rfl, c1, r1, e1, ⟨rfl, h1⟩, c2, r2, e2, ⟨rfl, h2⟩, c3, r3, e3, ⟨rfl, h3⟩, c4, r4, e4, ⟨va, rfl, h4⟩, h5, h6⟩ := h
 subst e4 e3 e2
 exact ⟨va, by rw [← Array.toList_inj.1 ((by rw [e1, h5]; rfl) : cs.toList = #[Value.int .i64 d.op, .int .i64 d.dst, .int .i64 d.two, va, .int .i32 d.imm.v].toList)], ⟨h1, h2, h3, h6⟩, h4⟩
theorem rd_phiOf {H : View} {d : Int} {v : Value} {l : List InD} (h1 : I64 d) (h2 : SlRd H v l) : Rd H (.agg #[.int .i64 d, v]) (PhiD.mk d l) := ⟨_, rfl, [.int .i64 d], [v], rfl, ⟨rfl, h1⟩, v, rfl, h2⟩
theorem rd_insOf {H : View} {op d two : Int} {imm : I32} {v : Value} {l : List Int} (h : I64 op ∧ I64 d ∧ I64 two ∧ -2147483648 ≤ imm.v ∧ imm.v ≤ 2147483647) (h2 : SlRd H v l) : Rd H (.agg #[.int .i64 op, .int .i64 d, .int .i64 two, v, .int .i32 imm.v]) (InsD.mk op d two l imm) :=
 ⟨_, rfl, [.int .i64 op], _, rfl, ⟨rfl, h.1⟩, [.int .i64 d], _, rfl, ⟨rfl, h.2.1⟩, [.int .i64 two], _, rfl, ⟨rfl, h.2.2.1⟩, [v], _, rfl, ⟨v, rfl, h2⟩, rfl, h.2.2.2⟩
theorem rd_blkOf {H : View} {vp vi va vt : Value} {p : List PhiD} {i : List InsD} {a t : List Int} {kd : Int} {imm : I32} (h1 : SlRd H vp p) (h2 : SlRd H vi i) (h3 : SlRd H va a) (h4 : SlRd H vt t) (h5 : I64 kd) (h6 : -2147483648 ≤ imm.v ∧ imm.v ≤ 2147483647) : Rd H (.agg #[vp, vi, .int .i64 kd, va, vt, .int .i32 imm.v]) (BlkD.mk p i ⟨kd, a, t, imm⟩) :=
 ⟨_, rfl, [vp], _, rfl, ⟨vp, rfl, h1⟩, [vi], _, rfl, ⟨vi, rfl, h2⟩, [.int .i64 kd], _, rfl, ⟨rfl, h5⟩, [va], _, rfl, ⟨va, rfl, h3⟩, [vt], _, rfl, ⟨vt, rfl, h4⟩, rfl, h6⟩
theorem take_min {α : Type} {l : List α} {n : Nat} : l.take (min l.length n) = l.take n := by
 rcases Nat.le_total l.length n with h | h
 ·rw [Nat.min_eq_left h, List.take_of_length_le (Nat.le_refl _), List.take_of_length_le h]
 ·rw [Nat.min_eq_right h]
theorem sl_first {α : Type} [Rep α] {H : View} {v : Value} {l : List α} (h : SlRd H v l) (n : Nat) (m : Int) (hm : m = n) : ∃ u, Bn.ev .hi v (.int .i64 (if m < (l.length : Int) then m else l.length)) = some u ∧ SlRd H u (l.take n) := by
 subst hm
 obtain ⟨u, h1, h2⟩ := h.take (n := min l.length n) (by omega) (kd := .i64)
 rw [take_min] at h2
 refine ⟨u, ?_, h2⟩
 rw [show (if (n : Int) < (l.length : Int) then (n : Int) else l.length) = ((min l.length n : Nat) : Int) by split <;> omega]
 exact h1
end Go.Proofs.Ytfelpjfopgiabaa
namespace Go.Proofs.Ytfelpjfopgiabaa
open Go Go.Lft
abbrev RSt := List Bool × List Int
def rchIn (wo : Int) (to : List Int) (k : Nat) (s : RSt) : RSt :=
 if (0 ≤ nth to k ∧ nth to k < s.1.length) ∧ nth s.1 (nth to k).toNat = false ∧ nth to k ≠ wo then (s.1.set (nth to k).toNat true, s.2 ++ [nth to k]) else s
def rchRow (f : FuncD) (wo : Int) (i : Nat) (s : RSt) : RSt := up (rchIn wo (nth f.blocks (nth s.2 i).toNat).term.to) (nth f.blocks (nth s.2 i).toNat).term.to.length s
def rchS (f : FuncD) (wo : Int) : Nat → Nat → RSt → RSt
 | 0, _, s => s
 | n + 1, i, s => if i < s.2.length then rchS f wo n (i + 1) (rchRow f wo i s) else s
def rch0 (f : FuncD) (wo : Int) : RSt := if wo ≠ 0 ∧ 0 < f.blocks.length then ((List.replicate f.blocks.length false).set 0 true, [0]) else (List.replicate f.blocks.length false, [])
def reachedS (f : FuncD) (wo : Int) : List Bool := (rchS f wo (f.blocks.length + 1) 0 (rch0 f wo)).1
structure ROk (n : Nat) (s : RSt) : Prop where
 len : s.1.length = n
 cnt : s.2.length + falses s.1 ≤ n
 rng : ∀ x ∈ s.2, 0 ≤ x ∧ x < n
theorem rchIn_ok {n : Nat} {wo : Int} {to : List Int} {k : Nat} {s : RSt} (h : ROk n s) : ROk n (rchIn wo to k s) := by
 unfold rchIn
 split
 ·rename_i hc
  have hf := falses_set (t := s.1) (i := (nth to k).toNat) (by omega) hc.2.1
  refine ⟨by simpa using h.len, ?_, fun x hx => ?_⟩
  ·have := h.cnt
   simp only [List.length_append, List.length_singleton]; omega
  ·rcases List.mem_append.1 hx with hx | hx
   ·exact h.rng x hx
   ·rw [List.mem_singleton.1 hx, ← h.len]; exact hc.1
 ·exact h
theorem rchUp_ok {n : Nat} {wo : Int} {to : List Int} {s : RSt} (h : ROk n s) (m : Nat) : ROk n (up (rchIn wo to) m s) := up_inv (ROk n) (fun k x hx => rchIn_ok hx) m s h
theorem rch0_ok {f : FuncD} {wo : Int} : ROk f.blocks.length (rch0 f wo) := by
 unfold rch0
 have hfa : falses (List.replicate f.blocks.length false) = f.blocks.length := by simp [falses]
 split
 ·rename_i hc
  have hf := falses_set (t := List.replicate f.blocks.length false) (i := 0) (by simpa using hc.2) (by rw [nth_eq (by simpa using hc.2)]; simp)
  exact ⟨by simp, by simp only [List.length_singleton]; omega, fun x hx => by rw [List.mem_singleton.1 hx]; omega⟩
 ·exact ⟨by simp, by simp only [List.length_nil]; omega, fun x hx => by cases hx⟩
theorem rchS_ok {f : FuncD} {wo : Int} : ∀ {m i : Nat} {s : RSt}, ROk f.blocks.length s → ROk f.blocks.length (rchS f wo m i s)
 | 0, _, _, h => h
 | m + 1, i, s, h => by
  rw [rchS]
  split
  ·exact rchS_ok (rchUp_ok h _)
  ·exact h
theorem reachedS_len {f : FuncD} {wo : Int} : (reachedS f wo).length = f.blocks.length := (rchS_ok rch0_ok).len
def rchOwn (vo vq : Value) (s : RSt) : Own := fun k => if k = (0, 0) then it T.bool vo s.1 else if k = (0, 1) then it T.int vq s.2 else none
theorem reached_ok {f : FuncD} {wo : Int} {v : Value} {h : Heap} (hv : Rd (vw h) v f) (hn : f.blocks.length ≤ 1000000) :
  HCalls Try.prog N.ref03_Reached #[v, .int .i64 wo] h (fun u h' => (vw h).le (vw h') ∧ SlRd (fresh h h') u (reachedS f wo)) := by
 refine calls_lift (args := [v, .int .i64 wo]) follows F.ref03_Reached E.ref03_Reached (Nat.le_of_ble_eq_true (by kernel_rfl)) fun K hK => ?_
 dsimp only [L.ref03_Reached]
 refine lwp_hide fun z hz => ?_
 simp
 refine do_boxT rfl hv fun h1 _ hle1 hsz1 hat => ?_
 obtain ⟨_, vb, cb⟩ := at_funcB hat
 generalize h.size = B at cb
 rw [hz]; clear hz z
 refine lwp_hide fun z hz => ?_
 simp [cb.1, cb.2.len]
 refine do_make (α := Bool) (W := vw h1) (k := .i64) (n := f.blocks.length) (d := false) El.s_bool (by simp) (by simp) rfl (by omega) (by omega) fun vo h2 o2 m2 hle2 hb2 => ?_
 have w2 := (Owns.start (h := h1) (View.le_refl (vw h1))).add (k := (0, 0)) rfl o2 hle2 (fun b hb => by rw [hb2] at hb; cases hb; exact Nat.le_refl _)
 rw [hz]; clear hz z
 refine lwp_hide fun z hz => ?_
 simp
 refine do_lit0 (α := Int) El.s_int fun h3 hle3 hsz3 own3 => ?_
 have w3 := w2.add (k := (0, 1)) rfl (own3 _) hle3 (fun b hb => by simp only [Value.ownBlock, Option.some.injEq] at hb; omega)
 have w3 : Owns (vw h1) h3 (rchOwn vo (.slice (some ⟨h2.size, 0, none⟩) 0 0) (List.replicate f.blocks.length false, [])) := w3.congr fun q => by
  unfold rchOwn Own.upd
  repeat' split
  all_goals first | rfl | simp_all
 generalize Value.slice (some ⟨h2.size, 0, none⟩) 0 0 = vq at w3
 rw [hz]; clear hz z
 refine lwp_hide fun z hz => ?_
 have cc3 := cellH_mono w3.wle cb.1
 have cb3 := cb.2.mono w3.wle
 have fin : ∀ (h4 : Heap) (vq : Value) (tl : Env), Owns (vw h1) h4 (rchOwn vo vq (rch0 f wo)) → @LC.wp noPP Try.prog z (@fnPost [.tmp 4] K) ([(0, v), (1, .int .i64 wo), (2, .pointer (some ⟨B, 0, none⟩)), (4, .slice none 0 0), (5, vo), (6, vq)] ++ tl) h4 := by
  intro h4 vq tl w4
  rw [hz]; clear hz z
  refine lwp_hide fun z hz => ?_
  simp
  refine lwp_loop [1, 2, 5, 6, 7] (fun m ρ h5 => ∃ (i : Nat) (s : RSt) (vq : Value), i ≤ f.blocks.length ∧ m = f.blocks.length + 1 - i ∧ ρ = [(1, .int .i64 wo), (2, .pointer (some ⟨B, 0, none⟩)), (5, vo), (6, vq), (7, .int .i64 i)] ∧ Owns (vw h1) h5 (rchOwn vo vq s) ∧ ROk f.blocks.length s ∧
   (rchS f wo m i s).1 = reachedS f wo) (f.blocks.length + 1) ⟨0, _, vq, by omega, rfl, by simp [keepE, look_setE], w4, rch0_ok, rfl⟩ ?_
  rintro m ρ h5 ⟨i, s, vq5, hi, rfl, rfl, w5, hok, hfin⟩ K2 hK2
  have no := w5.now (k := (0, 0)) (v := vo) (l := s.1) rfl
  have nq := w5.now (k := (0, 1)) (v := vq5) (l := s.2) rfl
  have hcnt := hok.cnt
  by_cases hlt : i < s.2.length
  ·have hm : f.blocks.length + 1 - i = (f.blocks.length - i) + 1 := by omega
   rw [hm, rchS, if_pos hlt] at hfin
   obtain ⟨r0, r1⟩ := hok.rng _ (nth_mem hlt)
   have cb5 := cb.2.mono w5.wle
   obtain ⟨w, hw⟩ := sl_toAt cb5 (i := (nth s.2 i).toNat) (by omega)
   obtain ⟨w', hw'⟩ := sl_toAt cb.2 (i := (nth s.2 i).toNat) (by omega)
   have eww : w' = w := Option.some.inj ((cellH_mono w5.wle hw'.1).symm.trans hw.1)
   rw [eww] at hw'
   have hwb := hw.2.bound
   have hrow : rchRow f wo i s = up (rchIn wo (nth f.blocks (nth s.2 i).toNat).term.to) (nth f.blocks (nth s.2 i).toNat).term.to.length s := rfl
   rw [hrow] at hfin
   generalize hto : (nth f.blocks (nth s.2 i).toNat).term.to = to at hw hw' hwb hfin
   refine lwp_hide fun y hy => ?_
   simp (disch := omega) [nq.len, hlt]
   rw [hy]; clear hy y
   refine lwp_hide fun y hy => ?_
   refine lwp_hide fun x hx => ?_
   simp (disch := omega) [cellH_mono w5.wle cb.1, cb5.idxn (N := 6) rfl, nq.idx1 rfl, nq.int (View.le_refl _), hw.1]
   rw [hx]; clear hx x
   simp
   refine lwp_for [1, 2, 5, 6, 7, 8, 9] (fun (q : Value) j => [.int .i64 wo, .pointer (some ⟨B, 0, none⟩), vo, q, .int .i64 i, w, .int .i64 j]) (fun q j h6 => Owns (vw h1) h6 (rchOwn vo q (up (rchIn wo to) j s))) to.length vq5
    rfl (by omega) rfl w5 (fun _ _ => rfl) (fun v j h4 hk m => by simp [hw.2.len]) ?_ ?_
   ·rintro q j h6 hltj w6 K3 hK3
    have hst : up (rchIn wo to) (j + 1) s = rchIn wo to j (up (rchIn wo to) j s) := rfl
    have hok6 := rchUp_ok (wo := wo) (to := to) hok j
    generalize up (rchIn wo to) j s = s6 at w6 hst hok6
    have no6 := w6.now (k := (0, 0)) (v := vo) (l := s6.1) rfl
    have nq6 := w6.now (k := (0, 1)) (v := q) (l := s6.2) rfl
    have hcnt6 := hok6.cnt
    have hlen6 := hok6.len
    have hr6 := hw'.2.mono w6.wle
    have hrng := hw'.2.range hltj
    rw [rchIn] at hst
    by_cases c1 : 0 ≤ nth to j ∧ nth to j < s6.1.length
    ·have c1a := c1.1
     have c1b := c1.2
     cases c2 : nth s6.1 (nth to j).toNat with
     | true =>
      rw [if_neg (by rw [c2]; simp)] at hst
      simp (disch := omega) [hr6.idx1 rfl, hr6.int (View.le_refl _), no6.len, no6.idx1 rfl, no6.bool (View.le_refl _), c1a, c1b, c2]
      exact hK3 q _ _ rfl rfl (by rw [hst]; exact w6)
     | false =>
      by_cases c3 : nth to j = wo
      ·rw [if_neg (by simp [c3])] at hst
       rw [c3] at c1a c1b c2
       simp (disch := omega) [hr6.idx1 rfl, hr6.int (View.le_refl _), no6.len, no6.idx1 rfl, no6.bool (View.le_refl _), c1a, c1b, c2, c3]
       exact hK3 q _ _ rfl rfl (by rw [hst]; exact w6)
      ·rw [if_pos ⟨c1, c2, c3⟩] at hst
       refine lwp_hide fun x hx => ?_
       simp (disch := omega) [hr6.idx1 rfl, hr6.int (View.le_refl _), no6.len, no6.idx1 rfl, no6.bool (View.le_refl _), c1a, c1b, c2, c3]
       rw [hx]; clear hx x
       simp (disch := omega) [hr6.idx1 rfl, hr6.int (View.le_refl _), no6.idx1 rfl]
       refine w6.do_put (k := (0, 0)) (α := Bool) (l := s6.1) (v := vo) (i := (nth to j).toNat) (d := true) rfl (by kernel_rfl) (by simp [show Rep.n Bool = 1 from rfl]) (by simp <;> rfl) (by omega) rd_b fun h7 w7 hs7 => ?_
       have hr7 := hw'.2.mono w7.wle
       simp (disch := omega) [hr7.idx1 rfl, hr7.int (View.le_refl _)]
       refine w7.do_push (k := (0, 1)) (α := Int) (v := q) (l := s6.2) (d := nth to j) rfl El.s_int (by simp <;> rfl) (rd_i hrng.1 hrng.2) (by omega) (by omega) (fun _ => by simp) (fun _ => by simp) fun u q8 h8 w8 hs8 => ?_
       refine hK3 q8 _ _ rfl rfl ?_
       rw [hst]
       refine w8.congr fun q => ?_
       unfold rchOwn Own.upd
       repeat' split
       all_goals first | rfl | simp_all
    ·rw [if_neg (fun e => c1 e.1)] at hst
     by_cases c1a : 0 ≤ nth to j
     ·have c1b : ¬ nth to j < s6.1.length := fun e => c1 ⟨c1a, e⟩
      simp (disch := omega) [hr6.idx1 rfl, hr6.int (View.le_refl _), no6.len, c1a, c1b]
      exact hK3 q _ _ rfl rfl (by rw [hst]; exact w6)
     ·simp (disch := omega) [hr6.idx1 rfl, hr6.int (View.le_refl _), no6.len, c1a]
      exact hK3 q _ _ rfl rfl (by rw [hst]; exact w6)
   ·rintro q h6 w6
    simp
    rw [hy]; clear hy y
    simp (disch := omega)
    exact hK2 (f.blocks.length + 1 - (i + 1)) _ _ (by omega) ⟨i + 1, _, q, by omega, rfl, by simp [keepE], w6, rchUp_ok hok _, by rw [show f.blocks.length + 1 - (i + 1) = f.blocks.length - i by omega]; exact hfin⟩
  ·have hlt' : ¬ (i : Int) < s.2.length := by omega
   simp (disch := omega) [L.ref03_Reached.l1, nq.len, hlt]
   rw [hz]; clear hz z
   simp
   have hs1 : s.1 = reachedS f wo := by
    rw [← hfin]
    cases f.blocks.length + 1 - i with
    | zero => rfl
    | succ m => rw [rchS, if_neg hlt]
   have ow := w5.get (k := (0, 0)) (v := vo) (l := s.1) rfl
   refine hK _ _ ⟨View.le_trans hle1 w5.wle, ?_⟩
   rw [← hs1]
   have ow' : OwnT nothing h5 T.bool vo s.1 := ow
   refine ow'.fresh (fun _ _ h => by cases h) fun b hb => ?_
   rw [hb2] at hb; cases hb
   exact View.none_of_ge (View.le_refl _) (by omega)
 by_cases c1 : wo = 0
 ·have hr0 : rch0 f wo = (List.replicate f.blocks.length false, []) := by rw [rch0, if_neg (fun e => e.1 c1)]
  rw [hr0] at fin
  simp [cc3, cb3.len, c1]
  rw [c1] at fin
  exact fin _ _ _ w3
 ·by_cases c2 : 0 < f.blocks.length
  ·have hr0 : rch0 f wo = ((List.replicate f.blocks.length false).set 0 true, [0]) := by rw [rch0, if_pos ⟨c1, c2⟩]
   rw [hr0] at fin
   have no := w3.now (k := (0, 0)) (v := vo) (l := List.replicate f.blocks.length false) rfl
   refine lwp_hide fun y hy => ?_
   simp (disch := omega) [cc3, cb3.len, c1, c2]
   rw [hy]; clear hy y
   have i0 : Bn.ev (.idx 1) vo (.int .i64 0) = some (.pointer (some ((slA vo).add 0))) := no.idx1 rfl (by omega) (by simpa using c2)
   simp (disch := omega) [i0]
   refine w3.do_put (k := (0, 0)) (α := Bool) (l := List.replicate f.blocks.length false) (v := vo) (i := 0) (d := true) rfl (by kernel_rfl) (by simp [show Rep.n Bool = 1 from rfl]) (by simp <;> rfl) (by simpa using c2) rd_b fun h4 w4 hs4 => ?_
   refine w4.do_push (k := (0, 1)) (α := Int) (v := vq) (l := []) (d := 0) rfl El.s_int (by simp <;> rfl) (rd_i (by omega) (by omega)) (by simp) (by simp) (fun _ => by simp) (fun _ => by simp) fun u q5 h5 w5 hs5 => ?_
   refine fin _ _ _ (w5.congr fun q => ?_)
   unfold rchOwn Own.upd
   repeat' split
   all_goals first | rfl | simp_all
  ·have hr0 : rch0 f wo = (List.replicate f.blocks.length false, []) := by rw [rch0, if_neg (fun e => c2 e.2)]
   rw [hr0] at fin
   simp [cc3, cb3.len, c1, c2]
   exact fin _ _ _ w3
end Go.Proofs.Ytfelpjfopgiabaa
namespace Go.Proofs.Ytfelpjfopgiabaa
open Go Go.Lft
instance : Rep Th := Rep.via fun d => Cat.mk d.blk (Cat.mk d.place (Cat.mk d.mks d.tks))
theorem Th.p_blk : Part Th Int 0 Th.blk (fun d x => { d with blk := x }) := (Part.fst Part.all).via (fun _ => rfl) fun _ _ => rfl
theorem Th.p_mks : Part Th (List Int) 2 Th.mks (fun d x => { d with mks := x }) := (Part.snd (Part.snd (Part.fst Part.all))).via (fun _ => rfl) fun _ _ => rfl
structure ThR where
 blk : Int
 place : Int
 mks : List Int
 tks : Raw
instance : Rep ThR := Rep.via fun d => Cat.mk d.blk (Cat.mk d.place (Cat.mk d.mks d.tks))
theorem ThR.p_tks : Part ThR Raw 3 ThR.tks (fun d x => { d with tks := x }) := (Part.snd (Part.snd (Part.snd Part.all))).via (fun _ => rfl) fun _ _ => rfl
theorem rd_th {H : View} {a b : Int} {u q : Value} {m t : List Int} (ha : I64 a) (hb : I64 b) (hm : SlRd H u m) (ht : SlRd H q t) : Rd H (.agg #[.int .i64 a, .int .i64 b, u, q]) (Th.mk a b m t) :=
 ⟨_, rfl, [.int .i64 a], [.int .i64 b, u, q], rfl, ⟨rfl, ha⟩, [.int .i64 b], [u, q], rfl, ⟨rfl, hb⟩, [u], [q], rfl, ⟨u, rfl, hm⟩, ⟨q, rfl, ht⟩⟩
theorem rd_thR {H : View} {a b : Int} {u q : Value} {m : List Int} (ha : I64 a) (hb : I64 b) (hm : SlRd H u m) (hq : q.oneCell' = true) : Rd H (.agg #[.int .i64 a, .int .i64 b, u, q]) (ThR.mk a b m ⟨q⟩) :=
 ⟨_, rfl, [.int .i64 a], [.int .i64 b, u, q], rfl, ⟨rfl, ha⟩, [.int .i64 b], [u, q], rfl, ⟨rfl, hb⟩, [u], [q], rfl, ⟨u, rfl, hm⟩, ⟨rfl, hq⟩⟩
theorem thR_cells {H : View} {cs : List Value} {d : ThR} (h : Rep.rd H cs d) : ∃ u, cs = [.int .i64 d.blk, .int .i64 d.place, u, d.tks.v] ∧ I64 d.blk ∧ I64 d.place ∧ SlRd H u d.mks := by
 obtain ⟨c1, r1, rfl, ⟨rfl, h1⟩, c2, r2, rfl, ⟨rfl, h2⟩, c3, r3, rfl, ⟨u, rfl, h3⟩, rfl, _⟩ := h
 exact ⟨u, rfl, h1, h2, h3⟩
def outOwn (vo : Value) (l : List Th) : Own := fun k => if k = (0, 0) then it T.ref03_Thing vo l else none
def outOwn3 (vo : Value) (l : List Th) (D : Nat) (d : ThR) (q : Value) (t : List Int) : Own := fun k => if k = (0, 0) then it T.ref03_Thing vo l else if k = (1, 0) then bx T.ref03_Thing D d else if k = (1, 1) then it T.int q t else none
structure ThS (V : View) (h0 : Heap) (vo : Value) (l : List Th) (W : View) (h : Heap) : Prop where
 own : Owns W h (outOwn vo l)
 old : Old V h0 W
 le : (vw h0).le (vw h)
 av : Av (vw h0) vo
theorem ThS.ext {V : View} {h0 : Heap} {vo : Value} {l : List Th} {W : View} {h h' : Heap} (k : ThS V h0 vo l W h) (hle : (vw h).le (vw h')) : ThS V h0 vo l (grow W h h') h' :=
 ⟨k.own.ext hle, k.old.grow (ext_size k.le), View.le_trans k.le hle, k.av⟩
theorem do_thing {po : OP} {ty : TypeId} {us : List (Nat × Value)} {h : Heap} {K : Value → Heap → Prop} {x y z w : Operand} {a b : Int} {u q : Value} (hx : asg us x = .int .i64 a) (hy : asg us y = .int .i64 b) (hz : asg us z = u) (hw : asg us w = q) (hu : u.cells = #[u]) (hq : q.cells = #[q]) (hk : K (.agg #[.int .i64 a, .int .i64 b, u, q]) h) :
  Lft.step Try.prog (.build T.ref03_Thing #[(0, x), (1, y), (2, z), (3, w)]) ty us h K :=
 do_build (z := .agg #[.int .i64 0, .int .i64 0, .slice none 0 0, .slice none 0 0]) (places := [(0, 1), (1, 1), (2, 1), (3, 1)]) (vs := [(0, .int .i64 a), (1, .int .i64 b), (2, u), (3, q)]) (cs := #[.int .i64 a, .int .i64 b, u, q]) (by kernel_rfl) (by kernel_rfl) (by simp [hx, hy, hz, hw])
  (by simp [Instr.fill, hu, hq]) hk
theorem do_thing2 {po : OP} {ty : TypeId} {us : List (Nat × Value)} {h : Heap} {K : Value → Heap → Prop} {x y z : Operand} {a b : Int} {u : Value} (hx : asg us x = .int .i64 a) (hy : asg us y = .int .i64 b) (hz : asg us z = u) (hu : u.cells = #[u]) (hk : K (.agg #[.int .i64 a, .int .i64 b, u, .slice none 0 0]) h) :
  Lft.step Try.prog (.build T.ref03_Thing #[(0, x), (1, y), (2, z)]) ty us h K :=
 do_build (z := .agg #[.int .i64 0, .int .i64 0, .slice none 0 0, .slice none 0 0]) (places := [(0, 1), (1, 1), (2, 1), (3, 1)]) (vs := [(0, .int .i64 a), (1, .int .i64 b), (2, u)]) (cs := #[.int .i64 a, .int .i64 b, u, .slice none 0 0]) (by kernel_rfl) (by kernel_rfl) (by simp [hx, hy, hz])
  (by simp [Instr.fill, hu]) hk
theorem do_thing3 {po : OP} {ty : TypeId} {us : List (Nat × Value)} {h : Heap} {K : Value → Heap → Prop} {x y w : Operand} {a b : Int} {q : Value} (hx : asg us x = .int .i64 a) (hy : asg us y = .int .i64 b) (hw : asg us w = q) (hq : q.cells = #[q]) (hk : K (.agg #[.int .i64 a, .int .i64 b, .slice none 0 0, q]) h) :
  Lft.step Try.prog (.build T.ref03_Thing #[(0, x), (1, y), (3, w)]) ty us h K :=
 do_build (z := .agg #[.int .i64 0, .int .i64 0, .slice none 0 0, .slice none 0 0]) (places := [(0, 1), (1, 1), (2, 1), (3, 1)]) (vs := [(0, .int .i64 a), (1, .int .i64 b), (3, q)]) (cs := #[.int .i64 a, .int .i64 b, .slice none 0 0, q]) (by kernel_rfl) (by kernel_rfl) (by simp [hx, hy, hw])
  (by simp [Instr.fill, hq]) hk
theorem refThings_ok {f : FuncD} {v : Value} {V : View} {h : Heap} (hv : Rd V v f) (hV : V.le (vw h)) (hsm : SmF f) :
  HCalls Try.prog N.ref03_Things #[v] h (fun u h' => (vw h).le (vw h') ∧ SlRd (grow V h h') u (thingsS f)) := by
 refine calls_lift (args := [v]) follows F.ref03_Things E.ref03_Things (Nat.le_of_ble_eq_true (by kernel_rfl)) fun K hK => ?_
 have hn := hsm.len
 dsimp only [L.ref03_Things]
 refine lwp_hide fun z hz => ?_
 simp
 refine do_box (v := v) rfl ?_
 have hle1 := push_le h (.cells v.cells T.api_Func)
 have hat1 : At (grow V h (h.push (.cells v.cells T.api_Func))) ⟨h.size, 0, none⟩ f := at_new (t := T.api_Func) (fz := (0, 0)) (by rw [grow_new (Nat.le_refl _)]; simp) (hv.mono (le_grow hV))
 have hs1 : (h.push (.cells v.cells T.api_Func)).size = h.size + 1 := by simp
 generalize h.push (.cells v.cells T.api_Func) = h1 at hle1 hat1 hs1
 have hW1 : (grow V h h1).le (vw h1) := grow_le (View.le_trans hV hle1)
 have old1 : Old V h (grow V h h1) := (Old.refl V h).grow (Nat.le_refl _)
 obtain ⟨_, vb, cb⟩ := at_funcB hat1
 generalize grow V h h1 = W1 at cb hW1 old1
 generalize h.size = B at cb
 rw [hz]; clear hz z
 refine lwp_hide fun z hz => ?_
 simp
 refine do_lit0 (α := Th) El.s_ref03_Thing fun h2 hle2 hsz2 own2 => ?_
 have t2 : ThS V h (.slice (some ⟨h1.size, 0, none⟩) 0 0) [] W1 h2 := ⟨((Owns.start hW1).add (k := (0, 0)) rfl (own2 _) hle2 (fun b hb => by simp only [Value.ownBlock, Option.some.injEq] at hb; omega)).congr fun q => by
   unfold outOwn Own.upd
   repeat' split
   all_goals first | rfl | simp_all, old1, View.le_trans hle1 hle2, fun b hb => by cases hb; exact View.none_of_ge (View.le_refl _) (by show h.size ≤ h1.size; omega)⟩
 generalize Value.slice (some ⟨h1.size, 0, none⟩) 0 0 = v0 at t2
 rw [hz]; clear hz z
 refine lwp_hide fun z hz => ?_
 simp
 refine lwp_for [1, 3, 4] (fun (r : Value) b => [.pointer (some ⟨B, 0, none⟩), r, .int .i64 b]) (fun r b h3 => ∃ W, W1.le W ∧ ThS V h r (thTo f b) W h3) f.blocks.length v0
  rfl (by omega) rfl ⟨W1, View.le_refl _, t2⟩ (fun _ _ => rfl) (fun v k h3 hk ⟨W, q1, q2⟩ => by simp [cellH_mono (View.le_trans q1 q2.own.wle) cb.1, (cb.2.mono (View.le_trans q1 q2.own.wle)).len]) ?_ ?_
 ·rintro r b h3 hltb ⟨W3, hW3, t3⟩ K2 hK2
  have hl3 := thTo_len hsm (n := b) (by omega)
  have cb3 := cb.2.mono (View.le_trans hW3 t3.own.wle)
  have cc3 := cellH_mono (View.le_trans hW3 t3.own.wle) cb.1
  obtain ⟨u, hu, hur⟩ := (cb.2.mono hW3).wh rfl (N := 6) rfl hltb
  have sb := hsm.blk b hltb
  refine lwp_hide fun y hy => ?_
  simp (disch := omega) [cc3, cb3.idxn (N := 6) rfl, hu _ t3.own.wle]
  refine do_newX (X := W3) (z := .agg #[.slice none 0 0, .slice none 0 0, .int .i64 0, .slice none 0 0, .slice none 0 0, .int .i32 0]) (by kernel_rfl) rfl (by kernel_rfl) hur (fun _ => by simp) (fun _ => by simp) fun h4 hle4 hsz4 hat4 => ?_
  have t4 := t3.ext hle4
  have hat4' := hat4 (grow W3 h3 h4) (le_grow t3.own.wle) (grow_new (Nat.le_refl _))
  obtain ⟨vp, vi, va, vt, bp, bi, bk, ba, bt⟩ := at_blkB hat4'
  have hW4 := View.le_trans hW3 (le_grow (h' := h4) t3.own.wle)
  generalize grow W3 h3 h4 = W4 at t4 bp bi bk ba bt hW4
  generalize h3.size = D at bp bi bk ba bt
  rw [hy]; clear hy y
  refine lwp_hide fun y hy => ?_
  simp
  have sp := sb.phis
  refine lwp_for [1, 3, 4, 5, 6] (fun (r : Value) i => [.pointer (some ⟨B, 0, none⟩), r, .int .i64 b, .pointer (some ⟨D, 0, none⟩), .int .i64 i]) (fun r i h5 => ∃ W, W4.le W ∧ ThS V h r (thTo f b ++ rows (phiT f b) i) W h5) (nth f.blocks b).phis.length r
   rfl (by omega) rfl ⟨W4, View.le_refl _, by simpa using t4⟩ (fun _ _ => rfl) (fun v k h3 hk ⟨W, q1, q2⟩ => by simp [cellH_mono (View.le_trans q1 q2.own.wle) bp.1, (bp.2.mono (View.le_trans q1 q2.own.wle)).len]) ?_ ?_
  ·rintro r i h5 hlti ⟨W5, hW5, t5⟩ K3 hK3
   have bp5 := bp.2.mono hW5
   have bph := bp5.mono t5.own.wle
   have cph := cellH_mono (View.le_trans hW5 t5.own.wle) bp.1
   have hap := (bp5.at hlti)
   rw [← nth_eq hlti] at hap
   have hdst : cellH W5 (((slA vp).add (i * 2)).add 0) = some (.int .i64 (nth (nth f.blocks b).phis i).dst) := (hap.part PhiD.p_dst).int
   have hdr := (hap.part PhiD.p_dst).rng
   obtain ⟨vq, hvq⟩ := (hap.part PhiD.p_ins).sl
   have hvq1 : cellH W5 (((slA vp).add (i * 2)).add 1) = some vq := hvq.1
   have hvq2 := hvq.2
   have hpl := sb.phi i hlti
   have hpt : phiT f b i = ⟨b, -1 - i, [(nth (nth f.blocks b).phis i).dst], (nth (nth f.blocks b).phis i).ins.map InD.val⟩ := rfl
   generalize nth (nth f.blocks b).phis i = x at hdst hdr hvq2 hpl hpt
   refine lwp_hide fun q hq => ?_
   simp (disch := omega) [cph, bph.idxn (N := 2) rfl, cellH_mono t5.own.wle hdst]
   refine do_litN (X := nothing) (ds := [x.dst]) (vs := [.int .i64 x.dst]) rfl El.s_int (by simp) ⟨rd_int.2 ⟨rfl, hdr⟩, trivial⟩ nothing_le rfl (by omega) fun u6 h6 hle6 hsz6 hu6 hub6 => ?_
   have hu6n := hu6 (vw h6) nothing_le rfl
   refine do_thing2 rfl rfl rfl hu6n.cells.1 ?_
   simp
   refine do_newV (n := 4) (v := .agg #[.int .i64 b, .int .i64 (-1 - i), u6, .slice none 0 0]) (z := .agg #[.int .i64 0, .int .i64 0, .slice none 0 0, .slice none 0 0]) (by kernel_rfl) rfl (by kernel_rfl) rfl (by intro c hc; simp at hc; rcases hc with rfl | rfl | rfl | rfl <;> first | rfl | exact hu6n.cells.2) (fun _ => by simp) (fun _ => by simp) fun h7 hle7 hsz7 hb7 => ?_
   have w6 := t5.own.ext hle6
   have w7 := (w6.add (k := (1, 0)) rfl (ownT_box (h := h7) (d := ThR.mk b (-1 - i) [x.dst] ⟨.slice none 0 0⟩) hb7 (rd_thR ⟨by omega, by omega⟩ ⟨by omega, by omega⟩ (hu6 _ nothing_le (grow_new (Nat.le_refl _))) rfl) (by decide)) hle7 (fun b hb => by simp only [Value.ownBlock, Option.some.injEq] at hb; omega)).add (k := (1, 1)) rfl (OwnT.nil (α := Int) _ h7 T.int) (View.le_refl _) (fun b hb => by simp [Value.ownBlock] at hb)
   have w7 : Owns (grow W5 h5 h6) h7 (outOwn3 r (thTo f b ++ rows (phiT f b) i) h6.size (ThR.mk b (-1 - i) [x.dst] ⟨.slice none 0 0⟩) (.slice none 0 0) []) := w7.congr fun q => by
    unfold outOwn3 outOwn Own.upd
    repeat' split
    all_goals first | rfl | simp_all
   have hW7 := View.le_trans hW5 (le_grow (h' := h6) t5.own.wle)
   have old7 := t5.old.grow (h1 := h5) (h2 := h6) (ext_size t5.le)
   have hle07 := View.le_trans t5.le (View.le_trans hle6 hle7)
   have hvq7 := hvq2.mono (le_grow (h' := h6) t5.own.wle)
   have cvq7 := cellH_mono (le_grow (h' := h6) t5.own.wle) hvq1
   generalize grow W5 h5 h6 = W7 at w7 hW7 old7 hvq7 cvq7
   have hD7 : h.size ≤ h6.size := Nat.le_trans (ext_size t5.le) (ext_size hle6)
   generalize h6.size = D7 at w7 hD7
   rw [hq]; clear hq q
   refine lwp_hide fun q hq => ?_
   simp
   refine lwp_for [1, 3, 4, 5, 6, 7, 8] (fun (q : Value) j => [.pointer (some ⟨B, 0, none⟩), r, .int .i64 b, .pointer (some ⟨D, 0, none⟩), .int .i64 i, .pointer (some ⟨D7, 0, none⟩), .int .i64 j])
    (fun q j h8 => Owns W7 h8 (outOwn3 r (thTo f b ++ rows (phiT f b) i) D7 (ThR.mk b (-1 - i) [x.dst] ⟨q⟩) q ((x.ins.map InD.val).take j)) ∧ (vw h).le (vw h8) ∧ Av (vw h) q) x.ins.length (.slice none 0 0)
    rfl (by omega) rfl ⟨w7, hle07, Av.nil _ _ _⟩ (fun _ _ => rfl) (fun v k h8 hk ⟨w8, q2⟩ => by
     have bp8 := (bp.2.mono hW7).mono w8.wle
     simp (disch := omega) [cellH_mono (View.le_trans hW7 w8.wle) bp.1, bp8.idxn (N := 2) rfl, cellH_mono w8.wle cvq7, (hvq7.mono w8.wle).len]) ?_ ?_
   ·rintro q8 j h8 hltj ⟨w8, hle08, av8⟩ K4 hK4
    have bp8 := (bp.2.mono hW7).mono w8.wle
    have hv8 := hvq7.mono w8.wle
    have hai := (hvq7.at hltj)
    rw [← nth_eq hltj] at hai
    have hval : cellH W7 (((slA vq).add (j * 2)).add 1) = some (.int .i64 (nth x.ins j).val) := (hai.part InD.p_val).int
    have hvr := (hai.part InD.p_val).rng
    have hl8 : ((x.ins.map InD.val).take j).length = j := by simp; omega
    have htk : (x.ins.map InD.val).take (j + 1) = (x.ins.map InD.val).take j ++ [(nth x.ins j).val] := by
     rw [List.take_add_one, List.getElem?_map, List.getElem?_eq_getElem hltj, nth_eq hltj]; rfl
    have hq8 : cellH (vw h8) ⟨D7, 3, none⟩ = some q8 := by
     have := ((w8.at (k := (1, 0)) (e := T.ref03_Thing) (B := D7) (d := ThR.mk b (-1 - i) [x.dst] ⟨q8⟩) rfl).part ThR.p_tks).raw
     simpa using this
    refine drawn_at (vw h8) (View.le_refl _) ?_
    simp (disch := omega) [hq8, cellH_mono (View.le_trans hW7 w8.wle) bp.1, bp8.idxn (N := 2) rfl, cellH_mono w8.wle cvq7, hv8.idxn (N := 2) rfl, cellH_mono w8.wle hval]
    refine do_one (α := Int) (W := W7) El.s_int rfl (rd_int.2 ⟨rfl, hvr⟩) fun u9 h9 hs9 hle9 hsz9 => ⟨hle9, ?_⟩
    refine (w8.ext' hle9).do_append (k := (1, 1)) (α := Int) (v := q8) (l := (x.ins.map InD.val).take j) rfl El.s_int rfl rfl hs9 (by simp; omega) (by simp; omega) fun q10 h10 w10 m10 => ?_
    have hc10 := w10.cells (k := (1, 1)) (Own.upd_self)
    obtain ⟨hX10, av10⟩ := m10.view (View.le_trans hle08 hle9) av8
    refine w10.do_fieldM (k := (1, 0)) (e := T.ref03_Thing) (B := D7) (D := ThR.mk b (-1 - i) [x.dst] ⟨q8⟩) ThR.p_tks (d := ⟨q10⟩) rfl (by kernel_rfl) rfl rfl (rd_raw.2 ⟨rfl, hc10.2⟩) fun h11 w11 hX11 => ?_
    refine hK4 q10 _ _ rfl rfl ⟨w11.congr fun p => ?_, hX11 _ hX10 (View.none_of_ge (View.le_refl _) hD7), av10⟩
    rw [htk]
    unfold outOwn3 Own.upd
    repeat' split
    all_goals first | rfl | simp_all
   ·rintro q8 h8 ⟨w8, hle08, av8⟩
    rw [List.take_of_length_le (by simp)] at w8
    simp
    rw [hq]; clear hq q
    obtain ⟨cs, hcs, hrd⟩ := w8.atW (k := (1, 0)) (e := T.ref03_Thing) (B := D7) (d := ThR.mk b (-1 - i) [x.dst] ⟨q8⟩) rfl
    obtain ⟨u9, rfl, i1, i2, hu9⟩ := thR_cells hrd
    obtain ⟨w9, hq9⟩ := w8.freeze (k := (1, 1)) (v := q8) (l := x.ins.map InD.val) rfl
    have hpl9 : W7.le (W7.plus q8 h8) := le_plus (w8.av (1, 1) _ rfl)
    have hload : Un.ev (vw h8) (.loads 4) (.pointer (some ⟨D7, 0, none⟩)) = some (.agg #[.int .i64 b, .int .i64 (-1 - i), u9, q8]) := by
     have := cellsFrom_at hcs 4 0 #[] (by rfl)
     simp [Un.ev, vP, this]
    have hold9 : Old V h (W7.plus q8 h8) := fun c o hc hco => by
     unfold View.plus at hco
     split at hco
     ·rename_i e
      have := av8 c e
      simp only [vw] at this
      rw [Array.getElem?_eq_getElem hc] at this; cases this
     ·exact old7 c o hc hco
    have w9 : Owns (W7.plus q8 h8) h8 (outOwn r (thTo f b ++ rows (phiT f b) i)) := w9.sub fun p x hp => by
     unfold outOwn at hp
     split at hp
     ·rename_i e; subst e; exact hp
     ·cases hp
    have hlr : (thTo f b ++ rows (phiT f b) i).length = (thTo f b).length + i := by simp
    simp [hload]
    refine w9.do_pushM (k := (0, 0)) (α := Th) (v := r) (l := thTo f b ++ rows (phiT f b) i) (d := phiT f b i) rfl El.s_ref03_Thing rfl (by rw [hpt]; exact rd_th i1 i2 (hu9.mono hpl9) hq9) (by omega) (by omega) (fun _ => rfl) (fun _ => rfl) fun u10 r10 h10 w10 hX10 => ?_
    obtain ⟨g1, g2⟩ := hX10 _ hle08 t5.av
    refine hK3 r10 _ _ rfl rfl ⟨W7.plus q8 h8, View.le_trans hW7 hpl9, ⟨w10.congr fun p => ?_, hold9, g1, g2⟩⟩
    rw [rows_succ, ← List.append_assoc]
    unfold outOwn Own.upd
    repeat' split
    all_goals first | rfl | simp_all
  ·rintro r h5 ⟨W5, hW5, t5⟩
   simp
   rw [hy]; clear hy y
   refine lwp_hide fun y hy => ?_
   simp
   have si := sb.ins
   refine lwp_for [1, 3, 4, 5, 9] (fun (r : Value) i => [.pointer (some ⟨B, 0, none⟩), r, .int .i64 b, .pointer (some ⟨D, 0, none⟩), .int .i64 i]) (fun r i h6 => ∃ W, W4.le W ∧ ThS V h r (thTo f b ++ rows (phiT f b) (nth f.blocks b).phis.length ++ rows (insT f b) i) W h6) (nth f.blocks b).ins.length r
    rfl (by omega) rfl ⟨W5, hW5, by simpa using t5⟩ (fun _ _ => rfl) (fun v k h3 hk ⟨W, q1, q2⟩ => by simp [cellH_mono (View.le_trans q1 q2.own.wle) bi.1, (bi.2.mono (View.le_trans q1 q2.own.wle)).len]) ?_ ?_
   ·rintro r i h6 hlti ⟨W6, hW6, t6⟩ K3 hK3
    have bi6 := bi.2.mono hW6
    have bih := bi6.mono t6.own.wle
    have cih := cellH_mono (View.le_trans hW6 t6.own.wle) bi.1
    obtain ⟨ux, hux, huxr⟩ := bi6.wh rfl (N := 5) rfl hlti
    have hap := (bi6.at hlti)
    rw [← nth_eq hlti] at hap
    obtain ⟨vq, hvq⟩ := (hap.part InsD.p_args).sl
    have hvq1 : cellH W6 (((slA vi).add (i * 5)).add 3) = some vq := hvq.1
    have hvq2 := hvq.2
    have hpt : insT f b i = ⟨b, i, makesS (nth (nth f.blocks b).ins i), (nth (nth f.blocks b).ins i).args⟩ := rfl
    generalize nth (nth f.blocks b).ins i = x at hvq2 huxr hpt
    have hlr : (thTo f b ++ rows (phiT f b) (nth f.blocks b).phis.length ++ rows (insT f b) i).length = (thTo f b).length + (nth f.blocks b).phis.length + i := by simp; omega
    refine drawn_at (vw h6) (View.le_refl _) ?_
    simp (disch := omega) [cih, bih.idxn (N := 5) rfl, hux _ t6.own.wle, cellH_mono t6.own.wle hvq1]
    refine call_to (by kernel_rfl) (refMakes_ok (huxr.mono t6.own.wle)) ?_
    rintro u7 h7 ⟨hle7, hu7, _⟩
    refine ⟨hle7, ?_⟩
    have t7 := t6.ext hle7
    have hu7' := hu7.mono (fresh_grow W6 h6 h7)
    have hvq7 := hvq2.mono (le_grow (h' := h7) t6.own.wle)
    refine do_thing rfl rfl rfl rfl hu7.cells.1 hvq2.cells.1 ?_
    simp
    refine t7.own.do_pushM (k := (0, 0)) (α := Th) (v := r) (l := thTo f b ++ rows (phiT f b) (nth f.blocks b).phis.length ++ rows (insT f b) i) (d := insT f b i) rfl El.s_ref03_Thing rfl (by rw [hpt]; exact rd_th ⟨by omega, by omega⟩ ⟨by omega, by omega⟩ hu7' hvq7) (by omega) (by omega) (fun _ => rfl) (fun _ => rfl) fun u10 r10 h10 w10 hX10 => ?_
    obtain ⟨g1, g2⟩ := hX10 _ t7.le t7.av
    refine hK3 r10 _ _ rfl rfl ⟨_, View.le_trans hW6 (le_grow (h' := h7) t6.own.wle), ⟨w10.congr fun p => ?_, t7.old, g1, g2⟩⟩
    rw [rows_succ, ← List.append_assoc]
    unfold outOwn Own.upd
    repeat' split
    all_goals first | rfl | simp_all
   ·rintro r h6 ⟨W6, hW6, t6⟩
    simp
    rw [hy]; clear hy y
    have hW6h := View.le_trans hW6 t6.own.wle
    have bih := bi.2.mono hW6h
    have cih := cellH_mono hW6h bi.1
    have hlr : (thTo f b ++ rows (phiT f b) (nth f.blocks b).phis.length ++ rows (insT f b) (nth f.blocks b).ins.length).length = (thTo f b).length + (nth f.blocks b).phis.length + (nth f.blocks b).ins.length := by simp; omega
    simp [cih, bih.len, cellH_mono hW6h ba.1]
    refine do_thing3 rfl rfl rfl (ba.2.cells.1) ?_
    simp
    refine t6.own.do_pushM (k := (0, 0)) (α := Th) (v := r) (l := thTo f b ++ rows (phiT f b) (nth f.blocks b).phis.length ++ rows (insT f b) (nth f.blocks b).ins.length) (d := endT f b) rfl El.s_ref03_Thing rfl (rd_th ⟨by omega, by omega⟩ ⟨by omega, by omega⟩ nil_sl (ba.2.mono hW6)) (by omega) (by omega) (fun _ => rfl) (fun _ => rfl) fun u10 r10 h10 w10 hX10 => ?_
    obtain ⟨g1, g2⟩ := hX10 _ t6.le t6.av
    refine hK2 r10 _ _ rfl rfl ⟨_, View.le_trans hW4 hW6, ⟨w10.congr fun p => ?_, t6.old, g1, g2⟩⟩
    have e : thTo f (b + 1) = thTo f b ++ rows (phiT f b) (nth f.blocks b).phis.length ++ rows (insT f b) (nth f.blocks b).ins.length ++ [endT f b] := by
     rw [thTo_succ, thB]; simp [List.append_assoc]
    rw [e]
    unfold outOwn Own.upd
    repeat' split
    all_goals first | rfl | simp_all
 ·rintro r h3 ⟨W3, hW3, t3⟩
  simp
  rw [hz]; clear hz z
  simp
  exact hK _ _ ⟨t3.le, (t3.own.get (k := (0, 0)) (v := r) (l := thTo f f.blocks.length) rfl).rd (t3.old.le t3.own.wle) fun b hb => by
   have := t3.av b hb
   rw [grow_new]
   rcases Nat.lt_or_ge b h.size with hlt | hge
   ·simp [vw, hlt] at this
   ·exact hge⟩
end Go.Proofs.Ytfelpjfopgiabaa
namespace Go.Proofs.Ytfelpjfopgiabaa
open Go Go.Lft
structure GotD where
 e : Int
 b : Int
 p : Int
instance : Rep GotD := Rep.via fun d => Cat.mk d.e (Cat.mk d.b d.p)
abbrev BL := List Bool
def mkdStep (t : Th) (j : Nat) (m : BL) : Except Tr BL := if nth m (nth t.mks j).toNat then .error (12, t.blk, t.place) else .ok (m.set (nth t.mks j).toNat true)
def blkOf (f : FuncD) (t : Th) : BlkD := nth f.blocks t.blk.toNat
def insOf (f : FuncD) (t : Th) : InsD := nth (blkOf f t).ins t.place.toNat
def isIns (f : FuncD) (t : Th) : Bool := decide (0 ≤ t.place) && decide (t.place < (blkOf f t).ins.length)
def isLast (f : FuncD) (t : Th) : Bool := decide (t.place = (blkOf f t).ins.length)
def opBad (s : InsD) : Bool := decide (s.op < 1) || decide (18 < s.op) || !countsS s.op s.args.length
def numBad (f : FuncD) (n : Int) : Bool := decide (n < f.params) || decide (8191 < n)
def toBad (f : FuncD) (n : Int) : Bool := decide (n < 1) || decide ((f.blocks.length : Int) ≤ n)
def afterMk (f : FuncD) (t : Th) : Except Tr BL → Except Tr BL
 | .error e => .error e
 | .ok m' => if isLast f t && (blkOf f t).term.to.any (toBad f) then .error (14, t.blk, t.place) else .ok m'
def thShape (f : FuncD) (t : Th) (m : BL) : Except Tr BL :=
 if isIns f t && opBad (insOf f t) then .error (10, t.blk, t.place)
 else if isLast f t && !termS (blkOf f t).term then .error (10, t.blk, t.place)
 else if t.mks.any (numBad f) then .error (11, t.blk, t.place)
 else afterMk f t (upE (mkdStep t) t.mks.length m)
def refShapeS (f : FuncD) : Except Tr BL := upE (fun i m => thShape f (nth (thingsS f) i) m) (thingsS f).length (List.replicate 8192 false)
def errOf {α : Type} : Except Tr α → Tr | .ok _ => (0, 0, 0) | .error t => t
end Go.Proofs.Ytfelpjfopgiabaa
namespace Go.Proofs.Ytfelpjfopgiabaa
open Go Go.Lft
def noTh : Th := ⟨-1, 0, [], []⟩
def siteStep (t : Th) (l : List Th) (n : Int) : List Th := if 0 ≤ n ∧ n < 8192 then l.set n.toNat t else l
def siteTh (l : List Th) (t : Th) : List Th := t.mks.foldl (siteStep t) l
def sitesS (ts : List Th) : List Th := ts.foldl siteTh (List.replicate 8192 noTh)
theorem siteStep_len {t : Th} {l : List Th} {n : Int} : (siteStep t l n).length = l.length := by unfold siteStep; split <;> simp
theorem siteTh_len {t : Th} {l : List Th} : (siteTh l t).length = l.length := foldl_inv (f := siteStep t) (fun x : List Th => x.length = l.length) (fun _ _ h => siteStep_len.trans h) _ _ rfl
theorem sitesS_len {ts : List Th} : (sitesS ts).length = 8192 := foldl_inv (f := siteTh) (fun x : List Th => x.length = 8192) (fun _ _ h => siteTh_len.trans h) _ _ (List.length_replicate ..)
end Go.Proofs.Ytfelpjfopgiabaa
namespace Go.Proofs.Ytfelpjfopgiabaa
open Go Go.Lft
def standsS (f : FuncD) (made : List Th) (away : List BL) (v blk place : Int) : Bool :=
 if 0 ≤ v ∧ v < f.params then true
 else if (v < 0 ∨ 8191 < v) ∨ (nth made v.toNat).blk < 0 then false
 else if (nth made v.toNat).blk = blk then decide ((nth made v.toNat).place < 0) || decide ((nth made v.toNat).place < place)
 else !nth (nth away (nth made v.toNat).blk.toNat) blk.toNat
end Go.Proofs.Ytfelpjfopgiabaa
namespace Go.Proofs.Ytfelpjfopgiabaa
open Go Go.Lft
def phiOf (f : FuncD) (t : Th) : PhiD := nth (blkOf f t).phis (-1 - t.place).toNat
def insLen (f : FuncD) (b : Int) : Int := ((nth f.blocks b.toNat).ins.length : Nat)
def sameS (f : FuncD) (t : Th) : Bool := decide (0 < t.blk) && decide ((phiOf f t).ins.map InD.frm = refPredsS f t.blk)
def stT (f : FuncD) (made : List Th) (away : List BL) (t : Th) (x : Int) : Bool := !standsS f made away x t.blk t.place
def stP (f : FuncD) (made : List Th) (away : List BL) (p : InD) : Bool := !standsS f made away p.val p.frm (insLen f p.frm)
def thStand (f : FuncD) (made : List Th) (away : List BL) (t : Th) : Except Tr Unit :=
 if 0 ≤ t.place then (if t.tks.any (stT f made away t) then .error (13, t.blk, t.place) else .ok ())
 else if !sameS f t then .error (16, t.blk, t.place)
 else if (phiOf f t).ins.any (stP f made away) then .error (13, t.blk, t.place)
 else .ok ()
def madeS (f : FuncD) : List Th := sitesS (thingsS f)
def awayS (f : FuncD) : List BL := rows (fun b => reachedS f b) f.blocks.length
def cntTo (f : FuncD) : Nat → Nat
 | 0 => f.blocks.length
 | n + 1 => cntTo f n + (nth f.blocks n).phis.length + (nth f.blocks n).ins.length
def wayE (f : FuncD) : Except Tr Unit := upE (fun b _ => if nth (reachedS f (-1)) b = true then .ok () else .error (15, b, 0)) f.blocks.length ()
def usesE (f : FuncD) : Except Tr Unit := upE (fun i _ => thStand f (madeS f) (awayS f) (nth (thingsS f) i)) (thingsS f).length ()
def thenE : Except Tr Unit → Except Tr Unit → Except Tr Unit
 | .ok _, y => y
 | .error e, _ => .error e
def refFuncS (f : FuncD) : Tr :=
 if f.params < 0 ∨ 4 < f.params then (1, 0, 0)
 else if f.blocks.length = 0 then (14, 0, 0)
 else if 512 < f.blocks.length ∨ 4096 < cntTo f f.blocks.length then (2, 0, 0)
 else if (errOf (refShapeS f)).1 ≠ 0 then errOf (refShapeS f)
 else errOf (thenE (wayE f) (usesE f))
theorem upE_inv {σ ε : Type} {f : Nat → σ → Except ε σ} {s : σ} {t : ε} : ∀ {n : Nat}, upE f n s = .error t → ∃ k s', k < n ∧ upE f k s = .ok s' ∧ f k s' = .error t
 | n + 1, h => by
  simp only [upE] at h
  split at h
  ·rename_i s' hs
   exact ⟨n, s', Nat.lt_succ_self n, hs, h⟩
  ·rename_i t' ht
   cases h
   obtain ⟨k, s', h1, h2⟩ := upE_inv ht
   exact ⟨k, s', Nat.lt_succ_of_lt h1, h2⟩
theorem thShape_err {f : FuncD} {t : Th} {m : BL} {e : Tr} (h : thShape f t m = .error e) : (10 ≤ e.1 ∧ e.1 ≤ 14) ∧ e.2.1 = t.blk ∧ e.2.2 = t.place := by
 unfold thShape at h
 split at h
 ·cases h; simp
 ·split at h
  ·cases h; simp
  ·split at h
   ·cases h; simp
   ·unfold afterMk at h
    split at h
    ·rename_i e' he
     cases h
     obtain ⟨k, s', _, _, h3⟩ := upE_inv he
     unfold mkdStep at h3
     split at h3
     ·cases h3; simp
     ·cases h3
    ·split at h
     ·cases h; simp
     ·cases h
theorem sites_blk {n : Int} (hn : 0 ≤ n) {ts : List Th} (h : ∀ t ∈ ts, t.blk < n) {i : Nat} (hi : i < 8192) : (nth (sitesS ts) i).blk < n := by
 have key : ∀ (ts : List Th), (∀ t ∈ ts, t.blk < n) → ∀ l : List Th, (∀ x ∈ l, x.blk < n) → ∀ x ∈ ts.foldl siteTh l, x.blk < n := by
  intro ts
  induction ts with
  | nil => exact fun _ l hl => hl
  | cons t ts ih =>
   intro ht l hl
   refine ih (fun x hx => ht x (List.mem_cons_of_mem _ hx)) _ ?_
   refine foldl_inv (f := siteStep t) (fun l : List Th => ∀ x ∈ l, x.blk < n) (fun l a hl x hx => ?_) _ _ hl
   unfold siteStep at hx
   split at hx
   ·rcases List.mem_or_eq_of_mem_set hx with h | rfl
    ·exact hl x h
    ·exact ht _ List.mem_cons_self
   ·exact hl x hx
 refine key ts h _ (fun x hx => ?_) _ (nth_mem (by show i < (sitesS ts).length; rw [sitesS_len]; exact hi))
 rw [(List.mem_replicate.1 hx).2]; show (-1 : Int) < n; omega
end Go.Proofs.Ytfelpjfopgiabaa
namespace Go.Proofs.Ytfelpjfopgiabaa
open Go Go.Lft
theorem sl_push {α : Type} [Rep α] {cs : Array Value} {e B : Nat} {ds : List α} {H : View} (hH : H B = some (.cells cs e (0, 0))) (hb : ds.length ≤ 1000) (hel : ∀ i (hi : i < ds.length), Rep.rd H ((cs.toList.drop (i * Rep.n α)).take (Rep.n α)) ds[i]) :
  SlRd H (.slice (some ⟨B, 0, none⟩) ds.length ds.length) ds :=
 ⟨some ⟨B, 0, none⟩, ds.length, rfl, Nat.le_refl _, by omega, .inr ⟨_, rfl, rfl, fun i hi => by
  rw [addr_add_none rfl]
  refine ⟨_, ⟨cs, e, (0, 0), rfl, hH, ?_⟩, hel i hi⟩
  have := Rep.len (hel i hi)
  rw [this]; simp⟩⟩
def oneF (p : Int) (l : List InsD) (t : TermD) : FuncD := ⟨p, [⟨[], l, t⟩]⟩
theorem one_ok {p : Int} {l : List InsD} {t : TermD} {vi vt : Value} {h : Heap} (hp : I64 p) (hi : SlRd (vw h) vi l) (ht : Rd (vw h) vt t) :
  HCalls Try.prog N.law03_one #[.int .i64 p, vi, vt] h (fun u h' => (vw h).le (vw h') ∧ Rd (vw h') u (oneF p l t)) := by
 refine calls_lift (args := [.int .i64 p, vi, vt]) follows F.law03_one E.law03_one (Nat.le_of_ble_eq_true (by kernel_rfl)) fun K hK => ?_
 dsimp only [L.law03_one]
 refine lwp_hide fun z hz => ?_
 simp
 refine do_boxT rfl ht fun h1 _ hle1 hs1 hat => ?_
 obtain ⟨uT, huT, huTr⟩ := hat.loads rfl
 obtain ⟨va', vt', rfl, ta, tt⟩ := term_val huTr
 have tk := (hat.part TermD.p_kind).rng
 have ti : -2147483648 ≤ t.imm.v ∧ t.imm.v ≤ 2147483647 := by
  obtain ⟨cs, _, c1, r1, _, _, c2, r2, _, _, c3, r3, _, _, _, h6⟩ := hat
  exact h6
 have huT : Un.ev (vw h1) (.loads 4) (.pointer (some ⟨h.size, 0, none⟩)) = some (.agg #[.int .i64 t.kind, va', vt', .int .i32 t.imm.v]) := huT
 generalize h.size = B at huT
 refine (Owns.start (h := h1) (View.le_refl (vw h1))).do_zero (k := (5, 0)) (n := 1) (z := .agg #[.int .i64 0, .slice none 0 0]) rfl (by kernel_rfl) rfl (by decide) (by simp [Value.cells, Value.oneCell']) fun h2 q2 w2 => ?_
 generalize h1.size = R at w2
 have huT2 : Un.ev (vw h2) (.loads 4) (.pointer (some ⟨B, 0, none⟩)) = some (.agg #[.int .i64 t.kind, va', vt', .int .i32 t.imm.v]) := by
  have := ev_mono (ρ := fun _ => none) (e := .un (.loads 4) (.con (.pointer (some ⟨B, 0, none⟩)))) q2 (by simpa using huT)
  simpa using this
 rw [hz]; clear hz z
 simp [huT2]
 refine do_build (z := .agg #[.slice none 0 0, .slice none 0 0, .int .i64 0, .slice none 0 0, .slice none 0 0, .int .i32 0]) (places := [(0, 1), (1, 1), (2, 4)]) (vs := [(1, vi), (2, .agg #[.int .i64 t.kind, va', vt', .int .i32 t.imm.v])]) (cs := #[.slice none 0 0, vi, .int .i64 t.kind, va', vt', .int .i32 t.imm.v]) (by kernel_rfl) (by kernel_rfl) (by simp) (by simp [Instr.fill, hi.cells.1]) ?_
 have hblk : Rd (vw h1) (.agg #[.slice none 0 0, vi, .int .i64 t.kind, va', vt', .int .i32 t.imm.v]) (BlkD.mk [] l t) := rd_blkOf nil_sl (hi.mono hle1) ta tt tk ti
 refine do_lits (n := 1) (size := 6) (vs := [(0, .agg #[.slice none 0 0, vi, .int .i64 t.kind, va', vt', .int .i32 t.imm.v])]) (cs := #[.slice none 0 0, vi, .int .i64 t.kind, va', vt', .int .i32 t.imm.v]) El.s_api_Block (by decide) (by simp) (by simp [Instr.fill, Value.cells, Array.range_zero', Array.range_succ]) ?_
 have q3 := push_le h2 (.cells #[.slice none 0 0, vi, .int .i64 t.kind, va', vt', .int .i32 t.imm.v] T.api_Block)
 have b3 : (h2.push (.cells #[.slice none 0 0, vi, .int .i64 t.kind, va', vt', .int .i32 t.imm.v] T.api_Block))[h2.size]? = some (.cells #[.slice none 0 0, vi, .int .i64 t.kind, va', vt', .int .i32 t.imm.v] T.api_Block (0, 0)) := by simp
 generalize h2.push (.cells #[.slice none 0 0, vi, .int .i64 t.kind, va', vt', .int .i32 t.imm.v] T.api_Block) = h3 at q3 b3
 have w3 := w2.ext' q3
 have hsl : SlRd (grow (vw h1) h2 h3) (.slice (some ⟨h2.size, 0, none⟩) 1 1) [BlkD.mk [] l t] := sl_push (ds := [BlkD.mk [] l t]) (by rw [grow_new (Nat.le_refl _)]; exact b3) (by simp) fun i hi2 => by
  have : i = 0 := by simpa using hi2
  subst this
  exact (rd_cells (hblk.mono (le_grow w2.wle))).1
 have w3 := w2.ext q3
 have hle3 := le_grow (h' := h3) w2.wle
 generalize grow (vw h1) h2 h3 = W3 at w3 hsl hle3
 generalize Value.slice (some ⟨h2.size, 0, none⟩) 1 1 = vs at hsl
 refine do_build (z := .agg #[.int .i64 0, .slice none 0 0]) (places := [(0, 1), (1, 1)]) (vs := [(0, .int .i64 p), (1, vs)]) (cs := #[.int .i64 p, vs]) (by kernel_rfl) (by kernel_rfl) (by simp) (by simp [Instr.fill, hsl.cells.1]) ?_
 refine w3.do_field (k := (5, 0)) (e := T.api_Func) (B := R) (D := RawN.mk (n := 1) [.int .i64 0, .slice none 0 0]) Part.all (d := RawN.mk (n := 1) [.int .i64 p, vs]) Own.upd_self (by kernel_rfl) rfl rfl (rd_rawN rfl (by intro c hc; simp only [List.mem_cons, List.not_mem_nil, or_false] at hc; rcases hc with rfl | rfl <;> first | rfl | exact hsl.cells.2)) fun h5 w5 _ => ?_
 have c2 := w5.rawAll (k := (5, 0)) (e := T.api_Func) (B := R) (l := [.int .i64 p, vs]) (n := 1) Own.upd_self
 simp [c2]
 exact hK _ _ ⟨View.le_trans hle1 (View.le_trans hle3 w5.wle), _, rfl, [.int .i64 p], [vs], rfl, ⟨rfl, hp⟩, vs, rfl, hsl.mono w5.wle⟩
end Go.Proofs.Ytfelpjfopgiabaa
namespace Go.Proofs.Ytfelpjfopgiabaa
open Go Go.Lft
def sh1 : FuncD := oneF 0 [⟨1, 0, 0, [], ⟨1⟩⟩] ⟨4, [0], [], ⟨0⟩⟩
def sh2 : FuncD := oneF 0 [] ⟨4, [0], [], ⟨0⟩⟩
def sh3 : FuncD := oneF 1 [⟨2, 1, 0, [0, 2], ⟨0⟩⟩, ⟨1, 2, 0, [], ⟨0⟩⟩] ⟨5, [], [], ⟨0⟩⟩
def sh4 : FuncD := oneF 1 [⟨1, 1, 0, [], ⟨0⟩⟩, ⟨2, 2, 0, [0, 1], ⟨0⟩⟩] ⟨4, [2], [], ⟨0⟩⟩
theorem told1 : toldS sh1 = (0, 0, 0) := by kernel_rfl
theorem told2 : toldS sh2 = (13, 0, 0) := by kernel_rfl
theorem told3 : toldS sh3 = (13, 0, 0) := by kernel_rfl
theorem told4 : toldS sh4 = (0, 0, 0) := by kernel_rfl
theorem told5 : toldS ⟨0, []⟩ = (14, 0, 0) := by kernel_rfl
theorem top4 : topS sh4 = 3 := by kernel_rfl
theorem used4 : usedS sh4 = [1, 1, 1] := by kernel_rfl
theorem fold41 : foldableS sh4 1 = true := by kernel_rfl
theorem fold42 : foldableS sh4 2 = true := by kernel_rfl
theorem fold40 : foldableS sh4 0 = false := by kernel_rfl
theorem sm_one {p : Int} {l : List InsD} {t : TermD} (h1 : l.length ≤ 10000) (h2 : t.args.length ≤ 10000) (h3 : t.to.length ≤ 10000) (h4 : ∀ x ∈ l, x.args.length ≤ 10000) : SmF (oneF p l t) where
 len := by simp [oneF]
 blk := fun i hi => by
  have : i = 0 := by simpa [oneF] using hi
  subst this
  exact ⟨by simp [oneF, nth], by simpa [oneF, nth] using h1, by simpa [oneF, nth] using h2, by simpa [oneF, nth] using h3, fun i hi => by simp [oneF, nth] at hi, fun i hi => h4 _ (nth_mem hi)⟩
end Go.Proofs.Ytfelpjfopgiabaa
namespace Go.Proofs.Ytfelpjfopgiabaa
open Go Go.Lft
theorem rd_term {H : View} {va vt : Value} {a t : List Int} {kd : Int} {imm : I32} (h3 : SlRd H va a) (h4 : SlRd H vt t) (h5 : I64 kd) (h6 : -2147483648 ≤ imm.v ∧ imm.v ≤ 2147483647) : Rd H (.agg #[.int .i64 kd, va, vt, .int .i32 imm.v]) (TermD.mk kd a t imm) :=
 ⟨_, rfl, [.int .i64 kd], _, rfl, ⟨rfl, h5⟩, [va], _, rfl, ⟨va, rfl, h3⟩, [vt], _, rfl, ⟨vt, rfl, h4⟩, rfl, h6⟩
theorem shown_ok {h : Heap} : HCalls Try.prog N.law03_shown #[] h (fun u h' => u = .bool true ∧ (vw h).le (vw h')) := by
 refine calls_lift (args := []) follows F.law03_shown E.law03_shown (Nat.le_of_ble_eq_true (by kernel_rfl)) fun K hK => ?_
 dsimp only [L.law03_shown]
 refine lwp_hide fun z hz => ?_
 simp
 rw [hz]; clear hz z
 refine lwp_hide fun z hz => ?_
 simp
 refine do_build (z := .agg #[.int .i64 0, .int .i64 0, .int .i64 0, .slice none 0 0, .int .i32 0]) (places := [(0, 1), (1, 1), (2, 1), (3, 1), (4, 1)]) (vs := [(0, .int .i64 1), (4, .int .i32 1)]) (cs := #[.int .i64 1, .int .i64 0, .int .i64 0, .slice none 0 0, .int .i32 1]) (by kernel_rfl) (by kernel_rfl) (by simp) (by rfl) ?_
 refine do_lits (n := 1) (size := 5) (vs := [(0, .agg #[.int .i64 1, .int .i64 0, .int .i64 0, .slice none 0 0, .int .i32 1])]) (cs := #[.int .i64 1, .int .i64 0, .int .i64 0, .slice none 0 0, .int .i32 1]) El.s_api_Ins (by decide) (by simp) (by simp [Instr.fill, Value.cells, Array.range_zero', Array.range_succ]) ?_
 have q1 := push_le h (.cells #[.int .i64 1, .int .i64 0, .int .i64 0, .slice none 0 0, .int .i32 1] T.api_Ins)
 have b1 : (h.push (.cells #[.int .i64 1, .int .i64 0, .int .i64 0, .slice none 0 0, .int .i32 1] T.api_Ins))[h.size]? = some (.cells #[.int .i64 1, .int .i64 0, .int .i64 0, .slice none 0 0, .int .i32 1] T.api_Ins (0, 0)) := by simp
 generalize h.push (.cells #[.int .i64 1, .int .i64 0, .int .i64 0, .slice none 0 0, .int .i32 1] T.api_Ins) = h1 at q1 b1
 have s1 : SlRd (vw h1) (.slice (some ⟨h.size, 0, none⟩) 1 1) [InsD.mk 1 0 0 [] ⟨1⟩] := sl_push (ds := [InsD.mk 1 0 0 [] ⟨1⟩]) b1 (by simp) fun i hi2 => by
  have : i = 0 := by simpa using hi2
  subst this
  exact (rd_cells (rd_insOf (H := vw h1) (imm := ⟨1⟩) ⟨⟨by decide, by decide⟩, ⟨by decide, by decide⟩, ⟨by decide, by decide⟩, by decide, by decide⟩ nil_sl)).1
 generalize Value.slice (some ⟨h.size, 0, none⟩) 1 1 = v1 at s1
 refine do_litN (α := Int) (X := nothing) (ds := [0]) (vs := [.int .i64 0]) rfl El.s_int (by simp) ⟨rd_i (by decide) (by decide), trivial⟩ nothing_le rfl (by omega) fun v2 h2 q2 _ s2 _ => ?_
 have s2 := s2 (vw h2) nothing_le rfl
 refine do_build (z := .agg #[.int .i64 0, .slice none 0 0, .slice none 0 0, .int .i32 0]) (places := [(0, 1), (1, 1), (2, 1), (3, 1)]) (vs := [(0, .int .i64 4), (1, v2)]) (cs := #[.int .i64 4, v2, .slice none 0 0, .int .i32 0]) (by kernel_rfl) (by kernel_rfl) (by simp) (by simp [Instr.fill, s2.cells.1]) ?_
 refine call_to (by kernel_rfl) (one_ok (p := 0) (l := [⟨1, 0, 0, [], ⟨1⟩⟩]) (t := ⟨4, [0], [], ⟨0⟩⟩) ⟨by decide, by decide⟩ (s1.mono q2) (rd_term s2 nil_sl ⟨by decide, by decide⟩ ⟨by decide, by decide⟩)) ?_
 rintro v3 h3 ⟨q3, r3⟩
 refine call_to (by kernel_rfl) (func_ok r3 (sm_one (by decide) (by decide) (by decide) (by decide))) ?_
 rintro _ h4 ⟨rfl, q4⟩
 rw [show toldS (oneF 0 [⟨1, 0, 0, [], ⟨1⟩⟩] ⟨4, [0], [], ⟨0⟩⟩) = (0, 0, 0) from told1]
 have k4 : (vw h).le (vw h4) := View.le_trans q1 (View.le_trans q2 (View.le_trans q3 q4))
 clear s1 s2 r3 q1 q2 q3 q4 b1
 simp
 rw [hz]; clear hz z
 refine lwp_hide fun z hz => ?_
 simp
 refine do_litN (α := Int) (X := nothing) (ds := [0]) (vs := [.int .i64 0]) rfl El.s_int (by simp) ⟨rd_i (by decide) (by decide), trivial⟩ nothing_le rfl (by omega) fun v2 h5 q5 _ s2 _ => ?_
 have s2 := s2 (vw h5) nothing_le rfl
 refine do_build (z := .agg #[.int .i64 0, .slice none 0 0, .slice none 0 0, .int .i32 0]) (places := [(0, 1), (1, 1), (2, 1), (3, 1)]) (vs := [(0, .int .i64 4), (1, v2)]) (cs := #[.int .i64 4, v2, .slice none 0 0, .int .i32 0]) (by kernel_rfl) (by kernel_rfl) (by simp) (by simp [Instr.fill, s2.cells.1]) ?_
 refine call_to (by kernel_rfl) (one_ok (p := 0) (l := []) (t := ⟨4, [0], [], ⟨0⟩⟩) ⟨by decide, by decide⟩ nil_sl (rd_term s2 nil_sl ⟨by decide, by decide⟩ ⟨by decide, by decide⟩)) ?_
 rintro v3 h6 ⟨q6, r3⟩
 refine call_to (by kernel_rfl) (func_ok r3 (sm_one (by decide) (by decide) (by decide) (by decide))) ?_
 rintro _ h7 ⟨rfl, q7⟩
 rw [show toldS (oneF 0 [] ⟨4, [0], [], ⟨0⟩⟩) = (13, 0, 0) from told2]
 have k7 : (vw h).le (vw h7) := View.le_trans k4 (View.le_trans q5 (View.le_trans q6 q7))
 clear s2 r3 q5 q6 q7 k4
 simp
 rw [hz]; clear hz z
 refine lwp_hide fun z hz => ?_
 simp
 refine do_litN (α := Int) (X := nothing) (ds := [0, 2]) (vs := [.int .i64 0, .int .i64 2]) rfl El.s_int (by simp) ⟨rd_i (by decide) (by decide), rd_i (by decide) (by decide), trivial⟩ nothing_le rfl (by omega) fun v2 h8 q8 _ s2 _ => ?_
 have s2 := s2 (vw h8) nothing_le rfl
 refine do_build (z := .agg #[.int .i64 0, .int .i64 0, .int .i64 0, .slice none 0 0, .int .i32 0]) (places := [(0, 1), (1, 1), (2, 1), (3, 1), (4, 1)]) (vs := [(0, .int .i64 2), (1, .int .i64 1), (3, v2)]) (cs := #[.int .i64 2, .int .i64 1, .int .i64 0, v2, .int .i32 0]) (by kernel_rfl) (by kernel_rfl) (by simp) (by simp [Instr.fill, s2.cells.1]) ?_
 refine do_build (z := .agg #[.int .i64 0, .int .i64 0, .int .i64 0, .slice none 0 0, .int .i32 0]) (places := [(0, 1), (1, 1), (2, 1), (3, 1), (4, 1)]) (vs := [(0, .int .i64 1), (1, .int .i64 2)]) (cs := #[.int .i64 1, .int .i64 2, .int .i64 0, .slice none 0 0, .int .i32 0]) (by kernel_rfl) (by kernel_rfl) (by simp) (by rfl) ?_
 refine do_lits (n := 2) (size := 5) (vs := [(0, .agg #[.int .i64 2, .int .i64 1, .int .i64 0, v2, .int .i32 0]), (1, .agg #[.int .i64 1, .int .i64 2, .int .i64 0, .slice none 0 0, .int .i32 0])]) (cs := #[.int .i64 2, .int .i64 1, .int .i64 0, v2, .int .i32 0, .int .i64 1, .int .i64 2, .int .i64 0, .slice none 0 0, .int .i32 0]) El.s_api_Ins (by decide) (by simp) (by simp [Instr.fill, Value.cells, Array.range_zero', Array.range_succ]) ?_
 have q9 := push_le h8 (.cells #[.int .i64 2, .int .i64 1, .int .i64 0, v2, .int .i32 0, .int .i64 1, .int .i64 2, .int .i64 0, .slice none 0 0, .int .i32 0] T.api_Ins)
 have b9 : (h8.push (.cells #[.int .i64 2, .int .i64 1, .int .i64 0, v2, .int .i32 0, .int .i64 1, .int .i64 2, .int .i64 0, .slice none 0 0, .int .i32 0] T.api_Ins))[h8.size]? = some (.cells #[.int .i64 2, .int .i64 1, .int .i64 0, v2, .int .i32 0, .int .i64 1, .int .i64 2, .int .i64 0, .slice none 0 0, .int .i32 0] T.api_Ins (0, 0)) := by simp
 generalize h8.push (.cells #[.int .i64 2, .int .i64 1, .int .i64 0, v2, .int .i32 0, .int .i64 1, .int .i64 2, .int .i64 0, .slice none 0 0, .int .i32 0] T.api_Ins) = h9 at q9 b9
 have s9 : SlRd (vw h9) (.slice (some ⟨h8.size, 0, none⟩) 2 2) [InsD.mk 2 1 0 [0, 2] ⟨0⟩, InsD.mk 1 2 0 [] ⟨0⟩] := sl_push (ds := [InsD.mk 2 1 0 [0, 2] ⟨0⟩, InsD.mk 1 2 0 [] ⟨0⟩]) b9 (by simp) fun i hi2 => by
  have : i = 0 ∨ i = 1 := by simp at hi2; omega
  rcases this with rfl | rfl
  ·exact (rd_cells (rd_insOf (H := vw h9) (imm := ⟨0⟩) ⟨⟨by decide, by decide⟩, ⟨by decide, by decide⟩, ⟨by decide, by decide⟩, by decide, by decide⟩ (s2.mono q9))).1
  ·exact (rd_cells (rd_insOf (H := vw h9) (imm := ⟨0⟩) ⟨⟨by decide, by decide⟩, ⟨by decide, by decide⟩, ⟨by decide, by decide⟩, by decide, by decide⟩ nil_sl)).1
 generalize Value.slice (some ⟨h8.size, 0, none⟩) 2 2 = v4 at s9
 refine do_build (z := .agg #[.int .i64 0, .slice none 0 0, .slice none 0 0, .int .i32 0]) (places := [(0, 1), (1, 1), (2, 1), (3, 1)]) (vs := [(0, .int .i64 5)]) (cs := #[.int .i64 5, .slice none 0 0, .slice none 0 0, .int .i32 0]) (by kernel_rfl) (by kernel_rfl) (by simp) (by rfl) ?_
 refine call_to (by kernel_rfl) (one_ok (p := 1) (l := [⟨2, 1, 0, [0, 2], ⟨0⟩⟩, ⟨1, 2, 0, [], ⟨0⟩⟩]) (t := ⟨5, [], [], ⟨0⟩⟩) ⟨by decide, by decide⟩ s9 (rd_term nil_sl nil_sl ⟨by decide, by decide⟩ ⟨by decide, by decide⟩)) ?_
 rintro v3 h10 ⟨q10, r3⟩
 refine call_to (by kernel_rfl) (func_ok r3 (sm_one (by decide) (by decide) (by decide) (by decide))) ?_
 rintro _ h11 ⟨rfl, q11⟩
 rw [show toldS (oneF 1 [⟨2, 1, 0, [0, 2], ⟨0⟩⟩, ⟨1, 2, 0, [], ⟨0⟩⟩] ⟨5, [], [], ⟨0⟩⟩) = (13, 0, 0) from told3]
 have k11 : (vw h).le (vw h11) := View.le_trans k7 (View.le_trans q8 (View.le_trans q9 (View.le_trans q10 q11)))
 clear s2 r3 s9 b9 q8 q9 q10 q11 k7
 simp
 rw [hz]; clear hz z
 refine lwp_hide fun z hz => ?_
 simp
 refine do_build (z := .agg #[.int .i64 0, .int .i64 0, .int .i64 0, .slice none 0 0, .int .i32 0]) (places := [(0, 1), (1, 1), (2, 1), (3, 1), (4, 1)]) (vs := [(0, .int .i64 1), (1, .int .i64 1)]) (cs := #[.int .i64 1, .int .i64 1, .int .i64 0, .slice none 0 0, .int .i32 0]) (by kernel_rfl) (by kernel_rfl) (by simp) (by rfl) ?_
 refine do_litN (α := Int) (X := nothing) (ds := [0, 1]) (vs := [.int .i64 0, .int .i64 1]) rfl El.s_int (by simp) ⟨rd_i (by decide) (by decide), rd_i (by decide) (by decide), trivial⟩ nothing_le rfl (by omega) fun v2 h8 q8 _ s2 _ => ?_
 have s2 := s2 (vw h8) nothing_le rfl
 refine do_build (z := .agg #[.int .i64 0, .int .i64 0, .int .i64 0, .slice none 0 0, .int .i32 0]) (places := [(0, 1), (1, 1), (2, 1), (3, 1), (4, 1)]) (vs := [(0, .int .i64 2), (1, .int .i64 2), (3, v2)]) (cs := #[.int .i64 2, .int .i64 2, .int .i64 0, v2, .int .i32 0]) (by kernel_rfl) (by kernel_rfl) (by simp) (by simp [Instr.fill, s2.cells.1]) ?_
 refine do_lits (n := 2) (size := 5) (vs := [(0, .agg #[.int .i64 1, .int .i64 1, .int .i64 0, .slice none 0 0, .int .i32 0]), (1, .agg #[.int .i64 2, .int .i64 2, .int .i64 0, v2, .int .i32 0])]) (cs := #[.int .i64 1, .int .i64 1, .int .i64 0, .slice none 0 0, .int .i32 0, .int .i64 2, .int .i64 2, .int .i64 0, v2, .int .i32 0]) El.s_api_Ins (by decide) (by simp) (by simp [Instr.fill, Value.cells, Array.range_zero', Array.range_succ]) ?_
 have q9 := push_le h8 (.cells #[.int .i64 1, .int .i64 1, .int .i64 0, .slice none 0 0, .int .i32 0, .int .i64 2, .int .i64 2, .int .i64 0, v2, .int .i32 0] T.api_Ins)
 have b9 : (h8.push (.cells #[.int .i64 1, .int .i64 1, .int .i64 0, .slice none 0 0, .int .i32 0, .int .i64 2, .int .i64 2, .int .i64 0, v2, .int .i32 0] T.api_Ins))[h8.size]? = some (.cells #[.int .i64 1, .int .i64 1, .int .i64 0, .slice none 0 0, .int .i32 0, .int .i64 2, .int .i64 2, .int .i64 0, v2, .int .i32 0] T.api_Ins (0, 0)) := by simp
 generalize h8.push (.cells #[.int .i64 1, .int .i64 1, .int .i64 0, .slice none 0 0, .int .i32 0, .int .i64 2, .int .i64 2, .int .i64 0, v2, .int .i32 0] T.api_Ins) = h9 at q9 b9
 have s9 : SlRd (vw h9) (.slice (some ⟨h8.size, 0, none⟩) 2 2) [InsD.mk 1 1 0 [] ⟨0⟩, InsD.mk 2 2 0 [0, 1] ⟨0⟩] := sl_push (ds := [InsD.mk 1 1 0 [] ⟨0⟩, InsD.mk 2 2 0 [0, 1] ⟨0⟩]) b9 (by simp) fun i hi2 => by
  have : i = 0 ∨ i = 1 := by simp at hi2; omega
  rcases this with rfl | rfl
  ·exact (rd_cells (rd_insOf (H := vw h9) (imm := ⟨0⟩) ⟨⟨by decide, by decide⟩, ⟨by decide, by decide⟩, ⟨by decide, by decide⟩, by decide, by decide⟩ nil_sl)).1
  ·exact (rd_cells (rd_insOf (H := vw h9) (imm := ⟨0⟩) ⟨⟨by decide, by decide⟩, ⟨by decide, by decide⟩, ⟨by decide, by decide⟩, by decide, by decide⟩ (s2.mono q9))).1
 generalize Value.slice (some ⟨h8.size, 0, none⟩) 2 2 = v4 at s9
 refine do_litN (α := Int) (X := nothing) (ds := [2]) (vs := [.int .i64 2]) rfl El.s_int (by simp) ⟨rd_i (by decide) (by decide), trivial⟩ nothing_le rfl (by omega) fun v5 h10 q10 _ s10 _ => ?_
 have s10 := s10 (vw h10) nothing_le rfl
 refine do_build (z := .agg #[.int .i64 0, .slice none 0 0, .slice none 0 0, .int .i32 0]) (places := [(0, 1), (1, 1), (2, 1), (3, 1)]) (vs := [(0, .int .i64 4), (1, v5)]) (cs := #[.int .i64 4, v5, .slice none 0 0, .int .i32 0]) (by kernel_rfl) (by kernel_rfl) (by simp) (by simp [Instr.fill, s10.cells.1]) ?_
 refine call_to (by kernel_rfl) (one_ok (p := 1) (l := [⟨1, 1, 0, [], ⟨0⟩⟩, ⟨2, 2, 0, [0, 1], ⟨0⟩⟩]) (t := ⟨4, [2], [], ⟨0⟩⟩) ⟨by decide, by decide⟩ (s9.mono q10) (rd_term s10 nil_sl ⟨by decide, by decide⟩ ⟨by decide, by decide⟩)) ?_
 rintro v3 h12 ⟨q12, r3⟩
 have hsm : SmF sh4 := sm_one (by decide) (by decide) (by decide) (by decide)
 have r3 : Rd (vw h12) v3 sh4 := r3
 have k12 : (vw h).le (vw h12) := View.le_trans k11 (View.le_trans q8 (View.le_trans q9 (View.le_trans q10 q12)))
 clear s2 s9 b9 q8 q9 q10 q12 k11
 refine do_newX (X := vw h12) (z := .agg #[.int .i64 0, .slice none 0 0]) (by kernel_rfl) rfl (by kernel_rfl) r3 (fun _ => by simp) (fun _ => by simp) fun h13 hle13 hs13 hat13 => ?_
 have hat13 := hat13 (vw h13) hle13 rfl
 obtain ⟨u, hu, hur⟩ := hat13.loads rfl
 have hu : Un.ev (vw h13) (.loads 2) (.pointer (some ⟨h12.size, 0, none⟩)) = some u := hu
 generalize h12.size = B at hu
 have huv : ∀ {h' : Heap}, (vw h13).le (vw h') → Un.ev (vw h') (.loads 2) (.pointer (some ⟨B, 0, none⟩)) = some u := fun q => by
  have := ev_mono (ρ := fun _ => none) (e := .un (.loads 2) (.con (.pointer (some ⟨B, 0, none⟩)))) q (v := u) (by simpa using hu)
  simpa using this
 have k13 := View.le_trans k12 hle13
 clear r3 hat13 k12 hle13
 rw [hz]; clear hz z
 refine lwp_hide fun z hz => ?_
 refine lwp_cut (fun ρ h14 => ∃ vu tl, (vw h13).le (vw h14) ∧ SlRd (vw h14) vu ([1, 1, 1] : List Int) ∧ ρ = [(0, .bool false), (1, .int .i64 0), (2, .int .i64 0), (3, .int .i64 0), (4, .int .i64 13), (5, .int .i64 0), (6, .int .i64 0), (7, .int .i64 13), (9, .int .i64 0), (10, .pointer (some ⟨B, 0, none⟩)), (11, vu)] ++ tl) ?_ ?_
 ·intro K2 hK2
  simp [hu]
  refine call_to (by kernel_rfl) (uses2_ok hur hsm) ?_
  rintro vu h14 ⟨hle14, su⟩
  have su := su.mono (fresh_le h13 h14)
  rw [used4] at su
  exact hK2 _ _ ⟨vu, _, hle14, su, rfl⟩
 ·rintro ρ h14 ⟨vu, tl, q14, su, rfl⟩
  rw [hz]; clear hz z
  refine lwp_hide fun z hz => ?_
  simp [huv q14, look_setE, look_kill]
  refine call_to (by kernel_rfl) (right_ok (hur.mono q14) hsm) ?_
  rintro _ h15 ⟨rfl, hle15⟩
  have q15 := View.le_trans q14 hle15
  rw [show toldS sh4 = (0, 0, 0) from told4]
  have sl : ∀ {K : View}, Un.ev K .len vu = some (.int .i64 3) := fun {K} => su.len
  have se : ∀ {h' : Heap}, (vw h14).le (vw h') → cellH (vw h') ((slA vu).add 1) = some (.int .i64 1) := fun q => by
   have := (su.mono q).int (i := 1) (View.le_refl _) (by decide)
   simpa [nth] using this
  simp [huv q15, look_setE, look_kill]
  refine call_to (by kernel_rfl) (top_ok (hur.mono q15) hsm) ?_
  rintro _ h16 ⟨rfl, hle16⟩
  have q16 := View.le_trans q15 hle16
  rw [top4]
  have ix : Bn.ev (.idx 1) vu (.int .i64 1) = some (.pointer (some ((slA vu).add 1))) := by
   have := su.idx1 rfl (k := .i64) (i := 1) (by decide) (by decide)
   simpa using this
  simp [huv q16, sl, ix, se (View.le_trans hle15 hle16), look_setE, look_kill]
  refine call_to (by kernel_rfl) (foldable_ok (val := 1) (hur.mono q16) hsm ⟨by decide, by decide⟩) ?_
  rintro _ h17 ⟨rfl, hle17⟩
  have q17 := View.le_trans q16 hle17
  rw [fold41]
  simp [huv q17, look_setE, look_kill]
  refine call_to (by kernel_rfl) (foldable_ok (val := 2) (hur.mono q17) hsm ⟨by decide, by decide⟩) ?_
  rintro _ h18 ⟨rfl, hle18⟩
  have q18 := View.le_trans q17 hle18
  rw [fold42]
  simp [huv q18, look_setE, look_kill]
  refine call_to (by kernel_rfl) (foldable_ok (val := 0) (hur.mono q18) hsm ⟨by decide, by decide⟩) ?_
  rintro _ h19 ⟨rfl, hle19⟩
  have q19 := View.le_trans q18 hle19
  rw [fold40]
  simp [look_setE, look_kill]
  refine do_build (z := .agg #[.int .i64 0, .slice none 0 0]) (places := [(0, 1), (1, 1)]) (vs := []) (cs := #[.int .i64 0, .slice none 0 0]) (by kernel_rfl) (by kernel_rfl) (by simp) (by rfl) ?_
  have r5 : Rd (vw h19) (.agg #[.int .i64 0, .slice none 0 0]) (FuncD.mk 0 []) := ⟨_, rfl, [.int .i64 0], [.slice none 0 0], rfl, ⟨rfl, by decide, by decide⟩, _, rfl, nil_sl⟩
  refine call_to (by kernel_rfl) (right_ok r5 ⟨by simp, fun i hi => by simp at hi⟩) ?_
  rintro _ h20 ⟨rfl, hle20⟩
  rw [told5]
  simp [look_setE, look_kill]
  rw [hz]; clear hz z
  simp [look_setE, look_kill]
  exact hK _ _ ⟨rfl, View.le_trans k13 (View.le_trans q19 hle20)⟩
end Go.Proofs.Ytfelpjfopgiabaa
namespace Go.Proofs.Ytfelpjfopgiabaa
open Go Go.Lft
theorem ofG_len {l : List BlkD} : (ofG l).length = l.length := by simp [ofG]
theorem edge_ofG {l : List BlkD} {a b : Int} : edgeS (ofG l) a b = true ↔ (0 ≤ a ∧ a < l.length ∧ 0 ≤ b ∧ b < l.length) ∧ b ∈ (nth l a.toNat).term.to := by
 rw [edgeS_iff, ofG_len]
 constructor
 ·rintro ⟨h, hm⟩
  rw [ofG, nth_rows (by omega), mem_keptS] at hm
  exact ⟨h, hm.1⟩
 ·rintro ⟨h, hm⟩
  refine ⟨h, ?_⟩
  rw [ofG, nth_rows (by omega), mem_keptS]
  exact ⟨hm, h.2.2.1, h.2.2.2⟩
structure Rb (f : FuncD) (wo : Int) (s : RSt) : Prop where
 ok : ROk f.blocks.length s
 seen : ∀ b : Nat, b < f.blocks.length → (nth s.1 b = true ↔ (b : Int) ∈ s.2)
 sound : ∀ x ∈ s.2, Re (ofG f.blocks) wo x.toNat
theorem rb_in {f : FuncD} {wo a : Int} {k : Nat} {s : RSt} (h : Rb f wo s) (h0 : 0 ≤ a) (h1 : a < f.blocks.length) (ha : Re (ofG f.blocks) wo a.toNat) (hk : k < (nth f.blocks a.toNat).term.to.length) :
  Rb f wo (rchIn wo (nth f.blocks a.toNat).term.to k s) ∧ s.2 <+: (rchIn wo (nth f.blocks a.toNat).term.to k s).2 ∧
   (0 ≤ nth (nth f.blocks a.toNat).term.to k → nth (nth f.blocks a.toNat).term.to k < f.blocks.length → nth (nth f.blocks a.toNat).term.to k ≠ wo → nth (nth f.blocks a.toNat).term.to k ∈ (rchIn wo (nth f.blocks a.toNat).term.to k s).2) := by
 have hok := rchIn_ok (wo := wo) (to := (nth f.blocks a.toNat).term.to) (k := k) h.ok
 have hm := nth_mem hk
 unfold rchIn at hok ⊢
 generalize hto : (nth f.blocks a.toNat).term.to = to at hm hok ⊢
 split
 ·rename_i hc
  rw [if_pos hc] at hok
  obtain ⟨⟨c1, c2⟩, c3, c4⟩ := hc
  rw [h.ok.len] at c2
  have hb : ((nth to k).toNat : Int) = nth to k := Int.toNat_of_nonneg c1
  refine ⟨⟨hok, fun b hb => ?_, fun x hx => ?_⟩, List.prefix_append _ _, fun _ _ _ => List.mem_append_right _ (List.mem_singleton.2 rfl)⟩
  ·rw [List.mem_append, List.mem_singleton]
   by_cases he : b = (nth to k).toNat
   ·subst he
    rw [nth_set (by rw [h.ok.len]; omega), if_pos rfl]
    exact ⟨fun _ => .inr (Int.toNat_of_nonneg c1), fun _ => rfl⟩
   ·rw [nth_set (by rw [h.ok.len]; exact hb), if_neg (fun e => he e.symm), h.seen b hb]
    exact ⟨.inl, fun e => e.resolve_right (by omega)⟩
  ·rcases List.mem_append.1 hx with hx | hx
   ·exact h.sound x hx
   ·rw [List.mem_singleton.1 hx]
    refine .step ha ?_ (by rw [hb]; exact c4)
    rw [edge_ofG, hb]
    exact ⟨⟨by omega, by omega, c1, c2⟩, by rw [Int.toNat_natCast, hto]; exact hm⟩
 ·rename_i hc
  rw [if_neg hc] at hok
  refine ⟨h, List.prefix_refl _, fun c1 c2 c4 => ?_⟩
  have hb : ((nth to k).toNat : Int) = nth to k := Int.toNat_of_nonneg c1
  rw [← hb, ← h.seen _ (by omega)]
  cases e : nth s.1 (nth to k).toNat with
  | true => rfl
  | false => exact absurd ⟨⟨c1, by rw [h.ok.len]; exact c2⟩, e, c4⟩ hc
theorem rb_row {f : FuncD} {wo a : Int} {s : RSt} (h : Rb f wo s) (h0 : 0 ≤ a) (h1 : a < f.blocks.length) (ha : Re (ofG f.blocks) wo a.toNat) : ∀ m, m ≤ (nth f.blocks a.toNat).term.to.length →
  Rb f wo (up (rchIn wo (nth f.blocks a.toNat).term.to) m s) ∧ s.2 <+: (up (rchIn wo (nth f.blocks a.toNat).term.to) m s).2 ∧
   ∀ k, k < m → 0 ≤ nth (nth f.blocks a.toNat).term.to k → nth (nth f.blocks a.toNat).term.to k < f.blocks.length → nth (nth f.blocks a.toNat).term.to k ≠ wo → nth (nth f.blocks a.toNat).term.to k ∈ (up (rchIn wo (nth f.blocks a.toNat).term.to) m s).2
 | 0, _ => ⟨h, List.prefix_refl _, fun k hk => by omega⟩
 | m + 1, hm => by
  obtain ⟨i1, i2, i3⟩ := rb_row h h0 h1 ha m (by omega)
  obtain ⟨j1, j2, j3⟩ := rb_in (k := m) i1 h0 h1 ha (by omega)
  rw [up]
  refine ⟨j1, i2.trans j2, fun k hk c1 c2 c3 => ?_⟩
  rcases Nat.lt_or_ge k m with hlt | hge
  ·exact j2.subset (i3 k hlt c1 c2 c3)
  ·have : k = m := by omega
   subst this; exact j3 c1 c2 c3
structure Rc (f : FuncD) (wo : Int) (i : Nat) (s : RSt) : Prop where
 b : Rb f wo s
 root : wo ≠ 0 → 0 < f.blocks.length → (0 : Int) ∈ s.2
 done : ∀ j, j < i → j < s.2.length → ∀ b : Nat, edgeS (ofG f.blocks) (nth s.2 j) b = true → (b : Int) ≠ wo → (b : Int) ∈ s.2
theorem pre_nth {α : Type} [Inhabited α] {a b : List α} (h : a <+: b) {i : Nat} (hi : i < a.length) : nth b i = nth a i := by
 obtain ⟨t, rfl⟩ := h
 rw [nth_eq (by simp; omega), nth_eq hi, List.getElem_append_left hi]
theorem rc_step {f : FuncD} {wo : Int} {i : Nat} {s : RSt} (h : Rc f wo i s) (hi : i < s.2.length) : Rc f wo (i + 1) (rchRow f wo i s) ∧ s.2 <+: (rchRow f wo i s).2 := by
 have hm := nth_mem hi
 obtain ⟨h0, h1⟩ := h.b.ok.rng _ hm
 have hre := h.b.sound _ hm
 obtain ⟨i1, i2, i3⟩ := rb_row h.b h0 h1 hre _ (Nat.le_refl _)
 have he : rchRow f wo i s = up (rchIn wo (nth f.blocks (nth s.2 i).toNat).term.to) (nth f.blocks (nth s.2 i).toNat).term.to.length s := rfl
 rw [← he] at i1 i2 i3
 refine ⟨⟨i1, fun a b => i2.subset (h.root a b), fun j hj hjl b hb hne => ?_⟩, i2⟩
 rcases Nat.lt_or_ge j i with hlt | hge
 ·rw [pre_nth i2 (by omega)] at hb
  exact i2.subset (h.done j hlt (by omega) b hb hne)
 ·have : j = i := by omega
  subst this
  rw [pre_nth i2 hi, edge_ofG] at hb
  obtain ⟨⟨_, _, q1, q2⟩, hmem⟩ := hb
  obtain ⟨k, hk, e⟩ := List.getElem_of_mem hmem
  rw [← nth_eq hk] at e
  rw [← e]
  exact i3 k hk (by omega) (by omega) (by rw [e]; exact hne)
theorem rc_all {f : FuncD} {wo : Int} : ∀ {m i : Nat} {s : RSt}, Rc f wo i s → f.blocks.length < i + m → ∃ k, Rc f wo k (rchS f wo m i s) ∧ (rchS f wo m i s).2.length ≤ k
 | 0, i, s, h, hm => ⟨i, h, by have := h.b.ok.cnt; rw [rchS]; omega⟩
 | m + 1, i, s, h, hm => by
  rw [rchS]
  split
  ·rename_i hi
   exact rc_all (rc_step h hi).1 (by omega)
  ·rename_i hi
   exact ⟨i, h, by omega⟩
theorem rc_zero {f : FuncD} {wo : Int} : Rc f wo 0 (rch0 f wo) := by
 have hok := rch0_ok (f := f) (wo := wo)
 unfold rch0 at hok ⊢
 split
 ·rename_i hc
  rw [if_pos hc] at hok
  refine ⟨⟨hok, fun b hb => ?_, fun x hx => ?_⟩, fun _ _ => List.mem_singleton.2 rfl, fun j hj => by omega⟩
  ·rw [nth_set (by simpa using hb), List.mem_singleton]
   split
   ·rename_i e; subst e; simp
   ·rename_i e
    rw [nth_eq (by simpa using hb)]
    simp; omega
  ·rw [List.mem_singleton.1 hx]
   exact .root (by rw [ofG_len]; exact hc.2) hc.1
 ·rename_i hc
  rw [if_neg hc] at hok
  refine ⟨⟨hok, fun b hb => ?_, fun x hx => by cases hx⟩, fun a b => absurd ⟨a, b⟩ hc, fun j hj => by omega⟩
  rw [nth_eq (by simpa using hb)]
  simp
theorem reached_spec {f : FuncD} {wo : Int} {b : Nat} (hb : b < f.blocks.length) : nth (reachedS f wo) b = true ↔ Re (ofG f.blocks) wo b := by
 obtain ⟨k, h, hk⟩ := rc_all (rc_zero (f := f) (wo := wo)) (m := f.blocks.length + 1) (by omega)
 unfold reachedS
 generalize rchS f wo (f.blocks.length + 1) 0 (rch0 f wo) = s at h hk
 rw [h.b.seen b hb]
 constructor
 ·exact fun hm => by simpa using h.b.sound _ hm
 ·intro hr
  induction hr with
  | root h1 h2 => exact h.root h2 (by rw [← ofG_len]; exact h1)
  | @step a b ha he hne ih =>
   have hm := ih (by have := (edge_ofG.1 he).1; omega)
   obtain ⟨j, hj, e⟩ := List.getElem_of_mem hm
   rw [← nth_eq hj] at e
   exact h.done j (by omega) hj b (by rw [e]; exact he) hne
end Go.Proofs.Ytfelpjfopgiabaa
namespace Go.Proofs.Ytfelpjfopgiabaa
open Go Go.Lft
theorem foldlM_app {σ α ε : Type} {f : σ → α → Except ε σ} {a b : List α} {s : σ} : (a ++ b).foldlM f s = (match a.foldlM f s with | .ok s' => b.foldlM f s' | .error e => .error e) := by
 rw [List.foldlM_append]
 cases a.foldlM f s <;> rfl
theorem foldlM_one {σ α ε : Type} {f : σ → α → Except ε σ} {a : α} {s : σ} : [a].foldlM f s = f s a := by
 rw [List.foldlM_cons]
 cases f s a <;> rfl
theorem upE_fold {σ α ε : Type} {g : Nat → σ → Except ε σ} {f : σ → α → Except ε σ} {x : Nat → α} {s : σ} : ∀ {n : Nat}, (∀ i s, i < n → g i s = f s (x i)) → upE g n s = (rows x n).foldlM f s
 | 0, _ => rfl
 | n + 1, h => by
  have ih := upE_fold (n := n) (s := s) fun i s hi => h i s (by omega)
  rw [rows_succ, foldlM_app, ← ih]
  simp only [upE]
  cases upE g n s with
  | ok s' =>
   show g n s' = [x n].foldlM f s'
   rw [foldlM_one]; exact h n s' (by omega)
  | error e => rfl
theorem upE_list {σ α ε : Type} [Inhabited α] {f : σ → α → Except ε σ} {l : List α} {s : σ} : upE (fun i s => f s (nth l i)) l.length s = l.foldlM f s := by
 rw [upE_fold (f := f) (x := nth l) fun _ _ _ => rfl]
 congr 1
 refine List.ext_getElem (by simp) fun i h1 h2 => ?_
 simp [rows, nth_eq h2]
def pStep (f : FuncD) (m : MW) (t : Th) : Except Tr MW :=
 if t.place < 0 then allS f.params t.mks t.blk t.place m
 else if t.place < (blkOf f t).ins.length then insS f.params t.blk (blkOf f t) t.place.toNat m
 else endS f.blocks.length t.blk (blkOf f t) m
theorem pStep_phi {f : FuncD} {b i : Nat} {m : MW} : pStep f m (phiT f b i) = phiS f.params b (nth f.blocks b) i m := by
 unfold pStep
 rw [if_pos (show (phiT f b i).place < 0 by show -1 - (i : Int) < 0; omega)]
 rfl
theorem pStep_ins {f : FuncD} {b i : Nat} {m : MW} (hi : i < (nth f.blocks b).ins.length) : pStep f m (insT f b i) = insS f.params b (nth f.blocks b) i m := by
 unfold pStep
 rw [if_neg (show ¬ (insT f b i).place < 0 by show ¬ (i : Int) < 0; omega), if_pos (show (insT f b i).place < ((blkOf f (insT f b i)).ins.length : Int) by show (i : Int) < ((nth f.blocks b).ins.length : Int); omega)]
 rfl
theorem pStep_end {f : FuncD} {b : Nat} {m : MW} : pStep f m (endT f b) = endS f.blocks.length b (nth f.blocks b) m := by
 unfold pStep
 rw [if_neg (show ¬ (endT f b).place < 0 by show ¬ ((nth f.blocks b).ins.length : Int) < 0; omega), if_neg (show ¬ (endT f b).place < ((blkOf f (endT f b)).ins.length : Int) by show ¬ ((nth f.blocks b).ins.length : Int) < ((nth f.blocks b).ins.length : Int); omega)]
 rfl
theorem blk_fold {f : FuncD} {b : Nat} {m : MW} : blkS f b m = (thB f b).foldlM (pStep f) m := by
 unfold blkS thB
 rw [upE_fold (f := pStep f) (x := phiT f b) (n := (nth f.blocks b).phis.length) fun i s hi => pStep_phi.symm]
 rw [foldlM_app, foldlM_app]
 cases (rows (phiT f b) (nth f.blocks b).phis.length).foldlM (pStep f) m with
 | error e => rfl
 | ok m1 =>
  simp only
  rw [upE_fold (f := pStep f) (x := insT f b) (n := (nth f.blocks b).ins.length) fun i s hi => (pStep_ins hi).symm]
  cases (rows (insT f b) (nth f.blocks b).ins.length).foldlM (pStep f) m1 with
  | error e => rfl
  | ok m2 =>
   simp only
   rw [foldlM_one]
   exact pStep_end.symm
theorem shape_fold {f : FuncD} {m : MW} : shapeS f m = (thingsS f).foldlM (pStep f) m := by
 have key : ∀ n, upE (blkS f) n m = (thTo f n).foldlM (pStep f) m := by
  intro n
  induction n with
  | zero => rfl
  | succ n ih =>
   rw [thTo_succ, foldlM_app, ← ih]
   simp only [upE]
   cases upE (blkS f) n m with
   | error e => rfl
   | ok s => exact blk_fold
 exact key _
theorem refShape_fold {f : FuncD} : refShapeS f = (thingsS f).foldlM (fun m t => thShape f t m) (List.replicate 8192 false) := upE_list (f := fun (m : BL) (t : Th) => thShape f t m)
def Same' (m : MW) (l : BL) : Prop := l.length = 8192 ∧ ∀ n : Int, 0 ≤ n → n < 8192 → (m n).isSome = nth l n.toNat
def Alike {α β : Type} (R : α → β → Prop) : Except Tr α → Except Tr β → Prop
 | .ok a, .ok b => R a b
 | .error e, .error e' => e = e'
 | _, _ => False
theorem alike_fold {α β γ : Type} {R : α → β → Prop} {F : α → γ → Except Tr α} {G : β → γ → Except Tr β} : ∀ {l : List γ}, (∀ t ∈ l, ∀ a b, R a b → Alike R (F a t) (G b t)) → ∀ {a : α} {b : β}, R a b → Alike R (l.foldlM F a) (l.foldlM G b)
 | [], _, a, b, h => h
 | t :: l, hs, a, b, h => by
  rw [List.foldlM_cons, List.foldlM_cons]
  have := hs t List.mem_cons_self a b h
  cases e1 : F a t with
  | error e =>
   cases e2 : G b t with
   | error e' => rw [e1, e2] at this; exact this
   | ok b' => rw [e1, e2] at this; exact this.elim
  | ok a' =>
   cases e2 : G b t with
   | error e' => rw [e1, e2] at this; exact this.elim
   | ok b' =>
    rw [e1, e2] at this
    exact alike_fold (fun t ht => hs t (List.mem_cons_of_mem _ ht)) this
theorem within_eq {f : FuncD} {n : Int} : withinS n f.params 8191 = !numBad f n := by
 rw [Bool.eq_iff_iff]; simp [withinS, numBad]
theorem all_not {α : Type} {p : α → Bool} {l : List α} : l.all (fun n => !p n) = !l.any p := by
 induction l with
 | nil => rfl
 | cons a l ih => simp [ih]
def refOnce (t : Th) (m : BL) (n : Int) : Except Tr BL := if nth m n.toNat then .error (12, t.blk, t.place) else .ok (m.set n.toNat true)
theorem once_same {f : FuncD} {t : Th} {m : MW} {l : BL} (h : Same' m l) (hp : 0 ≤ f.params) (hn : ∀ n ∈ t.mks, numBad f n = false) : Alike Same' (t.mks.foldlM (onceS t.blk t.place) m) (upE (mkdStep t) t.mks.length l) := by
 have e : upE (mkdStep t) t.mks.length l = t.mks.foldlM (refOnce t) l := upE_list (f := refOnce t)
 rw [e]
 refine alike_fold (fun n hnm m l h => ?_) h
 have hb := hn n hnm
 simp only [numBad, Bool.or_eq_false_iff, decide_eq_false_iff_not] at hb
 have hs := h.2 n (by omega) (by omega)
 unfold onceS refOnce
 rw [hs]
 cases hc : nth l n.toNat with
 | true => exact rfl
 | false =>
  refine ⟨by simpa using h.1, fun k h0 h1 => ?_⟩
  rw [nth_set (by rw [h.1]; omega)]
  simp only [putM]
  by_cases hk : k = n
  ·subst hk; simp
  ·rw [if_neg hk, if_neg (by omega)]; exact h.2 k h0 h1
theorem allS_same {f : FuncD} {t : Th} {m : MW} {l : BL} (h : Same' m l) (hp : 0 ≤ f.params) :
  Alike Same' (allS f.params t.mks t.blk t.place m) (if t.mks.any (numBad f) then .error (11, t.blk, t.place) else upE (mkdStep t) t.mks.length l) := by
 unfold allS
 have e : (t.mks.all fun n => withinS n f.params 8191) = !t.mks.any (numBad f) := by
  rw [← all_not]; congr 1; funext n; exact within_eq
 rw [e]
 cases hb : t.mks.any (numBad f) with
 | true => exact rfl
 | false =>
  refine once_same h hp fun n hn => ?_
  rw [Bool.eq_false_iff]
  intro e2
  rw [Bool.eq_false_iff] at hb
  exact hb (List.any_eq_true.2 ⟨n, hn, e2⟩)
theorem op_same {x : InsD} : (withinS x.op 1 18 && withinS x.args.length (operandsS x.op).1 (operandsS x.op).2) = !opBad x := by
 rw [Bool.eq_iff_iff]
 simp only [opBad, withinS, operandsS, countsS, Bool.and_eq_true, Bool.not_eq_true', Bool.or_eq_false_iff, decide_eq_true_eq, decide_eq_false_iff_not, Bool.not_eq_false']
 by_cases h1 : x.op = 1
 ·simp [h1]
 by_cases h2 : x.op = 15
 ·simp [h2]; omega
 by_cases h3 : x.op = 17
 ·simp [h3]
 simp only [h1, h2, h3, if_false, decide_eq_true_eq]; omega
theorem to_same {f : FuncD} {n : Int} : withinS n 1 ((f.blocks.length : Int) - 1) = !toBad f n := by
 rw [Bool.eq_iff_iff]; simp [withinS, toBad]; omega
theorem term_same {t : TermD} : termOk t = termS t := by
 unfold termOk termS shapesS
 by_cases h1 : t.kind = 1
 ·rw [Bool.eq_iff_iff]; simp [putM, h1, withinS]; omega
 by_cases h2 : t.kind = 2
 ·rw [Bool.eq_iff_iff]; simp [putM, h2, withinS]; omega
 by_cases h3 : t.kind = 3
 ·rw [Bool.eq_iff_iff]; simp [putM, h3, withinS]; omega
 by_cases h4 : t.kind = 4
 ·rw [Bool.eq_iff_iff]; simp [putM, h4, withinS]
 by_cases h5 : t.kind = 5
 ·rw [Bool.eq_iff_iff]; simp [putM, h5, withinS]
 simp [putM, h1, h2, h3, h4, h5]
theorem afterMk_not {f : FuncD} {t : Th} {x : Except Tr BL} (h : isLast f t = false) : afterMk f t x = x := by
 unfold afterMk
 cases x with
 | error e => rfl
 | ok m => simp only [h, Bool.false_and]; rfl
theorem step_same {f : FuncD} {t : Th} (ht : t ∈ thingsS f) (hp : 0 ≤ f.params) {m : MW} {l : BL} (h : Same' m l) : Alike Same' (pStep f m t) (thShape f t l) := by
 obtain ⟨b, hb, ht⟩ := mem_thTo.1 ht
 rcases mem_thB.1 ht with ⟨i, hi, rfl⟩ | ⟨i, hi, rfl⟩ | rfl
 ·have e1 : isIns f (phiT f b i) = false := by simp [isIns, phiT]; omega
  have e2 : isLast f (phiT f b i) = false := by
   show decide (-1 - (i : Int) = ((nth f.blocks b).ins.length : Int)) = false
   rw [decide_eq_false_iff_not]; omega
  rw [pStep_phi, thShape, e1, e2, afterMk_not e2]
  exact allS_same (t := phiT f b i) h hp
 ·have e1 : isIns f (insT f b i) = true := by simp [isIns, insT, blkOf]; omega
  have e2 : isLast f (insT f b i) = false := by
   show decide ((i : Int) = ((nth f.blocks b).ins.length : Int)) = false
   rw [decide_eq_false_iff_not]; omega
  have e3 : insOf f (insT f b i) = nth (nth f.blocks b).ins i := by simp [insOf, blkOf, insT]
  rw [pStep_ins hi, thShape, e1, e2, afterMk_not e2, e3, insS, op_same]
  cases hb : opBad (nth (nth f.blocks b).ins i) with
  | true => exact rfl
  | false => exact allS_same (t := insT f b i) h hp
 ·have e1 : isIns f (endT f b) = false := by simp [isIns, endT, blkOf]
  have e2 : isLast f (endT f b) = true := by simp [isLast, endT, blkOf]
  have e3 : blkOf f (endT f b) = nth f.blocks b := by simp [blkOf, endT]
  rw [pStep_end, thShape, e1, e2, e3, endS, term_same]
  cases hb : termS (nth f.blocks b).term with
  | false => exact rfl
  | true =>
   have e4 : ((nth f.blocks b).term.to.all fun t => withinS t 1 ((f.blocks.length : Int) - 1)) = !(nth f.blocks b).term.to.any (toBad f) := by
    rw [← all_not]; congr 1; funext n; exact to_same
   rw [e4]
   show Alike Same' _ (afterMk f (endT f b) (.ok l))
   unfold afterMk
   rw [e2, e3]
   cases (nth f.blocks b).term.to.any (toBad f) with
   | true => exact rfl
   | false => exact h
theorem shape_same {f : FuncD} (hp : 0 ≤ f.params) : Alike Same' (shapeS f (fun _ => none)) (refShapeS f) := by
 rw [shape_fold, refShape_fold]
 refine alike_fold (fun t ht m l h => step_same ht hp h) ⟨List.length_replicate .., fun n h0 h1 => ?_⟩
 rw [nth_eq (by rw [List.length_replicate]; omega), List.getElem_replicate]; rfl
end Go.Proofs.Ytfelpjfopgiabaa
namespace Go.Proofs.Ytfelpjfopgiabaa
open Go Go.Lft
def siteOf (t : Th) : Option (Int × Int) := if t.blk < 0 then none else some (t.blk, t.place)
structure Site (m : MW) (s : List Th) : Prop where
 len : s.length = 8192
 inn : ∀ n : Int, 0 ≤ n → n < 8192 → m n = siteOf (nth s n.toNat)
 out : ∀ n : Int, ¬ (0 ≤ n ∧ n < 8192) → m n = none
theorem put_site {t : Th} (hb : 0 ≤ t.blk) : ∀ {l : List Int} {m : MW} {s : List Th}, Site m s → (∀ n ∈ l, 0 ≤ n ∧ n < 8192) → Site (l.foldl (fun m n => putM m n (t.blk, t.place)) m) (l.foldl (siteStep t) s)
 | [], m, s, h, _ => h
 | n :: l, m, s, h, hl => by
  rw [List.foldl_cons, List.foldl_cons]
  have hn := hl n List.mem_cons_self
  refine put_site hb ⟨siteStep_len.trans h.len, fun k h0 h1 => ?_, fun k hk => ?_⟩ fun k hk => hl k (List.mem_cons_of_mem _ hk)
  ·unfold siteStep putM
   rw [if_pos hn, nth_set (by rw [h.len]; omega)]
   by_cases e : k = n
   ·subst e; rw [if_pos rfl, if_pos rfl]; unfold siteOf; rw [if_neg (by omega)]
   ·rw [if_neg e, if_neg (by omega)]; exact h.inn k h0 h1
  ·unfold putM
   rw [if_neg (by rintro rfl; exact hk hn)]; exact h.out k hk
theorem once_put {b p : Int} : ∀ {l : List Int} {m m' : MW}, l.foldlM (onceS b p) m = .ok m' → m' = l.foldl (fun m n => putM m n (b, p)) m
 | [], m, m', h => by cases h; rfl
 | n :: l, m, m', h => by
  rw [List.foldlM_cons] at h
  cases e : onceS b p m n with
  | error t => rw [e] at h; cases h
  | ok m1 =>
   rw [e] at h
   unfold onceS at e
   split at e
   ·cases e
   ·cases e; exact once_put (l := l) (m := putM m n (b, p)) h
theorem allS_ok2 {ps b p : Int} {l : List Int} {m m' : MW} (h : allS ps l b p m = .ok m') : m' = l.foldl (fun m n => putM m n (b, p)) m ∧ ∀ n ∈ l, ps ≤ n ∧ n ≤ 8191 := by
 unfold allS at h
 split at h
 ·rename_i ha
  refine ⟨once_put h, fun n hn => ?_⟩
  have := List.all_eq_true.1 ha n hn
  simpa [withinS] using this
 ·cases h
theorem pStep_ok {f : FuncD} {t : Th} (ht : t ∈ thingsS f) {m m' : MW} (h : pStep f m t = .ok m') : (m' = t.mks.foldl (fun m n => putM m n (t.blk, t.place)) m ∧ ∀ n ∈ t.mks, f.params ≤ n ∧ n ≤ 8191) ∧ 0 ≤ t.blk := by
 obtain ⟨b, hb, ht⟩ := mem_thTo.1 ht
 rcases mem_thB.1 ht with ⟨i, hi, rfl⟩ | ⟨i, hi, rfl⟩ | rfl
 ·rw [pStep_phi] at h
  exact ⟨allS_ok2 h, by show 0 ≤ (b : Int); omega⟩
 ·rw [pStep_ins hi] at h
  unfold insS at h
  split at h
  ·exact ⟨allS_ok2 h, by show 0 ≤ (b : Int); omega⟩
  ·cases h
 ·rw [pStep_end] at h
  unfold endS at h
  split at h
  ·split at h
   ·cases h; exact ⟨⟨rfl, fun n hn => by cases hn⟩, by show 0 ≤ (b : Int); omega⟩
   ·cases h
  ·cases h
theorem site_fold {f : FuncD} (hp : 0 ≤ f.params) : ∀ {l : List Th}, (∀ t ∈ l, t ∈ thingsS f) → ∀ {m m' : MW} {s : List Th}, Site m s → l.foldlM (pStep f) m = .ok m' → Site m' (l.foldl siteTh s)
 | [], _, m, m', s, h, e => by cases e; exact h
 | t :: l, hl, m, m', s, h, e => by
  rw [List.foldlM_cons] at e
  cases e1 : pStep f m t with
  | error x => rw [e1] at e; cases e
  | ok m1 =>
   rw [e1] at e
   obtain ⟨⟨q1, q2⟩, q3⟩ := pStep_ok (hl t List.mem_cons_self) e1
   rw [List.foldl_cons]
   refine site_fold hp (fun t ht => hl t (List.mem_cons_of_mem _ ht)) (m := m1) ?_ e
   rw [q1]
   exact put_site q3 h fun n hn => by have := q2 n hn; omega
theorem site_same {f : FuncD} (hp : 0 ≤ f.params) {m : MW} (h : shapeS f (fun _ => none) = .ok m) : Site m (madeS f) := by
 rw [shape_fold] at h
 refine site_fold hp (fun t ht => ht) ⟨List.length_replicate .., fun n h0 h1 => ?_, fun n _ => rfl⟩ h
 rw [nth_eq (by rw [List.length_replicate]; omega), List.getElem_replicate]; rfl
theorem use_same {f : FuncD} {m : MW} {made : List Th} {away : List BL} {idom : List Int} {v blk place at_ told : Int} (hp : f.params ≤ 8192) (hs : Site m made) (hd : ∀ a : Int, 0 ≤ a → a < f.blocks.length → dominatesS idom a blk = !nth (nth away a.toNat) blk.toNat)
  (hm : ∀ i, i < 8192 → (nth made i).blk < f.blocks.length) : useS f.params m idom v blk place at_ told = if (!standsS f made away v blk at_) then .error (13, told, place) else .ok () := by
 unfold useS
 by_cases c1 : 0 ≤ v ∧ v < f.params
 ·have e : standsS f made away v blk at_ = true := by unfold standsS; rw [if_pos c1]
  rw [if_pos c1, e]; rfl
 rw [if_neg c1]
 by_cases c2 : v < 0 ∨ 8191 < v
 ·have e : standsS f made away v blk at_ = false := by unfold standsS; rw [if_neg c1, if_pos (.inl c2)]
  rw [hs.out v (by omega), e]; rfl
 have e : standsS f made away v blk at_ = if (nth made v.toNat).blk < 0 then false else if (nth made v.toNat).blk = blk then decide ((nth made v.toNat).place < 0) || decide ((nth made v.toNat).place < at_) else !nth (nth away (nth made v.toNat).blk.toNat) blk.toNat := by
  unfold standsS
  rw [if_neg c1]
  by_cases c3 : (nth made v.toNat).blk < 0
  ·rw [if_pos (.inr c3), if_pos c3]
  ·rw [if_neg (by rintro (q | q) <;> contradiction), if_neg c3]
 rw [hs.inn v (by omega) (by omega), e]
 have hmb := hm v.toNat (by omega)
 generalize nth made v.toNat = t at hmb
 unfold siteOf
 by_cases c3 : t.blk < 0
 ·rw [if_pos c3, if_pos c3]; rfl
 rw [if_neg c3, if_neg c3]
 have e2 : standOk (t.blk, t.place) idom blk at_ = if t.blk = blk then decide (t.place < 0) || decide (t.place < at_) else !nth (nth away t.blk.toNat) blk.toNat := by
  unfold standOk
  by_cases c4 : t.blk = blk
  ·simp only [c4, decide_true, Bool.true_and, Bool.not_true, Bool.false_and, Bool.or_false, if_true]
   rw [Bool.or_comm]
  ·simp only [c4, decide_false, Bool.false_and, Bool.not_false, Bool.true_and, Bool.false_or, if_false]
   exact hd t.blk (by omega) hmb
 simp only [e2]
 generalize (if t.blk = blk then decide (t.place < 0) || decide (t.place < at_) else !nth (nth away t.blk.toNat) blk.toNat) = B
 cases B <;> rfl
theorem uAll_any {α : Type} [Inhabited α] {l : List α} {p : α → Bool} {e : Tr} {g : Nat → Except Tr Unit} (h : ∀ j, j < l.length → g j = if p (nth l j) then .error e else .ok ()) : uAll g l.length = if l.any p then .error e else .ok () := by
 have h1 : uAll g l.length = l.foldlM (fun (_ : Unit) x => if p x then Except.error e else .ok ()) () := by
  unfold uAll
  rw [← upE_list (f := fun (_ : Unit) x => if p x then Except.error e else .ok ())]
  have key : ∀ n, n ≤ l.length → upE (fun i (_ : Unit) => g i) n () = upE (fun i (_ : Unit) => if p (nth l i) then Except.error e else .ok ()) n () := by
   intro n
   induction n with
   | zero => exact fun _ => rfl
   | succ n ih =>
    intro hn
    simp only [upE]
    rw [ih (by omega), h n (by omega)]
  exact key _ (Nat.le_refl _)
 rw [h1]
 clear h1 h
 induction l with
 | nil => rfl
 | cons a l ih =>
  rw [List.foldlM_cons, List.any_cons]
  cases hp : p a with
  | true => rfl
  | false => rw [Bool.false_or]; exact ih
theorem sift_congr {β : Type} {p q : Nat → Bool} {x : Nat → β} {n : Nat} (h : ∀ a, a < n → p a = q a) : sift p x n = sift q x n := by
 rw [sift_eq, sift_eq]
 congr 1
 exact List.filter_congr fun a ha => h a (List.mem_range.1 ha)
theorem preds_same {f : FuncD} {b : Nat} (hb : b < f.blocks.length) : nth (predsG (ofG f.blocks)) b = refPredsS f b := by
 rw [preds_eq, predsS, ofG_len, nth_rows hb, refPredsS]
 refine sift_congr fun a ha => ?_
 rw [Bool.eq_iff_iff, edge_ofG, decide_eq_true_eq, Int.toNat_natCast]
 exact ⟨fun h => h.2, fun h => ⟨by omega, h⟩⟩
theorem fits_same {f : FuncD} {b i : Nat} (hb : b < f.blocks.length) : fitsS (nth (nth f.blocks b).phis i) (nth (predsG (ofG f.blocks)) b) b = sameS f (phiT f b i) := by
 have e1 : phiOf f (phiT f b i) = nth (nth f.blocks b).phis i := by
  unfold phiOf blkOf phiT
  simp only [Int.toNat_natCast]
  rw [show (-1 - (-1 - (i : Int))).toNat = i by omega]
 have e2 : (phiT f b i).blk = (b : Int) := rfl
 unfold fitsS fitsBase sameS
 rw [e1, e2, preds_same hb]
 generalize nth (nth f.blocks b).phis i = x
 generalize refPredsS f b = row
 rw [Bool.eq_iff_iff]
 simp only [Bool.and_eq_true, decide_eq_true_eq, all_iff, fitsP]
 constructor
 ·rintro ⟨⟨h1, h2⟩, h3⟩
  refine ⟨by omega, List.ext_getElem (by simp; omega) fun j hj hj2 => ?_⟩
  have := h3 j (by simpa using hj)
  rw [nth_eq hj2, nth_eq (by simpa using hj)] at this
  simpa using this
 ·rintro ⟨h1, h2⟩
  have hl : x.ins.length = row.length := by rw [← h2, List.length_map]
  refine ⟨⟨by omega, by omega⟩, fun j hj => ?_⟩
  rw [← h2, nth_eq (l := List.map InD.frm x.ins) (by rw [List.length_map]; exact hj), nth_eq hj]
  simp
theorem made_blk {f : FuncD} : ∀ i, i < 8192 → (nth (madeS f) i).blk < f.blocks.length := fun i hi => sites_blk (by omega) (fun t ht => by
 obtain ⟨b, hb, ht⟩ := mem_thTo.1 ht
 rcases mem_thB.1 ht with ⟨i, hi, rfl⟩ | ⟨i, hi, rfl⟩ | rfl
 ·show (b : Int) < _; omega
 ·show (b : Int) < _; omega
 ·show (b : Int) < _; omega) hi
section
variable {f : FuncD} {m : MW} {idom : List Int} (hp0 : f.params ≤ 8192) (hs : Site m (madeS f)) (hd : ∀ a b : Int, 0 ≤ a → a < f.blocks.length → 0 ≤ b → b < f.blocks.length → dominatesS idom a b = !nth (nth (awayS f) a.toNat) b.toNat)
include hp0 hs hd
theorem phi_use {b i : Nat} (hb : b < f.blocks.length) (hi : i < (nth f.blocks b).phis.length) : phiU f m idom (predsG (ofG f.blocks)) b i = thStand f (madeS f) (awayS f) (phiT f b i) := by
 have hf := fits_same (f := f) (i := i) hb
 have e1 : phiOf f (phiT f b i) = nth (nth f.blocks b).phis i := by
  unfold phiOf blkOf phiT
  simp only [Int.toNat_natCast]
  rw [show (-1 - (-1 - (i : Int))).toNat = i by omega]
 have e3 : thStand f (madeS f) (awayS f) (phiT f b i) = if !sameS f (phiT f b i) then .error (16, b, -1 - i) else if (nth (nth f.blocks b).phis i).ins.any (stP f (madeS f) (awayS f)) then .error (13, b, -1 - i) else .ok () := by
  unfold thStand
  rw [if_neg (show ¬ 0 ≤ (phiT f b i).place by show ¬ 0 ≤ -1 - (i : Int); omega), e1]
  rfl
 rw [e3]
 unfold phiU
 simp only [hf]
 cases hss : sameS f (phiT f b i) with
 | false => rfl
 | true =>
  rw [if_pos rfl, if_neg (by simp)]
  refine uAll_any fun j hj => ?_
  have hfr : 0 ≤ (nth (nth (nth f.blocks b).phis i).ins j).frm ∧ (nth (nth (nth f.blocks b).phis i).ins j).frm < f.blocks.length := by
   unfold sameS at hss
   rw [e1] at hss
   simp only [Bool.and_eq_true, decide_eq_true_eq] at hss
   have hm := List.mem_map_of_mem (f := InD.frm) (nth_mem hj)
   rw [hss.2] at hm
   obtain ⟨a, h1, _, h2⟩ := mem_sift.1 hm
   omega
  rw [use_same hp0 hs (fun a h0 h1 => hd a _ h0 h1 hfr.1 hfr.2) made_blk]
  rfl
theorem ins_use {b i : Nat} (hb : b < f.blocks.length) (hi : i < (nth f.blocks b).ins.length) : insU f m idom b i = thStand f (madeS f) (awayS f) (insT f b i) := by
 have e3 : thStand f (madeS f) (awayS f) (insT f b i) = if (nth (nth f.blocks b).ins i).args.any (stT f (madeS f) (awayS f) (insT f b i)) then .error (13, b, i) else .ok () := by
  unfold thStand
  rw [if_pos (show 0 ≤ (insT f b i).place by show 0 ≤ (i : Int); omega)]
  rfl
 rw [e3]
 unfold insU
 refine uAll_any fun j hj => ?_
 rw [use_same hp0 hs (fun a h0 h1 => hd a _ h0 h1 (by omega) (by omega)) made_blk]
 rfl
theorem end_use {b : Nat} (hb : b < f.blocks.length) : endU f m idom b = thStand f (madeS f) (awayS f) (endT f b) := by
 have e3 : thStand f (madeS f) (awayS f) (endT f b) = if (nth f.blocks b).term.args.any (stT f (madeS f) (awayS f) (endT f b)) then .error (13, b, (nth f.blocks b).ins.length) else .ok () := by
  unfold thStand
  rw [if_pos (show 0 ≤ (endT f b).place by show 0 ≤ ((nth f.blocks b).ins.length : Int); omega)]
  rfl
 rw [e3]
 unfold endU
 refine uAll_any fun j hj => ?_
 rw [use_same hp0 hs (fun a h0 h1 => hd a _ h0 h1 (by omega) (by omega)) made_blk]
 rfl
def stF (f : FuncD) (_ : Unit) (t : Th) : Except Tr Unit := thStand f (madeS f) (awayS f) t
theorem blk_use {b : Nat} (hb : b < f.blocks.length) : blkU f m idom (predsG (ofG f.blocks)) b = (thB f b).foldlM (stF f) () := by
 unfold blkU thB uAll
 rw [upE_fold (f := stF f) (x := phiT f b) (n := (nth f.blocks b).phis.length) fun i s hi => phi_use hp0 hs hd hb hi]
 rw [upE_fold (f := stF f) (x := insT f b) (n := (nth f.blocks b).ins.length) fun i s hi => ins_use hp0 hs hd hb hi]
 rw [foldlM_app, foldlM_app, end_use hp0 hs hd hb]
 cases (rows (phiT f b) (nth f.blocks b).phis.length).foldlM (stF f) () with
 | error e => rfl
 | ok m1 =>
  obtain ⟨⟩ := m1
  cases hI : (rows (insT f b) (nth f.blocks b).ins.length).foldlM (stF f) () with
  | error e => simp only [andE, hI]
  | ok m2 =>
   simp only [andE, hI]
   rw [foldlM_one]; rfl
theorem uses_fold : uAll (blkU f m idom (predsG (ofG f.blocks))) f.blocks.length = usesE f := by
 have key : ∀ n, n ≤ f.blocks.length → uAll (blkU f m idom (predsG (ofG f.blocks))) n = (thTo f n).foldlM (stF f) () := by
  intro n
  induction n with
  | zero => exact fun _ => rfl
  | succ n ih =>
   intro hn
   rw [thTo_succ, foldlM_app, ← ih (by omega)]
   have e : uAll (blkU f m idom (predsG (ofG f.blocks))) (n + 1) = match uAll (blkU f m idom (predsG (ofG f.blocks))) n with | .ok _ => blkU f m idom (predsG (ofG f.blocks)) n | .error e => .error e := by
    show upE _ (n + 1) () = _
    simp only [upE]
    unfold uAll
    cases upE (fun i (_ : Unit) => blkU f m idom (predsG (ofG f.blocks)) i) n () <;> rfl
   rw [e]
   cases uAll (blkU f m idom (predsG (ofG f.blocks))) n with
   | error e => rfl
   | ok s => exact blk_use hp0 hs hd (by omega)
 rw [key _ (Nat.le_refl _)]
 exact (upE_list (f := stF f)).symm
end
end Go.Proofs.Ytfelpjfopgiabaa
namespace Go.Proofs.Ytfelpjfopgiabaa
open Go Go.Lft
theorem many_same {f : FuncD} : ∀ k, manyN f k = (cntTo f k : Int)
 | 0 => rfl
 | k + 1 => by
  have ih := many_same (f := f) k
  unfold manyN at ih ⊢
  rw [up, ih, cntTo]; omega
theorem upE_congr {σ ε : Type} {f g : Nat → σ → Except ε σ} {s : σ} : ∀ {n : Nat}, (∀ i s, i < n → f i s = g i s) → upE f n s = upE g n s
 | 0, _ => rfl
 | n + 1, h => by
  simp only [upE]
  rw [upE_congr (n := n) fun i s hi => h i s (by omega)]
  cases upE g n s with
  | ok s' => exact h n s' (by omega)
  | error e => rfl
theorem upE_all {f : Nat → Unit → Except Tr Unit} : ∀ {n : Nat}, upE f n () = .ok () → ∀ i, i < n → f i () = .ok ()
 | n + 1, h, i, hi => by
  simp only [upE] at h
  cases e : upE f n () with
  | error t => rw [e] at h; cases h
  | ok s =>
   rw [e] at h
   rcases Nat.lt_or_ge i n with hlt | hge
   ·exact upE_all e i hlt
   ·have : i = n := by omega
    subst this; exact h
theorem way_same {f : FuncD} (hn : 0 < f.blocks.length) : uAll (reachE f) f.blocks.length = wayE f := by
 unfold uAll wayE
 refine upE_congr fun b s hb => ?_
 unfold reachE
 have e : decide ((b : Int) ∈ gOrderS (ofG f.blocks)) = nth (reachedS f (-1)) b := by
  rw [Bool.eq_iff_iff, decide_eq_true_eq, (order_is (by rw [ofG_len]; exact hn)).mem, reached_spec hb]
 rw [e]
theorem dom_same {f : FuncD} (hn : 0 < f.blocks.length) (hw : wayE f = .ok ()) (a b : Int) (h0 : 0 ≤ a) (h1 : a < f.blocks.length) (h2 : 0 ≤ b) (h3 : b < f.blocks.length) :
  dominatesS (idomL (ofG f.blocks)) a b = !nth (nth (awayS f) a.toNat) b.toNat := by
 have hR : ∀ x : Nat, x < f.blocks.length → Re (ofG f.blocks) (-1) x := fun x hx => by
  have := upE_all hw x hx
  rw [← reached_spec hx]
  split at this
  ·assumption
  ·cases this
 have hg : 0 < (ofG f.blocks).length := by rw [ofG_len]; exact hn
 obtain ⟨fp, C, l, hl, I⟩ := idom_spec hg
 have hi : idomL (ofG f.blocks) = l := by unfold idomL; rw [hl]; rfl
 rw [hi]
 have e := dominates_reached I C (a := a.toNat) (b := b.toNat) (by rw [ofG_len]; omega) (hR _ (by omega))
 rw [Int.toNat_of_nonneg h0, Int.toNat_of_nonneg h2] at e
 rw [e, Bool.eq_iff_iff, domC_iff]
 have ha : nth (awayS f) a.toNat = reachedS f a := by
  unfold awayS
  rw [nth_rows (by omega), Int.toNat_of_nonneg h0]
 rw [ha]
 have hr := reached_spec (f := f) (wo := a) (b := b.toNat) (by omega)
 have haa : ((a.toNat : Nat) : Int) = a := Int.toNat_of_nonneg h0
 rw [haa]
 cases hc : nth (reachedS f a) b.toNat with
 | true =>
  rw [hc] at hr
  simp [hr.1 rfl]
 | false =>
  rw [hc] at hr
  have hnr : ¬ Re (ofG f.blocks) a b.toNat := fun h => by have := hr.2 h; cases this
  simp [hnr, hR _ (show a.toNat < f.blocks.length by omega), hR _ (show b.toNat < f.blocks.length by omega)]
theorem told_same (f : FuncD) : toldS f = refFuncS f := by
 unfold toldS checkS refFuncS
 by_cases c1 : f.params < 0 ∨ 4 < f.params
 ·have : withinS f.params 0 4 = false := by rw [Bool.eq_false_iff]; simp [withinS]; omega
  rw [if_pos this, if_pos c1]
 have hw4 : ¬ withinS f.params 0 4 = false := by simp [withinS]; omega
 rw [if_neg hw4, if_neg c1]
 by_cases c2 : f.blocks.length = 0
 ·rw [if_pos c2, if_pos c2]
 rw [if_neg c2, if_neg c2]
 have hm : manyS f = (cntTo f f.blocks.length : Int) := many_same _
 by_cases c3 : 512 < f.blocks.length ∨ 4096 < cntTo f f.blocks.length
 ·rw [if_pos (by rw [hm]; omega), if_pos c3]
 rw [if_neg (by rw [hm]; omega), if_neg c3]
 have hp : 0 ≤ f.params := by omega
 have hsh := shape_same hp
 cases hS : shapeS f (fun _ => none) with
 | error e =>
  cases hR : refShapeS f with
  | ok l => rw [hS, hR] at hsh; exact hsh.elim
  | error e' =>
   rw [hS, hR] at hsh
   have hee : e = e' := hsh
   subst hee
   obtain ⟨k, s', h1, _, h3⟩ := upE_inv hR
   have := (thShape_err h3).1
   rw [if_pos (by show e.1 ≠ 0; omega)]
   rfl
 | ok m =>
  cases hR : refShapeS f with
  | error e' => rw [hS, hR] at hsh; exact hsh.elim
  | ok l =>
   rw [if_neg (by simp [errOf])]
   have hs := site_same hp hS
   show (match usesS f m (idomL (ofG f.blocks)) with | .ok _ => ((0, 0, 0) : Tr) | .error t => t) = _
   unfold usesS
   rw [way_same (by omega)]
   cases hW : wayE f with
   | error e => rfl
   | ok s =>
    obtain ⟨⟩ := s
    have := uses_fold (f := f) (m := m) (idom := idomL (ofG f.blocks)) (by omega) hs fun a b h0 h1 h2 h3 => dom_same (by omega) hW a b h0 h1 h2 h3
    show (match uAll (blkU f m (idomL (ofG f.blocks)) (predsG (ofG f.blocks))) f.blocks.length with | .ok _ => ((0, 0, 0) : Tr) | .error t => t) = errOf (usesE f)
    rw [this]
    cases usesE f <;> rfl
end Go.Proofs.Ytfelpjfopgiabaa
namespace Go.Proofs.Ytfelpjfopgiabaa
open Go Go.Lft
structure BlkR where
 phis : List PhiD
 ins : Raw
 term : TermD
instance : Rep BlkR := Rep.via fun d => Cat.mk d.phis (Cat.mk d.ins d.term)
instance : Inhabited BlkR := ⟨⟨[], default, default⟩⟩
theorem sl_conv {α β : Type} [Rep α] [Rep β] {H : View} {v : Value} {l : List α} {l2 : List β} (h : SlRd H v l) (hn : Rep.n α = Rep.n β) (hl : l.length = l2.length) (hc : ∀ i (h1 : i < l.length) (h2 : i < l2.length) cs, Rep.rd H cs l[i] → Rep.rd H cs l2[i]) : SlRd H v l2 := by
 obtain ⟨a, cap, rfl, h1, h2, h3⟩ := h
 refine ⟨a, cap, by rw [hl], by omega, by omega, ?_⟩
 rcases h3 with rfl | ⟨ad, rfl, hs, hat⟩
 ·left; exact List.eq_nil_of_length_eq_zero (by rw [← hl]; rfl)
 ·refine .inr ⟨ad, rfl, hs, fun i hi => ?_⟩
  obtain ⟨cs, g1, g2⟩ := hat i (by omega)
  rw [← hn]
  exact ⟨cs, g1, hc i (by omega) hi cs g2⟩
theorem and16 {x : Int} : ∃ r : Nat, Bn.ev (.bits .and) (.int .i64 x) (.int .i64 65535) = some (.int .i64 r) ∧ r < 65536 := by
 refine ⟨(BitVec.ofInt 64 x &&& BitVec.ofInt 64 65535).toNat, ?_, ?_⟩
 ·have hlt : (BitVec.ofInt 64 x &&& BitVec.ofInt 64 65535).toNat ≤ 65535 := by
   rw [BitVec.toNat_and]
   exact Nat.le_trans Nat.and_le_right (by decide)
  have e : Bn.ev (.bits .and) (.int .i64 x) (.int .i64 65535) = some (.int .i64 (IntKind.i64.wrap ((BitVec.ofInt 64 x &&& BitVec.ofInt 64 65535).toNat))) := rfl
  rw [e, wrap64_id (by omega) (by omega)]
 ·rw [BitVec.toNat_and]
  exact Nat.lt_of_le_of_lt Nat.and_le_right (by decide)
end Go.Proofs.Ytfelpjfopgiabaa
namespace Go.Lft
open Go
variable {po : OP}
theorem do_neg {P : Program} {t ty : TypeId} {us : List (Nat × Value)} {h : Heap} {K : Value → Heap → Prop} {x : Operand} {n : Int} (hx : asg us x = .int .i64 n) (hk : K (.int .i64 (IntKind.i64.wrap (-n))) h) : step P (.unOp .neg t x) ty us h K := by
 refine step_of (runs_value fun w hw => ⟨.int .i64 (IntKind.i64.wrap (-n)), w, ?_, Same.refl _, by rw [hw]; exact hk⟩)
 simp only [loudSem, execOp, hx]
 simp [Op.unary, Op.intArith]
end Go.Lft
namespace Go.Proofs.Ytfelpjfopgiabaa
open Go Go.Lft
structure MS where
 at_ : Nat
 ps : Int
 blocks : List BlkD
 next : Int
 live : List Int
def MS.took (m : MS) : MS := { m with at_ := m.at_ + 1 }
def MS.freshed (m : MS) : MS := { m with next := m.next + 1 }
structure BlkM where
 phis : Raw
 ins : Raw
 term : TermD
instance : Rep BlkM := Rep.via fun d => Cat.mk d.phis (Cat.mk d.ins d.term)
instance : Inhabited BlkM := ⟨⟨default, default, default⟩⟩
theorem BlkM.p_phis : Part BlkM Raw 0 BlkM.phis (fun d x => { d with phis := x }) := (Part.fst Part.all).via (fun _ => rfl) fun _ _ => rfl
theorem BlkM.p_ins : Part BlkM Raw 1 BlkM.ins (fun d x => { d with ins := x }) := (Part.snd (Part.fst Part.all)).via (fun _ => rfl) fun _ _ => rfl
theorem BlkM.p_term : Part BlkM TermD 2 BlkM.term (fun d x => { d with term := x }) := (Part.snd (Part.snd Part.all)).via (fun _ => rfl) fun _ _ => rfl
theorem blkM_blk {H : View} {cs : List Value} {d : BlkM} {p : List PhiD} {i : List InsD} (h : Rep.rd H cs d) (hp : SlRd H d.phis.v p) (hi : SlRd H d.ins.v i) : Rep.rd H cs (BlkD.mk p i d.term) := by
 obtain ⟨c1, r1, e1, ⟨h1, _⟩, c2, r2, e2, ⟨h2, _⟩, h3⟩ := h
 have h1 : c1 = [d.phis.v] := h1
 have h2 : c2 = [d.ins.v] := h2
 exact ⟨c1, r1, e1, ⟨d.phis.v, h1, hp⟩, c2, r2, e2, ⟨d.ins.v, h2, hi⟩, h3⟩
structure MkB (M : Nat) (vs : Value) (m : MS) (o : Own) (vb vl : Value) (lb : List BlkM) : Prop where
 box : o (0, 0) = bx T.ref03_maker M (RawN.mk (n := 5) (mkL vs m.at_ m.ps vb m.next vl))
 live : o (0, 1) = it T.int vl m.live
 blk : o (0, 2) = it T.api_Block vb lb
 len : lb.length = m.blocks.length
 term : ∀ i, i < m.blocks.length → (nth lb i).term = (nth m.blocks i).term
 phis : ∀ i, i < m.blocks.length → o (1, i) = it T.api_Phi (nth lb i).phis.v (nth m.blocks i).phis
 ins : ∀ i, i < m.blocks.length → o (2, i) = it T.api_Ins (nth lb i).ins.v (nth m.blocks i).ins
structure Mk (s : List Int) (M : Nat) (vs : Value) (W : View) (h : Heap) (o : Own) (m : MS) : Prop where
 own : Owns W h o
 src : SlRd W vs s
 box : ∃ vb vl lb, MkB M vs m o vb vl lb
def Nx (s : List Int) (M : Nat) (vs : Value) (W : View) (h : Heap) (o : Own) (m : MS) : Prop := ∃ W' o', W.le W' ∧ Mk s M vs W' h o' m ∧ ∀ k : Key, 3 ≤ k.1 → o' k = o k
variable {s : List Int} {M : Nat} {vs : Value} {W : View} {h : Heap} {o : Own} {m : MS}
theorem Mk.nx (w : Mk s M vs W h o m) : Nx s M vs W h o m := ⟨W, o, View.le_refl _, w, fun _ _ => rfl⟩
theorem Nx.trans {W' : View} {o' : Own} (hW : W.le W') (ho : ∀ k : Key, 3 ≤ k.1 → o' k = o k) (n : Nx s M vs W' h o' m) : Nx s M vs W h o m := by
 obtain ⟨W2, o2, h1, h2, h3⟩ := n
 exact ⟨W2, o2, View.le_trans hW h1, h2, fun k hk => (h3 k hk).trans (ho k hk)⟩
theorem MkB.at {vb vl : Value} {lb : List BlkM} (b : MkB M vs m o vb vl lb) {at_ : Nat} {next : Int} : MkB M vs { m with at_ := at_, next := next } (o.upd (0, 0) (bx T.ref03_maker M (RawN.mk (n := 5) (mkL vs at_ m.ps vb next vl)))) vb vl lb :=
 ⟨rfl, b.live, b.blk, b.len, b.term, fun i hi => b.phis i hi, fun i hi => b.ins i hi⟩
theorem upd_frame {k : Key} {i : Option Lft.Item} (hk : k.1 < 3) : ∀ q : Key, 3 ≤ q.1 → o.upd k i q = o q := fun q hq => Own.upd_ne fun e => by rw [e] at hq; omega
theorem upd_upd {k : Key} {i j : Option Lft.Item} (q : Key) : (o.upd k i).upd k j q = o.upd k j q := by
 unfold Own.upd; split <;> rfl
theorem Mk.take (w : Mk s M vs W h o m) {n : Int} (h1 : m.at_ ≤ 1000000000) (hn : 0 < n) (hn2 : n ≤ 1000000000) :
  HCalls Try.prog N.ref03_maker_take #[.pointer (some ⟨M, 0, none⟩), .int .i64 n] h (fun u h' => u = .int .i64 (takeV s m.at_ n) ∧ ∃ o', Mk s M vs W h' o' m.took ∧ ∀ k : Key, 3 ≤ k.1 → o' k = o k) := by
 obtain ⟨vb, vl, lb, b⟩ := w.box
 refine (take_ok w.own b.box w.src h1 hn hn2).mono ?_
 rintro u h' ⟨rfl, w2⟩
 exact ⟨rfl, _, ⟨w2, w.src, vb, vl, lb, b.at⟩, upd_frame (by decide)⟩
theorem Mk.fresh (w : Mk s M vs W h o m) (h0 : 0 ≤ m.next) (h1 : m.next ≤ 1000000000) :
  HCalls Try.prog N.ref03_maker_fresh #[.pointer (some ⟨M, 0, none⟩)] h (fun u h' => u = .int .i64 m.next ∧ ∃ o', Mk s M vs W h' o' m.freshed ∧ ∀ k : Key, 3 ≤ k.1 → o' k = o k) := by
 obtain ⟨vb, vl, lb, b⟩ := w.box
 refine (fresh_ok w.own b.box h0 h1).mono ?_
 rintro u h' ⟨rfl, w2, -⟩
 exact ⟨rfl, _, ⟨w2, w.src, vb, vl, lb, b.at⟩, upd_frame (by decide)⟩
theorem i32_rng {x : Int} : -2147483648 ≤ IntKind.i32.wrap x ∧ IntKind.i32.wrap x ≤ 2147483647 := by
 rw [IntKind.wrap_i32]; omega
def wordV (s : List Int) (m : MS) : Int :=
 if takeV s (m.at_ + 1) 8 = 0 then IntKind.i32.wrap (IntKind.i64.wrap (takeV s m.at_ 1048576 * 4099))
 else if takeV s (m.at_ + 1) 8 = 1 then IntKind.i32.wrap (IntKind.i64.wrap (-takeV s m.at_ 1048576))
 else if takeV s (m.at_ + 1) 8 = 2 then -2147483648
 else if takeV s (m.at_ + 1) 8 = 3 then IntKind.i32.wrap ((takeV s m.at_ 1048576).tmod 70000)
 else IntKind.i32.wrap (IntKind.i64.wrap ((takeV s m.at_ 1048576).tmod 20 - 4))
theorem wordV_rng : -2147483648 ≤ wordV s m ∧ wordV s m ≤ 2147483647 := by
 unfold wordV
 repeat' split
 all_goals first | exact i32_rng | decide
theorem Mk.word (w : Mk s M vs W h o m) (h1 : m.at_ ≤ 999999990) :
  HCalls Try.prog N.ref03_maker_word #[.pointer (some ⟨M, 0, none⟩)] h (fun u h' => u = .int .i32 (wordV s m) ∧ ∃ o', Mk s M vs W h' o' m.took.took ∧ ∀ k : Key, 3 ≤ k.1 → o' k = o k) := by
 refine calls_lift (args := [.pointer (some ⟨M, 0, none⟩)]) follows F.ref03_maker_word E.ref03_maker_word (Nat.le_of_ble_eq_true (by kernel_rfl)) fun K hK => ?_
 dsimp only [L.ref03_maker_word]
 refine lwp_hide fun z hz => ?_
 simp
 rw [hz]; clear hz z
 refine lwp_hide fun z hz => ?_
 simp
 refine call_to (by kernel_rfl) (w.take (by omega) (n := 1048576) (by decide) (by decide)) ?_
 rintro _ h2 ⟨rfl, o2, w2, f2⟩
 rw [hz]; clear hz z
 refine lwp_hide fun z hz => ?_
 simp
 refine call_to (by kernel_rfl) (w2.take (show m.at_ + 1 ≤ _ by omega) (n := 8) (by decide) (by decide)) ?_
 rintro _ h3 ⟨rfl, o3, w3, f3⟩
 have hx : m.took.at_ = m.at_ + 1 := rfl
 rw [hx]
 have hf : ∀ k : Key, 3 ≤ k.1 → o3 k = o k := fun k hk => (f3 k hk).trans (f2 k hk)
 have hwd : wordV s m = _ := wordV.eq_1 s m
 generalize wordV s m = r at hwd hK
 generalize takeV s (m.at_ + 1) 8 = q at hwd
 generalize takeV s m.at_ 1048576 = x at hwd
 by_cases c0 : q = 0
 ·rw [if_pos c0] at hwd
  simp [c0]
  exact hK _ _ ⟨by rw [hwd], _, w3, hf⟩
 rw [if_neg c0] at hwd
 by_cases c1 : q = 1
 ·rw [if_pos c1] at hwd
  simp [c1]
  refine do_neg rfl ?_
  simp
  exact hK _ _ ⟨by rw [hwd], _, w3, hf⟩
 rw [if_neg c1] at hwd
 by_cases c2 : q = 2
 ·rw [if_pos c2] at hwd
  simp [c2]
  exact hK _ _ ⟨by rw [hwd], _, w3, hf⟩
 rw [if_neg c2] at hwd
 by_cases c3 : q = 3
 ·rw [if_pos c3] at hwd
  simp [c3]
  exact hK _ _ ⟨by rw [hwd], _, w3, hf⟩
 rw [if_neg c3] at hwd
 simp [c0, c1, c2, c3]
 rw [hz]; clear hz z
 simp
 exact hK _ _ ⟨by rw [hwd], _, w3, hf⟩
end Go.Proofs.Ytfelpjfopgiabaa
namespace Go.Proofs.Ytfelpjfopgiabaa
open Go Go.Lft
def MS.add (m : MS) (b : Nat) (i : InsD) : MS := { m with blocks := m.blocks.set b { nth m.blocks b with ins := (nth m.blocks b).ins ++ [i] }, live := m.live ++ makesS i }
def conD (v : Int) (n : Int) : InsD := ⟨1, v, 0, [], ⟨n⟩⟩
def MS.constant (m : MS) (b : Nat) (n : Int) : MS := m.freshed.add b (conD m.next n)
def valAt (s : List Int) (m : MS) : Int := nth m.live (if takeV s (m.at_ + 1) 3 = 0 then m.live.length - 1 else (takeV s m.at_ m.live.length).toNat)
def someW (s : List Int) (m : MS) (b : Nat) : MS := (m.took.took).constant b (wordV s m)
def someS (s : List Int) (m : MS) (b : Nat) : Int × MS :=
 if m.live.length = 0 then (m.next, someW s m b)
 else if takeV s (m.at_ + 2) 9 = 0 then (m.next, someW s m.took.took.took b)
 else (valAt s m, m.took.took.took)
def MS.two (m : MS) (b : Nat) (op x y : Int) : MS := m.freshed.add b ⟨op, m.next, 0, [x, y], ⟨0⟩⟩
def binS (s : List Int) (m : MS) (b : Nat) (op : Int) : MS :=
 let r1 := someS s m b
 let r2 := someS s r1.2 b
 if takeV s r2.2.at_ 3 = 0 then
  (r2.2.took.took.constant b (IntKind.i32.wrap (IntKind.i64.wrap (takeV s (r2.2.at_ + 1) 40 - 8)))).two b op r1.1 r2.2.next
 else r2.2.took.two b op r1.1 r2.1
def ltuS (s : List Int) (m : MS) (b : Nat) : MS :=
 let r1 := someS s m b
 let r2 := someS s r1.2 b
 r2.2.two b 13 r1.1 r2.1
def divS (s : List Int) (m : MS) (b : Nat) : MS :=
 let r1 := someS s m b
 let m2 := r1.2.took.constant b (IntKind.i32.wrap (takeV s r1.2.at_ 12))
 if 0 < takeV s m2.at_ 3 then
  (m2.took.took.constant b (IntKind.i32.wrap (1 + IntKind.i32.wrap (takeV s (m2.at_ + 1) 12)))).two b 14 r1.1 m2.next
 else m2.took.two b 14 r1.1 r1.2.next
def mulwS (s : List Int) (m : MS) (b : Nat) : MS :=
 let r1 := someS s m b
 let r2 := someS s r1.2 b
 r2.2.freshed.freshed.add b ⟨18, r2.2.next, r2.2.next + 1, [r1.1, r2.1], ⟨0⟩⟩
def argsS (s : List Int) (b : Nat) : Nat → List Int × MS → List Int × MS := fun _ x => (x.1 ++ [(someS s x.2 b).1], (someS s x.2 b).2)
def callS (s : List Int) (m : MS) (b : Nat) : MS :=
 let r := up (argsS s b) (takeV s m.at_ 5).toNat ([], m.took)
 r.2.freshed.took.add b ⟨17, r.2.next, 0, r.1, ⟨IntKind.i32.wrap (takeV s r.2.at_ 5)⟩⟩
def addrS (s : List Int) (m : MS) (b : Nat) : Int × MS :=
 let m1 := m.took.constant b (IntKind.i32.wrap (takeV s m.at_ 9))
 if takeV s m1.at_ 3 = 0 then
  let r := someS s m1.took b
  let m3 := (r.2.constant b 7).two b 5 r.1 r.2.next
  (m3.next, m3.two b 2 m.next (r.2.next + 1))
 else (m.next, m1.took)
def offS (s : List Int) (m : MS) : Int × MS :=
 if takeV s (m.at_ + 1) 12 = 0 then (wordV s m.took.took, m.took.took.took.took) else (IntKind.i32.wrap (takeV s m.at_ 4), m.took.took)
def memoryS (s : List Int) (m : MS) (b : Nat) (store : Bool) : MS :=
 let a := addrS s m b
 let i := offS s a.2
 if store then (someS s i.2 b).2.add b ⟨16, 0, 0, [a.1, (someS s i.2 b).1], ⟨i.1⟩⟩
 else i.2.freshed.add b ⟨15, i.2.next, 0, [a.1], ⟨i.1⟩⟩
def opsL : List Int := [2, 2, 3, 4, 5, 6, 7, 8, 9, 10, 12, 11]
def instructionS (s : List Int) (b : Nat) (m : MS) : MS :=
 let k := takeV s m.at_ 20
 if k < 12 then binS s m.took b (nth opsL k.toNat)
 else if k = 12 then ltuS s m.took b
 else if k = 13 then divS s m.took b
 else if k < 16 then memoryS s m.took b (decide (k = 15))
 else if k = 16 then callS s m.took b
 else if k = 17 then mulwS s m.took b
 else m.took.took.took.constant b (wordV s m.took)
end Go.Proofs.Ytfelpjfopgiabaa
namespace Go.Proofs.Ytfelpjfopgiabaa
open Go Go.Lft
theorem loads_cells {H : View} {b n : Nat} {cs : List Value} (hc : cellsAt H ⟨b, 0, none⟩ cs) (hl : cs.length = n) : Un.ev H (.loads n) (.pointer (some ⟨b, 0, none⟩)) = some (.agg cs.toArray) := by
 have := cellsFrom_at hc n 0 #[] (by omega)
 simp only [Un.ev, vP, Option.bind_some]
 rw [this]
 simp [← hl]
theorem loads_new {H : View} {b n : Nat} {cs : Array Value} {t : TypeId} (hb : H b = some (.cells cs t (0, 0))) (hl : cs.size = n) : Un.ev H (.loads n) (.pointer (some ⟨b, 0, none⟩)) = some (.agg cs) := by
 have : cellsAt H ⟨b, 0, none⟩ cs.toList := ⟨cs, t, (0, 0), rfl, hb, by simp [List.take_of_length_le]⟩
 simpa using loads_cells this (by simpa using hl)
theorem MkB.stable {s : List Int} {M : Nat} {vs : Value} {W : View} {h : Heap} {o : Own} {m : MS} {vb vl : Value} {lb : List BlkM} (w : Owns W h o) (b : MkB M vs m o vb vl lb) :
  ∃ X : View, W.le X ∧ X.le (vw h) ∧ (∀ i, i ≤ 5 → cellH X ⟨M, i, none⟩ = some ((mkL vs m.at_ m.ps vb m.next vl).getD i undef)) ∧ SlRd X vb lb ∧ Av X vl ∧ ∀ i, i < m.blocks.length → Av X (nth lb i).phis.v ∧ Av X (nth lb i).ins.v := by
 obtain ⟨w5, s5⟩ := w.freeze (k := (0, 0)) (v := .slice (some ⟨M, 0, none⟩) 1 1) (l := [RawN.mk (n := 5) (mkL vs m.at_ m.ps vb m.next vl)]) b.box
 have hb2 : o.upd (0, 0) none (0, 2) = it T.api_Block vb lb := b.blk
 obtain ⟨w6, s6⟩ := w5.freeze (k := (0, 2)) (v := vb) (l := lb) hb2
 have s5 := s5.mono (le_plus (h := h) (w5.av (0, 2) _ hb2))
 refine ⟨_, View.le_trans (le_plus (h := h) (w.av (0, 0) _ b.box)) (le_plus (h := h) (w5.av (0, 2) _ hb2)), w6.wle, fun i hi => ?_, s6, w6.av (0, 1) _ b.live, fun i hi => ⟨w6.av (1, i) _ (b.phis i hi), w6.av (2, i) _ (b.ins i hi)⟩⟩
 have := ((s5.at (i := 0) (by simp)).part (RawN.p (n := 5) (o := i) hi)).raw
 simpa [slA] using this
variable {s : List Int} {M : Nat} {vs : Value} {W : View} {h : Heap} {o : Own} {m : MS}
theorem MkB.cell {vb vl : Value} {lb : List BlkM} (w : Owns W h o) (b : MkB M vs m o vb vl lb) {i : Nat} (hi : i ≤ 5) : cellH (vw h) ⟨M, i, none⟩ = some ((mkL vs m.at_ m.ps vb m.next vl).getD i undef) := w.raw b.box hi
theorem MkB.setBlk {vb vl : Value} {lb : List BlkM} (bb : MkB M vs m o vb vl lb) {b : Nat} (hb : b < m.blocks.length) {x' : BlkD} {y' : BlkM} {o' : Own} (hy : y'.term = x'.term) (h02 : o' (0, 2) = it T.api_Block vb (lb.set b y')) (h1 : o' (1, b) = it T.api_Phi y'.phis.v x'.phis) (h2 : o' (2, b) = it T.api_Ins y'.ins.v x'.ins)
  (ho : ∀ q : Key, q ≠ (0, 2) → q ≠ (1, b) → q ≠ (2, b) → o' q = o q) : MkB M vs { m with blocks := m.blocks.set b x' } o' vb vl (lb.set b y') := by
 have hbl : b < lb.length := by rw [bb.len]; exact hb
 refine ⟨(ho _ (by simp) (by simp) (by simp)).trans bb.box, (ho _ (by simp) (by simp) (by simp)).trans bb.live, h02, by simp [bb.len], fun j hj => ?_, fun j hj => ?_, fun j hj => ?_⟩
 all_goals
  have hj : j < m.blocks.length := by simpa using hj
  have hjl : j < lb.length := by rw [bb.len]; exact hj
  show _ = _
  simp only [nth_set hj, nth_set hjl]
  by_cases e : b = j
  ·subst e
   simp only [if_true]
   assumption
  ·simp only [if_neg e]
   first
    | exact bb.term j hj
    | exact (ho _ (by simp) (fun q => e (by injection q with _ q; exact q.symm)) (by simp)).trans (bb.phis j hj)
    | exact (ho _ (by simp) (by simp) (fun q => e (by injection q with _ q; exact q.symm))).trans (bb.ins j hj)
theorem Mk.value (w : Mk s M vs W h o m) (h1 : m.at_ ≤ 999999990) (hl : m.live.length ≤ 1000000000) :
  HCalls Try.prog N.ref03_maker_value #[.pointer (some ⟨M, 0, none⟩)] h (fun u h' => (m.live.length = 0 ∧ u = .tuple #[.int .i64 0, .bool false] ∧ h' = h) ∨ (m.live.length ≠ 0 ∧ u = .tuple #[.int .i64 (valAt s m), .bool true] ∧ I64 (valAt s m) ∧ ∃ o', Mk s M vs W h' o' m.took.took ∧ ∀ k : Key, 3 ≤ k.1 → o' k = o k)) := by
 refine calls_lift (args := [.pointer (some ⟨M, 0, none⟩)]) follows F.ref03_maker_value E.ref03_maker_value (Nat.le_of_ble_eq_true (by kernel_rfl)) fun K hK => ?_
 obtain ⟨vb, vl, lb, b⟩ := w.box
 have c5 : cellH (vw h) ⟨M, 5, none⟩ = some vl := b.cell w.own (i := 5) (by decide)
 have hsl := w.own.now b.live
 dsimp only [L.ref03_maker_value]
 refine lwp_hide fun z hz => ?_
 simp
 rw [hz]; clear hz z
 refine lwp_hide fun z hz => ?_
 by_cases h0 : m.live.length = 0
 ·have h0' : m.live = [] := List.eq_nil_of_length_eq_zero h0
  simp [c5, hsl.len, h0]
  exact hK _ _ (.inl ⟨h0, rfl, rfl⟩)
 ·have h0' : ¬ (m.live = []) := fun e => h0 (by rw [e]; rfl)
  simp [c5, hsl.len, h0']
  rw [hz]; clear hz z
  refine lwp_hide fun z hz => ?_
  simp [c5, hsl.len]
  refine call_to (by kernel_rfl) (w.take (by omega) (n := (m.live.length : Int)) (by omega) (by omega)) ?_
  rintro _ h2 ⟨rfl, o2, w2, f2⟩
  rw [hz]; clear hz z
  refine lwp_hide fun z hz => ?_
  simp
  refine call_to (by kernel_rfl) (w2.take (show m.at_ + 1 ≤ _ by omega) (n := 3) (by decide) (by decide)) ?_
  rintro _ h3 ⟨rfl, o3, w3, f3⟩
  have hx : m.took.at_ = m.at_ + 1 := rfl
  rw [hx]
  have hf : ∀ k : Key, 3 ≤ k.1 → o3 k = o k := fun k hk => (f3 k hk).trans (f2 k hk)
  have hv : valAt s m = _ := valAt.eq_1 s m
  obtain ⟨vb3, vl3, lb3, b3⟩ := w3.box
  have c53 : cellH (vw h3) ⟨M, 5, none⟩ = some vl3 := b3.cell w3.own (i := 5) (by decide)
  have hsl3 : SlRd (vw h3) vl3 m.live := w3.own.now b3.live
  obtain ⟨r0, r1⟩ := takeV_rng (s := s) (at_ := m.at_) (n := (m.live.length : Int)) (by omega)
  generalize takeV s m.at_ m.live.length = x at hv r0 r1
  generalize takeV s (m.at_ + 1) 3 = q at hv
  obtain ⟨i, hi, hvi, hii⟩ : ∃ i : Nat, i < m.live.length ∧ valAt s m = nth m.live i ∧ (i : Int) = if q = 0 then (m.live.length : Int) - 1 else x := by
   by_cases c : q = 0
   ·rw [if_pos c] at hv ⊢
    exact ⟨m.live.length - 1, by omega, hv, by omega⟩
   ·rw [if_neg c] at hv ⊢
    exact ⟨x.toNat, by omega, hv, by omega⟩
  have h64 : IntKind.i64.wrap ((m.live.length : Int) - 1) = (m.live.length : Int) - 1 := wrap64_id (by omega) (by omega)
  have fin : ∀ ρ : Env, ρ = [(0, .pointer (some ⟨M, 0, none⟩)), (2, .int .i64 0), (3, .bool false), (4, .int .i64 i), (17, .int .i64 x), (19, .int .i64 q)] → LC.wp Try.prog z (fnPost [.tmp 2, .tmp 3] K) ρ h3 := by
   rintro _ rfl
   rw [hz]; clear hz z
   refine lwp_hide fun z hz => ?_
   simp (disch := omega) [c53, hsl3.idx1 rfl, hsl3.int (View.le_refl _)]
   rw [hz]; clear hz z
   simp
   exact hK _ _ (.inr ⟨h0, by rw [hvi], by rw [hvi]; exact hsl3.range hi, o3, w3, hf⟩)
  by_cases c : q = 0
  ·rw [if_pos c] at hii
   simp [c, c53, hsl3.len, h64]
   refine fin _ ?_
   rw [hii, c]
  ·rw [if_neg c] at hii
   simp [c]
   refine fin _ ?_
   rw [hii]
theorem Mk.add (w : Mk s M vs W h o m) {b : Nat} {i : InsD} {v : Value} (hb : b < m.blocks.length) (hi : Rd W v i) (hn : (nth m.blocks b).ins.length ≤ 100000000) (hl : m.live.length ≤ 100000000) :
    HCalls Try.prog N.ref03_maker_add #[.pointer (some ⟨M, 0, none⟩), .int .i64 b, v] h (fun u h' => Nx s M vs W h' o (m.add b i)) := by
  refine calls_lift (args := [.pointer (some ⟨M, 0, none⟩), .int .i64 b, v]) follows F.ref03_maker_add E.ref03_maker_add (Nat.le_of_ble_eq_true (by kernel_rfl)) fun K hK => ?_
  obtain ⟨vb, vl, lb, bb⟩ := w.box
  obtain ⟨va, rfl, hir, hia⟩ := ins_val hi
  dsimp only [L.ref03_maker_add]
  refine lwp_hide fun z hz => ?_
  simp
  refine do_boxT rfl (hi.mono w.own.wle) fun h1 e1 hle1 hs1 hat => ?_
  have w1 := w.own.ext hle1
  have hbx : (grow W h h1) h.size = some (.cells #[.int .i64 i.op, .int .i64 i.dst, .int .i64 i.two, va, .int .i32 i.imm.v] T.api_Ins (0, 0)) := by
    rw [grow_new (Nat.le_refl _), e1]; simp [Value.cells]
  have hi1 := hi.mono (le_grow (h' := h1) w.own.wle)
  have src1 := w.src.mono (le_grow (h' := h1) w.own.wle)
  have hW1 := le_grow (h' := h1) w.own.wle
  clear hat e1
  have hld := loads_new hbx (n := 5) rfl
  generalize grow W h h1 = W1 at w1 hld hi1 src1 hW1
  generalize h.size = B at hld
  rw [hz]; clear hz z
  refine lwp_hide fun z hz => ?_
  obtain ⟨X, hWX, hX, cX, sX, avl, avX⟩ := bb.stable (s := s) w1
  have c3 : cellH X ⟨M, 3, none⟩ = some vb := cX 3 (by decide)
  have hbl : b < lb.length := by rw [bb.len]; exact hb
  have a1 := (sX.at hbl).part BlkM.p_ins
  have hsv := sX.bound
  have a2 : cellH X (((slA vb).add (b * 6)).add 1) = some (nth lb b).ins.v := by rw [nth_eq hbl]; exact a1.raw
  have hldX : Un.ev X (.loads 5) (.pointer (some ⟨B, 0, none⟩)) = some (.agg #[.int .i64 i.op, .int .i64 i.dst, .int .i64 i.two, va, .int .i32 i.imm.v]) := by
    have := ev_mono (ρ := fun _ => none) (e := .un (.loads 5) (.con (.pointer (some ⟨B, 0, none⟩)))) hWX (by simpa using hld)
    simpa using this
  refine drawn_at X hX ?_
  simp (disch := omega) [c3, sX.idxn (N := 6) rfl, a2, hldX]
  refine do_one (α := InsD) (W := W1) (d := i) El.s_api_Ins rfl hi1 fun u5 h5 src hle5 hs5 => ⟨View.le_trans hX hle5, ?_⟩
  refine (w1.ext' hle5).do_append (k := (2, b)) (α := InsD) (v := (nth lb b).ins.v) (l := (nth m.blocks b).ins) (l2 := [i]) (bb.ins b hb) El.s_api_Ins rfl rfl src (by simp; omega) (by simp; omega) fun v6 h6 w6 m6 => ⟨(m6.view (View.le_trans hX hle5) (avX b hb).2).1, ?_⟩
  have hv6 := (w6.cells (k := (2, b)) Own.upd_self).2
  refine w6.do_part (k := (0, 2)) (α := BlkM) BlkM.p_ins (v := vb) (l := lb) (i := b) (d := ⟨v6⟩) bb.blk (by kernel_rfl) rfl rfl hbl (rd_raw.2 ⟨rfl, hv6⟩) fun h7 w7 _ => ?_
  have b7 := bb.setBlk hb (x' := { nth m.blocks b with ins := (nth m.blocks b).ins ++ [i] }) (y' := { lb[b] with ins := ⟨v6⟩ }) (o' := (o.upd (2, b) (it T.api_Ins v6 ((nth m.blocks b).ins ++ [i]))).upd (0, 2) (it T.api_Block vb (lb.set b { lb[b] with ins := ⟨v6⟩ }))) (by rw [← bb.term b hb, nth_eq hbl]) Own.upd_self (by rw [← nth_eq hbl]; exact bb.phis b hb) ((Own.upd_ne (by simp)).trans Own.upd_self) (fun q h1 h2 h3 => by rw [Own.upd_ne h1, Own.upd_ne h3])
  generalize hm7 : ({ m with blocks := m.blocks.set b { nth m.blocks b with ins := (nth m.blocks b).ins ++ [i] } } : MS) = m7 at b7
  have hadd : m.add b i = { m7 with live := m.live ++ makesS i } := by rw [← hm7]; rfl
  have hl7 : m7.live = m.live := by rw [← hm7]
  have hf7 : ∀ k : Key, 3 ≤ k.1 → ((o.upd (2, b) (it T.api_Ins v6 ((nth m.blocks b).ins ++ [i]))).upd (0, 2) (it T.api_Block vb (lb.set b { lb[b] with ins := ⟨v6⟩ }))) k = o k := fun k hk => by
    rw [Own.upd_ne (by rintro rfl; simp at hk), Own.upd_ne (by rintro rfl; simp at hk)]
  generalize (o.upd (2, b) (it T.api_Ins v6 ((nth m.blocks b).ins ++ [i]))).upd (0, 2) (it T.api_Block vb (lb.set b { lb[b] with ins := ⟨v6⟩ })) = o7 at w7 b7 hf7
  generalize lb.set b { lb[b] with ins := ⟨v6⟩ } = lb7 at b7
  clear src avX m6
  rw [hz]; clear hz z
  refine lwp_hide fun z hz => ?_
  have hld7 : Un.ev (vw h7) (.loads 5) (.pointer (some ⟨B, 0, none⟩)) = some (.agg #[.int .i64 i.op, .int .i64 i.dst, .int .i64 i.two, va, .int .i32 i.imm.v]) := by
    have := ev_mono (ρ := fun _ => none) (e := .un (.loads 5) (.con (.pointer (some ⟨B, 0, none⟩)))) w7.wle (by simpa using hld)
    simpa using this
  simp [hld7]
  refine call_to (by kernel_rfl) (refMakes_ok (hi1.mono w7.wle)) ?_
  rintro u8 h8 ⟨hle8, hu8, -⟩
  have w8 := w7.ext hle8
  have hu8 : SlRd (grow W1 h7 h8) u8 (makesS i) := hu8.mono (fresh_in (Nat.le_refl _) (View.le_refl _))
  have hW8 := le_grow (h' := h8) w7.wle
  generalize grow W1 h7 h8 = W8 at w8 hu8 hW8
  rw [hz]; clear hz z
  have c58 : cellH (vw h8) ⟨M, 5, none⟩ = some vl := b7.cell w8 (i := 5) (by decide)
  have hmk : (makesS i).length ≤ 2 := by unfold makesS; repeat' split
                                         all_goals simp
  simp [c58]
  refine w8.do_append (k := (0, 1)) (α := Int) (v := vl) (l := m.live) (l2 := makesS i) (by rw [← hl7]; exact b7.live) El.s_int rfl rfl (hu8.src w8.wle) (by omega) (by omega) fun v9 h9 w9 m9 => ?_
  have hv9 := (w9.cells (k := (0, 1)) Own.upd_self).2
  have hbx9 : (o7.upd (0, 1) (it T.int v9 (m.live ++ makesS i))) (0, 0) = bx T.ref03_maker M (RawN.mk (n := 5) (mkL vs m7.at_ m7.ps vb m7.next vl)) := b7.box
  refine w9.do_cell (k := (0, 0)) (n := 5) (i := 5) (e := T.ref03_maker) (B := M) (l := mkL vs m7.at_ m7.ps vb m7.next vl) hbx9 (by decide) (by kernel_rfl) rfl rfl hv9 fun h10 w10 _ => ?_
  refine hK _ _ ⟨W8, _, View.le_trans hW1 hW8, ⟨w10, src1.mono hW8, vb, v9, lb7, ?_⟩, fun k hk => ?_⟩
  · rw [hadd]
    exact ⟨rfl, rfl, b7.blk, b7.len, b7.term, b7.phis, b7.ins⟩
  · rw [Own.upd_ne (by rintro rfl; simp at hk), Own.upd_ne (by rintro rfl; simp at hk)]
    exact hf7 k hk
end Go.Proofs.Ytfelpjfopgiabaa
namespace Go.Proofs.Ytfelpjfopgiabaa
open Go Go.Lft
structure MS.ok (c : Nat) (m : MS) : Prop where
 at_ : m.at_ ≤ c
 n0 : 0 ≤ m.next
 next : m.next ≤ c
 live : m.live.length ≤ c
 ins : ∀ i, (nth m.blocks i).ins.length ≤ c
theorem MS.ok.mono {c d : Nat} {m : MS} (h : m.ok c) (hd : c ≤ d) : m.ok d :=
 ⟨by have := h.at_; omega, h.n0, by have := h.next; omega, by have := h.live; omega, fun i => by have := h.ins i; omega⟩
theorem MS.ok.took {c : Nat} {m : MS} (h : m.ok c) : m.took.ok (c + 1) :=
 ⟨by have := h.at_; show m.at_ + 1 ≤ _; omega, h.n0, by have := h.next; show m.next ≤ _; omega, by have := h.live; show m.live.length ≤ _; omega, fun i => by have := h.ins i; show (nth m.blocks i).ins.length ≤ _; omega⟩
theorem MS.ok.freshed {c : Nat} {m : MS} (h : m.ok c) : m.freshed.ok (c + 1) :=
 ⟨by have := h.at_; show m.at_ ≤ _; omega, by have := h.n0; show 0 ≤ m.next + 1; omega, by have := h.next; show m.next + 1 ≤ _; omega, by have := h.live; show m.live.length ≤ _; omega, fun i => by have := h.ins i; show (nth m.blocks i).ins.length ≤ _; omega⟩
theorem makes_le2 {i : InsD} : (makesS i).length ≤ 2 := by
 unfold makesS
 repeat' split
 all_goals simp
theorem MS.ok.add {c b : Nat} {m : MS} {i : InsD} (h : m.ok c) : (m.add b i).ok (c + 2) := by
 refine ⟨by have := h.at_; show m.at_ ≤ _; omega, h.n0, by have := h.next; show m.next ≤ _; omega, ?_, fun j => ?_⟩
 ·have := h.live
  have := makes_le2 (i := i)
  show (m.live ++ makesS i).length ≤ _
  rw [List.length_append]; omega
 ·show (nth (m.blocks.set b _) j).ins.length ≤ _
  have hj := h.ins j
  rcases Nat.lt_or_ge j m.blocks.length with hl | hl
  ·rw [nth_set hl]
   split
   ·rename_i e
    subst e
    rw [List.length_append, List.length_singleton]; omega
   ·omega
  ·rw [nth_ge (by simpa using hl)]
   rw [nth_ge hl] at hj; omega
theorem MS.ok.constant {c b : Nat} {m : MS} {n : Int} (h : m.ok c) : (m.constant b n).ok (c + 3) := h.freshed.add
theorem MS.ok.two {c b : Nat} {m : MS} {op x y : Int} (h : m.ok c) : (m.two b op x y).ok (c + 3) := h.freshed.add
variable {s : List Int} {M : Nat} {vs : Value} {W : View} {h : Heap} {o : Own} {m : MS}
theorem MS.ok.someS {c b : Nat} (h : m.ok c) : (someS s m b).2.ok (c + 10) := by
 unfold Go.Proofs.Ytfelpjfopgiabaa.someS
 repeat' split
 ·exact (h.took.took.constant).mono (by omega)
 ·exact (h.took.took.took.took.took.constant).mono (by omega)
 ·exact (h.took.took.took).mono (by omega)
theorem add_len {b : Nat} {i : InsD} : (m.add b i).blocks.length = m.blocks.length := by simp [MS.add]
theorem some_len {b : Nat} : (someS s m b).2.blocks.length = m.blocks.length := by
 unfold someS
 repeat' split
 all_goals simp [someW, MS.constant, add_len, MS.took, MS.freshed]
theorem Mk.constant (w : Mk s M vs W h o m) {b c : Nat} {n : Int} (hb : b < m.blocks.length) (hm : m.ok c) (hc : c ≤ 1000000) (hn : -2147483648 ≤ n ∧ n ≤ 2147483647) :
  HCalls Try.prog N.ref03_maker_constant #[.pointer (some ⟨M, 0, none⟩), .int .i64 b, .int .i32 n] h (fun u h' => u = .int .i64 m.next ∧ Nx s M vs W h' o (m.constant b n)) := by
 refine calls_lift (args := [.pointer (some ⟨M, 0, none⟩), .int .i64 b, .int .i32 n]) follows F.ref03_maker_constant E.ref03_maker_constant (Nat.le_of_ble_eq_true (by kernel_rfl)) fun K hK => ?_
 have q1 := hm.next
 have q0 := hm.n0
 dsimp only [L.ref03_maker_constant]
 refine lwp_hide fun z hz => ?_
 simp
 rw [hz]; clear hz z
 refine lwp_hide fun z hz => ?_
 simp
 refine call_to (by kernel_rfl) (w.fresh q0 (by omega)) ?_
 rintro _ h2 ⟨rfl, o2, w2, f2⟩
 rw [hz]; clear hz z
 refine lwp_hide fun z hz => ?_
 simp
 refine do_build (z := .agg #[.int .i64 0, .int .i64 0, .int .i64 0, .slice none 0 0, .int .i32 0]) (places := [(0, 1), (1, 1), (2, 1), (3, 1), (4, 1)]) (vs := [(0, .int .i64 1), (1, .int .i64 m.next), (4, .int .i32 n)]) (cs := #[.int .i64 1, .int .i64 m.next, .int .i64 0, .slice none 0 0, .int .i32 n]) (by kernel_rfl) (by kernel_rfl) (by simp) (by rfl) ?_
 have hm2 := hm.freshed
 refine call_to (by kernel_rfl) (w2.add (i := conD m.next n) hb (rd_insOf (imm := ⟨n⟩) ⟨⟨by decide, by decide⟩, ⟨by omega, by omega⟩, ⟨by decide, by decide⟩, hn⟩ nil_sl) (by have := hm2.ins b; omega) (by have := hm2.live; omega)) ?_
 rintro u3 h3 n3
 rw [hz]; clear hz z
 simp
 exact hK _ _ ⟨rfl, n3.trans (View.le_refl _) f2⟩
theorem mk_some (w : Mk s M vs W h o m) {b c : Nat} (hb : b < m.blocks.length) (hm : m.ok c) (hc : c ≤ 999990) :
  HCalls Try.prog N.ref03_maker_some #[.pointer (some ⟨M, 0, none⟩), .int .i64 b] h (fun u h' => u = .int .i64 (someS s m b).1 ∧ I64 (someS s m b).1 ∧ Nx s M vs W h' o (someS s m b).2) := by
 refine calls_lift (args := [.pointer (some ⟨M, 0, none⟩), .int .i64 b]) follows F.ref03_maker_some E.ref03_maker_some (Nat.le_of_ble_eq_true (by kernel_rfl)) fun K hK => ?_
 have qa := hm.at_
 have ql := hm.live
 have hsd : someS s m b = _ := someS.eq_1 s m b
 dsimp only [L.ref03_maker_some]
 refine lwp_hide fun z hz => ?_
 simp
 rw [hz]; clear hz z
 refine lwp_hide fun z hz => ?_
 simp
 refine call_to (by kernel_rfl) (w.value (by omega) (by omega)) ?_
 rintro u h2 hu
 have con : ∀ {m2 : MS} {o2 : Own} {h2 : Heap} {ρ : Env} {z : LC}, Mk s M vs W h2 o2 m2 → (∀ k : Key, 3 ≤ k.1 → o2 k = o k) → m2.ok (c + 3) → b < m2.blocks.length → someS s m b = (m2.next, someW s m2 b) → Lft.look ρ 0 = some (.pointer (some ⟨M, 0, none⟩)) → Lft.look ρ 1 = some (.int .i64 b) →
   LC.wp Try.prog (.seq (.reg false (.loud [19, 20, 21] [(19, (.tmp 0)), (20, (.tmp 1))] [(21, (.tmp 0))] none [] false (.call ⟨.value (.func 58), #[(.tmp 21)], #[72]⟩) 21 (some 22) true
   (.loud [] [] [(19, (.tmp 19)), (20, (.tmp 20)), (22, (.tmp 22))] none [] false (.call ⟨.value (.func 57), #[(.tmp 19), (.tmp 20), (.tmp 22)], #[72, 3, 21]⟩) 3 (some 23) true
    (.fin [4] [(4, (.tmp 23))] [])))) .ret) (thenL (LC.wp Try.prog z (fnPost [.tmp 4] K)) (fnPost [.tmp 4] K)) ρ h2 := by
  intro m2 o2 h2 ρ z w2 f2 k2 b2 e2 r0 r1
  refine lwp_hide fun y hy => ?_
  simp [r0, r1]
  refine call_to (by kernel_rfl) (w2.word (by have := k2.at_; omega)) ?_
  rintro _ h3 ⟨rfl, o3, w3, f3⟩
  simp [look_setE, look_kill, r0, r1]
  refine call_to (by kernel_rfl) (w3.constant (n := wordV s m2) b2 k2.took.took (by omega) wordV_rng) ?_
  rintro _ h4 ⟨rfl, n4⟩
  rw [hy]; clear hy y
  simp [look_setE, look_kill]
  refine hK _ _ ⟨by rw [e2]; rfl, by rw [e2]; have := k2.n0; have := k2.next; exact ⟨by show _ ≤ m2.next; omega, by show m2.next ≤ _; omega⟩, ?_⟩
  rw [e2]
  exact n4.trans (View.le_refl _) fun k hk => (f3 k hk).trans (f2 k hk)
 rcases hu with ⟨h0, rfl, rfl⟩ | ⟨h0, rfl, hi64, o2, w2, f2⟩
 ·rw [if_pos h0] at hsd
  simp
  rw [hz]; clear hz z
  refine lwp_hide fun z hz => ?_
  refine lwp_hide fun y hy => ?_
  simp
  rw [hy]; clear hy y
  refine lwp_cond_t (by simp) ?_
  exact con w (fun _ _ => rfl) (hm.mono (by omega)) hb hsd (by simp [look_setE, look_kill]) (by simp [look_setE, look_kill])
 ·rw [if_neg h0] at hsd
  simp
  rw [hz]; clear hz z
  refine lwp_hide fun z hz => ?_
  refine lwp_hide fun y hy => ?_
  simp
  have k2 := hm.took.took
  refine call_to (by kernel_rfl) (w2.take (by have := k2.at_; omega) (n := 9) (by decide) (by decide)) ?_
  rintro _ h3 ⟨rfl, o3, w3, f3⟩
  have hx : m.took.took.at_ = m.at_ + 2 := rfl
  rw [hx]
  simp
  rw [hy]; clear hy y
  by_cases c9 : takeV s (m.at_ + 2) 9 = 0
  ·rw [if_pos c9] at hsd
   refine lwp_cond_t (by simp [c9]) ?_
   exact con w3 (fun k hk => (f3 k hk).trans (f2 k hk)) k2.took hb hsd (by simp [look_setE, look_kill]) (by simp [look_setE, look_kill])
  ·rw [if_neg c9] at hsd
   refine lwp_cond_f (by simp [c9]) ?_
   simp
   rw [hz]; clear hz z
   simp
   refine hK _ _ ⟨by rw [hsd], by rw [hsd]; exact hi64, ?_⟩
   rw [hsd]
   exact w3.nx.trans (View.le_refl _) fun k hk => (f3 k hk).trans (f2 k hk)
end Go.Proofs.Ytfelpjfopgiabaa
