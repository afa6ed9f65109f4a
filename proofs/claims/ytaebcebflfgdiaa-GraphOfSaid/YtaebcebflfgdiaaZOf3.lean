/- A part of the proof: Lb, Lc, Wa, Wb, Wc, Wd, We. -/
import Derived.Test.YtaebcebflfgdiaaZOf2
import Derived.Test.YtaebcebflfgdiaaProg
import Derived.KernelRfl
import Derived.Test.YtaebcebflfgdiaaChecked
/- The functions of the program in the lifted language, each with the proof that the lifter makes just it. Written by program. -/
namespace Go.Proofs.Ytaebcebflfgdiaa
open Go Go.Lft
set_option maxRecDepth 100000

/-- jacquard/jacquardref02.Made -/
abbrev N.ref02_Made : Nat := 15
def L.ref02_Made.l2 : LC :=
  (.seq
            (.seq
            (.reg false (.fin [25, 26] [(26, (.bin (.cmp .leq) (.tmp 7) (.con (.int .i64 3))))] []))
            (.cond (.tmp 26) [26]
              .skip
              (.exit 2)))
            (.seq
            (.block 3
              (.seq
              (.reg false (.fin [29, 30, 31, 32, 8] [(8, (.bin (.arith .add) (.bin (.arith .mul) (.con (.int .i64 3)) (.tmp 5)) (.tmp 7)))] []))
              (.seq
              (.reg false (.fin [33, 34, 35, 36] [(36, (.bin (.cmp .lss) (.tmp 8) (.un .len (.tmp 0))))] []))
              (.cond (.tmp 36) [36]
                (.seq
                (.reg false (.fin [37, 38, 39, 40, 41, 42, 43, 44, 45, 46, 47, 48, 49, 9] [(9, (.bin (.div .rem) (.bin (.arith .add) (.bin (.arith .add) (.bin (.div .rem) (.un .load (.bin (.idx 1) (.tmp 0) (.tmp 8))) (.bin (.arith .add) (.tmp 3) (.con (.int .i64 3)))) (.tmp 3)) (.con (.int .i64 3))) (.bin (.arith .add) (.tmp 3) (.con (.int .i64 3)))))] []))
                (.seq
                (.reg false (.fin [50, 51, 52] [(52, (.bin (.cmp .lss) (.tmp 9) (.tmp 3)))] []))
                (.cond (.tmp 52) [52]
                  (.reg false (.loud [53, 54] [(53, (.tmp 6))] [(54, (.tmp 9))] none [] false (.buildSlice 23 1 #[(0, (.tmp 54))]) 23 (some 55) true
                    (.loud [] [] [(53, (.tmp 53)), (55, (.tmp 55))] none [] false (.call ⟨.builtin .append, #[(.tmp 53), (.tmp 55)], #[23, 23]⟩) 23 (some 56) true
                      (.fin [6] [(6, (.tmp 56))] []))))
                  .skip)))
                .skip))))
            (.reg false (.fin [27, 28, 7] [(7, (.bin (.arith .add) (.tmp 7) (.con (.int .i64 1))))] []))))
def L.ref02_Made.l1 : LC :=
  (.seq
      (.seq
      (.reg false (.fin [20, 21, 22] [(22, (.bin (.cmp .lss) (.tmp 5) (.tmp 3)))] []))
      (.cond (.tmp 22) [22]
        .skip
        (.exit 0)))
      (.seq
      (.block 1
        (.seq
        (.reg false (.fin [6] [(6, (.con (.slice none 0 0)))] []))
        (.seq
        (.seq
        (.reg false (.fin [7] [(7, (.con (.int .i64 1)))] []))
        (.block 2
          (.loop L.ref02_Made.l2)))
        (.reg false (.loud [57, 58] [(57, (.tmp 4))] [(58, (.tmp 6))] none [] false (.buildSlice 22 1 #[(0, (.tmp 58))]) 22 (some 59) true
          (.loud [] [] [(57, (.tmp 57)), (59, (.tmp 59))] none [] false (.call ⟨.builtin .append, #[(.tmp 57), (.tmp 59)], #[22, 22]⟩) 22 (some 60) true
            (.fin [4] [(4, (.tmp 60))] [])))))))
      (.reg false (.fin [23, 24, 5] [(5, (.bin (.arith .add) (.tmp 5) (.con (.int .i64 1))))] []))))
def L.ref02_Made : LFn :=
⟨[(.tmp 2)],
  (.seq
  (.reg false (.fin [2] [(2, (.con (.slice none 0 0)))] []))
  (.seq
  (.reg false (.fin [3] [(3, (.con (.int .i64 1)))] []))
  (.seq
  (.seq
  (.reg false (.fin [10, 11, 12] [(12, (.bin (.cmp .gtr) (.un .len (.tmp 0)) (.con (.int .i64 0))))] []))
  (.cond (.tmp 12) [12]
    (.reg false (.fin [13, 14, 15, 16, 17, 18, 19, 3] [(3, (.bin (.arith .add) (.con (.int .i64 1)) (.bin (.div .rem) (.bin (.arith .add) (.bin (.div .rem) (.un .load (.bin (.idx 1) (.tmp 0) (.con (.int .i64 0)))) (.con (.int .i64 10))) (.con (.int .i64 10))) (.con (.int .i64 10)))))] []))
    .skip))
  (.seq
  (.reg false (.fin [4] [(4, (.con (.slice none 0 0)))] []))
  (.seq
  (.seq
  (.reg false (.fin [5] [(5, (.con (.int .i64 0)))] []))
  (.block 0
    (.loop L.ref02_Made.l1)))
  (.seq
  (.reg false (.fin [61, 2] [(2, (.tmp 4))] []))
  .ret))))))⟩
theorem E.ref02_Made : liftF Try.prog Try.f15 = some L.ref02_Made := by kernel_rfl

/-- jacquard/graph.Order -/
abbrev N.graph_Order : Nat := 16
def L.graph_Order : LFn :=
⟨[(.tmp 2)],
  (.seq
  (.reg false (.fin [2] [(2, (.con (.slice none 0 0)))] []))
  (.seq
  (.seq
  (.reg false (.fin [7, 8, 9] [(9, (.bin (.cmp .eql) (.un .len (.tmp 0)) (.con (.int .i64 0))))] []))
  (.cond (.tmp 9) [9]
    (.seq
    (.reg false (.fin [2] [(2, (.con (.slice none 0 0)))] []))
    .ret)
    .skip))
  (.seq
  (.reg false (.loud [10] [] [(10, (.tmp 0))] none [] false (.call ⟨.value (.func 42), #[(.tmp 10)], #[22]⟩) 22 (some 11) true
    (.loud [] [] [] none [] false (.alloc 22) 0 (some 3) true
      (.loud [] [] [(3, (.tmp 3)), (11, (.tmp 11))] none [] false (.store 22 (.tmp 3) (.tmp 11)) 0 none false
        (.fin [] [] [])))))
  (.seq
  (.reg false (.loud [12, 13] [] [(13, (.un .len (.tmp 0))), (13, (.un .len (.tmp 0)))] none [] false (.makeSlice 32 (.tmp 13) (.tmp 13)) 32 (some 14) true
    (.loud [] [] [] none [] false (.alloc 32) 0 (some 4) true
      (.loud [] [] [(4, (.tmp 4)), (14, (.tmp 14))] none [] false (.store 32 (.tmp 4) (.tmp 14)) 0 none false
        (.fin [] [] [])))))
  (.seq
  (.reg false (.loud [] [] [] none [] false (.alloc 23) 0 (some 5) true
    (.fin [] [] [])))
  (.seq
  (.reg false (.loud [] [] [] none [] false (.alloc 59) 0 (some 6) true
    (.fin [] [] [])))
  (.seq
  (.reg false (.loud [15] [] [(6, (.tmp 6)), (15, (.un (.fn 43) (.snoc (.snoc (.snoc (.snoc (.con (.tuple #[])) (.tmp 4)) (.tmp 3)) (.tmp 6)) (.tmp 5))))] none [] false (.store 59 (.tmp 6) (.tmp 15)) 0 none false
    (.fin [] [] [])))
  (.seq
  (.reg false (.loud [16] [] [(16, (.un .load (.tmp 6)))] none [] false (.call ⟨.value (.tmp 16), #[(.const (.int .i64 0))], #[3]⟩) 0 (some 17) false
    (.fin [] [] [])))
  (.seq
  (.reg false (.loud [18] [] [(18, (.un .load (.tmp 5)))] none [] false (.call ⟨.value (.func 44), #[(.tmp 18)], #[23]⟩) 0 (some 19) false
    (.fin [] [] [])))
  (.seq
  (.reg false (.fin [20, 2] [(2, (.un .load (.tmp 5)))] []))
  .ret))))))))))⟩
theorem E.graph_Order : liftF Try.prog Try.f16 = some L.graph_Order := by kernel_rfl

/-- jacquard/jacquardref02.Table -/
abbrev N.ref02_Table : Nat := 17
def L.ref02_Table.l2 : LC :=
  (.seq
            (.seq
            (.reg false (.fin [23, 24, 25, 26] [(26, (.bin (.cmp .lss) (.tmp 8) (.un .len (.tmp 0))))] []))
            (.cond (.tmp 26) [26]
              .skip
              (.exit 2)))
            (.seq
            (.block 3
              (.reg false (.loud [29, 30, 31, 32, 33, 34, 35, 36, 37, 38, 39, 40, 41, 42, 43, 44, 45, 46, 47, 48, 49, 50, 51, 52, 53] [] [(53, (.bin (.idx 1) (.tmp 6) (.tmp 8))), (52, (.ite (.ite (.un .load (.bin (.idx 1) (.tmp 3) (.tmp 5))) (.un .load (.bin (.idx 1) (.tmp 3) (.tmp 8))) (.con (.bool false))) (.ite (.bin (.cmp .eql) (.tmp 5) (.tmp 8)) (.con (.bool true)) (.un .not (.un .load (.bin (.idx 1) (.tmp 7) (.tmp 8))))) (.con (.bool false))))] none [(.gd (.gd (.ite (.un .load (.bin (.idx 1) (.tmp 3) (.tmp 5))) (.un .load (.bin (.idx 1) (.tmp 3) (.tmp 8))) (.con (.bool false))) true (.bin (.cmp .eql) (.tmp 5) (.tmp 8))) false (.un .not (.un .load (.bin (.idx 1) (.tmp 7) (.tmp 8)))))] false (.store 4 (.tmp 53) (.tmp 52)) 0 none false
                (.fin [] [] []))))
            (.reg false (.fin [27, 28, 8] [(8, (.bin (.arith .add) (.tmp 8) (.con (.int .i64 1))))] []))))
def L.ref02_Table.l1 : LC :=
  (.seq
      (.seq
      (.reg false (.fin [11, 12, 13, 14] [(14, (.bin (.cmp .lss) (.tmp 5) (.un .len (.tmp 0))))] []))
      (.cond (.tmp 14) [14]
        .skip
        (.exit 0)))
      (.seq
      (.block 1
        (.seq
        (.reg false (.loud [17, 18] [] [(18, (.un .len (.tmp 0))), (18, (.un .len (.tmp 0)))] none [] false (.makeSlice 32 (.tmp 18) (.tmp 18)) 32 (some 19) true
          (.fin [6] [(6, (.tmp 19))] [])))
        (.seq
        (.reg false (.loud [20, 21] [] [(20, (.tmp 0)), (21, (.tmp 5))] none [] false (.call ⟨.value (.func 18), #[(.tmp 20), (.tmp 21)], #[22, 3]⟩) 32 (some 22) true
          (.fin [7] [(7, (.tmp 22))] [])))
        (.seq
        (.seq
        (.reg false (.fin [8] [(8, (.con (.int .i64 0)))] []))
        (.block 2
          (.loop L.ref02_Table.l2)))
        (.reg false (.loud [54, 55] [(54, (.tmp 4))] [(55, (.tmp 6))] none [] false (.buildSlice 30 1 #[(0, (.tmp 55))]) 30 (some 56) true
          (.loud [] [] [(54, (.tmp 54)), (56, (.tmp 56))] none [] false (.call ⟨.builtin .append, #[(.tmp 54), (.tmp 56)], #[30, 30]⟩) 30 (some 57) true
            (.fin [4] [(4, (.tmp 57))] []))))))))
      (.reg false (.fin [15, 16, 5] [(5, (.bin (.arith .add) (.tmp 5) (.con (.int .i64 1))))] []))))
def L.ref02_Table : LFn :=
⟨[(.tmp 2)],
  (.seq
  (.reg false (.fin [2] [(2, (.con (.slice none 0 0)))] []))
  (.seq
  (.reg false (.loud [9] [] [(9, (.tmp 0))] none [] false (.call ⟨.value (.func 18), #[(.tmp 9), (.const (.int .i64 (-1)))], #[22, 3]⟩) 32 (some 10) true
    (.fin [3] [(3, (.tmp 10))] [])))
  (.seq
  (.reg false (.fin [4] [(4, (.con (.slice none 0 0)))] []))
  (.seq
  (.seq
  (.reg false (.fin [5] [(5, (.con (.int .i64 0)))] []))
  (.block 0
    (.loop L.ref02_Table.l1)))
  (.seq
  (.reg false (.fin [58, 2] [(2, (.tmp 4))] []))
  .ret)))))⟩
theorem E.ref02_Table : liftF Try.prog Try.f17 = some L.ref02_Table := by kernel_rfl

/-- jacquard/jacquardref02.Without -/
abbrev N.ref02_Without : Nat := 18
def L.ref02_Without.l3 : LC :=
  (.seq
                    (.seq
                    (.reg false (.fin [42, 43, 44, 45] [(45, (.bin (.cmp .lss) (.tmp 9) (.un .len (.tmp 8))))] []))
                    (.cond (.tmp 45) [45]
                      .skip
                      (.exit 4)))
                    (.seq
                    (.block 5
                      (.reg true (.loud [48, 49, 50, 51, 52, 53, 54, 55, 56, 57, 58, 59, 60, 61, 62, 63, 64, 65, 66, 67, 68] [] [(68, (.bin (.idx 1) (.tmp 5) (.un .load (.bin (.idx 1) (.tmp 8) (.tmp 9))))), (67, (.ite (.un .load (.bin (.idx 1) (.tmp 5) (.un .load (.bin (.idx 1) (.tmp 8) (.tmp 9))))) (.con (.bool true)) (.bin (.cmp .neq) (.un .load (.bin (.idx 1) (.tmp 8) (.tmp 9))) (.tmp 1))))] none [] true (.store 4 (.tmp 68) (.tmp 67)) 0 none false
                        (.fin [] [] []))))
                    (.reg false (.fin [46, 47, 9] [(9, (.bin (.arith .add) (.tmp 9) (.con (.int .i64 1))))] []))))
def L.ref02_Without.l2 : LC :=
  (.seq
            (.seq
            (.reg false (.fin [29, 30, 31, 32] [(32, (.bin (.cmp .lss) (.tmp 7) (.un .len (.tmp 0))))] []))
            (.cond (.tmp 32) [32]
              .skip
              (.exit 2)))
            (.seq
            (.block 3
              (.seq
              (.reg false (.fin [35, 36, 37, 38] [(38, (.un .load (.bin (.idx 1) (.tmp 5) (.tmp 7))))] []))
              (.cond (.tmp 38) [38]
                (.seq
                (.reg false (.loud [39, 40] [] [(39, (.tmp 0)), (40, (.tmp 7))] none [] false (.call ⟨.value (.func 45), #[(.tmp 39), (.tmp 40)], #[22, 3]⟩) 23 (some 41) true
                  (.fin [8] [(8, (.tmp 41))] [])))
                (.seq
                (.reg false (.fin [9] [(9, (.con (.int .i64 0)))] []))
                (.block 4
                  (.loop L.ref02_Without.l3))))
                .skip)))
            (.reg false (.fin [33, 34, 7] [(7, (.bin (.arith .add) (.tmp 7) (.con (.int .i64 1))))] []))))
def L.ref02_Without.l1 : LC :=
  (.seq
      (.seq
      (.reg false (.fin [23, 24, 25, 26] [(26, (.bin (.cmp .lss) (.tmp 6) (.un .len (.tmp 0))))] []))
      (.cond (.tmp 26) [26]
        .skip
        (.exit 0)))
      (.seq
      (.block 1
        (.seq
        (.reg false (.fin [7] [(7, (.con (.int .i64 0)))] []))
        (.block 2
          (.loop L.ref02_Without.l2))))
      (.reg false (.fin [27, 28, 6] [(6, (.bin (.arith .add) (.tmp 6) (.con (.int .i64 1))))] []))))
def L.ref02_Without : LFn :=
⟨[(.tmp 4)],
  (.seq
  (.reg false (.fin [4] [(4, (.con (.slice none 0 0)))] []))
  (.seq
  (.reg false (.loud [10, 11] [] [(11, (.un .len (.tmp 0))), (11, (.un .len (.tmp 0)))] none [] false (.makeSlice 32 (.tmp 11) (.tmp 11)) 32 (some 12) true
    (.fin [5] [(5, (.tmp 12))] [])))
  (.seq
  (.seq
  (.reg false (.fin [13, 14, 15, 16, 17, 18, 19] [(19, (.ite (.bin (.cmp .eql) (.un .len (.tmp 0)) (.con (.int .i64 0))) (.con (.bool true)) (.bin (.cmp .eql) (.tmp 1) (.con (.int .i64 0)))))] []))
  (.cond (.tmp 19) [19]
    (.seq
    (.reg false (.fin [20, 4] [(4, (.tmp 5))] []))
    .ret)
    .skip))
  (.seq
  (.reg false (.loud [21, 22] [] [(22, (.bin (.idx 1) (.tmp 5) (.con (.int .i64 0))))] none [] false (.store 4 (.tmp 22) (.const (.bool true))) 0 none false
    (.fin [] [] [])))
  (.seq
  (.seq
  (.reg false (.fin [6] [(6, (.con (.int .i64 0)))] []))
  (.block 0
    (.loop L.ref02_Without.l1)))
  (.seq
  (.reg false (.fin [69, 4] [(4, (.tmp 5))] []))
  .ret))))))⟩
theorem E.ref02_Without : liftF Try.prog Try.f18 = some L.ref02_Without := by kernel_rfl

/-- jacquard/jacquardref02.Edge -/
abbrev N.ref02_Edge : Nat := 19
def L.ref02_Edge.l1 : LC :=
  (.seq
      (.seq
      (.reg false (.fin [26, 27, 28, 29, 30, 31, 32] [(32, (.bin (.cmp .lss) (.tmp 7) (.un .len (.un .load (.bin (.idx 1) (.tmp 0) (.tmp 1))))))] []))
      (.cond (.tmp 32) [32]
        .skip
        (.exit 0)))
      (.seq
      (.block 1
        (.seq
        (.reg false (.fin [35, 36, 37, 38, 39, 40, 41, 42, 43] [(43, (.bin (.cmp .eql) (.un .load (.bin (.idx 1) (.un .load (.bin (.idx 1) (.tmp 0) (.tmp 1))) (.tmp 7))) (.tmp 2)))] []))
        (.cond (.tmp 43) [43]
          (.seq
          (.reg false (.fin [6] [(6, (.con (.bool true)))] []))
          .ret)
          .skip)))
      (.reg false (.fin [33, 34, 7] [(7, (.bin (.arith .add) (.tmp 7) (.con (.int .i64 1))))] []))))
def L.ref02_Edge : LFn :=
⟨[(.tmp 6)],
  (.seq
  (.reg false (.fin [6] [(6, (.con (.bool false)))] []))
  (.seq
  (.seq
  (.reg false (.fin [8, 9, 10, 11, 12, 13, 14, 15, 16, 17, 18, 19, 20, 21, 22, 23, 24, 25] [(25, (.ite (.ite (.ite (.bin (.cmp .lss) (.tmp 1) (.con (.int .i64 0))) (.con (.bool true)) (.bin (.cmp .geq) (.tmp 1) (.un .len (.tmp 0)))) (.con (.bool true)) (.bin (.cmp .lss) (.tmp 2) (.con (.int .i64 0)))) (.con (.bool true)) (.bin (.cmp .geq) (.tmp 2) (.un .len (.tmp 0)))))] []))
  (.cond (.tmp 25) [25]
    (.seq
    (.reg false (.fin [6] [(6, (.con (.bool false)))] []))
    .ret)
    .skip))
  (.seq
  (.seq
  (.reg false (.fin [7] [(7, (.con (.int .i64 0)))] []))
  (.block 0
    (.loop L.ref02_Edge.l1)))
  (.seq
  (.reg false (.fin [6] [(6, (.con (.bool false)))] []))
  .ret))))⟩
theorem E.ref02_Edge : liftF Try.prog Try.f19 = some L.ref02_Edge := by kernel_rfl

/-- jacquard/graph.Idom -/
abbrev N.graph_Idom : Nat := 20
def L.graph_Idom.l1 : LC :=
  (.seq
      (.reg false (.fin [27] [(27, (.bin (.cmp .lss) (.tmp 26) (.tmp 25)))] []))
      (.seq
      (.cond (.tmp 27) [27]
        .skip
        (.exit 0))
      (.seq
      (.block 1
        (.seq
        (.reg false (.fin [28, 6] [(6, (.tmp 26))] []))
        (.reg false (.loud [29, 30, 31, 32, 33] [(31, (.tmp 5)), (32, (.tmp 6))] [(33, (.bin (.idx 1) (.tmp 4) (.tmp 6)))] none [] false (.store 3 (.tmp 33) (.const (.int .i64 (-1)))) 0 none false
          (.loud [34] [] [(34, (.bin (.idx 1) (.tmp 31) (.tmp 32)))] none [] false (.store 3 (.tmp 34) (.const (.int .i64 (-1)))) 0 none false
            (.fin [] [] []))))))
      (.reg false (.fin [35, 26] [(26, (.bin (.arith .add) (.tmp 26) (.con (.int .i64 1))))] [])))))
def L.graph_Idom.l2 : LC :=
  (.seq
      (.reg false (.fin [39] [(39, (.bin (.cmp .lss) (.tmp 38) (.tmp 37)))] []))
      (.seq
      (.cond (.tmp 39) [39]
        .skip
        (.exit 2))
      (.seq
      (.block 3
        (.seq
        (.reg false (.fin [40, 41, 42, 7, 8] [(7, (.tmp 38)), (8, (.un .load (.bin (.idx 1) (.tmp 36) (.tmp 38))))] []))
        (.reg false (.loud [43, 44, 45, 46] [] [(46, (.bin (.idx 1) (.tmp 4) (.tmp 8))), (45, (.tmp 7))] none [] false (.store 3 (.tmp 46) (.tmp 45)) 0 none false
          (.fin [] [] [])))))
      (.reg false (.fin [47, 38] [(38, (.bin (.arith .add) (.tmp 38) (.con (.int .i64 1))))] [])))))
def L.graph_Idom.l5 : LC :=
  (.seq
                  (.reg false (.fin [67] [(67, (.bin (.cmp .lss) (.tmp 66) (.tmp 65)))] []))
                  (.seq
                  (.cond (.tmp 67) [67]
                    .skip
                    (.exit 8))
                  (.seq
                  (.block 9
                    (.seq
                    (.reg false (.fin [68, 69, 15] [(15, (.un .load (.bin (.idx 1) (.tmp 64) (.tmp 66))))] []))
                    (.seq
                    (.seq
                    (.reg false (.fin [70, 71, 72, 73, 74, 75, 76, 77, 78, 79, 80, 81, 82, 83, 84, 85] [(85, (.ite (.bin (.cmp .lss) (.un .load (.bin (.idx 1) (.tmp 4) (.tmp 15))) (.con (.int .i64 0))) (.con (.bool true)) (.ite (.bin (.cmp .neq) (.tmp 15) (.con (.int .i64 0))) (.bin (.cmp .lss) (.un .load (.bin (.idx 1) (.tmp 5) (.tmp 15))) (.con (.int .i64 0))) (.con (.bool false)))))] [(.gd (.gd (.bin (.cmp .lss) (.un .load (.bin (.idx 1) (.tmp 4) (.tmp 15))) (.con (.int .i64 0))) false (.bin (.cmp .neq) (.tmp 15) (.con (.int .i64 0)))) true (.bin (.cmp .lss) (.un .load (.bin (.idx 1) (.tmp 5) (.tmp 15))) (.con (.int .i64 0))))]))
                    (.cond (.tmp 85) [85]
                      (.exit 9)
                      .skip))
                    (.seq
                    (.seq
                    (.reg false (.fin [86, 87] [(87, (.bin (.cmp .lss) (.tmp 13) (.con (.int .i64 0))))] []))
                    (.cond (.tmp 87) [87]
                      (.seq
                      (.reg false (.fin [88, 13] [(13, (.tmp 15))] []))
                      (.exit 9))
                      .skip))
                    (.reg false (.loud [89, 90, 91, 92] [] [(89, (.tmp 5)), (90, (.tmp 4)), (91, (.tmp 13)), (92, (.tmp 15))] none [] false (.call ⟨.value (.func 46), #[(.tmp 89), (.tmp 90), (.tmp 91), (.tmp 92)], #[23, 23, 3, 3]⟩) 3 (some 93) true
                      (.fin [13] [(13, (.tmp 93))] [])))))))
                  (.reg false (.fin [94, 66] [(66, (.bin (.arith .add) (.tmp 66) (.con (.int .i64 1))))] [])))))
def L.graph_Idom.l4 : LC :=
  (.seq
            (.reg false (.fin [58] [(58, (.bin (.cmp .lss) (.tmp 57) (.tmp 56)))] []))
            (.seq
            (.cond (.tmp 58) [58]
              .skip
              (.exit 6))
            (.seq
            (.block 7
              (.seq
              (.reg false (.fin [59, 60, 12] [(12, (.un .load (.bin (.idx 1) (.tmp 55) (.tmp 57))))] []))
              (.seq
              (.reg false (.fin [13] [(13, (.con (.int .i64 (-1))))] []))
              (.seq
              (.seq
              (.reg false (.fin [61, 62, 63, 64, 65, 66] [(64, (.un .load (.bin (.idx 1) (.tmp 9) (.tmp 12)))), (65, (.un .len (.un .load (.bin (.idx 1) (.tmp 9) (.tmp 12))))), (66, (.con (.int .i64 0)))] []))
              (.block 8
                (.loop L.graph_Idom.l5)))
              (.seq
              (.reg false (.fin [95, 96, 97, 98, 99, 100] [(100, (.bin (.cmp .neq) (.un .load (.bin (.idx 1) (.tmp 5) (.tmp 12))) (.tmp 13)))] []))
              (.cond (.tmp 100) [100]
                (.reg false (.loud [101, 102, 103, 104] [] [(104, (.bin (.idx 1) (.tmp 5) (.tmp 12))), (103, (.tmp 13))] none [] false (.store 3 (.tmp 104) (.tmp 103)) 0 none false
                  (.fin [10] [(10, (.con (.bool true)))] [])))
                .skip))))))
            (.reg false (.fin [105, 57] [(57, (.bin (.arith .add) (.tmp 57) (.con (.int .i64 1))))] [])))))
def L.graph_Idom.l3 : LC :=
  (.seq
      (.seq
      (.reg false (.fin [50] [(50, (.tmp 10))] []))
      (.cond (.tmp 50) [50]
        .skip
        (.exit 4)))
      (.block 5
        (.seq
        (.reg false (.fin [10] [(10, (.con (.bool false)))] []))
        (.seq
        (.reg false (.fin [51, 52, 53, 54, 55, 56, 57] [(55, (.bin (.lo 1) (.tmp 3) (.bin .min (.con (.int .i64 1)) (.un .len (.tmp 3))))), (56, (.un .len (.bin (.lo 1) (.tmp 3) (.bin .min (.con (.int .i64 1)) (.un .len (.tmp 3)))))), (57, (.con (.int .i64 0)))] []))
        (.block 6
          (.loop L.graph_Idom.l4))))))
def L.graph_Idom : LFn :=
⟨[(.tmp 2)],
  (.seq
  (.reg false (.fin [2] [(2, (.con (.slice none 0 0)))] []))
  (.seq
  (.reg false (.loud [16] [] [(16, (.tmp 0))] none [] false (.call ⟨.value (.func 16), #[(.tmp 16)], #[22]⟩) 23 (some 17) true
    (.fin [3] [(3, (.tmp 17))] [])))
  (.seq
  (.reg false (.loud [18, 19] [] [(19, (.un .len (.tmp 0))), (19, (.un .len (.tmp 0)))] none [] false (.makeSlice 23 (.tmp 19) (.tmp 19)) 23 (some 20) true
    (.fin [4] [(4, (.tmp 20))] [])))
  (.seq
  (.reg false (.loud [21, 22] [] [(22, (.un .len (.tmp 0))), (22, (.un .len (.tmp 0)))] none [] false (.makeSlice 23 (.tmp 22) (.tmp 22)) 23 (some 23) true
    (.fin [5] [(5, (.tmp 23))] [])))
  (.seq
  (.seq
  (.reg false (.fin [24, 25, 26] [(25, (.un .len (.tmp 0))), (26, (.con (.int .i64 0)))] []))
  (.block 0
    (.loop L.graph_Idom.l1)))
  (.seq
  (.seq
  (.reg false (.fin [36, 37, 38] [(36, (.tmp 3)), (37, (.un .len (.tmp 3))), (38, (.con (.int .i64 0)))] []))
  (.block 2
    (.loop L.graph_Idom.l2)))
  (.seq
  (.reg false (.loud [48] [] [(48, (.tmp 0))] none [] false (.call ⟨.value (.func 27), #[(.tmp 48)], #[22]⟩) 22 (some 49) true
    (.fin [9] [(9, (.tmp 49))] [])))
  (.seq
  (.seq
  (.reg false (.fin [10] [(10, (.con (.bool true)))] []))
  (.block 4
    (.loop L.graph_Idom.l3)))
  (.seq
  (.reg false (.fin [106, 2] [(2, (.tmp 5))] []))
  .ret)))))))))⟩
theorem E.graph_Idom : liftF Try.prog Try.f20 = some L.graph_Idom := by kernel_rfl

/-- jacquard/jacquardlaw02.rest -/
abbrev N.law02_rest : Nat := 21
def L.law02_rest : LFn :=
⟨[(.tmp 4)],
  (.seq
  (.reg false (.fin [4] [(4, (.con (.int .i64 0)))] []))
  (.seq
  (.reg false (.fin [5, 6, 7, 8, 9, 10, 11, 4] [(4, (.bin (.div .rem) (.bin (.arith .add) (.bin (.div .rem) (.tmp 0) (.tmp 1)) (.tmp 1)) (.tmp 1)))] []))
  .ret))⟩
theorem E.law02_rest : liftF Try.prog Try.f21 = some L.law02_rest := by kernel_rfl

/-- jacquard/graph.Dominates -/
abbrev N.graph_Dominates : Nat := 22
def L.graph_Dominates.l1 : LC :=
  (.seq
      (.reg false (.fin [23] [(23, (.bin (.cmp .lss) (.tmp 22) (.tmp 21)))] []))
      (.seq
      (.cond (.tmp 23) [23]
        .skip
        (.exit 0))
      (.seq
      (.block 1
        (.seq
        (.seq
        (.reg false (.fin [24, 25, 26] [(26, (.bin (.cmp .eql) (.tmp 1) (.tmp 2)))] []))
        (.cond (.tmp 26) [26]
          (.seq
          (.reg false (.fin [6] [(6, (.con (.bool true)))] []))
          .ret)
          .skip))
        (.seq
        (.seq
        (.reg false (.loud [27, 28] [] [(27, (.tmp 7)), (28, (.tmp 2))] none [] false (.call ⟨.value (.tmp 27), #[(.tmp 28)], #[3]⟩) 4 (some 29) true
          (.fin [30] [(30, (.un .not (.tmp 29)))] [])))
        (.cond (.tmp 30) [30]
          (.seq
          (.reg false (.fin [6] [(6, (.con (.bool false)))] []))
          .ret)
          .skip))
        (.reg false (.fin [31, 32, 33, 34, 2] [(2, (.un .load (.bin (.idx 1) (.un .load (.tmp 3)) (.tmp 2))))] [])))))
      (.reg false (.fin [35, 22] [(22, (.bin (.arith .add) (.tmp 22) (.con (.int .i64 1))))] [])))))
def L.graph_Dominates : LFn :=
⟨[(.tmp 6)],
  (.seq
  (.reg false (.loud [] [] [(0, (.tmp 0))] none [] false (.box 23 (.tmp 0)) 0 (some 3) true
    (.fin [6] [(6, (.con (.bool false)))] [])))
  (.seq
  (.reg false (.fin [8, 7] [(7, (.un (.fn 47) (.snoc (.con (.tuple #[])) (.tmp 3))))] []))
  (.seq
  (.seq
  (.reg false (.loud [9, 10] [] [(9, (.tmp 7)), (10, (.tmp 1))] none [] false (.call ⟨.value (.tmp 9), #[(.tmp 10)], #[3]⟩) 4 (some 11) true
    (.loud [12, 13, 14, 15] [(13, (.un .not (.tmp 11)))] [(14, (.gd (.un .not (.tmp 11)) false (.tmp 7))), (15, (.gd (.un .not (.tmp 11)) false (.tmp 2)))] (some ((.un .not (.tmp 11)), false)) [] false (.call ⟨.value (.tmp 14), #[(.tmp 15)], #[3]⟩) 4 (some 16) true
      (.fin [17, 18] [(18, (.ite (.tmp 13) (.con (.bool true)) (.un .not (.tmp 16))))] []))))
  (.cond (.tmp 18) [18]
    (.seq
    (.reg false (.fin [6] [(6, (.con (.bool false)))] []))
    .ret)
    .skip))
  (.seq
  (.seq
  (.reg false (.fin [19, 20, 21, 22] [(21, (.bin (.arith .add) (.un .len (.un .load (.tmp 3))) (.con (.int .i64 1)))), (22, (.con (.int .i64 0)))] []))
  (.block 0
    (.loop L.graph_Dominates.l1)))
  (.seq
  (.reg false (.fin [6] [(6, (.con (.bool false)))] []))
  .ret)))))⟩
theorem E.graph_Dominates : liftF Try.prog Try.f22 = some L.graph_Dominates := by kernel_rfl

/-- jacquard/jacquardref02.Dom -/
abbrev N.ref02_Dom : Nat := 23
def L.ref02_Dom : LFn :=
⟨[(.tmp 6)],
  (.seq
  (.reg false (.fin [6] [(6, (.con (.bool false)))] []))
  (.seq
  (.reg false (.loud [8] [] [(8, (.tmp 0))] none [] false (.call ⟨.value (.func 18), #[(.tmp 8), (.const (.int .i64 (-1)))], #[22, 3]⟩) 32 (some 9) true
    (.fin [7] [(7, (.tmp 9))] [])))
  (.seq
  (.seq
  (.reg false (.fin [10, 11, 12, 13, 14, 15, 16, 17, 18, 19, 20, 21, 22, 23, 24, 25, 26, 27, 28, 29, 30, 31, 32, 33, 34, 35, 36, 37, 38, 39, 40, 41] [(41, (.ite (.ite (.ite (.ite (.ite (.bin (.cmp .lss) (.tmp 1) (.con (.int .i64 0))) (.con (.bool true)) (.bin (.cmp .geq) (.tmp 1) (.un .len (.tmp 0)))) (.con (.bool true)) (.bin (.cmp .lss) (.tmp 2) (.con (.int .i64 0)))) (.con (.bool true)) (.bin (.cmp .geq) (.tmp 2) (.un .len (.tmp 0)))) (.con (.bool true)) (.un .not (.un .load (.bin (.idx 1) (.tmp 7) (.tmp 1))))) (.con (.bool true)) (.un .not (.un .load (.bin (.idx 1) (.tmp 7) (.tmp 2))))))] []))
  (.cond (.tmp 41) [41]
    (.seq
    (.reg false (.fin [6] [(6, (.con (.bool false)))] []))
    .ret)
    .skip))
  (.seq
  (.reg false (.loud [42, 43, 44, 45, 46, 47] [(45, (.bin (.cmp .eql) (.tmp 1) (.tmp 2)))] [(46, (.gd (.bin (.cmp .eql) (.tmp 1) (.tmp 2)) false (.tmp 0))), (47, (.gd (.bin (.cmp .eql) (.tmp 1) (.tmp 2)) false (.tmp 1)))] (some ((.bin (.cmp .eql) (.tmp 1) (.tmp 2)), false)) [] false (.call ⟨.value (.func 18), #[(.tmp 46), (.tmp 47)], #[22, 3]⟩) 32 (some 48) true
    (.fin [49, 50, 51, 52, 53, 6] [(6, (.ite (.tmp 45) (.con (.bool true)) (.un .not (.un .load (.bin (.idx 1) (.tmp 48) (.tmp 2))))))] [])))
  .ret))))⟩
theorem E.ref02_Dom : liftF Try.prog Try.f23 = some L.ref02_Dom := by kernel_rfl

/-- jacquard/jacquardref02.Dominates -/
abbrev N.ref02_Dominates : Nat := 24
def L.ref02_Dominates.l1 : LC :=
  (.seq
      (.seq
      (.reg false (.fin [26, 27, 28, 29] [(29, (.bin (.cmp .leq) (.tmp 7) (.un .len (.tmp 0))))] []))
      (.cond (.tmp 29) [29]
        .skip
        (.exit 0)))
      (.seq
      (.block 1
        (.seq
        (.seq
        (.reg false (.fin [32, 33, 34] [(34, (.bin (.cmp .eql) (.tmp 2) (.tmp 1)))] []))
        (.cond (.tmp 34) [34]
          (.seq
          (.reg false (.fin [6] [(6, (.con (.bool true)))] []))
          .ret)
          .skip))
        (.seq
        (.seq
        (.reg false (.fin [35, 36, 37, 38, 39, 40, 41, 42] [(42, (.ite (.bin (.cmp .lss) (.tmp 2) (.con (.int .i64 0))) (.con (.bool true)) (.bin (.cmp .geq) (.tmp 2) (.un .len (.tmp 0)))))] []))
        (.cond (.tmp 42) [42]
          (.seq
          (.reg false (.fin [6] [(6, (.con (.bool false)))] []))
          .ret)
          .skip))
        (.reg false (.fin [43, 44, 45, 46, 2] [(2, (.un .load (.bin (.idx 1) (.tmp 0) (.tmp 2))))] [])))))
      (.reg false (.fin [30, 31, 7] [(7, (.bin (.arith .add) (.tmp 7) (.con (.int .i64 1))))] []))))
def L.ref02_Dominates : LFn :=
⟨[(.tmp 6)],
  (.seq
  (.reg false (.fin [6] [(6, (.con (.bool false)))] []))
  (.seq
  (.seq
  (.reg false (.fin [8, 9, 10, 11, 12, 13, 14, 15, 16, 17, 18, 19, 20, 21, 22, 23, 24, 25] [(25, (.ite (.ite (.ite (.bin (.cmp .lss) (.tmp 1) (.con (.int .i64 0))) (.con (.bool true)) (.bin (.cmp .geq) (.tmp 1) (.un .len (.tmp 0)))) (.con (.bool true)) (.bin (.cmp .lss) (.tmp 2) (.con (.int .i64 0)))) (.con (.bool true)) (.bin (.cmp .geq) (.tmp 2) (.un .len (.tmp 0)))))] []))
  (.cond (.tmp 25) [25]
    (.seq
    (.reg false (.fin [6] [(6, (.con (.bool false)))] []))
    .ret)
    .skip))
  (.seq
  (.seq
  (.reg false (.fin [7] [(7, (.con (.int .i64 0)))] []))
  (.block 0
    (.loop L.ref02_Dominates.l1)))
  (.seq
  (.reg false (.fin [6] [(6, (.con (.bool false)))] []))
  .ret))))⟩
theorem E.ref02_Dominates : liftF Try.prog Try.f24 = some L.ref02_Dominates := by kernel_rfl

/-- jacquard/graph.Headers -/
abbrev N.graph_Headers : Nat := 25
def L.graph_Headers : LFn :=
⟨[(.tmp 2)],
  (.seq
  (.reg false (.fin [2] [(2, (.con (.slice none 0 0)))] []))
  (.seq
  (.reg false (.loud [7] [] [(7, (.tmp 0))] none [] false (.call ⟨.value (.func 48), #[(.tmp 7)], #[22]⟩) 63 (some 8) true
    (.loud [] [] [] none [] false (.alloc 63) 0 (some 3) true
      (.loud [] [] [(3, (.tmp 3)), (8, (.tmp 8))] none [] false (.store 63 (.tmp 3) (.tmp 8)) 0 none false
        (.fin [] [] [])))))
  (.seq
  (.reg false (.loud [] [] [] none [] false (.alloc 23) 0 (some 4) true
    (.fin [] [] [])))
  (.seq
  (.seq
  (.reg false (.loud [9] [] [(9, (.tmp 0))] none [] false (.call ⟨.value (.func 49), #[(.tmp 9)], #[22]⟩) 66 (some 10) true
    (.fin [] [] [])))
  (.block 0
    (.rangef (.tmp 10) [11, 12]
      (.seq
      (.reg false (.fin [5] [(5, (.tmp 11))] []))
      (.reg false (.fin [6] [(6, (.tmp 12))] [])))
      (.block 1
        (.seq
        (.reg false (.loud [13, 14, 15] [] [(13, (.un .load (.tmp 3))), (14, (.tmp 5)), (15, (.tmp 6))] none [] false (.call ⟨.value (.tmp 13), #[(.tmp 14), (.tmp 15)], #[3, 3]⟩) 4 (some 16) true
          (.fin [] [] [])))
        (.cond (.tmp 16) [16]
          (.reg false (.loud [17, 18] [(17, (.un .load (.tmp 4)))] [(18, (.tmp 6))] none [] false (.buildSlice 23 1 #[(0, (.tmp 18))]) 23 (some 19) true
            (.loud [] [] [(17, (.tmp 17)), (19, (.tmp 19))] none [] false (.call ⟨.builtin .append, #[(.tmp 17), (.tmp 19)], #[23, 23]⟩) 23 (some 20) true
              (.loud [] [] [(4, (.tmp 4)), (20, (.tmp 20))] none [] false (.store 23 (.tmp 4) (.tmp 20)) 0 none false
                (.fin [] [] [])))))
          .skip))))))
  (.seq
  (.reg false (.loud [21] [] [(21, (.un .load (.tmp 4)))] none [] false (.call ⟨.value (.func 50), #[(.tmp 21)], #[23]⟩) 0 (some 22) false
    (.fin [] [] [])))
  (.seq
  (.reg false (.loud [23] [] [(23, (.un .load (.tmp 4)))] none [] false (.call ⟨.value (.func 51), #[(.tmp 23)], #[23]⟩) 23 (some 24) true
    (.fin [2] [(2, (.tmp 24))] [])))
  .ret))))))⟩
theorem E.graph_Headers : liftF Try.prog Try.f25 = some L.graph_Headers := by kernel_rfl

/-- jacquard/graph.Body -/
abbrev N.graph_Body : Nat := 26
def L.graph_Body.l1 : LC :=
  (.seq
      (.seq
      (.reg false (.fin [45, 46, 47] [(47, (.bin (.cmp .gtr) (.un .len (.un .load (.tmp 9))) (.con (.int .i64 0))))] []))
      (.cond (.tmp 47) [47]
        .skip
        (.exit 2)))
      (.block 3
        (.seq
        (.reg false (.fin [48, 49, 50, 51, 52, 53, 12] [(12, (.un .load (.bin (.idx 1) (.un .load (.tmp 9)) (.bin (.arith .sub) (.un .len (.un .load (.tmp 9))) (.con (.int .i64 1))))))] []))
        (.seq
        (.reg false (.loud [54, 55, 56, 57, 58] [] [(9, (.tmp 9)), (58, (.bin .hi (.un .load (.tmp 9)) (.bin (.arith .sub) (.un .len (.un .load (.tmp 9))) (.con (.int .i64 1)))))] none [] false (.store 23 (.tmp 9) (.tmp 58)) 0 none false
          (.fin [] [] [])))
        (.seq
        (.reg false (.loud [59, 60] [] [(59, (.tmp 8)), (60, (.tmp 12))] none [] false (.lookup 39 (.tmp 59) (.tmp 60) false) 4 (some 61) true
          (.fin [62] [(62, (.un .not (.tmp 61)))] [])))
        (.cond (.tmp 62) [62]
          (.seq
          (.reg false (.loud [63, 64] [] [(63, (.tmp 8)), (64, (.tmp 12))] none [] false (.mapUpdate 39 (.tmp 63) (.tmp 64) (.const (.bool true))) 0 none false
            (.fin [] [] [])))
          (.reg true (.loud [65, 66, 67, 68, 69] [] [(65, (.un .load (.tmp 9))), (69, (.un .load (.bin (.idx 1) (.tmp 6) (.tmp 12))))] none [] true (.call ⟨.builtin .append, #[(.tmp 65), (.tmp 69)], #[23, 23]⟩) 23 (some 70) true
            (.loud [] [] [(9, (.tmp 9)), (70, (.tmp 70))] none [] false (.store 23 (.tmp 9) (.tmp 70)) 0 none false
              (.fin [] [] [])))))
          .skip))))))
def L.graph_Body.l2 : LC :=
  (.seq
      (.reg false (.fin [74] [(74, (.bin (.cmp .lss) (.tmp 73) (.tmp 72)))] []))
      (.seq
      (.cond (.tmp 74) [74]
        .skip
        (.exit 4))
      (.seq
      (.block 5
        (.seq
        (.reg false (.fin [75, 76, 15] [(15, (.un .load (.bin (.idx 1) (.tmp 71) (.tmp 73))))] []))
        (.seq
        (.reg false (.loud [77, 78] [] [(77, (.tmp 8)), (78, (.tmp 15))] none [] false (.lookup 39 (.tmp 77) (.tmp 78) false) 4 (some 79) true
          (.fin [] [] [])))
        (.cond (.tmp 79) [79]
          (.reg false (.loud [80, 81] [(80, (.tmp 13))] [(81, (.tmp 15))] none [] false (.buildSlice 23 1 #[(0, (.tmp 81))]) 23 (some 82) true
            (.loud [] [] [(80, (.tmp 80)), (82, (.tmp 82))] none [] false (.call ⟨.builtin .append, #[(.tmp 80), (.tmp 82)], #[23, 23]⟩) 23 (some 83) true
              (.fin [13] [(13, (.tmp 83))] []))))
          .skip))))
      (.reg false (.fin [84, 73] [(73, (.bin (.arith .add) (.tmp 73) (.con (.int .i64 1))))] [])))))
def L.graph_Body : LFn :=
⟨[(.tmp 4)],
  (.seq
  (.reg false (.loud [] [] [(1, (.tmp 1))] none [] false (.box 3 (.tmp 1)) 0 (some 3) true
    (.fin [4] [(4, (.con (.slice none 0 0)))] [])))
  (.seq
  (.reg false (.loud [16] [] [(16, (.tmp 0))] none [] false (.call ⟨.value (.func 48), #[(.tmp 16)], #[22]⟩) 63 (some 17) true
    (.loud [] [] [] none [] false (.alloc 63) 0 (some 5) true
      (.loud [] [] [(5, (.tmp 5)), (17, (.tmp 17))] none [] false (.store 63 (.tmp 5) (.tmp 17)) 0 none false
        (.fin [] [] [])))))
  (.seq
  (.reg false (.loud [18] [] [(18, (.tmp 0))] none [] false (.call ⟨.value (.func 27), #[(.tmp 18)], #[22]⟩) 22 (some 19) true
    (.fin [6] [(6, (.tmp 19))] [])))
  (.seq
  (.reg false (.loud [20] [] [(20, (.tmp 0))] none [] false (.call ⟨.value (.func 16), #[(.tmp 20)], #[22]⟩) 23 (some 21) true
    (.fin [7] [(7, (.tmp 21))] [])))
  (.seq
  (.reg false (.loud [] [] [] none [] false (.makeMap 39 none) 39 (some 22) true
    (.loud [23] [] [(22, (.tmp 22)), (23, (.un .load (.tmp 3)))] none [] false (.insert 39 (.tmp 22) (.tmp 23) (.const (.bool true))) 0 none false
      (.fin [24, 8] [(8, (.tmp 22))] []))))
  (.seq
  (.reg false (.loud [] [] [] none [] false (.alloc 23) 0 (some 9) true
    (.fin [] [] [])))
  (.seq
  (.seq
  (.reg false (.loud [25] [] [(25, (.tmp 0))] none [] false (.call ⟨.value (.func 49), #[(.tmp 25)], #[22]⟩) 66 (some 26) true
    (.fin [] [] [])))
  (.block 0
    (.rangef (.tmp 26) [27, 28]
      (.seq
      (.reg false (.fin [10] [(10, (.tmp 27))] []))
      (.reg false (.fin [11] [(11, (.tmp 28))] [])))
      (.block 1
        (.seq
        (.reg false (.loud [29, 30, 31, 32, 33, 34, 35] [(32, (.bin (.cmp .eql) (.tmp 11) (.un .load (.tmp 3))))] [(33, (.gd (.bin (.cmp .eql) (.tmp 11) (.un .load (.tmp 3))) true (.un .load (.tmp 5)))), (34, (.gd (.bin (.cmp .eql) (.tmp 11) (.un .load (.tmp 3))) true (.tmp 10))), (35, (.gd (.bin (.cmp .eql) (.tmp 11) (.un .load (.tmp 3))) true (.tmp 11)))] (some ((.bin (.cmp .eql) (.tmp 11) (.un .load (.tmp 3))), true)) [] false (.call ⟨.value (.tmp 33), #[(.tmp 34), (.tmp 35)], #[3, 3]⟩) 4 (some 36) true
          (.fin [37] [(37, (.ite (.tmp 32) (.tmp 36) (.con (.bool false))))] [])))
        (.cond (.tmp 37) [37]
          (.reg false (.loud [38, 39] [(38, (.un .load (.tmp 9)))] [(39, (.tmp 10))] none [] false (.buildSlice 23 1 #[(0, (.tmp 39))]) 23 (some 40) true
            (.loud [] [] [(38, (.tmp 38)), (40, (.tmp 40))] none [] false (.call ⟨.builtin .append, #[(.tmp 38), (.tmp 40)], #[23, 23]⟩) 23 (some 41) true
              (.loud [] [] [(9, (.tmp 9)), (41, (.tmp 41))] none [] false (.store 23 (.tmp 9) (.tmp 41)) 0 none false
                (.fin [] [] [])))))
          .skip))))))
  (.seq
  (.seq
  (.reg false (.fin [42, 43, 44] [(44, (.bin (.cmp .eql) (.un .len (.un .load (.tmp 9))) (.con (.int .i64 0))))] []))
  (.cond (.tmp 44) [44]
    (.seq
    (.reg false (.fin [4] [(4, (.con (.slice none 0 0)))] []))
    .ret)
    .skip))
  (.seq
  (.block 2
    (.loop L.graph_Body.l1))
  (.seq
  (.reg false (.fin [13] [(13, (.con (.slice none 0 0)))] []))
  (.seq
  (.seq
  (.reg false (.fin [71, 72, 73] [(71, (.tmp 7)), (72, (.un .len (.tmp 7))), (73, (.con (.int .i64 0)))] []))
  (.block 4
    (.loop L.graph_Body.l2)))
  (.seq
  (.reg false (.loud [85] [] [(85, (.tmp 13))] none [] false (.call ⟨.value (.func 50), #[(.tmp 85)], #[23]⟩) 0 (some 86) false
    (.fin [] [] [])))
  (.seq
  (.reg false (.fin [87, 4] [(4, (.tmp 13))] []))
  .ret)))))))))))))⟩
theorem E.graph_Body : liftF Try.prog Try.f26 = some L.graph_Body := by kernel_rfl

/-- jacquard/graph.Preds -/
abbrev N.graph_Preds : Nat := 27
def L.graph_Preds : LFn :=
⟨[(.tmp 2)],
  (.seq
  (.reg false (.fin [2] [(2, (.con (.slice none 0 0)))] []))
  (.seq
  (.reg false (.loud [6, 7] [] [(7, (.un .len (.tmp 0))), (7, (.un .len (.tmp 0)))] none [] false (.makeSlice 22 (.tmp 7) (.tmp 7)) 22 (some 8) true
    (.loud [] [] [] none [] false (.alloc 22) 0 (some 3) true
      (.loud [] [] [(3, (.tmp 3)), (8, (.tmp 8))] none [] false (.store 22 (.tmp 3) (.tmp 8)) 0 none false
        (.fin [] [] [])))))
  (.seq
  (.seq
  (.reg false (.loud [9] [] [(9, (.tmp 0))] none [] false (.call ⟨.value (.func 49), #[(.tmp 9)], #[22]⟩) 66 (some 10) true
    (.fin [] [] [])))
  (.block 0
    (.rangef (.tmp 10) [11, 12]
      (.seq
      (.reg false (.fin [4] [(4, (.tmp 11))] []))
      (.reg false (.fin [5] [(5, (.tmp 12))] [])))
      (.block 1
        (.reg true (.loud [13, 14, 15, 16, 17, 18, 19] [(13, (.un .load (.tmp 3))), (14, (.tmp 5)), (18, (.un .load (.bin (.idx 1) (.un .load (.tmp 3)) (.tmp 5))))] [(19, (.tmp 4))] none [] false (.buildSlice 23 1 #[(0, (.tmp 19))]) 23 (some 20) true
          (.loud [] [] [(18, (.tmp 18)), (20, (.tmp 20))] none [] false (.call ⟨.builtin .append, #[(.tmp 18), (.tmp 20)], #[23, 23]⟩) 23 (some 21) true
            (.loud [22] [] [(22, (.bin (.idx 1) (.tmp 13) (.tmp 14))), (21, (.tmp 21))] none [] true (.store 23 (.tmp 22) (.tmp 21)) 0 none false
              (.fin [] [] [])))))))))
  (.seq
  (.reg false (.fin [23, 2] [(2, (.un .load (.tmp 3)))] []))
  .ret))))⟩
theorem E.graph_Preds : liftF Try.prog Try.f27 = some L.graph_Preds := by kernel_rfl

/-- jacquard/graph.Critical -/
abbrev N.graph_Critical : Nat := 28
def L.graph_Critical : LFn :=
⟨[(.tmp 2)],
  (.seq
  (.reg false (.fin [2] [(2, (.con (.slice none 0 0)))] []))
  (.seq
  (.reg false (.loud [8] [] [(8, (.tmp 0))] none [] false (.call ⟨.value (.func 42), #[(.tmp 8)], #[22]⟩) 22 (some 9) true
    (.loud [10] [] [(10, (.tmp 0))] none [] false (.call ⟨.value (.func 27), #[(.tmp 10)], #[22]⟩) 22 (some 11) true
      (.loud [] [] [] none [] false (.alloc 22) 0 (some 3) true
        (.loud [] [] [] none [] false (.alloc 22) 0 (some 4) true
          (.loud [] [] [(3, (.tmp 3)), (9, (.tmp 9))] none [] false (.store 22 (.tmp 3) (.tmp 9)) 0 none false
            (.loud [] [] [(4, (.tmp 4)), (11, (.tmp 11))] none [] false (.store 22 (.tmp 4) (.tmp 11)) 0 none false
              (.fin [] [] []))))))))
  (.seq
  (.reg false (.loud [] [] [] none [] false (.alloc 42) 0 (some 5) true
    (.fin [] [] [])))
  (.seq
  (.seq
  (.reg false (.loud [12] [] [(12, (.tmp 0))] none [] false (.call ⟨.value (.func 49), #[(.tmp 12)], #[22]⟩) 66 (some 13) true
    (.fin [] [] [])))
  (.block 0
    (.rangef (.tmp 13) [14, 15]
      (.seq
      (.reg false (.fin [6] [(6, (.tmp 14))] []))
      (.reg false (.fin [7] [(7, (.tmp 15))] [])))
      (.block 1
        (.seq
        (.reg false (.fin [16, 17, 18, 19, 20, 21, 22, 23, 24, 25, 26, 27, 28, 29] [(29, (.ite (.bin (.cmp .gtr) (.un .len (.un .load (.bin (.idx 1) (.un .load (.tmp 3)) (.tmp 6)))) (.con (.int .i64 1))) (.bin (.cmp .gtr) (.un .len (.un .load (.bin (.idx 1) (.un .load (.tmp 4)) (.tmp 7)))) (.con (.int .i64 1))) (.con (.bool false))))] []))
        (.cond (.tmp 29) [29]
          (.reg false (.loud [30, 31, 32] [(30, (.un .load (.tmp 5)))] [(31, (.tmp 6)), (32, (.tmp 7))] none [] false (.build 41 #[(0, (.tmp 31)), (1, (.tmp 32))]) 41 (some 33) true
            (.loud [] [] [(33, (.tmp 33))] none [] false (.buildSlice 42 1 #[(0, (.tmp 33))]) 42 (some 34) true
              (.loud [] [] [(30, (.tmp 30)), (34, (.tmp 34))] none [] false (.call ⟨.builtin .append, #[(.tmp 30), (.tmp 34)], #[42, 42]⟩) 42 (some 35) true
                (.loud [] [] [(5, (.tmp 5)), (35, (.tmp 35))] none [] false (.store 42 (.tmp 5) (.tmp 35)) 0 none false
                  (.fin [] [] []))))))
          .skip))))))
  (.seq
  (.reg false (.fin [36, 2] [(2, (.un .load (.tmp 5)))] []))
  .ret)))))⟩
theorem E.graph_Critical : liftF Try.prog Try.f28 = some L.graph_Critical := by kernel_rfl

/-- jacquard/graph.Reducible -/
abbrev N.graph_Reducible : Nat := 29
def L.graph_Reducible.l1 : LC :=
  (.seq
      (.reg false (.fin [16] [(16, (.bin (.cmp .lss) (.tmp 15) (.tmp 14)))] []))
      (.seq
      (.cond (.tmp 16) [16]
        .skip
        (.exit 0))
      (.seq
      (.block 1
        (.seq
        (.reg false (.fin [17, 18, 19, 5, 6] [(5, (.tmp 15)), (6, (.un .load (.bin (.idx 1) (.tmp 13) (.tmp 15))))] []))
        (.reg false (.loud [20, 21, 22, 23] [] [(20, (.un .load (.tmp 4))), (21, (.tmp 6)), (23, (.bin (.arith .add) (.tmp 5) (.con (.int .i64 1))))] none [] false (.mapUpdate 69 (.tmp 20) (.tmp 21) (.tmp 23)) 0 none false
          (.fin [] [] [])))))
      (.reg false (.fin [24, 15] [(15, (.bin (.arith .add) (.tmp 15) (.con (.int .i64 1))))] [])))))
def L.graph_Reducible : LFn :=
⟨[(.un .load (.tmp 2))],
  (.seq
  (.reg false (.loud [] [] [] none [] false (.alloc 4) 0 (some 2) true
    (.fin [] [] [])))
  (.seq
  (.reg false (.loud [9] [] [(9, (.tmp 0))] none [] false (.call ⟨.value (.func 48), #[(.tmp 9)], #[22]⟩) 63 (some 10) true
    (.loud [] [] [] none [] false (.alloc 63) 0 (some 3) true
      (.loud [] [] [(3, (.tmp 3)), (10, (.tmp 10))] none [] false (.store 63 (.tmp 3) (.tmp 10)) 0 none false
        (.fin [] [] [])))))
  (.seq
  (.reg false (.loud [] [] [] none [] false (.makeMap 69 none) 69 (some 11) true
    (.loud [] [] [] none [] false (.alloc 69) 0 (some 4) true
      (.loud [] [] [(4, (.tmp 4)), (11, (.tmp 11))] none [] false (.store 69 (.tmp 4) (.tmp 11)) 0 none false
        (.fin [] [] [])))))
  (.seq
  (.seq
  (.reg false (.loud [12] [] [(12, (.tmp 0))] none [] false (.call ⟨.value (.func 16), #[(.tmp 12)], #[22]⟩) 23 (some 13) true
    (.fin [14, 15] [(14, (.un .len (.tmp 13))), (15, (.con (.int .i64 0)))] [])))
  (.block 0
    (.loop L.graph_Reducible.l1)))
  (.seq
  (.seq
  (.reg false (.loud [25] [] [(25, (.tmp 0))] none [] false (.call ⟨.value (.func 49), #[(.tmp 25)], #[22]⟩) 66 (some 26) true
    (.fin [] [] [])))
  (.block 2
    (.rangef (.tmp 26) [27, 28]
      (.seq
      (.reg false (.fin [7] [(7, (.tmp 27))] []))
      (.reg false (.fin [8] [(8, (.tmp 28))] [])))
      (.block 3
        (.seq
        (.reg false (.loud [29, 30] [] [(29, (.un .load (.tmp 4))), (30, (.tmp 7))] none [] false (.lookup 69 (.tmp 29) (.tmp 30) false) 3 (some 31) true
          (.loud [32, 33, 34, 35] [(33, (.bin (.cmp .gtr) (.tmp 31) (.con (.int .i64 0))))] [(34, (.gd (.bin (.cmp .gtr) (.tmp 31) (.con (.int .i64 0))) true (.un .load (.tmp 4)))), (35, (.gd (.bin (.cmp .gtr) (.tmp 31) (.con (.int .i64 0))) true (.tmp 8)))] (some ((.bin (.cmp .gtr) (.tmp 31) (.con (.int .i64 0))), true)) [] false (.lookup 69 (.tmp 34) (.tmp 35) false) 3 (some 36) true
            (.loud [37, 38] [] [(37, (.gd (.tmp 33) true (.un .load (.tmp 4)))), (38, (.gd (.tmp 33) true (.tmp 7)))] (some ((.tmp 33), true)) [] false (.lookup 69 (.tmp 37) (.tmp 38) false) 3 (some 39) true
              (.loud [40, 41, 42, 43, 44, 45] [(42, (.ite (.tmp 33) (.bin (.cmp .leq) (.tmp 36) (.tmp 39)) (.con (.bool false))))] [(43, (.gd (.ite (.tmp 33) (.bin (.cmp .leq) (.tmp 36) (.tmp 39)) (.con (.bool false))) true (.un .load (.tmp 3)))), (44, (.gd (.ite (.tmp 33) (.bin (.cmp .leq) (.tmp 36) (.tmp 39)) (.con (.bool false))) true (.tmp 7))), (45, (.gd (.ite (.tmp 33) (.bin (.cmp .leq) (.tmp 36) (.tmp 39)) (.con (.bool false))) true (.tmp 8)))] (some ((.ite (.tmp 33) (.bin (.cmp .leq) (.tmp 36) (.tmp 39)) (.con (.bool false))), true)) [] false (.call ⟨.value (.tmp 43), #[(.tmp 44), (.tmp 45)], #[3, 3]⟩) 4 (some 46) true
                (.fin [47, 48] [(48, (.ite (.tmp 42) (.un .not (.tmp 46)) (.con (.bool false))))] []))))))
        (.cond (.tmp 48) [48]
          (.seq
          (.reg false (.loud [] [] [(2, (.tmp 2))] none [] false (.store 4 (.tmp 2) (.const (.bool false))) 0 none false
            (.fin [] [] [])))
          .ret)
          .skip))))))
  (.seq
  (.reg false (.loud [] [] [(2, (.tmp 2))] none [] false (.store 4 (.tmp 2) (.const (.bool true))) 0 none false
    (.fin [] [] [])))
  .ret))))))⟩
theorem E.graph_Reducible : liftF Try.prog Try.f29 = some L.graph_Reducible := by kernel_rfl

/-- jacquard/jacquardref02.Rows -/
abbrev N.ref02_Rows : Nat := 30
def L.ref02_Rows.l1 : LC :=
  (.seq
      (.seq
      (.reg false (.fin [12, 13, 14, 15] [(15, (.bin (.cmp .lss) (.tmp 5) (.un .len (.tmp 0))))] []))
      (.cond (.tmp 15) [15]
        .skip
        (.exit 0)))
      (.seq
      (.block 1
        (.seq
        (.reg true (.loud [18, 19, 20, 21, 22, 23, 24, 25] [] [(21, (.un .load (.bin (.idx 1) (.tmp 0) (.tmp 5)))), (25, (.un .load (.bin (.idx 1) (.tmp 1) (.tmp 5))))] none [] true (.call ⟨.value (.func 33), #[(.tmp 21), (.tmp 25)], #[23, 23]⟩) 4 (some 26) true
          (.fin [6] [(6, (.tmp 26))] [])))
        (.seq
        (.reg false (.fin [27, 28] [(28, (.un .not (.tmp 6)))] []))
        (.cond (.tmp 28) [28]
          (.seq
          (.reg false (.fin [4] [(4, (.con (.bool false)))] []))
          .ret)
          .skip))))
      (.reg false (.fin [16, 17, 5] [(5, (.bin (.arith .add) (.tmp 5) (.con (.int .i64 1))))] []))))
def L.ref02_Rows : LFn :=
⟨[(.tmp 4)],
  (.seq
  (.reg false (.fin [4] [(4, (.con (.bool false)))] []))
  (.seq
  (.seq
  (.reg false (.fin [7, 8, 9, 10, 11] [(11, (.bin (.cmp .neq) (.un .len (.tmp 0)) (.un .len (.tmp 1))))] []))
  (.cond (.tmp 11) [11]
    (.seq
    (.reg false (.fin [4] [(4, (.con (.bool false)))] []))
    .ret)
    .skip))
  (.seq
  (.seq
  (.reg false (.fin [5] [(5, (.con (.int .i64 0)))] []))
  (.block 0
    (.loop L.ref02_Rows.l1)))
  (.seq
  (.reg false (.fin [4] [(4, (.con (.bool true)))] []))
  .ret))))⟩
theorem E.ref02_Rows : liftF Try.prog Try.f30 = some L.ref02_Rows := by kernel_rfl

/-- jacquard/graph.Of -/
abbrev N.graph_Of : Nat := 31
def L.graph_Of.l1 : LC :=
  (.seq
      (.reg false (.fin [14] [(14, (.bin (.cmp .lss) (.tmp 13) (.tmp 12)))] []))
      (.seq
      (.cond (.tmp 14) [14]
        .skip
        (.exit 0))
      (.seq
      (.block 1
        (.seq
        (.reg false (.loud [15, 16, 17] [(15, (.tmp 13)), (17, (.un (.loads 6) (.bin (.idx 6) (.tmp 11) (.tmp 13))))] [] none [] false (.alloc 54) 0 (some 5) true
          (.loud [4] [(4, (.tmp 15))] [(5, (.tmp 5)), (17, (.tmp 17))] none [] false (.store 54 (.tmp 5) (.tmp 17)) 0 none false
            (.fin [] [] []))))
        (.reg false (.loud [18, 19, 20, 21, 22, 23, 24, 25] [(18, (.tmp 3)), (19, (.tmp 4))] [(22, (.un .load (.un (.fld 2) (.un (.fld 2) (.tmp 5))))), (25, (.un .len (.un .load (.un (.fld 1) (.tmp 1)))))] none [] false (.call ⟨.value (.func 52), #[(.tmp 22), (.tmp 25)], #[23, 3]⟩) 23 (some 26) true
          (.loud [27] [] [(27, (.bin (.idx 1) (.tmp 18) (.tmp 19))), (26, (.tmp 26))] none [] false (.store 23 (.tmp 27) (.tmp 26)) 0 none false
            (.fin [] [] []))))))
      (.reg false (.fin [28, 13] [(13, (.bin (.arith .add) (.tmp 13) (.con (.int .i64 1))))] [])))))
def L.graph_Of : LFn :=
⟨[(.tmp 2)],
  (.seq
  (.reg false (.loud [] [] [(0, (.tmp 0))] none [] false (.box 48 (.tmp 0)) 0 (some 1) true
    (.fin [2] [(2, (.con (.slice none 0 0)))] [])))
  (.seq
  (.reg false (.loud [6, 7, 8] [] [(8, (.un .len (.un .load (.un (.fld 1) (.tmp 1))))), (8, (.un .len (.un .load (.un (.fld 1) (.tmp 1)))))] none [] false (.makeSlice 22 (.tmp 8) (.tmp 8)) 22 (some 9) true
    (.fin [3] [(3, (.tmp 9))] [])))
  (.seq
  (.seq
  (.reg false (.fin [10, 11, 12, 13] [(11, (.un .load (.un (.fld 1) (.tmp 1)))), (12, (.un .len (.un .load (.un (.fld 1) (.tmp 1))))), (13, (.con (.int .i64 0)))] []))
  (.block 0
    (.loop L.graph_Of.l1)))
  (.seq
  (.reg false (.fin [29, 2] [(2, (.tmp 3))] []))
  .ret))))⟩
theorem E.graph_Of : liftF Try.prog Try.f31 = some L.graph_Of := by kernel_rfl

/-- jacquard/jacquardref02.Of -/
abbrev N.ref02_Of : Nat := 32
def L.ref02_Of.l3 : LC :=
  (.seq
                  (.seq
                  (.reg false (.fin [23, 24, 25, 26, 27, 28, 29, 30, 31, 32] [(32, (.bin (.cmp .lss) (.tmp 8) (.un .len (.un .load (.un (.fld 2) (.un (.fld 2) (.bin (.idx 6) (.un .load (.un (.fld 1) (.tmp 1))) (.tmp 4))))))))] []))
                  (.cond (.tmp 32) [32]
                    .skip
                    (.exit 4)))
                  (.seq
                  (.block 5
                    (.reg false (.fin [35, 36, 37, 38, 39, 40, 41, 42, 43, 44, 45, 46, 47, 48, 49, 7] [(7, (.ite (.tmp 7) (.con (.bool true)) (.bin (.cmp .eql) (.un .load (.bin (.idx 1) (.un .load (.un (.fld 2) (.un (.fld 2) (.bin (.idx 6) (.un .load (.un (.fld 1) (.tmp 1))) (.tmp 4))))) (.tmp 8))) (.tmp 6))))] [])))
                  (.reg false (.fin [33, 34, 8] [(8, (.bin (.arith .add) (.tmp 8) (.con (.int .i64 1))))] []))))
def L.ref02_Of.l2 : LC :=
  (.seq
            (.seq
            (.reg false (.fin [16, 17, 18, 19, 20] [(20, (.bin (.cmp .lss) (.tmp 6) (.un .len (.un .load (.un (.fld 1) (.tmp 1))))))] []))
            (.cond (.tmp 20) [20]
              .skip
              (.exit 2)))
            (.seq
            (.block 3
              (.seq
              (.reg false (.fin [7] [(7, (.con (.bool false)))] []))
              (.seq
              (.seq
              (.reg false (.fin [8] [(8, (.con (.int .i64 0)))] []))
              (.block 4
                (.loop L.ref02_Of.l3)))
              (.seq
              (.reg false (.fin [50] [(50, (.tmp 7))] []))
              (.cond (.tmp 50) [50]
                (.reg false (.loud [51, 52] [(51, (.tmp 5))] [(52, (.tmp 6))] none [] false (.buildSlice 23 1 #[(0, (.tmp 52))]) 23 (some 53) true
                  (.loud [] [] [(51, (.tmp 51)), (53, (.tmp 53))] none [] false (.call ⟨.builtin .append, #[(.tmp 51), (.tmp 53)], #[23, 23]⟩) 23 (some 54) true
                    (.fin [5] [(5, (.tmp 54))] []))))
                .skip)))))
            (.reg false (.fin [21, 22, 6] [(6, (.bin (.arith .add) (.tmp 6) (.con (.int .i64 1))))] []))))
def L.ref02_Of.l1 : LC :=
  (.seq
      (.seq
      (.reg false (.fin [9, 10, 11, 12, 13] [(13, (.bin (.cmp .lss) (.tmp 4) (.un .len (.un .load (.un (.fld 1) (.tmp 1))))))] []))
      (.cond (.tmp 13) [13]
        .skip
        (.exit 0)))
      (.seq
      (.block 1
        (.seq
        (.reg false (.fin [5] [(5, (.con (.slice none 0 0)))] []))
        (.seq
        (.seq
        (.reg false (.fin [6] [(6, (.con (.int .i64 0)))] []))
        (.block 2
          (.loop L.ref02_Of.l2)))
        (.reg false (.loud [55, 56] [(55, (.tmp 3))] [(56, (.tmp 5))] none [] false (.buildSlice 22 1 #[(0, (.tmp 56))]) 22 (some 57) true
          (.loud [] [] [(55, (.tmp 55)), (57, (.tmp 57))] none [] false (.call ⟨.builtin .append, #[(.tmp 55), (.tmp 57)], #[22, 22]⟩) 22 (some 58) true
            (.fin [3] [(3, (.tmp 58))] [])))))))
      (.reg false (.fin [14, 15, 4] [(4, (.bin (.arith .add) (.tmp 4) (.con (.int .i64 1))))] []))))
def L.ref02_Of : LFn :=
⟨[(.tmp 2)],
  (.seq
  (.reg false (.loud [] [] [(0, (.tmp 0))] none [] false (.box 48 (.tmp 0)) 0 (some 1) true
    (.fin [2] [(2, (.con (.slice none 0 0)))] [])))
  (.seq
  (.reg false (.fin [3] [(3, (.con (.slice none 0 0)))] []))
  (.seq
  (.seq
  (.reg false (.fin [4] [(4, (.con (.int .i64 0)))] []))
  (.block 0
    (.loop L.ref02_Of.l1)))
  (.seq
  (.reg false (.fin [59, 2] [(2, (.tmp 3))] []))
  .ret))))⟩
theorem E.ref02_Of : liftF Try.prog Try.f32 = some L.ref02_Of := by kernel_rfl

/-- jacquard/jacquardref02.Nums -/
abbrev N.ref02_Nums : Nat := 33
def L.ref02_Nums.l1 : LC :=
  (.seq
      (.seq
      (.reg false (.fin [11, 12, 13, 14] [(14, (.bin (.cmp .lss) (.tmp 5) (.un .len (.tmp 0))))] []))
      (.cond (.tmp 14) [14]
        .skip
        (.exit 0)))
      (.seq
      (.block 1
        (.seq
        (.reg true (.fin [17, 18, 19, 20, 21, 22, 23, 24, 25] [(25, (.bin (.cmp .neq) (.un .load (.bin (.idx 1) (.tmp 0) (.tmp 5))) (.un .load (.bin (.idx 1) (.tmp 1) (.tmp 5)))))] []))
        (.cond (.tmp 25) [25]
          (.seq
          (.reg false (.fin [4] [(4, (.con (.bool false)))] []))
          .ret)
          .skip)))
      (.reg false (.fin [15, 16, 5] [(5, (.bin (.arith .add) (.tmp 5) (.con (.int .i64 1))))] []))))
def L.ref02_Nums : LFn :=
⟨[(.tmp 4)],
  (.seq
  (.reg false (.fin [4] [(4, (.con (.bool false)))] []))
  (.seq
  (.seq
  (.reg false (.fin [6, 7, 8, 9, 10] [(10, (.bin (.cmp .neq) (.un .len (.tmp 0)) (.un .len (.tmp 1))))] []))
  (.cond (.tmp 10) [10]
    (.seq
    (.reg false (.fin [4] [(4, (.con (.bool false)))] []))
    .ret)
    .skip))
  (.seq
  (.seq
  (.reg false (.fin [5] [(5, (.con (.int .i64 0)))] []))
  (.block 0
    (.loop L.ref02_Nums.l1)))
  (.seq
  (.reg false (.fin [4] [(4, (.con (.bool true)))] []))
  .ret))))⟩
theorem E.ref02_Nums : liftF Try.prog Try.f33 = some L.ref02_Nums := by kernel_rfl

/-- jacquard/jacquardref02.Pairs -/
abbrev N.ref02_Pairs : Nat := 34
def L.ref02_Pairs.l1 : LC :=
  (.seq
      (.seq
      (.reg false (.fin [11, 12, 13, 14] [(14, (.bin (.cmp .lss) (.tmp 5) (.un .len (.tmp 0))))] []))
      (.cond (.tmp 14) [14]
        .skip
        (.exit 0)))
      (.seq
      (.block 1
        (.seq
        (.reg true (.loud [17, 18, 19, 20, 21, 22, 23, 24] [] [(20, (.un (.loads 2) (.bin (.idx 2) (.tmp 0) (.tmp 5)))), (24, (.un (.loads 2) (.bin (.idx 2) (.tmp 1) (.tmp 5))))] none [] true (.binOp .neq 41 (.tmp 20) (.tmp 24) 41) 4 (some 25) true
          (.fin [] [] [])))
        (.cond (.tmp 25) [25]
          (.seq
          (.reg false (.fin [4] [(4, (.con (.bool false)))] []))
          .ret)
          .skip)))
      (.reg false (.fin [15, 16, 5] [(5, (.bin (.arith .add) (.tmp 5) (.con (.int .i64 1))))] []))))
def L.ref02_Pairs : LFn :=
⟨[(.tmp 4)],
  (.seq
  (.reg false (.fin [4] [(4, (.con (.bool false)))] []))
  (.seq
  (.seq
  (.reg false (.fin [6, 7, 8, 9, 10] [(10, (.bin (.cmp .neq) (.un .len (.tmp 0)) (.un .len (.tmp 1))))] []))
  (.cond (.tmp 10) [10]
    (.seq
    (.reg false (.fin [4] [(4, (.con (.bool false)))] []))
    .ret)
    .skip))
  (.seq
  (.seq
  (.reg false (.fin [5] [(5, (.con (.int .i64 0)))] []))
  (.block 0
    (.loop L.ref02_Pairs.l1)))
  (.seq
  (.reg false (.fin [4] [(4, (.con (.bool true)))] []))
  .ret))))⟩
theorem E.ref02_Pairs : liftF Try.prog Try.f34 = some L.ref02_Pairs := by kernel_rfl

/-- jacquard/jacquardref02.Preds -/
abbrev N.ref02_Preds : Nat := 35
def L.ref02_Preds.l2 : LC :=
  (.seq
            (.seq
            (.reg false (.fin [14, 15, 16, 17] [(17, (.bin (.cmp .lss) (.tmp 6) (.un .len (.tmp 0))))] []))
            (.cond (.tmp 17) [17]
              .skip
              (.exit 2)))
            (.seq
            (.block 3
              (.seq
              (.reg false (.loud [20, 21, 22] [] [(20, (.tmp 0)), (21, (.tmp 6)), (22, (.tmp 4))] none [] false (.call ⟨.value (.func 19), #[(.tmp 20), (.tmp 21), (.tmp 22)], #[22, 3, 3]⟩) 4 (some 23) true
                (.fin [7] [(7, (.tmp 23))] [])))
              (.seq
              (.reg false (.fin [24] [(24, (.tmp 7))] []))
              (.cond (.tmp 24) [24]
                (.reg false (.loud [25, 26] [(25, (.tmp 5))] [(26, (.tmp 6))] none [] false (.buildSlice 23 1 #[(0, (.tmp 26))]) 23 (some 27) true
                  (.loud [] [] [(25, (.tmp 25)), (27, (.tmp 27))] none [] false (.call ⟨.builtin .append, #[(.tmp 25), (.tmp 27)], #[23, 23]⟩) 23 (some 28) true
                    (.fin [5] [(5, (.tmp 28))] []))))
                .skip))))
            (.reg false (.fin [18, 19, 6] [(6, (.bin (.arith .add) (.tmp 6) (.con (.int .i64 1))))] []))))
def L.ref02_Preds.l1 : LC :=
  (.seq
      (.seq
      (.reg false (.fin [8, 9, 10, 11] [(11, (.bin (.cmp .lss) (.tmp 4) (.un .len (.tmp 0))))] []))
      (.cond (.tmp 11) [11]
        .skip
        (.exit 0)))
      (.seq
      (.block 1
        (.seq
        (.reg false (.fin [5] [(5, (.con (.slice none 0 0)))] []))
        (.seq
        (.seq
        (.reg false (.fin [6] [(6, (.con (.int .i64 0)))] []))
        (.block 2
          (.loop L.ref02_Preds.l2)))
        (.reg false (.loud [29, 30] [(29, (.tmp 3))] [(30, (.tmp 5))] none [] false (.buildSlice 22 1 #[(0, (.tmp 30))]) 22 (some 31) true
          (.loud [] [] [(29, (.tmp 29)), (31, (.tmp 31))] none [] false (.call ⟨.builtin .append, #[(.tmp 29), (.tmp 31)], #[22, 22]⟩) 22 (some 32) true
            (.fin [3] [(3, (.tmp 32))] [])))))))
      (.reg false (.fin [12, 13, 4] [(4, (.bin (.arith .add) (.tmp 4) (.con (.int .i64 1))))] []))))
def L.ref02_Preds : LFn :=
⟨[(.tmp 2)],
  (.seq
  (.reg false (.fin [2] [(2, (.con (.slice none 0 0)))] []))
  (.seq
  (.reg false (.fin [3] [(3, (.con (.slice none 0 0)))] []))
  (.seq
  (.seq
  (.reg false (.fin [4] [(4, (.con (.int .i64 0)))] []))
  (.block 0
    (.loop L.ref02_Preds.l1)))
  (.seq
  (.reg false (.fin [33, 2] [(2, (.tmp 3))] []))
  .ret))))⟩
theorem E.ref02_Preds : liftF Try.prog Try.f35 = some L.ref02_Preds := by kernel_rfl

/-- jacquard/jacquardref02.Order -/
abbrev N.ref02_Order : Nat := 36
def L.ref02_Order.l1 : LC :=
  (.seq
      (.seq
      (.reg false (.fin [23, 24] [(24, (.bin (.cmp .geq) (.tmp 5) (.con (.int .i64 0))))] []))
      (.cond (.tmp 24) [24]
        .skip
        (.exit 0)))
      (.seq
      (.block 1
        (.reg false (.loud [27, 28, 29, 30, 31, 32, 33, 34] [(27, (.tmp 4))] [(34, (.un .load (.bin (.idx 1) (.un .load (.un (.fld 1) (.un .nilPtr (.tmp 3)))) (.tmp 5))))] none [] false (.buildSlice 23 1 #[(0, (.tmp 34))]) 23 (some 35) true
          (.loud [] [] [(27, (.tmp 27)), (35, (.tmp 35))] none [] false (.call ⟨.builtin .append, #[(.tmp 27), (.tmp 35)], #[23, 23]⟩) 23 (some 36) true
            (.fin [4] [(4, (.tmp 36))] [])))))
      (.reg false (.fin [25, 26, 5] [(5, (.bin (.arith .sub) (.tmp 5) (.con (.int .i64 1))))] []))))
def L.ref02_Order : LFn :=
⟨[(.tmp 2)],
  (.seq
  (.reg false (.fin [2] [(2, (.con (.slice none 0 0)))] []))
  (.seq
  (.seq
  (.reg false (.fin [6, 7, 8] [(8, (.bin (.cmp .eql) (.un .len (.tmp 0)) (.con (.int .i64 0))))] []))
  (.cond (.tmp 8) [8]
    (.seq
    (.reg false (.fin [2] [(2, (.con (.slice none 0 0)))] []))
    .ret)
    .skip))
  (.seq
  (.reg false (.loud [9, 10] [] [(10, (.un .len (.tmp 0))), (10, (.un .len (.tmp 0)))] none [] false (.makeSlice 32 (.tmp 10) (.tmp 10)) 32 (some 11) true
    (.loud [] [] [(11, (.tmp 11))] none [] false (.build 73 #[(0, (.tmp 11))]) 73 (some 12) true
      (.loud [] [] [(12, (.tmp 12))] none [] false (.box 73 (.tmp 12)) 71 (some 13) true
        (.fin [3] [(3, (.tmp 13))] [])))))
  (.seq
  (.reg false (.loud [14, 15] [] [(14, (.tmp 3)), (15, (.tmp 0))] none [] false (.call ⟨.value (.func 53), #[(.tmp 14), (.tmp 15), (.const (.int .i64 0))], #[71, 22, 3]⟩) 0 (some 16) false
    (.fin [] [] [])))
  (.seq
  (.reg false (.fin [4] [(4, (.con (.slice none 0 0)))] []))
  (.seq
  (.seq
  (.reg false (.fin [17, 18, 19, 20, 21, 22, 5] [(5, (.bin (.arith .sub) (.un .len (.un .load (.un (.fld 1) (.un .nilPtr (.tmp 3))))) (.con (.int .i64 1))))] []))
  (.block 0
    (.loop L.ref02_Order.l1)))
  (.seq
  (.reg false (.fin [37, 2] [(2, (.tmp 4))] []))
  .ret)))))))⟩
theorem E.ref02_Order : liftF Try.prog Try.f36 = some L.ref02_Order := by kernel_rfl

end Go.Proofs.Ytaebcebflfgdiaa

/- The functions of the program in the lifted language, each with the proof that the lifter makes just it. Written by program. -/
namespace Go.Proofs.Ytaebcebflfgdiaa
open Go Go.Lft
set_option maxRecDepth 100000

/-- jacquard/jacquardref02.Idom -/
abbrev N.ref02_Idom : Nat := 37
def L.ref02_Idom.l3 : LC :=
  (.seq
                    (.seq
                    (.reg false (.fin [36, 37, 38, 39] [(39, (.bin (.cmp .lss) (.tmp 9) (.un .len (.tmp 0))))] []))
                    (.cond (.tmp 39) [39]
                      .skip
                      (.exit 4)))
                    (.seq
                    (.block 5
                      (.reg false (.fin [42, 43, 44, 45, 46, 47, 48, 49, 50, 51, 52, 53, 54, 55, 56, 57, 58, 59, 60, 61, 62, 63, 64, 65, 66, 8] [(8, (.ite (.tmp 8) (.ite (.ite (.bin (.cmp .eql) (.tmp 9) (.tmp 5)) (.con (.bool true)) (.un .not (.un .load (.bin (.idx 1) (.un .load (.bin (.idx 1) (.tmp 3) (.tmp 9))) (.tmp 5))))) (.con (.bool true)) (.un .load (.bin (.idx 1) (.un .load (.bin (.idx 1) (.tmp 3) (.tmp 9))) (.tmp 7)))) (.con (.bool false))))] [(.gd (.gd (.tmp 8) true (.ite (.bin (.cmp .eql) (.tmp 9) (.tmp 5)) (.con (.bool true)) (.un .not (.un .load (.bin (.idx 1) (.un .load (.bin (.idx 1) (.tmp 3) (.tmp 9))) (.tmp 5)))))) false (.un .load (.bin (.idx 1) (.un .load (.bin (.idx 1) (.tmp 3) (.tmp 9))) (.tmp 7)))), (.gd (.gd (.tmp 8) true (.bin (.cmp .eql) (.tmp 9) (.tmp 5))) false (.un .not (.un .load (.bin (.idx 1) (.un .load (.bin (.idx 1) (.tmp 3) (.tmp 9))) (.tmp 5)))))])))
                    (.reg false (.fin [40, 41, 9] [(9, (.bin (.arith .add) (.tmp 9) (.con (.int .i64 1))))] []))))
def L.ref02_Idom.l2 : LC :=
  (.seq
            (.seq
            (.reg false (.fin [18, 19, 20, 21] [(21, (.bin (.cmp .lss) (.tmp 7) (.un .len (.tmp 0))))] []))
            (.cond (.tmp 21) [21]
              .skip
              (.exit 2)))
            (.seq
            (.block 3
              (.seq
              (.reg false (.fin [24, 25, 26, 27, 28, 29, 30, 31, 32, 33, 34, 35] [(35, (.ite (.bin (.cmp .neq) (.tmp 7) (.tmp 5)) (.un .load (.bin (.idx 1) (.un .load (.bin (.idx 1) (.tmp 3) (.tmp 7))) (.tmp 5))) (.con (.bool false))))] []))
              (.cond (.tmp 35) [35]
                (.seq
                (.reg false (.fin [8] [(8, (.con (.bool true)))] []))
                (.seq
                (.seq
                (.reg false (.fin [9] [(9, (.con (.int .i64 0)))] []))
                (.block 4
                  (.loop L.ref02_Idom.l3)))
                (.seq
                (.reg false (.fin [67] [(67, (.tmp 8))] []))
                (.cond (.tmp 67) [67]
                  (.reg false (.fin [68, 6] [(6, (.tmp 7))] []))
                  .skip))))
                .skip)))
            (.reg false (.fin [22, 23, 7] [(7, (.bin (.arith .add) (.tmp 7) (.con (.int .i64 1))))] []))))
def L.ref02_Idom.l1 : LC :=
  (.seq
      (.seq
      (.reg false (.fin [12, 13, 14, 15] [(15, (.bin (.cmp .lss) (.tmp 5) (.un .len (.tmp 0))))] []))
      (.cond (.tmp 15) [15]
        .skip
        (.exit 0)))
      (.seq
      (.block 1
        (.seq
        (.reg false (.fin [6] [(6, (.con (.int .i64 (-1))))] []))
        (.seq
        (.seq
        (.reg false (.fin [7] [(7, (.con (.int .i64 0)))] []))
        (.block 2
          (.loop L.ref02_Idom.l2)))
        (.reg false (.loud [69, 70] [(69, (.tmp 4))] [(70, (.tmp 6))] none [] false (.buildSlice 23 1 #[(0, (.tmp 70))]) 23 (some 71) true
          (.loud [] [] [(69, (.tmp 69)), (71, (.tmp 71))] none [] false (.call ⟨.builtin .append, #[(.tmp 69), (.tmp 71)], #[23, 23]⟩) 23 (some 72) true
            (.fin [4] [(4, (.tmp 72))] [])))))))
      (.reg false (.fin [16, 17, 5] [(5, (.bin (.arith .add) (.tmp 5) (.con (.int .i64 1))))] []))))
def L.ref02_Idom : LFn :=
⟨[(.tmp 2)],
  (.seq
  (.reg false (.fin [2] [(2, (.con (.slice none 0 0)))] []))
  (.seq
  (.reg false (.loud [10] [] [(10, (.tmp 0))] none [] false (.call ⟨.value (.func 17), #[(.tmp 10)], #[22]⟩) 30 (some 11) true
    (.fin [3] [(3, (.tmp 11))] [])))
  (.seq
  (.reg false (.fin [4] [(4, (.con (.slice none 0 0)))] []))
  (.seq
  (.seq
  (.reg false (.fin [5] [(5, (.con (.int .i64 0)))] []))
  (.block 0
    (.loop L.ref02_Idom.l1)))
  (.seq
  (.reg false (.fin [73, 2] [(2, (.tmp 4))] []))
  .ret)))))⟩
theorem E.ref02_Idom : liftF Try.prog Try.f37 = some L.ref02_Idom := by kernel_rfl

/-- jacquard/jacquardref02.Headers -/
abbrev N.ref02_Headers : Nat := 38
def L.ref02_Headers.l2 : LC :=
  (.seq
            (.seq
            (.reg false (.fin [17, 18, 19, 20] [(20, (.bin (.cmp .lss) (.tmp 7) (.un .len (.tmp 0))))] []))
            (.cond (.tmp 20) [20]
              .skip
              (.exit 2)))
            (.seq
            (.block 3
              (.seq
              (.reg false (.loud [23, 24, 25] [] [(23, (.tmp 0)), (24, (.tmp 7)), (25, (.tmp 5))] none [] false (.call ⟨.value (.func 19), #[(.tmp 23), (.tmp 24), (.tmp 25)], #[22, 3, 3]⟩) 4 (some 26) true
                (.fin [8] [(8, (.tmp 26))] [])))
              (.reg false (.fin [27, 28, 29, 30, 31, 32, 33, 34, 35, 36, 37, 38, 39, 6] [(6, (.ite (.tmp 6) (.con (.bool true)) (.ite (.tmp 8) (.un .load (.bin (.idx 1) (.un .load (.bin (.idx 1) (.tmp 3) (.tmp 5))) (.tmp 7))) (.con (.bool false)))))] [(.gd (.gd (.tmp 6) false (.tmp 8)) true (.un .load (.bin (.idx 1) (.un .load (.bin (.idx 1) (.tmp 3) (.tmp 5))) (.tmp 7))))]))))
            (.reg false (.fin [21, 22, 7] [(7, (.bin (.arith .add) (.tmp 7) (.con (.int .i64 1))))] []))))
def L.ref02_Headers.l1 : LC :=
  (.seq
      (.seq
      (.reg false (.fin [11, 12, 13, 14] [(14, (.bin (.cmp .lss) (.tmp 5) (.un .len (.tmp 0))))] []))
      (.cond (.tmp 14) [14]
        .skip
        (.exit 0)))
      (.seq
      (.block 1
        (.seq
        (.reg false (.fin [6] [(6, (.con (.bool false)))] []))
        (.seq
        (.seq
        (.reg false (.fin [7] [(7, (.con (.int .i64 0)))] []))
        (.block 2
          (.loop L.ref02_Headers.l2)))
        (.seq
        (.reg false (.fin [40] [(40, (.tmp 6))] []))
        (.cond (.tmp 40) [40]
          (.reg false (.loud [41, 42] [(41, (.tmp 4))] [(42, (.tmp 5))] none [] false (.buildSlice 23 1 #[(0, (.tmp 42))]) 23 (some 43) true
            (.loud [] [] [(41, (.tmp 41)), (43, (.tmp 43))] none [] false (.call ⟨.builtin .append, #[(.tmp 41), (.tmp 43)], #[23, 23]⟩) 23 (some 44) true
              (.fin [4] [(4, (.tmp 44))] []))))
          .skip)))))
      (.reg false (.fin [15, 16, 5] [(5, (.bin (.arith .add) (.tmp 5) (.con (.int .i64 1))))] []))))
def L.ref02_Headers : LFn :=
⟨[(.tmp 2)],
  (.seq
  (.reg false (.fin [2] [(2, (.con (.slice none 0 0)))] []))
  (.seq
  (.reg false (.loud [9] [] [(9, (.tmp 0))] none [] false (.call ⟨.value (.func 17), #[(.tmp 9)], #[22]⟩) 30 (some 10) true
    (.fin [3] [(3, (.tmp 10))] [])))
  (.seq
  (.reg false (.fin [4] [(4, (.con (.slice none 0 0)))] []))
  (.seq
  (.seq
  (.reg false (.fin [5] [(5, (.con (.int .i64 0)))] []))
  (.block 0
    (.loop L.ref02_Headers.l1)))
  (.seq
  (.reg false (.fin [45, 2] [(2, (.tmp 4))] []))
  .ret)))))⟩
theorem E.ref02_Headers : liftF Try.prog Try.f38 = some L.ref02_Headers := by kernel_rfl

/-- jacquard/jacquardref02.Critical -/
abbrev N.ref02_Critical : Nat := 39
def L.ref02_Critical.l2 : LC :=
  (.seq
            (.seq
            (.reg false (.fin [19, 20, 21, 22] [(22, (.bin (.cmp .lss) (.tmp 7) (.un .len (.tmp 6))))] []))
            (.cond (.tmp 22) [22]
              .skip
              (.exit 2)))
            (.seq
            (.block 3
              (.seq
              (.reg false (.fin [25, 26, 27, 28, 29, 30, 31, 32, 33, 34, 35, 36, 37, 38] [(38, (.ite (.bin (.cmp .gtr) (.un .len (.tmp 6)) (.con (.int .i64 1))) (.bin (.cmp .gtr) (.un .len (.un .load (.bin (.idx 1) (.tmp 3) (.un .load (.bin (.idx 1) (.tmp 6) (.tmp 7)))))) (.con (.int .i64 1))) (.con (.bool false))))] []))
              (.cond (.tmp 38) [38]
                (.reg false (.loud [39, 40, 41, 42, 43, 44] [(39, (.tmp 4))] [(40, (.tmp 5)), (44, (.un .load (.bin (.idx 1) (.tmp 6) (.tmp 7))))] none [] false (.build 41 #[(0, (.tmp 40)), (1, (.tmp 44))]) 41 (some 45) true
                  (.loud [] [] [(45, (.tmp 45))] none [] false (.buildSlice 42 1 #[(0, (.tmp 45))]) 42 (some 46) true
                    (.loud [] [] [(39, (.tmp 39)), (46, (.tmp 46))] none [] false (.call ⟨.builtin .append, #[(.tmp 39), (.tmp 46)], #[42, 42]⟩) 42 (some 47) true
                      (.fin [4] [(4, (.tmp 47))] [])))))
                .skip)))
            (.reg false (.fin [23, 24, 7] [(7, (.bin (.arith .add) (.tmp 7) (.con (.int .i64 1))))] []))))
def L.ref02_Critical.l1 : LC :=
  (.seq
      (.seq
      (.reg false (.fin [10, 11, 12, 13] [(13, (.bin (.cmp .lss) (.tmp 5) (.un .len (.tmp 0))))] []))
      (.cond (.tmp 13) [13]
        .skip
        (.exit 0)))
      (.seq
      (.block 1
        (.seq
        (.reg false (.loud [16, 17] [] [(16, (.tmp 0)), (17, (.tmp 5))] none [] false (.call ⟨.value (.func 45), #[(.tmp 16), (.tmp 17)], #[22, 3]⟩) 23 (some 18) true
          (.fin [6] [(6, (.tmp 18))] [])))
        (.seq
        (.reg false (.fin [7] [(7, (.con (.int .i64 0)))] []))
        (.block 2
          (.loop L.ref02_Critical.l2)))))
      (.reg false (.fin [14, 15, 5] [(5, (.bin (.arith .add) (.tmp 5) (.con (.int .i64 1))))] []))))
def L.ref02_Critical : LFn :=
⟨[(.tmp 2)],
  (.seq
  (.reg false (.fin [2] [(2, (.con (.slice none 0 0)))] []))
  (.seq
  (.reg false (.loud [8] [] [(8, (.tmp 0))] none [] false (.call ⟨.value (.func 35), #[(.tmp 8)], #[22]⟩) 22 (some 9) true
    (.fin [3] [(3, (.tmp 9))] [])))
  (.seq
  (.reg false (.fin [4] [(4, (.con (.slice none 0 0)))] []))
  (.seq
  (.seq
  (.reg false (.fin [5] [(5, (.con (.int .i64 0)))] []))
  (.block 0
    (.loop L.ref02_Critical.l1)))
  (.seq
  (.reg false (.fin [48, 2] [(2, (.tmp 4))] []))
  .ret)))))⟩
theorem E.ref02_Critical : liftF Try.prog Try.f39 = some L.ref02_Critical := by kernel_rfl

/-- jacquard/jacquardref02.Reducible -/
abbrev N.ref02_Reducible : Nat := 40
def L.ref02_Reducible.l3 : LC :=
  (.seq
                  (.seq
                  (.reg false (.fin [27, 28, 29, 30] [(30, (.bin (.cmp .lss) (.tmp 8) (.un .len (.tmp 0))))] []))
                  (.cond (.tmp 30) [30]
                    .skip
                    (.exit 4)))
                  (.seq
                  (.block 5
                    (.seq
                    (.reg false (.loud [33, 34, 35] [] [(33, (.tmp 0)), (34, (.tmp 8)), (35, (.tmp 6))] none [] false (.call ⟨.value (.func 19), #[(.tmp 33), (.tmp 34), (.tmp 35)], #[22, 3, 3]⟩) 4 (some 36) true
                      (.fin [9] [(9, (.tmp 36))] [])))
                    (.reg false (.fin [37, 38, 39, 40, 41, 42, 43, 44, 45, 46, 47, 48, 49, 50, 51, 52, 53, 54, 55, 56, 7] [(7, (.ite (.tmp 7) (.con (.bool true)) (.ite (.ite (.tmp 9) (.un .load (.bin (.idx 1) (.tmp 4) (.tmp 8))) (.con (.bool false))) (.un .not (.un .load (.bin (.idx 1) (.un .load (.bin (.idx 1) (.tmp 3) (.tmp 6))) (.tmp 8)))) (.con (.bool false)))))] [(.gd (.gd (.tmp 7) false (.ite (.tmp 9) (.un .load (.bin (.idx 1) (.tmp 4) (.tmp 8))) (.con (.bool false)))) true (.un .not (.un .load (.bin (.idx 1) (.un .load (.bin (.idx 1) (.tmp 3) (.tmp 6))) (.tmp 8))))), (.gd (.gd (.tmp 7) false (.tmp 9)) true (.un .load (.bin (.idx 1) (.tmp 4) (.tmp 8))))]))))
                  (.reg false (.fin [31, 32, 8] [(8, (.bin (.arith .add) (.tmp 8) (.con (.int .i64 1))))] []))))
def L.ref02_Reducible.l2 : LC :=
  (.seq
            (.seq
            (.reg false (.fin [21, 22, 23, 24] [(24, (.bin (.cmp .lss) (.tmp 6) (.un .len (.tmp 0))))] []))
            (.cond (.tmp 24) [24]
              .skip
              (.exit 2)))
            (.seq
            (.block 3
              (.seq
              (.reg false (.fin [7] [(7, (.con (.bool false)))] []))
              (.seq
              (.seq
              (.reg false (.fin [8] [(8, (.con (.int .i64 0)))] []))
              (.block 4
                (.loop L.ref02_Reducible.l3)))
              (.seq
              (.reg false (.fin [57, 58] [(58, (.un .not (.tmp 7)))] []))
              (.cond (.tmp 58) [58]
                (.reg false (.loud [59, 60, 61] [] [(61, (.bin (.idx 1) (.tmp 4) (.tmp 6)))] none [] false (.store 4 (.tmp 61) (.const (.bool false))) 0 none false
                  (.fin [] [] [])))
                .skip)))))
            (.reg false (.fin [25, 26, 6] [(6, (.bin (.arith .add) (.tmp 6) (.con (.int .i64 1))))] []))))
def L.ref02_Reducible.l1 : LC :=
  (.seq
      (.seq
      (.reg false (.fin [15, 16, 17, 18] [(18, (.bin (.cmp .lss) (.tmp 5) (.un .len (.tmp 0))))] []))
      (.cond (.tmp 18) [18]
        .skip
        (.exit 0)))
      (.seq
      (.block 1
        (.seq
        (.reg false (.fin [6] [(6, (.con (.int .i64 0)))] []))
        (.block 2
          (.loop L.ref02_Reducible.l2))))
      (.reg false (.fin [19, 20, 5] [(5, (.bin (.arith .add) (.tmp 5) (.con (.int .i64 1))))] []))))
def L.ref02_Reducible.l4 : LC :=
  (.seq
      (.seq
      (.reg false (.fin [62, 63, 64, 65] [(65, (.bin (.cmp .lss) (.tmp 10) (.un .len (.tmp 0))))] []))
      (.cond (.tmp 65) [65]
        .skip
        (.exit 6)))
      (.seq
      (.block 7
        (.seq
        (.reg false (.fin [68, 69, 70, 71] [(71, (.un .load (.bin (.idx 1) (.tmp 4) (.tmp 10))))] []))
        (.cond (.tmp 71) [71]
          (.seq
          (.reg false (.fin [2] [(2, (.con (.bool false)))] []))
          .ret)
          .skip)))
      (.reg false (.fin [66, 67, 10] [(10, (.bin (.arith .add) (.tmp 10) (.con (.int .i64 1))))] []))))
def L.ref02_Reducible : LFn :=
⟨[(.tmp 2)],
  (.seq
  (.reg false (.fin [2] [(2, (.con (.bool false)))] []))
  (.seq
  (.reg false (.loud [11] [] [(11, (.tmp 0))] none [] false (.call ⟨.value (.func 17), #[(.tmp 11)], #[22]⟩) 30 (some 12) true
    (.fin [3] [(3, (.tmp 12))] [])))
  (.seq
  (.reg false (.loud [13] [] [(13, (.tmp 0))] none [] false (.call ⟨.value (.func 18), #[(.tmp 13), (.const (.int .i64 (-1)))], #[22, 3]⟩) 32 (some 14) true
    (.fin [4] [(4, (.tmp 14))] [])))
  (.seq
  (.seq
  (.reg false (.fin [5] [(5, (.con (.int .i64 0)))] []))
  (.block 0
    (.loop L.ref02_Reducible.l1)))
  (.seq
  (.seq
  (.reg false (.fin [10] [(10, (.con (.int .i64 0)))] []))
  (.block 6
    (.loop L.ref02_Reducible.l4)))
  (.seq
  (.reg false (.fin [2] [(2, (.con (.bool true)))] []))
  .ret))))))⟩
theorem E.ref02_Reducible : liftF Try.prog Try.f40 = some L.ref02_Reducible := by kernel_rfl

/-- jacquard/jacquardref02.Body -/
abbrev N.ref02_Body : Nat := 41
def L.ref02_Body.l1 : LC :=
  (.seq
      (.seq
      (.reg false (.fin [24, 25, 26, 27] [(27, (.bin (.cmp .lss) (.tmp 9) (.un .len (.tmp 0))))] []))
      (.cond (.tmp 27) [27]
        .skip
        (.exit 0)))
      (.seq
      (.block 1
        (.seq
        (.reg false (.loud [30, 31, 32] [] [(30, (.tmp 0)), (31, (.tmp 9)), (32, (.tmp 1))] none [] false (.call ⟨.value (.func 19), #[(.tmp 30), (.tmp 31), (.tmp 32)], #[22, 3, 3]⟩) 4 (some 33) true
          (.fin [10] [(10, (.tmp 33))] [])))
        (.seq
        (.reg false (.fin [34, 35, 36, 37, 38, 39, 40, 41, 42, 43] [(43, (.ite (.tmp 10) (.un .load (.bin (.idx 1) (.un .load (.bin (.idx 1) (.tmp 5) (.tmp 1))) (.tmp 9))) (.con (.bool false))))] []))
        (.cond (.tmp 43) [43]
          (.seq
          (.reg false (.fin [8] [(8, (.con (.bool true)))] []))
          (.reg false (.loud [44, 45, 46] [] [(46, (.bin (.idx 1) (.tmp 7) (.tmp 9)))] none [] false (.store 4 (.tmp 46) (.const (.bool true))) 0 none false
            (.fin [] [] []))))
          .skip))))
      (.reg false (.fin [28, 29, 9] [(9, (.bin (.arith .add) (.tmp 9) (.con (.int .i64 1))))] []))))
def L.ref02_Body.l4 : LC :=
  (.seq
                  (.seq
                  (.reg false (.fin [67, 68, 69, 70] [(70, (.bin (.cmp .lss) (.tmp 14) (.un .len (.tmp 13))))] []))
                  (.cond (.tmp 70) [70]
                    .skip
                    (.exit 6)))
                  (.seq
                  (.block 7
                    (.seq
                    (.reg false (.fin [73, 74, 75, 76, 77, 78, 79, 80, 81, 82, 83, 84, 85, 86, 87, 88, 89, 90, 91, 92, 93] [(93, (.ite (.ite (.un .load (.bin (.idx 1) (.tmp 6) (.tmp 12))) (.bin (.cmp .neq) (.un .load (.bin (.idx 1) (.tmp 13) (.tmp 14))) (.tmp 1)) (.con (.bool false))) (.un .load (.bin (.idx 1) (.tmp 7) (.un .load (.bin (.idx 1) (.tmp 13) (.tmp 14))))) (.con (.bool false))))] []))
                    (.cond (.tmp 93) [93]
                      (.reg false (.loud [94, 95, 96] [] [(96, (.bin (.idx 1) (.tmp 7) (.tmp 12)))] none [] false (.store 4 (.tmp 96) (.const (.bool true))) 0 none false
                        (.fin [] [] [])))
                      .skip)))
                  (.reg false (.fin [71, 72, 14] [(14, (.bin (.arith .add) (.tmp 14) (.con (.int .i64 1))))] []))))
def L.ref02_Body.l3 : LC :=
  (.seq
            (.seq
            (.reg false (.fin [58, 59, 60, 61] [(61, (.bin (.cmp .lss) (.tmp 12) (.un .len (.tmp 0))))] []))
            (.cond (.tmp 61) [61]
              .skip
              (.exit 4)))
            (.seq
            (.block 5
              (.seq
              (.reg false (.loud [64, 65] [] [(64, (.tmp 0)), (65, (.tmp 12))] none [] false (.call ⟨.value (.func 45), #[(.tmp 64), (.tmp 65)], #[22, 3]⟩) 23 (some 66) true
                (.fin [13] [(13, (.tmp 66))] [])))
              (.seq
              (.reg false (.fin [14] [(14, (.con (.int .i64 0)))] []))
              (.block 6
                (.loop L.ref02_Body.l4)))))
            (.reg false (.fin [62, 63, 12] [(12, (.bin (.arith .add) (.tmp 12) (.con (.int .i64 1))))] []))))
def L.ref02_Body.l2 : LC :=
  (.seq
      (.seq
      (.reg false (.fin [52, 53, 54, 55] [(55, (.bin (.cmp .lss) (.tmp 11) (.un .len (.tmp 0))))] []))
      (.cond (.tmp 55) [55]
        .skip
        (.exit 2)))
      (.seq
      (.block 3
        (.seq
        (.reg false (.fin [12] [(12, (.con (.int .i64 0)))] []))
        (.block 4
          (.loop L.ref02_Body.l3))))
      (.reg false (.fin [56, 57, 11] [(11, (.bin (.arith .add) (.tmp 11) (.con (.int .i64 1))))] []))))
def L.ref02_Body.l5 : LC :=
  (.seq
      (.seq
      (.reg false (.fin [97, 98, 99, 100] [(100, (.bin (.cmp .lss) (.tmp 16) (.un .len (.tmp 0))))] []))
      (.cond (.tmp 100) [100]
        .skip
        (.exit 8)))
      (.seq
      (.block 9
        (.seq
        (.reg false (.fin [103, 104, 105, 106] [(106, (.un .load (.bin (.idx 1) (.tmp 7) (.tmp 16))))] []))
        (.cond (.tmp 106) [106]
          (.reg false (.loud [107, 108] [(107, (.tmp 15))] [(108, (.tmp 16))] none [] false (.buildSlice 23 1 #[(0, (.tmp 108))]) 23 (some 109) true
            (.loud [] [] [(107, (.tmp 107)), (109, (.tmp 109))] none [] false (.call ⟨.builtin .append, #[(.tmp 107), (.tmp 109)], #[23, 23]⟩) 23 (some 110) true
              (.fin [15] [(15, (.tmp 110))] []))))
          .skip)))
      (.reg false (.fin [101, 102, 16] [(16, (.bin (.arith .add) (.tmp 16) (.con (.int .i64 1))))] []))))
def L.ref02_Body : LFn :=
⟨[(.tmp 4)],
  (.seq
  (.reg false (.fin [4] [(4, (.con (.slice none 0 0)))] []))
  (.seq
  (.reg false (.loud [17] [] [(17, (.tmp 0))] none [] false (.call ⟨.value (.func 17), #[(.tmp 17)], #[22]⟩) 30 (some 18) true
    (.fin [5] [(5, (.tmp 18))] [])))
  (.seq
  (.reg false (.loud [19] [] [(19, (.tmp 0))] none [] false (.call ⟨.value (.func 18), #[(.tmp 19), (.const (.int .i64 (-1)))], #[22, 3]⟩) 32 (some 20) true
    (.fin [6] [(6, (.tmp 20))] [])))
  (.seq
  (.reg false (.loud [21, 22] [] [(22, (.un .len (.tmp 0))), (22, (.un .len (.tmp 0)))] none [] false (.makeSlice 32 (.tmp 22) (.tmp 22)) 32 (some 23) true
    (.fin [7] [(7, (.tmp 23))] [])))
  (.seq
  (.reg false (.fin [8] [(8, (.con (.bool false)))] []))
  (.seq
  (.seq
  (.reg false (.fin [9] [(9, (.con (.int .i64 0)))] []))
  (.block 0
    (.loop L.ref02_Body.l1)))
  (.seq
  (.seq
  (.reg false (.fin [47, 48] [(48, (.un .not (.tmp 8)))] []))
  (.cond (.tmp 48) [48]
    (.seq
    (.reg false (.fin [4] [(4, (.con (.slice none 0 0)))] []))
    .ret)
    .skip))
  (.seq
  (.reg false (.loud [49, 50, 51] [] [(51, (.bin (.idx 1) (.tmp 7) (.tmp 1)))] none [] false (.store 4 (.tmp 51) (.const (.bool true))) 0 none false
    (.fin [] [] [])))
  (.seq
  (.seq
  (.reg false (.fin [11] [(11, (.con (.int .i64 0)))] []))
  (.block 2
    (.loop L.ref02_Body.l2)))
  (.seq
  (.reg false (.fin [15] [(15, (.con (.slice none 0 0)))] []))
  (.seq
  (.seq
  (.reg false (.fin [16] [(16, (.con (.int .i64 0)))] []))
  (.block 8
    (.loop L.ref02_Body.l5)))
  (.seq
  (.reg false (.fin [111, 4] [(4, (.tmp 15))] []))
  .ret))))))))))))⟩
theorem E.ref02_Body : liftF Try.prog Try.f41 = some L.ref02_Body := by kernel_rfl

/-- jacquard/graph.clean -/
abbrev N.graph_clean : Nat := 42
def L.graph_clean.l1 : LC :=
  (.seq
      (.reg false (.fin [12] [(12, (.bin (.cmp .lss) (.tmp 11) (.tmp 10)))] []))
      (.seq
      (.cond (.tmp 12) [12]
        .skip
        (.exit 0))
      (.seq
      (.block 1
        (.seq
        (.reg false (.fin [13, 14, 15, 4, 5] [(4, (.tmp 11)), (5, (.un .load (.bin (.idx 1) (.tmp 9) (.tmp 11))))] []))
        (.reg false (.loud [16, 17, 18, 19, 20] [(16, (.tmp 3)), (17, (.tmp 4))] [(18, (.tmp 5)), (20, (.un .len (.tmp 0)))] none [] false (.call ⟨.value (.func 52), #[(.tmp 18), (.tmp 20)], #[23, 3]⟩) 23 (some 21) true
          (.loud [22] [] [(22, (.bin (.idx 1) (.tmp 16) (.tmp 17))), (21, (.tmp 21))] none [] false (.store 23 (.tmp 22) (.tmp 21)) 0 none false
            (.fin [] [] []))))))
      (.reg false (.fin [23, 11] [(11, (.bin (.arith .add) (.tmp 11) (.con (.int .i64 1))))] [])))))
def L.graph_clean : LFn :=
⟨[(.tmp 2)],
  (.seq
  (.reg false (.fin [2] [(2, (.con (.slice none 0 0)))] []))
  (.seq
  (.reg false (.loud [6, 7] [] [(7, (.un .len (.tmp 0))), (7, (.un .len (.tmp 0)))] none [] false (.makeSlice 22 (.tmp 7) (.tmp 7)) 22 (some 8) true
    (.fin [3] [(3, (.tmp 8))] [])))
  (.seq
  (.seq
  (.reg false (.fin [9, 10, 11] [(9, (.tmp 0)), (10, (.un .len (.tmp 0))), (11, (.con (.int .i64 0)))] []))
  (.block 0
    (.loop L.graph_clean.l1)))
  (.seq
  (.reg false (.fin [24, 2] [(2, (.tmp 3))] []))
  .ret))))⟩
theorem E.graph_clean : liftF Try.prog Try.f42 = some L.graph_clean := by kernel_rfl

/-- jacquard/graph.Order$1 -/
abbrev N.graph_Order_1 : Nat := 43
def L.graph_Order_1.l1 : LC :=
  (.seq
      (.reg false (.fin [17] [(17, (.bin (.cmp .lss) (.tmp 16) (.tmp 15)))] []))
      (.seq
      (.cond (.tmp 17) [17]
        .skip
        (.exit 0))
      (.seq
      (.block 1
        (.seq
        (.reg false (.fin [18, 19, 7] [(7, (.un .load (.bin (.idx 1) (.tmp 14) (.tmp 16))))] []))
        (.seq
        (.reg false (.fin [20, 21, 22, 23, 24] [(24, (.un .not (.un .load (.bin (.idx 1) (.un .load (.tmp 1)) (.tmp 7)))))] []))
        (.cond (.tmp 24) [24]
          (.reg false (.loud [25, 26] [] [(25, (.un .load (.tmp 3))), (26, (.tmp 7))] none [] false (.call ⟨.value (.tmp 25), #[(.tmp 26)], #[3]⟩) 0 (some 27) false
            (.fin [] [] [])))
          .skip))))
      (.reg false (.fin [28, 16] [(16, (.bin (.arith .add) (.tmp 16) (.con (.int .i64 1))))] [])))))
def L.graph_Order_1 : LFn :=
⟨[],
  (.seq
  (.reg false (.loud [8, 9, 10] [] [(10, (.bin (.idx 1) (.un .load (.tmp 1)) (.tmp 0)))] none [] false (.store 4 (.tmp 10) (.const (.bool true))) 0 none false
    (.fin [] [] [])))
  (.seq
  (.seq
  (.reg false (.fin [11, 12, 13, 14, 15, 16] [(14, (.un .load (.bin (.idx 1) (.un .load (.tmp 2)) (.tmp 0)))), (15, (.un .len (.un .load (.bin (.idx 1) (.un .load (.tmp 2)) (.tmp 0))))), (16, (.con (.int .i64 0)))] []))
  (.block 0
    (.loop L.graph_Order_1.l1)))
  (.reg false (.loud [29, 30] [(29, (.un .load (.tmp 4)))] [(30, (.tmp 0))] none [] false (.buildSlice 23 1 #[(0, (.tmp 30))]) 23 (some 31) true
    (.loud [] [] [(29, (.tmp 29)), (31, (.tmp 31))] none [] false (.call ⟨.builtin .append, #[(.tmp 29), (.tmp 31)], #[23, 23]⟩) 23 (some 32) true
      (.loud [] [] [(4, (.tmp 4)), (32, (.tmp 32))] none [] false (.store 23 (.tmp 4) (.tmp 32)) 0 none false
        (.fin [] [] [])))))))⟩
theorem E.graph_Order_1 : liftF Try.prog Try.f43 = some L.graph_Order_1 := by kernel_rfl

/-- slices.Reverse[[]int,int] -/
abbrev N.slices_Reverse_int : Nat := 44
def L.slices_Reverse_int.l1 : LC :=
  (.seq
      (.seq
      (.reg false (.fin [7, 8, 9] [(9, (.bin (.cmp .lss) (.tmp 2) (.tmp 3)))] []))
      (.cond (.tmp 9) [9]
        .skip
        (.exit 0)))
      (.seq
      (.block 1
        (.reg true (.loud [14, 15, 16, 17, 18, 19, 20, 21, 22, 23, 24, 25, 26] [(16, (.tmp 0)), (17, (.tmp 3)), (25, (.un .load (.bin (.idx 1) (.tmp 0) (.tmp 2))))] [(26, (.bin (.idx 1) (.tmp 0) (.tmp 2))), (21, (.un .load (.bin (.idx 1) (.tmp 0) (.tmp 3))))] none [] true (.store 3 (.tmp 26) (.tmp 21)) 0 none false
          (.loud [27] [] [(27, (.bin (.idx 1) (.tmp 16) (.tmp 17))), (25, (.tmp 25))] none [] false (.store 3 (.tmp 27) (.tmp 25)) 0 none false
            (.fin [] [] [])))))
      (.reg false (.fin [10, 11, 12, 13, 2, 3] [(2, (.bin (.arith .add) (.tmp 2) (.con (.int .i64 1)))), (3, (.bin (.arith .sub) (.tmp 3) (.con (.int .i64 1))))] []))))
def L.slices_Reverse_int : LFn :=
⟨[],
  (.seq
  (.reg false (.fin [4, 5, 6, 2, 3] [(2, (.con (.int .i64 0))), (3, (.bin (.arith .sub) (.un .len (.tmp 0)) (.con (.int .i64 1))))] []))
  (.block 0
    (.loop L.slices_Reverse_int.l1)))⟩
theorem E.slices_Reverse_int : liftF Try.prog Try.f44 = some L.slices_Reverse_int := by kernel_rfl

/-- jacquard/jacquardref02.next -/
abbrev N.ref02_next : Nat := 45
def L.ref02_next.l1 : LC :=
  (.seq
      (.seq
      (.reg false (.fin [8, 9, 10, 11] [(11, (.bin (.cmp .lss) (.tmp 6) (.un .len (.tmp 0))))] []))
      (.cond (.tmp 11) [11]
        .skip
        (.exit 0)))
      (.seq
      (.block 1
        (.seq
        (.reg false (.loud [14, 15, 16] [] [(14, (.tmp 0)), (15, (.tmp 1)), (16, (.tmp 6))] none [] false (.call ⟨.value (.func 19), #[(.tmp 14), (.tmp 15), (.tmp 16)], #[22, 3, 3]⟩) 4 (some 17) true
          (.fin [7] [(7, (.tmp 17))] [])))
        (.seq
        (.reg false (.fin [18] [(18, (.tmp 7))] []))
        (.cond (.tmp 18) [18]
          (.reg false (.loud [19, 20] [(19, (.tmp 5))] [(20, (.tmp 6))] none [] false (.buildSlice 23 1 #[(0, (.tmp 20))]) 23 (some 21) true
            (.loud [] [] [(19, (.tmp 19)), (21, (.tmp 21))] none [] false (.call ⟨.builtin .append, #[(.tmp 19), (.tmp 21)], #[23, 23]⟩) 23 (some 22) true
              (.fin [5] [(5, (.tmp 22))] []))))
          .skip))))
      (.reg false (.fin [12, 13, 6] [(6, (.bin (.arith .add) (.tmp 6) (.con (.int .i64 1))))] []))))
def L.ref02_next : LFn :=
⟨[(.tmp 4)],
  (.seq
  (.reg false (.fin [4] [(4, (.con (.slice none 0 0)))] []))
  (.seq
  (.reg false (.fin [5] [(5, (.con (.slice none 0 0)))] []))
  (.seq
  (.seq
  (.reg false (.fin [6] [(6, (.con (.int .i64 0)))] []))
  (.block 0
    (.loop L.ref02_next.l1)))
  (.seq
  (.reg false (.fin [23, 4] [(4, (.tmp 5))] []))
  .ret))))⟩
theorem E.ref02_next : liftF Try.prog Try.f45 = some L.ref02_next := by kernel_rfl

/-- jacquard/graph.common -/
abbrev N.graph_common : Nat := 46
def L.graph_common.l1 : LC :=
  (.block 1
        (.block 2
          (.seq
          (.reg true (.fin [10, 11, 12, 13, 14, 15, 16, 17, 18, 9] [(9, (.bin (.cmp .gtr) (.un .load (.bin (.idx 1) (.tmp 1) (.tmp 2))) (.un .load (.bin (.idx 1) (.tmp 1) (.tmp 3)))))] []))
          (.cond (.tmp 9) [9]
            (.reg false (.fin [19, 20, 21, 22, 2] [(2, (.un .load (.bin (.idx 1) (.tmp 0) (.tmp 2))))] []))
            (.seq
            (.reg true (.fin [24, 25, 26, 27, 28, 29, 30, 31, 32, 23] [(23, (.bin (.cmp .gtr) (.un .load (.bin (.idx 1) (.tmp 1) (.tmp 3))) (.un .load (.bin (.idx 1) (.tmp 1) (.tmp 2)))))] []))
            (.cond (.tmp 23) [23]
              (.reg false (.fin [33, 34, 35, 36, 3] [(3, (.un .load (.bin (.idx 1) (.tmp 0) (.tmp 3))))] []))
              (.exit 0)))))))
def L.graph_common : LFn :=
⟨[(.tmp 8)],
  (.seq
  (.reg false (.fin [8] [(8, (.con (.int .i64 0)))] []))
  (.seq
  .skip
  (.seq
  (.block 0
    (.loop L.graph_common.l1))
  (.seq
  (.reg false (.fin [37, 8] [(8, (.tmp 2))] []))
  .ret))))⟩
theorem E.graph_common : liftF Try.prog Try.f46 = some L.graph_common := by kernel_rfl

/-- jacquard/graph.Dominates$1 -/
abbrev N.graph_Dominates_1 : Nat := 47
def L.graph_Dominates_1 : LFn :=
⟨[(.tmp 3)],
  (.seq
  (.reg false (.fin [3] [(3, (.con (.bool false)))] []))
  (.seq
  (.reg false (.fin [4, 5, 6, 7, 8, 9, 10, 11, 3] [(3, (.ite (.bin (.cmp .geq) (.tmp 0) (.con (.int .i64 0))) (.bin (.cmp .lss) (.tmp 0) (.un .len (.un .load (.tmp 1)))) (.con (.bool false))))] []))
  .ret))⟩
theorem E.graph_Dominates_1 : liftF Try.prog Try.f47 = some L.graph_Dominates_1 := by kernel_rfl

/-- jacquard/graph.back -/
abbrev N.graph_back : Nat := 48
def L.graph_back : LFn :=
⟨[(.tmp 2)],
  (.seq
  (.reg false (.fin [2] [(2, (.con .nilFunc))] []))
  (.seq
  (.reg false (.loud [4] [] [(4, (.tmp 0))] none [] false (.call ⟨.value (.func 20), #[(.tmp 4)], #[22]⟩) 23 (some 5) true
    (.loud [] [] [] none [] false (.alloc 23) 0 (some 3) true
      (.loud [] [] [(3, (.tmp 3)), (5, (.tmp 5))] none [] false (.store 23 (.tmp 3) (.tmp 5)) 0 none false
        (.fin [] [] [])))))
  (.seq
  (.reg false (.fin [6, 2] [(2, (.un (.fn 54) (.snoc (.con (.tuple #[])) (.tmp 3))))] []))
  .ret)))⟩
theorem E.graph_back : liftF Try.prog Try.f48 = some L.graph_back := by kernel_rfl

/-- jacquard/graph.edges -/
abbrev N.graph_edges : Nat := 49
def L.graph_edges : LFn :=
⟨[(.tmp 2)],
  (.seq
  (.reg false (.loud [] [] [(0, (.tmp 0))] none [] false (.box 22 (.tmp 0)) 0 (some 1) true
    (.fin [2] [(2, (.con .nilFunc))] [])))
  (.seq
  (.reg false (.fin [3, 2] [(2, (.un (.fn 55) (.snoc (.con (.tuple #[])) (.tmp 1))))] []))
  .ret))⟩
theorem E.graph_edges : liftF Try.prog Try.f49 = some L.graph_edges := by kernel_rfl

/-- slices.Sort[[]int,int] -/
abbrev N.slices_Sort_int : Nat := 50
def L.slices_Sort_int : LFn :=
⟨[],
  (.seq
  (.reg false (.fin [3, 4, 2] [(2, (.un .len (.tmp 0)))] []))
  (.reg false (.loud [5, 6, 7, 8] [(5, (.tmp 0)), (6, (.tmp 2))] [(8, (.un (.conv .u64) (.tmp 2)))] none [] false (.call ⟨.value (.func 57), #[(.tmp 8)], #[77]⟩) 3 (some 9) true
    (.loud [] [] [(5, (.tmp 5)), (6, (.tmp 6)), (9, (.tmp 9))] none [] false (.call ⟨.value (.func 56), #[(.tmp 5), (.const (.int .i64 0)), (.tmp 6), (.tmp 9)], #[23, 3, 3, 3]⟩) 0 (some 10) false
      (.fin [] [] [])))))⟩
theorem E.slices_Sort_int : liftF Try.prog Try.f50 = some L.slices_Sort_int := by kernel_rfl

/-- slices.Compact[[]int,int] -/
abbrev N.slices_Compact_int : Nat := 51
def L.slices_Compact_int.l2 : LC :=
  (.seq
              (.seq
              (.reg false (.fin [29, 30, 31, 32] [(32, (.bin (.cmp .lss) (.tmp 5) (.un .len (.tmp 4))))] []))
              (.cond (.tmp 32) [32]
                .skip
                (.exit 2)))
              (.seq
              (.block 3
                (.seq
                (.reg true (.fin [35, 36, 37, 38, 39, 40, 41, 42, 43, 44] [(44, (.bin (.cmp .neq) (.un .load (.bin (.idx 1) (.tmp 4) (.tmp 5))) (.un .load (.bin (.idx 1) (.tmp 4) (.bin (.arith .sub) (.tmp 5) (.con (.int .i64 1)))))))] []))
                (.cond (.tmp 44) [44]
                  (.seq
                  (.reg false (.loud [45, 46, 47, 48, 49, 50, 51] [] [(51, (.bin (.idx 1) (.tmp 0) (.tmp 3))), (50, (.un .load (.bin (.idx 1) (.tmp 4) (.tmp 5))))] none [] false (.store 3 (.tmp 51) (.tmp 50)) 0 none false
                    (.fin [] [] [])))
                  (.reg false (.fin [52, 53, 3] [(3, (.bin (.arith .add) (.tmp 3) (.con (.int .i64 1))))] [])))
                  .skip)))
              (.reg false (.fin [33, 34, 5] [(5, (.bin (.arith .add) (.tmp 5) (.con (.int .i64 1))))] []))))
def L.slices_Compact_int.l1 : LC :=
  (.seq
      (.seq
      (.reg false (.fin [10, 11, 12, 13] [(13, (.bin (.cmp .lss) (.tmp 3) (.un .len (.tmp 0))))] []))
      (.cond (.tmp 13) [13]
        .skip
        (.exit 0)))
      (.seq
      (.block 1
        (.seq
        (.reg true (.fin [16, 17, 18, 19, 20, 21, 22, 23, 24, 25] [(25, (.bin (.cmp .eql) (.un .load (.bin (.idx 1) (.tmp 0) (.tmp 3))) (.un .load (.bin (.idx 1) (.tmp 0) (.bin (.arith .sub) (.tmp 3) (.con (.int .i64 1)))))))] []))
        (.cond (.tmp 25) [25]
          (.seq
          (.reg false (.fin [26, 27, 28, 4] [(4, (.bin (.lo 1) (.tmp 0) (.tmp 3)))] []))
          (.seq
          (.seq
          (.reg false (.fin [5] [(5, (.con (.int .i64 1)))] []))
          (.block 2
            (.loop L.slices_Compact_int.l2)))
          (.seq
          (.reg false (.loud [54, 55, 56] [] [(56, (.bin (.lo 1) (.tmp 0) (.tmp 3)))] none [] false (.call ⟨.builtin .clear, #[(.tmp 56)], #[23]⟩) 0 none false
            (.fin [] [] [])))
          (.seq
          (.reg false (.fin [57, 58, 59, 2] [(2, (.bin .hi (.tmp 0) (.tmp 3)))] []))
          .ret))))
          .skip)))
      (.reg false (.fin [14, 15, 3] [(3, (.bin (.arith .add) (.tmp 3) (.con (.int .i64 1))))] []))))
def L.slices_Compact_int : LFn :=
⟨[(.tmp 2)],
  (.seq
  (.reg false (.fin [2] [(2, (.con (.slice none 0 0)))] []))
  (.seq
  (.seq
  (.reg false (.fin [6, 7, 8] [(8, (.bin (.cmp .lss) (.un .len (.tmp 0)) (.con (.int .i64 2))))] []))
  (.cond (.tmp 8) [8]
    (.seq
    (.reg false (.fin [9, 2] [(2, (.tmp 0))] []))
    .ret)
    .skip))
  (.seq
  (.seq
  (.reg false (.fin [3] [(3, (.con (.int .i64 1)))] []))
  (.block 0
    (.loop L.slices_Compact_int.l1)))
  (.seq
  (.reg false (.fin [60, 2] [(2, (.tmp 0))] []))
  .ret))))⟩
theorem E.slices_Compact_int : liftF Try.prog Try.f51 = some L.slices_Compact_int := by kernel_rfl

/-- jacquard/graph.kept -/
abbrev N.graph_kept : Nat := 52
def L.graph_kept.l1 : LC :=
  (.seq
      (.reg false (.fin [11] [(11, (.bin (.cmp .lss) (.tmp 10) (.tmp 9)))] []))
      (.seq
      (.cond (.tmp 11) [11]
        .skip
        (.exit 0))
      (.seq
      (.block 1
        (.seq
        (.reg false (.fin [12, 13, 7] [(7, (.un .load (.bin (.idx 1) (.tmp 8) (.tmp 10))))] []))
        (.seq
        (.reg false (.fin [14, 15, 16, 17, 18, 19, 20] [(20, (.ite (.bin (.cmp .geq) (.tmp 7) (.con (.int .i64 0))) (.bin (.cmp .lss) (.tmp 7) (.tmp 1)) (.con (.bool false))))] []))
        (.cond (.tmp 20) [20]
          (.reg false (.loud [21, 22] [(21, (.tmp 5))] [(22, (.tmp 7))] none [] false (.buildSlice 23 1 #[(0, (.tmp 22))]) 23 (some 23) true
            (.loud [] [] [(21, (.tmp 21)), (23, (.tmp 23))] none [] false (.call ⟨.builtin .append, #[(.tmp 21), (.tmp 23)], #[23, 23]⟩) 23 (some 24) true
              (.fin [5] [(5, (.tmp 24))] []))))
          .skip))))
      (.reg false (.fin [25, 10] [(10, (.bin (.arith .add) (.tmp 10) (.con (.int .i64 1))))] [])))))
def L.graph_kept : LFn :=
⟨[(.tmp 4)],
  (.seq
  (.reg false (.fin [4] [(4, (.con (.slice none 0 0)))] []))
  (.seq
  (.reg false (.fin [5] [(5, (.con (.slice none 0 0)))] []))
  (.seq
  (.seq
  (.reg false (.fin [8, 9, 10] [(8, (.tmp 0)), (9, (.un .len (.tmp 0))), (10, (.con (.int .i64 0)))] []))
  (.block 0
    (.loop L.graph_kept.l1)))
  (.seq
  (.reg false (.loud [26] [] [(26, (.tmp 5))] none [] false (.call ⟨.value (.func 50), #[(.tmp 26)], #[23]⟩) 0 (some 27) false
    (.fin [] [] [])))
  (.seq
  (.reg false (.loud [28] [] [(28, (.tmp 5))] none [] false (.call ⟨.value (.func 51), #[(.tmp 28)], #[23]⟩) 23 (some 29) true
    (.fin [4] [(4, (.tmp 29))] [])))
  .ret)))))⟩
theorem E.graph_kept : liftF Try.prog Try.f52 = some L.graph_kept := by kernel_rfl

/-- (*jacquard/jacquardref02.walker).over -/
abbrev N.ref02_walker_over : Nat := 53
def L.ref02_walker_over.l1 : LC :=
  (.seq
      (.seq
      (.reg false (.fin [17, 18, 19, 20] [(20, (.bin (.cmp .lss) (.tmp 7) (.un .len (.tmp 6))))] []))
      (.cond (.tmp 20) [20]
        .skip
        (.exit 0)))
      (.seq
      (.block 1
        (.seq
        (.reg true (.fin [23, 24, 25, 26, 27, 28, 29, 30, 31, 32, 33] [(33, (.un .not (.un .load (.bin (.idx 1) (.un .load (.un (.fld 0) (.un .nilPtr (.tmp 0)))) (.un .load (.bin (.idx 1) (.tmp 6) (.tmp 7)))))))] []))
        (.cond (.tmp 33) [33]
          (.reg false (.loud [34, 35, 36, 37, 38, 39] [] [(34, (.tmp 0)), (35, (.tmp 1)), (39, (.un .load (.bin (.idx 1) (.tmp 6) (.tmp 7))))] none [] false (.call ⟨.value (.func 53), #[(.tmp 34), (.tmp 35), (.tmp 39)], #[71, 22, 3]⟩) 0 (some 40) false
            (.fin [] [] [])))
          .skip)))
      (.reg false (.fin [21, 22, 7] [(7, (.bin (.arith .add) (.tmp 7) (.con (.int .i64 1))))] []))))
def L.ref02_walker_over : LFn :=
⟨[],
  (.seq
  (.reg false (.loud [8, 9, 10, 11, 12, 13] [] [(13, (.bin (.idx 1) (.un .load (.un (.fld 0) (.un .nilPtr (.tmp 0)))) (.tmp 2)))] none [] false (.store 4 (.tmp 13) (.const (.bool true))) 0 none false
    (.fin [] [] [])))
  (.seq
  (.reg false (.loud [14, 15] [] [(14, (.tmp 1)), (15, (.tmp 2))] none [] false (.call ⟨.value (.func 45), #[(.tmp 14), (.tmp 15)], #[22, 3]⟩) 23 (some 16) true
    (.fin [6] [(6, (.tmp 16))] [])))
  (.seq
  (.seq
  (.reg false (.fin [7] [(7, (.con (.int .i64 0)))] []))
  (.block 0
    (.loop L.ref02_walker_over.l1)))
  (.reg false (.loud [41, 42, 43, 44, 45, 46] [(41, (.tmp 0)), (45, (.un .load (.un (.fld 1) (.un .nilPtr (.tmp 0)))))] [(46, (.tmp 2))] none [] false (.buildSlice 23 1 #[(0, (.tmp 46))]) 23 (some 47) true
    (.loud [] [] [(45, (.tmp 45)), (47, (.tmp 47))] none [] false (.call ⟨.builtin .append, #[(.tmp 45), (.tmp 47)], #[23, 23]⟩) 23 (some 48) true
      (.loud [49, 50] [] [(50, (.un (.fld 1) (.un .nilPtr (.tmp 41)))), (48, (.tmp 48))] none [] false (.store 23 (.tmp 50) (.tmp 48)) 0 none false
        (.fin [] [] []))))))))⟩
theorem E.ref02_walker_over : liftF Try.prog Try.f53 = some L.ref02_walker_over := by kernel_rfl

/-- jacquard/graph.back$1 -/
abbrev N.graph_back_1 : Nat := 54
def L.graph_back_1 : LFn :=
⟨[(.tmp 5)],
  (.seq
  (.reg false (.fin [5] [(5, (.con (.bool false)))] []))
  (.seq
  (.reg false (.loud [6, 7, 8, 9, 10, 11, 12, 13, 14, 15, 16, 17, 18] [(15, (.ite (.bin (.cmp .eql) (.tmp 0) (.con (.int .i64 0))) (.con (.bool true)) (.bin (.cmp .geq) (.un .load (.bin (.idx 1) (.un .load (.tmp 2)) (.tmp 0))) (.con (.int .i64 0)))))] [(16, (.gd (.ite (.bin (.cmp .eql) (.tmp 0) (.con (.int .i64 0))) (.con (.bool true)) (.bin (.cmp .geq) (.un .load (.bin (.idx 1) (.un .load (.tmp 2)) (.tmp 0))) (.con (.int .i64 0)))) true (.un .load (.tmp 2)))), (17, (.gd (.ite (.bin (.cmp .eql) (.tmp 0) (.con (.int .i64 0))) (.con (.bool true)) (.bin (.cmp .geq) (.un .load (.bin (.idx 1) (.un .load (.tmp 2)) (.tmp 0))) (.con (.int .i64 0)))) true (.tmp 1))), (18, (.gd (.ite (.bin (.cmp .eql) (.tmp 0) (.con (.int .i64 0))) (.con (.bool true)) (.bin (.cmp .geq) (.un .load (.bin (.idx 1) (.un .load (.tmp 2)) (.tmp 0))) (.con (.int .i64 0)))) true (.tmp 0)))] (some ((.ite (.bin (.cmp .eql) (.tmp 0) (.con (.int .i64 0))) (.con (.bool true)) (.bin (.cmp .geq) (.un .load (.bin (.idx 1) (.un .load (.tmp 2)) (.tmp 0))) (.con (.int .i64 0)))), true)) [] false (.call ⟨.value (.func 22), #[(.tmp 16), (.tmp 17), (.tmp 18)], #[23, 3, 3]⟩) 4 (some 19) true
    (.fin [20, 5] [(5, (.ite (.tmp 15) (.tmp 19) (.con (.bool false))))] [])))
  .ret))⟩
theorem E.graph_back_1 : liftF Try.prog Try.f54 = some L.graph_back_1 := by kernel_rfl

/-- jacquard/graph.edges$1 -/
abbrev N.graph_edges_1 : Nat := 55
def L.graph_edges_1.l2 : LC :=
  (.seq
            (.reg false (.fin [18] [(18, (.bin (.cmp .lss) (.tmp 17) (.tmp 16)))] []))
            (.seq
            (.cond (.tmp 18) [18]
              .skip
              (.exit 2))
            (.seq
            (.block 3
              (.seq
              (.reg false (.fin [19, 20, 6] [(6, (.un .load (.bin (.idx 1) (.tmp 15) (.tmp 17))))] []))
              (.seq
              (.reg false (.loud [21, 22, 23] [] [(21, (.tmp 0)), (22, (.tmp 3)), (23, (.tmp 6))] none [] false (.call ⟨.value (.tmp 21), #[(.tmp 22), (.tmp 23)], #[3, 3]⟩) 4 (some 24) true
                (.fin [25] [(25, (.un .not (.tmp 24)))] [])))
              (.cond (.tmp 25) [25]
                .ret
                .skip))))
            (.reg false (.fin [26, 17] [(17, (.bin (.arith .add) (.tmp 17) (.con (.int .i64 1))))] [])))))
def L.graph_edges_1.l1 : LC :=
  (.seq
      (.reg false (.fin [11] [(11, (.bin (.cmp .lss) (.tmp 10) (.tmp 9)))] []))
      (.seq
      (.cond (.tmp 11) [11]
        .skip
        (.exit 0))
      (.seq
      (.block 1
        (.seq
        (.reg false (.fin [12, 13, 14, 3, 4] [(3, (.tmp 10)), (4, (.un .load (.bin (.idx 1) (.tmp 8) (.tmp 10))))] []))
        (.seq
        (.reg false (.fin [15, 16, 17] [(15, (.tmp 4)), (16, (.un .len (.tmp 4))), (17, (.con (.int .i64 0)))] []))
        (.block 2
          (.loop L.graph_edges_1.l2)))))
      (.reg false (.fin [27, 10] [(10, (.bin (.arith .add) (.tmp 10) (.con (.int .i64 1))))] [])))))
def L.graph_edges_1 : LFn :=
⟨[],
  (.seq
  (.reg false (.loud [7] [] [(7, (.un .load (.tmp 1)))] none [] false (.call ⟨.value (.func 42), #[(.tmp 7)], #[22]⟩) 22 (some 8) true
    (.fin [9, 10] [(9, (.un .len (.tmp 8))), (10, (.con (.int .i64 0)))] [])))
  (.block 0
    (.loop L.graph_edges_1.l1)))⟩
theorem E.graph_edges_1 : liftF Try.prog Try.f55 = some L.graph_edges_1 := by kernel_rfl

/-- slices.pdqsortOrdered[int] -/
abbrev N.slices_pdqsortOrdered_int : Nat := 56
def L.slices_pdqsortOrdered_int.l1 : LC :=
  (.block 1
        (.seq
        (.reg false (.fin [19, 20, 21, 10] [(10, (.bin (.arith .sub) (.tmp 2) (.tmp 1)))] []))
        (.seq
        (.seq
        (.reg false (.fin [22, 23] [(23, (.bin (.cmp .leq) (.tmp 10) (.con (.int .i64 12))))] []))
        (.cond (.tmp 23) [23]
          (.seq
          (.reg false (.loud [24, 25, 26] [] [(24, (.tmp 0)), (25, (.tmp 1)), (26, (.tmp 2))] none [] false (.call ⟨.value (.func 58), #[(.tmp 24), (.tmp 25), (.tmp 26)], #[23, 3, 3]⟩) 0 (some 27) false
            (.fin [] [] [])))
          .ret)
          .skip))
        (.seq
        (.seq
        (.reg false (.fin [28, 29] [(29, (.bin (.cmp .eql) (.tmp 3) (.con (.int .i64 0))))] []))
        (.cond (.tmp 29) [29]
          (.seq
          (.reg false (.loud [30, 31, 32] [] [(30, (.tmp 0)), (31, (.tmp 1)), (32, (.tmp 2))] none [] false (.call ⟨.value (.func 59), #[(.tmp 30), (.tmp 31), (.tmp 32)], #[23, 3, 3]⟩) 0 (some 33) false
            (.fin [] [] [])))
          .ret)
          .skip))
        (.seq
        (.seq
        (.reg false (.fin [34, 35] [(35, (.un .not (.tmp 8)))] []))
        (.cond (.tmp 35) [35]
          (.seq
          (.reg false (.loud [36, 37, 38] [] [(36, (.tmp 0)), (37, (.tmp 1)), (38, (.tmp 2))] none [] false (.call ⟨.value (.func 60), #[(.tmp 36), (.tmp 37), (.tmp 38)], #[23, 3, 3]⟩) 0 (some 39) false
            (.fin [] [] [])))
          (.reg false (.fin [40, 41, 3] [(3, (.bin (.arith .sub) (.tmp 3) (.con (.int .i64 1))))] [])))
          .skip))
        (.seq
        (.reg false (.loud [43, 44, 45] [] [(43, (.tmp 0)), (44, (.tmp 1)), (45, (.tmp 2))] none [] false (.call ⟨.value (.func 61), #[(.tmp 43), (.tmp 44), (.tmp 45)], #[23, 3, 3]⟩) 80 (some 46) true
          (.fin [42, 47, 48, 11, 12] [(11, (.un (.ext 0) (.tmp 46))), (12, (.un (.ext 1) (.tmp 46)))] [])))
        (.seq
        (.seq
        (.reg false (.fin [49, 50] [(50, (.bin (.cmp .eql) (.tmp 12) (.con (.int .i64 2))))] []))
        (.cond (.tmp 50) [50]
          (.seq
          (.reg false (.loud [51, 52, 53] [] [(51, (.tmp 0)), (52, (.tmp 1)), (53, (.tmp 2))] none [] false (.call ⟨.value (.func 62), #[(.tmp 51), (.tmp 52), (.tmp 53)], #[23, 3, 3]⟩) 0 (some 54) false
            (.fin [] [] [])))
          (.seq
          (.reg false (.fin [55, 56, 57, 58, 59, 60, 11] [(11, (.bin (.arith .sub) (.bin (.arith .sub) (.tmp 2) (.con (.int .i64 1))) (.bin (.arith .sub) (.tmp 11) (.tmp 1))))] []))
          (.reg false (.fin [12] [(12, (.con (.int .i64 1)))] []))))
          .skip))
        (.seq
        (.seq
        (.reg false (.fin [61, 62, 63, 64, 65, 66, 67, 68] [(68, (.ite (.ite (.tmp 8) (.tmp 9) (.con (.bool false))) (.bin (.cmp .eql) (.tmp 12) (.con (.int .i64 1))) (.con (.bool false))))] []))
        (.cond (.tmp 68) [68]
          (.seq
          (.reg false (.loud [69, 70, 71] [] [(69, (.tmp 0)), (70, (.tmp 1)), (71, (.tmp 2))] none [] false (.call ⟨.value (.func 63), #[(.tmp 69), (.tmp 70), (.tmp 71)], #[23, 3, 3]⟩) 4 (some 72) true
            (.fin [] [] [])))
          (.cond (.tmp 72) [72]
            .ret
            .skip))
          .skip))
        (.seq
        (.seq
        (.reg true (.loud [73, 74, 75, 76, 77, 78, 79, 80, 81, 82, 83, 84] [(75, (.bin (.cmp .gtr) (.tmp 1) (.con (.int .i64 0))))] [(80, (.gd (.bin (.cmp .gtr) (.tmp 1) (.con (.int .i64 0))) true (.un .load (.bin (.idx 1) (.tmp 0) (.bin (.arith .sub) (.tmp 1) (.con (.int .i64 1))))))), (84, (.gd (.bin (.cmp .gtr) (.tmp 1) (.con (.int .i64 0))) true (.un .load (.bin (.idx 1) (.tmp 0) (.tmp 11)))))] (some ((.bin (.cmp .gtr) (.tmp 1) (.con (.int .i64 0))), true)) [] false (.call ⟨.value (.func 64), #[(.tmp 80), (.tmp 84)], #[3, 3]⟩) 4 (some 85) true
          (.fin [86, 87] [(87, (.ite (.tmp 75) (.un .not (.tmp 85)) (.con (.bool false))))] [])))
        (.cond (.tmp 87) [87]
          (.seq
          (.reg false (.loud [88, 89, 90, 91] [] [(88, (.tmp 0)), (89, (.tmp 1)), (90, (.tmp 2)), (91, (.tmp 11))] none [] false (.call ⟨.value (.func 65), #[(.tmp 88), (.tmp 89), (.tmp 90), (.tmp 91)], #[23, 3, 3, 3]⟩) 3 (some 92) true
            (.fin [13] [(13, (.tmp 92))] [])))
          (.seq
          (.reg false (.fin [93, 1] [(1, (.tmp 13))] []))
          (.exit 1)))
          .skip))
        (.seq
        (.reg false (.loud [95, 96, 97, 98] [] [(95, (.tmp 0)), (96, (.tmp 1)), (97, (.tmp 2)), (98, (.tmp 11))] none [] false (.call ⟨.value (.func 66), #[(.tmp 95), (.tmp 96), (.tmp 97), (.tmp 98)], #[23, 3, 3, 3]⟩) 83 (some 99) true
          (.fin [94, 100, 101, 14, 15] [(14, (.un (.ext 0) (.tmp 99))), (15, (.un (.ext 1) (.tmp 99)))] [])))
        (.seq
        (.reg false (.fin [102, 9] [(9, (.tmp 15))] []))
        (.seq
        (.reg false (.fin [103, 104, 105, 106, 107, 108, 16, 17] [(16, (.bin (.arith .sub) (.tmp 14) (.tmp 1))), (17, (.bin (.arith .sub) (.tmp 2) (.tmp 14)))] []))
        (.seq
        (.reg false (.fin [109, 110, 18] [(18, (.bin (.div .quo) (.tmp 10) (.con (.int .i64 8))))] []))
        (.seq
        (.reg false (.fin [111, 112, 113] [(113, (.bin (.cmp .lss) (.tmp 16) (.tmp 17)))] []))
        (.cond (.tmp 113) [113]
          (.seq
          (.reg false (.fin [114, 115, 116, 8] [(8, (.bin (.cmp .geq) (.tmp 16) (.tmp 18)))] []))
          (.seq
          (.reg false (.loud [117, 118, 119, 120] [] [(117, (.tmp 0)), (118, (.tmp 1)), (119, (.tmp 14)), (120, (.tmp 3))] none [] false (.call ⟨.value (.func 56), #[(.tmp 117), (.tmp 118), (.tmp 119), (.tmp 120)], #[23, 3, 3, 3]⟩) 0 (some 121) false
            (.fin [] [] [])))
          (.reg false (.fin [122, 123, 1] [(1, (.bin (.arith .add) (.tmp 14) (.con (.int .i64 1))))] []))))
          (.seq
          (.reg false (.fin [124, 125, 126, 8] [(8, (.bin (.cmp .geq) (.tmp 17) (.tmp 18)))] []))
          (.seq
          (.reg false (.loud [127, 128, 129, 130, 131] [] [(127, (.tmp 0)), (129, (.bin (.arith .add) (.tmp 14) (.con (.int .i64 1)))), (130, (.tmp 2)), (131, (.tmp 3))] none [] false (.call ⟨.value (.func 56), #[(.tmp 127), (.tmp 129), (.tmp 130), (.tmp 131)], #[23, 3, 3, 3]⟩) 0 (some 132) false
            (.fin [] [] [])))
          (.reg false (.fin [133, 2] [(2, (.tmp 14))] [])))))))))))))))))))
def L.slices_pdqsortOrdered_int : LFn :=
⟨[],
  (.seq
  (.reg false (.fin [8] [(8, (.con (.bool true)))] []))
  (.seq
  (.reg false (.fin [9] [(9, (.con (.bool true)))] []))
  (.block 0
    (.loop L.slices_pdqsortOrdered_int.l1))))⟩
theorem E.slices_pdqsortOrdered_int : liftF Try.prog Try.f56 = some L.slices_pdqsortOrdered_int := by kernel_rfl

/-- math/bits.Len -/
abbrev N.math_bits_Len : Nat := 57
def L.math_bits_Len : LFn :=
⟨[(.tmp 2)],
  (.seq
  (.reg false (.fin [2] [(2, (.con (.int .i64 0)))] []))
  (.seq
  (.cond (.con (.bool false)) []
    (.seq
    (.reg false (.loud [3, 4] [] [(4, (.un (.conv .u32) (.tmp 0)))] none [] false (.call ⟨.value (.func 67), #[(.tmp 4)], #[86]⟩) 3 (some 5) true
      (.fin [2] [(2, (.tmp 5))] [])))
    .ret)
    .skip)
  (.seq
  (.reg false (.loud [6] [] [(6, (.tmp 0))] none [] false (.call ⟨.value (.func 68), #[(.tmp 6)], #[88]⟩) 3 (some 7) true
    (.fin [2] [(2, (.tmp 7))] [])))
  .ret)))⟩
theorem E.math_bits_Len : liftF Try.prog Try.f57 = some L.math_bits_Len := by kernel_rfl

/-- slices.insertionSortOrdered[int] -/
abbrev N.slices_insertionSortOrdered_int : Nat := 58
def L.slices_insertionSortOrdered_int.l2 : LC :=
  (.seq
            (.seq
            (.reg true (.loud [16, 17, 18, 19, 20, 21, 22, 23, 24, 25, 26, 27, 28] [(19, (.bin (.cmp .gtr) (.tmp 7) (.tmp 1)))] [(23, (.gd (.bin (.cmp .gtr) (.tmp 7) (.tmp 1)) true (.un .load (.bin (.idx 1) (.tmp 0) (.tmp 7))))), (28, (.gd (.bin (.cmp .gtr) (.tmp 7) (.tmp 1)) true (.un .load (.bin (.idx 1) (.tmp 0) (.bin (.arith .sub) (.tmp 7) (.con (.int .i64 1)))))))] (some ((.bin (.cmp .gtr) (.tmp 7) (.tmp 1)), true)) [] false (.call ⟨.value (.func 64), #[(.tmp 23), (.tmp 28)], #[3, 3]⟩) 4 (some 29) true
              (.fin [30] [(30, (.ite (.tmp 19) (.tmp 29) (.con (.bool false))))] [])))
            (.cond (.tmp 30) [30]
              .skip
              (.exit 2)))
            (.seq
            (.block 3
              (.reg true (.loud [33, 34, 35, 36, 37, 38, 39, 40, 41, 42, 43, 44, 45, 46, 47] [(35, (.tmp 0)), (37, (.bin (.arith .sub) (.tmp 7) (.con (.int .i64 1)))), (46, (.un .load (.bin (.idx 1) (.tmp 0) (.tmp 7))))] [(47, (.bin (.idx 1) (.tmp 0) (.tmp 7))), (42, (.un .load (.bin (.idx 1) (.tmp 0) (.bin (.arith .sub) (.tmp 7) (.con (.int .i64 1))))))] none [] true (.store 3 (.tmp 47) (.tmp 42)) 0 none false
                (.loud [48] [] [(48, (.bin (.idx 1) (.tmp 35) (.tmp 37))), (46, (.tmp 46))] none [] false (.store 3 (.tmp 48) (.tmp 46)) 0 none false
                  (.fin [] [] [])))))
            (.reg false (.fin [31, 32, 7] [(7, (.bin (.arith .sub) (.tmp 7) (.con (.int .i64 1))))] []))))
def L.slices_insertionSortOrdered_int.l1 : LC :=
  (.seq
      (.seq
      (.reg false (.fin [10, 11, 12] [(12, (.bin (.cmp .lss) (.tmp 6) (.tmp 2)))] []))
      (.cond (.tmp 12) [12]
        .skip
        (.exit 0)))
      (.seq
      (.block 1
        (.seq
        (.reg false (.fin [15, 7] [(7, (.tmp 6))] []))
        (.block 2
          (.loop L.slices_insertionSortOrdered_int.l2))))
      (.reg false (.fin [13, 14, 6] [(6, (.bin (.arith .add) (.tmp 6) (.con (.int .i64 1))))] []))))
def L.slices_insertionSortOrdered_int : LFn :=
⟨[],
  (.seq
  (.reg false (.fin [8, 9, 6] [(6, (.bin (.arith .add) (.tmp 1) (.con (.int .i64 1))))] []))
  (.block 0
    (.loop L.slices_insertionSortOrdered_int.l1)))⟩
theorem E.slices_insertionSortOrdered_int : liftF Try.prog Try.f58 = some L.slices_insertionSortOrdered_int := by kernel_rfl

/-- slices.heapSortOrdered[int] -/
abbrev N.slices_heapSortOrdered_int : Nat := 59
def L.slices_heapSortOrdered_int.l1 : LC :=
  (.seq
      (.seq
      (.reg false (.fin [18, 19] [(19, (.bin (.cmp .geq) (.tmp 9) (.con (.int .i64 0))))] []))
      (.cond (.tmp 19) [19]
        .skip
        (.exit 0)))
      (.seq
      (.block 1
        (.reg false (.loud [22, 23, 24, 25] [] [(22, (.tmp 0)), (23, (.tmp 9)), (24, (.tmp 8)), (25, (.tmp 6))] none [] false (.call ⟨.value (.func 69), #[(.tmp 22), (.tmp 23), (.tmp 24), (.tmp 25)], #[23, 3, 3, 3]⟩) 0 (some 26) false
          (.fin [] [] []))))
      (.reg false (.fin [20, 21, 9] [(9, (.bin (.arith .sub) (.tmp 9) (.con (.int .i64 1))))] []))))
def L.slices_heapSortOrdered_int.l2 : LC :=
  (.seq
      (.seq
      (.reg false (.fin [29, 30] [(30, (.bin (.cmp .geq) (.tmp 10) (.con (.int .i64 0))))] []))
      (.cond (.tmp 30) [30]
        .skip
        (.exit 2)))
      (.seq
      (.block 3
        (.seq
        (.reg true (.loud [33, 34, 35, 36, 37, 38, 39, 40, 41, 42, 43, 44, 45, 46, 47, 48, 49] [(35, (.tmp 0)), (38, (.bin (.arith .add) (.tmp 6) (.tmp 10))), (48, (.un .load (.bin (.idx 1) (.tmp 0) (.tmp 6))))] [(49, (.bin (.idx 1) (.tmp 0) (.tmp 6))), (44, (.un .load (.bin (.idx 1) (.tmp 0) (.bin (.arith .add) (.tmp 6) (.tmp 10)))))] none [] true (.store 3 (.tmp 49) (.tmp 44)) 0 none false
          (.loud [50] [] [(50, (.bin (.idx 1) (.tmp 35) (.tmp 38))), (48, (.tmp 48))] none [] false (.store 3 (.tmp 50) (.tmp 48)) 0 none false
            (.fin [] [] []))))
        (.reg false (.loud [51, 52, 53, 54] [] [(51, (.tmp 0)), (52, (.tmp 7)), (53, (.tmp 10)), (54, (.tmp 6))] none [] false (.call ⟨.value (.func 69), #[(.tmp 51), (.tmp 52), (.tmp 53), (.tmp 54)], #[23, 3, 3, 3]⟩) 0 (some 55) false
          (.fin [] [] [])))))
      (.reg false (.fin [31, 32, 10] [(10, (.bin (.arith .sub) (.tmp 10) (.con (.int .i64 1))))] []))))
def L.slices_heapSortOrdered_int : LFn :=
⟨[],
  (.seq
  (.reg false (.fin [11, 6] [(6, (.tmp 1))] []))
  (.seq
  (.reg false (.fin [7] [(7, (.con (.int .i64 0)))] []))
  (.seq
  (.reg false (.fin [12, 13, 14, 8] [(8, (.bin (.arith .sub) (.tmp 2) (.tmp 1)))] []))
  (.seq
  (.seq
  (.reg false (.fin [15, 16, 17, 9] [(9, (.bin (.div .quo) (.bin (.arith .sub) (.tmp 8) (.con (.int .i64 1))) (.con (.int .i64 2))))] []))
  (.block 0
    (.loop L.slices_heapSortOrdered_int.l1)))
  (.seq
  (.reg false (.fin [27, 28, 10] [(10, (.bin (.arith .sub) (.tmp 8) (.con (.int .i64 1))))] []))
  (.block 2
    (.loop L.slices_heapSortOrdered_int.l2)))))))⟩
theorem E.slices_heapSortOrdered_int : liftF Try.prog Try.f59 = some L.slices_heapSortOrdered_int := by kernel_rfl

/-- slices.breakPatternsOrdered[int] -/
abbrev N.slices_breakPatternsOrdered_int : Nat := 60
def L.slices_breakPatternsOrdered_int.l1 : LC :=
  (.seq
        (.seq
        (.reg false (.fin [26, 27, 28, 29, 30, 31, 32, 33] [(33, (.bin (.cmp .leq) (.tmp 9) (.bin (.arith .add) (.bin (.arith .add) (.tmp 1) (.bin (.arith .mul) (.bin (.div .quo) (.tmp 6) (.con (.int .i64 4))) (.con (.int .i64 2)))) (.con (.int .i64 1)))))] []))
        (.cond (.tmp 33) [33]
          .skip
          (.exit 0)))
        (.seq
        (.block 1
          (.seq
          (.reg false (.loud [] [] [(7, (.tmp 7))] none [] false (.call ⟨.value (.func 71), #[(.tmp 7)], #[89]⟩) 88 (some 36) true
            (.fin [37, 38, 39, 40, 10] [(10, (.un (.conv .i64) (.bin (.bits .and) (.tmp 36) (.bin (.arith .sub) (.tmp 8) (.con (.int .u64 1))))))] [])))
          (.seq
          (.seq
          (.reg false (.fin [41, 42, 43] [(43, (.bin (.cmp .geq) (.tmp 10) (.tmp 6)))] []))
          (.cond (.tmp 43) [43]
            (.reg false (.fin [44, 45, 46, 10] [(10, (.bin (.arith .sub) (.tmp 10) (.tmp 6)))] []))
            .skip))
          (.reg true (.loud [47, 48, 49, 50, 51, 52, 53, 54, 55, 56, 57, 58, 59, 60, 61, 62, 63] [(49, (.tmp 0)), (52, (.bin (.arith .add) (.tmp 1) (.tmp 10))), (62, (.un .load (.bin (.idx 1) (.tmp 0) (.tmp 9))))] [(63, (.bin (.idx 1) (.tmp 0) (.tmp 9))), (58, (.un .load (.bin (.idx 1) (.tmp 0) (.bin (.arith .add) (.tmp 1) (.tmp 10)))))] none [] true (.store 3 (.tmp 63) (.tmp 58)) 0 none false
            (.loud [64] [] [(64, (.bin (.idx 1) (.tmp 49) (.tmp 52))), (62, (.tmp 62))] none [] false (.store 3 (.tmp 64) (.tmp 62)) 0 none false
              (.fin [] [] [])))))))
        (.reg false (.fin [34, 35, 9] [(9, (.bin (.arith .add) (.tmp 9) (.con (.int .i64 1))))] []))))
def L.slices_breakPatternsOrdered_int : LFn :=
⟨[],
  (.seq
  (.reg false (.fin [11, 12, 13, 6] [(6, (.bin (.arith .sub) (.tmp 2) (.tmp 1)))] []))
  (.seq
  (.reg false (.fin [14, 15] [(15, (.bin (.cmp .geq) (.tmp 6) (.con (.int .i64 8))))] []))
  (.cond (.tmp 15) [15]
    (.seq
    (.reg false (.loud [16, 17] [(17, (.un (.conv .u64) (.tmp 6)))] [] none [] false (.alloc 89) 0 (some 7) true
      (.loud [] [] [(7, (.tmp 7)), (17, (.tmp 17))] none [] false (.store 89 (.tmp 7) (.tmp 17)) 0 none false
        (.fin [] [] []))))
    (.seq
    (.reg false (.loud [18] [] [(18, (.tmp 6))] none [] false (.call ⟨.value (.func 70), #[(.tmp 18)], #[3]⟩) 77 (some 19) true
      (.fin [8] [(8, (.tmp 19))] [])))
    (.seq
    (.reg false (.fin [20, 21, 22, 23, 24, 25, 9] [(9, (.bin (.arith .sub) (.bin (.arith .add) (.tmp 1) (.bin (.arith .mul) (.bin (.div .quo) (.tmp 6) (.con (.int .i64 4))) (.con (.int .i64 2)))) (.con (.int .i64 1))))] []))
    (.block 0
      (.loop L.slices_breakPatternsOrdered_int.l1)))))
    .skip)))⟩
theorem E.slices_breakPatternsOrdered_int : liftF Try.prog Try.f60 = some L.slices_breakPatternsOrdered_int := by kernel_rfl

/-- slices.choosePivotOrdered[int] -/
abbrev N.slices_choosePivotOrdered_int : Nat := 61
def L.slices_choosePivotOrdered_int : LFn :=
⟨[(.tmp 6), (.tmp 7)],
  (.seq
  (.reg false (.fin [6, 7] [(6, (.con (.int .i64 0))), (7, (.con (.int .i64 0)))] []))
  (.seq
  (.reg false (.fin [13, 14, 15, 8] [(8, (.bin (.arith .sub) (.tmp 2) (.tmp 1)))] []))
  (.seq
  (.reg false (.loud [] [] [] none [] false (.alloc 3) 0 (some 9) true
    (.fin [] [] [])))
  (.seq
  (.reg false (.fin [16, 17, 18, 19, 20, 10] [(10, (.bin (.arith .add) (.tmp 1) (.bin (.arith .mul) (.bin (.div .quo) (.tmp 8) (.con (.int .i64 4))) (.con (.int .i64 1)))))] []))
  (.seq
  (.reg false (.fin [21, 22, 23, 24, 25, 11] [(11, (.bin (.arith .add) (.tmp 1) (.bin (.arith .mul) (.bin (.div .quo) (.tmp 8) (.con (.int .i64 4))) (.con (.int .i64 2)))))] []))
  (.seq
  (.reg false (.fin [26, 27, 28, 29, 30, 12] [(12, (.bin (.arith .add) (.tmp 1) (.bin (.arith .mul) (.bin (.div .quo) (.tmp 8) (.con (.int .i64 4))) (.con (.int .i64 3)))))] []))
  (.seq
  (.seq
  (.reg false (.fin [31, 32] [(32, (.bin (.cmp .geq) (.tmp 8) (.con (.int .i64 8))))] []))
  (.cond (.tmp 32) [32]
    (.seq
    (.seq
    (.reg false (.fin [33, 34] [(34, (.bin (.cmp .geq) (.tmp 8) (.con (.int .i64 50))))] []))
    (.cond (.tmp 34) [34]
      (.seq
      (.reg false (.loud [35, 36] [] [(35, (.tmp 0)), (36, (.tmp 10)), (9, (.tmp 9))] none [] false (.call ⟨.value (.func 72), #[(.tmp 35), (.tmp 36), (.tmp 9)], #[23, 3, 93]⟩) 3 (some 37) true
        (.fin [10] [(10, (.tmp 37))] [])))
      (.seq
      (.reg false (.loud [38, 39] [] [(38, (.tmp 0)), (39, (.tmp 11)), (9, (.tmp 9))] none [] false (.call ⟨.value (.func 72), #[(.tmp 38), (.tmp 39), (.tmp 9)], #[23, 3, 93]⟩) 3 (some 40) true
        (.fin [11] [(11, (.tmp 40))] [])))
      (.reg false (.loud [41, 42] [] [(41, (.tmp 0)), (42, (.tmp 12)), (9, (.tmp 9))] none [] false (.call ⟨.value (.func 72), #[(.tmp 41), (.tmp 42), (.tmp 9)], #[23, 3, 93]⟩) 3 (some 43) true
        (.fin [12] [(12, (.tmp 43))] [])))))
      .skip))
    (.reg false (.loud [44, 45, 46, 47] [] [(44, (.tmp 0)), (45, (.tmp 10)), (46, (.tmp 11)), (47, (.tmp 12)), (9, (.tmp 9))] none [] false (.call ⟨.value (.func 73), #[(.tmp 44), (.tmp 45), (.tmp 46), (.tmp 47), (.tmp 9)], #[23, 3, 3, 3, 93]⟩) 3 (some 48) true
      (.fin [11] [(11, (.tmp 48))] []))))
    .skip))
  (.seq
  (.reg false (.fin [49] [(49, (.un .load (.tmp 9)))] []))
  (.block 0
    (.seq
    (.reg false (.fin [52, 51] [(51, (.bin (.cmp .eql) (.tmp 49) (.con (.int .i64 0))))] []))
    (.cond (.tmp 51) [51]
      (.seq
      (.reg false (.fin [53, 6, 7] [(6, (.tmp 11)), (7, (.con (.int .i64 1)))] []))
      .ret)
      (.seq
      (.reg false (.fin [55, 54] [(54, (.bin (.cmp .eql) (.tmp 49) (.con (.int .i64 12))))] []))
      (.cond (.tmp 54) [54]
        (.seq
        (.reg false (.fin [56, 6, 7] [(6, (.tmp 11)), (7, (.con (.int .i64 2)))] []))
        .ret)
        (.seq
        (.reg false (.fin [50, 6, 7] [(6, (.tmp 11)), (7, (.con (.int .i64 0)))] []))
        .ret))))))))))))))⟩
theorem E.slices_choosePivotOrdered_int : liftF Try.prog Try.f61 = some L.slices_choosePivotOrdered_int := by kernel_rfl

end Go.Proofs.Ytaebcebflfgdiaa

namespace Go.Proofs.Ytaebcebflfgdiaa
open Go Go.Lft
theorem follows : Try.prog.follows .mixedOrders = true := by kernel_rfl
set_option maxHeartbeats 400000 in
theorem nums_ok {a b : List Int} {va vb : Value} {h : Heap} (ha : SlRd (vw h) va a) (hb : SlRd (vw h) vb b) :
    HCalls Try.prog N.ref02_Nums #[va, vb] h (fun v h' => v = .bool (a == b) ∧ h' = h) := by
  refine calls_lift (args := [va, vb]) follows Try.func33 E.ref02_Nums (by show 2 ≤ 26; decide) fun K hK => ?_
  have ba := ha.bound
  have bb := hb.bound
  simp [L.ref02_Nums, ha.len, hb.len]
  refine ⟨fun heq => ?_, fun hne => ?_⟩
  · refine lwp_loop [0, 1, 4, 5] (fun n ρ h' => ∃ k : Nat, k ≤ a.length ∧ ρ = [(0, va), (1, vb), (4, .bool false), (5, .int .i64 k)] ∧ h' = h ∧ n = a.length - k ∧ ∀ j, j < k → nth a j = nth b j) a.length ⟨0, by omega, rfl, rfl, rfl, by intro j hj; omega⟩ ?_
    rintro n ρ h' ⟨k, hk, rfl, rfl, rfl, hpre⟩ K2 hK2
    by_cases hlt : k < a.length
    · simp (disch := omega) [L.ref02_Nums.l1, ha.len, hlt, ha.idx1 rfl, hb.idx1 rfl, ha.int (View.le_refl _), hb.int (View.le_refl _)]
      refine ⟨fun he => hK2 _ _ _ ?_ ⟨k + 1, hlt, rfl, rfl, rfl, fun j hj => ?_⟩, fun he => hK _ _ ⟨?_, rfl⟩⟩
      · omega
      · rcases Nat.lt_or_ge j k with h | h
        · exact hpre j h
        · have : j = k := by omega
          subst this; exact he
      · simp; intro e; subst e; exact he rfl
    · simp (disch := omega) [L.ref02_Nums.l1, ha.len, hlt]
      refine hK _ _ ⟨?_, rfl⟩
      have : k = a.length := by omega
      subst this
      simp
      exact eq_of_nth (by omega) hpre
  · exact hK _ _ ⟨by simp; intro e; subst e; exact hne rfl, rfl⟩
end Go.Proofs.Ytaebcebflfgdiaa

namespace Go.Proofs.Ytaebcebflfgdiaa
open Go Go.Lft
set_option linter.unusedSimpArgs false
set_option linter.unusedVariables false
abbrev Gr := List (List Int)

def edgeS (g : Gr) (a b : Int) : Bool := decide (0 ≤ a ∧ a < g.length ∧ 0 ≤ b ∧ b < g.length) && (nth g a.toNat).contains b

theorem edge_ok {g : Gr} {a b : Int} {vg : Value} {h : Heap} (hg : SlRd (vw h) vg g) :
    HCalls Try.prog N.ref02_Edge #[vg, .int .i64 a, .int .i64 b] h (fun v h' => v = .bool (edgeS g a b) ∧ h' = h) := by
  refine calls_lift (args := [vg, .int .i64 a, .int .i64 b]) follows Try.func19 E.ref02_Edge (by show 3 ≤ 44; decide) fun K hK => ?_
  have bg := hg.bound
  by_cases hin : 0 ≤ a ∧ a < g.length ∧ 0 ≤ b ∧ b < g.length
  · obtain ⟨h1, h2, h3, h4⟩ := hin
    obtain ⟨i, rfl⟩ := Int.eq_ofNat_of_zero_le h1
    obtain ⟨rv, hrv⟩ := hg.rows
    obtain ⟨hc, hr⟩ := hrv i (by omega)
    have br := hr.bound
    have hspec : edgeS g i b = (nth g i).contains b := by simp [edgeS, h2, h3, h4]
    rw [hspec] at hK
    simp (disch := omega) [L.ref02_Edge, hg.len, Int.not_lt.2 h1, Int.not_le.2 h2, Int.not_lt.2 h3, Int.not_le.2 h4]
    refine lwp_loop [0, 1, 2, 6, 7] (fun n ρ h' => ∃ k : Nat, k ≤ (nth g i).length ∧ ρ = [(0, vg), (1, .int .i64 i), (2, .int .i64 b), (6, .bool false), (7, .int .i64 k)] ∧ h' = h ∧ n = (nth g i).length - k ∧ ∀ j, j < k → nth (nth g i) j ≠ b) (nth g i).length ⟨0, by omega, rfl, rfl, rfl, by intro j hj; omega⟩ ?_
    rintro n ρ h' ⟨k, hk, rfl, rfl, rfl, hpre⟩ K2 hK2
    by_cases hlt : k < (nth g i).length
    · simp (disch := omega) [L.ref02_Edge.l1, hg.len, hg.idx1 rfl, hc _ (View.le_refl _), hr.len, hlt, hr.idx1 rfl, hr.int (View.le_refl _)]
      refine ⟨fun he => hK _ _ ⟨?_, rfl⟩, fun he => hK2 _ _ _ ?_ ⟨k + 1, hlt, rfl, rfl, rfl, fun j hj => ?_⟩⟩
      · subst he; simpa using nth_mem hlt
      · omega
      · rcases Nat.lt_or_ge j k with h | h
        · exact hpre j h
        · have : j = k := by omega
          subst this; exact he
    · simp (disch := omega) [L.ref02_Edge.l1, hg.len, hg.idx1 rfl, hc _ (View.le_refl _), hr.len, hlt]
      refine hK _ _ ⟨?_, rfl⟩
      have : k = (nth g i).length := by omega
      subst this
      simp only [Value.bool.injEq]
      refine (Bool.eq_false_iff.2 fun hm => ?_).symm
      simp only [List.contains_iff_mem] at hm
      obtain ⟨j, hj, e⟩ := List.getElem_of_mem hm
      exact hpre j hj (by rw [nth_eq hj]; exact e)
  · have hspec : edgeS g a b = false := by simp [edgeS]; omega
    rw [hspec] at hK
    have hc : (((a < 0 ∨ (g.length : Int) ≤ a) ∨ b < 0) ∨ (g.length : Int) ≤ b) := by omega
    have hd : (decide (a < 0) || decide ((g.length : Int) ≤ a) || decide (b < 0) || decide ((g.length : Int) ≤ b)) = true := by simpa [or_assoc] using hc
    simp (disch := omega) [L.ref02_Edge, hg.len, hd]
    exact hK _ _ ⟨rfl, rfl⟩


theorem elem23 : ElemT Try.prog 23 3 1 8 (.int .i64 0) := elemT_of (by kernel_rfl) (by kernel_rfl) rfl (by decide)
theorem elem22 : ElemT Try.prog 22 23 1 24 (.slice none 0 0) := elemT_of (by kernel_rfl) (by kernel_rfl) rfl (by decide)
theorem elem32 : ElemT Try.prog 32 4 1 1 (.bool false) := elemT_of (by kernel_rfl) (by kernel_rfl) rfl (by decide)
theorem elem30 : ElemT Try.prog 30 32 1 24 (.slice none 0 0) := elemT_of (by kernel_rfl) (by kernel_rfl) rfl (by decide)

def nextS (g : Gr) (a : Int) : List Int := sift (fun b => edgeS g a b) (fun b => (b : Int)) g.length

theorem next_ok {g : Gr} {a : Int} {vg : Value} {h : Heap} (hg : SlRd (vw h) vg g) (hs : g.length ≤ 1000000) :
    HCalls Try.prog N.ref02_next #[vg, .int .i64 a] h (fun v h' => (vw h).le (vw h') ∧ SlRd (fresh h h') v (nextS g a)) := by
  refine calls_lift (args := [vg, .int .i64 a]) follows Try.func45 E.ref02_next (by show 2 ≤ 24; decide) fun K hK => ?_
  simp [L.ref02_next]
  refine lwp_for [0, 1, 5, 6] (fun (v : Value) k => [vg, .int .i64 a, v, .int .i64 k]) (fun v k h1 => Mine nothing h h1 nothing 3 v (sift (fun b => edgeS g a b) (fun b => (b : Int)) k)) g.length (.slice none 0 0)
    rfl (by omega) rfl (Mine.start (fun _ _ h => by cases h)) (fun _ _ => rfl) (fun v k h1 hk m => by simp [hg.len]) ?_ ?_
  · intro v k h1 hlt m K2 hK2
    simp
    refine call_to (by kernel_rfl) (edge_ok (hg.mono m.old)) ?_
    rintro _ _ ⟨rfl, rfl⟩
    simp [condP_bool]
    refine ⟨fun he => ?_, fun he => hK2 v _ _ rfl rfl (by rw [sift_false he]; exact m)⟩
    have := sift_len (p := fun b => edgeS g a b) (x := fun b => (b : Int)) k
    refine m.push elem23 (by simp <;> rfl) (rd_i (by omega) (by omega)) (by omega) (by omega) (fun _ => by simp) (fun _ => by simp) fun u v' h3 m' => hK2 v' _ _ rfl rfl (by rw [sift_true he]; exact m')
  · intro v h1 m
    simp
    exact hK _ _ ⟨m.old, m.fresh⟩

def predsS (g : Gr) : Gr := rows (fun b => sift (fun a => edgeS g a b) (fun a => (a : Int)) g.length) g.length

theorem refPreds_ok {g : Gr} {vg : Value} {h : Heap} (hg : SlRd (vw h) vg g) (hs : g.length ≤ 1000000) :
    HCalls Try.prog N.ref02_Preds #[vg] h (fun v h' => (vw h).le (vw h') ∧ SlRd (fresh h h') v (predsS g)) := by
  refine calls_lift (args := [vg]) follows Try.func35 E.ref02_Preds (by show 1 ≤ 34; decide) fun K hK => ?_
  simp [L.ref02_Preds]
  refine lwp_for [0, 3, 4] (fun (s : Value × View) k => [vg, s.1, .int .i64 k]) (fun s k h1 => Mine nothing h h1 s.2 23 s.1 (rows (fun b => sift (fun a => edgeS g a b) (fun a => (a : Int)) g.length) k)) g.length (.slice none 0 0, nothing)
    rfl (by omega) rfl (Mine.start (fun _ _ h => by cases h)) (fun _ _ => rfl) (fun v k h1 hk m => by simp [hg.len]) ?_ ?_
  · rintro ⟨v, W⟩ b h1 hlt m K2 hK2
    simp
    refine lwp_for [0, 3, 4, 5, 6] (fun (r : Value) a => [vg, v, .int .i64 b, r, .int .i64 a]) (fun r a h2 => Mine nothing h1 h2 nothing 3 r (sift (fun a => edgeS g a b) (fun a => (a : Int)) a)) g.length (.slice none 0 0)
      rfl (by omega) rfl (Mine.start (fun _ _ h => by cases h)) (fun _ _ => rfl) (fun v k h1 hk m => by simp [hg.len]) ?_ ?_
    · intro r a h2 hlt2 m2 K3 hK3
      simp
      refine call_to (by kernel_rfl) (edge_ok (hg.mono (View.le_trans m.old m2.old))) ?_
      rintro _ _ ⟨rfl, rfl⟩
      simp [condP_bool]
      refine ⟨fun he => ?_, fun he => hK3 r _ _ rfl rfl (by rw [sift_false he]; exact m2)⟩
      have := sift_len (p := fun a => edgeS g a b) (x := fun b => (b : Int)) a
      refine m2.push elem23 (by simp <;> rfl) (rd_i (by omega) (by omega)) (by omega) (by omega) (fun _ => by simp) (fun _ => by simp) fun u v' h3 m' => hK3 v' _ _ rfl rfl (by rw [sift_true he]; exact m')
    · intro r h2 m2
      simp
      have mm := m.ext m2.old
      refine mm.push elem22 (by simp <;> rfl) (rd_list.2 (m2.fresh.mono (fresh_grow _ _ _))) (by simp; omega) (by simp; omega) (fun _ => by simp) (fun _ => by simp) fun u v' h3 m' => hK2 (v', _) _ _ rfl rfl (by rw [rows_succ]; exact m')
  · rintro ⟨v, W⟩ h1 m
    simp
    exact hK _ _ ⟨m.old, m.fresh⟩
end Go.Proofs.Ytaebcebflfgdiaa

namespace Go.Proofs.Ytaebcebflfgdiaa
open Go Go.Lft
set_option linter.unusedSimpArgs false
set_option linter.unusedVariables false

/-- One block's edges followed. -/
def outStep (gone : Int) (l : List Int) (i : Nat) (out : List Bool) : List Bool := out.set (nth l i).toNat (nth out (nth l i).toNat || decide (nth l i ≠ gone))
def outBlock (g : Gr) (gone : Int) (a : Nat) (out : List Bool) : List Bool := if nth out a then up (outStep gone (nextS g a)) (nextS g a).length out else out
def outRound (g : Gr) (gone : Int) (out : List Bool) : List Bool := up (outBlock g gone) g.length out
def withoutS (g : Gr) (gone : Int) : List Bool :=
  if g.length = 0 ∨ gone = 0 then List.replicate g.length false else up (fun _ => outRound g gone) g.length ((List.replicate g.length false).set 0 true)

theorem outStep_len {gone : Int} {l : List Int} {i : Nat} {out : List Bool} : (outStep gone l i out).length = out.length := by simp [outStep]
theorem up_keep {β γ : Type} (m : β → γ) {f : Nat → β → β} (hf : ∀ k x, m (f k x) = m x) (n : Nat) (x : β) : m (up f n x) = m x := by
  induction n with
  | zero => rfl
  | succ n ih => rw [up, hf, ih]
theorem outBlock_len {g : Gr} {gone : Int} {a : Nat} {out : List Bool} : (outBlock g gone a out).length = out.length := by
  unfold outBlock; split
  · exact up_keep List.length (fun _ _ => outStep_len) _ _
  · rfl
theorem outRound_len {g : Gr} {gone : Int} {out : List Bool} : (outRound g gone out).length = out.length := up_keep List.length (fun _ _ => outBlock_len) _ _

theorem nextS_mem {g : Gr} {a : Int} {i : Nat} (hi : i < (nextS g a).length) : 0 ≤ nth (nextS g a) i ∧ nth (nextS g a) i < g.length := by
  have := nth_mem hi
  rw [nextS, sift_eq] at this
  simp only [List.mem_map, List.mem_filter, List.mem_range] at this
  obtain ⟨b, ⟨h1, _⟩, h2⟩ := this
  rw [nextS, sift_eq] at *
  omega

theorem without_own {g : Gr} {gone : Int} {vg : Value} {h : Heap} (hg : SlRd (vw h) vg g) (hs : g.length ≤ 1000000) :
    HCalls Try.prog N.ref02_Without #[vg, .int .i64 gone] h (fun v h' => ∃ W, Mine nothing h h' W 4 v (withoutS g gone)) := by
  refine calls_lift (args := [vg, .int .i64 gone]) follows Try.func18 E.ref02_Without (by show 2 ≤ 70; decide) fun K hK => ?_
  simp [L.ref02_Without, hg.len]
  refine Mine.made (V := nothing) (W := nothing) (h0 := h) (n := g.length) (d := false) elem32 (View.le_refl _) (fun _ _ h => by cases h) (Old.nothing _ _) (by simp <;> rfl) (by simp <;> rfl) rfl (by omega) (by omega) fun v h1 m _ _ => ?_
  simp (disch := omega) [hg.len, condP_or]
  refine ⟨fun hz => hK _ _ ?_, fun hz hz2 => ?_⟩
  · have : withoutS g gone = List.replicate g.length false := by simp [withoutS, hz]
    exact ⟨_, this ▸ m⟩
  · have hz' : g.length ≠ 0 := by simpa using hz
    have hl0 : (List.replicate g.length false).length = g.length := List.length_replicate
    simp (disch := omega) [m.now.idx1 rfl]
    refine m.put1 (α := Bool) (i := 0) (d := true) (by kernel_rfl) rfl (by simp) (by simp <;> rfl) (by omega) rd_b fun h2 m => ?_
    refine lwp_for [0, 1, 5, 6] (fun (_ : View) k => [vg, .int .i64 gone, v, .int .i64 k]) (fun W k h1 => Mine nothing h h1 W 4 v (up (fun _ => outRound g gone) k ((List.replicate g.length false).set 0 true))) g.length nothing
      rfl (by omega) rfl m (fun _ _ => rfl) (fun v k h1 hk m => by simp [hg.len]) ?_ ?_
    · intro W k h1 hlt m K2 hK2
      generalize hx : up (fun _ => outRound g gone) k ((List.replicate g.length false).set 0 true) = x at m
      have hxl : x.length = g.length := by rw [← hx, up_keep List.length (fun _ _ => outRound_len)]; simp
      simp
      refine lwp_for [0, 1, 5, 6, 7] (fun (_ : View) a => [vg, .int .i64 gone, v, .int .i64 k, .int .i64 a]) (fun W a h2 => Mine nothing h h2 W 4 v (up (outBlock g gone) a x)) g.length W
        rfl (by omega) rfl m (fun _ _ => rfl) (fun v k h1 hk m => by simp [hg.len]) ?_ ?_
      · intro W a h2 hlt2 m2 K3 hK3
        generalize hy : up (outBlock g gone) a x = y at m2
        have hyl : y.length = g.length := by rw [← hy, up_keep List.length (fun _ _ => outBlock_len)]; exact hxl
        simp (disch := omega) [m2.now.idx1 rfl, m2.now.bool (View.le_refl _), condP_bool]
        refine ⟨fun he => ?_, fun he => hK3 W _ _ rfl rfl (by rw [up, hy, outBlock, he]; exact m2)⟩
        refine call_to (by kernel_rfl) (next_ok (hg.mono m2.old) hs) ?_
        rintro r h3 ⟨hle3, hr⟩
        have m3 := m2.ext hle3
        have hr3 := hr.mono (fresh_grow W _ _)
        have br := hr.bound
        refine lwp_for [0, 1, 5, 6, 7, 8, 9] (fun (_ : Unit) i => [vg, .int .i64 gone, v, .int .i64 k, .int .i64 a, r, .int .i64 i]) (fun _ i h4 => Mine nothing h h4 (grow W h2 h3) 4 v (up (outStep gone (nextS g a)) i y)) (nextS g a).length ()
          rfl (by omega) rfl m3 (fun _ _ => rfl) (fun v k h1 hk m => by simp [hr.len]) ?_ ?_
        · intro _ i h4 hlt4 m4 K4 hK4
          generalize hz : up (outStep gone (nextS g a)) i y = z at m4
          have hzl : z.length = g.length := by rw [← hz, up_keep List.length (fun _ _ => outStep_len)]; exact hyl
          obtain ⟨e0, e1⟩ := nextS_mem hlt4
          simp
          refine drawn_at (vw h4) (View.le_refl _) ?_
          simp (disch := omega) [hr3.idx1 rfl, (hr3.mono m4.wle).int (View.le_refl _), m4.now.idx1 rfl, m4.now.bool (View.le_refl _)]
          refine m4.put1 (α := Bool) (i := (nth (nextS g a) i).toNat) (by kernel_rfl) rfl (by simp) (by simp <;> rfl) (by omega) rd_b fun h5 m5 => hK4 () _ _ rfl rfl ?_
          have : up (outStep gone (nextS g a)) (i + 1) y = z.set (nth (nextS g a) i).toNat (nth z (nth (nextS g a) i).toNat || !decide (nth (nextS g a) i = gone)) := by rw [up, hz, outStep]; simp
          rw [this]; exact m5
        · intro _ h4 m4
          simp
          exact hK3 _ _ _ rfl rfl (by rw [up, hy, outBlock, he]; exact m4)
      · intro _ h2 m2
        simp
        exact hK2 _ _ _ rfl rfl (by rw [up, hx]; exact m2)
    · intro _ h2 m2
      simp
      refine hK _ _ ?_
      have : withoutS g gone = up (fun _ => outRound g gone) g.length ((List.replicate g.length false).set 0 true) := by simp [withoutS, hz, hz2]
      exact ⟨_, this ▸ m2⟩

theorem without_ok {g : Gr} {gone : Int} {vg : Value} {h : Heap} (hg : SlRd (vw h) vg g) (hs : g.length ≤ 1000000) :
    HCalls Try.prog N.ref02_Without #[vg, .int .i64 gone] h (fun v h' => (vw h).le (vw h') ∧ SlRd (fresh h h') v (withoutS g gone)) :=
  (without_own hg hs).mono fun _ _ ⟨_, m⟩ => ⟨m.old, m.fresh⟩
end Go.Proofs.Ytaebcebflfgdiaa

namespace Go.Proofs.Ytaebcebflfgdiaa
open Go Go.Lft
set_option linter.unusedSimpArgs false
set_option linter.unusedVariables false

theorem withoutS_len {g : Gr} {gone : Int} : (withoutS g gone).length = g.length := by
  unfold withoutS; split
  · simp
  · rw [up_keep List.length (fun _ _ => outRound_len)]; simp

/-- Who dominates whom. -/
def domC (g : Gr) (a b : Nat) : Bool := nth (withoutS g (-1)) a && nth (withoutS g (-1)) b && (decide ((a : Int) = (b : Int)) || !nth (withoutS g a) b)
def tableS (g : Gr) : List (List Bool) := rows (fun a => rows (fun b => domC g a b) g.length) g.length

theorem table_ok {g : Gr} {vg : Value} {h : Heap} (hg : SlRd (vw h) vg g) (hs : g.length ≤ 1000000) :
    HCalls Try.prog N.ref02_Table #[vg] h (fun v h' => (vw h).le (vw h') ∧ SlRd (fresh h h') v (tableS g)) := by
  refine calls_lift (args := [vg]) follows Try.func17 E.ref02_Table (by show 1 ≤ 59; decide) fun K hK => ?_
  simp [L.ref02_Table]
  refine call_to (by kernel_rfl) (without_ok hg hs) ?_
  rintro va h1 ⟨hle1, ha⟩
  have ha := ha.mono (fresh_le _ _)
  have hg := hg.mono hle1
  have hla : (withoutS g (-1)).length = g.length := withoutS_len
  refine lwp_for [0, 3, 4, 5] (fun (s : Value × View) k => [vg, va, s.1, .int .i64 k]) (fun s k h2 => Mine nothing h1 h2 s.2 32 s.1 (rows (fun a => rows (fun b => domC g a b) g.length) k)) g.length (.slice none 0 0, nothing)
    rfl (by omega) rfl (Mine.start (fun _ _ h => by cases h)) (fun _ _ => rfl) (fun v k h1 hk m => by simp [hg.len]) ?_ ?_
  · rintro ⟨v, W⟩ a h2 hlt m K2 hK2
    simp [hg.len]
    refine Mine.made (V := nothing) (W := nothing) (h0 := h2) (n := g.length) (d := false) elem32 (View.le_refl _) (fun _ _ h => by cases h) (Old.nothing _ _) (by simp <;> rfl) (by simp <;> rfl) rfl (by omega) (by omega) fun vr h3 mr _ _ => ?_
    refine call_to (by kernel_rfl) (without_ok (hg.mono (View.le_trans m.old mr.old)) hs) ?_
    rintro vt h4 ⟨hle4, ht⟩
    have mr := mr.ext hle4
    have ht := ht.mono (fresh_grow nothing _ _)
    have hlt' : (withoutS g a).length = g.length := withoutS_len
    refine lwp_for [0, 3, 4, 5, 6, 7, 8] (fun (_ : Unit) b => [vg, va, v, .int .i64 a, vr, vt, .int .i64 b]) (fun _ b h5 => Mine nothing h2 h5 (grow nothing h3 h4) 4 vr (rows (fun b => domC g a b) b ++ List.replicate (g.length - b) false)) g.length ()
      rfl (by omega) rfl mr (fun _ _ => rfl) (fun v k h1 hk m => by simp [hg.len]) ?_ ?_
    · intro _ b h5 hlt5 m5 K3 hK3
      have hl5 : (rows (fun b => domC g a b) b ++ List.replicate (g.length - b) false).length = g.length := by simp; omega
      have ha5 := ha.mono (View.le_trans m.old m5.old)
      have ht5 := ht.mono m5.wle
      simp (disch := omega) [ha5.idx1 rfl, ha5.bool (View.le_refl _), ht5.idx1 rfl, ht5.bool (View.le_refl _), m5.now.idx1 rfl]
      refine m5.put1 (α := Bool) (i := b) (by kernel_rfl) rfl (by simp) (by simp <;> rfl) (by omega) rd_b fun h6 m6 => hK3 () _ _ rfl rfl ?_
      rw [← rows_set (d := false) hlt5]
      simpa [domC] using m6
    · intro _ h5 m5
      have m6 := m.ext m5.old
      simp at m5
      simp
      refine m6.push elem30 (by simp <;> rfl) (rd_list.2 (m5.fresh.mono (fresh_grow _ _ _))) (by simp; omega) (by simp; omega) (fun _ => by simp) (fun _ => by simp) fun u v' h3 m' => hK2 (v', _) _ _ rfl rfl (by rw [rows_succ]; exact m')
  · rintro ⟨v, W⟩ h2 m
    simp
    exact hK _ _ ⟨View.le_trans hle1 m.old, m.fresh.mono (fresh_from hle1)⟩
end Go.Proofs.Ytaebcebflfgdiaa

namespace Go.Proofs.Ytaebcebflfgdiaa
open Go Go.Lft
set_option linter.unusedSimpArgs false
set_option linter.unusedVariables false

theorem rows_ok {a b : Gr} {va vb : Value} {h : Heap} (ha : SlRd (vw h) va a) (hb : SlRd (vw h) vb b) :
    HCalls Try.prog N.ref02_Rows #[va, vb] h (fun v h' => v = .bool (a == b) ∧ h' = h) := by
  refine calls_lift (args := [va, vb]) follows Try.func30 E.ref02_Rows (by show 2 ≤ 29; decide) fun K hK => ?_
  have ba := ha.bound
  have bb := hb.bound
  simp [L.ref02_Rows, ha.len, hb.len]
  refine ⟨fun heq => ?_, fun hne => ?_⟩
  · refine lwp_for [0, 1, 4, 5] (fun (_ : Unit) k => [va, vb, .bool false, .int .i64 k]) (fun _ k h1 => h1 = h ∧ ∀ j, j < k → nth a j = nth b j) a.length ()
      rfl (by omega) rfl ⟨rfl, by omega⟩ (fun _ _ => rfl) (fun v k h1 hk m => by simp [ha.len]) ?_ ?_
    · rintro _ k h1 hlt ⟨rfl, hpre⟩ K2 hK2
      obtain ⟨ra, hra⟩ := ha.rows
      obtain ⟨rb, hrb⟩ := hb.rows
      obtain ⟨ca, ra'⟩ := hra k hlt
      obtain ⟨cb, rb'⟩ := hrb k (by omega)
      simp
      refine drawn_at (vw h1) (View.le_refl _) ?_
      simp (disch := omega) [ha.idx1 rfl, hb.idx1 rfl, ca _ (View.le_refl _), cb _ (View.le_refl _)]
      refine call_to (by kernel_rfl) (nums_ok ra' rb') ?_
      rintro _ _ ⟨rfl, rfl⟩
      simp [condP_bool]
      refine ⟨fun he => hK _ _ ⟨?_, rfl⟩, fun he => hK2 () _ _ rfl rfl ⟨rfl, fun j hj => ?_⟩⟩
      · simp; intro e; subst e; exact he rfl
      · rcases Nat.lt_or_ge j k with h | h
        · exact hpre j h
        · have : j = k := by omega
          subst this; exact he
    · rintro _ h1 ⟨rfl, hpre⟩
      simp
      refine hK _ _ ⟨?_, rfl⟩
      simp
      exact eq_of_nth (by omega) hpre
  · exact hK _ _ ⟨by simp; intro e; subst e; exact hne rfl, rfl⟩

/-- A chain is followed, so many steps. -/
def chase (l : List Int) (a : Int) : Nat → Int → Bool
  | 0, _ => false
  | k + 1, b => if b = a then true else if b < 0 ∨ (l.length : Int) ≤ b then false else chase l a k (nth l b.toNat)
def dominatesS (l : List Int) (a b : Int) : Bool := decide (0 ≤ a ∧ a < l.length ∧ 0 ≤ b ∧ b < l.length) && chase l a (l.length + 1) b

theorem refDominates_ok {l : List Int} {a b : Int} {v : Value} {h : Heap} (hl : SlRd (vw h) v l) :
    HCalls Try.prog N.ref02_Dominates #[v, .int .i64 a, .int .i64 b] h (fun u h' => u = .bool (dominatesS l a b) ∧ h' = h) := by
  refine calls_lift (args := [v, .int .i64 a, .int .i64 b]) follows Try.func24 E.ref02_Dominates (by show 3 ≤ 47; decide) fun K hK => ?_
  have bl := hl.bound
  by_cases hin : 0 ≤ a ∧ a < l.length ∧ 0 ≤ b ∧ b < l.length
  · have hsp : dominatesS l a b = chase l a (l.length + 1) b := by simp [dominatesS, hin]
    rw [hsp] at hK
    obtain ⟨g1, g2, g3, g4⟩ := hin
    simp [L.ref02_Dominates, hl.len, Int.not_lt.2 g1, Int.not_le.2 g2, Int.not_lt.2 g3, Int.not_le.2 g4]
    refine lwp_loop [0, 1, 2, 6, 7] (fun n ρ h' => ∃ (k : Nat) (c : Int), k ≤ l.length + 1 ∧ ρ = [(0, v), (1, .int .i64 a), (2, .int .i64 c), (6, .bool false), (7, .int .i64 k)] ∧ h' = h ∧ n = l.length + 1 - k ∧ chase l a (l.length + 1 - k) c = chase l a (l.length + 1) b) (l.length + 1)
      ⟨0, b, by omega, rfl, rfl, rfl, rfl⟩ ?_
    rintro n ρ h' ⟨k, c, hk, rfl, rfl, rfl, hch⟩ K2 hK2
    by_cases hlt : k ≤ l.length
    · have hfu : l.length + 1 - k = (l.length - k) + 1 := by omega
      rw [hfu, chase] at hch
      simp (disch := omega) [L.ref02_Dominates.l1, hl.len, hlt]
      refine ⟨fun he => hK _ _ ⟨by rw [← hch, if_pos he], rfl⟩, fun he => ?_⟩
      rw [if_neg he] at hch
      rw [condP_or]
      simp only [decide_eq_true_eq, decide_eq_false_iff_not]
      refine ⟨fun ho => hK _ _ ⟨by rw [← hch, if_pos ho], rfl⟩, fun ⟨o1, o2⟩ => ?_⟩
      rw [if_neg (by omega)] at hch
      simp (disch := omega) [hl.idx1 rfl, hl.int (View.le_refl _)]
      refine hK2 _ _ _ ?_ ⟨k + 1, _, by omega, rfl, rfl, rfl, ?_⟩
      · omega
      · rw [← hch]; congr 1; omega
    · simp (disch := omega) [L.ref02_Dominates.l1, hl.len, hlt]
      refine hK _ _ ⟨?_, rfl⟩
      rw [← hch, show l.length + 1 - k = 0 by omega, chase]
  · have hsp : dominatesS l a b = false := by simp [dominatesS]; intros; omega
    rw [hsp] at hK
    have hd : (decide (a < 0) || decide ((l.length : Int) ≤ a) || decide (b < 0) || decide ((l.length : Int) ≤ b)) = true := by simp [or_assoc]; omega
    simp (disch := omega) [L.ref02_Dominates, hl.len, hd]
    exact hK _ _ ⟨rfl, rfl⟩

def domS (g : Gr) (a b : Int) : Bool := decide (0 ≤ a ∧ a < g.length ∧ 0 ≤ b ∧ b < g.length) && domC g a.toNat b.toNat

theorem dom_ok {g : Gr} {a b : Int} {vg : Value} {h : Heap} (hg : SlRd (vw h) vg g) (hs : g.length ≤ 1000000) :
    HCalls Try.prog N.ref02_Dom #[vg, .int .i64 a, .int .i64 b] h (fun u h' => u = .bool (domS g a b) ∧ (vw h).le (vw h')) := by
  refine calls_lift (args := [vg, .int .i64 a, .int .i64 b]) follows Try.func23 E.ref02_Dom (by show 3 ≤ 54; decide) fun K hK => ?_
  simp [L.ref02_Dom]
  refine call_to (by kernel_rfl) (without_ok hg hs) ?_
  rintro va h1 ⟨hle1, ha⟩
  have ha := ha.mono (fresh_le _ _)
  have hg := hg.mono hle1
  have hla : (withoutS g (-1)).length = g.length := withoutS_len
  by_cases hin : 0 ≤ a ∧ a < g.length ∧ 0 ≤ b ∧ b < g.length
  · obtain ⟨g1, g2, g3, g4⟩ := hin
    obtain ⟨i, rfl⟩ := Int.eq_ofNat_of_zero_le g1
    obtain ⟨j, rfl⟩ := Int.eq_ofNat_of_zero_le g3
    have hsp : domS g i j = domC g i j := by simp [domS, g1, g2, g3, g4]
    rw [hsp] at hK
    simp (disch := omega) [hg.len, Int.not_lt.2 g1, Int.not_le.2 g2, Int.not_lt.2 g3, Int.not_le.2 g4, ha.idx1 rfl, ha.bool (View.le_refl _), condP_or]
    refine ⟨fun hz => hK _ _ ⟨?_, hle1⟩, fun hz hz2 => ?_⟩
    · rcases hz with hz | hz <;> simp [domC, hz]
    · by_cases hij : (i : Int) = j
      · simp [hij, grdP]
        refine hK _ _ ⟨?_, hle1⟩
        simp [domC, hz, hz2, hij]
      · simp [hij, grdP]
        refine call_to (by kernel_rfl) (without_ok hg hs) ?_
        rintro vt h2 ⟨hle2, ht⟩
        have ht := ht.mono (fresh_le _ _)
        have hlt : (withoutS g i).length = g.length := withoutS_len
        simp (disch := omega) [ht.idx1 rfl, ht.bool (View.le_refl _)]
        refine hK _ _ ⟨?_, View.le_trans hle1 hle2⟩
        simp [domC, hz, hz2, hij]
  · have hsp : domS g a b = false := by simp [domS]; intros; omega
    rw [hsp] at hK
    have hcs : a < 0 ∨ (0 ≤ a ∧ (g.length : Int) ≤ a) ∨ (0 ≤ a ∧ a < g.length ∧ b < 0) ∨ (0 ≤ a ∧ a < g.length ∧ 0 ≤ b ∧ (g.length : Int) ≤ b) := by omega
    rcases hcs with g1 | ⟨g1, g2⟩ | ⟨g1, g2, g3⟩ | ⟨g1, g2, g3, g4⟩
    · simp [hg.len, g1]
      exact hK _ _ ⟨rfl, hle1⟩
    · simp [hg.len, Int.not_lt.2 g1, g2]
      exact hK _ _ ⟨rfl, hle1⟩
    · simp [hg.len, Int.not_lt.2 g1, Int.not_le.2 g2, g3]
      exact hK _ _ ⟨rfl, hle1⟩
    · simp [hg.len, Int.not_lt.2 g1, Int.not_le.2 g2, Int.not_lt.2 g3, g4]
      exact hK _ _ ⟨rfl, hle1⟩
end Go.Proofs.Ytaebcebflfgdiaa

