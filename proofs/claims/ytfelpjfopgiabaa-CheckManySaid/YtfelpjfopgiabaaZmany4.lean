/- A part of the proof: Lb, Lc. -/
import Derived.Test.YtfelpjfopgiabaaZmany3
import Derived.Test.YtfelpjfopgiabaaProg
import Derived.KernelRfl
/- The functions of the program in the lifted language, each with the proof that the lifter makes just it. Written by program. -/
namespace Go.Proofs.Ytfelpjfopgiabaa
open Go Go.Lft
set_option maxRecDepth 100000

/-- jacquard/jacquardlaw03.CheckMoved -/
abbrev N.law03_CheckMoved : Nat := 12
def L.law03_CheckMoved.l2 : LC :=
  (.seq
            (.seq
            (.reg false (.fin [85, 86, 87, 88, 89, 90] [(90, (.bin (.cmp .lss) (.tmp 13) (.un .len (.un .load (.un (.fld 2) (.un (.fld 2) (.tmp 12)))))))] []))
            (.cond (.tmp 90) [90]
              .skip
              (.exit 2)))
            (.seq
            (.block 3
              (.reg true (.loud [93, 94, 95, 96, 97, 98, 99, 100, 101, 102, 103, 104] [(95, (.un .load (.un (.fld 2) (.un (.fld 2) (.tmp 12))))), (96, (.tmp 13))] [(102, (.un .load (.bin (.idx 1) (.un .load (.un (.fld 2) (.un (.fld 2) (.tmp 12)))) (.tmp 13)))), (103, (.tmp 1)), (104, (.tmp 2))] none [] false (.call ⟨.value (.func 29), #[(.tmp 102), (.tmp 103), (.tmp 104)], #[3, 3, 3]⟩) 3 (some 105) true
                (.loud [106] [] [(106, (.bin (.idx 1) (.tmp 95) (.tmp 96))), (105, (.tmp 105))] none [] true (.store 3 (.tmp 106) (.tmp 105)) 0 none false
                  (.fin [] [] [])))))
            (.reg false (.fin [91, 92, 13] [(13, (.bin (.arith .add) (.tmp 13) (.con (.int .i64 1))))] []))))
def L.law03_CheckMoved.l4 : LC :=
  (.seq
                  (.seq
                  (.reg false (.fin [120, 121, 122, 123] [(123, (.bin (.cmp .lss) (.tmp 16) (.un .len (.tmp 15))))] []))
                  (.cond (.tmp 123) [123]
                    .skip
                    (.exit 6)))
                  (.seq
                  (.block 7
                    (.reg false (.loud [126, 127, 128, 129, 130, 131, 132, 133, 134] [(126, (.tmp 15)), (127, (.tmp 16))] [(132, (.un .load (.un (.fld 0) (.bin (.idx 2) (.tmp 15) (.tmp 16))))), (133, (.tmp 1)), (134, (.tmp 2))] none [] false (.call ⟨.value (.func 29), #[(.tmp 132), (.tmp 133), (.tmp 134)], #[3, 3, 3]⟩) 3 (some 135) true
                      (.loud [136, 137] [] [(137, (.un (.fld 0) (.bin (.idx 2) (.tmp 126) (.tmp 127)))), (135, (.tmp 135))] none [] false (.store 3 (.tmp 137) (.tmp 135)) 0 none false
                        (.fin [] [] [])))))
                  (.reg false (.fin [124, 125, 16] [(16, (.bin (.arith .add) (.tmp 16) (.con (.int .i64 1))))] []))))
def L.law03_CheckMoved.l6 : LC :=
  (.seq
                        (.seq
                        (.reg true (.fin [145, 146, 147, 148, 149, 150, 151, 152, 153, 154, 155, 156, 157, 158, 159, 160] [(160, (.ite (.bin (.cmp .gtr) (.tmp 18) (.con (.int .i64 0))) (.bin (.cmp .gtr) (.un .load (.un (.fld 0) (.bin (.idx 2) (.tmp 15) (.bin (.arith .sub) (.tmp 18) (.con (.int .i64 1)))))) (.un .load (.un (.fld 0) (.bin (.idx 2) (.tmp 15) (.tmp 18))))) (.con (.bool false))))] []))
                        (.cond (.tmp 160) [160]
                          .skip
                          (.exit 10)))
                        (.seq
                        (.block 11
                          (.seq
                          (.reg false (.loud [163, 164, 165, 166] [(166, (.un (.loads 2) (.bin (.idx 2) (.tmp 15) (.tmp 18))))] [] none [] false (.alloc 56) 0 (some 19) true
                            (.loud [] [] [(19, (.tmp 19)), (166, (.tmp 166))] none [] false (.store 56 (.tmp 19) (.tmp 166)) 0 none false
                              (.fin [] [] []))))
                          (.seq
                          (.reg false (.loud [167, 168, 169, 170, 171, 172, 173, 174] [] [(174, (.bin (.idx 2) (.tmp 15) (.tmp 18))), (173, (.un (.loads 2) (.bin (.idx 2) (.tmp 15) (.bin (.arith .sub) (.tmp 18) (.con (.int .i64 1))))))] none [] false (.store 56 (.tmp 174) (.tmp 173)) 0 none false
                            (.fin [] [] [])))
                          (.reg false (.loud [175, 176, 177, 178, 179] [] [(179, (.bin (.idx 2) (.tmp 15) (.bin (.arith .sub) (.tmp 18) (.con (.int .i64 1))))), (178, (.un (.loads 2) (.tmp 19)))] none [] false (.store 56 (.tmp 179) (.tmp 178)) 0 none false
                            (.fin [] [] []))))))
                        (.reg false (.fin [161, 162, 18] [(18, (.bin (.arith .sub) (.tmp 18) (.con (.int .i64 1))))] []))))
def L.law03_CheckMoved.l5 : LC :=
  (.seq
                  (.seq
                  (.reg false (.fin [138, 139, 140, 141] [(141, (.bin (.cmp .lss) (.tmp 17) (.un .len (.tmp 15))))] []))
                  (.cond (.tmp 141) [141]
                    .skip
                    (.exit 8)))
                  (.seq
                  (.block 9
                    (.seq
                    (.reg false (.fin [144, 18] [(18, (.tmp 17))] []))
                    (.block 10
                      (.loop L.law03_CheckMoved.l6))))
                  (.reg false (.fin [142, 143, 17] [(17, (.bin (.arith .add) (.tmp 17) (.con (.int .i64 1))))] []))))
def L.law03_CheckMoved.l3 : LC :=
  (.seq
            (.seq
            (.reg false (.fin [107, 108, 109, 110, 111] [(111, (.bin (.cmp .lss) (.tmp 14) (.un .len (.un .load (.un (.fld 0) (.tmp 12))))))] []))
            (.cond (.tmp 111) [111]
              .skip
              (.exit 4)))
            (.seq
            (.block 5
              (.seq
              (.reg false (.fin [114, 115, 116, 117, 118, 119, 15] [(15, (.un .load (.un (.fld 1) (.bin (.idx 2) (.un .load (.un (.fld 0) (.tmp 12))) (.tmp 14)))))] []))
              (.seq
              (.seq
              (.reg false (.fin [16] [(16, (.con (.int .i64 0)))] []))
              (.block 6
                (.loop L.law03_CheckMoved.l4)))
              (.seq
              (.reg false (.fin [17] [(17, (.con (.int .i64 0)))] []))
              (.block 8
                (.loop L.law03_CheckMoved.l5))))))
            (.reg false (.fin [112, 113, 14] [(14, (.bin (.arith .add) (.tmp 14) (.con (.int .i64 1))))] []))))
def L.law03_CheckMoved.l1 : LC :=
  (.seq
      (.seq
      (.reg false (.fin [73, 74, 75, 76, 77] [(77, (.bin (.cmp .lss) (.tmp 11) (.un .len (.un .load (.un (.fld 1) (.tmp 9))))))] []))
      (.cond (.tmp 77) [77]
        .skip
        (.exit 0)))
      (.seq
      (.block 1
        (.seq
        (.reg false (.loud [80, 81, 82, 83, 84] [(84, (.un (.loads 6) (.bin (.idx 6) (.un .load (.un (.fld 1) (.tmp 9))) (.tmp 11))))] [] none [] false (.alloc 51) 0 (some 12) true
          (.loud [] [] [(12, (.tmp 12)), (84, (.tmp 84))] none [] false (.store 51 (.tmp 12) (.tmp 84)) 0 none false
            (.fin [] [] []))))
        (.seq
        (.seq
        (.reg false (.fin [13] [(13, (.con (.int .i64 0)))] []))
        (.block 2
          (.loop L.law03_CheckMoved.l2)))
        (.seq
        (.reg false (.fin [14] [(14, (.con (.int .i64 0)))] []))
        (.block 4
          (.loop L.law03_CheckMoved.l3))))))
      (.reg false (.fin [78, 79, 11] [(11, (.bin (.arith .add) (.tmp 11) (.con (.int .i64 1))))] []))))
def L.law03_CheckMoved.l7 : LC :=
  (.seq
      (.seq
      (.reg false (.fin [189, 190, 191, 192] [(192, (.bin (.cmp .lss) (.tmp 22) (.un .len (.tmp 20))))] []))
      (.cond (.tmp 192) [192]
        .skip
        (.exit 12)))
      (.seq
      (.block 13
        (.seq
        (.reg true (.loud [195, 196, 197, 198, 199, 200, 201, 202, 203, 204, 205, 206, 207, 208, 209, 211, 212] [(204, (.bin (.cmp .neq) (.un .load (.bin (.idx 1) (.tmp 20) (.tmp 22))) (.un .load (.bin (.idx 1) (.tmp 21) (.tmp 22))))), (207, (.gd (.bin (.cmp .neq) (.un .load (.bin (.idx 1) (.tmp 20) (.tmp 22))) (.un .load (.bin (.idx 1) (.tmp 21) (.tmp 22)))) false (.bin (.cmp .lss) (.tmp 22) (.con (.int .i64 60))))), (211, (.gd (.gd (.bin (.cmp .neq) (.un .load (.bin (.idx 1) (.tmp 20) (.tmp 22))) (.un .load (.bin (.idx 1) (.tmp 21) (.tmp 22)))) false (.bin (.cmp .lss) (.tmp 22) (.con (.int .i64 60)))) true (.un (.loads 2) (.tmp 9)))), (212, (.gd (.gd (.bin (.cmp .neq) (.un .load (.bin (.idx 1) (.tmp 20) (.tmp 22))) (.un .load (.bin (.idx 1) (.tmp 21) (.tmp 22)))) false (.bin (.cmp .lss) (.tmp 22) (.con (.int .i64 60)))) true (.tmp 22)))] [(208, (.gd (.gd (.bin (.cmp .neq) (.un .load (.bin (.idx 1) (.tmp 20) (.tmp 22))) (.un .load (.bin (.idx 1) (.tmp 21) (.tmp 22)))) false (.bin (.cmp .lss) (.tmp 22) (.con (.int .i64 60)))) true (.un (.loads 2) (.tmp 8)))), (209, (.gd (.gd (.bin (.cmp .neq) (.un .load (.bin (.idx 1) (.tmp 20) (.tmp 22))) (.un .load (.bin (.idx 1) (.tmp 21) (.tmp 22)))) false (.bin (.cmp .lss) (.tmp 22) (.con (.int .i64 60)))) true (.tmp 22)))] (some ((.gd (.bin (.cmp .neq) (.un .load (.bin (.idx 1) (.tmp 20) (.tmp 22))) (.un .load (.bin (.idx 1) (.tmp 21) (.tmp 22)))) false (.bin (.cmp .lss) (.tmp 22) (.con (.int .i64 60)))), true)) [] false (.call ⟨.value (.func 24), #[(.tmp 208), (.tmp 209)], #[24, 3]⟩) 4 (some 210) true
          (.loud [] [] [(211, (.tmp 211)), (212, (.tmp 212))] (some ((.tmp 207), true)) [] false (.call ⟨.value (.func 24), #[(.tmp 211), (.tmp 212)], #[24, 3]⟩) 4 (some 213) true
            (.fin [214, 215, 216] [(216, (.ite (.tmp 204) (.con (.bool true)) (.ite (.tmp 207) (.bin (.eqB true) (.tmp 210) (.tmp 213)) (.con (.bool false)))))] [(.gd (.tmp 207) true (.bin (.eqB true) (.tmp 210) (.tmp 213)))]))))
        (.cond (.tmp 216) [216]
          (.seq
          (.reg false (.fin [6] [(6, (.con (.bool false)))] []))
          .ret)
          .skip)))
      (.reg false (.fin [193, 194, 22] [(22, (.bin (.arith .add) (.tmp 22) (.con (.int .i64 1))))] []))))
def L.law03_CheckMoved : LFn :=
⟨[(.tmp 6)],
  (.seq
  (.reg false (.loud [] [] [(0, (.tmp 0))] none [] false (.box 39 (.tmp 0)) 0 (some 3) true
    (.fin [6] [(6, (.con (.bool false)))] [])))
  (.seq
  (.reg false (.loud [] [] [] none [] false (.call ⟨.value (.func 13), #[], #[]⟩) 4 (some 23) true
    (.fin [7] [(7, (.tmp 23))] [])))
  (.seq
  (.reg true (.both
    (.loud [24, 25, 27, 28] [(28, (.un (.loads 3) (.un (.fld 1) (.tmp 3))))] [(25, (.un .load (.un (.fld 0) (.tmp 3))))] none [] false (.call ⟨.value (.func 16), #[(.tmp 25)], #[28]⟩) 24 (some 26) true
      (.both
        (.loud [] [] [(26, (.tmp 26)), (28, (.tmp 28))] none [] true (.call ⟨.value (.func 17), #[(.tmp 26), (.tmp 28)], #[24, 32]⟩) 24 (some 29) true
          (.both
            (.loud [] [] [(29, (.tmp 29))] none [] false (.call ⟨.value (.func 15), #[(.tmp 29)], #[24]⟩) 24 (some 30) true
              (.loud [] [] [] none [] false (.alloc 24) 0 (some 8) true
                (.loud [] [] [(8, (.tmp 8)), (30, (.tmp 30))] none [] false (.store 24 (.tmp 8) (.tmp 30)) 0 none false
                  (.fin [] [] []))))
            (.loud [] [] [] none [] false (.alloc 24) 0 (some 8) true
              (.loud [] [] [(29, (.tmp 29))] none [] false (.call ⟨.value (.func 15), #[(.tmp 29)], #[24]⟩) 24 (some 30) true
                (.loud [] [] [(8, (.tmp 8)), (30, (.tmp 30))] none [] false (.store 24 (.tmp 8) (.tmp 30)) 0 none false
                  (.fin [] [] []))))))
        (.loud [] [] [] none [] false (.alloc 24) 0 (some 8) true
          (.loud [] [] [(26, (.tmp 26)), (28, (.tmp 28))] none [] true (.call ⟨.value (.func 17), #[(.tmp 26), (.tmp 28)], #[24, 32]⟩) 24 (some 29) true
            (.loud [] [] [(29, (.tmp 29))] none [] false (.call ⟨.value (.func 15), #[(.tmp 29)], #[24]⟩) 24 (some 30) true
              (.loud [] [] [(8, (.tmp 8)), (30, (.tmp 30))] none [] false (.store 24 (.tmp 8) (.tmp 30)) 0 none false
                (.fin [] [] [])))))))
    (.loud [24, 25, 27, 28] [(25, (.un .load (.un (.fld 0) (.tmp 3)))), (28, (.un (.loads 3) (.un (.fld 1) (.tmp 3))))] [] none [] false (.alloc 24) 0 (some 8) true
      (.loud [] [] [(25, (.tmp 25))] none [] false (.call ⟨.value (.func 16), #[(.tmp 25)], #[28]⟩) 24 (some 26) true
        (.loud [] [] [(26, (.tmp 26)), (28, (.tmp 28))] none [] true (.call ⟨.value (.func 17), #[(.tmp 26), (.tmp 28)], #[24, 32]⟩) 24 (some 29) true
          (.loud [] [] [(29, (.tmp 29))] none [] false (.call ⟨.value (.func 15), #[(.tmp 29)], #[24]⟩) 24 (some 30) true
            (.loud [] [] [(8, (.tmp 8)), (30, (.tmp 30))] none [] false (.store 24 (.tmp 8) (.tmp 30)) 0 none false
              (.fin [] [] []))))))))
  (.seq
  (.seq
  (.reg false (.fin [31, 32, 33, 34] [(34, (.bin (.cmp .lss) (.un .len (.un .load (.un (.fld 1) (.tmp 8)))) (.con (.int .i64 3))))] []))
  (.cond (.tmp 34) [34]
    (.seq
    (.reg false (.fin [35, 6] [(6, (.tmp 7))] []))
    .ret)
    .skip))
  (.seq
  (.reg false (.fin [36, 37, 38, 39, 40, 41, 42, 43, 1] [(1, (.bin (.arith .add) (.con (.int .i64 1)) (.bin (.div .rem) (.bin (.bits .and) (.tmp 1) (.con (.int .i64 65535))) (.bin (.arith .sub) (.un .len (.un .load (.un (.fld 1) (.tmp 8)))) (.con (.int .i64 1))))))] []))
  (.seq
  (.reg false (.fin [44, 45, 46, 47, 48, 49, 50, 51, 2] [(2, (.bin (.arith .add) (.con (.int .i64 1)) (.bin (.div .rem) (.bin (.bits .and) (.tmp 2) (.con (.int .i64 65535))) (.bin (.arith .sub) (.un .len (.un .load (.un (.fld 1) (.tmp 8)))) (.con (.int .i64 1))))))] []))
  (.seq
  (.reg false (.loud [52] [] [(52, (.un (.loads 2) (.tmp 8)))] none [] false (.call ⟨.value (.func 15), #[(.tmp 52)], #[24]⟩) 24 (some 53) true
    (.loud [] [] [] none [] false (.alloc 24) 0 (some 9) true
      (.loud [] [] [(9, (.tmp 9)), (53, (.tmp 53))] none [] false (.store 24 (.tmp 9) (.tmp 53)) 0 none false
        (.fin [] [] [])))))
  (.seq
  (.reg false (.loud [54, 55, 56, 57, 58] [(58, (.un (.loads 6) (.bin (.idx 6) (.un .load (.un (.fld 1) (.tmp 9))) (.tmp 1))))] [] none [] false (.alloc 51) 0 (some 10) true
    (.loud [] [] [(10, (.tmp 10)), (58, (.tmp 58))] none [] false (.store 51 (.tmp 10) (.tmp 58)) 0 none false
      (.fin [] [] []))))
  (.seq
  (.reg true (.loud [59, 60, 61, 62, 63, 64, 65, 66, 67] [] [(67, (.bin (.idx 6) (.un .load (.un (.fld 1) (.tmp 9))) (.tmp 1))), (66, (.un (.loads 6) (.bin (.idx 6) (.un .load (.un (.fld 1) (.tmp 9))) (.tmp 2))))] none [] true (.store 51 (.tmp 67) (.tmp 66)) 0 none false
    (.fin [] [] [])))
  (.seq
  (.reg false (.loud [68, 69, 70, 71, 72] [] [(72, (.bin (.idx 6) (.un .load (.un (.fld 1) (.tmp 9))) (.tmp 2))), (71, (.un (.loads 6) (.tmp 10)))] none [] false (.store 51 (.tmp 72) (.tmp 71)) 0 none false
    (.fin [] [] [])))
  (.seq
  (.seq
  (.reg false (.fin [11] [(11, (.con (.int .i64 0)))] []))
  (.block 0
    (.loop L.law03_CheckMoved.l1)))
  (.seq
  (.reg false (.loud [180] [] [(180, (.un (.loads 2) (.tmp 8)))] none [] false (.call ⟨.value (.func 22), #[(.tmp 180)], #[24]⟩) 28 (some 181) true
    (.fin [20] [(20, (.tmp 181))] [])))
  (.seq
  (.reg false (.loud [182] [] [(182, (.un (.loads 2) (.tmp 9)))] none [] false (.call ⟨.value (.func 22), #[(.tmp 182)], #[24]⟩) 28 (some 183) true
    (.fin [21] [(21, (.tmp 183))] [])))
  (.seq
  (.seq
  (.reg false (.fin [184, 185, 186, 187, 188] [(188, (.bin (.cmp .neq) (.un .len (.tmp 20)) (.un .len (.tmp 21))))] []))
  (.cond (.tmp 188) [188]
    (.seq
    (.reg false (.fin [6] [(6, (.con (.bool false)))] []))
    .ret)
    .skip))
  (.seq
  (.seq
  (.reg false (.fin [22] [(22, (.con (.int .i64 0)))] []))
  (.block 12
    (.loop L.law03_CheckMoved.l7)))
  (.seq
  (.reg false (.loud [217, 218, 219] [(218, (.tmp 7))] [(219, (.gd (.tmp 7) true (.un (.loads 2) (.tmp 8))))] (some ((.tmp 7), true)) [] false (.call ⟨.value (.func 26), #[(.tmp 219)], #[24]⟩) 4 (some 220) true
    (.loud [221, 222, 223] [(222, (.gd (.tmp 218) true (.un .not (.tmp 220))))] [(223, (.gd (.gd (.tmp 218) true (.un .not (.tmp 220))) false (.un (.loads 2) (.tmp 9))))] (some ((.gd (.tmp 218) true (.un .not (.tmp 220))), false)) [] false (.call ⟨.value (.func 26), #[(.tmp 223)], #[24]⟩) 4 (some 224) true
      (.fin [225, 226, 6] [(6, (.ite (.tmp 218) (.ite (.tmp 222) (.con (.bool true)) (.tmp 224)) (.con (.bool false))))] []))))
  .ret))))))))))))))))⟩
theorem E.law03_CheckMoved : liftF Try.prog Try.f12 = some L.law03_CheckMoved := by kernel_rfl
theorem F.law03_CheckMoved : Try.prog.funcs[N.law03_CheckMoved]? = some Try.f12 := Try.func12

/-- jacquard/jacquardlaw03.shown -/
abbrev N.law03_shown : Nat := 13
def L.law03_shown : LFn :=
⟨[(.tmp 0)],
  (.seq
  (.reg false (.fin [0] [(0, (.con (.bool false)))] []))
  (.seq
  (.reg false (.loud [] [] [] none [] false (.build 58 #[(0, (.const (.int .i64 1))), (4, (.const (.int .i32 1)))]) 58 (some 13) true
    (.loud [] [] [(13, (.tmp 13))] none [] false (.buildSlice 47 1 #[(0, (.tmp 13))]) 47 (some 14) true
      (.loud [] [] [] none [] false (.buildSlice 28 1 #[(0, (.const (.int .i64 0)))]) 28 (some 15) true
        (.loud [] [] [(15, (.tmp 15))] none [] false (.build 49 #[(0, (.const (.int .i64 4))), (1, (.tmp 15))]) 49 (some 16) true
          (.loud [] [] [(14, (.tmp 14)), (16, (.tmp 16))] none [] false (.call ⟨.value (.func 30), #[(.const (.int .i64 0)), (.tmp 14), (.tmp 16)], #[3, 47, 49]⟩) 24 (some 17) true
            (.loud [] [] [(17, (.tmp 17))] none [] false (.call ⟨.value (.func 18), #[(.tmp 17)], #[24]⟩) 35 (some 18) true
              (.fin [12, 19, 20, 21, 1, 2, 3] [(1, (.un (.ext 0) (.tmp 18))), (2, (.un (.ext 1) (.tmp 18))), (3, (.un (.ext 2) (.tmp 18)))] []))))))))
  (.seq
  (.reg false (.loud [] [] [] none [] false (.buildSlice 28 1 #[(0, (.const (.int .i64 0)))]) 28 (some 23) true
    (.loud [] [] [(23, (.tmp 23))] none [] false (.build 49 #[(0, (.const (.int .i64 4))), (1, (.tmp 23))]) 49 (some 24) true
      (.loud [] [] [(24, (.tmp 24))] none [] false (.call ⟨.value (.func 30), #[(.const (.int .i64 0)), (.const (.slice none 0 0)), (.tmp 24)], #[3, 47, 49]⟩) 24 (some 25) true
        (.loud [] [] [(25, (.tmp 25))] none [] false (.call ⟨.value (.func 18), #[(.tmp 25)], #[24]⟩) 35 (some 26) true
          (.fin [22, 27, 28, 29, 4, 5, 6] [(4, (.un (.ext 0) (.tmp 26))), (5, (.un (.ext 1) (.tmp 26))), (6, (.un (.ext 2) (.tmp 26)))] []))))))
  (.seq
  (.reg false (.loud [] [] [] none [] false (.buildSlice 28 2 #[(0, (.const (.int .i64 0))), (1, (.const (.int .i64 2)))]) 28 (some 31) true
    (.loud [] [] [(31, (.tmp 31))] none [] false (.build 58 #[(0, (.const (.int .i64 2))), (1, (.const (.int .i64 1))), (3, (.tmp 31))]) 58 (some 32) true
      (.loud [] [] [] none [] false (.build 58 #[(0, (.const (.int .i64 1))), (1, (.const (.int .i64 2)))]) 58 (some 33) true
        (.loud [] [] [(32, (.tmp 32)), (33, (.tmp 33))] none [] false (.buildSlice 47 2 #[(0, (.tmp 32)), (1, (.tmp 33))]) 47 (some 34) true
          (.loud [] [] [] none [] false (.build 49 #[(0, (.const (.int .i64 5)))]) 49 (some 35) true
            (.loud [] [] [(34, (.tmp 34)), (35, (.tmp 35))] none [] false (.call ⟨.value (.func 30), #[(.const (.int .i64 1)), (.tmp 34), (.tmp 35)], #[3, 47, 49]⟩) 24 (some 36) true
              (.loud [] [] [(36, (.tmp 36))] none [] false (.call ⟨.value (.func 18), #[(.tmp 36)], #[24]⟩) 35 (some 37) true
                (.fin [30, 38, 39, 40, 7, 8, 9] [(7, (.un (.ext 0) (.tmp 37))), (9, (.un (.ext 2) (.tmp 37)))] [(.un (.ext 1) (.tmp 37))])))))))))
  (.seq
  (.reg false (.loud [] [] [] none [] false (.build 58 #[(0, (.const (.int .i64 1))), (1, (.const (.int .i64 1)))]) 58 (some 41) true
    (.loud [] [] [] none [] false (.buildSlice 28 2 #[(0, (.const (.int .i64 0))), (1, (.const (.int .i64 1)))]) 28 (some 42) true
      (.loud [] [] [(42, (.tmp 42))] none [] false (.build 58 #[(0, (.const (.int .i64 2))), (1, (.const (.int .i64 2))), (3, (.tmp 42))]) 58 (some 43) true
        (.loud [] [] [(41, (.tmp 41)), (43, (.tmp 43))] none [] false (.buildSlice 47 2 #[(0, (.tmp 41)), (1, (.tmp 43))]) 47 (some 44) true
          (.loud [] [] [] none [] false (.buildSlice 28 1 #[(0, (.const (.int .i64 2)))]) 28 (some 45) true
            (.loud [] [] [(45, (.tmp 45))] none [] false (.build 49 #[(0, (.const (.int .i64 4))), (1, (.tmp 45))]) 49 (some 46) true
              (.loud [] [] [(44, (.tmp 44)), (46, (.tmp 46))] none [] false (.call ⟨.value (.func 30), #[(.const (.int .i64 1)), (.tmp 44), (.tmp 46)], #[3, 47, 49]⟩) 24 (some 47) true
                (.loud [] [] [] none [] false (.alloc 24) 0 (some 10) true
                  (.loud [] [] [(10, (.tmp 10)), (47, (.tmp 47))] none [] false (.store 24 (.tmp 10) (.tmp 47)) 0 none false
                    (.fin [] [] [])))))))))))
  (.seq
  (.reg false (.loud [48] [] [(48, (.un (.loads 2) (.tmp 10)))] none [] false (.call ⟨.value (.func 22), #[(.tmp 48)], #[24]⟩) 28 (some 49) true
    (.fin [11] [(11, (.tmp 49))] [])))
  (.seq
  (.reg false (.loud [50, 51, 52, 53, 54, 55, 56, 57, 58, 59, 60, 61, 62, 63, 64, 65, 66, 67, 68, 69, 70, 71, 72, 73, 74, 75, 76, 77, 78, 79, 80, 81] [(80, (.ite (.ite (.ite (.ite (.ite (.ite (.ite (.bin (.cmp .eql) (.tmp 1) (.con (.int .i64 0))) (.bin (.cmp .eql) (.tmp 2) (.con (.int .i64 0))) (.con (.bool false))) (.bin (.cmp .eql) (.tmp 3) (.con (.int .i64 0))) (.con (.bool false))) (.bin (.cmp .eql) (.tmp 4) (.con (.int .i64 13))) (.con (.bool false))) (.bin (.cmp .eql) (.tmp 5) (.con (.int .i64 0))) (.con (.bool false))) (.bin (.cmp .eql) (.tmp 6) (.con (.int .i64 0))) (.con (.bool false))) (.bin (.cmp .eql) (.tmp 7) (.con (.int .i64 13))) (.con (.bool false))) (.bin (.cmp .eql) (.tmp 9) (.con (.int .i64 0))) (.con (.bool false))))] [(81, (.gd (.ite (.ite (.ite (.ite (.ite (.ite (.ite (.bin (.cmp .eql) (.tmp 1) (.con (.int .i64 0))) (.bin (.cmp .eql) (.tmp 2) (.con (.int .i64 0))) (.con (.bool false))) (.bin (.cmp .eql) (.tmp 3) (.con (.int .i64 0))) (.con (.bool false))) (.bin (.cmp .eql) (.tmp 4) (.con (.int .i64 13))) (.con (.bool false))) (.bin (.cmp .eql) (.tmp 5) (.con (.int .i64 0))) (.con (.bool false))) (.bin (.cmp .eql) (.tmp 6) (.con (.int .i64 0))) (.con (.bool false))) (.bin (.cmp .eql) (.tmp 7) (.con (.int .i64 13))) (.con (.bool false))) (.bin (.cmp .eql) (.tmp 9) (.con (.int .i64 0))) (.con (.bool false))) true (.un (.loads 2) (.tmp 10))))] (some ((.ite (.ite (.ite (.ite (.ite (.ite (.ite (.bin (.cmp .eql) (.tmp 1) (.con (.int .i64 0))) (.bin (.cmp .eql) (.tmp 2) (.con (.int .i64 0))) (.con (.bool false))) (.bin (.cmp .eql) (.tmp 3) (.con (.int .i64 0))) (.con (.bool false))) (.bin (.cmp .eql) (.tmp 4) (.con (.int .i64 13))) (.con (.bool false))) (.bin (.cmp .eql) (.tmp 5) (.con (.int .i64 0))) (.con (.bool false))) (.bin (.cmp .eql) (.tmp 6) (.con (.int .i64 0))) (.con (.bool false))) (.bin (.cmp .eql) (.tmp 7) (.con (.int .i64 13))) (.con (.bool false))) (.bin (.cmp .eql) (.tmp 9) (.con (.int .i64 0))) (.con (.bool false))), true)) [] false (.call ⟨.value (.func 26), #[(.tmp 81)], #[24]⟩) 4 (some 82) true
    (.loud [83, 84, 85] [(84, (.ite (.tmp 80) (.tmp 82) (.con (.bool false))))] [(85, (.gd (.ite (.tmp 80) (.tmp 82) (.con (.bool false))) true (.un (.loads 2) (.tmp 10))))] (some ((.ite (.tmp 80) (.tmp 82) (.con (.bool false))), true)) [] false (.call ⟨.value (.func 19), #[(.tmp 85)], #[24]⟩) 3 (some 86) true
      (.loud [87, 88, 89, 90, 91, 92, 93, 94, 95, 96, 97, 98, 99, 100, 101] [(100, (.ite (.ite (.ite (.tmp 84) (.bin (.cmp .eql) (.tmp 86) (.con (.int .i64 3))) (.con (.bool false))) (.bin (.cmp .eql) (.un .len (.tmp 11)) (.con (.int .i64 3))) (.con (.bool false))) (.bin (.cmp .eql) (.un .load (.bin (.idx 1) (.tmp 11) (.con (.int .i64 1)))) (.con (.int .i64 1))) (.con (.bool false))))] [(101, (.gd (.ite (.ite (.ite (.tmp 84) (.bin (.cmp .eql) (.tmp 86) (.con (.int .i64 3))) (.con (.bool false))) (.bin (.cmp .eql) (.un .len (.tmp 11)) (.con (.int .i64 3))) (.con (.bool false))) (.bin (.cmp .eql) (.un .load (.bin (.idx 1) (.tmp 11) (.con (.int .i64 1)))) (.con (.int .i64 1))) (.con (.bool false))) true (.un (.loads 2) (.tmp 10))))] (some ((.ite (.ite (.ite (.tmp 84) (.bin (.cmp .eql) (.tmp 86) (.con (.int .i64 3))) (.con (.bool false))) (.bin (.cmp .eql) (.un .len (.tmp 11)) (.con (.int .i64 3))) (.con (.bool false))) (.bin (.cmp .eql) (.un .load (.bin (.idx 1) (.tmp 11) (.con (.int .i64 1)))) (.con (.int .i64 1))) (.con (.bool false))), true)) [] false (.call ⟨.value (.func 24), #[(.tmp 101), (.const (.int .i64 1))], #[24, 3]⟩) 4 (some 102) true
        (.loud [103, 104, 105] [(104, (.ite (.tmp 100) (.tmp 102) (.con (.bool false))))] [(105, (.gd (.ite (.tmp 100) (.tmp 102) (.con (.bool false))) true (.un (.loads 2) (.tmp 10))))] (some ((.ite (.tmp 100) (.tmp 102) (.con (.bool false))), true)) [] false (.call ⟨.value (.func 24), #[(.tmp 105), (.const (.int .i64 2))], #[24, 3]⟩) 4 (some 106) true
          (.loud [107, 108, 109] [(108, (.ite (.tmp 104) (.tmp 106) (.con (.bool false))))] [(109, (.gd (.ite (.tmp 104) (.tmp 106) (.con (.bool false))) true (.un (.loads 2) (.tmp 10))))] (some ((.ite (.tmp 104) (.tmp 106) (.con (.bool false))), true)) [] false (.call ⟨.value (.func 24), #[(.tmp 109), (.const (.int .i64 0))], #[24, 3]⟩) 4 (some 110) true
            (.loud [111, 112, 113] [(113, (.ite (.tmp 108) (.un .not (.tmp 110)) (.con (.bool false))))] [] (some ((.ite (.tmp 108) (.un .not (.tmp 110)) (.con (.bool false))), true)) [] false (.build 24 #[]) 24 (some 114) true
              (.loud [] [] [(114, (.tmp 114))] (some ((.tmp 113), true)) [] false (.call ⟨.value (.func 26), #[(.tmp 114)], #[24]⟩) 4 (some 115) true
                (.fin [116, 117, 0] [(0, (.ite (.tmp 113) (.un .not (.tmp 115)) (.con (.bool false))))] [])))))))))
  .ret)))))))⟩
theorem E.law03_shown : liftF Try.prog Try.f13 = some L.law03_shown := by kernel_rfl
theorem F.law03_shown : Try.prog.funcs[N.law03_shown]? = some Try.f13 := Try.func13

/-- jacquard/jacquardlaw03.same -/
abbrev N.law03_same : Nat := 14
def L.law03_same : LFn :=
⟨[(.tmp 2)],
  (.seq
  (.reg false (.loud [] [] [(0, (.tmp 0))] none [] false (.box 24 (.tmp 0)) 0 (some 1) true
    (.fin [2] [(2, (.con (.bool false)))] [])))
  (.seq
  (.reg false (.loud [8] [] [(8, (.un (.loads 2) (.tmp 1)))] none [] false (.call ⟨.value (.func 18), #[(.tmp 8)], #[24]⟩) 35 (some 9) true
    (.fin [7, 10, 11, 12, 3, 4, 5] [(3, (.un (.ext 0) (.tmp 9))), (4, (.un (.ext 1) (.tmp 9))), (5, (.un (.ext 2) (.tmp 9)))] [])))
  (.seq
  (.reg false (.loud [13] [] [(13, (.un (.loads 2) (.tmp 1)))] none [] false (.call ⟨.value (.func 31), #[(.tmp 13)], #[24]⟩) 70 (some 14) true
    (.loud [] [] [] none [] false (.alloc 70) 0 (some 6) true
      (.loud [] [] [(6, (.tmp 6)), (14, (.tmp 14))] none [] false (.store 70 (.tmp 6) (.tmp 14)) 0 none false
        (.fin [] [] [])))))
  (.seq
  (.reg true (.loud [15, 16, 17, 18, 19, 20, 21, 22, 23, 24, 25, 26, 27, 28, 29, 30, 31, 32, 34, 35, 36] [(31, (.ite (.ite (.bin (.cmp .eql) (.tmp 3) (.un .load (.un (.fld 0) (.tmp 6)))) (.bin (.cmp .eql) (.tmp 4) (.un .load (.un (.fld 1) (.tmp 6)))) (.con (.bool false))) (.bin (.cmp .eql) (.tmp 5) (.un .load (.un (.fld 2) (.tmp 6)))) (.con (.bool false)))), (36, (.gd (.ite (.ite (.bin (.cmp .eql) (.tmp 3) (.un .load (.un (.fld 0) (.tmp 6)))) (.bin (.cmp .eql) (.tmp 4) (.un .load (.un (.fld 1) (.tmp 6)))) (.con (.bool false))) (.bin (.cmp .eql) (.tmp 5) (.un .load (.un (.fld 2) (.tmp 6)))) (.con (.bool false))) true (.bin (.cmp .eql) (.un .load (.un (.fld 0) (.tmp 6))) (.con (.int .i64 0)))))] [(32, (.gd (.ite (.ite (.bin (.cmp .eql) (.tmp 3) (.un .load (.un (.fld 0) (.tmp 6)))) (.bin (.cmp .eql) (.tmp 4) (.un .load (.un (.fld 1) (.tmp 6)))) (.con (.bool false))) (.bin (.cmp .eql) (.tmp 5) (.un .load (.un (.fld 2) (.tmp 6)))) (.con (.bool false))) true (.un (.loads 2) (.tmp 1))))] (some ((.ite (.ite (.bin (.cmp .eql) (.tmp 3) (.un .load (.un (.fld 0) (.tmp 6)))) (.bin (.cmp .eql) (.tmp 4) (.un .load (.un (.fld 1) (.tmp 6)))) (.con (.bool false))) (.bin (.cmp .eql) (.tmp 5) (.un .load (.un (.fld 2) (.tmp 6)))) (.con (.bool false))), true)) [] false (.call ⟨.value (.func 26), #[(.tmp 32)], #[24]⟩) 4 (some 33) true
    (.fin [37, 38, 2] [(2, (.ite (.tmp 31) (.bin (.eqB false) (.tmp 33) (.tmp 36)) (.con (.bool false))))] [])))
  .ret))))⟩
theorem E.law03_same : liftF Try.prog Try.f14 = some L.law03_same := by kernel_rfl
theorem F.law03_same : Try.prog.funcs[N.law03_same]? = some Try.f14 := Try.func14

/-- jacquard/jacquardlaw03.few -/
abbrev N.law03_few : Nat := 15
def L.law03_few.l2 : LC :=
  (.seq
            (.seq
            (.reg false (.fin [33, 34, 35, 36, 37, 38, 39, 40, 41] [(41, (.ite (.bin (.cmp .lss) (.tmp 7) (.un .len (.un .load (.un (.fld 0) (.tmp 5))))) (.bin (.cmp .lss) (.tmp 7) (.con (.int .i64 8))) (.con (.bool false))))] []))
            (.cond (.tmp 41) [41]
              .skip
              (.exit 2)))
            (.seq
            (.block 3
              (.seq
              (.reg false (.loud [44, 45, 46, 47, 48] [(48, (.un (.loads 2) (.bin (.idx 2) (.un .load (.un (.fld 0) (.tmp 5))) (.tmp 7))))] [] none [] false (.alloc 54) 0 (some 8) true
                (.loud [] [] [(8, (.tmp 8)), (48, (.tmp 48))] none [] false (.store 54 (.tmp 8) (.tmp 48)) 0 none false
                  (.fin [] [] []))))
              (.seq
              (.reg false (.loud [] [] [] none [] false (.buildSlice 52 0 #[]) 52 (some 49) true
                (.loud [50, 51, 52, 53, 54, 55, 56] [] [(49, (.tmp 49)), (56, (.bin .hi (.un .load (.un (.fld 1) (.tmp 8))) (.bin .min (.un .len (.un .load (.un (.fld 1) (.tmp 8)))) (.con (.int .i64 6)))))] none [] false (.call ⟨.builtin .append, #[(.tmp 49), (.tmp 56)], #[52, 52]⟩) 52 (some 57) true
                  (.loud [58] [] [(58, (.un (.fld 1) (.tmp 8))), (57, (.tmp 57))] none [] false (.store 52 (.tmp 58) (.tmp 57)) 0 none false
                    (.fin [] [] [])))))
              (.reg false (.loud [59, 60, 61] [(60, (.un .load (.un (.fld 0) (.tmp 6))))] [(61, (.un (.loads 2) (.tmp 8)))] none [] false (.buildSlice 46 1 #[(0, (.tmp 61))]) 46 (some 62) true
                (.loud [] [] [(60, (.tmp 60)), (62, (.tmp 62))] none [] false (.call ⟨.builtin .append, #[(.tmp 60), (.tmp 62)], #[46, 46]⟩) 46 (some 63) true
                  (.loud [64] [] [(64, (.un (.fld 0) (.tmp 6))), (63, (.tmp 63))] none [] false (.store 46 (.tmp 64) (.tmp 63)) 0 none false
                    (.fin [] [] []))))))))
            (.reg false (.fin [42, 43, 7] [(7, (.bin (.arith .add) (.tmp 7) (.con (.int .i64 1))))] []))))
def L.law03_few.l3 : LC :=
  (.seq
            (.seq
            (.reg false (.fin [65, 66, 67, 68, 69, 70, 71, 72, 73] [(73, (.ite (.bin (.cmp .lss) (.tmp 9) (.un .len (.un .load (.un (.fld 1) (.tmp 5))))) (.bin (.cmp .lss) (.tmp 9) (.con (.int .i64 40))) (.con (.bool false))))] []))
            (.cond (.tmp 73) [73]
              .skip
              (.exit 4)))
            (.seq
            (.block 5
              (.seq
              (.reg false (.loud [76, 77, 78, 79, 80] [(80, (.un (.loads 5) (.bin (.idx 5) (.un .load (.un (.fld 1) (.tmp 5))) (.tmp 9))))] [] none [] false (.alloc 58) 0 (some 10) true
                (.loud [] [] [(10, (.tmp 10)), (80, (.tmp 80))] none [] false (.store 58 (.tmp 10) (.tmp 80)) 0 none false
                  (.fin [] [] []))))
              (.seq
              (.reg false (.loud [] [] [] none [] false (.buildSlice 28 0 #[]) 28 (some 81) true
                (.loud [82, 83, 84, 85, 86, 87, 88] [] [(81, (.tmp 81)), (88, (.bin .hi (.un .load (.un (.fld 3) (.tmp 10))) (.bin .min (.un .len (.un .load (.un (.fld 3) (.tmp 10)))) (.con (.int .i64 6)))))] none [] false (.call ⟨.builtin .append, #[(.tmp 81), (.tmp 88)], #[28, 28]⟩) 28 (some 89) true
                  (.loud [90] [] [(90, (.un (.fld 3) (.tmp 10))), (89, (.tmp 89))] none [] false (.store 28 (.tmp 90) (.tmp 89)) 0 none false
                    (.fin [] [] [])))))
              (.reg false (.loud [91, 92, 93] [(92, (.un .load (.un (.fld 1) (.tmp 6))))] [(93, (.un (.loads 5) (.tmp 10)))] none [] false (.buildSlice 47 1 #[(0, (.tmp 93))]) 47 (some 94) true
                (.loud [] [] [(92, (.tmp 92)), (94, (.tmp 94))] none [] false (.call ⟨.builtin .append, #[(.tmp 92), (.tmp 94)], #[47, 47]⟩) 47 (some 95) true
                  (.loud [96] [] [(96, (.un (.fld 1) (.tmp 6))), (95, (.tmp 95))] none [] false (.store 47 (.tmp 96) (.tmp 95)) 0 none false
                    (.fin [] [] []))))))))
            (.reg false (.fin [74, 75, 9] [(9, (.bin (.arith .add) (.tmp 9) (.con (.int .i64 1))))] []))))
def L.law03_few.l1 : LC :=
  (.seq
      (.seq
      (.reg false (.fin [14, 15, 16, 17, 18, 19, 20, 21, 22] [(22, (.ite (.bin (.cmp .lss) (.tmp 4) (.un .len (.un .load (.un (.fld 1) (.tmp 1))))) (.bin (.cmp .lss) (.tmp 4) (.con (.int .i64 9))) (.con (.bool false))))] []))
      (.cond (.tmp 22) [22]
        .skip
        (.exit 0)))
      (.seq
      (.block 1
        (.seq
        (.reg false (.loud [25, 26, 27, 28, 29] [(29, (.un (.loads 6) (.bin (.idx 6) (.un .load (.un (.fld 1) (.tmp 1))) (.tmp 4))))] [] none [] false (.alloc 51) 0 (some 5) true
          (.loud [] [] [(5, (.tmp 5)), (29, (.tmp 29))] none [] false (.store 51 (.tmp 5) (.tmp 29)) 0 none false
            (.fin [] [] []))))
        (.seq
        (.reg false (.loud [30, 31] [] [(31, (.un (.loads 4) (.un (.fld 2) (.tmp 5))))] none [] false (.build 51 #[(2, (.tmp 31))]) 51 (some 32) true
          (.loud [] [] [] none [] false (.alloc 51) 0 (some 6) true
            (.loud [] [] [(6, (.tmp 6)), (32, (.tmp 32))] none [] false (.store 51 (.tmp 6) (.tmp 32)) 0 none false
              (.fin [] [] [])))))
        (.seq
        (.seq
        (.reg false (.fin [7] [(7, (.con (.int .i64 0)))] []))
        (.block 2
          (.loop L.law03_few.l2)))
        (.seq
        (.seq
        (.reg false (.fin [9] [(9, (.con (.int .i64 0)))] []))
        (.block 4
          (.loop L.law03_few.l3)))
        (.seq
        (.reg false (.loud [] [] [] none [] false (.buildSlice 28 0 #[]) 28 (some 97) true
          (.loud [98, 99, 100, 101, 102, 103, 104, 105, 106] [] [(97, (.tmp 97)), (106, (.bin .hi (.un .load (.un (.fld 1) (.un (.fld 2) (.tmp 5)))) (.bin .min (.un .len (.un .load (.un (.fld 1) (.un (.fld 2) (.tmp 5))))) (.con (.int .i64 6)))))] none [] false (.call ⟨.builtin .append, #[(.tmp 97), (.tmp 106)], #[28, 28]⟩) 28 (some 107) true
            (.loud [108, 109] [] [(109, (.un (.fld 1) (.un (.fld 2) (.tmp 6)))), (107, (.tmp 107))] none [] false (.store 28 (.tmp 109) (.tmp 107)) 0 none false
              (.fin [] [] [])))))
        (.seq
        (.reg false (.loud [] [] [] none [] false (.buildSlice 28 0 #[]) 28 (some 110) true
          (.loud [111, 112, 113, 114, 115, 116, 117, 118, 119] [] [(110, (.tmp 110)), (119, (.bin .hi (.un .load (.un (.fld 2) (.un (.fld 2) (.tmp 5)))) (.bin .min (.un .len (.un .load (.un (.fld 2) (.un (.fld 2) (.tmp 5))))) (.con (.int .i64 70)))))] none [] false (.call ⟨.builtin .append, #[(.tmp 110), (.tmp 119)], #[28, 28]⟩) 28 (some 120) true
            (.loud [121, 122] [] [(122, (.un (.fld 2) (.un (.fld 2) (.tmp 6)))), (120, (.tmp 120))] none [] false (.store 28 (.tmp 122) (.tmp 120)) 0 none false
              (.fin [] [] [])))))
        (.reg false (.loud [123, 124, 125] [(124, (.un .load (.un (.fld 1) (.tmp 3))))] [(125, (.un (.loads 6) (.tmp 6)))] none [] false (.buildSlice 22 1 #[(0, (.tmp 125))]) 22 (some 126) true
          (.loud [] [] [(124, (.tmp 124)), (126, (.tmp 126))] none [] false (.call ⟨.builtin .append, #[(.tmp 124), (.tmp 126)], #[22, 22]⟩) 22 (some 127) true
            (.loud [128] [] [(128, (.un (.fld 1) (.tmp 3))), (127, (.tmp 127))] none [] false (.store 22 (.tmp 128) (.tmp 127)) 0 none false
              (.fin [] [] []))))))))))))
      (.reg false (.fin [23, 24, 4] [(4, (.bin (.arith .add) (.tmp 4) (.con (.int .i64 1))))] []))))
def L.law03_few : LFn :=
⟨[(.un (.loads 2) (.tmp 2))],
  (.seq
  (.reg false (.loud [] [] [(0, (.tmp 0))] none [] false (.box 24 (.tmp 0)) 0 (some 1) true
    (.loud [] [] [] none [] false (.alloc 24) 0 (some 2) true
      (.fin [] [] []))))
  (.seq
  (.reg false (.loud [11, 12] [] [(12, (.un .load (.un (.fld 0) (.tmp 1))))] none [] false (.build 24 #[(0, (.tmp 12))]) 24 (some 13) true
    (.loud [] [] [] none [] false (.alloc 24) 0 (some 3) true
      (.loud [] [] [(3, (.tmp 3)), (13, (.tmp 13))] none [] false (.store 24 (.tmp 3) (.tmp 13)) 0 none false
        (.fin [] [] [])))))
  (.seq
  (.seq
  (.reg false (.fin [4] [(4, (.con (.int .i64 0)))] []))
  (.block 0
    (.loop L.law03_few.l1)))
  (.seq
  (.reg false (.loud [129] [] [(2, (.tmp 2)), (129, (.un (.loads 2) (.tmp 3)))] none [] false (.store 24 (.tmp 2) (.tmp 129)) 0 none false
    (.fin [] [] [])))
  .ret))))⟩
theorem E.law03_few : liftF Try.prog Try.f15 = some L.law03_few := by kernel_rfl
theorem F.law03_few : Try.prog.funcs[N.law03_few]? = some Try.f15 := Try.func15

/-- jacquard/jacquardlaw03.made -/
abbrev N.law03_made : Nat := 16
def L.law03_made : LFn :=
⟨[(.un (.loads 2) (.tmp 2))],
  (.seq
  (.reg false (.loud [] [] [] none [] false (.alloc 24) 0 (some 2) true
    (.fin [] [] [])))
  (.seq
  (.reg false (.loud [3, 4, 5, 6, 7] [] [(7, (.bin .hi (.tmp 0) (.bin .min (.un .len (.tmp 0)) (.con (.int .i64 200)))))] none [] false (.call ⟨.value (.func 32), #[(.tmp 7)], #[28]⟩) 24 (some 8) true
    (.loud [] [] [(2, (.tmp 2)), (8, (.tmp 8))] none [] false (.store 24 (.tmp 2) (.tmp 8)) 0 none false
      (.fin [] [] []))))
  .ret))⟩
theorem E.law03_made : liftF Try.prog Try.f16 = some L.law03_made := by kernel_rfl
theorem F.law03_made : Try.prog.funcs[N.law03_made]? = some Try.f16 := Try.func16

/-- jacquard/jacquardref03.Turned -/
abbrev N.ref03_Turned : Nat := 17
def L.ref03_Turned : LFn :=
⟨[(.un (.loads 2) (.tmp 4))],
  (.seq
  (.reg false (.loud [] [] [(0, (.tmp 0))] none [] false (.box 24 (.tmp 0)) 0 (some 2) true
    (.loud [] [] [(1, (.tmp 1))] none [] false (.box 32 (.tmp 1)) 0 (some 3) true
      (.loud [] [] [] none [] false (.alloc 24) 0 (some 4) true
        (.fin [] [] [])))))
  (.seq
  (.reg false (.loud [] [] [] none [] false (.buildSlice 22 0 #[]) 22 (some 16) true
    (.loud [17, 18] [] [(16, (.tmp 16)), (18, (.un .load (.un (.fld 1) (.tmp 2))))] none [] false (.call ⟨.builtin .append, #[(.tmp 16), (.tmp 18)], #[22, 22]⟩) 22 (some 19) true
      (.fin [5] [(5, (.tmp 19))] []))))
  (.seq
  (.reg false (.loud [20, 21] [] [(21, (.un (.fld 1) (.tmp 2))), (20, (.tmp 5))] none [] false (.store 22 (.tmp 21) (.tmp 20)) 0 none false
    (.fin [] [] [])))
  (.seq
  (.seq
  (.reg false (.fin [22, 23, 24] [(24, (.bin (.cmp .eql) (.un .len (.tmp 5)) (.con (.int .i64 0))))] []))
  (.cond (.tmp 24) [24]
    (.seq
    (.reg false (.loud [25] [] [(4, (.tmp 4)), (25, (.un (.loads 2) (.tmp 2)))] none [] false (.store 24 (.tmp 4) (.tmp 25)) 0 none false
      (.fin [] [] [])))
    .ret)
    .skip))
  (.seq
  (.reg false (.loud [] [] [(3, (.tmp 3))] none [] false (.slice 32 (.tmp 3) none none none) 28 (some 26) true
    (.loud [] [] [(26, (.tmp 26))] none [] false (.build 74 #[(0, (.tmp 26))]) 74 (some 27) true
      (.loud [] [] [(27, (.tmp 27))] none [] false (.box 74 (.tmp 27)) 72 (some 28) true
        (.fin [6] [(6, (.tmp 28))] [])))))
  (.seq
  (.reg false (.loud [29] [] [(29, (.tmp 6))] none [] false (.call ⟨.value (.func 33), #[(.tmp 29), (.const (.int .i64 12))], #[72, 3]⟩) 3 (some 30) true
    (.fin [7] [(7, (.tmp 30))] [])))
  (.seq
  (.reg false (.loud [31, 32, 33] [] [(31, (.tmp 6)), (33, (.un .len (.tmp 5)))] none [] false (.call ⟨.value (.func 33), #[(.tmp 31), (.tmp 33)], #[72, 3]⟩) 3 (some 34) true
    (.fin [8] [(8, (.tmp 34))] [])))
  (.seq
  (.reg false (.loud [35] [] [(35, (.tmp 6))] none [] false (.call ⟨.value (.func 33), #[(.tmp 35), (.const (.int .i64 40))], #[72, 3]⟩) 3 (some 36) true
    (.fin [9] [(9, (.tmp 36))] [])))
  (.seq
  (.reg false (.loud [37, 38, 39, 40] [(40, (.un (.loads 6) (.bin (.idx 6) (.tmp 5) (.tmp 8))))] [] none [] false (.alloc 51) 0 (some 10) true
    (.loud [] [] [(10, (.tmp 10)), (40, (.tmp 40))] none [] false (.store 51 (.tmp 10) (.tmp 40)) 0 none false
      (.fin [] [] []))))
  (.seq
  (.reg false (.loud [] [] [] none [] false (.buildSlice 47 0 #[]) 47 (some 41) true
    (.loud [42, 43] [] [(41, (.tmp 41)), (43, (.un .load (.un (.fld 1) (.tmp 10))))] none [] false (.call ⟨.builtin .append, #[(.tmp 41), (.tmp 43)], #[47, 47]⟩) 47 (some 44) true
      (.loud [45] [] [(45, (.un (.fld 1) (.tmp 10))), (44, (.tmp 44))] none [] false (.store 47 (.tmp 45) (.tmp 44)) 0 none false
        (.fin [] [] [])))))
  (.seq
  (.reg false (.loud [] [] [] none [] false (.buildSlice 46 0 #[]) 46 (some 46) true
    (.loud [47, 48] [] [(46, (.tmp 46)), (48, (.un .load (.un (.fld 0) (.tmp 10))))] none [] false (.call ⟨.builtin .append, #[(.tmp 46), (.tmp 48)], #[46, 46]⟩) 46 (some 49) true
      (.loud [50] [] [(50, (.un (.fld 0) (.tmp 10))), (49, (.tmp 49))] none [] false (.store 46 (.tmp 50) (.tmp 49)) 0 none false
        (.fin [] [] [])))))
  (.seq
  (.reg false (.fin [11] [(11, (.con (.int .i64 0)))] []))
  (.seq
  (.seq
  (.reg false (.fin [51, 52, 53, 54] [(54, (.bin (.cmp .gtr) (.un .len (.un .load (.un (.fld 1) (.tmp 10)))) (.con (.int .i64 0))))] []))
  (.cond (.tmp 54) [54]
    (.reg false (.fin [55, 56, 57, 58, 59, 11] [(11, (.bin (.div .rem) (.tmp 9) (.un .len (.un .load (.un (.fld 1) (.tmp 10))))))] []))
    .skip))
  (.seq
  (.seq
  (.reg false (.fin [60] [(60, (.tmp 7))] []))
  (.block 0
    (.seq
    (.reg false (.fin [69, 68] [(68, (.bin (.cmp .eql) (.tmp 60) (.con (.int .i64 0))))] []))
    (.cond (.tmp 68) [68]
      (.reg false (.loud [70, 71, 72, 73] [] [(73, (.un (.fld 0) (.tmp 2))), (72, (.bin (.arith .sub) (.bin (.div .rem) (.tmp 9) (.con (.int .i64 7))) (.con (.int .i64 1))))] none [] false (.store 3 (.tmp 73) (.tmp 72)) 0 none false
        (.fin [] [] [])))
      (.seq
      (.reg false (.fin [75, 74] [(74, (.bin (.cmp .eql) (.tmp 60) (.con (.int .i64 1))))] []))
      (.cond (.tmp 74) [74]
        (.seq
        (.reg false (.fin [76, 77, 78, 79] [(79, (.bin (.cmp .gtr) (.un .len (.un .load (.un (.fld 1) (.tmp 10)))) (.con (.int .i64 0))))] []))
        (.cond (.tmp 79) [79]
          (.reg false (.loud [80, 81, 82, 83, 84, 85, 86, 87] [] [(87, (.un (.fld 0) (.bin (.idx 5) (.un .load (.un (.fld 1) (.tmp 10))) (.tmp 11)))), (85, (.bin (.arith .add) (.bin (.div .rem) (.tmp 9) (.con (.int .i64 20))) (.con (.int .i64 0))))] none [] false (.store 3 (.tmp 87) (.tmp 85)) 0 none false
            (.fin [] [] [])))
          .skip))
        (.seq
        (.reg false (.fin [89, 88] [(88, (.bin (.cmp .eql) (.tmp 60) (.con (.int .i64 2))))] []))
        (.cond (.tmp 88) [88]
          (.seq
          (.reg false (.fin [90, 91, 92, 93] [(93, (.bin (.cmp .gtr) (.un .len (.un .load (.un (.fld 1) (.tmp 10)))) (.con (.int .i64 0))))] []))
          (.cond (.tmp 93) [93]
            (.reg false (.loud [94, 95, 96, 97, 98, 99] [] [(99, (.un (.fld 1) (.bin (.idx 5) (.un .load (.un (.fld 1) (.tmp 10))) (.tmp 11)))), (97, (.tmp 9))] none [] false (.store 3 (.tmp 99) (.tmp 97)) 0 none false
              (.fin [] [] [])))
            .skip))
          (.seq
          (.reg false (.fin [101, 100] [(100, (.bin (.cmp .eql) (.tmp 60) (.con (.int .i64 3))))] []))
          (.cond (.tmp 100) [100]
            (.seq
            (.reg false (.fin [102, 103, 104, 105, 106, 107, 108, 109, 110, 111, 112, 113, 114, 115] [(115, (.ite (.bin (.cmp .gtr) (.un .len (.un .load (.un (.fld 1) (.tmp 10)))) (.con (.int .i64 0))) (.bin (.cmp .gtr) (.un .len (.un .load (.un (.fld 3) (.bin (.idx 5) (.un .load (.un (.fld 1) (.tmp 10))) (.tmp 11))))) (.con (.int .i64 0))) (.con (.bool false))))] []))
            (.cond (.tmp 115) [115]
              (.seq
              (.reg false (.loud [] [] [] none [] false (.buildSlice 28 0 #[]) 28 (some 116) true
                (.loud [117, 118, 119, 120, 121, 122] [] [(116, (.tmp 116)), (122, (.un .load (.un (.fld 3) (.bin (.idx 5) (.un .load (.un (.fld 1) (.tmp 10))) (.tmp 11)))))] none [] false (.call ⟨.builtin .append, #[(.tmp 116), (.tmp 122)], #[28, 28]⟩) 28 (some 123) true
                  (.fin [12] [(12, (.tmp 123))] []))))
              (.seq
              (.reg false (.loud [124, 125, 126, 127, 128, 129, 130] [] [(130, (.bin (.idx 1) (.tmp 12) (.bin (.div .rem) (.tmp 9) (.un .len (.tmp 12))))), (129, (.tmp 9))] none [] false (.store 3 (.tmp 130) (.tmp 129)) 0 none false
                (.fin [] [] [])))
              (.reg false (.loud [131, 132, 133, 134, 135, 136] [] [(136, (.un (.fld 3) (.bin (.idx 5) (.un .load (.un (.fld 1) (.tmp 10))) (.tmp 11)))), (134, (.tmp 12))] none [] false (.store 28 (.tmp 136) (.tmp 134)) 0 none false
                (.fin [] [] [])))))
              .skip))
            (.seq
            (.reg false (.fin [138, 137] [(137, (.bin (.cmp .eql) (.tmp 60) (.con (.int .i64 4))))] []))
            (.cond (.tmp 137) [137]
              (.reg false (.loud [] [] [] none [] false (.buildSlice 28 0 #[]) 28 (some 139) true
                (.loud [140, 141, 142] [] [(139, (.tmp 139)), (142, (.un .load (.un (.fld 2) (.un (.fld 2) (.tmp 10)))))] none [] false (.call ⟨.builtin .append, #[(.tmp 139), (.tmp 142)], #[28, 28]⟩) 28 (some 143) true
                  (.loud [144, 145, 146] [] [(146, (.bin (.arith .sub) (.bin (.div .rem) (.tmp 9) (.con (.int .i64 12))) (.con (.int .i64 1))))] none [] false (.buildSlice 28 1 #[(0, (.tmp 146))]) 28 (some 147) true
                    (.loud [] [] [(143, (.tmp 143)), (147, (.tmp 147))] none [] false (.call ⟨.builtin .append, #[(.tmp 143), (.tmp 147)], #[28, 28]⟩) 28 (some 148) true
                      (.loud [149, 150] [] [(150, (.un (.fld 2) (.un (.fld 2) (.tmp 10)))), (148, (.tmp 148))] none [] false (.store 28 (.tmp 150) (.tmp 148)) 0 none false
                        (.fin [] [] [])))))))
              (.seq
              (.reg false (.fin [152, 151] [(151, (.bin (.cmp .eql) (.tmp 60) (.con (.int .i64 5))))] []))
              (.cond (.tmp 151) [151]
                (.reg false (.loud [153, 154, 155, 156] [] [(156, (.un (.fld 0) (.un (.fld 2) (.tmp 10)))), (154, (.bin (.div .rem) (.tmp 9) (.con (.int .i64 7))))] none [] false (.store 3 (.tmp 156) (.tmp 154)) 0 none false
                  (.fin [] [] [])))
                (.seq
                (.reg false (.fin [158, 157] [(157, (.bin (.cmp .eql) (.tmp 60) (.con (.int .i64 6))))] []))
                (.cond (.tmp 157) [157]
                  (.seq
                  (.reg false (.fin [159, 160, 161, 162] [(162, (.bin (.cmp .gtr) (.un .len (.un .load (.un (.fld 0) (.tmp 10)))) (.con (.int .i64 0))))] []))
                  (.cond (.tmp 162) [162]
                    (.reg true (.both
                      (.loud [163, 164, 165, 166, 167, 168, 169, 171, 172, 173, 174, 175, 176, 177, 178, 179, 180, 182, 183, 184] [(164, (.un .load (.un (.fld 0) (.tmp 10)))), (169, (.bin (.div .rem) (.tmp 9) (.un .len (.un .load (.un (.fld 0) (.tmp 10)))))), (180, (.un .load (.un (.fld 1) (.bin (.idx 2) (.un .load (.un (.fld 0) (.tmp 10))) (.bin (.div .rem) (.tmp 9) (.un .len (.un .load (.un (.fld 0) (.tmp 10))))))))), (183, (.bin (.div .rem) (.tmp 9) (.con (.int .i64 5)))), (184, (.tmp 9))] [] none [] false (.buildSlice 52 0 #[]) 52 (some 170) true
                        (.both
                          (.loud [] [] [(170, (.tmp 170)), (180, (.tmp 180))] none [] false (.call ⟨.builtin .append, #[(.tmp 170), (.tmp 180)], #[52, 52]⟩) 52 (some 181) true
                            (.loud [] [] [(183, (.tmp 183)), (184, (.tmp 184))] none [] false (.build 56 #[(0, (.tmp 183)), (1, (.tmp 184))]) 56 (some 185) true
                              (.loud [] [] [(185, (.tmp 185))] none [] false (.buildSlice 52 1 #[(0, (.tmp 185))]) 52 (some 186) true
                                (.loud [] [] [(181, (.tmp 181)), (186, (.tmp 186))] none [] false (.call ⟨.builtin .append, #[(.tmp 181), (.tmp 186)], #[52, 52]⟩) 52 (some 187) true
                                  (.loud [188, 189] [] [(189, (.un (.fld 1) (.bin (.idx 2) (.tmp 164) (.tmp 169)))), (187, (.tmp 187))] none [] true (.store 52 (.tmp 189) (.tmp 187)) 0 none false
                                    (.fin [] [] []))))))
                          (.loud [] [] [(183, (.tmp 183)), (184, (.tmp 184))] none [] false (.build 56 #[(0, (.tmp 183)), (1, (.tmp 184))]) 56 (some 185) true
                            (.both
                              (.loud [] [] [(170, (.tmp 170)), (180, (.tmp 180))] none [] false (.call ⟨.builtin .append, #[(.tmp 170), (.tmp 180)], #[52, 52]⟩) 52 (some 181) true
                                (.loud [] [] [(185, (.tmp 185))] none [] false (.buildSlice 52 1 #[(0, (.tmp 185))]) 52 (some 186) true
                                  (.loud [] [] [(181, (.tmp 181)), (186, (.tmp 186))] none [] false (.call ⟨.builtin .append, #[(.tmp 181), (.tmp 186)], #[52, 52]⟩) 52 (some 187) true
                                    (.loud [188, 189] [] [(189, (.un (.fld 1) (.bin (.idx 2) (.tmp 164) (.tmp 169)))), (187, (.tmp 187))] none [] true (.store 52 (.tmp 189) (.tmp 187)) 0 none false
                                      (.fin [] [] [])))))
                              (.loud [] [] [(185, (.tmp 185))] none [] false (.buildSlice 52 1 #[(0, (.tmp 185))]) 52 (some 186) true
                                (.loud [] [] [(170, (.tmp 170)), (180, (.tmp 180))] none [] false (.call ⟨.builtin .append, #[(.tmp 170), (.tmp 180)], #[52, 52]⟩) 52 (some 181) true
                                  (.loud [] [] [(181, (.tmp 181)), (186, (.tmp 186))] none [] false (.call ⟨.builtin .append, #[(.tmp 181), (.tmp 186)], #[52, 52]⟩) 52 (some 187) true
                                    (.loud [188, 189] [] [(189, (.un (.fld 1) (.bin (.idx 2) (.tmp 164) (.tmp 169)))), (187, (.tmp 187))] none [] true (.store 52 (.tmp 189) (.tmp 187)) 0 none false
                                      (.fin [] [] [])))))))))
                      (.loud [163, 164, 165, 166, 167, 168, 169, 171, 172, 173, 174, 175, 176, 177, 178, 179, 180, 182, 183, 184] [(164, (.un .load (.un (.fld 0) (.tmp 10)))), (169, (.bin (.div .rem) (.tmp 9) (.un .len (.un .load (.un (.fld 0) (.tmp 10)))))), (180, (.un .load (.un (.fld 1) (.bin (.idx 2) (.un .load (.un (.fld 0) (.tmp 10))) (.bin (.div .rem) (.tmp 9) (.un .len (.un .load (.un (.fld 0) (.tmp 10)))))))))] [(183, (.bin (.div .rem) (.tmp 9) (.con (.int .i64 5)))), (184, (.tmp 9))] none [] false (.build 56 #[(0, (.tmp 183)), (1, (.tmp 184))]) 56 (some 185) true
                        (.both
                          (.loud [] [] [] none [] false (.buildSlice 52 0 #[]) 52 (some 170) true
                            (.both
                              (.loud [] [] [(170, (.tmp 170)), (180, (.tmp 180))] none [] false (.call ⟨.builtin .append, #[(.tmp 170), (.tmp 180)], #[52, 52]⟩) 52 (some 181) true
                                (.loud [] [] [(185, (.tmp 185))] none [] false (.buildSlice 52 1 #[(0, (.tmp 185))]) 52 (some 186) true
                                  (.loud [] [] [(181, (.tmp 181)), (186, (.tmp 186))] none [] false (.call ⟨.builtin .append, #[(.tmp 181), (.tmp 186)], #[52, 52]⟩) 52 (some 187) true
                                    (.loud [188, 189] [] [(189, (.un (.fld 1) (.bin (.idx 2) (.tmp 164) (.tmp 169)))), (187, (.tmp 187))] none [] true (.store 52 (.tmp 189) (.tmp 187)) 0 none false
                                      (.fin [] [] [])))))
                              (.loud [] [] [(185, (.tmp 185))] none [] false (.buildSlice 52 1 #[(0, (.tmp 185))]) 52 (some 186) true
                                (.loud [] [] [(170, (.tmp 170)), (180, (.tmp 180))] none [] false (.call ⟨.builtin .append, #[(.tmp 170), (.tmp 180)], #[52, 52]⟩) 52 (some 181) true
                                  (.loud [] [] [(181, (.tmp 181)), (186, (.tmp 186))] none [] false (.call ⟨.builtin .append, #[(.tmp 181), (.tmp 186)], #[52, 52]⟩) 52 (some 187) true
                                    (.loud [188, 189] [] [(189, (.un (.fld 1) (.bin (.idx 2) (.tmp 164) (.tmp 169)))), (187, (.tmp 187))] none [] true (.store 52 (.tmp 189) (.tmp 187)) 0 none false
                                      (.fin [] [] [])))))))
                          (.loud [] [] [(185, (.tmp 185))] none [] false (.buildSlice 52 1 #[(0, (.tmp 185))]) 52 (some 186) true
                            (.loud [] [] [] none [] false (.buildSlice 52 0 #[]) 52 (some 170) true
                              (.loud [] [] [(170, (.tmp 170)), (180, (.tmp 180))] none [] false (.call ⟨.builtin .append, #[(.tmp 170), (.tmp 180)], #[52, 52]⟩) 52 (some 181) true
                                (.loud [] [] [(181, (.tmp 181)), (186, (.tmp 186))] none [] false (.call ⟨.builtin .append, #[(.tmp 181), (.tmp 186)], #[52, 52]⟩) 52 (some 187) true
                                  (.loud [188, 189] [] [(189, (.un (.fld 1) (.bin (.idx 2) (.tmp 164) (.tmp 169)))), (187, (.tmp 187))] none [] true (.store 52 (.tmp 189) (.tmp 187)) 0 none false
                                    (.fin [] [] []))))))))))
                    .skip))
                  (.seq
                  (.reg false (.fin [191, 190] [(190, (.bin (.cmp .eql) (.tmp 60) (.con (.int .i64 7))))] []))
                  (.cond (.tmp 190) [190]
                    (.seq
                    (.reg false (.fin [192, 193, 194, 195, 196, 197, 198, 199, 200, 201, 202, 203, 204] [(204, (.ite (.bin (.cmp .gtr) (.un .len (.un .load (.un (.fld 0) (.tmp 10)))) (.con (.int .i64 0))) (.bin (.cmp .gtr) (.un .len (.un .load (.un (.fld 1) (.bin (.idx 2) (.un .load (.un (.fld 0) (.tmp 10))) (.con (.int .i64 0)))))) (.con (.int .i64 0))) (.con (.bool false))))] []))
                    (.cond (.tmp 204) [204]
                      (.seq
                      (.reg false (.loud [] [] [] none [] false (.buildSlice 52 0 #[]) 52 (some 205) true
                        (.loud [206, 207, 208, 209, 210] [] [(205, (.tmp 205)), (210, (.un .load (.un (.fld 1) (.bin (.idx 2) (.un .load (.un (.fld 0) (.tmp 10))) (.con (.int .i64 0))))))] none [] false (.call ⟨.builtin .append, #[(.tmp 205), (.tmp 210)], #[52, 52]⟩) 52 (some 211) true
                          (.fin [13] [(13, (.tmp 211))] []))))
                      (.seq
                      (.reg false (.loud [212, 213, 214, 215, 216, 217, 218, 219] [] [(219, (.un (.fld 1) (.bin (.idx 2) (.tmp 13) (.bin (.div .rem) (.tmp 9) (.un .len (.tmp 13)))))), (217, (.tmp 9))] none [] false (.store 3 (.tmp 219) (.tmp 217)) 0 none false
                        (.fin [] [] [])))
                      (.reg false (.loud [220, 221, 222, 223, 224] [] [(224, (.un (.fld 1) (.bin (.idx 2) (.un .load (.un (.fld 0) (.tmp 10))) (.con (.int .i64 0))))), (222, (.tmp 13))] none [] false (.store 52 (.tmp 224) (.tmp 222)) 0 none false
                        (.fin [] [] [])))))
                      .skip))
                    (.seq
                    (.reg false (.fin [226, 225] [(225, (.bin (.cmp .eql) (.tmp 60) (.con (.int .i64 8))))] []))
                    (.cond (.tmp 225) [225]
                      (.seq
                      (.reg false (.fin [227, 228, 229, 230] [(230, (.bin (.cmp .gtr) (.un .len (.un .load (.un (.fld 1) (.tmp 10)))) (.con (.int .i64 0))))] []))
                      (.cond (.tmp 230) [230]
                        (.reg true (.loud [231, 232, 233, 234, 235, 236, 237, 238, 239] [] [(234, (.bin .hi (.un .load (.un (.fld 1) (.tmp 10))) (.tmp 11))), (239, (.bin (.lo 5) (.un .load (.un (.fld 1) (.tmp 10))) (.bin (.arith .add) (.tmp 11) (.con (.int .i64 1)))))] none [] true (.call ⟨.builtin .append, #[(.tmp 234), (.tmp 239)], #[47, 47]⟩) 47 (some 240) true
                          (.loud [241] [] [(241, (.un (.fld 1) (.tmp 10))), (240, (.tmp 240))] none [] false (.store 47 (.tmp 241) (.tmp 240)) 0 none false
                            (.fin [] [] []))))
                        .skip))
                      (.seq
                      (.reg false (.fin [243, 242] [(242, (.bin (.cmp .eql) (.tmp 60) (.con (.int .i64 9))))] []))
                      (.cond (.tmp 242) [242]
                        (.seq
                        (.reg false (.fin [244, 245, 246, 247] [(247, (.bin (.cmp .gtr) (.un .len (.un .load (.un (.fld 1) (.tmp 10)))) (.con (.int .i64 1))))] []))
                        (.cond (.tmp 247) [247]
                          (.seq
                          (.reg false (.loud [248, 249, 250, 251] [(251, (.un (.loads 5) (.bin (.idx 5) (.un .load (.un (.fld 1) (.tmp 10))) (.con (.int .i64 0)))))] [] none [] false (.alloc 58) 0 (some 14) true
                            (.loud [] [] [(14, (.tmp 14)), (251, (.tmp 251))] none [] false (.store 58 (.tmp 14) (.tmp 251)) 0 none false
                              (.fin [] [] []))))
                          (.seq
                          (.reg true (.loud [252, 253, 254, 255, 256, 257, 258, 259] [] [(259, (.bin (.idx 5) (.un .load (.un (.fld 1) (.tmp 10))) (.con (.int .i64 0)))), (258, (.un (.loads 5) (.bin (.idx 5) (.un .load (.un (.fld 1) (.tmp 10))) (.tmp 11))))] none [] true (.store 58 (.tmp 259) (.tmp 258)) 0 none false
                            (.fin [] [] [])))
                          (.reg false (.loud [260, 261, 262, 263, 264] [] [(264, (.bin (.idx 5) (.un .load (.un (.fld 1) (.tmp 10))) (.tmp 11))), (263, (.un (.loads 5) (.tmp 14)))] none [] false (.store 58 (.tmp 264) (.tmp 263)) 0 none false
                            (.fin [] [] [])))))
                          .skip))
                        (.seq
                        (.reg false (.fin [266, 265] [(265, (.bin (.cmp .eql) (.tmp 60) (.con (.int .i64 10))))] []))
                        (.cond (.tmp 265) [265]
                          (.seq
                          (.reg false (.fin [267, 268, 269, 270, 271] [(271, (.bin (.cmp .gtr) (.un .len (.un .load (.un (.fld 2) (.un (.fld 2) (.tmp 10))))) (.con (.int .i64 0))))] []))
                          (.cond (.tmp 271) [271]
                            (.seq
                            (.reg false (.loud [] [] [] none [] false (.buildSlice 28 0 #[]) 28 (some 272) true
                              (.loud [273, 274, 275] [] [(272, (.tmp 272)), (275, (.un .load (.un (.fld 2) (.un (.fld 2) (.tmp 10)))))] none [] false (.call ⟨.builtin .append, #[(.tmp 272), (.tmp 275)], #[28, 28]⟩) 28 (some 276) true
                                (.fin [15] [(15, (.tmp 276))] []))))
                            (.seq
                            (.reg false (.loud [277, 278, 279, 280, 281, 282, 283, 284] [] [(284, (.bin (.idx 1) (.tmp 15) (.bin (.div .rem) (.tmp 9) (.un .len (.tmp 15))))), (283, (.bin (.div .rem) (.tmp 9) (.con (.int .i64 11))))] none [] false (.store 3 (.tmp 284) (.tmp 283)) 0 none false
                              (.fin [] [] [])))
                            (.reg false (.loud [285, 286, 287] [] [(287, (.un (.fld 2) (.un (.fld 2) (.tmp 10)))), (285, (.tmp 15))] none [] false (.store 28 (.tmp 287) (.tmp 285)) 0 none false
                              (.fin [] [] [])))))
                            .skip))
                          (.reg false (.loud [61, 62, 63] [(62, (.un .load (.un (.fld 0) (.tmp 10))))] [(63, (.tmp 9))] none [] false (.build 54 #[(0, (.tmp 63))]) 54 (some 64) true
                            (.loud [] [] [(64, (.tmp 64))] none [] false (.buildSlice 46 1 #[(0, (.tmp 64))]) 46 (some 65) true
                              (.loud [] [] [(62, (.tmp 62)), (65, (.tmp 65))] none [] false (.call ⟨.builtin .append, #[(.tmp 62), (.tmp 65)], #[46, 46]⟩) 46 (some 66) true
                                (.loud [67] [] [(67, (.un (.fld 0) (.tmp 10))), (66, (.tmp 66))] none [] false (.store 46 (.tmp 67) (.tmp 66)) 0 none false
                                  (.fin [] [] []))))))))))))))))))))))))))))))
  (.seq
  (.reg false (.loud [288, 289, 290, 291] [] [(291, (.bin (.idx 6) (.tmp 5) (.tmp 8))), (290, (.un (.loads 6) (.tmp 10)))] none [] false (.store 51 (.tmp 291) (.tmp 290)) 0 none false
    (.fin [] [] [])))
  (.seq
  (.reg false (.loud [292] [] [(4, (.tmp 4)), (292, (.un (.loads 2) (.tmp 2)))] none [] false (.store 24 (.tmp 4) (.tmp 292)) 0 none false
    (.fin [] [] [])))
  .ret))))))))))))))))⟩
theorem E.ref03_Turned : liftF Try.prog Try.f17 = some L.ref03_Turned := by kernel_rfl
theorem F.ref03_Turned : Try.prog.funcs[N.ref03_Turned]? = some Try.f17 := Try.func17

end Go.Proofs.Ytfelpjfopgiabaa

/- The functions of the program in the lifted language, each with the proof that the lifter makes just it. Written by program. -/
namespace Go.Proofs.Ytfelpjfopgiabaa
open Go Go.Lft
set_option maxRecDepth 100000

/-- jacquard/check.Func -/
abbrev N.check_Func : Nat := 18
def R.check_Func : List E := [(.un .load (.tmp 2)), (.un .load (.tmp 3)), (.un .load (.tmp 4))]
def L.check_Func_p0 : LC :=
  (.reg false (.loud [] [] [(0, (.tmp 0))] none [] false (.box 24 (.tmp 0)) 0 (some 1) true
    (.loud [] [] [] none [] false (.alloc 34) 0 (some 2) true
      (.loud [] [] [] none [] false (.alloc 3) 0 (some 3) true
        (.loud [] [] [] none [] false (.alloc 3) 0 (some 4) true
          (.fin [] [] []))))))
theorem E.check_Func_p0 : liftC Try.prog Try.f18.ntmps (liveA Try.f18) (liveB Try.f18) false (partC0 Try.f18) = some L.check_Func_p0 := by kernel_rfl
def L.check_Func_p1.l1 : LC :=
  (.seq
      (.reg false (.fin [26] [(26, (.bin (.cmp .lss) (.tmp 25) (.tmp 24)))] []))
      (.seq
      (.cond (.tmp 26) [26]
        .skip
        (.exit 0))
      (.seq
      (.block 1
        (.seq
        (.reg false (.loud [27, 28] [(28, (.un (.loads 6) (.bin (.idx 6) (.tmp 23) (.tmp 25))))] [] none [] false (.alloc 51) 0 (some 7) true
          (.loud [] [] [(7, (.tmp 7)), (28, (.tmp 28))] none [] false (.store 51 (.tmp 7) (.tmp 28)) 0 none false
            (.fin [] [] []))))
        (.reg false (.fin [29, 30, 31, 32, 33, 34, 35, 36, 37, 5] [(5, (.bin (.arith .add) (.tmp 5) (.bin (.arith .add) (.un .len (.un .load (.un (.fld 0) (.tmp 7)))) (.un .len (.un .load (.un (.fld 1) (.tmp 7)))))))] []))))
      (.reg false (.fin [38, 25] [(25, (.bin (.arith .add) (.tmp 25) (.con (.int .i64 1))))] [])))))
def L.check_Func_p1 : LC :=
  (.seq
  (.reg false (.loud [10, 11] [] [(11, (.un .load (.un (.fld 0) (.tmp 1))))] none [] false (.call ⟨.value (.func 36), #[(.tmp 11), (.const (.int .i64 0)), (.const (.int .i64 4))], #[3, 3, 3]⟩) 4 (some 12) true
    (.loud [] [] [(12, (.tmp 12))] none [] false (.call ⟨.value (.func 35), #[(.tmp 12), (.const (.int .i64 1)), (.const (.int .i64 0)), (.const (.int .i64 0))], #[4, 34, 3, 3]⟩) 0 (some 13) false
      (.fin [] [] []))))
  (.seq
  (.reg false (.loud [14, 15, 16, 17] [] [(17, (.bin (.cmp .gtr) (.un .len (.un .load (.un (.fld 1) (.tmp 1)))) (.con (.int .i64 0))))] none [] false (.call ⟨.value (.func 35), #[(.tmp 17), (.const (.int .i64 14)), (.const (.int .i64 0)), (.const (.int .i64 0))], #[4, 34, 3, 3]⟩) 0 (some 18) false
    (.fin [] [] [])))
  (.seq
  (.reg false (.fin [19, 20, 21, 5] [(5, (.un .len (.un .load (.un (.fld 1) (.tmp 1)))))] []))
  (.seq
  (.seq
  (.reg false (.fin [22, 23, 24, 25] [(23, (.un .load (.un (.fld 1) (.tmp 1)))), (24, (.un .len (.un .load (.un (.fld 1) (.tmp 1))))), (25, (.con (.int .i64 0)))] []))
  (.block 0
    (.loop L.check_Func_p1.l1)))
  (.seq
  (.reg false (.loud [39, 40, 41, 42, 43, 44, 45, 46] [] [(46, (.ite (.bin (.cmp .leq) (.un .len (.un .load (.un (.fld 1) (.tmp 1)))) (.con (.int .i64 512))) (.bin (.cmp .leq) (.tmp 5) (.con (.int .i64 4096))) (.con (.bool false))))] none [] false (.call ⟨.value (.func 35), #[(.tmp 46), (.const (.int .i64 2)), (.const (.int .i64 0)), (.const (.int .i64 0))], #[4, 34, 3, 3]⟩) 0 (some 47) false
    (.fin [] [] [])))
  (.seq
  (.reg false (.loud [48] [(48, (.un (.loads 2) (.tmp 1)))] [] none [] false (.makeMap 81 none) 81 (some 49) true
    (.loud [] [] [(48, (.tmp 48)), (49, (.tmp 49))] none [] false (.build 83 #[(0, (.tmp 48)), (1, (.tmp 49))]) 83 (some 50) true
      (.loud [] [] [(50, (.tmp 50))] none [] false (.box 83 (.tmp 50)) 80 (some 51) true
        (.fin [8] [(8, (.tmp 51))] [])))))
  (.seq
  (.reg false (.loud [52] [] [(52, (.tmp 8))] none [] false (.call ⟨.value (.func 37), #[(.tmp 52)], #[80]⟩) 0 (some 53) false
    (.fin [] [] [])))
  (.seq
  (.reg false (.loud [54] [] [(54, (.tmp 8))] none [] false (.call ⟨.value (.func 38), #[(.tmp 54)], #[80]⟩) 0 (some 55) false
    (.fin [] [] [])))
  (.seq
  (.reg false (.loud [] [] [(2, (.tmp 2))] none [] false (.store 34 (.tmp 2) (.const (.int .i64 0))) 0 none false
    (.loud [] [] [(3, (.tmp 3))] none [] false (.store 3 (.tmp 3) (.const (.int .i64 0))) 0 none false
      (.loud [] [] [(4, (.tmp 4))] none [] false (.store 3 (.tmp 4) (.const (.int .i64 0))) 0 none false
        (.fin [] [] [])))))
  .ret)))))))))
theorem E.check_Func_p1 : liftC Try.prog Try.f18.ntmps (liveA Try.f18) (liveB Try.f18) false (partC1 Try.f18) = some L.check_Func_p1 := by kernel_rfl
theorem R.check_Func_is : Try.f18.results.toList.mapM (resE Try.prog) = some R.check_Func := by kernel_rfl
theorem F.check_Func : Try.prog.funcs[N.check_Func]? = some Try.f18 := Try.func18
theorem B.check_Func : Try.f18.body = some (.seq (partC0 Try.f18) (.seq (.region (regId (partR Try.f18)) #[partO Try.f18 0, partO Try.f18 1] false) (partC1 Try.f18))) := by kernel_rfl

/-- jacquard/check.Top -/
abbrev N.check_Top : Nat := 19
def L.check_Top : LFn :=
⟨[(.tmp 2)],
  (.seq
  (.reg false (.loud [] [] [(0, (.tmp 0))] none [] false (.box 24 (.tmp 0)) 0 (some 1) true
    (.fin [2] [(2, (.con (.int .i64 0)))] [])))
  (.seq
  (.reg false (.loud [4, 5, 6, 7] [(7, (.bin .min (.bin .max (.un .load (.un (.fld 0) (.tmp 1))) (.con (.int .i64 0))) (.con (.int .i64 8192))))] [] none [] false (.alloc 3) 0 (some 3) true
    (.loud [] [] [(3, (.tmp 3)), (7, (.tmp 7))] none [] false (.store 3 (.tmp 3) (.tmp 7)) 0 none false
      (.fin [] [] []))))
  (.seq
  (.reg false (.loud [8, 9] [] [(8, (.un (.loads 2) (.tmp 1))), (9, (.un (.fn 40) (.snoc (.con (.tuple #[])) (.tmp 3))))] none [] false (.call ⟨.value (.func 39), #[(.tmp 8), (.tmp 9)], #[24, 85]⟩) 0 (some 10) false
    (.fin [] [] [])))
  (.seq
  (.reg false (.fin [11, 2] [(2, (.un .load (.tmp 3)))] []))
  .ret))))⟩
theorem E.check_Top : liftF Try.prog Try.f19 = some L.check_Top := by kernel_rfl
theorem F.check_Top : Try.prog.funcs[N.check_Top]? = some Try.f19 := Try.func19

/-- jacquard/jacquardref03.Top -/
abbrev N.ref03_Top : Nat := 20
def L.ref03_Top.l2 : LC :=
  (.seq
            (.seq
            (.reg false (.fin [19, 20, 21, 22, 23, 24, 25, 26] [(26, (.bin (.cmp .lss) (.tmp 6) (.un .len (.un .load (.un (.fld 2) (.bin (.idx 4) (.tmp 4) (.tmp 5)))))))] []))
            (.cond (.tmp 26) [26]
              .skip
              (.exit 2)))
            (.seq
            (.block 3
              (.seq
              (.reg false (.fin [29, 30, 31, 32, 33, 34, 35, 36, 37, 38, 39, 40, 41, 42, 43, 44, 45, 46, 47, 48, 49] [(49, (.ite (.bin (.cmp .geq) (.un .load (.bin (.idx 1) (.un .load (.un (.fld 2) (.bin (.idx 4) (.tmp 4) (.tmp 5)))) (.tmp 6))) (.tmp 3)) (.bin (.cmp .lss) (.un .load (.bin (.idx 1) (.un .load (.un (.fld 2) (.bin (.idx 4) (.tmp 4) (.tmp 5)))) (.tmp 6))) (.con (.int .i64 8192))) (.con (.bool false))))] []))
              (.cond (.tmp 49) [49]
                (.reg false (.fin [50, 51, 52, 53, 54, 55, 56, 57, 58, 3] [(3, (.bin (.arith .add) (.un .load (.bin (.idx 1) (.un .load (.un (.fld 2) (.bin (.idx 4) (.tmp 4) (.tmp 5)))) (.tmp 6))) (.con (.int .i64 1))))] []))
                .skip)))
            (.reg false (.fin [27, 28, 6] [(6, (.bin (.arith .add) (.tmp 6) (.con (.int .i64 1))))] []))))
def L.ref03_Top.l1 : LC :=
  (.seq
      (.seq
      (.reg false (.fin [13, 14, 15, 16] [(16, (.bin (.cmp .lss) (.tmp 5) (.un .len (.tmp 4))))] []))
      (.cond (.tmp 16) [16]
        .skip
        (.exit 0)))
      (.seq
      (.block 1
        (.seq
        (.reg false (.fin [6] [(6, (.con (.int .i64 0)))] []))
        (.block 2
          (.loop L.ref03_Top.l2))))
      (.reg false (.fin [17, 18, 5] [(5, (.bin (.arith .add) (.tmp 5) (.con (.int .i64 1))))] []))))
def L.ref03_Top : LFn :=
⟨[(.tmp 2)],
  (.seq
  (.reg false (.loud [] [] [(0, (.tmp 0))] none [] false (.box 24 (.tmp 0)) 0 (some 1) true
    (.fin [2] [(2, (.con (.int .i64 0)))] [])))
  (.seq
  (.reg false (.fin [7, 8, 9, 10, 3] [(3, (.bin .min (.bin .max (.un .load (.un (.fld 0) (.tmp 1))) (.con (.int .i64 0))) (.con (.int .i64 8192))))] []))
  (.seq
  (.reg false (.loud [11] [] [(11, (.un (.loads 2) (.tmp 1)))] none [] false (.call ⟨.value (.func 41), #[(.tmp 11)], #[24]⟩) 86 (some 12) true
    (.fin [4] [(4, (.tmp 12))] [])))
  (.seq
  (.seq
  (.reg false (.fin [5] [(5, (.con (.int .i64 0)))] []))
  (.block 0
    (.loop L.ref03_Top.l1)))
  (.seq
  (.reg false (.fin [59, 2] [(2, (.tmp 3))] []))
  .ret)))))⟩
theorem E.ref03_Top : liftF Try.prog Try.f20 = some L.ref03_Top := by kernel_rfl
theorem F.ref03_Top : Try.prog.funcs[N.ref03_Top]? = some Try.f20 := Try.func20

/-- jacquard/jacquardlaw03.rows -/
abbrev N.law03_rows : Nat := 21
def L.law03_rows.l1 : LC :=
  (.seq
      (.seq
      (.reg false (.fin [11, 12, 13, 14] [(14, (.bin (.cmp .lss) (.tmp 5) (.un .len (.tmp 0))))] []))
      (.cond (.tmp 14) [14]
        .skip
        (.exit 0)))
      (.seq
      (.block 1
        (.seq
        (.reg true (.fin [17, 18, 19, 20, 21, 22, 23, 24, 25] [(25, (.bin (.cmp .neq) (.un .load (.bin (.idx 1) (.tmp 0) (.tmp 5))) (.un .load (.bin (.idx 1) (.tmp 1) (.tmp 5)))))] []))
        (.cond (.tmp 25) [25]
          (.seq
          (.reg false (.fin [4] [(4, (.con (.bool false)))] []))
          .ret)
          .skip)))
      (.reg false (.fin [15, 16, 5] [(5, (.bin (.arith .add) (.tmp 5) (.con (.int .i64 1))))] []))))
def L.law03_rows : LFn :=
⟨[(.tmp 4)],
  (.seq
  (.reg false (.fin [4] [(4, (.con (.bool false)))] []))
  (.seq
  (.seq
  (.reg false (.fin [6, 7, 8, 9, 10] [(10, (.bin (.cmp .neq) (.un .len (.tmp 0)) (.un .len (.tmp 1))))] []))
  (.cond (.tmp 10) [10]
    (.seq
    (.reg false (.fin [4] [(4, (.con (.bool false)))] []))
    .ret)
    .skip))
  (.seq
  (.seq
  (.reg false (.fin [5] [(5, (.con (.int .i64 0)))] []))
  (.block 0
    (.loop L.law03_rows.l1)))
  (.seq
  (.reg false (.fin [4] [(4, (.con (.bool true)))] []))
  .ret))))⟩
theorem E.law03_rows : liftF Try.prog Try.f21 = some L.law03_rows := by kernel_rfl
theorem F.law03_rows : Try.prog.funcs[N.law03_rows]? = some Try.f21 := Try.func21

/-- jacquard/check.Uses -/
abbrev N.check_Uses : Nat := 22
def L.check_Uses : LFn :=
⟨[(.tmp 2)],
  (.seq
  (.reg false (.loud [] [] [(0, (.tmp 0))] none [] false (.box 24 (.tmp 0)) 0 (some 1) true
    (.fin [2] [(2, (.con (.slice none 0 0)))] [])))
  (.seq
  (.reg false (.loud [4] [] [(4, (.un (.loads 2) (.tmp 1)))] none [] false (.call ⟨.value (.func 19), #[(.tmp 4)], #[24]⟩) 3 (some 5) true
    (.loud [] [] [(5, (.tmp 5)), (5, (.tmp 5))] none [] false (.makeSlice 28 (.tmp 5) (.tmp 5)) 28 (some 6) true
      (.loud [] [] [] none [] false (.alloc 28) 0 (some 3) true
        (.loud [] [] [(3, (.tmp 3)), (6, (.tmp 6))] none [] false (.store 28 (.tmp 3) (.tmp 6)) 0 none false
          (.fin [] [] []))))))
  (.seq
  (.reg false (.loud [7, 8] [] [(7, (.un (.loads 2) (.tmp 1))), (8, (.un (.fn 42) (.snoc (.con (.tuple #[])) (.tmp 3))))] none [] false (.call ⟨.value (.func 39), #[(.tmp 7), (.tmp 8)], #[24, 85]⟩) 0 (some 9) false
    (.fin [] [] [])))
  (.seq
  (.reg false (.fin [10, 2] [(2, (.un .load (.tmp 3)))] []))
  .ret))))⟩
theorem E.check_Uses : liftF Try.prog Try.f22 = some L.check_Uses := by kernel_rfl
theorem F.check_Uses : Try.prog.funcs[N.check_Uses]? = some Try.f22 := Try.func22

/-- jacquard/jacquardref03.Uses -/
abbrev N.ref03_Uses : Nat := 23
def L.ref03_Uses.l2 : LC :=
  (.seq
            (.seq
            (.reg false (.fin [18, 19, 20, 21, 22, 23, 24, 25] [(25, (.bin (.cmp .lss) (.tmp 6) (.un .len (.un .load (.un (.fld 3) (.bin (.idx 4) (.tmp 4) (.tmp 5)))))))] []))
            (.cond (.tmp 25) [25]
              .skip
              (.exit 2)))
            (.seq
            (.block 3
              (.seq
              (.reg false (.fin [28, 29, 30, 31, 32, 33, 34, 35, 36, 37, 38, 39, 40, 41, 42, 43, 44, 45, 46, 47, 48, 49] [(49, (.ite (.bin (.cmp .geq) (.un .load (.bin (.idx 1) (.un .load (.un (.fld 3) (.bin (.idx 4) (.tmp 4) (.tmp 5)))) (.tmp 6))) (.con (.int .i64 0))) (.bin (.cmp .lss) (.un .load (.bin (.idx 1) (.un .load (.un (.fld 3) (.bin (.idx 4) (.tmp 4) (.tmp 5)))) (.tmp 6))) (.un .len (.tmp 3))) (.con (.bool false))))] []))
              (.cond (.tmp 49) [49]
                (.reg true (.loud [50, 51, 52, 53, 54, 55, 56, 57, 58, 59, 60, 61, 62, 63, 64, 65, 66, 67, 68, 69, 70, 71] [] [(71, (.bin (.idx 1) (.tmp 3) (.un .load (.bin (.idx 1) (.un .load (.un (.fld 3) (.bin (.idx 4) (.tmp 4) (.tmp 5)))) (.tmp 6))))), (70, (.bin (.arith .add) (.un .load (.bin (.idx 1) (.tmp 3) (.un .load (.bin (.idx 1) (.un .load (.un (.fld 3) (.bin (.idx 4) (.tmp 4) (.tmp 5)))) (.tmp 6))))) (.con (.int .i64 1))))] none [] true (.store 3 (.tmp 71) (.tmp 70)) 0 none false
                  (.fin [] [] [])))
                .skip)))
            (.reg false (.fin [26, 27, 6] [(6, (.bin (.arith .add) (.tmp 6) (.con (.int .i64 1))))] []))))
def L.ref03_Uses.l1 : LC :=
  (.seq
      (.seq
      (.reg false (.fin [12, 13, 14, 15] [(15, (.bin (.cmp .lss) (.tmp 5) (.un .len (.tmp 4))))] []))
      (.cond (.tmp 15) [15]
        .skip
        (.exit 0)))
      (.seq
      (.block 1
        (.seq
        (.reg false (.fin [6] [(6, (.con (.int .i64 0)))] []))
        (.block 2
          (.loop L.ref03_Uses.l2))))
      (.reg false (.fin [16, 17, 5] [(5, (.bin (.arith .add) (.tmp 5) (.con (.int .i64 1))))] []))))
def L.ref03_Uses : LFn :=
⟨[(.tmp 2)],
  (.seq
  (.reg false (.loud [] [] [(0, (.tmp 0))] none [] false (.box 24 (.tmp 0)) 0 (some 1) true
    (.fin [2] [(2, (.con (.slice none 0 0)))] [])))
  (.seq
  (.reg false (.loud [7] [] [(7, (.un (.loads 2) (.tmp 1)))] none [] false (.call ⟨.value (.func 20), #[(.tmp 7)], #[24]⟩) 3 (some 8) true
    (.loud [] [] [(8, (.tmp 8)), (8, (.tmp 8))] none [] false (.makeSlice 28 (.tmp 8) (.tmp 8)) 28 (some 9) true
      (.fin [3] [(3, (.tmp 9))] []))))
  (.seq
  (.reg false (.loud [10] [] [(10, (.un (.loads 2) (.tmp 1)))] none [] false (.call ⟨.value (.func 41), #[(.tmp 10)], #[24]⟩) 86 (some 11) true
    (.fin [4] [(4, (.tmp 11))] [])))
  (.seq
  (.seq
  (.reg false (.fin [5] [(5, (.con (.int .i64 0)))] []))
  (.block 0
    (.loop L.ref03_Uses.l1)))
  (.seq
  (.reg false (.fin [72, 2] [(2, (.tmp 3))] []))
  .ret)))))⟩
theorem E.ref03_Uses : liftF Try.prog Try.f23 = some L.ref03_Uses := by kernel_rfl
theorem F.ref03_Uses : Try.prog.funcs[N.ref03_Uses]? = some Try.f23 := Try.func23

/-- jacquard/check.Foldable -/
abbrev N.check_Foldable : Nat := 24
def L.check_Foldable : LFn :=
⟨[(.tmp 4)],
  (.seq
  (.reg false (.loud [] [] [(0, (.tmp 0))] none [] false (.box 24 (.tmp 0)) 0 (some 2) true
    (.loud [] [] [(1, (.tmp 1))] none [] false (.box 3 (.tmp 1)) 0 (some 3) true
      (.fin [4] [(4, (.con (.bool false)))] []))))
  (.seq
  (.reg false (.loud [] [] [] none [] false (.alloc 90) 0 (some 5) true
    (.loud [] [] [] none [] false (.alloc 90) 0 (some 6) true
      (.fin [] [] []))))
  (.seq
  (.reg false (.loud [8, 9] [] [(8, (.un (.loads 2) (.tmp 2))), (9, (.un (.fn 43) (.snoc (.snoc (.snoc (.con (.tuple #[])) (.tmp 3)) (.tmp 5)) (.tmp 6))))] none [] false (.call ⟨.value (.func 39), #[(.tmp 8), (.tmp 9)], #[24, 85]⟩) 0 (some 10) false
    (.fin [] [] [])))
  (.seq
  (.seq
  (.reg true (.fin [11, 12, 13, 14, 15, 16, 17, 18, 19, 20, 21, 22, 23, 24, 25, 26, 27, 28, 29, 30, 31, 32, 33, 34, 35, 36, 37, 38, 39, 40, 41, 42, 43, 44, 45, 46, 47] [(47, (.ite (.ite (.ite (.ite (.bin (.cmp .neq) (.un .len (.un .load (.tmp 5))) (.con (.int .i64 1))) (.con (.bool true)) (.bin (.cmp .neq) (.un .len (.un .load (.tmp 6))) (.con (.int .i64 1)))) (.con (.bool true)) (.bin (.cmp .lss) (.un .load (.un (.fld 1) (.bin (.idx 2) (.un .load (.tmp 5)) (.con (.int .i64 0))))) (.con (.int .i64 0)))) (.con (.bool true)) (.bin (.cmp .neq) (.un .load (.un (.fld 0) (.bin (.idx 2) (.un .load (.tmp 5)) (.con (.int .i64 0))))) (.un .load (.un (.fld 0) (.bin (.idx 2) (.un .load (.tmp 6)) (.con (.int .i64 0))))))) (.con (.bool true)) (.bin (.cmp .leq) (.un .load (.un (.fld 1) (.bin (.idx 2) (.un .load (.tmp 6)) (.con (.int .i64 0))))) (.un .load (.un (.fld 1) (.bin (.idx 2) (.un .load (.tmp 5)) (.con (.int .i64 0))))))))] []))
  (.cond (.tmp 47) [47]
    (.seq
    (.reg false (.fin [4] [(4, (.con (.bool false)))] []))
    .ret)
    .skip))
  (.seq
  (.reg true (.loud [48, 49, 50, 51, 52, 53, 54, 55, 56, 57, 58, 59, 60, 61, 62] [(62, (.un (.loads 5) (.bin (.idx 5) (.un .load (.un (.fld 1) (.bin (.idx 6) (.un .load (.un (.fld 1) (.tmp 2))) (.un .load (.un (.fld 0) (.bin (.idx 2) (.un .load (.tmp 5)) (.con (.int .i64 0)))))))) (.un .load (.un (.fld 1) (.bin (.idx 2) (.un .load (.tmp 5)) (.con (.int .i64 0))))))))] [] none [] false (.alloc 58) 0 (some 7) true
    (.loud [] [] [(7, (.tmp 7)), (62, (.tmp 62))] none [] true (.store 58 (.tmp 7) (.tmp 62)) 0 none false
      (.fin [] [] []))))
  (.seq
  (.reg false (.loud [63, 64, 65, 66, 67] [(67, (.bin (.cmp .eql) (.un .load (.un (.fld 1) (.tmp 7))) (.un .load (.tmp 3))))] [] (some ((.bin (.cmp .eql) (.un .load (.un (.fld 1) (.tmp 7))) (.un .load (.tmp 3))), true)) [] false (.buildSlice 28 6 #[(0, (.const (.int .i64 1))), (1, (.const (.int .i64 2))), (2, (.const (.int .i64 4))), (3, (.const (.int .i64 11))), (4, (.const (.int .i64 12))), (5, (.const (.int .i64 13)))]) 28 (some 68) true
    (.loud [69, 70] [] [(68, (.tmp 68)), (70, (.gd (.tmp 67) true (.un .load (.un (.fld 0) (.tmp 7)))))] (some ((.tmp 67), true)) [] false (.call ⟨.value (.func 44), #[(.tmp 68), (.tmp 70)], #[28, 3]⟩) 4 (some 71) true
      (.fin [72, 4] [(4, (.ite (.tmp 67) (.tmp 71) (.con (.bool false))))] []))))
  .ret))))))⟩
theorem E.check_Foldable : liftF Try.prog Try.f24 = some L.check_Foldable := by kernel_rfl
theorem F.check_Foldable : Try.prog.funcs[N.check_Foldable]? = some Try.f24 := Try.func24

/-- jacquard/jacquardref03.Foldable -/
abbrev N.ref03_Foldable : Nat := 25
def L.ref03_Foldable.l1 : LC :=
  (.seq
      (.seq
      (.reg false (.fin [18, 19, 20, 21] [(21, (.bin (.cmp .lss) (.tmp 10) (.un .len (.tmp 5))))] []))
      (.cond (.tmp 21) [21]
        .skip
        (.exit 0)))
      (.seq
      (.block 1
        (.seq
        (.reg false (.loud [24, 25, 26, 27, 28, 29] [] [(28, (.un .load (.un (.fld 2) (.bin (.idx 4) (.tmp 5) (.tmp 10))))), (29, (.tmp 1))] none [] false (.call ⟨.value (.func 45), #[(.tmp 28), (.tmp 29)], #[28, 3]⟩) 3 (some 30) true
          (.fin [11] [(11, (.tmp 30))] [])))
        (.seq
        (.reg false (.loud [31, 32, 33, 34, 35, 36] [] [(35, (.un .load (.un (.fld 3) (.bin (.idx 4) (.tmp 5) (.tmp 10))))), (36, (.tmp 1))] none [] false (.call ⟨.value (.func 45), #[(.tmp 35), (.tmp 36)], #[28, 3]⟩) 3 (some 37) true
          (.fin [12] [(12, (.tmp 37))] [])))
        (.seq
        (.seq
        (.reg false (.fin [38, 39] [(39, (.bin (.cmp .gtr) (.tmp 11) (.con (.int .i64 0))))] []))
        (.cond (.tmp 39) [39]
          (.reg false (.loud [40, 41, 42, 43] [] [(8, (.tmp 8)), (43, (.un (.loads 4) (.bin (.idx 4) (.tmp 5) (.tmp 10))))] none [] false (.store 89 (.tmp 8) (.tmp 43)) 0 none false
            (.fin [] [] [])))
          .skip))
        (.seq
        (.seq
        (.reg false (.fin [44, 45] [(45, (.bin (.cmp .gtr) (.tmp 12) (.con (.int .i64 0))))] []))
        (.cond (.tmp 45) [45]
          (.reg false (.loud [46, 47, 48, 49] [] [(9, (.tmp 9)), (49, (.un (.loads 4) (.bin (.idx 4) (.tmp 5) (.tmp 10))))] none [] false (.store 89 (.tmp 9) (.tmp 49)) 0 none false
            (.fin [] [] [])))
          .skip))
        (.seq
        (.reg false (.fin [50, 51, 52, 6] [(6, (.bin (.arith .add) (.tmp 6) (.tmp 11)))] []))
        (.reg false (.fin [53, 54, 55, 7] [(7, (.bin (.arith .add) (.tmp 7) (.tmp 12)))] []))))))))
      (.reg false (.fin [22, 23, 10] [(10, (.bin (.arith .add) (.tmp 10) (.con (.int .i64 1))))] []))))
def L.ref03_Foldable : LFn :=
⟨[(.tmp 4)],
  (.seq
  (.reg false (.loud [] [] [(0, (.tmp 0))] none [] false (.box 24 (.tmp 0)) 0 (some 2) true
    (.fin [4] [(4, (.con (.bool false)))] [])))
  (.seq
  (.reg false (.loud [14] [] [(14, (.un (.loads 2) (.tmp 2)))] none [] false (.call ⟨.value (.func 41), #[(.tmp 14)], #[24]⟩) 86 (some 15) true
    (.fin [5] [(5, (.tmp 15))] [])))
  (.seq
  (.reg false (.fin [6] [(6, (.con (.int .i64 0)))] []))
  (.seq
  (.reg false (.fin [7] [(7, (.con (.int .i64 0)))] []))
  (.seq
  (.reg false (.loud [] [] [] none [] false (.build 89 #[]) 89 (some 16) true
    (.loud [] [] [] none [] false (.alloc 89) 0 (some 8) true
      (.loud [] [] [(8, (.tmp 8)), (16, (.tmp 16))] none [] false (.store 89 (.tmp 8) (.tmp 16)) 0 none false
        (.fin [] [] [])))))
  (.seq
  (.reg false (.loud [] [] [] none [] false (.build 89 #[]) 89 (some 17) true
    (.loud [] [] [] none [] false (.alloc 89) 0 (some 9) true
      (.loud [] [] [(9, (.tmp 9)), (17, (.tmp 17))] none [] false (.store 89 (.tmp 9) (.tmp 17)) 0 none false
        (.fin [] [] [])))))
  (.seq
  (.seq
  (.reg false (.fin [10] [(10, (.con (.int .i64 0)))] []))
  (.block 0
    (.loop L.ref03_Foldable.l1)))
  (.seq
  (.seq
  (.reg false (.fin [56, 57, 58, 59, 60, 61, 62, 63, 64, 65, 66, 67, 68, 69, 70, 71, 72, 73, 74, 75, 76, 77, 78, 79, 80] [(80, (.ite (.ite (.ite (.ite (.bin (.cmp .neq) (.tmp 6) (.con (.int .i64 1))) (.con (.bool true)) (.bin (.cmp .neq) (.tmp 7) (.con (.int .i64 1)))) (.con (.bool true)) (.bin (.cmp .lss) (.un .load (.un (.fld 1) (.tmp 8))) (.con (.int .i64 0)))) (.con (.bool true)) (.bin (.cmp .leq) (.un .load (.un (.fld 1) (.tmp 9))) (.un .load (.un (.fld 1) (.tmp 8))))) (.con (.bool true)) (.bin (.cmp .neq) (.un .load (.un (.fld 0) (.tmp 9))) (.un .load (.un (.fld 0) (.tmp 8))))))] []))
  (.cond (.tmp 80) [80]
    (.seq
    (.reg false (.fin [4] [(4, (.con (.bool false)))] []))
    .ret)
    .skip))
  (.seq
  (.reg true (.loud [81, 82, 83, 84, 85, 86, 87, 88, 89, 90, 91] [(91, (.un (.loads 5) (.bin (.idx 5) (.un .load (.un (.fld 1) (.bin (.idx 6) (.un .load (.un (.fld 1) (.tmp 2))) (.un .load (.un (.fld 0) (.tmp 8)))))) (.un .load (.un (.fld 1) (.tmp 8))))))] [] none [] false (.alloc 58) 0 (some 13) true
    (.loud [] [] [(13, (.tmp 13)), (91, (.tmp 91))] none [] true (.store 58 (.tmp 13) (.tmp 91)) 0 none false
      (.fin [] [] []))))
  (.seq
  (.reg false (.fin [92, 93, 94, 95, 96, 97, 98, 99, 100, 101, 102, 103, 104, 105, 106, 107, 108, 109, 110, 111, 112, 113, 114, 115, 116, 117, 118, 119, 120, 121, 122, 123, 124, 125, 4] [(4, (.ite (.bin (.cmp .eql) (.un .load (.un (.fld 1) (.tmp 13))) (.tmp 1)) (.ite (.ite (.ite (.ite (.ite (.bin (.cmp .eql) (.un .load (.un (.fld 0) (.tmp 13))) (.con (.int .i64 1))) (.con (.bool true)) (.bin (.cmp .eql) (.un .load (.un (.fld 0) (.tmp 13))) (.con (.int .i64 2)))) (.con (.bool true)) (.bin (.cmp .eql) (.un .load (.un (.fld 0) (.tmp 13))) (.con (.int .i64 4)))) (.con (.bool true)) (.bin (.cmp .eql) (.un .load (.un (.fld 0) (.tmp 13))) (.con (.int .i64 11)))) (.con (.bool true)) (.bin (.cmp .eql) (.un .load (.un (.fld 0) (.tmp 13))) (.con (.int .i64 12)))) (.con (.bool true)) (.bin (.cmp .eql) (.un .load (.un (.fld 0) (.tmp 13))) (.con (.int .i64 13)))) (.con (.bool false))))] [(.gd (.gd (.bin (.cmp .eql) (.un .load (.un (.fld 1) (.tmp 13))) (.tmp 1)) true (.ite (.ite (.ite (.ite (.bin (.cmp .eql) (.un .load (.un (.fld 0) (.tmp 13))) (.con (.int .i64 1))) (.con (.bool true)) (.bin (.cmp .eql) (.un .load (.un (.fld 0) (.tmp 13))) (.con (.int .i64 2)))) (.con (.bool true)) (.bin (.cmp .eql) (.un .load (.un (.fld 0) (.tmp 13))) (.con (.int .i64 4)))) (.con (.bool true)) (.bin (.cmp .eql) (.un .load (.un (.fld 0) (.tmp 13))) (.con (.int .i64 11)))) (.con (.bool true)) (.bin (.cmp .eql) (.un .load (.un (.fld 0) (.tmp 13))) (.con (.int .i64 12))))) false (.bin (.cmp .eql) (.un .load (.un (.fld 0) (.tmp 13))) (.con (.int .i64 13)))), (.gd (.gd (.bin (.cmp .eql) (.un .load (.un (.fld 1) (.tmp 13))) (.tmp 1)) true (.ite (.ite (.ite (.bin (.cmp .eql) (.un .load (.un (.fld 0) (.tmp 13))) (.con (.int .i64 1))) (.con (.bool true)) (.bin (.cmp .eql) (.un .load (.un (.fld 0) (.tmp 13))) (.con (.int .i64 2)))) (.con (.bool true)) (.bin (.cmp .eql) (.un .load (.un (.fld 0) (.tmp 13))) (.con (.int .i64 4)))) (.con (.bool true)) (.bin (.cmp .eql) (.un .load (.un (.fld 0) (.tmp 13))) (.con (.int .i64 11))))) false (.bin (.cmp .eql) (.un .load (.un (.fld 0) (.tmp 13))) (.con (.int .i64 12)))), (.gd (.gd (.bin (.cmp .eql) (.un .load (.un (.fld 1) (.tmp 13))) (.tmp 1)) true (.ite (.ite (.bin (.cmp .eql) (.un .load (.un (.fld 0) (.tmp 13))) (.con (.int .i64 1))) (.con (.bool true)) (.bin (.cmp .eql) (.un .load (.un (.fld 0) (.tmp 13))) (.con (.int .i64 2)))) (.con (.bool true)) (.bin (.cmp .eql) (.un .load (.un (.fld 0) (.tmp 13))) (.con (.int .i64 4))))) false (.bin (.cmp .eql) (.un .load (.un (.fld 0) (.tmp 13))) (.con (.int .i64 11)))), (.gd (.gd (.bin (.cmp .eql) (.un .load (.un (.fld 1) (.tmp 13))) (.tmp 1)) true (.ite (.bin (.cmp .eql) (.un .load (.un (.fld 0) (.tmp 13))) (.con (.int .i64 1))) (.con (.bool true)) (.bin (.cmp .eql) (.un .load (.un (.fld 0) (.tmp 13))) (.con (.int .i64 2))))) false (.bin (.cmp .eql) (.un .load (.un (.fld 0) (.tmp 13))) (.con (.int .i64 4)))), (.gd (.gd (.bin (.cmp .eql) (.un .load (.un (.fld 1) (.tmp 13))) (.tmp 1)) true (.bin (.cmp .eql) (.un .load (.un (.fld 0) (.tmp 13))) (.con (.int .i64 1)))) false (.bin (.cmp .eql) (.un .load (.un (.fld 0) (.tmp 13))) (.con (.int .i64 2))))]))
  .ret))))))))))⟩
theorem E.ref03_Foldable : liftF Try.prog Try.f25 = some L.ref03_Foldable := by kernel_rfl
theorem F.ref03_Foldable : Try.prog.funcs[N.ref03_Foldable]? = some Try.f25 := Try.func25

/-- jacquard/check.Right -/
abbrev N.check_Right : Nat := 26
def L.check_Right : LFn :=
⟨[(.tmp 2)],
  (.seq
  (.reg false (.loud [] [] [(0, (.tmp 0))] none [] false (.box 24 (.tmp 0)) 0 (some 1) true
    (.fin [2] [(2, (.con (.bool false)))] [])))
  (.seq
  (.reg false (.loud [7] [] [(7, (.un (.loads 2) (.tmp 1)))] none [] false (.call ⟨.value (.func 18), #[(.tmp 7)], #[24]⟩) 35 (some 8) true
    (.fin [6, 9, 10, 11, 3, 4, 5] [(3, (.un (.ext 0) (.tmp 8)))] [(.un (.ext 2) (.tmp 8)), (.un (.ext 1) (.tmp 8))])))
  (.seq
  (.reg false (.fin [12, 13, 2] [(2, (.bin (.cmp .eql) (.tmp 3) (.con (.int .i64 0))))] []))
  .ret)))⟩
theorem E.check_Right : liftF Try.prog Try.f26 = some L.check_Right := by kernel_rfl
theorem F.check_Right : Try.prog.funcs[N.check_Right]? = some Try.f26 := Try.func26

/-- jacquard/jacquardref03.Makes -/
abbrev N.ref03_Makes : Nat := 27
def L.ref03_Makes : LFn :=
⟨[(.tmp 2)],
  (.seq
  (.reg false (.loud [] [] [(0, (.tmp 0))] none [] false (.box 58 (.tmp 0)) 0 (some 1) true
    (.fin [2] [(2, (.con (.slice none 0 0)))] [])))
  (.seq
  (.seq
  (.reg false (.fin [3, 4] [(4, (.un .load (.un (.fld 0) (.tmp 1))))] []))
  (.block 0
    (.seq
    (.reg false (.fin [6, 5] [(5, (.bin (.cmp .eql) (.tmp 4) (.con (.int .i64 16))))] []))
    (.cond (.tmp 5) [5]
      (.seq
      (.reg false (.fin [2] [(2, (.con (.slice none 0 0)))] []))
      .ret)
      (.seq
      (.reg false (.fin [8, 7] [(7, (.bin (.cmp .eql) (.tmp 4) (.con (.int .i64 18))))] []))
      (.cond (.tmp 7) [7]
        (.seq
        (.reg false (.loud [9, 10, 11, 12] [] [(10, (.un .load (.un (.fld 1) (.tmp 1)))), (12, (.un .load (.un (.fld 2) (.tmp 1))))] none [] false (.buildSlice 28 2 #[(0, (.tmp 10)), (1, (.tmp 12))]) 28 (some 13) true
          (.fin [2] [(2, (.tmp 13))] [])))
        .ret)
        .skip))))))
  (.seq
  (.reg false (.loud [14, 15] [] [(15, (.un .load (.un (.fld 1) (.tmp 1))))] none [] false (.buildSlice 28 1 #[(0, (.tmp 15))]) 28 (some 16) true
    (.fin [2] [(2, (.tmp 16))] [])))
  .ret)))⟩
theorem E.ref03_Makes : liftF Try.prog Try.f27 = some L.ref03_Makes := by kernel_rfl
theorem F.ref03_Makes : Try.prog.funcs[N.ref03_Makes]? = some Try.f27 := Try.func27

/-- jacquard/jacquardlaw03.shifted -/
abbrev N.law03_shifted : Nat := 28
def L.law03_shifted.l3 : LC :=
  (.seq
                  (.seq
                  (.reg false (.fin [49, 50, 51, 52, 53, 54, 55, 56, 57] [(57, (.bin (.cmp .lss) (.tmp 9) (.un .len (.un .load (.un (.fld 1) (.bin (.idx 2) (.un .load (.un (.fld 0) (.tmp 7))) (.tmp 8)))))))] []))
                  (.cond (.tmp 57) [57]
                    .skip
                    (.exit 4)))
                  (.seq
                  (.block 5
                    (.reg true (.loud [60, 61, 62, 63, 64, 65, 66, 67, 68, 69, 70, 71, 72, 73, 74, 75, 76, 77, 78, 79] [(65, (.un .load (.un (.fld 1) (.bin (.idx 2) (.un .load (.un (.fld 0) (.tmp 7))) (.tmp 8))))), (66, (.tmp 9))] [(76, (.un .load (.un (.fld 1) (.bin (.idx 2) (.un .load (.un (.fld 1) (.bin (.idx 2) (.un .load (.un (.fld 0) (.tmp 7))) (.tmp 8)))) (.tmp 9))))), (78, (.un .load (.un (.fld 0) (.tmp 2)))), (79, (.tmp 1))] none [] false (.call ⟨.value (.func 46), #[(.tmp 76), (.tmp 78), (.tmp 79)], #[3, 3, 3]⟩) 3 (some 80) true
                      (.loud [81, 82] [] [(82, (.un (.fld 1) (.bin (.idx 2) (.tmp 65) (.tmp 66)))), (80, (.tmp 80))] none [] true (.store 3 (.tmp 82) (.tmp 80)) 0 none false
                        (.fin [] [] [])))))
                  (.reg false (.fin [58, 59, 9] [(9, (.bin (.arith .add) (.tmp 9) (.con (.int .i64 1))))] []))))
def L.law03_shifted.l2 : LC :=
  (.seq
            (.seq
            (.reg false (.fin [27, 28, 29, 30, 31] [(31, (.bin (.cmp .lss) (.tmp 8) (.un .len (.un .load (.un (.fld 0) (.tmp 7))))))] []))
            (.cond (.tmp 31) [31]
              .skip
              (.exit 2)))
            (.seq
            (.block 3
              (.seq
              (.reg true (.loud [34, 35, 36, 37, 38, 39, 40, 41, 42, 43, 44, 45] [(35, (.un .load (.un (.fld 0) (.tmp 7)))), (36, (.tmp 8))] [(42, (.un .load (.un (.fld 0) (.bin (.idx 2) (.un .load (.un (.fld 0) (.tmp 7))) (.tmp 8))))), (44, (.un .load (.un (.fld 0) (.tmp 2)))), (45, (.tmp 1))] none [] false (.call ⟨.value (.func 46), #[(.tmp 42), (.tmp 44), (.tmp 45)], #[3, 3, 3]⟩) 3 (some 46) true
                (.loud [47, 48] [] [(48, (.un (.fld 0) (.bin (.idx 2) (.tmp 35) (.tmp 36)))), (46, (.tmp 46))] none [] true (.store 3 (.tmp 48) (.tmp 46)) 0 none false
                  (.fin [] [] []))))
              (.seq
              (.reg false (.fin [9] [(9, (.con (.int .i64 0)))] []))
              (.block 4
                (.loop L.law03_shifted.l3)))))
            (.reg false (.fin [32, 33, 8] [(8, (.bin (.arith .add) (.tmp 8) (.con (.int .i64 1))))] []))))
def L.law03_shifted.l5 : LC :=
  (.seq
                  (.seq
                  (.reg false (.fin [120, 121, 122, 123, 124, 125, 126, 127, 128] [(128, (.bin (.cmp .lss) (.tmp 11) (.un .len (.un .load (.un (.fld 3) (.bin (.idx 5) (.un .load (.un (.fld 1) (.tmp 7))) (.tmp 10)))))))] []))
                  (.cond (.tmp 128) [128]
                    .skip
                    (.exit 8)))
                  (.seq
                  (.block 9
                    (.reg true (.loud [131, 132, 133, 134, 135, 136, 137, 138, 139, 140, 141, 142, 143, 144, 145, 146, 147, 148, 149] [(136, (.un .load (.un (.fld 3) (.bin (.idx 5) (.un .load (.un (.fld 1) (.tmp 7))) (.tmp 10))))), (137, (.tmp 11))] [(146, (.un .load (.bin (.idx 1) (.un .load (.un (.fld 3) (.bin (.idx 5) (.un .load (.un (.fld 1) (.tmp 7))) (.tmp 10)))) (.tmp 11)))), (148, (.un .load (.un (.fld 0) (.tmp 2)))), (149, (.tmp 1))] none [] false (.call ⟨.value (.func 46), #[(.tmp 146), (.tmp 148), (.tmp 149)], #[3, 3, 3]⟩) 3 (some 150) true
                      (.loud [151] [] [(151, (.bin (.idx 1) (.tmp 136) (.tmp 137))), (150, (.tmp 150))] none [] true (.store 3 (.tmp 151) (.tmp 150)) 0 none false
                        (.fin [] [] [])))))
                  (.reg false (.fin [129, 130, 11] [(11, (.bin (.arith .add) (.tmp 11) (.con (.int .i64 1))))] []))))
def L.law03_shifted.l4 : LC :=
  (.seq
            (.seq
            (.reg false (.fin [83, 84, 85, 86, 87] [(87, (.bin (.cmp .lss) (.tmp 10) (.un .len (.un .load (.un (.fld 1) (.tmp 7))))))] []))
            (.cond (.tmp 87) [87]
              .skip
              (.exit 6)))
            (.seq
            (.block 7
              (.seq
              (.reg true (.loud [90, 91, 92, 93, 94, 95, 96, 97, 98, 99, 100, 101] [(91, (.un .load (.un (.fld 1) (.tmp 7)))), (92, (.tmp 10))] [(98, (.un .load (.un (.fld 1) (.bin (.idx 5) (.un .load (.un (.fld 1) (.tmp 7))) (.tmp 10))))), (100, (.un .load (.un (.fld 0) (.tmp 2)))), (101, (.tmp 1))] none [] false (.call ⟨.value (.func 46), #[(.tmp 98), (.tmp 100), (.tmp 101)], #[3, 3, 3]⟩) 3 (some 102) true
                (.loud [103, 104] [] [(104, (.un (.fld 1) (.bin (.idx 5) (.tmp 91) (.tmp 92)))), (102, (.tmp 102))] none [] true (.store 3 (.tmp 104) (.tmp 102)) 0 none false
                  (.fin [] [] []))))
              (.seq
              (.reg true (.loud [105, 106, 107, 108, 109, 110, 111, 112, 113, 114, 115, 116] [(106, (.un .load (.un (.fld 1) (.tmp 7)))), (107, (.tmp 10))] [(113, (.un .load (.un (.fld 2) (.bin (.idx 5) (.un .load (.un (.fld 1) (.tmp 7))) (.tmp 10))))), (115, (.un .load (.un (.fld 0) (.tmp 2)))), (116, (.tmp 1))] none [] false (.call ⟨.value (.func 46), #[(.tmp 113), (.tmp 115), (.tmp 116)], #[3, 3, 3]⟩) 3 (some 117) true
                (.loud [118, 119] [] [(119, (.un (.fld 2) (.bin (.idx 5) (.tmp 106) (.tmp 107)))), (117, (.tmp 117))] none [] true (.store 3 (.tmp 119) (.tmp 117)) 0 none false
                  (.fin [] [] []))))
              (.seq
              (.reg false (.fin [11] [(11, (.con (.int .i64 0)))] []))
              (.block 8
                (.loop L.law03_shifted.l5))))))
            (.reg false (.fin [88, 89, 10] [(10, (.bin (.arith .add) (.tmp 10) (.con (.int .i64 1))))] []))))
def L.law03_shifted.l6 : LC :=
  (.seq
            (.seq
            (.reg false (.fin [152, 153, 154, 155, 156, 157] [(157, (.bin (.cmp .lss) (.tmp 12) (.un .len (.un .load (.un (.fld 1) (.un (.fld 2) (.tmp 7)))))))] []))
            (.cond (.tmp 157) [157]
              .skip
              (.exit 10)))
            (.seq
            (.block 11
              (.reg true (.loud [160, 161, 162, 163, 164, 165, 166, 167, 168, 169, 170, 171, 172] [(162, (.un .load (.un (.fld 1) (.un (.fld 2) (.tmp 7))))), (163, (.tmp 12))] [(169, (.un .load (.bin (.idx 1) (.un .load (.un (.fld 1) (.un (.fld 2) (.tmp 7)))) (.tmp 12)))), (171, (.un .load (.un (.fld 0) (.tmp 2)))), (172, (.tmp 1))] none [] false (.call ⟨.value (.func 46), #[(.tmp 169), (.tmp 171), (.tmp 172)], #[3, 3, 3]⟩) 3 (some 173) true
                (.loud [174] [] [(174, (.bin (.idx 1) (.tmp 162) (.tmp 163))), (173, (.tmp 173))] none [] true (.store 3 (.tmp 174) (.tmp 173)) 0 none false
                  (.fin [] [] [])))))
            (.reg false (.fin [158, 159, 12] [(12, (.bin (.arith .add) (.tmp 12) (.con (.int .i64 1))))] []))))
def L.law03_shifted.l1 : LC :=
  (.seq
      (.seq
      (.reg false (.fin [15, 16, 17, 18, 19] [(19, (.bin (.cmp .lss) (.tmp 6) (.un .len (.un .load (.un (.fld 1) (.tmp 5))))))] []))
      (.cond (.tmp 19) [19]
        .skip
        (.exit 0)))
      (.seq
      (.block 1
        (.seq
        (.reg false (.loud [22, 23, 24, 25, 26] [(26, (.un (.loads 6) (.bin (.idx 6) (.un .load (.un (.fld 1) (.tmp 5))) (.tmp 6))))] [] none [] false (.alloc 51) 0 (some 7) true
          (.loud [] [] [(7, (.tmp 7)), (26, (.tmp 26))] none [] false (.store 51 (.tmp 7) (.tmp 26)) 0 none false
            (.fin [] [] []))))
        (.seq
        (.seq
        (.reg false (.fin [8] [(8, (.con (.int .i64 0)))] []))
        (.block 2
          (.loop L.law03_shifted.l2)))
        (.seq
        (.seq
        (.reg false (.fin [10] [(10, (.con (.int .i64 0)))] []))
        (.block 6
          (.loop L.law03_shifted.l4)))
        (.seq
        (.reg false (.fin [12] [(12, (.con (.int .i64 0)))] []))
        (.block 10
          (.loop L.law03_shifted.l6)))))))
      (.reg false (.fin [20, 21, 6] [(6, (.bin (.arith .add) (.tmp 6) (.con (.int .i64 1))))] []))))
def L.law03_shifted : LFn :=
⟨[(.un (.loads 2) (.tmp 4))],
  (.seq
  (.reg false (.loud [] [] [(0, (.tmp 0))] none [] false (.box 24 (.tmp 0)) 0 (some 2) true
    (.loud [] [] [] none [] false (.alloc 24) 0 (some 4) true
      (.fin [] [] []))))
  (.seq
  (.reg false (.loud [13] [] [(13, (.un (.loads 2) (.tmp 2)))] none [] false (.call ⟨.value (.func 15), #[(.tmp 13)], #[24]⟩) 24 (some 14) true
    (.loud [] [] [] none [] false (.alloc 24) 0 (some 5) true
      (.loud [] [] [(5, (.tmp 5)), (14, (.tmp 14))] none [] false (.store 24 (.tmp 5) (.tmp 14)) 0 none false
        (.fin [] [] [])))))
  (.seq
  (.seq
  (.reg false (.fin [6] [(6, (.con (.int .i64 0)))] []))
  (.block 0
    (.loop L.law03_shifted.l1)))
  (.seq
  (.reg false (.loud [175] [] [(4, (.tmp 4)), (175, (.un (.loads 2) (.tmp 5)))] none [] false (.store 24 (.tmp 4) (.tmp 175)) 0 none false
    (.fin [] [] [])))
  .ret))))⟩
theorem E.law03_shifted : liftF Try.prog Try.f28 = some L.law03_shifted := by kernel_rfl
theorem F.law03_shifted : Try.prog.funcs[N.law03_shifted]? = some Try.f28 := Try.func28

/-- jacquard/jacquardlaw03.swapped -/
abbrev N.law03_swapped : Nat := 29
def L.law03_swapped : LFn :=
⟨[(.tmp 6)],
  (.seq
  (.reg false (.fin [6] [(6, (.con (.int .i64 0)))] []))
  (.seq
  (.seq
  (.reg false (.fin [7, 8, 9] [(9, (.bin (.cmp .eql) (.tmp 0) (.tmp 1)))] []))
  (.cond (.tmp 9) [9]
    (.seq
    (.reg false (.fin [10, 6] [(6, (.tmp 2))] []))
    .ret)
    .skip))
  (.seq
  (.seq
  (.reg false (.fin [11, 12, 13] [(13, (.bin (.cmp .eql) (.tmp 0) (.tmp 2)))] []))
  (.cond (.tmp 13) [13]
    (.seq
    (.reg false (.fin [14, 6] [(6, (.tmp 1))] []))
    .ret)
    .skip))
  (.seq
  (.reg false (.fin [15, 6] [(6, (.tmp 0))] []))
  .ret))))⟩
theorem E.law03_swapped : liftF Try.prog Try.f29 = some L.law03_swapped := by kernel_rfl
theorem F.law03_swapped : Try.prog.funcs[N.law03_swapped]? = some Try.f29 := Try.func29

/-- jacquard/jacquardlaw03.one -/
abbrev N.law03_one : Nat := 30
def L.law03_one : LFn :=
⟨[(.un (.loads 2) (.tmp 6))],
  (.seq
  (.reg false (.loud [] [] [(2, (.tmp 2))] none [] false (.box 49 (.tmp 2)) 0 (some 5) true
    (.loud [] [] [] none [] false (.alloc 24) 0 (some 6) true
      (.fin [] [] []))))
  (.seq
  (.reg false (.loud [7, 8, 9] [(7, (.tmp 0))] [(8, (.tmp 1)), (9, (.un (.loads 4) (.tmp 5)))] none [] false (.build 51 #[(1, (.tmp 8)), (2, (.tmp 9))]) 51 (some 10) true
    (.loud [] [] [(10, (.tmp 10))] none [] false (.buildSlice 22 1 #[(0, (.tmp 10))]) 22 (some 11) true
      (.loud [] [] [(7, (.tmp 7)), (11, (.tmp 11))] none [] false (.build 24 #[(0, (.tmp 7)), (1, (.tmp 11))]) 24 (some 12) true
        (.loud [] [] [(6, (.tmp 6)), (12, (.tmp 12))] none [] false (.store 24 (.tmp 6) (.tmp 12)) 0 none false
          (.fin [] [] []))))))
  .ret))⟩
theorem E.law03_one : liftF Try.prog Try.f30 = some L.law03_one := by kernel_rfl
theorem F.law03_one : Try.prog.funcs[N.law03_one]? = some Try.f30 := Try.func30

/-- jacquard/jacquardref03.Func -/
abbrev N.ref03_Func : Nat := 31
def L.ref03_Func.l1 : LC :=
  (.seq
      (.seq
      (.reg false (.fin [38, 39, 40, 41, 42] [(42, (.bin (.cmp .lss) (.tmp 4) (.un .len (.un .load (.un (.fld 1) (.tmp 1))))))] []))
      (.cond (.tmp 42) [42]
        .skip
        (.exit 0)))
      (.seq
      (.block 1
        (.reg true (.fin [45, 46, 47, 48, 49, 50, 51, 52, 53, 54, 55, 56, 57, 58, 59, 60, 61, 3] [(3, (.bin (.arith .add) (.bin (.arith .add) (.tmp 3) (.un .len (.un .load (.un (.fld 0) (.bin (.idx 6) (.un .load (.un (.fld 1) (.tmp 1))) (.tmp 4)))))) (.un .len (.un .load (.un (.fld 1) (.bin (.idx 6) (.un .load (.un (.fld 1) (.tmp 1))) (.tmp 4)))))))] [])))
      (.reg false (.fin [43, 44, 4] [(4, (.bin (.arith .add) (.tmp 4) (.con (.int .i64 1))))] []))))
def L.ref03_Func.l2 : LC :=
  (.seq
      (.seq
      (.reg false (.fin [80, 81, 82, 83, 84] [(84, (.bin (.cmp .lss) (.tmp 8) (.un .len (.un .load (.un (.fld 1) (.tmp 1))))))] []))
      (.cond (.tmp 84) [84]
        .skip
        (.exit 2)))
      (.seq
      (.block 3
        (.seq
        (.reg false (.fin [87, 88, 89, 90, 91] [(91, (.un .not (.un .load (.bin (.idx 1) (.tmp 6) (.tmp 8)))))] []))
        (.cond (.tmp 91) [91]
          (.seq
          (.reg false (.loud [92] [] [(92, (.tmp 8))] none [] false (.build 70 #[(0, (.const (.int .i64 15))), (1, (.tmp 92))]) 70 (some 93) true
            (.loud [] [] [(2, (.tmp 2)), (93, (.tmp 93))] none [] false (.store 70 (.tmp 2) (.tmp 93)) 0 none false
              (.fin [] [] []))))
          .ret)
          .skip)))
      (.reg false (.fin [85, 86, 8] [(8, (.bin (.arith .add) (.tmp 8) (.con (.int .i64 1))))] []))))
def L.ref03_Func.l3 : LC :=
  (.seq
      (.seq
      (.reg false (.fin [94, 95, 96, 97, 98] [(98, (.bin (.cmp .lss) (.tmp 9) (.un .len (.un .load (.un (.fld 1) (.tmp 1))))))] []))
      (.cond (.tmp 98) [98]
        .skip
        (.exit 4)))
      (.seq
      (.block 5
        (.reg false (.loud [101, 102, 103] [(101, (.tmp 7))] [(102, (.un (.loads 2) (.tmp 1))), (103, (.tmp 9))] none [] false (.call ⟨.value (.func 48), #[(.tmp 102), (.tmp 103)], #[24, 3]⟩) 45 (some 104) true
          (.loud [] [] [(104, (.tmp 104))] none [] false (.buildSlice 95 1 #[(0, (.tmp 104))]) 95 (some 105) true
            (.loud [] [] [(101, (.tmp 101)), (105, (.tmp 105))] none [] false (.call ⟨.builtin .append, #[(.tmp 101), (.tmp 105)], #[95, 95]⟩) 95 (some 106) true
              (.fin [7] [(7, (.tmp 106))] []))))))
      (.reg false (.fin [99, 100, 9] [(9, (.bin (.arith .add) (.tmp 9) (.con (.int .i64 1))))] []))))
def L.ref03_Func.l5 : LC :=
  (.seq
              (.seq
              (.reg false (.fin [130, 131, 132, 133, 134] [(134, (.bin (.cmp .lss) (.tmp 15) (.un .len (.un .load (.un (.fld 3) (.tmp 13))))))] []))
              (.cond (.tmp 134) [134]
                .skip
                (.exit 8)))
              (.seq
              (.block 9
                (.seq
                (.reg true (.loud [137, 138, 139, 140, 141, 142, 143, 144, 145, 146, 147, 148] [] [(137, (.un (.loads 2) (.tmp 1))), (138, (.tmp 11)), (139, (.tmp 7)), (144, (.un .load (.bin (.idx 1) (.un .load (.un (.fld 3) (.tmp 13))) (.tmp 15)))), (146, (.un .load (.un (.fld 0) (.tmp 13)))), (148, (.un .load (.un (.fld 1) (.tmp 13))))] none [] true (.call ⟨.value (.func 50), #[(.tmp 137), (.tmp 138), (.tmp 139), (.tmp 144), (.tmp 146), (.tmp 148)], #[24, 86, 95, 3, 3, 3]⟩) 4 (some 149) true
                  (.fin [150] [(150, (.un .not (.tmp 149)))] [])))
                (.cond (.tmp 150) [150]
                  (.seq
                  (.reg false (.loud [151, 152, 153, 154] [] [(152, (.un .load (.un (.fld 0) (.tmp 13)))), (154, (.un .load (.un (.fld 1) (.tmp 13))))] none [] false (.build 70 #[(0, (.const (.int .i64 13))), (1, (.tmp 152)), (2, (.tmp 154))]) 70 (some 155) true
                    (.loud [] [] [(2, (.tmp 2)), (155, (.tmp 155))] none [] false (.store 70 (.tmp 2) (.tmp 155)) 0 none false
                      (.fin [] [] []))))
                  .ret)
                  .skip)))
              (.reg false (.fin [135, 136, 15] [(15, (.bin (.arith .add) (.tmp 15) (.con (.int .i64 1))))] []))))
def L.ref03_Func.l6 : LC :=
  (.seq
            (.seq
            (.reg false (.fin [178, 179, 180, 181, 182, 183, 184] [(184, (.ite (.tmp 18) (.bin (.cmp .lss) (.tmp 19) (.un .len (.tmp 17))) (.con (.bool false))))] []))
            (.cond (.tmp 184) [184]
              .skip
              (.exit 10)))
            (.seq
            (.block 11
              (.reg true (.fin [187, 188, 189, 190, 191, 192, 193, 194, 195, 196, 18] [(18, (.bin (.cmp .eql) (.un .load (.un (.fld 0) (.bin (.idx 2) (.tmp 16) (.tmp 19)))) (.un .load (.bin (.idx 1) (.tmp 17) (.tmp 19)))))] [])))
            (.reg false (.fin [185, 186, 19] [(19, (.bin (.arith .add) (.tmp 19) (.con (.int .i64 1))))] []))))
def L.ref03_Func.l7 : LC :=
  (.seq
            (.seq
            (.reg false (.fin [204, 205, 206, 207] [(207, (.bin (.cmp .lss) (.tmp 20) (.un .len (.tmp 16))))] []))
            (.cond (.tmp 207) [207]
              .skip
              (.exit 12)))
            (.seq
            (.block 13
              (.seq
              (.reg true (.loud [210, 211, 212, 213, 214, 215, 216, 217, 218, 219, 220, 221, 222, 223, 224, 225, 226, 227, 228, 229, 230, 231, 232, 233] [] [(210, (.un (.loads 2) (.tmp 1))), (211, (.tmp 11)), (212, (.tmp 7)), (217, (.un .load (.un (.fld 1) (.bin (.idx 2) (.tmp 16) (.tmp 20))))), (222, (.un .load (.un (.fld 0) (.bin (.idx 2) (.tmp 16) (.tmp 20))))), (233, (.un .len (.un .load (.un (.fld 1) (.bin (.idx 6) (.un .load (.un (.fld 1) (.tmp 1))) (.un .load (.un (.fld 0) (.bin (.idx 2) (.tmp 16) (.tmp 20)))))))))] none [] true (.call ⟨.value (.func 50), #[(.tmp 210), (.tmp 211), (.tmp 212), (.tmp 217), (.tmp 222), (.tmp 233)], #[24, 86, 95, 3, 3, 3]⟩) 4 (some 234) true
                (.fin [235] [(235, (.un .not (.tmp 234)))] [])))
              (.cond (.tmp 235) [235]
                (.seq
                (.reg false (.loud [236, 237, 238, 239] [] [(237, (.un .load (.un (.fld 0) (.tmp 13)))), (239, (.un .load (.un (.fld 1) (.tmp 13))))] none [] false (.build 70 #[(0, (.const (.int .i64 13))), (1, (.tmp 237)), (2, (.tmp 239))]) 70 (some 240) true
                  (.loud [] [] [(2, (.tmp 2)), (240, (.tmp 240))] none [] false (.store 70 (.tmp 2) (.tmp 240)) 0 none false
                    (.fin [] [] []))))
                .ret)
                .skip)))
            (.reg false (.fin [208, 209, 20] [(20, (.bin (.arith .add) (.tmp 20) (.con (.int .i64 1))))] []))))
def L.ref03_Func.l4 : LC :=
  (.seq
      (.seq
      (.reg false (.fin [111, 112, 113, 114] [(114, (.bin (.cmp .lss) (.tmp 12) (.un .len (.tmp 10))))] []))
      (.cond (.tmp 114) [114]
        .skip
        (.exit 6)))
      (.seq
      (.block 7
        (.seq
        (.reg false (.loud [117, 118, 119, 120] [(120, (.un (.loads 4) (.bin (.idx 4) (.tmp 10) (.tmp 12))))] [] none [] false (.alloc 89) 0 (some 13) true
          (.loud [] [] [(13, (.tmp 13)), (120, (.tmp 120))] none [] false (.store 89 (.tmp 13) (.tmp 120)) 0 none false
            (.fin [] [] []))))
        (.seq
        (.reg false (.loud [121, 122, 123, 124, 125, 126] [(126, (.un (.loads 6) (.bin (.idx 6) (.un .load (.un (.fld 1) (.tmp 1))) (.un .load (.un (.fld 0) (.tmp 13))))))] [] none [] false (.alloc 51) 0 (some 14) true
          (.loud [] [] [(14, (.tmp 14)), (126, (.tmp 126))] none [] false (.store 51 (.tmp 14) (.tmp 126)) 0 none false
            (.fin [] [] []))))
        (.seq
        (.seq
        (.reg false (.fin [127, 128, 129] [(129, (.bin (.cmp .geq) (.un .load (.un (.fld 1) (.tmp 13))) (.con (.int .i64 0))))] []))
        (.cond (.tmp 129) [129]
          (.seq
          (.seq
          (.reg false (.fin [15] [(15, (.con (.int .i64 0)))] []))
          (.block 8
            (.loop L.ref03_Func.l5)))
          (.exit 7))
          .skip))
        (.seq
        (.reg false (.fin [156, 157, 158, 159, 160, 161, 162, 163, 16] [(16, (.un .load (.un (.fld 1) (.bin (.idx 2) (.un .load (.un (.fld 0) (.tmp 14))) (.bin (.arith .sub) (.con (.int .i64 (-1))) (.un .load (.un (.fld 1) (.tmp 13))))))))] []))
        (.seq
        (.reg false (.loud [164, 165, 166] [] [(164, (.un (.loads 2) (.tmp 1))), (166, (.un .load (.un (.fld 0) (.tmp 13))))] none [] false (.call ⟨.value (.func 51), #[(.tmp 164), (.tmp 166)], #[24, 3]⟩) 28 (some 167) true
          (.fin [17] [(17, (.tmp 167))] [])))
        (.seq
        (.reg false (.fin [168, 169, 170, 171, 172, 173, 174, 175, 176, 177, 18] [(18, (.ite (.bin (.cmp .gtr) (.un .load (.un (.fld 0) (.tmp 13))) (.con (.int .i64 0))) (.bin (.cmp .eql) (.un .len (.tmp 16)) (.un .len (.tmp 17))) (.con (.bool false))))] []))
        (.seq
        (.seq
        (.reg false (.fin [19] [(19, (.con (.int .i64 0)))] []))
        (.block 10
          (.loop L.ref03_Func.l6)))
        (.seq
        (.seq
        (.reg false (.fin [197, 198] [(198, (.un .not (.tmp 18)))] []))
        (.cond (.tmp 198) [198]
          (.seq
          (.reg false (.loud [199, 200, 201, 202] [] [(200, (.un .load (.un (.fld 0) (.tmp 13)))), (202, (.un .load (.un (.fld 1) (.tmp 13))))] none [] false (.build 70 #[(0, (.const (.int .i64 16))), (1, (.tmp 200)), (2, (.tmp 202))]) 70 (some 203) true
            (.loud [] [] [(2, (.tmp 2)), (203, (.tmp 203))] none [] false (.store 70 (.tmp 2) (.tmp 203)) 0 none false
              (.fin [] [] []))))
          .ret)
          .skip))
        (.seq
        (.reg false (.fin [20] [(20, (.con (.int .i64 0)))] []))
        (.block 12
          (.loop L.ref03_Func.l7))))))))))))
      (.reg false (.fin [115, 116, 12] [(12, (.bin (.arith .add) (.tmp 12) (.con (.int .i64 1))))] []))))
def L.ref03_Func : LFn :=
⟨[(.un (.loads 3) (.tmp 2))],
  (.seq
  (.reg false (.loud [] [] [(0, (.tmp 0))] none [] false (.box 24 (.tmp 0)) 0 (some 1) true
    (.loud [] [] [] none [] false (.alloc 70) 0 (some 2) true
      (.fin [] [] []))))
  (.seq
  (.seq
  (.reg false (.fin [21, 22, 23, 24, 25, 26, 27, 28] [(28, (.ite (.bin (.cmp .lss) (.un .load (.un (.fld 0) (.tmp 1))) (.con (.int .i64 0))) (.con (.bool true)) (.bin (.cmp .gtr) (.un .load (.un (.fld 0) (.tmp 1))) (.con (.int .i64 4)))))] []))
  (.cond (.tmp 28) [28]
    (.seq
    (.reg false (.loud [] [] [] none [] false (.build 70 #[(0, (.const (.int .i64 1)))]) 70 (some 29) true
      (.loud [] [] [(2, (.tmp 2)), (29, (.tmp 29))] none [] false (.store 70 (.tmp 2) (.tmp 29)) 0 none false
        (.fin [] [] []))))
    .ret)
    .skip))
  (.seq
  (.seq
  (.reg false (.fin [30, 31, 32, 33] [(33, (.bin (.cmp .eql) (.un .len (.un .load (.un (.fld 1) (.tmp 1)))) (.con (.int .i64 0))))] []))
  (.cond (.tmp 33) [33]
    (.seq
    (.reg false (.loud [] [] [] none [] false (.build 70 #[(0, (.const (.int .i64 14)))]) 70 (some 34) true
      (.loud [] [] [(2, (.tmp 2)), (34, (.tmp 34))] none [] false (.store 70 (.tmp 2) (.tmp 34)) 0 none false
        (.fin [] [] []))))
    .ret)
    .skip))
  (.seq
  (.reg false (.fin [35, 36, 37, 3] [(3, (.un .len (.un .load (.un (.fld 1) (.tmp 1)))))] []))
  (.seq
  (.seq
  (.reg false (.fin [4] [(4, (.con (.int .i64 0)))] []))
  (.block 0
    (.loop L.ref03_Func.l1)))
  (.seq
  (.seq
  (.reg false (.fin [62, 63, 64, 65, 66, 67, 68, 69] [(69, (.ite (.bin (.cmp .gtr) (.un .len (.un .load (.un (.fld 1) (.tmp 1)))) (.con (.int .i64 512))) (.con (.bool true)) (.bin (.cmp .gtr) (.tmp 3) (.con (.int .i64 4096)))))] []))
  (.cond (.tmp 69) [69]
    (.seq
    (.reg false (.loud [] [] [] none [] false (.build 70 #[(0, (.const (.int .i64 2)))]) 70 (some 70) true
      (.loud [] [] [(2, (.tmp 2)), (70, (.tmp 70))] none [] false (.store 70 (.tmp 2) (.tmp 70)) 0 none false
        (.fin [] [] []))))
    .ret)
    .skip))
  (.seq
  (.reg false (.loud [71] [] [(71, (.un (.loads 2) (.tmp 1)))] none [] false (.call ⟨.value (.func 47), #[(.tmp 71)], #[24]⟩) 70 (some 72) true
    (.loud [] [] [] none [] false (.alloc 70) 0 (some 5) true
      (.loud [] [] [(5, (.tmp 5)), (72, (.tmp 72))] none [] false (.store 70 (.tmp 5) (.tmp 72)) 0 none false
        (.fin [] [] [])))))
  (.seq
  (.seq
  (.reg false (.fin [73, 74, 75] [(75, (.bin (.cmp .neq) (.un .load (.un (.fld 0) (.tmp 5))) (.con (.int .i64 0))))] []))
  (.cond (.tmp 75) [75]
    (.seq
    (.reg false (.loud [76] [] [(2, (.tmp 2)), (76, (.un (.loads 3) (.tmp 5)))] none [] false (.store 70 (.tmp 2) (.tmp 76)) 0 none false
      (.fin [] [] [])))
    .ret)
    .skip))
  (.seq
  (.reg false (.loud [77] [] [(77, (.un (.loads 2) (.tmp 1)))] none [] false (.call ⟨.value (.func 48), #[(.tmp 77), (.const (.int .i64 (-1)))], #[24, 3]⟩) 45 (some 78) true
    (.fin [6] [(6, (.tmp 78))] [])))
  (.seq
  (.reg false (.loud [] [] [] none [] false (.buildSlice 95 0 #[]) 95 (some 79) true
    (.fin [7] [(7, (.tmp 79))] [])))
  (.seq
  (.seq
  (.reg false (.fin [8] [(8, (.con (.int .i64 0)))] []))
  (.block 2
    (.loop L.ref03_Func.l2)))
  (.seq
  (.seq
  (.reg false (.fin [9] [(9, (.con (.int .i64 0)))] []))
  (.block 4
    (.loop L.ref03_Func.l3)))
  (.seq
  (.reg false (.loud [107] [] [(107, (.un (.loads 2) (.tmp 1)))] none [] false (.call ⟨.value (.func 41), #[(.tmp 107)], #[24]⟩) 86 (some 108) true
    (.fin [10] [(10, (.tmp 108))] [])))
  (.seq
  (.reg false (.loud [109] [] [(109, (.tmp 10))] none [] false (.call ⟨.value (.func 49), #[(.tmp 109)], #[86]⟩) 86 (some 110) true
    (.fin [11] [(11, (.tmp 110))] [])))
  (.seq
  (.seq
  (.reg false (.fin [12] [(12, (.con (.int .i64 0)))] []))
  (.block 6
    (.loop L.ref03_Func.l4)))
  (.seq
  (.reg false (.loud [] [] [] none [] false (.build 70 #[]) 70 (some 241) true
    (.loud [] [] [(2, (.tmp 2)), (241, (.tmp 241))] none [] false (.store 70 (.tmp 2) (.tmp 241)) 0 none false
      (.fin [] [] []))))
  .ret))))))))))))))))⟩
theorem E.ref03_Func : liftF Try.prog Try.f31 = some L.ref03_Func := by kernel_rfl
theorem F.ref03_Func : Try.prog.funcs[N.ref03_Func]? = some Try.f31 := Try.func31

end Go.Proofs.Ytfelpjfopgiabaa

