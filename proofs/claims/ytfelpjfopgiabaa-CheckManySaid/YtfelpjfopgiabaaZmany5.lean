/- A part of the proof: Ld, Le. -/
import Derived.Test.YtfelpjfopgiabaaZmany4
import Derived.Test.YtfelpjfopgiabaaProg
import Derived.KernelRfl
/- The functions of the program in the lifted language, each with the proof that the lifter makes just it. Written by program. -/
namespace Go.Proofs.Ytfelpjfopgiabaa
open Go Go.Lft
set_option maxRecDepth 100000

/-- jacquard/jacquardref03.Made -/
abbrev N.ref03_Made : Nat := 32
def L.ref03_Made.l1 : LC :=
  (.seq
      (.seq
      (.reg false (.fin [60, 61, 62] [(62, (.bin (.cmp .lss) (.tmp 6) (.tmp 4)))] []))
      (.cond (.tmp 62) [62]
        .skip
        (.exit 0)))
      (.seq
      (.block 1
        (.reg true (.loud [65, 66, 67, 68, 69, 70, 71, 72, 73, 74, 75, 76, 77] [] [(77, (.un (.fld 2) (.un (.fld 2) (.bin (.idx 6) (.un .load (.un (.fld 1) (.un (.fld 2) (.un .nilPtr (.tmp 3))))) (.tmp 6))))), (74, (.un .load (.bin (.idx 1) (.tmp 5) (.tmp 6))))] none [] true (.store 28 (.tmp 77) (.tmp 74)) 0 none false
          (.fin [] [] []))))
      (.reg false (.fin [63, 64, 6] [(6, (.bin (.arith .add) (.tmp 6) (.con (.int .i64 1))))] []))))
def L.ref03_Made.l3 : LC :=
  (.seq
            (.seq
            (.reg false (.fin [105, 106, 107, 108, 109, 110] [(110, (.bin (.cmp .lss) (.tmp 10) (.un .load (.bin (.idx 1) (.tmp 7) (.tmp 8)))))] []))
            (.cond (.tmp 110) [110]
              .skip
              (.exit 4)))
            (.seq
            (.block 5
              (.reg true (.loud [113, 114, 115, 116, 117, 118, 119, 120, 121, 122, 123, 124, 125, 126, 127, 128] [(117, (.un .load (.un (.fld 1) (.un (.fld 2) (.un .nilPtr (.tmp 3)))))), (118, (.tmp 8)), (127, (.un .load (.un (.fld 0) (.bin (.idx 6) (.un .load (.un (.fld 1) (.un (.fld 2) (.un .nilPtr (.tmp 3))))) (.tmp 8)))))] [(128, (.tmp 3))] none [] false (.call ⟨.value (.func 53), #[(.tmp 128)], #[72]⟩) 3 (some 129) true
                (.loud [] [] [(129, (.tmp 129))] none [] false (.build 54 #[(0, (.tmp 129))]) 54 (some 130) true
                  (.loud [] [] [(130, (.tmp 130))] none [] false (.buildSlice 46 1 #[(0, (.tmp 130))]) 46 (some 131) true
                    (.loud [] [] [(127, (.tmp 127)), (131, (.tmp 131))] none [] false (.call ⟨.builtin .append, #[(.tmp 127), (.tmp 131)], #[46, 46]⟩) 46 (some 132) true
                      (.loud [133, 134] [] [(134, (.un (.fld 0) (.bin (.idx 6) (.tmp 117) (.tmp 118)))), (132, (.tmp 132))] none [] true (.store 46 (.tmp 134) (.tmp 132)) 0 none false
                        (.fin [] [] []))))))))
            (.reg false (.fin [111, 112, 10] [(10, (.bin (.arith .add) (.tmp 10) (.con (.int .i64 1))))] []))))
def L.ref03_Made.l2 : LC :=
  (.seq
      (.seq
      (.reg false (.fin [80, 81, 82] [(82, (.bin (.cmp .lss) (.tmp 8) (.tmp 4)))] []))
      (.cond (.tmp 82) [82]
        .skip
        (.exit 2)))
      (.seq
      (.block 3
        (.seq
        (.reg false (.loud [85, 86, 87, 88, 89] [] [(88, (.un (.loads 2) (.un (.fld 2) (.un .nilPtr (.tmp 3))))), (89, (.tmp 8))] none [] false (.call ⟨.value (.func 51), #[(.tmp 88), (.tmp 89)], #[24, 3]⟩) 28 (some 90) true
          (.fin [9] [(9, (.tmp 90))] [])))
        (.seq
        (.seq
        (.reg false (.fin [91, 92, 93] [(93, (.bin (.cmp .gtr) (.un .len (.tmp 9)) (.con (.int .i64 1))))] []))
        (.cond (.tmp 93) [93]
          (.reg false (.loud [94, 95, 96] [(94, (.tmp 7)), (95, (.tmp 8))] [(96, (.tmp 3))] none [] false (.call ⟨.value (.func 33), #[(.tmp 96), (.const (.int .i64 4))], #[72, 3]⟩) 3 (some 97) true
            (.loud [98] [] [(98, (.bin (.idx 1) (.tmp 94) (.tmp 95))), (97, (.tmp 97))] none [] false (.store 3 (.tmp 98) (.tmp 97)) 0 none false
              (.fin [] [] []))))
          (.seq
          (.reg false (.loud [99] [] [(99, (.tmp 3))] none [] false (.call ⟨.value (.func 33), #[(.tmp 99), (.const (.int .i64 6))], #[72, 3]⟩) 3 (some 100) true
            (.fin [101] [(101, (.bin (.cmp .eql) (.tmp 100) (.con (.int .i64 0))))] [])))
          (.cond (.tmp 101) [101]
            (.reg false (.loud [102, 103, 104] [] [(104, (.bin (.idx 1) (.tmp 7) (.tmp 8)))] none [] false (.store 3 (.tmp 104) (.const (.int .i64 1))) 0 none false
              (.fin [] [] [])))
            .skip))))
        (.seq
        (.reg false (.fin [10] [(10, (.con (.int .i64 0)))] []))
        (.block 4
          (.loop L.ref03_Made.l3))))))
      (.reg false (.fin [83, 84, 8] [(8, (.bin (.arith .add) (.tmp 8) (.con (.int .i64 1))))] []))))
def L.ref03_Made.l6 : LC :=
  (.seq
                  (.seq
                  (.reg false (.fin [153, 154, 155] [(155, (.bin (.cmp .lss) (.tmp 16) (.tmp 4)))] []))
                  (.cond (.tmp 155) [155]
                    .skip
                    (.exit 10)))
                  (.seq
                  (.block 11
                    (.reg false (.loud [158, 159, 160, 161, 162, 163] [(158, (.tmp 15))] [(162, (.un (.loads 2) (.un (.fld 2) (.un .nilPtr (.tmp 3))))), (163, (.tmp 16))] none [] false (.call ⟨.value (.func 48), #[(.tmp 162), (.tmp 163)], #[24, 3]⟩) 45 (some 164) true
                      (.loud [] [] [(164, (.tmp 164))] none [] false (.buildSlice 95 1 #[(0, (.tmp 164))]) 95 (some 165) true
                        (.loud [] [] [(158, (.tmp 158)), (165, (.tmp 165))] none [] false (.call ⟨.builtin .append, #[(.tmp 158), (.tmp 165)], #[95, 95]⟩) 95 (some 166) true
                          (.fin [15] [(15, (.tmp 166))] []))))))
                  (.reg false (.fin [156, 157, 16] [(16, (.bin (.arith .add) (.tmp 16) (.con (.int .i64 1))))] []))))
def L.ref03_Made.l7 : LC :=
  (.seq
                  (.seq
                  (.reg false (.fin [167, 168, 169] [(169, (.bin (.cmp .lss) (.tmp 17) (.tmp 4)))] []))
                  (.cond (.tmp 169) [169]
                    .skip
                    (.exit 12)))
                  (.seq
                  (.block 13
                    (.reg false (.fin [172, 173, 174, 175, 176, 177, 178, 179, 180, 181, 182, 183, 184, 185, 186, 187, 188, 189, 190, 191, 192, 14] [(14, (.ite (.tmp 14) (.ite (.ite (.bin (.cmp .eql) (.tmp 17) (.tmp 13)) (.con (.bool true)) (.un .load (.bin (.idx 1) (.tmp 11) (.tmp 17)))) (.con (.bool true)) (.un .load (.bin (.idx 1) (.un .load (.bin (.idx 1) (.tmp 15) (.tmp 17))) (.tmp 13)))) (.con (.bool false))))] [(.gd (.gd (.tmp 14) true (.ite (.bin (.cmp .eql) (.tmp 17) (.tmp 13)) (.con (.bool true)) (.un .load (.bin (.idx 1) (.tmp 11) (.tmp 17))))) false (.un .load (.bin (.idx 1) (.un .load (.bin (.idx 1) (.tmp 15) (.tmp 17))) (.tmp 13)))), (.gd (.gd (.tmp 14) true (.bin (.cmp .eql) (.tmp 17) (.tmp 13))) false (.un .load (.bin (.idx 1) (.tmp 11) (.tmp 17))))])))
                  (.reg false (.fin [170, 171, 17] [(17, (.bin (.arith .add) (.tmp 17) (.con (.int .i64 1))))] []))))
def L.ref03_Made.l8 : LC :=
  (.seq
                  (.seq
                  (.reg false (.fin [202, 203, 204, 205, 206, 207, 208] [(208, (.bin (.cmp .lss) (.tmp 18) (.un .load (.un (.fld 0) (.un (.fld 2) (.un .nilPtr (.tmp 3)))))))] []))
                  (.cond (.tmp 208) [208]
                    .skip
                    (.exit 14)))
                  (.seq
                  (.block 15
                    (.reg false (.loud [211, 212, 213, 214, 215, 216] [(211, (.tmp 3)), (215, (.un .load (.un (.fld 5) (.un .nilPtr (.tmp 3)))))] [(216, (.tmp 18))] none [] false (.buildSlice 28 1 #[(0, (.tmp 216))]) 28 (some 217) true
                      (.loud [] [] [(215, (.tmp 215)), (217, (.tmp 217))] none [] false (.call ⟨.builtin .append, #[(.tmp 215), (.tmp 217)], #[28, 28]⟩) 28 (some 218) true
                        (.loud [219, 220] [] [(220, (.un (.fld 5) (.un .nilPtr (.tmp 211)))), (218, (.tmp 218))] none [] false (.store 28 (.tmp 220) (.tmp 218)) 0 none false
                          (.fin [] [] []))))))
                  (.reg false (.fin [209, 210, 18] [(18, (.bin (.arith .add) (.tmp 18) (.con (.int .i64 1))))] []))))
def L.ref03_Made.l10 : LC :=
  (.seq
                        (.seq
                        (.reg false (.fin [245, 246, 247, 248, 249, 250, 251, 252, 253, 254, 255, 256] [(256, (.bin (.cmp .lss) (.tmp 20) (.un .len (.un .load (.un (.fld 0) (.bin (.idx 6) (.un .load (.un (.fld 1) (.un (.fld 2) (.un .nilPtr (.tmp 3))))) (.tmp 19)))))))] []))
                        (.cond (.tmp 256) [256]
                          .skip
                          (.exit 18)))
                        (.seq
                        (.block 19
                          (.reg true (.loud [259, 260, 261, 262, 263, 264, 265, 266, 267, 268, 269, 270, 271, 272, 273, 274, 275, 276] [(259, (.tmp 3)), (263, (.un .load (.un (.fld 5) (.un .nilPtr (.tmp 3)))))] [(276, (.un .load (.un (.fld 0) (.bin (.idx 2) (.un .load (.un (.fld 0) (.bin (.idx 6) (.un .load (.un (.fld 1) (.un (.fld 2) (.un .nilPtr (.tmp 3))))) (.tmp 19)))) (.tmp 20)))))] none [] false (.buildSlice 28 1 #[(0, (.tmp 276))]) 28 (some 277) true
                            (.loud [] [] [(263, (.tmp 263)), (277, (.tmp 277))] none [] true (.call ⟨.builtin .append, #[(.tmp 263), (.tmp 277)], #[28, 28]⟩) 28 (some 278) true
                              (.loud [279, 280] [] [(280, (.un (.fld 5) (.un .nilPtr (.tmp 259)))), (278, (.tmp 278))] none [] false (.store 28 (.tmp 280) (.tmp 278)) 0 none false
                                (.fin [] [] []))))))
                        (.reg false (.fin [257, 258, 20] [(20, (.bin (.arith .add) (.tmp 20) (.con (.int .i64 1))))] []))))
def L.ref03_Made.l11 : LC :=
  (.seq
                        (.seq
                        (.reg false (.fin [281, 282, 283, 284, 285, 286, 287, 288, 289, 290, 291, 292] [(292, (.bin (.cmp .lss) (.tmp 21) (.un .len (.un .load (.un (.fld 1) (.bin (.idx 6) (.un .load (.un (.fld 1) (.un (.fld 2) (.un .nilPtr (.tmp 3))))) (.tmp 19)))))))] []))
                        (.cond (.tmp 292) [292]
                          .skip
                          (.exit 20)))
                        (.seq
                        (.block 21
                          (.seq
                          (.reg false (.loud [295, 296, 297, 298, 299, 300, 301, 302, 303, 304, 305, 306] [] [(306, (.un (.loads 5) (.bin (.idx 5) (.un .load (.un (.fld 1) (.bin (.idx 6) (.un .load (.un (.fld 1) (.un (.fld 2) (.un .nilPtr (.tmp 3))))) (.tmp 19)))) (.tmp 21))))] none [] false (.call ⟨.value (.func 27), #[(.tmp 306)], #[58]⟩) 28 (some 307) true
                            (.fin [22] [(22, (.tmp 307))] [])))
                          (.reg false (.loud [308, 309, 310, 311, 312, 313] [(308, (.tmp 3))] [(312, (.un .load (.un (.fld 5) (.un .nilPtr (.tmp 3))))), (313, (.tmp 22))] none [] false (.call ⟨.builtin .append, #[(.tmp 312), (.tmp 313)], #[28, 28]⟩) 28 (some 314) true
                            (.loud [315, 316] [] [(316, (.un (.fld 5) (.un .nilPtr (.tmp 308)))), (314, (.tmp 314))] none [] false (.store 28 (.tmp 316) (.tmp 314)) 0 none false
                              (.fin [] [] []))))))
                        (.reg false (.fin [293, 294, 21] [(21, (.bin (.arith .add) (.tmp 21) (.con (.int .i64 1))))] []))))
def L.ref03_Made.l9 : LC :=
  (.seq
                  (.seq
                  (.reg false (.fin [221, 222, 223] [(223, (.bin (.cmp .lss) (.tmp 19) (.tmp 4)))] []))
                  (.cond (.tmp 223) [223]
                    .skip
                    (.exit 16)))
                  (.seq
                  (.block 17
                    (.seq
                    (.seq
                    (.reg false (.fin [226, 227, 228, 229, 230, 231, 232, 233, 234, 235, 236, 237, 238, 239, 240, 241, 242, 243, 244] [(244, (.ite (.bin (.cmp .neq) (.tmp 19) (.tmp 13)) (.ite (.un .not (.un .load (.bin (.idx 1) (.tmp 11) (.tmp 19)))) (.con (.bool true)) (.un .load (.bin (.idx 1) (.un .load (.bin (.idx 1) (.tmp 15) (.tmp 19))) (.tmp 13)))) (.con (.bool false))))] [(.gd (.gd (.bin (.cmp .neq) (.tmp 19) (.tmp 13)) true (.un .not (.un .load (.bin (.idx 1) (.tmp 11) (.tmp 19))))) false (.un .load (.bin (.idx 1) (.un .load (.bin (.idx 1) (.tmp 15) (.tmp 19))) (.tmp 13))))]))
                    (.cond (.tmp 244) [244]
                      (.exit 17)
                      .skip))
                    (.seq
                    (.seq
                    (.reg false (.fin [20] [(20, (.con (.int .i64 0)))] []))
                    (.block 18
                      (.loop L.ref03_Made.l10)))
                    (.seq
                    (.reg false (.fin [21] [(21, (.con (.int .i64 0)))] []))
                    (.block 20
                      (.loop L.ref03_Made.l11))))))
                  (.reg false (.fin [224, 225, 19] [(19, (.bin (.arith .add) (.tmp 19) (.con (.int .i64 1))))] []))))
def L.ref03_Made.l12 : LC :=
  (.seq
                  (.seq
                  (.reg false (.fin [319, 320, 321] [(321, (.bin (.cmp .lss) (.tmp 24) (.tmp 23)))] []))
                  (.cond (.tmp 321) [321]
                    .skip
                    (.exit 22)))
                  (.seq
                  (.block 23
                    (.reg false (.loud [324, 325] [] [(324, (.tmp 3)), (325, (.tmp 13))] none [] false (.call ⟨.value (.func 54), #[(.tmp 324), (.tmp 325)], #[72, 3]⟩) 0 (some 326) false
                      (.fin [] [] []))))
                  (.reg false (.fin [322, 323, 24] [(24, (.bin (.arith .add) (.tmp 24) (.con (.int .i64 1))))] []))))
def L.ref03_Made.l5 : LC :=
  (.seq
            (.seq
            (.reg false (.fin [142, 143, 144] [(144, (.bin (.cmp .lss) (.tmp 13) (.tmp 4)))] []))
            (.cond (.tmp 144) [144]
              .skip
              (.exit 8)))
            (.seq
            (.block 9
              (.seq
              (.reg false (.fin [147, 148, 149, 150, 151, 14] [(14, (.un .not (.un .load (.bin (.idx 1) (.tmp 11) (.tmp 13)))))] []))
              (.seq
              (.reg false (.loud [] [] [] none [] false (.buildSlice 95 0 #[]) 95 (some 152) true
                (.fin [15] [(15, (.tmp 152))] [])))
              (.seq
              (.seq
              (.reg false (.fin [16] [(16, (.con (.int .i64 0)))] []))
              (.block 10
                (.loop L.ref03_Made.l6)))
              (.seq
              (.seq
              (.reg false (.fin [17] [(17, (.con (.int .i64 0)))] []))
              (.block 12
                (.loop L.ref03_Made.l7)))
              (.seq
              (.seq
              (.reg false (.fin [193, 194] [(194, (.un .not (.tmp 14)))] []))
              (.cond (.tmp 194) [194]
                (.exit 9)
                .skip))
              (.seq
              (.reg false (.loud [195, 196, 197] [] [(197, (.bin (.idx 1) (.tmp 11) (.tmp 13)))] none [] false (.store 4 (.tmp 197) (.const (.bool true))) 0 none false
                (.fin [] [] [])))
              (.seq
              (.reg false (.loud [198] [(198, (.tmp 3))] [] none [] false (.buildSlice 28 0 #[]) 28 (some 199) true
                (.loud [200, 201] [] [(201, (.un (.fld 5) (.un .nilPtr (.tmp 198)))), (199, (.tmp 199))] none [] false (.store 28 (.tmp 201) (.tmp 199)) 0 none false
                  (.fin [] [] []))))
              (.seq
              (.seq
              (.reg false (.fin [18] [(18, (.con (.int .i64 0)))] []))
              (.block 14
                (.loop L.ref03_Made.l8)))
              (.seq
              (.seq
              (.reg false (.fin [19] [(19, (.con (.int .i64 0)))] []))
              (.block 16
                (.loop L.ref03_Made.l9)))
              (.seq
              (.reg false (.loud [317] [] [(317, (.tmp 3))] none [] false (.call ⟨.value (.func 33), #[(.tmp 317), (.const (.int .i64 7))], #[72, 3]⟩) 3 (some 318) true
                (.fin [23] [(23, (.tmp 318))] [])))
              (.seq
              (.seq
              (.reg false (.fin [24] [(24, (.con (.int .i64 0)))] []))
              (.block 22
                (.loop L.ref03_Made.l12)))
              (.reg false (.loud [327, 328, 329, 330, 331, 332] [] [(327, (.tmp 3)), (328, (.tmp 13)), (332, (.un .load (.bin (.idx 1) (.tmp 5) (.tmp 13))))] none [] false (.call ⟨.value (.func 55), #[(.tmp 327), (.tmp 328), (.tmp 332)], #[72, 3, 28]⟩) 0 (some 333) false
                (.fin [] [] [])))))))))))))))
            (.reg false (.fin [145, 146, 13] [(13, (.bin (.arith .add) (.tmp 13) (.con (.int .i64 1))))] []))))
def L.ref03_Made.l4 : LC :=
  (.seq
      (.seq
      (.reg false (.fin [137, 138, 139] [(139, (.bin (.cmp .lss) (.tmp 12) (.tmp 4)))] []))
      (.cond (.tmp 139) [139]
        .skip
        (.exit 6)))
      (.seq
      (.block 7
        (.seq
        (.reg false (.fin [13] [(13, (.con (.int .i64 0)))] []))
        (.block 8
          (.loop L.ref03_Made.l5))))
      (.reg false (.fin [140, 141, 12] [(12, (.bin (.arith .add) (.tmp 12) (.con (.int .i64 1))))] []))))
def L.ref03_Made.l15 : LC :=
  (.seq
                  (.seq
                  (.reg false (.fin [354, 355, 356, 357] [(357, (.bin (.cmp .lss) (.tmp 29) (.un .len (.tmp 26))))] []))
                  (.cond (.tmp 357) [357]
                    .skip
                    (.exit 28)))
                  (.seq
                  (.block 29
                    (.seq
                    (.reg true (.loud [360, 361, 362, 363, 364, 365, 366, 367] [] [(363, (.un (.loads 2) (.un (.fld 2) (.un .nilPtr (.tmp 3))))), (367, (.un .load (.bin (.idx 1) (.tmp 26) (.tmp 29))))] none [] true (.call ⟨.value (.func 56), #[(.tmp 363), (.tmp 367)], #[24, 3]⟩) 28 (some 368) true
                      (.fin [30] [(30, (.tmp 368))] [])))
                    (.seq
                    (.seq
                    (.reg false (.fin [369, 370, 371] [(371, (.bin (.cmp .eql) (.un .len (.tmp 30)) (.con (.int .i64 0))))] []))
                    (.cond (.tmp 371) [371]
                      (.reg true (.loud [372, 373, 374, 375, 376, 377, 378] [(372, (.tmp 30)), (373, (.tmp 3)), (377, (.un .load (.bin (.idx 1) (.tmp 26) (.tmp 29))))] [(378, (.tmp 3))] none [] false (.call ⟨.value (.func 58), #[(.tmp 378)], #[72]⟩) 21 (some 379) true
                        (.loud [] [] [(373, (.tmp 373)), (377, (.tmp 377)), (379, (.tmp 379))] none [] true (.call ⟨.value (.func 57), #[(.tmp 373), (.tmp 377), (.tmp 379)], #[72, 3, 21]⟩) 3 (some 380) true
                          (.loud [] [] [(380, (.tmp 380))] none [] false (.buildSlice 28 1 #[(0, (.tmp 380))]) 28 (some 381) true
                            (.loud [] [] [(372, (.tmp 372)), (381, (.tmp 381))] none [] false (.call ⟨.builtin .append, #[(.tmp 372), (.tmp 381)], #[28, 28]⟩) 28 (some 382) true
                              (.fin [30] [(30, (.tmp 382))] []))))))
                      .skip))
                    (.reg true (.loud [383, 384, 385, 386, 387, 388, 389, 390, 391] [(383, (.tmp 28)), (387, (.un .load (.bin (.idx 1) (.tmp 26) (.tmp 29)))), (388, (.tmp 30))] [(389, (.tmp 3)), (391, (.un .len (.tmp 30)))] none [] false (.call ⟨.value (.func 33), #[(.tmp 389), (.tmp 391)], #[72, 3]⟩) 3 (some 392) true
                      (.loud [393, 394] [] [(387, (.tmp 387)), (394, (.un .load (.bin (.idx 1) (.tmp 388) (.tmp 392))))] none [] true (.build 56 #[(0, (.tmp 387)), (1, (.tmp 394))]) 56 (some 395) true
                        (.loud [] [] [(395, (.tmp 395))] none [] false (.buildSlice 52 1 #[(0, (.tmp 395))]) 52 (some 396) true
                          (.loud [] [] [(383, (.tmp 383)), (396, (.tmp 396))] none [] false (.call ⟨.builtin .append, #[(.tmp 383), (.tmp 396)], #[52, 52]⟩) 52 (some 397) true
                            (.fin [28] [(28, (.tmp 397))] [])))))))))
                  (.reg false (.fin [358, 359, 29] [(29, (.bin (.arith .add) (.tmp 29) (.con (.int .i64 1))))] []))))
def L.ref03_Made.l14 : LC :=
  (.seq
            (.seq
            (.reg false (.fin [345, 346, 347, 348, 349, 350] [(350, (.bin (.cmp .lss) (.tmp 27) (.un .load (.bin (.idx 1) (.tmp 7) (.tmp 25)))))] []))
            (.cond (.tmp 350) [350]
              .skip
              (.exit 26)))
            (.seq
            (.block 27
              (.seq
              (.reg false (.loud [] [] [] none [] false (.buildSlice 52 0 #[]) 52 (some 353) true
                (.fin [28] [(28, (.tmp 353))] [])))
              (.seq
              (.seq
              (.reg false (.fin [29] [(29, (.con (.int .i64 0)))] []))
              (.block 28
                (.loop L.ref03_Made.l15)))
              (.reg false (.loud [398, 399, 400, 401, 402, 403, 404, 405, 406, 407, 408, 409, 410] [] [(410, (.un (.fld 1) (.bin (.idx 2) (.un .load (.un (.fld 0) (.bin (.idx 6) (.un .load (.un (.fld 1) (.un (.fld 2) (.un .nilPtr (.tmp 3))))) (.tmp 25)))) (.tmp 27)))), (408, (.tmp 28))] none [] false (.store 52 (.tmp 410) (.tmp 408)) 0 none false
                (.fin [] [] []))))))
            (.reg false (.fin [351, 352, 27] [(27, (.bin (.arith .add) (.tmp 27) (.con (.int .i64 1))))] []))))
def L.ref03_Made.l13 : LC :=
  (.seq
      (.seq
      (.reg false (.fin [334, 335, 336] [(336, (.bin (.cmp .lss) (.tmp 25) (.tmp 4)))] []))
      (.cond (.tmp 336) [336]
        .skip
        (.exit 24)))
      (.seq
      (.block 25
        (.seq
        (.reg false (.loud [339, 340, 341, 342, 343] [] [(342, (.un (.loads 2) (.un (.fld 2) (.un .nilPtr (.tmp 3))))), (343, (.tmp 25))] none [] false (.call ⟨.value (.func 51), #[(.tmp 342), (.tmp 343)], #[24, 3]⟩) 28 (some 344) true
          (.fin [26] [(26, (.tmp 344))] [])))
        (.seq
        (.reg false (.fin [27] [(27, (.con (.int .i64 0)))] []))
        (.block 26
          (.loop L.ref03_Made.l14)))))
      (.reg false (.fin [337, 338, 25] [(25, (.bin (.arith .add) (.tmp 25) (.con (.int .i64 1))))] []))))
def L.ref03_Made : LFn :=
⟨[(.un (.loads 2) (.tmp 2))],
  (.seq
  (.reg false (.loud [] [] [] none [] false (.alloc 24) 0 (some 2) true
    (.fin [] [] [])))
  (.seq
  (.reg false (.loud [31] [] [(31, (.tmp 0))] none [] false (.build 74 #[(0, (.tmp 31))]) 74 (some 32) true
    (.loud [] [] [(32, (.tmp 32))] none [] false (.box 74 (.tmp 32)) 72 (some 33) true
      (.fin [3] [(3, (.tmp 33))] []))))
  (.seq
  (.reg false (.loud [34, 35] [(34, (.tmp 3))] [(35, (.tmp 3))] none [] false (.call ⟨.value (.func 33), #[(.tmp 35), (.const (.int .i64 5))], #[72, 3]⟩) 3 (some 36) true
    (.loud [37, 38, 39] [] [(39, (.un (.fld 0) (.un (.fld 2) (.un .nilPtr (.tmp 34))))), (36, (.tmp 36))] none [] false (.store 3 (.tmp 39) (.tmp 36)) 0 none false
      (.fin [] [] []))))
  (.seq
  (.reg false (.loud [40, 41, 42, 43, 44, 45, 46, 47] [] [(47, (.un (.fld 4) (.un .nilPtr (.tmp 3)))), (45, (.un .load (.un (.fld 0) (.un (.fld 2) (.un .nilPtr (.tmp 3))))))] none [] false (.store 3 (.tmp 47) (.tmp 45)) 0 none false
    (.fin [] [] [])))
  (.seq
  (.reg false (.loud [48] [] [(48, (.tmp 3))] none [] false (.call ⟨.value (.func 33), #[(.tmp 48), (.const (.int .i64 9))], #[72, 3]⟩) 3 (some 49) true
    (.fin [50, 4] [(4, (.bin (.arith .add) (.con (.int .i64 1)) (.tmp 49)))] [])))
  (.seq
  (.reg false (.loud [51, 52] [] [(51, (.tmp 3)), (52, (.tmp 4))] none [] false (.call ⟨.value (.func 52), #[(.tmp 51), (.tmp 52)], #[72, 3]⟩) 99 (some 53) true
    (.fin [5] [(5, (.tmp 53))] [])))
  (.seq
  (.reg false (.loud [54, 55] [(54, (.tmp 3))] [(55, (.tmp 4)), (55, (.tmp 4))] none [] false (.makeSlice 22 (.tmp 55) (.tmp 55)) 22 (some 56) true
    (.loud [57, 58, 59] [] [(59, (.un (.fld 1) (.un (.fld 2) (.un .nilPtr (.tmp 54))))), (56, (.tmp 56))] none [] false (.store 22 (.tmp 59) (.tmp 56)) 0 none false
      (.fin [] [] []))))
  (.seq
  (.seq
  (.reg false (.fin [6] [(6, (.con (.int .i64 0)))] []))
  (.block 0
    (.loop L.ref03_Made.l1)))
  (.seq
  (.reg false (.loud [78] [] [(78, (.tmp 4)), (78, (.tmp 4))] none [] false (.makeSlice 28 (.tmp 78) (.tmp 78)) 28 (some 79) true
    (.fin [7] [(7, (.tmp 79))] [])))
  (.seq
  (.seq
  (.reg false (.fin [8] [(8, (.con (.int .i64 1)))] []))
  (.block 2
    (.loop L.ref03_Made.l2)))
  (.seq
  (.reg false (.loud [135] [] [(135, (.tmp 4)), (135, (.tmp 4))] none [] false (.makeSlice 45 (.tmp 135) (.tmp 135)) 45 (some 136) true
    (.fin [11] [(11, (.tmp 136))] [])))
  (.seq
  (.seq
  (.reg false (.fin [12] [(12, (.con (.int .i64 0)))] []))
  (.block 6
    (.loop L.ref03_Made.l4)))
  (.seq
  (.seq
  (.reg false (.fin [25] [(25, (.con (.int .i64 1)))] []))
  (.block 24
    (.loop L.ref03_Made.l13)))
  (.seq
  (.reg false (.loud [411, 412, 413, 414] [] [(2, (.tmp 2)), (414, (.un (.loads 2) (.un (.fld 2) (.un .nilPtr (.tmp 3)))))] none [] false (.store 24 (.tmp 2) (.tmp 414)) 0 none false
    (.fin [] [] [])))
  .ret))))))))))))))⟩
theorem E.ref03_Made : liftF Try.prog Try.f32 = some L.ref03_Made := by kernel_rfl
theorem F.ref03_Made : Try.prog.funcs[N.ref03_Made]? = some Try.f32 := Try.func32

/-- (*jacquard/jacquardref03.maker).take -/
abbrev N.ref03_maker_take : Nat := 33
def L.ref03_maker_take : LFn :=
⟨[(.tmp 4)],
  (.seq
  (.reg false (.fin [4] [(4, (.con (.int .i64 0)))] []))
  (.seq
  (.reg false (.fin [5] [(5, (.con (.int .i64 0)))] []))
  (.seq
  (.seq
  (.reg true (.fin [6, 7, 8, 9, 10, 11, 12, 13, 14, 15] [(15, (.bin (.cmp .lss) (.un .load (.un (.fld 1) (.un .nilPtr (.tmp 0)))) (.un .len (.un .load (.un (.fld 0) (.un .nilPtr (.tmp 0)))))))] []))
  (.cond (.tmp 15) [15]
    (.reg true (.fin [16, 17, 18, 19, 20, 21, 22, 23, 24, 25, 5] [(5, (.un .load (.bin (.idx 1) (.un .load (.un (.fld 0) (.un .nilPtr (.tmp 0)))) (.un .load (.un (.fld 1) (.un .nilPtr (.tmp 0)))))))] []))
    .skip))
  (.seq
  (.reg false (.loud [26, 27, 28, 29, 30, 31, 32, 33] [] [(33, (.un (.fld 1) (.un .nilPtr (.tmp 0)))), (31, (.bin (.arith .add) (.un .load (.un (.fld 1) (.un .nilPtr (.tmp 0)))) (.con (.int .i64 1))))] none [] false (.store 3 (.tmp 33) (.tmp 31)) 0 none false
    (.fin [] [] [])))
  (.seq
  (.reg false (.fin [34, 35, 36, 37, 38, 39, 40, 4] [(4, (.bin (.div .rem) (.bin (.arith .add) (.bin (.div .rem) (.tmp 5) (.tmp 1)) (.tmp 1)) (.tmp 1)))] []))
  .ret)))))⟩
theorem E.ref03_maker_take : liftF Try.prog Try.f33 = some L.ref03_maker_take := by kernel_rfl
theorem F.ref03_maker_take : Try.prog.funcs[N.ref03_maker_take]? = some Try.f33 := Try.func33

/-- jacquard/check.Func$1 -/
abbrev N.check_Func_1 : Nat := 34
def L.check_Func_1 : LFn :=
⟨[],
  (.seq
  (.reg false (.loud [] [] [] none [] false (.call ⟨.builtin .recover, #[], #[]⟩) 20 (some 6) true
    (.fin [] [] [])))
  (.block 0
    (.seq
    (.reg false (.loud [] [] [(6, (.tmp 6))] none [] false (.binOp .eql 20 (.tmp 6) (.const .nilIface) 20) 4 (some 8) true
      (.fin [] [] [])))
    (.cond (.tmp 8) [8]
      (.reg false (.fin [3] [] [(.tmp 6)]))
      (.seq
      (.reg false (.loud [] [] [(6, (.tmp 6))] none [] false (.typeAssert (.tmp 6) 20 77 true) 0 (some 9) true
        (.fin [10, 11] [(10, (.un (.ext 1) (.tmp 9))), (11, (.un (.ext 0) (.tmp 9)))] [])))
      (.cond (.tmp 10) [10]
        (.seq
        (.reg false (.loud [] [] [] none [] false (.alloc 77) 0 (some 4) true
          (.loud [] [] [(4, (.tmp 4)), (11, (.tmp 11))] none [] false (.store 77 (.tmp 4) (.tmp 11)) 0 none false
            (.fin [] [] []))))
        (.reg true (.loud [12, 13, 14, 15, 16, 17] [(15, (.un .load (.un (.fld 1) (.tmp 4)))), (17, (.un .load (.un (.fld 2) (.tmp 4))))] [(0, (.tmp 0)), (13, (.un .load (.un (.fld 0) (.tmp 4))))] none [] false (.store 34 (.tmp 0) (.tmp 13)) 0 none false
          (.loud [] [] [(1, (.tmp 1)), (15, (.tmp 15))] none [] false (.store 3 (.tmp 1) (.tmp 15)) 0 none false
            (.loud [] [] [(2, (.tmp 2)), (17, (.tmp 17))] none [] true (.store 3 (.tmp 2) (.tmp 17)) 0 none false
              (.fin [] [] []))))))
        (.seq
        (.reg false (.fin [5] [(5, (.tmp 6))] []))
        (.reg false (.loud [7] [] [(7, (.tmp 5))] none [] false (.panic (.tmp 7)) 0 none false
          (.fin [] [] []))))))))))⟩
theorem E.check_Func_1 : liftF Try.prog Try.f34 = some L.check_Func_1 := by kernel_rfl
theorem F.check_Func_1 : Try.prog.funcs[N.check_Func_1]? = some Try.f34 := Try.func34
theorem Q.check_Func_1 : Try.f34.body = some (.seq (.region (regId (partC0 Try.f34)) #[partO0 Try.f34 0] false) (partT Try.f34)) := by kernel_rfl
theorem E.check_Func_1_t : liftC Try.prog Try.f34.ntmps (liveA Try.f34) (liveB Try.f34) false (partT Try.f34) = some L.check_Func_1.body.tail := by kernel_rfl

/-- jacquard/check.must -/
abbrev N.check_must : Nat := 35
def L.check_must : LFn :=
⟨[],
  (.seq
  (.reg false (.fin [8, 9] [(9, (.un .not (.tmp 0)))] []))
  (.cond (.tmp 9) [9]
    (.reg false (.loud [10, 11, 12] [] [(10, (.tmp 1)), (11, (.tmp 2)), (12, (.tmp 3))] none [] false (.build 77 #[(0, (.tmp 10)), (1, (.tmp 11)), (2, (.tmp 12))]) 77 (some 13) true
      (.loud [] [] [(13, (.tmp 13))] none [] false (.makeInterface 77 (.tmp 13)) 20 (some 14) true
        (.loud [] [] [(14, (.tmp 14))] none [] false (.panic (.tmp 14)) 0 none false
          (.fin [] [] [])))))
    .skip))⟩
theorem E.check_must : liftF Try.prog Try.f35 = some L.check_must := by kernel_rfl
theorem F.check_must : Try.prog.funcs[N.check_must]? = some Try.f35 := Try.func35

/-- jacquard/check.within -/
abbrev N.check_within : Nat := 36
def L.check_within : LFn :=
⟨[(.tmp 6)],
  (.seq
  (.reg false (.fin [6] [(6, (.con (.bool false)))] []))
  (.seq
  (.reg false (.fin [7, 8, 9, 10, 11, 12, 13, 14, 6] [(6, (.ite (.bin (.cmp .geq) (.tmp 0) (.tmp 1)) (.bin (.cmp .leq) (.tmp 0) (.tmp 2)) (.con (.bool false))))] []))
  .ret))⟩
theorem E.check_within : liftF Try.prog Try.f36 = some L.check_within := by kernel_rfl
theorem F.check_within : Try.prog.funcs[N.check_within]? = some Try.f36 := Try.func36

/-- (*jacquard/check.looker).shape -/
abbrev N.check_looker_shape : Nat := 37
def L.check_looker_shape.l2 : LC :=
  (.seq
            (.reg false (.fin [29] [(29, (.bin (.cmp .lss) (.tmp 28) (.tmp 27)))] []))
            (.seq
            (.cond (.tmp 29) [29]
              .skip
              (.exit 2))
            (.seq
            (.block 3
              (.seq
              (.reg false (.loud [30, 31, 32] [(30, (.tmp 28)), (32, (.un (.loads 2) (.bin (.idx 2) (.tmp 26) (.tmp 28))))] [] none [] false (.alloc 54) 0 (some 5) true
                (.loud [4] [(4, (.tmp 30))] [(5, (.tmp 5)), (32, (.tmp 32))] none [] false (.store 54 (.tmp 5) (.tmp 32)) 0 none false
                  (.fin [] [] []))))
              (.reg false (.loud [33, 34, 35] [(33, (.tmp 0))] [(35, (.un .load (.un (.fld 0) (.tmp 5))))] none [] false (.buildSlice 28 1 #[(0, (.tmp 35))]) 28 (some 36) true
                (.loud [37, 38, 39] [] [(33, (.tmp 33)), (36, (.tmp 36)), (37, (.tmp 2)), (39, (.bin (.arith .sub) (.con (.int .i64 (-1))) (.tmp 4)))] none [] false (.call ⟨.value (.func 59), #[(.tmp 33), (.tmp 36), (.tmp 37), (.tmp 39)], #[80, 28, 3, 3]⟩) 0 (some 40) false
                  (.fin [] [] []))))))
            (.reg false (.fin [41, 28] [(28, (.bin (.arith .add) (.tmp 28) (.con (.int .i64 1))))] [])))))
def L.check_looker_shape.l3 : LC :=
  (.seq
            (.reg false (.fin [46] [(46, (.bin (.cmp .lss) (.tmp 45) (.tmp 44)))] []))
            (.seq
            (.cond (.tmp 46) [46]
              .skip
              (.exit 4))
            (.seq
            (.block 5
              (.seq
              (.reg false (.loud [47, 48, 49] [(47, (.tmp 45)), (49, (.un (.loads 5) (.bin (.idx 5) (.tmp 43) (.tmp 45))))] [] none [] false (.alloc 58) 0 (some 7) true
                (.loud [6] [(6, (.tmp 47))] [(7, (.tmp 7)), (49, (.tmp 49))] none [] false (.store 58 (.tmp 7) (.tmp 49)) 0 none false
                  (.fin [] [] []))))
              (.seq
              (.reg false (.loud [50, 51] [] [(51, (.un .load (.un (.fld 0) (.tmp 7))))] none [] false (.call ⟨.value (.func 36), #[(.tmp 51), (.const (.int .i64 1)), (.const (.int .i64 18))], #[3, 3, 3]⟩) 4 (some 52) true
                (.loud [53, 54] [] [(52, (.tmp 52)), (53, (.tmp 2)), (54, (.tmp 6))] none [] false (.call ⟨.value (.func 35), #[(.tmp 52), (.const (.int .i64 10)), (.tmp 53), (.tmp 54)], #[4, 34, 3, 3]⟩) 0 (some 55) false
                  (.fin [] [] []))))
              (.seq
              (.reg false (.loud [57, 58] [] [(58, (.un .load (.un (.fld 0) (.tmp 7))))] none [] false (.call ⟨.value (.func 60), #[(.tmp 58)], #[3]⟩) 107 (some 59) true
                (.fin [56, 60, 61, 8, 9] [(8, (.un (.ext 0) (.tmp 59))), (9, (.un (.ext 1) (.tmp 59)))] [])))
              (.seq
              (.reg false (.loud [62, 63, 64, 65, 66] [] [(64, (.un .len (.un .load (.un (.fld 3) (.tmp 7))))), (65, (.tmp 8)), (66, (.tmp 9))] none [] false (.call ⟨.value (.func 36), #[(.tmp 64), (.tmp 65), (.tmp 66)], #[3, 3, 3]⟩) 4 (some 67) true
                (.loud [68, 69] [] [(67, (.tmp 67)), (68, (.tmp 2)), (69, (.tmp 6))] none [] false (.call ⟨.value (.func 35), #[(.tmp 67), (.const (.int .i64 10)), (.tmp 68), (.tmp 69)], #[4, 34, 3, 3]⟩) 0 (some 70) false
                  (.fin [] [] []))))
              (.reg false (.loud [71, 72] [(71, (.tmp 0))] [(72, (.un (.loads 5) (.tmp 7)))] none [] false (.call ⟨.value (.func 61), #[(.tmp 72)], #[58]⟩) 28 (some 73) true
                (.loud [74, 75] [] [(71, (.tmp 71)), (73, (.tmp 73)), (74, (.tmp 2)), (75, (.tmp 6))] none [] false (.call ⟨.value (.func 59), #[(.tmp 71), (.tmp 73), (.tmp 74), (.tmp 75)], #[80, 28, 3, 3]⟩) 0 (some 76) false
                  (.fin [] [] [])))))))))
            (.reg false (.fin [77, 45] [(45, (.bin (.arith .add) (.tmp 45) (.con (.int .i64 1))))] [])))))
def L.check_looker_shape.l4 : LC :=
  (.seq
            (.reg false (.fin [119] [(119, (.bin (.cmp .lss) (.tmp 118) (.tmp 117)))] []))
            (.seq
            (.cond (.tmp 119) [119]
              .skip
              (.exit 6))
            (.seq
            (.block 7
              (.seq
              (.reg false (.fin [120, 121, 13] [(13, (.un .load (.bin (.idx 1) (.tmp 116) (.tmp 118))))] []))
              (.reg true (.loud [122, 123, 124, 125, 126, 127, 128, 129, 131, 132, 133, 134] [(131, (.tmp 2)), (134, (.un .len (.un .load (.un (.fld 1) (.tmp 3)))))] [(122, (.tmp 13)), (129, (.bin (.arith .sub) (.un .len (.un .load (.un (.fld 1) (.un (.fld 0) (.un .nilPtr (.tmp 0)))))) (.con (.int .i64 1))))] none [] false (.call ⟨.value (.func 36), #[(.tmp 122), (.const (.int .i64 1)), (.tmp 129)], #[3, 3, 3]⟩) 4 (some 130) true
                (.loud [] [] [(130, (.tmp 130)), (131, (.tmp 131)), (134, (.tmp 134))] none [] true (.call ⟨.value (.func 35), #[(.tmp 130), (.const (.int .i64 14)), (.tmp 131), (.tmp 134)], #[4, 34, 3, 3]⟩) 0 (some 135) false
                  (.fin [] [] []))))))
            (.reg false (.fin [136, 118] [(118, (.bin (.arith .add) (.tmp 118) (.con (.int .i64 1))))] [])))))
def L.check_looker_shape.l1 : LC :=
  (.seq
      (.reg false (.fin [21] [(21, (.bin (.cmp .lss) (.tmp 20) (.tmp 19)))] []))
      (.seq
      (.cond (.tmp 21) [21]
        .skip
        (.exit 0))
      (.seq
      (.block 1
        (.seq
        (.reg false (.loud [22, 23, 24] [(22, (.tmp 20)), (24, (.un (.loads 6) (.bin (.idx 6) (.tmp 18) (.tmp 20))))] [] none [] false (.alloc 51) 0 (some 3) true
          (.loud [2] [(2, (.tmp 22))] [(3, (.tmp 3)), (24, (.tmp 24))] none [] false (.store 51 (.tmp 3) (.tmp 24)) 0 none false
            (.fin [] [] []))))
        (.seq
        (.seq
        (.reg false (.fin [25, 26, 27, 28] [(26, (.un .load (.un (.fld 0) (.tmp 3)))), (27, (.un .len (.un .load (.un (.fld 0) (.tmp 3))))), (28, (.con (.int .i64 0)))] []))
        (.block 2
          (.loop L.check_looker_shape.l2)))
        (.seq
        (.seq
        (.reg false (.fin [42, 43, 44, 45] [(43, (.un .load (.un (.fld 1) (.tmp 3)))), (44, (.un .len (.un .load (.un (.fld 1) (.tmp 3))))), (45, (.con (.int .i64 0)))] []))
        (.block 4
          (.loop L.check_looker_shape.l3)))
        (.seq
        (.reg true (.both
          (.loud [80, 81, 82] [(82, (.un .load (.un (.fld 0) (.un (.fld 2) (.tmp 3)))))] [] none [] false (.call ⟨.value (.func 62), #[], #[]⟩) 112 (some 79) true
            (.both
              (.loud [] [] [(79, (.tmp 79)), (82, (.tmp 82))] none [] true (.lookup 112 (.tmp 79) (.tmp 82) true) 111 (some 83) true
                (.loud [78, 84, 85] [(84, (.un (.ext 0) (.tmp 83))), (85, (.un (.ext 1) (.tmp 83)))] [] none [] false (.alloc 110) 0 (some 10) true
                  (.loud [] [] [(10, (.tmp 10)), (84, (.tmp 84))] none [] false (.store 110 (.tmp 10) (.tmp 84)) 0 none false
                    (.fin [11] [(11, (.tmp 85))] []))))
              (.loud [] [] [] none [] false (.alloc 110) 0 (some 10) true
                (.loud [] [] [(79, (.tmp 79)), (82, (.tmp 82))] none [] true (.lookup 112 (.tmp 79) (.tmp 82) true) 111 (some 83) true
                  (.loud [78, 84, 85] [(85, (.un (.ext 1) (.tmp 83)))] [(10, (.tmp 10)), (84, (.un (.ext 0) (.tmp 83)))] none [] false (.store 110 (.tmp 10) (.tmp 84)) 0 none false
                    (.fin [11] [(11, (.tmp 85))] []))))))
          (.loud [80, 81, 82] [(82, (.un .load (.un (.fld 0) (.un (.fld 2) (.tmp 3)))))] [] none [] false (.alloc 110) 0 (some 10) true
            (.loud [] [] [] none [] false (.call ⟨.value (.func 62), #[], #[]⟩) 112 (some 79) true
              (.loud [] [] [(79, (.tmp 79)), (82, (.tmp 82))] none [] true (.lookup 112 (.tmp 79) (.tmp 82) true) 111 (some 83) true
                (.loud [78, 84, 85] [(85, (.un (.ext 1) (.tmp 83)))] [(10, (.tmp 10)), (84, (.un (.ext 0) (.tmp 83)))] none [] false (.store 110 (.tmp 10) (.tmp 84)) 0 none false
                  (.fin [11] [(11, (.tmp 85))] [])))))))
        (.seq
        (.reg true (.loud [86, 87, 88, 89, 90, 91, 92, 93, 94, 95, 109, 110, 111, 112] [(87, (.tmp 11)), (109, (.tmp 2)), (112, (.un .len (.un .load (.un (.fld 1) (.tmp 3)))))] [(91, (.gd (.tmp 11) true (.un .len (.un .load (.un (.fld 1) (.un (.fld 2) (.tmp 3))))))), (93, (.gd (.tmp 11) true (.un .load (.un (.fld 0) (.tmp 10))))), (95, (.gd (.tmp 11) true (.un .load (.un (.fld 1) (.tmp 10)))))] (some ((.tmp 11), true)) [] false (.call ⟨.value (.func 36), #[(.tmp 91), (.tmp 93), (.tmp 95)], #[3, 3, 3]⟩) 4 (some 96) true
          (.loud [97, 98, 99, 100, 101, 102, 103, 104, 105, 106] [(98, (.ite (.tmp 87) (.tmp 96) (.con (.bool false))))] [(102, (.gd (.ite (.tmp 87) (.tmp 96) (.con (.bool false))) true (.un .len (.un .load (.un (.fld 2) (.un (.fld 2) (.tmp 3))))))), (104, (.gd (.ite (.tmp 87) (.tmp 96) (.con (.bool false))) true (.un .load (.un (.fld 2) (.tmp 10))))), (106, (.gd (.ite (.tmp 87) (.tmp 96) (.con (.bool false))) true (.un .load (.un (.fld 3) (.tmp 10)))))] (some ((.ite (.tmp 87) (.tmp 96) (.con (.bool false))), true)) [] false (.call ⟨.value (.func 36), #[(.tmp 102), (.tmp 104), (.tmp 106)], #[3, 3, 3]⟩) 4 (some 107) true
            (.loud [108] [] [(108, (.ite (.tmp 98) (.tmp 107) (.con (.bool false)))), (109, (.tmp 109)), (112, (.tmp 112))] none [] true (.call ⟨.value (.func 35), #[(.tmp 108), (.const (.int .i64 10)), (.tmp 109), (.tmp 112)], #[4, 34, 3, 3]⟩) 0 (some 113) false
              (.fin [] [] [])))))
        (.seq
        (.reg false (.fin [114, 115, 116, 117, 118] [(116, (.un .load (.un (.fld 2) (.un (.fld 2) (.tmp 3))))), (117, (.un .len (.un .load (.un (.fld 2) (.un (.fld 2) (.tmp 3)))))), (118, (.con (.int .i64 0)))] []))
        (.block 6
          (.loop L.check_looker_shape.l4)))))))))
      (.reg false (.fin [137, 20] [(20, (.bin (.arith .add) (.tmp 20) (.con (.int .i64 1))))] [])))))
def L.check_looker_shape : LFn :=
⟨[],
  (.seq
  (.reg false (.fin [14, 15, 16, 17, 18, 19, 20] [(18, (.un .load (.un (.fld 1) (.un (.fld 0) (.un .nilPtr (.tmp 0)))))), (19, (.un .len (.un .load (.un (.fld 1) (.un (.fld 0) (.un .nilPtr (.tmp 0))))))), (20, (.con (.int .i64 0)))] []))
  (.block 0
    (.loop L.check_looker_shape.l1)))⟩
theorem E.check_looker_shape : liftF Try.prog Try.f37 = some L.check_looker_shape := by kernel_rfl
theorem F.check_looker_shape : Try.prog.funcs[N.check_looker_shape]? = some Try.f37 := Try.func37

/-- (*jacquard/check.looker).uses -/
abbrev N.check_looker_uses : Nat := 38
def L.check_looker_uses.l1 : LC :=
  (.seq
      (.reg false (.fin [37] [(37, (.bin (.cmp .lss) (.tmp 36) (.tmp 35)))] []))
      (.seq
      (.cond (.tmp 37) [37]
        .skip
        (.exit 0))
      (.seq
      (.block 1
        (.seq
        (.reg false (.fin [38, 4] [(4, (.tmp 36))] []))
        (.reg false (.loud [39, 40] [] [(39, (.tmp 3)), (40, (.tmp 4))] none [] false (.call ⟨.value (.func 44), #[(.tmp 39), (.tmp 40)], #[28, 3]⟩) 4 (some 41) true
          (.loud [42] [] [(41, (.tmp 41)), (42, (.tmp 4))] none [] false (.call ⟨.value (.func 35), #[(.tmp 41), (.const (.int .i64 15)), (.tmp 42), (.const (.int .i64 0))], #[4, 34, 3, 3]⟩) 0 (some 43) false
            (.fin [] [] []))))))
      (.reg false (.fin [44, 36] [(36, (.bin (.arith .add) (.tmp 36) (.con (.int .i64 1))))] [])))))
def L.check_looker_uses.l4 : LC :=
  (.seq
                  (.reg false (.fin [86] [(86, (.bin (.cmp .lss) (.tmp 85) (.tmp 84)))] []))
                  (.seq
                  (.cond (.tmp 86) [86]
                    .skip
                    (.exit 6))
                  (.seq
                  (.block 7
                    (.seq
                    (.reg false (.loud [87, 88, 89] [(87, (.tmp 85)), (89, (.un (.loads 2) (.bin (.idx 2) (.tmp 83) (.tmp 85))))] [] none [] false (.alloc 56) 0 (some 14) true
                      (.loud [13] [(13, (.tmp 87))] [(14, (.tmp 14)), (89, (.tmp 89))] none [] false (.store 56 (.tmp 14) (.tmp 89)) 0 none false
                        (.fin [] [] []))))
                    (.reg true (.fin [90, 91, 92, 93, 94, 95, 96, 97, 98, 99, 100, 101, 102, 12] [(12, (.ite (.tmp 12) (.bin (.cmp .eql) (.un .load (.un (.fld 0) (.tmp 14))) (.un .load (.bin (.idx 1) (.un .load (.bin (.idx 1) (.tmp 5) (.tmp 8))) (.tmp 13)))) (.con (.bool false))))] []))))
                  (.reg false (.fin [103, 85] [(85, (.bin (.arith .add) (.tmp 85) (.con (.int .i64 1))))] [])))))
def L.check_looker_uses.l5 : LC :=
  (.seq
                  (.reg false (.fin [113] [(113, (.bin (.cmp .lss) (.tmp 112) (.tmp 111)))] []))
                  (.seq
                  (.cond (.tmp 113) [113]
                    .skip
                    (.exit 8))
                  (.seq
                  (.block 9
                    (.seq
                    (.reg false (.loud [114, 115] [(115, (.un (.loads 2) (.bin (.idx 2) (.tmp 110) (.tmp 112))))] [] none [] false (.alloc 56) 0 (some 16) true
                      (.loud [] [] [(16, (.tmp 16)), (115, (.tmp 115))] none [] false (.store 56 (.tmp 16) (.tmp 115)) 0 none false
                        (.fin [] [] []))))
                    (.reg true (.loud [116, 117, 118, 119, 120, 121, 122, 123, 124, 125, 126, 127, 128, 129, 130, 131, 132, 133, 134] [] [(116, (.tmp 7)), (118, (.un .load (.un (.fld 1) (.tmp 16)))), (120, (.un .load (.un (.fld 0) (.tmp 16)))), (122, (.bin (.arith .sub) (.con (.int .i64 (-1))) (.tmp 10))), (133, (.un .len (.un .load (.un (.fld 1) (.bin (.idx 6) (.un .load (.un (.fld 1) (.un (.fld 0) (.un .nilPtr (.un .load (.tmp 1)))))) (.un .load (.un (.fld 0) (.tmp 16)))))))), (134, (.tmp 8))] none [] true (.call ⟨.value (.tmp 116), #[(.tmp 118), (.tmp 120), (.tmp 122), (.tmp 133), (.tmp 134)], #[3, 3, 3, 3, 3]⟩) 0 (some 135) false
                      (.fin [] [] [])))))
                  (.reg false (.fin [136, 112] [(112, (.bin (.arith .add) (.tmp 112) (.con (.int .i64 1))))] [])))))
def L.check_looker_uses.l3 : LC :=
  (.seq
            (.reg false (.fin [65] [(65, (.bin (.cmp .lss) (.tmp 64) (.tmp 63)))] []))
            (.seq
            (.cond (.tmp 65) [65]
              .skip
              (.exit 4))
            (.seq
            (.block 5
              (.seq
              (.reg false (.loud [66, 67, 68] [(66, (.tmp 64)), (68, (.un (.loads 2) (.bin (.idx 2) (.tmp 62) (.tmp 64))))] [] none [] false (.alloc 54) 0 (some 11) true
                (.loud [10] [(10, (.tmp 66))] [(11, (.tmp 11)), (68, (.tmp 68))] none [] false (.store 54 (.tmp 11) (.tmp 68)) 0 none false
                  (.fin [] [] []))))
              (.seq
              (.reg true (.fin [69, 70, 71, 72, 73, 74, 75, 76, 77, 78, 79, 80, 81, 12] [(12, (.ite (.bin (.cmp .gtr) (.tmp 8) (.con (.int .i64 0))) (.bin (.cmp .eql) (.un .len (.un .load (.un (.fld 1) (.tmp 11)))) (.un .len (.un .load (.bin (.idx 1) (.tmp 5) (.tmp 8))))) (.con (.bool false))))] []))
              (.seq
              (.seq
              (.reg false (.fin [82, 83, 84, 85] [(83, (.un .load (.un (.fld 1) (.tmp 11)))), (84, (.un .len (.un .load (.un (.fld 1) (.tmp 11))))), (85, (.con (.int .i64 0)))] []))
              (.block 6
                (.loop L.check_looker_uses.l4)))
              (.seq
              (.reg false (.loud [104, 105, 106, 107] [] [(104, (.tmp 12)), (105, (.tmp 8)), (107, (.bin (.arith .sub) (.con (.int .i64 (-1))) (.tmp 10)))] none [] false (.call ⟨.value (.func 35), #[(.tmp 104), (.const (.int .i64 16)), (.tmp 105), (.tmp 107)], #[4, 34, 3, 3]⟩) 0 (some 108) false
                (.fin [] [] [])))
              (.seq
              (.reg false (.fin [109, 110, 111, 112] [(110, (.un .load (.un (.fld 1) (.tmp 11)))), (111, (.un .len (.un .load (.un (.fld 1) (.tmp 11))))), (112, (.con (.int .i64 0)))] []))
              (.block 8
                (.loop L.check_looker_uses.l5))))))))
            (.reg false (.fin [137, 64] [(64, (.bin (.arith .add) (.tmp 64) (.con (.int .i64 1))))] [])))))
def L.check_looker_uses.l7 : LC :=
  (.seq
                  (.reg false (.fin [150] [(150, (.bin (.cmp .lss) (.tmp 149) (.tmp 148)))] []))
                  (.seq
                  (.cond (.tmp 150) [150]
                    .skip
                    (.exit 12))
                  (.seq
                  (.block 13
                    (.seq
                    (.reg false (.fin [151, 152, 20] [(20, (.un .load (.bin (.idx 1) (.tmp 147) (.tmp 149))))] []))
                    (.reg false (.loud [153, 154, 155, 156, 157, 158] [] [(153, (.tmp 7)), (154, (.tmp 20)), (155, (.tmp 8)), (156, (.tmp 17)), (157, (.tmp 17)), (158, (.tmp 8))] none [] false (.call ⟨.value (.tmp 153), #[(.tmp 154), (.tmp 155), (.tmp 156), (.tmp 157), (.tmp 158)], #[3, 3, 3, 3, 3]⟩) 0 (some 159) false
                      (.fin [] [] [])))))
                  (.reg false (.fin [160, 149] [(149, (.bin (.arith .add) (.tmp 149) (.con (.int .i64 1))))] [])))))
def L.check_looker_uses.l6 : LC :=
  (.seq
            (.reg false (.fin [142] [(142, (.bin (.cmp .lss) (.tmp 141) (.tmp 140)))] []))
            (.seq
            (.cond (.tmp 142) [142]
              .skip
              (.exit 10))
            (.seq
            (.block 11
              (.seq
              (.reg false (.loud [143, 144, 145] [(143, (.tmp 141)), (145, (.un (.loads 5) (.bin (.idx 5) (.tmp 139) (.tmp 141))))] [] none [] false (.alloc 58) 0 (some 18) true
                (.loud [17] [(17, (.tmp 143))] [(18, (.tmp 18)), (145, (.tmp 145))] none [] false (.store 58 (.tmp 18) (.tmp 145)) 0 none false
                  (.fin [] [] []))))
              (.seq
              (.reg false (.fin [146, 147, 148, 149] [(147, (.un .load (.un (.fld 3) (.tmp 18)))), (148, (.un .len (.un .load (.un (.fld 3) (.tmp 18))))), (149, (.con (.int .i64 0)))] []))
              (.block 12
                (.loop L.check_looker_uses.l7)))))
            (.reg false (.fin [161, 141] [(141, (.bin (.arith .add) (.tmp 141) (.con (.int .i64 1))))] [])))))
def L.check_looker_uses.l8 : LC :=
  (.seq
            (.reg false (.fin [167] [(167, (.bin (.cmp .lss) (.tmp 166) (.tmp 165)))] []))
            (.seq
            (.cond (.tmp 167) [167]
              .skip
              (.exit 14))
            (.seq
            (.block 15
              (.seq
              (.reg false (.fin [168, 169, 22] [(22, (.un .load (.bin (.idx 1) (.tmp 164) (.tmp 166))))] []))
              (.reg false (.loud [170, 171, 172, 173, 174, 175, 176, 177, 178, 179] [] [(170, (.tmp 7)), (171, (.tmp 22)), (172, (.tmp 8)), (175, (.un .len (.un .load (.un (.fld 1) (.tmp 9))))), (178, (.un .len (.un .load (.un (.fld 1) (.tmp 9))))), (179, (.tmp 8))] none [] false (.call ⟨.value (.tmp 170), #[(.tmp 171), (.tmp 172), (.tmp 175), (.tmp 178), (.tmp 179)], #[3, 3, 3, 3, 3]⟩) 0 (some 180) false
                (.fin [] [] [])))))
            (.reg false (.fin [181, 166] [(166, (.bin (.arith .add) (.tmp 166) (.con (.int .i64 1))))] [])))))
def L.check_looker_uses.l2 : LC :=
  (.seq
      (.reg false (.fin [57] [(57, (.bin (.cmp .lss) (.tmp 56) (.tmp 55)))] []))
      (.seq
      (.cond (.tmp 57) [57]
        .skip
        (.exit 2))
      (.seq
      (.block 3
        (.seq
        (.reg false (.loud [58, 59, 60] [(58, (.tmp 56)), (60, (.un (.loads 6) (.bin (.idx 6) (.tmp 54) (.tmp 56))))] [] none [] false (.alloc 51) 0 (some 9) true
          (.loud [8] [(8, (.tmp 58))] [(9, (.tmp 9)), (60, (.tmp 60))] none [] false (.store 51 (.tmp 9) (.tmp 60)) 0 none false
            (.fin [] [] []))))
        (.seq
        (.seq
        (.reg false (.fin [61, 62, 63, 64] [(62, (.un .load (.un (.fld 0) (.tmp 9)))), (63, (.un .len (.un .load (.un (.fld 0) (.tmp 9))))), (64, (.con (.int .i64 0)))] []))
        (.block 4
          (.loop L.check_looker_uses.l3)))
        (.seq
        (.seq
        (.reg false (.fin [138, 139, 140, 141] [(139, (.un .load (.un (.fld 1) (.tmp 9)))), (140, (.un .len (.un .load (.un (.fld 1) (.tmp 9))))), (141, (.con (.int .i64 0)))] []))
        (.block 10
          (.loop L.check_looker_uses.l6)))
        (.seq
        (.reg false (.fin [162, 163, 164, 165, 166] [(164, (.un .load (.un (.fld 1) (.un (.fld 2) (.tmp 9))))), (165, (.un .len (.un .load (.un (.fld 1) (.un (.fld 2) (.tmp 9)))))), (166, (.con (.int .i64 0)))] []))
        (.block 14
          (.loop L.check_looker_uses.l8)))))))
      (.reg false (.fin [182, 56] [(56, (.bin (.arith .add) (.tmp 56) (.con (.int .i64 1))))] [])))))
def L.check_looker_uses : LFn :=
⟨[],
  (.seq
  (.reg false (.loud [] [] [(0, (.tmp 0))] none [] false (.box 80 (.tmp 0)) 0 (some 1) true
    (.fin [] [] [])))
  (.seq
  (.reg false (.loud [23, 24, 25, 26] [] [(26, (.un (.loads 2) (.un (.fld 0) (.un .nilPtr (.un .load (.tmp 1))))))] none [] false (.call ⟨.value (.func 63), #[(.tmp 26)], #[24]⟩) 99 (some 27) true
    (.fin [2] [(2, (.tmp 27))] [])))
  (.seq
  (.reg false (.loud [28] [] [(28, (.tmp 2))] none [] false (.call ⟨.value (.func 64), #[(.tmp 28)], #[99]⟩) 28 (some 29) true
    (.fin [3] [(3, (.tmp 29))] [])))
  (.seq
  (.seq
  (.reg false (.fin [30, 31, 32, 33, 34, 35, 36] [(35, (.un .len (.un .load (.un (.fld 1) (.un (.fld 0) (.un .nilPtr (.un .load (.tmp 1)))))))), (36, (.con (.int .i64 0)))] []))
  (.block 0
    (.loop L.check_looker_uses.l1)))
  (.seq
  (.reg false (.loud [45] [] [(45, (.tmp 2))] none [] false (.call ⟨.value (.func 65), #[(.tmp 45)], #[99]⟩) 99 (some 46) true
    (.loud [47] [] [(47, (.tmp 2))] none [] false (.call ⟨.value (.func 66), #[(.tmp 47)], #[99]⟩) 28 (some 48) true
      (.loud [] [] [] none [] false (.alloc 28) 0 (some 6) true
        (.loud [5] [(5, (.tmp 46))] [(6, (.tmp 6)), (48, (.tmp 48))] none [] false (.store 28 (.tmp 6) (.tmp 48)) 0 none false
          (.fin [] [] []))))))
  (.seq
  (.reg false (.fin [49, 7] [(7, (.un (.fn 67) (.snoc (.snoc (.con (.tuple #[])) (.tmp 1)) (.tmp 6))))] []))
  (.seq
  (.reg false (.fin [50, 51, 52, 53, 54, 55, 56] [(54, (.un .load (.un (.fld 1) (.un (.fld 0) (.un .nilPtr (.un .load (.tmp 1))))))), (55, (.un .len (.un .load (.un (.fld 1) (.un (.fld 0) (.un .nilPtr (.un .load (.tmp 1)))))))), (56, (.con (.int .i64 0)))] []))
  (.block 2
    (.loop L.check_looker_uses.l2)))))))))⟩
theorem E.check_looker_uses : liftF Try.prog Try.f38 = some L.check_looker_uses := by kernel_rfl
theorem F.check_looker_uses : Try.prog.funcs[N.check_looker_uses]? = some Try.f38 := Try.func38

/-- jacquard/check.things -/
abbrev N.check_things : Nat := 39
def L.check_things.l3 : LC :=
  (.seq
                  (.reg false (.fin [33] [(33, (.bin (.cmp .lss) (.tmp 32) (.tmp 31)))] []))
                  (.seq
                  (.cond (.tmp 33) [33]
                    .skip
                    (.exit 4))
                  (.seq
                  (.block 5
                    (.seq
                    (.reg false (.loud [34, 35] [(35, (.un (.loads 2) (.bin (.idx 2) (.tmp 30) (.tmp 32))))] [] none [] false (.alloc 56) 0 (some 10) true
                      (.loud [] [] [(10, (.tmp 10)), (35, (.tmp 35))] none [] false (.store 56 (.tmp 10) (.tmp 35)) 0 none false
                        (.fin [] [] []))))
                    (.reg false (.loud [36, 37, 38] [(36, (.tmp 8))] [(38, (.un .load (.un (.fld 1) (.tmp 10))))] none [] false (.buildSlice 28 1 #[(0, (.tmp 38))]) 28 (some 39) true
                      (.loud [] [] [(36, (.tmp 36)), (39, (.tmp 39))] none [] false (.call ⟨.builtin .append, #[(.tmp 36), (.tmp 39)], #[28, 28]⟩) 28 (some 40) true
                        (.fin [8] [(8, (.tmp 40))] []))))))
                  (.reg false (.fin [41, 32] [(32, (.bin (.arith .add) (.tmp 32) (.con (.int .i64 1))))] [])))))
def L.check_things.l2 : LC :=
  (.seq
            (.reg false (.fin [25] [(25, (.bin (.cmp .lss) (.tmp 24) (.tmp 23)))] []))
            (.seq
            (.cond (.tmp 25) [25]
              .skip
              (.exit 2))
            (.seq
            (.block 3
              (.seq
              (.reg false (.loud [26, 27, 28] [(26, (.tmp 24)), (28, (.un (.loads 2) (.bin (.idx 2) (.tmp 22) (.tmp 24))))] [] none [] false (.alloc 54) 0 (some 7) true
                (.loud [6] [(6, (.tmp 26))] [(7, (.tmp 7)), (28, (.tmp 28))] none [] false (.store 54 (.tmp 7) (.tmp 28)) 0 none false
                  (.fin [] [] []))))
              (.seq
              (.reg false (.fin [8] [(8, (.con (.slice none 0 0)))] []))
              (.seq
              (.seq
              (.reg false (.fin [29, 30, 31, 32] [(30, (.un .load (.un (.fld 1) (.tmp 7)))), (31, (.un .len (.un .load (.un (.fld 1) (.tmp 7))))), (32, (.con (.int .i64 0)))] []))
              (.block 4
                (.loop L.check_things.l3)))
              (.reg false (.loud [42, 43, 44, 45, 46, 47] [(42, (.tmp 1)), (43, (.tmp 4)), (45, (.bin (.arith .sub) (.con (.int .i64 (-1))) (.tmp 6)))] [(47, (.un .load (.un (.fld 0) (.tmp 7))))] none [] false (.buildSlice 28 1 #[(0, (.tmp 47))]) 28 (some 48) true
                (.loud [49] [] [(42, (.tmp 42)), (43, (.tmp 43)), (45, (.tmp 45)), (48, (.tmp 48)), (49, (.tmp 8))] none [] false (.call ⟨.value (.tmp 42), #[(.tmp 43), (.tmp 45), (.tmp 48), (.tmp 49)], #[3, 3, 28, 28]⟩) 0 (some 50) false
                  (.fin [] [] []))))))))
            (.reg false (.fin [51, 24] [(24, (.bin (.arith .add) (.tmp 24) (.con (.int .i64 1))))] [])))))
def L.check_things.l4 : LC :=
  (.seq
            (.reg false (.fin [56] [(56, (.bin (.cmp .lss) (.tmp 55) (.tmp 54)))] []))
            (.seq
            (.cond (.tmp 56) [56]
              .skip
              (.exit 6))
            (.seq
            (.block 7
              (.seq
              (.reg false (.loud [57, 58, 59] [(57, (.tmp 55)), (59, (.un (.loads 5) (.bin (.idx 5) (.tmp 53) (.tmp 55))))] [] none [] false (.alloc 58) 0 (some 12) true
                (.loud [11] [(11, (.tmp 57))] [(12, (.tmp 12)), (59, (.tmp 59))] none [] false (.store 58 (.tmp 12) (.tmp 59)) 0 none false
                  (.fin [] [] []))))
              (.reg true (.loud [60, 61, 62, 63, 65, 66] [(60, (.tmp 1)), (61, (.tmp 4)), (62, (.tmp 11)), (66, (.un .load (.un (.fld 3) (.tmp 12))))] [(63, (.un (.loads 5) (.tmp 12)))] none [] false (.call ⟨.value (.func 61), #[(.tmp 63)], #[58]⟩) 28 (some 64) true
                (.loud [] [] [(60, (.tmp 60)), (61, (.tmp 61)), (62, (.tmp 62)), (64, (.tmp 64)), (66, (.tmp 66))] none [] true (.call ⟨.value (.tmp 60), #[(.tmp 61), (.tmp 62), (.tmp 64), (.tmp 66)], #[3, 3, 28, 28]⟩) 0 (some 67) false
                  (.fin [] [] []))))))
            (.reg false (.fin [68, 55] [(55, (.bin (.arith .add) (.tmp 55) (.con (.int .i64 1))))] [])))))
def L.check_things.l1 : LC :=
  (.seq
      (.reg false (.fin [17] [(17, (.bin (.cmp .lss) (.tmp 16) (.tmp 15)))] []))
      (.seq
      (.cond (.tmp 17) [17]
        .skip
        (.exit 0))
      (.seq
      (.block 1
        (.seq
        (.reg false (.loud [18, 19, 20] [(18, (.tmp 16)), (20, (.un (.loads 6) (.bin (.idx 6) (.tmp 14) (.tmp 16))))] [] none [] false (.alloc 51) 0 (some 5) true
          (.loud [4] [(4, (.tmp 18))] [(5, (.tmp 5)), (20, (.tmp 20))] none [] false (.store 51 (.tmp 5) (.tmp 20)) 0 none false
            (.fin [] [] []))))
        (.seq
        (.seq
        (.reg false (.fin [21, 22, 23, 24] [(22, (.un .load (.un (.fld 0) (.tmp 5)))), (23, (.un .len (.un .load (.un (.fld 0) (.tmp 5))))), (24, (.con (.int .i64 0)))] []))
        (.block 2
          (.loop L.check_things.l2)))
        (.seq
        (.seq
        (.reg false (.fin [52, 53, 54, 55] [(53, (.un .load (.un (.fld 1) (.tmp 5)))), (54, (.un .len (.un .load (.un (.fld 1) (.tmp 5))))), (55, (.con (.int .i64 0)))] []))
        (.block 6
          (.loop L.check_things.l4)))
        (.reg false (.loud [69, 70, 71, 72, 73, 74, 75, 76] [] [(69, (.tmp 1)), (70, (.tmp 4)), (73, (.un .len (.un .load (.un (.fld 1) (.tmp 5))))), (76, (.un .load (.un (.fld 1) (.un (.fld 2) (.tmp 5)))))] none [] false (.call ⟨.value (.tmp 69), #[(.tmp 70), (.tmp 73), (.const (.slice none 0 0)), (.tmp 76)], #[3, 3, 28, 28]⟩) 0 (some 77) false
          (.fin [] [] [])))))))
      (.reg false (.fin [78, 16] [(16, (.bin (.arith .add) (.tmp 16) (.con (.int .i64 1))))] [])))))
def L.check_things : LFn :=
⟨[],
  (.seq
  (.reg false (.loud [] [] [(0, (.tmp 0))] none [] false (.box 24 (.tmp 0)) 0 (some 2) true
    (.fin [] [] [])))
  (.seq
  (.reg false (.fin [13, 14, 15, 16] [(14, (.un .load (.un (.fld 1) (.tmp 2)))), (15, (.un .len (.un .load (.un (.fld 1) (.tmp 2))))), (16, (.con (.int .i64 0)))] []))
  (.block 0
    (.loop L.check_things.l1))))⟩
theorem E.check_things : liftF Try.prog Try.f39 = some L.check_things := by kernel_rfl
theorem F.check_things : Try.prog.funcs[N.check_things]? = some Try.f39 := Try.func39

/-- jacquard/check.Top$1 -/
abbrev N.check_Top_1 : Nat := 40
def L.check_Top_1.l1 : LC :=
  (.seq
      (.reg false (.fin [14] [(14, (.bin (.cmp .lss) (.tmp 13) (.tmp 12)))] []))
      (.seq
      (.cond (.tmp 14) [14]
        .skip
        (.exit 0))
      (.seq
      (.block 1
        (.seq
        (.reg false (.fin [15, 16, 10] [(10, (.un .load (.bin (.idx 1) (.tmp 11) (.tmp 13))))] []))
        (.seq
        (.reg false (.loud [17] [] [(17, (.tmp 10))] none [] false (.call ⟨.value (.func 36), #[(.tmp 17), (.const (.int .i64 0)), (.const (.int .i64 8191))], #[3, 3, 3]⟩) 4 (some 18) true
          (.fin [] [] [])))
        (.cond (.tmp 18) [18]
          (.reg false (.loud [19, 20, 21, 22] [] [(4, (.tmp 4)), (22, (.bin .max (.un .load (.tmp 4)) (.bin (.arith .add) (.tmp 10) (.con (.int .i64 1)))))] none [] false (.store 3 (.tmp 4) (.tmp 22)) 0 none false
            (.fin [] [] [])))
          .skip))))
      (.reg false (.fin [23, 13] [(13, (.bin (.arith .add) (.tmp 13) (.con (.int .i64 1))))] [])))))
def L.check_Top_1 : LFn :=
⟨[],
  (.seq
  (.reg false (.fin [11, 12, 13] [(11, (.tmp 2)), (12, (.un .len (.tmp 2))), (13, (.con (.int .i64 0)))] []))
  (.block 0
    (.loop L.check_Top_1.l1)))⟩
theorem E.check_Top_1 : liftF Try.prog Try.f40 = some L.check_Top_1 := by kernel_rfl
theorem F.check_Top_1 : Try.prog.funcs[N.check_Top_1]? = some Try.f40 := Try.func40

end Go.Proofs.Ytfelpjfopgiabaa

/- The functions of the program in the lifted language, each with the proof that the lifter makes just it. Written by program. -/
namespace Go.Proofs.Ytfelpjfopgiabaa
open Go Go.Lft
set_option maxRecDepth 100000

/-- jacquard/jacquardref03.Things -/
abbrev N.ref03_Things : Nat := 41
def L.ref03_Things.l3 : LC :=
  (.seq
                  (.seq
                  (.reg false (.fin [41, 42, 43, 44, 45, 46, 47, 48, 49] [(49, (.bin (.cmp .lss) (.tmp 8) (.un .len (.un .load (.un (.fld 1) (.bin (.idx 2) (.un .load (.un (.fld 0) (.tmp 5))) (.tmp 6)))))))] []))
                  (.cond (.tmp 49) [49]
                    .skip
                    (.exit 4)))
                  (.seq
                  (.block 5
                    (.reg true (.loud [52, 53, 54, 55, 56, 57, 58, 59, 60, 61, 62, 63] [(53, (.un .load (.un (.fld 3) (.tmp 7))))] [(63, (.un .load (.un (.fld 1) (.bin (.idx 2) (.un .load (.un (.fld 1) (.bin (.idx 2) (.un .load (.un (.fld 0) (.tmp 5))) (.tmp 6)))) (.tmp 8)))))] none [] false (.buildSlice 28 1 #[(0, (.tmp 63))]) 28 (some 64) true
                      (.loud [] [] [(53, (.tmp 53)), (64, (.tmp 64))] none [] true (.call ⟨.builtin .append, #[(.tmp 53), (.tmp 64)], #[28, 28]⟩) 28 (some 65) true
                        (.loud [66] [] [(66, (.un (.fld 3) (.tmp 7))), (65, (.tmp 65))] none [] false (.store 28 (.tmp 66) (.tmp 65)) 0 none false
                          (.fin [] [] []))))))
                  (.reg false (.fin [50, 51, 8] [(8, (.bin (.arith .add) (.tmp 8) (.con (.int .i64 1))))] []))))
def L.ref03_Things.l2 : LC :=
  (.seq
            (.seq
            (.reg false (.fin [23, 24, 25, 26, 27] [(27, (.bin (.cmp .lss) (.tmp 6) (.un .len (.un .load (.un (.fld 0) (.tmp 5))))))] []))
            (.cond (.tmp 27) [27]
              .skip
              (.exit 2)))
            (.seq
            (.block 3
              (.seq
              (.reg false (.loud [30, 31, 32, 33, 34, 35, 36, 37, 38] [(30, (.tmp 4)), (32, (.bin (.arith .sub) (.con (.int .i64 (-1))) (.tmp 6)))] [(38, (.un .load (.un (.fld 0) (.bin (.idx 2) (.un .load (.un (.fld 0) (.tmp 5))) (.tmp 6)))))] none [] false (.buildSlice 28 1 #[(0, (.tmp 38))]) 28 (some 39) true
                (.loud [] [] [(30, (.tmp 30)), (32, (.tmp 32)), (39, (.tmp 39))] none [] false (.build 89 #[(0, (.tmp 30)), (1, (.tmp 32)), (2, (.tmp 39))]) 89 (some 40) true
                  (.loud [] [] [] none [] false (.alloc 89) 0 (some 7) true
                    (.loud [] [] [(7, (.tmp 7)), (40, (.tmp 40))] none [] false (.store 89 (.tmp 7) (.tmp 40)) 0 none false
                      (.fin [] [] []))))))
              (.seq
              (.seq
              (.reg false (.fin [8] [(8, (.con (.int .i64 0)))] []))
              (.block 4
                (.loop L.ref03_Things.l3)))
              (.reg false (.loud [67, 68] [(67, (.tmp 3))] [(68, (.un (.loads 4) (.tmp 7)))] none [] false (.buildSlice 86 1 #[(0, (.tmp 68))]) 86 (some 69) true
                (.loud [] [] [(67, (.tmp 67)), (69, (.tmp 69))] none [] false (.call ⟨.builtin .append, #[(.tmp 67), (.tmp 69)], #[86, 86]⟩) 86 (some 70) true
                  (.fin [3] [(3, (.tmp 70))] [])))))))
            (.reg false (.fin [28, 29, 6] [(6, (.bin (.arith .add) (.tmp 6) (.con (.int .i64 1))))] []))))
def L.ref03_Things.l4 : LC :=
  (.seq
            (.seq
            (.reg false (.fin [71, 72, 73, 74, 75] [(75, (.bin (.cmp .lss) (.tmp 9) (.un .len (.un .load (.un (.fld 1) (.tmp 5))))))] []))
            (.cond (.tmp 75) [75]
              .skip
              (.exit 6)))
            (.seq
            (.block 7
              (.reg true (.loud [78, 79, 80, 81, 82, 83, 84, 85, 87, 88, 89, 90, 91, 92] [(78, (.tmp 3)), (79, (.tmp 4)), (80, (.tmp 9)), (92, (.un .load (.un (.fld 3) (.bin (.idx 5) (.un .load (.un (.fld 1) (.tmp 5))) (.tmp 9)))))] [(85, (.un (.loads 5) (.bin (.idx 5) (.un .load (.un (.fld 1) (.tmp 5))) (.tmp 9))))] none [] false (.call ⟨.value (.func 27), #[(.tmp 85)], #[58]⟩) 28 (some 86) true
                (.loud [] [] [(79, (.tmp 79)), (80, (.tmp 80)), (86, (.tmp 86)), (92, (.tmp 92))] none [] true (.build 89 #[(0, (.tmp 79)), (1, (.tmp 80)), (2, (.tmp 86)), (3, (.tmp 92))]) 89 (some 93) true
                  (.loud [] [] [(93, (.tmp 93))] none [] false (.buildSlice 86 1 #[(0, (.tmp 93))]) 86 (some 94) true
                    (.loud [] [] [(78, (.tmp 78)), (94, (.tmp 94))] none [] false (.call ⟨.builtin .append, #[(.tmp 78), (.tmp 94)], #[86, 86]⟩) 86 (some 95) true
                      (.fin [3] [(3, (.tmp 95))] [])))))))
            (.reg false (.fin [76, 77, 9] [(9, (.bin (.arith .add) (.tmp 9) (.con (.int .i64 1))))] []))))
def L.ref03_Things.l1 : LC :=
  (.seq
      (.seq
      (.reg false (.fin [11, 12, 13, 14, 15] [(15, (.bin (.cmp .lss) (.tmp 4) (.un .len (.un .load (.un (.fld 1) (.tmp 1))))))] []))
      (.cond (.tmp 15) [15]
        .skip
        (.exit 0)))
      (.seq
      (.block 1
        (.seq
        (.reg false (.loud [18, 19, 20, 21, 22] [(22, (.un (.loads 6) (.bin (.idx 6) (.un .load (.un (.fld 1) (.tmp 1))) (.tmp 4))))] [] none [] false (.alloc 51) 0 (some 5) true
          (.loud [] [] [(5, (.tmp 5)), (22, (.tmp 22))] none [] false (.store 51 (.tmp 5) (.tmp 22)) 0 none false
            (.fin [] [] []))))
        (.seq
        (.seq
        (.reg false (.fin [6] [(6, (.con (.int .i64 0)))] []))
        (.block 2
          (.loop L.ref03_Things.l2)))
        (.seq
        (.seq
        (.reg false (.fin [9] [(9, (.con (.int .i64 0)))] []))
        (.block 6
          (.loop L.ref03_Things.l4)))
        (.reg false (.loud [96, 97, 98, 99, 100, 101, 102, 103] [(96, (.tmp 3))] [(97, (.tmp 4)), (100, (.un .len (.un .load (.un (.fld 1) (.tmp 5))))), (103, (.un .load (.un (.fld 1) (.un (.fld 2) (.tmp 5)))))] none [] false (.build 89 #[(0, (.tmp 97)), (1, (.tmp 100)), (3, (.tmp 103))]) 89 (some 104) true
          (.loud [] [] [(104, (.tmp 104))] none [] false (.buildSlice 86 1 #[(0, (.tmp 104))]) 86 (some 105) true
            (.loud [] [] [(96, (.tmp 96)), (105, (.tmp 105))] none [] false (.call ⟨.builtin .append, #[(.tmp 96), (.tmp 105)], #[86, 86]⟩) 86 (some 106) true
              (.fin [3] [(3, (.tmp 106))] [])))))))))
      (.reg false (.fin [16, 17, 4] [(4, (.bin (.arith .add) (.tmp 4) (.con (.int .i64 1))))] []))))
def L.ref03_Things : LFn :=
⟨[(.tmp 2)],
  (.seq
  (.reg false (.loud [] [] [(0, (.tmp 0))] none [] false (.box 24 (.tmp 0)) 0 (some 1) true
    (.fin [2] [(2, (.con (.slice none 0 0)))] [])))
  (.seq
  (.reg false (.loud [] [] [] none [] false (.buildSlice 86 0 #[]) 86 (some 10) true
    (.fin [3] [(3, (.tmp 10))] [])))
  (.seq
  (.seq
  (.reg false (.fin [4] [(4, (.con (.int .i64 0)))] []))
  (.block 0
    (.loop L.ref03_Things.l1)))
  (.seq
  (.reg false (.fin [107, 2] [(2, (.tmp 3))] []))
  .ret))))⟩
theorem E.ref03_Things : liftF Try.prog Try.f41 = some L.ref03_Things := by kernel_rfl
theorem F.ref03_Things : Try.prog.funcs[N.ref03_Things]? = some Try.f41 := Try.func41

/-- jacquard/check.Uses$1 -/
abbrev N.check_Uses_1 : Nat := 42
def L.check_Uses_1.l1 : LC :=
  (.seq
      (.reg false (.fin [14] [(14, (.bin (.cmp .lss) (.tmp 13) (.tmp 12)))] []))
      (.seq
      (.cond (.tmp 14) [14]
        .skip
        (.exit 0))
      (.seq
      (.block 1
        (.seq
        (.reg false (.fin [15, 16, 10] [(10, (.un .load (.bin (.idx 1) (.tmp 11) (.tmp 13))))] []))
        (.seq
        (.reg false (.loud [17, 18, 19, 20] [] [(17, (.tmp 10)), (20, (.bin (.arith .sub) (.un .len (.un .load (.tmp 4))) (.con (.int .i64 1))))] none [] false (.call ⟨.value (.func 36), #[(.tmp 17), (.const (.int .i64 0)), (.tmp 20)], #[3, 3, 3]⟩) 4 (some 21) true
          (.fin [] [] [])))
        (.cond (.tmp 21) [21]
          (.reg false (.loud [22, 23, 24, 25, 26, 27] [] [(27, (.bin (.idx 1) (.un .load (.tmp 4)) (.tmp 10))), (26, (.bin (.arith .add) (.un .load (.bin (.idx 1) (.un .load (.tmp 4)) (.tmp 10))) (.con (.int .i64 1))))] none [] false (.store 3 (.tmp 27) (.tmp 26)) 0 none false
            (.fin [] [] [])))
          .skip))))
      (.reg false (.fin [28, 13] [(13, (.bin (.arith .add) (.tmp 13) (.con (.int .i64 1))))] [])))))
def L.check_Uses_1 : LFn :=
⟨[],
  (.seq
  (.reg false (.fin [11, 12, 13] [(11, (.tmp 3)), (12, (.un .len (.tmp 3))), (13, (.con (.int .i64 0)))] []))
  (.block 0
    (.loop L.check_Uses_1.l1)))⟩
theorem E.check_Uses_1 : liftF Try.prog Try.f42 = some L.check_Uses_1 := by kernel_rfl
theorem F.check_Uses_1 : Try.prog.funcs[N.check_Uses_1]? = some Try.f42 := Try.func42

/-- jacquard/check.Foldable$1 -/
abbrev N.check_Foldable_1 : Nat := 43
def L.check_Foldable_1.l1 : LC :=
  (.seq
      (.reg false (.fin [18] [(18, (.bin (.cmp .lss) (.tmp 17) (.tmp 16)))] []))
      (.seq
      (.cond (.tmp 18) [18]
        .skip
        (.exit 0))
      (.seq
      (.block 1
        (.seq
        (.reg false (.fin [19, 20, 12] [(12, (.un .load (.bin (.idx 1) (.tmp 15) (.tmp 17))))] []))
        (.seq
        (.reg false (.fin [21, 22, 23] [(23, (.bin (.cmp .eql) (.tmp 12) (.un .load (.tmp 4))))] []))
        (.cond (.tmp 23) [23]
          (.reg false (.loud [24, 25, 26] [(24, (.un .load (.tmp 5)))] [(25, (.tmp 0)), (26, (.tmp 1))] none [] false (.build 92 #[(0, (.tmp 25)), (1, (.tmp 26))]) 92 (some 27) true
            (.loud [] [] [(27, (.tmp 27))] none [] false (.buildSlice 90 1 #[(0, (.tmp 27))]) 90 (some 28) true
              (.loud [] [] [(24, (.tmp 24)), (28, (.tmp 28))] none [] false (.call ⟨.builtin .append, #[(.tmp 24), (.tmp 28)], #[90, 90]⟩) 90 (some 29) true
                (.loud [] [] [(5, (.tmp 5)), (29, (.tmp 29))] none [] false (.store 90 (.tmp 5) (.tmp 29)) 0 none false
                  (.fin [] [] []))))))
          .skip))))
      (.reg false (.fin [30, 17] [(17, (.bin (.arith .add) (.tmp 17) (.con (.int .i64 1))))] [])))))
def L.check_Foldable_1.l2 : LC :=
  (.seq
      (.reg false (.fin [34] [(34, (.bin (.cmp .lss) (.tmp 33) (.tmp 32)))] []))
      (.seq
      (.cond (.tmp 34) [34]
        .skip
        (.exit 2))
      (.seq
      (.block 3
        (.seq
        (.reg false (.fin [35, 36, 14] [(14, (.un .load (.bin (.idx 1) (.tmp 31) (.tmp 33))))] []))
        (.seq
        (.reg false (.fin [37, 38, 39] [(39, (.bin (.cmp .eql) (.tmp 14) (.un .load (.tmp 4))))] []))
        (.cond (.tmp 39) [39]
          (.reg false (.loud [40, 41, 42] [(40, (.un .load (.tmp 6)))] [(41, (.tmp 0)), (42, (.tmp 1))] none [] false (.build 92 #[(0, (.tmp 41)), (1, (.tmp 42))]) 92 (some 43) true
            (.loud [] [] [(43, (.tmp 43))] none [] false (.buildSlice 90 1 #[(0, (.tmp 43))]) 90 (some 44) true
              (.loud [] [] [(40, (.tmp 40)), (44, (.tmp 44))] none [] false (.call ⟨.builtin .append, #[(.tmp 40), (.tmp 44)], #[90, 90]⟩) 90 (some 45) true
                (.loud [] [] [(6, (.tmp 6)), (45, (.tmp 45))] none [] false (.store 90 (.tmp 6) (.tmp 45)) 0 none false
                  (.fin [] [] []))))))
          .skip))))
      (.reg false (.fin [46, 33] [(33, (.bin (.arith .add) (.tmp 33) (.con (.int .i64 1))))] [])))))
def L.check_Foldable_1 : LFn :=
⟨[],
  (.seq
  (.seq
  (.reg false (.fin [15, 16, 17] [(15, (.tmp 2)), (16, (.un .len (.tmp 2))), (17, (.con (.int .i64 0)))] []))
  (.block 0
    (.loop L.check_Foldable_1.l1)))
  (.seq
  (.reg false (.fin [31, 32, 33] [(31, (.tmp 3)), (32, (.un .len (.tmp 3))), (33, (.con (.int .i64 0)))] []))
  (.block 2
    (.loop L.check_Foldable_1.l2))))⟩
theorem E.check_Foldable_1 : liftF Try.prog Try.f43 = some L.check_Foldable_1 := by kernel_rfl
theorem F.check_Foldable_1 : Try.prog.funcs[N.check_Foldable_1]? = some Try.f43 := Try.func43

/-- slices.Contains[[]int,int] -/
abbrev N.slices_Contains_int : Nat := 44
def L.slices_Contains_int : LFn :=
⟨[(.tmp 4)],
  (.seq
  (.reg false (.fin [4] [(4, (.con (.bool false)))] []))
  (.seq
  (.reg false (.loud [5, 6] [] [(5, (.tmp 0)), (6, (.tmp 1))] none [] false (.call ⟨.value (.func 69), #[(.tmp 5), (.tmp 6)], #[28, 3]⟩) 3 (some 7) true
    (.fin [8, 4] [(4, (.bin (.cmp .geq) (.tmp 7) (.con (.int .i64 0))))] [])))
  .ret))⟩
theorem E.slices_Contains_int : liftF Try.prog Try.f44 = some L.slices_Contains_int := by kernel_rfl
theorem F.slices_Contains_int : Try.prog.funcs[N.slices_Contains_int]? = some Try.f44 := Try.func44

/-- jacquard/jacquardref03.has -/
abbrev N.ref03_has : Nat := 45
def L.ref03_has.l1 : LC :=
  (.seq
      (.seq
      (.reg false (.fin [7, 8, 9, 10] [(10, (.bin (.cmp .lss) (.tmp 6) (.un .len (.tmp 0))))] []))
      (.cond (.tmp 10) [10]
        .skip
        (.exit 0)))
      (.seq
      (.block 1
        (.seq
        (.reg false (.fin [13, 14, 15, 16, 17, 18] [(18, (.bin (.cmp .eql) (.un .load (.bin (.idx 1) (.tmp 0) (.tmp 6))) (.tmp 1)))] []))
        (.cond (.tmp 18) [18]
          (.reg false (.fin [19, 20, 5] [(5, (.bin (.arith .add) (.tmp 5) (.con (.int .i64 1))))] []))
          .skip)))
      (.reg false (.fin [11, 12, 6] [(6, (.bin (.arith .add) (.tmp 6) (.con (.int .i64 1))))] []))))
def L.ref03_has : LFn :=
⟨[(.tmp 4)],
  (.seq
  (.reg false (.fin [4] [(4, (.con (.int .i64 0)))] []))
  (.seq
  (.reg false (.fin [5] [(5, (.con (.int .i64 0)))] []))
  (.seq
  (.seq
  (.reg false (.fin [6] [(6, (.con (.int .i64 0)))] []))
  (.block 0
    (.loop L.ref03_has.l1)))
  (.seq
  (.reg false (.fin [21, 4] [(4, (.tmp 5))] []))
  .ret))))⟩
theorem E.ref03_has : liftF Try.prog Try.f45 = some L.ref03_has := by kernel_rfl
theorem F.ref03_has : Try.prog.funcs[N.ref03_has]? = some Try.f45 := Try.func45

/-- jacquard/jacquardlaw03.moved -/
abbrev N.law03_moved : Nat := 46
def L.law03_moved : LFn :=
⟨[(.tmp 6)],
  (.seq
  (.reg false (.fin [6] [(6, (.con (.int .i64 0)))] []))
  (.seq
  (.seq
  (.reg false (.fin [7, 8, 9] [(9, (.bin (.cmp .lss) (.tmp 0) (.tmp 1)))] []))
  (.cond (.tmp 9) [9]
    (.seq
    (.reg false (.fin [10, 6] [(6, (.tmp 0))] []))
    .ret)
    .skip))
  (.seq
  (.reg false (.fin [11, 12, 13, 6] [(6, (.bin (.arith .add) (.tmp 0) (.tmp 2)))] []))
  .ret)))⟩
theorem E.law03_moved : liftF Try.prog Try.f46 = some L.law03_moved := by kernel_rfl
theorem F.law03_moved : Try.prog.funcs[N.law03_moved]? = some Try.f46 := Try.func46

/-- jacquard/jacquardref03.shape -/
abbrev N.ref03_shape : Nat := 47
def L.ref03_shape.l2 : LC :=
  (.seq
            (.seq
            (.reg false (.fin [89, 90, 91, 92, 93] [(93, (.bin (.cmp .lss) (.tmp 10) (.un .len (.un .load (.un (.fld 2) (.tmp 6))))))] []))
            (.cond (.tmp 93) [93]
              .skip
              (.exit 2)))
            (.seq
            (.block 3
              (.seq
              (.reg true (.fin [96, 97, 98, 99, 100, 101, 102, 103, 104, 105, 106, 107, 108, 109, 110, 111] [(111, (.ite (.bin (.cmp .lss) (.un .load (.bin (.idx 1) (.un .load (.un (.fld 2) (.tmp 6))) (.tmp 10))) (.un .load (.un (.fld 0) (.tmp 1)))) (.con (.bool true)) (.bin (.cmp .gtr) (.un .load (.bin (.idx 1) (.un .load (.un (.fld 2) (.tmp 6))) (.tmp 10))) (.con (.int .i64 8191)))))] []))
              (.cond (.tmp 111) [111]
                (.seq
                (.reg false (.loud [112, 113, 114, 115] [] [(113, (.un .load (.un (.fld 0) (.tmp 6)))), (115, (.un .load (.un (.fld 1) (.tmp 6))))] none [] false (.build 70 #[(0, (.const (.int .i64 11))), (1, (.tmp 113)), (2, (.tmp 115))]) 70 (some 116) true
                  (.loud [] [] [(2, (.tmp 2)), (116, (.tmp 116))] none [] false (.store 70 (.tmp 2) (.tmp 116)) 0 none false
                    (.fin [] [] []))))
                .ret)
                .skip)))
            (.reg false (.fin [94, 95, 10] [(10, (.bin (.arith .add) (.tmp 10) (.con (.int .i64 1))))] []))))
def L.ref03_shape.l3 : LC :=
  (.seq
            (.seq
            (.reg false (.fin [117, 118, 119, 120, 121] [(121, (.bin (.cmp .lss) (.tmp 11) (.un .len (.un .load (.un (.fld 2) (.tmp 6))))))] []))
            (.cond (.tmp 121) [121]
              .skip
              (.exit 4)))
            (.seq
            (.block 5
              (.seq
              (.seq
              (.reg false (.fin [124, 125, 126, 127, 128, 129, 130, 131] [(131, (.un .load (.bin (.idx 1) (.tmp 3) (.un .load (.bin (.idx 1) (.un .load (.un (.fld 2) (.tmp 6))) (.tmp 11))))))] []))
              (.cond (.tmp 131) [131]
                (.seq
                (.reg false (.loud [132, 133, 134, 135] [] [(133, (.un .load (.un (.fld 0) (.tmp 6)))), (135, (.un .load (.un (.fld 1) (.tmp 6))))] none [] false (.build 70 #[(0, (.const (.int .i64 12))), (1, (.tmp 133)), (2, (.tmp 135))]) 70 (some 136) true
                  (.loud [] [] [(2, (.tmp 2)), (136, (.tmp 136))] none [] false (.store 70 (.tmp 2) (.tmp 136)) 0 none false
                    (.fin [] [] []))))
                .ret)
                .skip))
              (.reg false (.loud [137, 138, 139, 140, 141, 142, 143] [] [(143, (.bin (.idx 1) (.tmp 3) (.un .load (.bin (.idx 1) (.un .load (.un (.fld 2) (.tmp 6))) (.tmp 11)))))] none [] false (.store 4 (.tmp 143) (.const (.bool true))) 0 none false
                (.fin [] [] [])))))
            (.reg false (.fin [122, 123, 11] [(11, (.bin (.arith .add) (.tmp 11) (.con (.int .i64 1))))] []))))
def L.ref03_shape.l4 : LC :=
  (.seq
            (.seq
            (.reg false (.fin [144, 145, 146, 147, 148, 149, 150, 151, 152] [(152, (.ite (.tmp 9) (.bin (.cmp .lss) (.tmp 12) (.un .len (.un .load (.un (.fld 2) (.un (.fld 2) (.tmp 7)))))) (.con (.bool false))))] []))
            (.cond (.tmp 152) [152]
              .skip
              (.exit 6)))
            (.seq
            (.block 7
              (.seq
              (.reg true (.fin [155, 156, 157, 158, 159, 160, 161, 162, 163, 164, 165, 166, 167, 168, 169, 170, 171, 172, 173] [(173, (.ite (.bin (.cmp .lss) (.un .load (.bin (.idx 1) (.un .load (.un (.fld 2) (.un (.fld 2) (.tmp 7)))) (.tmp 12))) (.con (.int .i64 1))) (.con (.bool true)) (.bin (.cmp .geq) (.un .load (.bin (.idx 1) (.un .load (.un (.fld 2) (.un (.fld 2) (.tmp 7)))) (.tmp 12))) (.un .len (.un .load (.un (.fld 1) (.tmp 1)))))))] []))
              (.cond (.tmp 173) [173]
                (.seq
                (.reg false (.loud [174, 175, 176, 177] [] [(175, (.un .load (.un (.fld 0) (.tmp 6)))), (177, (.un .load (.un (.fld 1) (.tmp 6))))] none [] false (.build 70 #[(0, (.const (.int .i64 14))), (1, (.tmp 175)), (2, (.tmp 177))]) 70 (some 178) true
                  (.loud [] [] [(2, (.tmp 2)), (178, (.tmp 178))] none [] false (.store 70 (.tmp 2) (.tmp 178)) 0 none false
                    (.fin [] [] []))))
                .ret)
                .skip)))
            (.reg false (.fin [153, 154, 12] [(12, (.bin (.arith .add) (.tmp 12) (.con (.int .i64 1))))] []))))
def L.ref03_shape.l1 : LC :=
  (.seq
      (.seq
      (.reg false (.fin [16, 17, 18, 19] [(19, (.bin (.cmp .lss) (.tmp 5) (.un .len (.tmp 4))))] []))
      (.cond (.tmp 19) [19]
        .skip
        (.exit 0)))
      (.seq
      (.block 1
        (.seq
        (.reg false (.loud [22, 23, 24, 25] [(25, (.un (.loads 4) (.bin (.idx 4) (.tmp 4) (.tmp 5))))] [] none [] false (.alloc 89) 0 (some 6) true
          (.loud [] [] [(6, (.tmp 6)), (25, (.tmp 25))] none [] false (.store 89 (.tmp 6) (.tmp 25)) 0 none false
            (.fin [] [] []))))
        (.seq
        (.reg false (.loud [26, 27, 28, 29, 30, 31] [(31, (.un (.loads 6) (.bin (.idx 6) (.un .load (.un (.fld 1) (.tmp 1))) (.un .load (.un (.fld 0) (.tmp 6))))))] [] none [] false (.alloc 51) 0 (some 7) true
          (.loud [] [] [(7, (.tmp 7)), (31, (.tmp 31))] none [] false (.store 51 (.tmp 7) (.tmp 31)) 0 none false
            (.fin [] [] []))))
        (.seq
        (.seq
        (.reg false (.fin [32, 33, 34, 35, 36, 37, 38, 39, 40, 41, 42] [(42, (.ite (.bin (.cmp .geq) (.un .load (.un (.fld 1) (.tmp 6))) (.con (.int .i64 0))) (.bin (.cmp .lss) (.un .load (.un (.fld 1) (.tmp 6))) (.un .len (.un .load (.un (.fld 1) (.tmp 7))))) (.con (.bool false))))] []))
        (.cond (.tmp 42) [42]
          (.seq
          (.reg false (.loud [43, 44, 45, 46, 47, 48] [(48, (.un (.loads 5) (.bin (.idx 5) (.un .load (.un (.fld 1) (.tmp 7))) (.un .load (.un (.fld 1) (.tmp 6))))))] [] none [] false (.alloc 58) 0 (some 8) true
            (.loud [] [] [(8, (.tmp 8)), (48, (.tmp 48))] none [] false (.store 58 (.tmp 8) (.tmp 48)) 0 none false
              (.fin [] [] []))))
          (.seq
          (.reg false (.loud [49, 50, 51, 52, 53, 54, 55, 56, 57, 58, 59, 60, 61, 62] [(57, (.ite (.bin (.cmp .lss) (.un .load (.un (.fld 0) (.tmp 8))) (.con (.int .i64 1))) (.con (.bool true)) (.bin (.cmp .gtr) (.un .load (.un (.fld 0) (.tmp 8))) (.con (.int .i64 18)))))] [(59, (.gd (.ite (.bin (.cmp .lss) (.un .load (.un (.fld 0) (.tmp 8))) (.con (.int .i64 1))) (.con (.bool true)) (.bin (.cmp .gtr) (.un .load (.un (.fld 0) (.tmp 8))) (.con (.int .i64 18)))) false (.un .load (.un (.fld 0) (.tmp 8))))), (62, (.gd (.ite (.bin (.cmp .lss) (.un .load (.un (.fld 0) (.tmp 8))) (.con (.int .i64 1))) (.con (.bool true)) (.bin (.cmp .gtr) (.un .load (.un (.fld 0) (.tmp 8))) (.con (.int .i64 18)))) false (.un .len (.un .load (.un (.fld 3) (.tmp 8))))))] (some ((.ite (.bin (.cmp .lss) (.un .load (.un (.fld 0) (.tmp 8))) (.con (.int .i64 1))) (.con (.bool true)) (.bin (.cmp .gtr) (.un .load (.un (.fld 0) (.tmp 8))) (.con (.int .i64 18)))), false)) [] false (.call ⟨.value (.func 70), #[(.tmp 59), (.tmp 62)], #[3, 3]⟩) 4 (some 63) true
            (.fin [64, 65] [(65, (.ite (.tmp 57) (.con (.bool true)) (.un .not (.tmp 63))))] [])))
          (.cond (.tmp 65) [65]
            (.seq
            (.reg false (.loud [66, 67, 68, 69] [] [(67, (.un .load (.un (.fld 0) (.tmp 6)))), (69, (.un .load (.un (.fld 1) (.tmp 6))))] none [] false (.build 70 #[(0, (.const (.int .i64 10))), (1, (.tmp 67)), (2, (.tmp 69))]) 70 (some 70) true
              (.loud [] [] [(2, (.tmp 2)), (70, (.tmp 70))] none [] false (.store 70 (.tmp 2) (.tmp 70)) 0 none false
                (.fin [] [] []))))
            .ret)
            .skip)))
          .skip))
        (.seq
        (.reg false (.fin [71, 72, 73, 74, 75, 76, 9] [(9, (.bin (.cmp .eql) (.un .load (.un (.fld 1) (.tmp 6))) (.un .len (.un .load (.un (.fld 1) (.tmp 7))))))] []))
        (.seq
        (.seq
        (.reg false (.loud [77, 78, 79, 80] [(78, (.tmp 9))] [(80, (.gd (.tmp 9) true (.un (.loads 4) (.un (.fld 2) (.tmp 7)))))] (some ((.tmp 9), true)) [] false (.call ⟨.value (.func 71), #[(.tmp 80)], #[49]⟩) 4 (some 81) true
          (.fin [82, 83] [(83, (.ite (.tmp 78) (.un .not (.tmp 81)) (.con (.bool false))))] [])))
        (.cond (.tmp 83) [83]
          (.seq
          (.reg false (.loud [84, 85, 86, 87] [] [(85, (.un .load (.un (.fld 0) (.tmp 6)))), (87, (.un .load (.un (.fld 1) (.tmp 6))))] none [] false (.build 70 #[(0, (.const (.int .i64 10))), (1, (.tmp 85)), (2, (.tmp 87))]) 70 (some 88) true
            (.loud [] [] [(2, (.tmp 2)), (88, (.tmp 88))] none [] false (.store 70 (.tmp 2) (.tmp 88)) 0 none false
              (.fin [] [] []))))
          .ret)
          .skip))
        (.seq
        (.seq
        (.reg false (.fin [10] [(10, (.con (.int .i64 0)))] []))
        (.block 2
          (.loop L.ref03_shape.l2)))
        (.seq
        (.seq
        (.reg false (.fin [11] [(11, (.con (.int .i64 0)))] []))
        (.block 4
          (.loop L.ref03_shape.l3)))
        (.seq
        (.reg false (.fin [12] [(12, (.con (.int .i64 0)))] []))
        (.block 6
          (.loop L.ref03_shape.l4)))))))))))
      (.reg false (.fin [20, 21, 5] [(5, (.bin (.arith .add) (.tmp 5) (.con (.int .i64 1))))] []))))
def L.ref03_shape : LFn :=
⟨[(.un (.loads 3) (.tmp 2))],
  (.seq
  (.reg false (.loud [] [] [(0, (.tmp 0))] none [] false (.box 24 (.tmp 0)) 0 (some 1) true
    (.loud [] [] [] none [] false (.alloc 70) 0 (some 2) true
      (.fin [] [] []))))
  (.seq
  (.reg false (.loud [] [] [] none [] false (.makeSlice 45 (.const (.int .i64 8192)) (.const (.int .i64 8192))) 45 (some 13) true
    (.fin [3] [(3, (.tmp 13))] [])))
  (.seq
  (.reg false (.loud [14] [] [(14, (.un (.loads 2) (.tmp 1)))] none [] false (.call ⟨.value (.func 41), #[(.tmp 14)], #[24]⟩) 86 (some 15) true
    (.fin [4] [(4, (.tmp 15))] [])))
  (.seq
  (.seq
  (.reg false (.fin [5] [(5, (.con (.int .i64 0)))] []))
  (.block 0
    (.loop L.ref03_shape.l1)))
  (.seq
  (.reg false (.loud [] [] [] none [] false (.build 70 #[]) 70 (some 179) true
    (.loud [] [] [(2, (.tmp 2)), (179, (.tmp 179))] none [] false (.store 70 (.tmp 2) (.tmp 179)) 0 none false
      (.fin [] [] []))))
  .ret)))))⟩
theorem E.ref03_shape : liftF Try.prog Try.f47 = some L.ref03_shape := by kernel_rfl
theorem F.ref03_shape : Try.prog.funcs[N.ref03_shape]? = some Try.f47 := Try.func47

/-- jacquard/jacquardref03.Reached -/
abbrev N.ref03_Reached : Nat := 48
def L.ref03_Reached.l2 : LC :=
  (.seq
            (.seq
            (.reg false (.fin [44, 45, 46, 47] [(47, (.bin (.cmp .lss) (.tmp 9) (.un .len (.tmp 8))))] []))
            (.cond (.tmp 47) [47]
              .skip
              (.exit 2)))
            (.seq
            (.block 3
              (.seq
              (.reg false (.fin [50, 51, 52, 53, 54, 55, 56, 57, 58, 59, 60, 61, 62, 63, 64, 65, 66, 67, 68, 69, 70, 71, 72, 73, 74, 75, 76, 77, 78, 79, 80, 81] [(81, (.ite (.ite (.ite (.bin (.cmp .geq) (.un .load (.bin (.idx 1) (.tmp 8) (.tmp 9))) (.con (.int .i64 0))) (.bin (.cmp .lss) (.un .load (.bin (.idx 1) (.tmp 8) (.tmp 9))) (.un .len (.tmp 5))) (.con (.bool false))) (.un .not (.un .load (.bin (.idx 1) (.tmp 5) (.un .load (.bin (.idx 1) (.tmp 8) (.tmp 9)))))) (.con (.bool false))) (.bin (.cmp .neq) (.un .load (.bin (.idx 1) (.tmp 8) (.tmp 9))) (.tmp 1)) (.con (.bool false))))] []))
              (.cond (.tmp 81) [81]
                (.seq
                (.reg false (.loud [82, 83, 84, 85, 86, 87] [] [(87, (.bin (.idx 1) (.tmp 5) (.un .load (.bin (.idx 1) (.tmp 8) (.tmp 9)))))] none [] false (.store 4 (.tmp 87) (.const (.bool true))) 0 none false
                  (.fin [] [] [])))
                (.reg false (.loud [88, 89, 90, 91, 92] [(88, (.tmp 6))] [(92, (.un .load (.bin (.idx 1) (.tmp 8) (.tmp 9))))] none [] false (.buildSlice 28 1 #[(0, (.tmp 92))]) 28 (some 93) true
                  (.loud [] [] [(88, (.tmp 88)), (93, (.tmp 93))] none [] false (.call ⟨.builtin .append, #[(.tmp 88), (.tmp 93)], #[28, 28]⟩) 28 (some 94) true
                    (.fin [6] [(6, (.tmp 94))] [])))))
                .skip)))
            (.reg false (.fin [48, 49, 9] [(9, (.bin (.arith .add) (.tmp 9) (.con (.int .i64 1))))] []))))
def L.ref03_Reached.l1 : LC :=
  (.seq
      (.seq
      (.reg false (.fin [28, 29, 30, 31] [(31, (.bin (.cmp .lss) (.tmp 7) (.un .len (.tmp 6))))] []))
      (.cond (.tmp 31) [31]
        .skip
        (.exit 0)))
      (.seq
      (.block 1
        (.seq
        (.reg true (.fin [34, 35, 36, 37, 38, 39, 40, 41, 42, 43, 8] [(8, (.un .load (.un (.fld 2) (.un (.fld 2) (.bin (.idx 6) (.un .load (.un (.fld 1) (.tmp 2))) (.un .load (.bin (.idx 1) (.tmp 6) (.tmp 7))))))))] []))
        (.seq
        (.reg false (.fin [9] [(9, (.con (.int .i64 0)))] []))
        (.block 2
          (.loop L.ref03_Reached.l2)))))
      (.reg false (.fin [32, 33, 7] [(7, (.bin (.arith .add) (.tmp 7) (.con (.int .i64 1))))] []))))
def L.ref03_Reached : LFn :=
⟨[(.tmp 4)],
  (.seq
  (.reg false (.loud [] [] [(0, (.tmp 0))] none [] false (.box 24 (.tmp 0)) 0 (some 2) true
    (.fin [4] [(4, (.con (.slice none 0 0)))] [])))
  (.seq
  (.reg false (.loud [10, 11, 12] [] [(12, (.un .len (.un .load (.un (.fld 1) (.tmp 2))))), (12, (.un .len (.un .load (.un (.fld 1) (.tmp 2)))))] none [] false (.makeSlice 45 (.tmp 12) (.tmp 12)) 45 (some 13) true
    (.fin [5] [(5, (.tmp 13))] [])))
  (.seq
  (.reg false (.loud [] [] [] none [] false (.buildSlice 28 0 #[]) 28 (some 14) true
    (.fin [6] [(6, (.tmp 14))] [])))
  (.seq
  (.seq
  (.reg false (.fin [15, 16, 17, 18, 19, 20, 21, 22] [(22, (.ite (.bin (.cmp .neq) (.tmp 1) (.con (.int .i64 0))) (.bin (.cmp .gtr) (.un .len (.un .load (.un (.fld 1) (.tmp 2)))) (.con (.int .i64 0))) (.con (.bool false))))] []))
  (.cond (.tmp 22) [22]
    (.seq
    (.reg false (.loud [23, 24] [] [(24, (.bin (.idx 1) (.tmp 5) (.con (.int .i64 0))))] none [] false (.store 4 (.tmp 24) (.const (.bool true))) 0 none false
      (.fin [] [] [])))
    (.reg false (.loud [25] [(25, (.tmp 6))] [] none [] false (.buildSlice 28 1 #[(0, (.const (.int .i64 0)))]) 28 (some 26) true
      (.loud [] [] [(25, (.tmp 25)), (26, (.tmp 26))] none [] false (.call ⟨.builtin .append, #[(.tmp 25), (.tmp 26)], #[28, 28]⟩) 28 (some 27) true
        (.fin [6] [(6, (.tmp 27))] [])))))
    .skip))
  (.seq
  (.seq
  (.reg false (.fin [7] [(7, (.con (.int .i64 0)))] []))
  (.block 0
    (.loop L.ref03_Reached.l1)))
  (.seq
  (.reg false (.fin [95, 4] [(4, (.tmp 5))] []))
  .ret))))))⟩
theorem E.ref03_Reached : liftF Try.prog Try.f48 = some L.ref03_Reached := by kernel_rfl
theorem F.ref03_Reached : Try.prog.funcs[N.ref03_Reached]? = some Try.f48 := Try.func48

/-- jacquard/jacquardref03.sites -/
abbrev N.ref03_sites : Nat := 49
def L.ref03_sites.l1 : LC :=
  (.seq
      (.seq
      (.reg false (.fin [9, 10] [(10, (.bin (.cmp .lss) (.tmp 4) (.con (.int .i64 8192))))] []))
      (.cond (.tmp 10) [10]
        .skip
        (.exit 0)))
      (.seq
      (.block 1
        (.reg false (.loud [13, 14, 15, 16] [] [(16, (.un (.fld 0) (.bin (.idx 4) (.tmp 3) (.tmp 4))))] none [] false (.store 3 (.tmp 16) (.const (.int .i64 (-1)))) 0 none false
          (.fin [] [] []))))
      (.reg false (.fin [11, 12, 4] [(4, (.bin (.arith .add) (.tmp 4) (.con (.int .i64 1))))] []))))
def L.ref03_sites.l3 : LC :=
  (.seq
            (.seq
            (.reg false (.fin [23, 24, 25, 26, 27, 28, 29, 30] [(30, (.bin (.cmp .lss) (.tmp 6) (.un .len (.un .load (.un (.fld 2) (.bin (.idx 4) (.tmp 0) (.tmp 5)))))))] []))
            (.cond (.tmp 30) [30]
              .skip
              (.exit 4)))
            (.seq
            (.block 5
              (.seq
              (.reg false (.fin [33, 34, 35, 36, 37, 38, 39, 40, 7] [(7, (.un .load (.bin (.idx 1) (.un .load (.un (.fld 2) (.bin (.idx 4) (.tmp 0) (.tmp 5)))) (.tmp 6))))] []))
              (.seq
              (.reg false (.fin [41, 42, 43, 44, 45, 46] [(46, (.ite (.bin (.cmp .geq) (.tmp 7) (.con (.int .i64 0))) (.bin (.cmp .lss) (.tmp 7) (.con (.int .i64 8192))) (.con (.bool false))))] []))
              (.cond (.tmp 46) [46]
                (.reg false (.loud [47, 48, 49, 50, 51, 52, 53] [] [(53, (.bin (.idx 4) (.tmp 3) (.tmp 7))), (52, (.un (.loads 4) (.bin (.idx 4) (.tmp 0) (.tmp 5))))] none [] false (.store 89 (.tmp 53) (.tmp 52)) 0 none false
                  (.fin [] [] [])))
                .skip))))
            (.reg false (.fin [31, 32, 6] [(6, (.bin (.arith .add) (.tmp 6) (.con (.int .i64 1))))] []))))
def L.ref03_sites.l2 : LC :=
  (.seq
      (.seq
      (.reg false (.fin [17, 18, 19, 20] [(20, (.bin (.cmp .lss) (.tmp 5) (.un .len (.tmp 0))))] []))
      (.cond (.tmp 20) [20]
        .skip
        (.exit 2)))
      (.seq
      (.block 3
        (.seq
        (.reg false (.fin [6] [(6, (.con (.int .i64 0)))] []))
        (.block 4
          (.loop L.ref03_sites.l3))))
      (.reg false (.fin [21, 22, 5] [(5, (.bin (.arith .add) (.tmp 5) (.con (.int .i64 1))))] []))))
def L.ref03_sites : LFn :=
⟨[(.tmp 2)],
  (.seq
  (.reg false (.fin [2] [(2, (.con (.slice none 0 0)))] []))
  (.seq
  (.reg false (.loud [] [] [] none [] false (.makeSlice 86 (.const (.int .i64 8192)) (.const (.int .i64 8192))) 86 (some 8) true
    (.fin [3] [(3, (.tmp 8))] [])))
  (.seq
  (.seq
  (.reg false (.fin [4] [(4, (.con (.int .i64 0)))] []))
  (.block 0
    (.loop L.ref03_sites.l1)))
  (.seq
  (.seq
  (.reg false (.fin [5] [(5, (.con (.int .i64 0)))] []))
  (.block 2
    (.loop L.ref03_sites.l2)))
  (.seq
  (.reg false (.fin [54, 2] [(2, (.tmp 3))] []))
  .ret)))))⟩
theorem E.ref03_sites : liftF Try.prog Try.f49 = some L.ref03_sites := by kernel_rfl
theorem F.ref03_sites : Try.prog.funcs[N.ref03_sites]? = some Try.f49 := Try.func49

/-- jacquard/jacquardref03.stands -/
abbrev N.ref03_stands : Nat := 50
def L.ref03_stands : LFn :=
⟨[(.tmp 12)],
  (.seq
  (.reg false (.loud [] [] [(0, (.tmp 0))] none [] false (.box 24 (.tmp 0)) 0 (some 6) true
    (.fin [12] [(12, (.con (.bool false)))] [])))
  (.seq
  (.seq
  (.reg false (.fin [14, 15, 16, 17, 18, 19, 20, 21] [(21, (.ite (.bin (.cmp .geq) (.tmp 3) (.con (.int .i64 0))) (.bin (.cmp .lss) (.tmp 3) (.un .load (.un (.fld 0) (.tmp 6)))) (.con (.bool false))))] []))
  (.cond (.tmp 21) [21]
    (.seq
    (.reg false (.fin [12] [(12, (.con (.bool true)))] []))
    .ret)
    .skip))
  (.seq
  (.seq
  (.reg false (.fin [22, 23, 24, 25, 26, 27, 28, 29, 30, 31, 32, 33, 34, 35] [(35, (.ite (.ite (.bin (.cmp .lss) (.tmp 3) (.con (.int .i64 0))) (.con (.bool true)) (.bin (.cmp .gtr) (.tmp 3) (.con (.int .i64 8191)))) (.con (.bool true)) (.bin (.cmp .lss) (.un .load (.un (.fld 0) (.bin (.idx 4) (.tmp 1) (.tmp 3)))) (.con (.int .i64 0)))))] []))
  (.cond (.tmp 35) [35]
    (.seq
    (.reg false (.fin [12] [(12, (.con (.bool false)))] []))
    .ret)
    .skip))
  (.seq
  (.reg false (.loud [36, 37, 38, 39] [(39, (.un (.loads 4) (.bin (.idx 4) (.tmp 1) (.tmp 3))))] [] none [] false (.alloc 89) 0 (some 13) true
    (.loud [] [] [(13, (.tmp 13)), (39, (.tmp 39))] none [] false (.store 89 (.tmp 13) (.tmp 39)) 0 none false
      (.fin [] [] []))))
  (.seq
  (.seq
  (.reg false (.fin [40, 41, 42, 43] [(43, (.bin (.cmp .eql) (.un .load (.un (.fld 0) (.tmp 13))) (.tmp 4)))] []))
  (.cond (.tmp 43) [43]
    (.seq
    (.reg false (.fin [44, 45, 46, 47, 48, 49, 50, 51, 52, 12] [(12, (.ite (.bin (.cmp .lss) (.un .load (.un (.fld 1) (.tmp 13))) (.con (.int .i64 0))) (.con (.bool true)) (.bin (.cmp .lss) (.un .load (.un (.fld 1) (.tmp 13))) (.tmp 5))))] []))
    .ret)
    .skip))
  (.seq
  (.reg false (.fin [53, 54, 55, 56, 57, 58, 59, 60, 61, 12] [(12, (.un .not (.un .load (.bin (.idx 1) (.un .load (.bin (.idx 1) (.tmp 2) (.un .load (.un (.fld 0) (.tmp 13))))) (.tmp 4)))))] []))
  .ret))))))⟩
theorem E.ref03_stands : liftF Try.prog Try.f50 = some L.ref03_stands := by kernel_rfl
theorem F.ref03_stands : Try.prog.funcs[N.ref03_stands]? = some Try.f50 := Try.func50

/-- jacquard/jacquardref03.Preds -/
abbrev N.ref03_Preds : Nat := 51
def L.ref03_Preds.l2 : LC :=
  (.seq
            (.seq
            (.reg false (.fin [24, 25, 26, 27] [(27, (.bin (.cmp .lss) (.tmp 8) (.un .len (.tmp 7))))] []))
            (.cond (.tmp 27) [27]
              .skip
              (.exit 2)))
            (.seq
            (.block 3
              (.seq
              (.reg false (.fin [30, 31, 32, 33, 34, 35] [(35, (.bin (.cmp .eql) (.un .load (.bin (.idx 1) (.tmp 7) (.tmp 8))) (.tmp 1)))] []))
              (.cond (.tmp 35) [35]
                (.seq
                (.reg false (.loud [36, 37] [(36, (.tmp 5))] [(37, (.tmp 6))] none [] false (.buildSlice 28 1 #[(0, (.tmp 37))]) 28 (some 38) true
                  (.loud [] [] [(36, (.tmp 36)), (38, (.tmp 38))] none [] false (.call ⟨.builtin .append, #[(.tmp 36), (.tmp 38)], #[28, 28]⟩) 28 (some 39) true
                    (.fin [5] [(5, (.tmp 39))] []))))
                (.exit 2))
                .skip)))
            (.reg false (.fin [28, 29, 8] [(8, (.bin (.arith .add) (.tmp 8) (.con (.int .i64 1))))] []))))
def L.ref03_Preds.l1 : LC :=
  (.seq
      (.seq
      (.reg false (.fin [10, 11, 12, 13, 14] [(14, (.bin (.cmp .lss) (.tmp 6) (.un .len (.un .load (.un (.fld 1) (.tmp 2))))))] []))
      (.cond (.tmp 14) [14]
        .skip
        (.exit 0)))
      (.seq
      (.block 1
        (.seq
        (.reg false (.fin [17, 18, 19, 20, 21, 22, 23, 7] [(7, (.un .load (.un (.fld 2) (.un (.fld 2) (.bin (.idx 6) (.un .load (.un (.fld 1) (.tmp 2))) (.tmp 6))))))] []))
        (.seq
        (.reg false (.fin [8] [(8, (.con (.int .i64 0)))] []))
        (.block 2
          (.loop L.ref03_Preds.l2)))))
      (.reg false (.fin [15, 16, 6] [(6, (.bin (.arith .add) (.tmp 6) (.con (.int .i64 1))))] []))))
def L.ref03_Preds : LFn :=
⟨[(.tmp 4)],
  (.seq
  (.reg false (.loud [] [] [(0, (.tmp 0))] none [] false (.box 24 (.tmp 0)) 0 (some 2) true
    (.fin [4] [(4, (.con (.slice none 0 0)))] [])))
  (.seq
  (.reg false (.loud [] [] [] none [] false (.buildSlice 28 0 #[]) 28 (some 9) true
    (.fin [5] [(5, (.tmp 9))] [])))
  (.seq
  (.seq
  (.reg false (.fin [6] [(6, (.con (.int .i64 0)))] []))
  (.block 0
    (.loop L.ref03_Preds.l1)))
  (.seq
  (.reg false (.fin [40, 4] [(4, (.tmp 5))] []))
  .ret))))⟩
theorem E.ref03_Preds : liftF Try.prog Try.f51 = some L.ref03_Preds := by kernel_rfl
theorem F.ref03_Preds : Try.prog.funcs[N.ref03_Preds]? = some Try.f51 := Try.func51

/-- (*jacquard/jacquardref03.maker).targets -/
abbrev N.ref03_maker_targets : Nat := 52
def L.ref03_maker_targets.l1 : LC :=
  (.seq
      (.seq
      (.reg false (.fin [14, 15, 16] [(16, (.bin (.cmp .lss) (.tmp 6) (.tmp 1)))] []))
      (.cond (.tmp 16) [16]
        .skip
        (.exit 0)))
      (.seq
      (.block 1
        (.seq
        (.reg false (.fin [19, 20, 7] [(7, (.bin (.arith .sub) (.tmp 6) (.con (.int .i64 1))))] []))
        (.seq
        (.seq
        (.reg false (.loud [21] [] [(21, (.tmp 0))] none [] false (.call ⟨.value (.func 33), #[(.tmp 21), (.const (.int .i64 3))], #[72, 3]⟩) 3 (some 22) true
          (.fin [23] [(23, (.bin (.cmp .eql) (.tmp 22) (.con (.int .i64 0))))] [])))
        (.cond (.tmp 23) [23]
          (.reg false (.loud [24, 25] [] [(24, (.tmp 0)), (25, (.tmp 6))] none [] false (.call ⟨.value (.func 33), #[(.tmp 24), (.tmp 25)], #[72, 3]⟩) 3 (some 26) true
            (.fin [7] [(7, (.tmp 26))] [])))
          .skip))
        (.reg false (.loud [27, 28, 29, 30, 31, 32, 33] [(27, (.tmp 5)), (28, (.tmp 7)), (32, (.un .load (.bin (.idx 1) (.tmp 5) (.tmp 7))))] [(33, (.tmp 6))] none [] false (.buildSlice 28 1 #[(0, (.tmp 33))]) 28 (some 34) true
          (.loud [] [] [(32, (.tmp 32)), (34, (.tmp 34))] none [] false (.call ⟨.builtin .append, #[(.tmp 32), (.tmp 34)], #[28, 28]⟩) 28 (some 35) true
            (.loud [36] [] [(36, (.bin (.idx 1) (.tmp 27) (.tmp 28))), (35, (.tmp 35))] none [] false (.store 28 (.tmp 36) (.tmp 35)) 0 none false
              (.fin [] [] []))))))))
      (.reg false (.fin [17, 18, 6] [(6, (.bin (.arith .add) (.tmp 6) (.con (.int .i64 1))))] []))))
def L.ref03_maker_targets.l3 : LC :=
  (.seq
            (.seq
            (.reg false (.fin [44, 45, 46, 47, 48, 49, 50, 51] [(51, (.ite (.bin (.cmp .lss) (.tmp 10) (.bin (.arith .sub) (.tmp 9) (.con (.int .i64 3)))) (.bin (.cmp .gtr) (.tmp 1) (.con (.int .i64 1))) (.con (.bool false))))] []))
            (.cond (.tmp 51) [51]
              .skip
              (.exit 4)))
            (.seq
            (.block 5
              (.seq
              (.reg false (.loud [54, 55, 56] [] [(54, (.tmp 0)), (56, (.bin (.arith .sub) (.tmp 1) (.con (.int .i64 1))))] none [] false (.call ⟨.value (.func 33), #[(.tmp 54), (.tmp 56)], #[72, 3]⟩) 3 (some 57) true
                (.fin [58, 11] [(11, (.bin (.arith .add) (.con (.int .i64 1)) (.tmp 57)))] [])))
              (.seq
              (.seq
              (.reg false (.loud [59, 60, 61, 62, 63] [(62, (.bin (.cmp .leq) (.tmp 11) (.tmp 8)))] [(63, (.gd (.bin (.cmp .leq) (.tmp 11) (.tmp 8)) true (.tmp 0)))] (some ((.bin (.cmp .leq) (.tmp 11) (.tmp 8)), true)) [] false (.call ⟨.value (.func 33), #[(.tmp 63), (.const (.int .i64 2))], #[72, 3]⟩) 3 (some 64) true
                (.fin [65, 66] [(66, (.ite (.tmp 62) (.bin (.cmp .eql) (.tmp 64) (.con (.int .i64 0))) (.con (.bool false))))] [])))
              (.cond (.tmp 66) [66]
                (.reg false (.fin [67, 68, 69, 70, 71, 11] [(11, (.bin .min (.bin (.arith .add) (.tmp 8) (.con (.int .i64 1))) (.bin (.arith .sub) (.tmp 1) (.con (.int .i64 1)))))] []))
                .skip))
              (.reg false (.loud [72, 73, 74, 75, 76, 77, 78] [(72, (.tmp 5)), (73, (.tmp 8)), (77, (.un .load (.bin (.idx 1) (.tmp 5) (.tmp 8))))] [(78, (.tmp 11))] none [] false (.buildSlice 28 1 #[(0, (.tmp 78))]) 28 (some 79) true
                (.loud [] [] [(77, (.tmp 77)), (79, (.tmp 79))] none [] false (.call ⟨.builtin .append, #[(.tmp 77), (.tmp 79)], #[28, 28]⟩) 28 (some 80) true
                  (.loud [81] [] [(81, (.bin (.idx 1) (.tmp 72) (.tmp 73))), (80, (.tmp 80))] none [] false (.store 28 (.tmp 81) (.tmp 80)) 0 none false
                    (.fin [] [] []))))))))
            (.reg false (.fin [52, 53, 10] [(10, (.bin (.arith .add) (.tmp 10) (.con (.int .i64 1))))] []))))
def L.ref03_maker_targets.l2 : LC :=
  (.seq
      (.seq
      (.reg false (.fin [37, 38, 39] [(39, (.bin (.cmp .lss) (.tmp 8) (.tmp 1)))] []))
      (.cond (.tmp 39) [39]
        .skip
        (.exit 2)))
      (.seq
      (.block 3
        (.seq
        (.reg false (.loud [42] [] [(42, (.tmp 0))] none [] false (.call ⟨.value (.func 33), #[(.tmp 42), (.const (.int .i64 6))], #[72, 3]⟩) 3 (some 43) true
          (.fin [9] [(9, (.tmp 43))] [])))
        (.seq
        (.reg false (.fin [10] [(10, (.con (.int .i64 0)))] []))
        (.block 4
          (.loop L.ref03_maker_targets.l3)))))
      (.reg false (.fin [40, 41, 8] [(8, (.bin (.arith .add) (.tmp 8) (.con (.int .i64 1))))] []))))
def L.ref03_maker_targets : LFn :=
⟨[(.tmp 4)],
  (.seq
  (.reg false (.fin [4] [(4, (.con (.slice none 0 0)))] []))
  (.seq
  (.reg false (.loud [12] [] [(12, (.tmp 1)), (12, (.tmp 1))] none [] false (.makeSlice 99 (.tmp 12) (.tmp 12)) 99 (some 13) true
    (.fin [5] [(5, (.tmp 13))] [])))
  (.seq
  (.seq
  (.reg false (.fin [6] [(6, (.con (.int .i64 1)))] []))
  (.block 0
    (.loop L.ref03_maker_targets.l1)))
  (.seq
  (.seq
  (.reg false (.fin [8] [(8, (.con (.int .i64 0)))] []))
  (.block 2
    (.loop L.ref03_maker_targets.l2)))
  (.seq
  (.reg false (.fin [82, 4] [(4, (.tmp 5))] []))
  .ret)))))⟩
theorem E.ref03_maker_targets : liftF Try.prog Try.f52 = some L.ref03_maker_targets := by kernel_rfl
theorem F.ref03_maker_targets : Try.prog.funcs[N.ref03_maker_targets]? = some Try.f52 := Try.func52

/-- (*jacquard/jacquardref03.maker).fresh -/
abbrev N.ref03_maker_fresh : Nat := 53
def L.ref03_maker_fresh : LFn :=
⟨[(.tmp 2)],
  (.seq
  (.reg false (.fin [2] [(2, (.con (.int .i64 0)))] []))
  (.seq
  (.reg false (.loud [3, 4, 5, 6, 7, 8, 9, 10] [] [(10, (.un (.fld 4) (.un .nilPtr (.tmp 0)))), (8, (.bin (.arith .add) (.un .load (.un (.fld 4) (.un .nilPtr (.tmp 0)))) (.con (.int .i64 1))))] none [] false (.store 3 (.tmp 10) (.tmp 8)) 0 none false
    (.fin [] [] [])))
  (.seq
  (.reg false (.fin [11, 12, 13, 14, 15, 2] [(2, (.bin (.arith .sub) (.un .load (.un (.fld 4) (.un .nilPtr (.tmp 0)))) (.con (.int .i64 1))))] []))
  .ret)))⟩
theorem E.ref03_maker_fresh : liftF Try.prog Try.f53 = some L.ref03_maker_fresh := by kernel_rfl
theorem F.ref03_maker_fresh : Try.prog.funcs[N.ref03_maker_fresh]? = some Try.f53 := Try.func53

/-- (*jacquard/jacquardref03.maker).instruction -/
abbrev N.ref03_maker_instruction : Nat := 54
def L.ref03_maker_instruction.l1 : LC :=
  (.seq
                  (.seq
                  (.reg false (.fin [120, 121, 122] [(122, (.bin (.cmp .lss) (.tmp 14) (.tmp 13)))] []))
                  (.cond (.tmp 122) [122]
                    .skip
                    (.exit 1)))
                  (.seq
                  (.block 2
                    (.reg false (.loud [125, 126, 127] [(125, (.tmp 12))] [(126, (.tmp 0)), (127, (.tmp 1))] none [] false (.call ⟨.value (.func 72), #[(.tmp 126), (.tmp 127)], #[72, 3]⟩) 3 (some 128) true
                      (.loud [] [] [(128, (.tmp 128))] none [] false (.buildSlice 28 1 #[(0, (.tmp 128))]) 28 (some 129) true
                        (.loud [] [] [(125, (.tmp 125)), (129, (.tmp 129))] none [] false (.call ⟨.builtin .append, #[(.tmp 125), (.tmp 129)], #[28, 28]⟩) 28 (some 130) true
                          (.fin [12] [(12, (.tmp 130))] []))))))
                  (.reg false (.fin [123, 124, 14] [(14, (.bin (.arith .add) (.tmp 14) (.con (.int .i64 1))))] []))))
def L.ref03_maker_instruction : LFn :=
⟨[],
  (.seq
  (.reg false (.loud [18] [] [(18, (.tmp 0))] none [] false (.call ⟨.value (.func 33), #[(.tmp 18), (.const (.int .i64 20))], #[72, 3]⟩) 3 (some 19) true
    (.fin [4] [(4, (.tmp 19))] [])))
  (.block 0
    (.seq
    (.reg false (.fin [26, 27, 25] [(25, (.bin (.cmp .lss) (.tmp 4) (.con (.int .i64 12))))] []))
    (.cond (.tmp 25) [25]
      (.seq
      (.reg false (.loud [] [] [] none [] false (.build 121 #[(0, (.const (.int .i64 2))), (1, (.const (.int .i64 2))), (2, (.const (.int .i64 3))), (3, (.const (.int .i64 4))), (4, (.const (.int .i64 5))), (5, (.const (.int .i64 6))), (6, (.const (.int .i64 7))), (7, (.const (.int .i64 8))), (8, (.const (.int .i64 9))), (9, (.const (.int .i64 10))), (10, (.const (.int .i64 12))), (11, (.const (.int .i64 11)))]) 121 (some 28) true
        (.loud [] [] [] none [] false (.alloc 121) 0 (some 5) true
          (.loud [] [] [(5, (.tmp 5)), (28, (.tmp 28))] none [] false (.store 121 (.tmp 5) (.tmp 28)) 0 none false
            (.fin [] [] [])))))
      (.seq
      (.reg false (.loud [29, 30] [] [(29, (.tmp 0)), (30, (.tmp 1))] none [] false (.call ⟨.value (.func 72), #[(.tmp 29), (.tmp 30)], #[72, 3]⟩) 3 (some 31) true
        (.fin [6] [(6, (.tmp 31))] [])))
      (.seq
      (.reg false (.loud [32, 33] [] [(32, (.tmp 0)), (33, (.tmp 1))] none [] false (.call ⟨.value (.func 72), #[(.tmp 32), (.tmp 33)], #[72, 3]⟩) 3 (some 34) true
        (.fin [7] [(7, (.tmp 34))] [])))
      (.seq
      (.seq
      (.reg false (.loud [35] [] [(35, (.tmp 0))] none [] false (.call ⟨.value (.func 33), #[(.tmp 35), (.const (.int .i64 3))], #[72, 3]⟩) 3 (some 36) true
        (.fin [37] [(37, (.bin (.cmp .eql) (.tmp 36) (.con (.int .i64 0))))] [])))
      (.cond (.tmp 37) [37]
        (.reg false (.loud [38, 39, 40] [(38, (.tmp 0)), (39, (.tmp 1))] [(40, (.tmp 0))] none [] false (.call ⟨.value (.func 33), #[(.tmp 40), (.const (.int .i64 40))], #[72, 3]⟩) 3 (some 41) true
          (.loud [42, 43] [] [(38, (.tmp 38)), (39, (.tmp 39)), (43, (.un (.conv .i32) (.bin (.arith .sub) (.tmp 41) (.con (.int .i64 8)))))] none [] false (.call ⟨.value (.func 57), #[(.tmp 38), (.tmp 39), (.tmp 43)], #[72, 3, 21]⟩) 3 (some 44) true
            (.fin [7] [(7, (.tmp 44))] []))))
        .skip))
      (.reg true (.both
        (.loud [45, 46, 47, 48, 49, 50, 52, 53] [(45, (.tmp 0)), (46, (.tmp 1)), (49, (.un .load (.bin (.aidx 12 1) (.tmp 5) (.tmp 4)))), (52, (.tmp 6)), (53, (.tmp 7))] [(50, (.tmp 0))] none [] false (.call ⟨.value (.func 53), #[(.tmp 50)], #[72]⟩) 3 (some 51) true
          (.loud [] [] [(52, (.tmp 52)), (53, (.tmp 53))] none [] false (.buildSlice 28 2 #[(0, (.tmp 52)), (1, (.tmp 53))]) 28 (some 54) true
            (.loud [] [] [(49, (.tmp 49)), (51, (.tmp 51)), (54, (.tmp 54))] none [] true (.build 58 #[(0, (.tmp 49)), (1, (.tmp 51)), (3, (.tmp 54))]) 58 (some 55) true
              (.loud [] [] [(45, (.tmp 45)), (46, (.tmp 46)), (55, (.tmp 55))] none [] false (.call ⟨.value (.func 73), #[(.tmp 45), (.tmp 46), (.tmp 55)], #[72, 3, 58]⟩) 0 (some 56) false
                (.fin [] [] [])))))
        (.loud [45, 46, 47, 48, 49, 50, 52, 53] [(45, (.tmp 0)), (46, (.tmp 1)), (49, (.un .load (.bin (.aidx 12 1) (.tmp 5) (.tmp 4)))), (50, (.tmp 0))] [(52, (.tmp 6)), (53, (.tmp 7))] none [] false (.buildSlice 28 2 #[(0, (.tmp 52)), (1, (.tmp 53))]) 28 (some 54) true
          (.loud [] [] [(50, (.tmp 50))] none [] false (.call ⟨.value (.func 53), #[(.tmp 50)], #[72]⟩) 3 (some 51) true
            (.loud [] [] [(49, (.tmp 49)), (51, (.tmp 51)), (54, (.tmp 54))] none [] true (.build 58 #[(0, (.tmp 49)), (1, (.tmp 51)), (3, (.tmp 54))]) 58 (some 55) true
              (.loud [] [] [(45, (.tmp 45)), (46, (.tmp 46)), (55, (.tmp 55))] none [] false (.call ⟨.value (.func 73), #[(.tmp 45), (.tmp 46), (.tmp 55)], #[72, 3, 58]⟩) 0 (some 56) false
                (.fin [] [] [])))))))))))
      (.seq
      (.reg false (.fin [58, 59, 57] [(57, (.bin (.cmp .eql) (.tmp 4) (.con (.int .i64 12))))] []))
      (.cond (.tmp 57) [57]
        (.seq
        (.reg false (.loud [60, 61] [] [(60, (.tmp 0)), (61, (.tmp 1))] none [] false (.call ⟨.value (.func 72), #[(.tmp 60), (.tmp 61)], #[72, 3]⟩) 3 (some 62) true
          (.fin [8] [(8, (.tmp 62))] [])))
        (.seq
        (.reg false (.loud [63, 64] [] [(63, (.tmp 0)), (64, (.tmp 1))] none [] false (.call ⟨.value (.func 72), #[(.tmp 63), (.tmp 64)], #[72, 3]⟩) 3 (some 65) true
          (.fin [9] [(9, (.tmp 65))] [])))
        (.reg false (.loud [66, 67, 68] [(66, (.tmp 0)), (67, (.tmp 1))] [(68, (.tmp 0))] none [] false (.call ⟨.value (.func 53), #[(.tmp 68)], #[72]⟩) 3 (some 69) true
          (.loud [70, 71] [] [(70, (.tmp 8)), (71, (.tmp 9))] none [] false (.buildSlice 28 2 #[(0, (.tmp 70)), (1, (.tmp 71))]) 28 (some 72) true
            (.loud [] [] [(69, (.tmp 69)), (72, (.tmp 72))] none [] false (.build 58 #[(0, (.const (.int .i64 13))), (1, (.tmp 69)), (3, (.tmp 72))]) 58 (some 73) true
              (.loud [] [] [(66, (.tmp 66)), (67, (.tmp 67)), (73, (.tmp 73))] none [] false (.call ⟨.value (.func 73), #[(.tmp 66), (.tmp 67), (.tmp 73)], #[72, 3, 58]⟩) 0 (some 74) false
                (.fin [] [] []))))))))
        (.seq
        (.reg false (.fin [76, 77, 75] [(75, (.bin (.cmp .eql) (.tmp 4) (.con (.int .i64 13))))] []))
        (.cond (.tmp 75) [75]
          (.seq
          (.reg false (.loud [78, 79] [] [(78, (.tmp 0)), (79, (.tmp 1))] none [] false (.call ⟨.value (.func 72), #[(.tmp 78), (.tmp 79)], #[72, 3]⟩) 3 (some 80) true
            (.fin [10] [(10, (.tmp 80))] [])))
          (.seq
          (.reg false (.loud [81, 82, 83] [(81, (.tmp 0)), (82, (.tmp 1))] [(83, (.tmp 0))] none [] false (.call ⟨.value (.func 33), #[(.tmp 83), (.const (.int .i64 12))], #[72, 3]⟩) 3 (some 84) true
            (.loud [85] [] [(81, (.tmp 81)), (82, (.tmp 82)), (85, (.un (.conv .i32) (.tmp 84)))] none [] false (.call ⟨.value (.func 57), #[(.tmp 81), (.tmp 82), (.tmp 85)], #[72, 3, 21]⟩) 3 (some 86) true
              (.fin [11] [(11, (.tmp 86))] []))))
          (.seq
          (.seq
          (.reg false (.loud [87] [] [(87, (.tmp 0))] none [] false (.call ⟨.value (.func 33), #[(.tmp 87), (.const (.int .i64 3))], #[72, 3]⟩) 3 (some 88) true
            (.fin [89] [(89, (.bin (.cmp .gtr) (.tmp 88) (.con (.int .i64 0))))] [])))
          (.cond (.tmp 89) [89]
            (.reg false (.loud [90, 91, 92] [(90, (.tmp 0)), (91, (.tmp 1))] [(92, (.tmp 0))] none [] false (.call ⟨.value (.func 33), #[(.tmp 92), (.const (.int .i64 12))], #[72, 3]⟩) 3 (some 93) true
              (.loud [94, 95] [] [(90, (.tmp 90)), (91, (.tmp 91)), (95, (.bin (.arith .add) (.con (.int .i32 1)) (.un (.conv .i32) (.tmp 93))))] none [] false (.call ⟨.value (.func 57), #[(.tmp 90), (.tmp 91), (.tmp 95)], #[72, 3, 21]⟩) 3 (some 96) true
                (.fin [11] [(11, (.tmp 96))] []))))
            .skip))
          (.reg false (.loud [97, 98, 99] [(97, (.tmp 0)), (98, (.tmp 1))] [(99, (.tmp 0))] none [] false (.call ⟨.value (.func 53), #[(.tmp 99)], #[72]⟩) 3 (some 100) true
            (.loud [101, 102] [] [(101, (.tmp 10)), (102, (.tmp 11))] none [] false (.buildSlice 28 2 #[(0, (.tmp 101)), (1, (.tmp 102))]) 28 (some 103) true
              (.loud [] [] [(100, (.tmp 100)), (103, (.tmp 103))] none [] false (.build 58 #[(0, (.const (.int .i64 14))), (1, (.tmp 100)), (3, (.tmp 103))]) 58 (some 104) true
                (.loud [] [] [(97, (.tmp 97)), (98, (.tmp 98)), (104, (.tmp 104))] none [] false (.call ⟨.value (.func 73), #[(.tmp 97), (.tmp 98), (.tmp 104)], #[72, 3, 58]⟩) 0 (some 105) false
                  (.fin [] [] [])))))))))
          (.seq
          (.reg false (.fin [107, 108, 106] [(106, (.bin (.cmp .lss) (.tmp 4) (.con (.int .i64 16))))] []))
          (.cond (.tmp 106) [106]
            (.reg false (.loud [109, 110, 111, 112] [] [(109, (.tmp 0)), (110, (.tmp 1)), (112, (.bin (.cmp .eql) (.tmp 4) (.con (.int .i64 15))))] none [] false (.call ⟨.value (.func 74), #[(.tmp 109), (.tmp 110), (.tmp 112)], #[72, 3, 4]⟩) 0 (some 113) false
              (.fin [] [] [])))
            (.seq
            (.reg false (.fin [115, 116, 114] [(114, (.bin (.cmp .eql) (.tmp 4) (.con (.int .i64 16))))] []))
            (.cond (.tmp 114) [114]
              (.seq
              (.reg false (.loud [] [] [] none [] false (.buildSlice 28 0 #[]) 28 (some 117) true
                (.fin [12] [(12, (.tmp 117))] [])))
              (.seq
              (.reg false (.loud [118] [] [(118, (.tmp 0))] none [] false (.call ⟨.value (.func 33), #[(.tmp 118), (.const (.int .i64 5))], #[72, 3]⟩) 3 (some 119) true
                (.fin [13] [(13, (.tmp 119))] [])))
              (.seq
              (.seq
              (.reg false (.fin [14] [(14, (.con (.int .i64 0)))] []))
              (.block 1
                (.loop L.ref03_maker_instruction.l1)))
              (.reg false (.loud [131, 132, 133] [(131, (.tmp 0)), (132, (.tmp 1))] [(133, (.tmp 0))] none [] false (.call ⟨.value (.func 53), #[(.tmp 133)], #[72]⟩) 3 (some 134) true
                (.loud [135, 136] [(135, (.tmp 12))] [(136, (.tmp 0))] none [] false (.call ⟨.value (.func 33), #[(.tmp 136), (.const (.int .i64 5))], #[72, 3]⟩) 3 (some 137) true
                  (.loud [138] [] [(134, (.tmp 134)), (135, (.tmp 135)), (138, (.un (.conv .i32) (.tmp 137)))] none [] false (.build 58 #[(0, (.const (.int .i64 17))), (1, (.tmp 134)), (3, (.tmp 135)), (4, (.tmp 138))]) 58 (some 139) true
                    (.loud [] [] [(131, (.tmp 131)), (132, (.tmp 132)), (139, (.tmp 139))] none [] false (.call ⟨.value (.func 73), #[(.tmp 131), (.tmp 132), (.tmp 139)], #[72, 3, 58]⟩) 0 (some 140) false
                      (.fin [] [] [])))))))))
              (.seq
              (.reg false (.fin [142, 143, 141] [(141, (.bin (.cmp .eql) (.tmp 4) (.con (.int .i64 17))))] []))
              (.cond (.tmp 141) [141]
                (.seq
                (.reg false (.loud [144, 145] [] [(144, (.tmp 0)), (145, (.tmp 1))] none [] false (.call ⟨.value (.func 72), #[(.tmp 144), (.tmp 145)], #[72, 3]⟩) 3 (some 146) true
                  (.fin [15] [(15, (.tmp 146))] [])))
                (.seq
                (.reg false (.loud [147, 148] [] [(147, (.tmp 0)), (148, (.tmp 1))] none [] false (.call ⟨.value (.func 72), #[(.tmp 147), (.tmp 148)], #[72, 3]⟩) 3 (some 149) true
                  (.fin [16] [(16, (.tmp 149))] [])))
                (.seq
                (.reg false (.loud [150] [] [(150, (.tmp 0))] none [] false (.call ⟨.value (.func 53), #[(.tmp 150)], #[72]⟩) 3 (some 151) true
                  (.fin [17] [(17, (.tmp 151))] [])))
                (.reg false (.loud [152, 153, 154, 155] [(152, (.tmp 0)), (153, (.tmp 1)), (154, (.tmp 17))] [(155, (.tmp 0))] none [] false (.call ⟨.value (.func 53), #[(.tmp 155)], #[72]⟩) 3 (some 156) true
                  (.loud [157, 158] [] [(157, (.tmp 15)), (158, (.tmp 16))] none [] false (.buildSlice 28 2 #[(0, (.tmp 157)), (1, (.tmp 158))]) 28 (some 159) true
                    (.loud [] [] [(154, (.tmp 154)), (156, (.tmp 156)), (159, (.tmp 159))] none [] false (.build 58 #[(0, (.const (.int .i64 18))), (1, (.tmp 154)), (2, (.tmp 156)), (3, (.tmp 159))]) 58 (some 160) true
                      (.loud [] [] [(152, (.tmp 152)), (153, (.tmp 153)), (160, (.tmp 160))] none [] false (.call ⟨.value (.func 73), #[(.tmp 152), (.tmp 153), (.tmp 160)], #[72, 3, 58]⟩) 0 (some 161) false
                        (.fin [] [] [])))))))))
                (.reg false (.loud [20, 21, 22] [(20, (.tmp 0)), (21, (.tmp 1))] [(22, (.tmp 0))] none [] false (.call ⟨.value (.func 58), #[(.tmp 22)], #[72]⟩) 21 (some 23) true
                  (.loud [] [] [(20, (.tmp 20)), (21, (.tmp 21)), (23, (.tmp 23))] none [] false (.call ⟨.value (.func 57), #[(.tmp 20), (.tmp 21), (.tmp 23)], #[72, 3, 21]⟩) 3 (some 24) false
                    (.fin [] [] []))))))))))))))))))⟩
theorem E.ref03_maker_instruction : liftF Try.prog Try.f54 = some L.ref03_maker_instruction := by kernel_rfl
theorem F.ref03_maker_instruction : Try.prog.funcs[N.ref03_maker_instruction]? = some Try.f54 := Try.func54

end Go.Proofs.Ytfelpjfopgiabaa

