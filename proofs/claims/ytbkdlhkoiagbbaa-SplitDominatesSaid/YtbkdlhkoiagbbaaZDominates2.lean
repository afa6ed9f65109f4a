/- A part of the proof: Lb, Lc, Ld, Le, Shelf, Wk, Wl, Wm, Wn, Wo, Wq, Wr, Ws. -/
import Derived.Test.YtbkdlhkoiagbbaaZDominates1
import Derived.Test.YtbkdlhkoiagbbaaProg
import Derived.KernelRfl
import Derived.Shelf.Small.Bits
import Derived.Shelf.Small.Wraps
import Derived.Shelf.Strconv.Itoa0
import Derived.Shelf.Sort.Plain
import Derived.Shelf.Slices.Turned
import Derived.Shelf.Slices.Reverse
import Derived.Ground.Names2Prog
import Derived.Shelf.Slices.CompactI
import Derived.Shelf.Slices.SearchI
import Derived.Shelf.Slices.Cells
import Derived.Shelf.Slices.In.SortNone
set_option linter.unusedSimpArgs false
set_option linter.unusedVariables false
namespace Go.Proofs.Ytbkdlhkoiagbbaa
open Go Go.Lft
set_option maxRecDepth 100000
abbrev N.bH:Nat:=10
def L.bH.l1:LC:=
 (.seq (.reg false (.fin [45] [(45,.bin (.cmp .lss) (.tmp 44) (.tmp 43))] [])) (.seq (.cond (.tmp 45) [45] .skip (.exit 0)) (.seq (.block 1 (.seq (.reg false (.loud [46,47] [(47,.un (.au 6) (.bin (.idx 6) (.tmp 42) (.tmp 44)))] [] none [] false (.alloc 43) 0 (some 10) true (.loud [] [] [(10,.tmp 10),(47,.tmp 47)] none [] false (.store 43 (.tmp 10) (.tmp 47)) 0 none false (.fin [] [] [])))) (.reg false (.fin [48,49,50,51,52,53,54,55,56,57,8] [(8,(.bin (.arith .add) (.tmp 8) (.bin (.arith .add) (.bin (.arith .add) (.un .len (.un .load (.un (.fld 0) (.tmp 10)))) (.un .len (.un .load (.un (.fld 1) (.tmp 10))))) (.con (.int .i64 1)))))] [])))) (.reg false (.fin [58,44] [(44,.bin (.arith .add) (.tmp 44) (.con (.int .i64 1)))] [])))))
def L.bH.l2:LC:=
 (.seq (.reg false (.fin [77] [(77,.bin (.cmp .lss) (.tmp 76) (.tmp 75))] [])) (.seq (.cond (.tmp 77) [77] .skip (.exit 2)) (.seq (.block 3 (.seq (.reg false (.loud [78,79] [(79,.un (.au 2) (.bin (.idx 2) (.tmp 74) (.tmp 76)))] [] none [] false (.alloc 77) 0 (some 14) true (.loud [] [] [(14,.tmp 14),(79,.tmp 79)] none [] false (.store 77 (.tmp 14) (.tmp 79)) 0 none false (.fin [] [] [])))) (.seq (.reg false (.loud [80,81,82,83,84] [] [(80,.tmp 12),(81,.un (.au 2) (.tmp 14)),(84,.un .len (.un .load (.un (.fld 1) (.tmp 11))))] none [] false (.mapUpdate 76 (.tmp 80) (.tmp 81) (.tmp 84)) 0 none false (.fin [] [] []))) (.reg false (.loud [85,86,87,88] [(86,.un .load (.un (.fld 1) (.tmp 11)))] [(88,.un .load (.bin (.aidx 2 1) (.tmp 14) (.con (.int .i64 1))))] none [] false (.buildSlice 22 1 #[(0,.tmp 88)]) 22 (some 89) true (.loud [] [] [(89,.tmp 89)] none [] false (.build 41 #[(0,.const (.int .i64 1)),(2,.tmp 89)]) 41 (some 90) true (.loud [] [] [(90,.tmp 90)] none [] false (.build 43 #[(2,.tmp 90)]) 43 (some 91) true (.loud [] [] [(91,.tmp 91)] none [] false (.buildSlice 24 1 #[(0,.tmp 91)]) 24 (some 92) true (.loud [] [] [(86,.tmp 86),(92,.tmp 92)] none [] false (.call ⟨.builtin .append,#[.tmp 86,.tmp 92],#[24,24]⟩) 24 (some 93) true (.loud [94] [] [(94,.un (.fld 1) (.tmp 11)),(93,.tmp 93)] none [] false (.store 24 (.tmp 94) (.tmp 93)) 0 none false (.fin [] [] []))))))))))) (.reg false (.fin [95,76] [(76,.bin (.arith .add) (.tmp 76) (.con (.int .i64 1)))] [])))))
def L.bH.l4:LC:=
 (.seq (.reg false (.fin [113] [(113,.bin (.cmp .lss) (.tmp 112) (.tmp 111))] [])) (.seq (.cond (.tmp 113) [113] .skip (.exit 6)) (.seq (.block 7 (.seq (.reg false (.fin [114,115,116,17,18] [(17,.tmp 112),(18,.un .load (.bin (.idx 1) (.tmp 110) (.tmp 112)))] [])) (.seq (.reg false (.loud [118,119,120] [(118,.tmp 12)] [(119,.tmp 15),(120,.tmp 18)] none [] false (.build 77 #[(0,.tmp 119),(1,.tmp 120)]) 77 (some 121) true (.loud [] [] [(118,.tmp 118),(121,.tmp 121)] none [] false (.lookup 76 (.tmp 118) (.tmp 121) true) 79 (some 122) true (.fin [117,123,124,19,20] [(19,.un (.ext 0) (.tmp 122)),(20,.un (.ext 1) (.tmp 122))] [])))) (.seq (.reg false (.fin [125] [(125,.tmp 20)] [])) (.cond (.tmp 125) [125] (.reg false (.loud [126,127,128,129,130,131,132,133] [] [(133,(.bin (.idx 1) (.un .load (.un (.fld 2) (.un (.fld 2) (.un .nilPtr (.tmp 16))))) (.tmp 17))),(132,.tmp 19)] none [] false (.store 3 (.tmp 133) (.tmp 132)) 0 none false (.fin [] [] []))) .skip))))) (.reg false (.fin [134,112] [(112,.bin (.arith .add) (.tmp 112) (.con (.int .i64 1)))] [])))))
def L.bH.l6:LC:=
 (.seq (.reg false (.fin [148] [(148,.bin (.cmp .lss) (.tmp 147) (.tmp 146))] [])) (.seq (.cond (.tmp 148) [148] .skip (.exit 10)) (.seq (.block 11 (.seq (.reg false (.fin [149,23] [(23,.tmp 147)] [])) (.seq (.reg false (.loud [151,152,153,154,155,156,157,158] [(151,.tmp 12)] [(157,(.un .load (.un (.fld 0) (.bin (.idx 2) (.un .load (.un (.fld 1) (.tmp 22))) (.tmp 23))))),(158,.tmp 15)] none [] false (.build 77 #[(0,.tmp 157),(1,.tmp 158)]) 77 (some 159) true (.loud [] [] [(151,.tmp 151),(159,.tmp 159)] none [] false (.lookup 76 (.tmp 151) (.tmp 159) true) 79 (some 160) true (.fin [150,161,162,24,25] [(24,.un (.ext 0) (.tmp 160)),(25,.un (.ext 1) (.tmp 160))] [])))) (.seq (.reg false (.fin [163] [(163,.tmp 25)] [])) (.cond (.tmp 163) [163] (.reg false (.loud [164,165,166,167,168,169] [] [(169,(.un (.fld 0) (.bin (.idx 2) (.un .load (.un (.fld 1) (.tmp 22))) (.tmp 23)))),(167,.tmp 24)] none [] false (.store 3 (.tmp 169) (.tmp 167)) 0 none false (.fin [] [] []))) .skip))))) (.reg false (.fin [170,147] [(147,.bin (.arith .add) (.tmp 147) (.con (.int .i64 1)))] [])))))
def L.bH.l5:LC:=
 (.seq (.reg false (.fin [141] [(141,.bin (.cmp .lss) (.tmp 140) (.tmp 139))] [])) (.seq (.cond (.tmp 141) [141] .skip (.exit 8)) (.seq (.block 9 (.seq (.reg false (.loud [142,143] [(143,.un (.au 2) (.bin (.idx 2) (.tmp 138) (.tmp 140)))] [] none [] false (.alloc 46) 0 (some 22) true (.loud [] [] [(22,.tmp 22),(143,.tmp 143)] none [] false (.store 46 (.tmp 22) (.tmp 143)) 0 none false (.fin [] [] [])))) (.seq (.seq (.reg false (.fin [144,145,146,147] [(146,.un .len (.un .load (.un (.fld 1) (.tmp 22)))),(147,.con (.int .i64 0))] [])) (.block 10 (.loop L.bH.l6))) (.reg false (.loud [171,172] [] [(172,.un .load (.un (.fld 1) (.tmp 22)))] none [] false (.call ⟨.value (.func 33),#[.tmp 172,.func 34],#[44,81]⟩) 0 (some 173) false (.fin [] [] [])))))) (.reg false (.fin [174,140] [(140,.bin (.arith .add) (.tmp 140) (.con (.int .i64 1)))] [])))))
def L.bH.l3:LC:=
 (.seq (.reg false (.fin [100] [(100,.bin (.cmp .lss) (.tmp 99) (.tmp 98))] [])) (.seq (.cond (.tmp 100) [100] .skip (.exit 4)) (.seq (.block 5 (.seq (.reg false (.fin [101,15] [(15,.tmp 99)] [])) (.seq (.reg false (.fin [102,103,104,105,16] [(16,.bin (.idx 6) (.un .load (.un (.fld 1) (.tmp 11))) (.tmp 15))] [])) (.seq (.seq (.reg false (.fin [106,107,108,109,110,111,112] [(110,(.un .load (.un (.fld 2) (.un (.fld 2) (.un .nilPtr (.tmp 16)))))),(111,(.un .len (.un .load (.un (.fld 2) (.un (.fld 2) (.un .nilPtr (.tmp 16))))))),(112,.con (.int .i64 0))] [])) (.block 6 (.loop L.bH.l4))) (.seq (.reg false (.fin [135,136,137,138,139,140] [(138,.un .load (.un (.fld 0) (.un .nilPtr (.tmp 16)))),(139,(.un .len (.un .load (.un (.fld 0) (.un .nilPtr (.tmp 16)))))),(140,.con (.int .i64 0))] [])) (.block 8 (.loop L.bH.l5))))))) (.reg false (.fin [175,99] [(99,.bin (.arith .add) (.tmp 99) (.con (.int .i64 1)))] [])))))
def L.bH:LFn:=
⟨[.un (.au 2) (.tmp 2),.tmp 3],(.seq (.reg false (.loud [] [] [(0,.tmp 0)] none [] false (.box 26 (.tmp 0)) 0 (some 1) true (.loud [] [] [] none [] false (.alloc 26) 0 (some 2) true (.fin [3] [(3,.con (.int .i64 0))] [])))) (.seq (.reg false (.loud [27] [] [(27,.un (.au 2) (.tmp 1))] none [] false (.call ⟨.value (.func 30),#[.tmp 27],#[26]⟩) 71 (some 28) true (.fin [26,29,30,31,4,5,6] [(4,.un (.ext 0) (.tmp 28))] [.un (.ext 2) (.tmp 28),.un (.ext 1) (.tmp 28)]))) (.seq (.seq (.reg false (.fin [32,33] [(33,.bin (.cmp .neq) (.tmp 4) (.con (.int .i64 0)))] [])) (.cond (.tmp 33) [33] (.seq (.reg false (.loud [] [] [] none [] false (.build 26 #[]) 26 (some 34) true (.loud [35] [(35,.tmp 4)] [(2,.tmp 2),(34,.tmp 34)] none [] false (.store 26 (.tmp 2) (.tmp 34)) 0 none false (.fin [3] [(3,.tmp 35)] [])))) .ret) .skip)) (.seq (.reg false (.loud [36] [] [(36,.un (.au 2) (.tmp 1))] none [] false (.call ⟨.value (.func 12),#[.tmp 36],#[26]⟩) 33 (some 37) true (.loud [] [] [(37,.tmp 37)] none [] false (.call ⟨.value (.func 31),#[.tmp 37],#[33]⟩) 73 (some 38) true (.fin [7] [(7,.tmp 38)] [])))) (.seq (.reg false (.fin [39,40,8] [(8,.un .len (.tmp 7))] [])) (.seq (.seq (.reg false (.fin [41,42,43,44] [(42,.un .load (.un (.fld 1) (.tmp 1))),(43,.un .len (.un .load (.un (.fld 1) (.tmp 1)))),(44,.con (.int .i64 0))] [])) (.block 0 (.loop L.bH.l1))) (.seq (.seq (.reg false (.fin [59,60,61,62,63,64,65,66,67,68,69] [(69,(.ite (.bin (.cmp .gtr) (.bin (.arith .add) (.un .len (.un .load (.un (.fld 1) (.tmp 1)))) (.un .len (.tmp 7))) (.con (.int .i64 512))) (.con (.bool true)) (.bin (.cmp .gtr) (.tmp 8) (.con (.int .i64 4096)))))] [])) (.cond (.tmp 69) [69] (.seq (.reg false (.loud [] [] [] none [] false (.build 26 #[]) 26 (some 70) true (.loud [] [] [(2,.tmp 2),(70,.tmp 70)] none [] false (.store 26 (.tmp 2) (.tmp 70)) 0 none false (.fin [3] [(3,.con (.int .i64 2))] [])))) .ret) .skip)) (.seq (.reg false (.loud [71] [] [(71,.un (.au 2) (.tmp 1))] none [] false (.call ⟨.value (.func 32),#[.tmp 71],#[26]⟩) 26 (some 72) true (.loud [] [] [] none [] false (.alloc 26) 0 (some 11) true (.loud [] [] [(11,.tmp 11),(72,.tmp 72)] none [] false (.store 26 (.tmp 11) (.tmp 72)) 0 none false (.fin [] [] []))))) (.seq (.reg false (.loud [] [] [] none [] false (.makeMap 76 none) 76 (some 73) true (.fin [12] [(12,.tmp 73)] []))) (.seq (.seq (.reg false (.fin [74,75,76] [(74,.tmp 7),(75,.un .len (.tmp 7)),(76,.con (.int .i64 0))] [])) (.block 2 (.loop L.bH.l2))) (.seq (.seq (.reg false (.fin [96,97,98,99] [(98,.un .len (.un .load (.un (.fld 1) (.tmp 1)))),(99,.con (.int .i64 0))] [])) (.block 4 (.loop L.bH.l3))) (.seq (.reg false (.loud [176] [] [(2,.tmp 2),(176,.un (.au 2) (.tmp 11))] none [] false (.store 26 (.tmp 2) (.tmp 176)) 0 none false (.fin [3] [(3,.con (.int .i64 0))] []))) .ret))))))))))))⟩
theorem E.bH:bj Try.prog Try.f10=some L.bH:=by kernel_rfl
theorem F.bH:Try.prog.funcs[N.bH]? = some Try.f10:=Try.func10
abbrev N.bM:Nat:=11
def L.bM.l1:LC:=
 (.seq (.reg false (.fin [27] [(27,.bin (.cmp .lss) (.tmp 26) (.tmp 25))] [])) (.seq (.cond (.tmp 27) [27] .skip (.exit 0)) (.seq (.block 1 (.seq (.reg false (.fin [28,6] [(6,.tmp 26)] [])) (.reg false (.loud [29,30,31,32,33] [(31,.tmp 5),(32,.tmp 6)] [(33,.bin (.idx 1) (.tmp 4) (.tmp 6))] none [] false (.store 3 (.tmp 33) (.const (.int .i64 (-1)))) 0 none false (.loud [34] [] [(34,.bin (.idx 1) (.tmp 31) (.tmp 32))] none [] false (.store 3 (.tmp 34) (.const (.int .i64 (-1)))) 0 none false (.fin [] [] [])))))) (.reg false (.fin [35,26] [(26,.bin (.arith .add) (.tmp 26) (.con (.int .i64 1)))] [])))))
def L.bM.l2:LC:=
 (.seq (.reg false (.fin [39] [(39,.bin (.cmp .lss) (.tmp 38) (.tmp 37))] [])) (.seq (.cond (.tmp 39) [39] .skip (.exit 2)) (.seq (.block 3 (.seq (.reg false (.fin [40,41,42,7,8] [(7,.tmp 38),(8,.un .load (.bin (.idx 1) (.tmp 36) (.tmp 38)))] [])) (.reg false (.loud [43,44,45,46] [] [(46,.bin (.idx 1) (.tmp 4) (.tmp 8)),(45,.tmp 7)] none [] false (.store 3 (.tmp 46) (.tmp 45)) 0 none false (.fin [] [] []))))) (.reg false (.fin [47,38] [(38,.bin (.arith .add) (.tmp 38) (.con (.int .i64 1)))] [])))))
def L.bM.l5:LC:=
 (.seq (.reg false (.fin [67] [(67,.bin (.cmp .lss) (.tmp 66) (.tmp 65))] [])) (.seq (.cond (.tmp 67) [67] .skip (.exit 8)) (.seq (.block 9 (.seq (.reg false (.fin [68,69,15] [(15,.un .load (.bin (.idx 1) (.tmp 64) (.tmp 66)))] [])) (.seq (.seq (.reg false (.fin [70,71,72,73,74,75,76,77,78,79,80,81,82,83,84,85] [(85,(.ite (.bin (.cmp .lss) (.un .load (.bin (.idx 1) (.tmp 4) (.tmp 15))) (.con (.int .i64 0))) (.con (.bool true)) (.ite (.bin (.cmp .neq) (.tmp 15) (.con (.int .i64 0))) (.bin (.cmp .lss) (.un .load (.bin (.idx 1) (.tmp 5) (.tmp 15))) (.con (.int .i64 0))) (.con (.bool false)))))] [(.gd (.gd (.bin (.cmp .lss) (.un .load (.bin (.idx 1) (.tmp 4) (.tmp 15))) (.con (.int .i64 0))) false (.bin (.cmp .neq) (.tmp 15) (.con (.int .i64 0)))) true (.bin (.cmp .lss) (.un .load (.bin (.idx 1) (.tmp 5) (.tmp 15))) (.con (.int .i64 0))))])) (.cond (.tmp 85) [85] (.exit 9) .skip)) (.seq (.seq (.reg false (.fin [86,87] [(87,.bin (.cmp .lss) (.tmp 13) (.con (.int .i64 0)))] [])) (.cond (.tmp 87) [87] (.seq (.reg false (.fin [88,13] [(13,.tmp 15)] [])) (.exit 9)) .skip)) (.reg false (.loud [89,90,91,92] [] [(89,.tmp 5),(90,.tmp 4),(91,.tmp 13),(92,.tmp 15)] none [] false (.call ⟨.value (.func 37),#[.tmp 89,.tmp 90,.tmp 91,.tmp 92],#[22,22,3,3]⟩) 3 (some 93) true (.fin [13] [(13,.tmp 93)] []))))))) (.reg false (.fin [94,66] [(66,.bin (.arith .add) (.tmp 66) (.con (.int .i64 1)))] [])))))
def L.bM.l4:LC:=
 (.seq (.reg false (.fin [58] [(58,.bin (.cmp .lss) (.tmp 57) (.tmp 56))] [])) (.seq (.cond (.tmp 58) [58] .skip (.exit 6)) (.seq (.block 7 (.seq (.reg false (.fin [59,60,12] [(12,.un .load (.bin (.idx 1) (.tmp 55) (.tmp 57)))] [])) (.seq (.reg false (.fin [13] [(13,.con (.int .i64 (-1)))] [])) (.seq (.seq (.reg false (.fin [61,62,63,64,65,66] [(64,.un .load (.bin (.idx 1) (.tmp 9) (.tmp 12))),(65,.un .len (.un .load (.bin (.idx 1) (.tmp 9) (.tmp 12)))),(66,.con (.int .i64 0))] [])) (.block 8 (.loop L.bM.l5))) (.seq (.reg false (.fin [95,96,97,98,99,100] [(100,.bin (.cmp .neq) (.un .load (.bin (.idx 1) (.tmp 5) (.tmp 12))) (.tmp 13))] [])) (.cond (.tmp 100) [100] (.reg false (.loud [101,102,103,104] [] [(104,.bin (.idx 1) (.tmp 5) (.tmp 12)),(103,.tmp 13)] none [] false (.store 3 (.tmp 104) (.tmp 103)) 0 none false (.fin [10] [(10,.con (.bool true))] []))) .skip)))))) (.reg false (.fin [105,57] [(57,.bin (.arith .add) (.tmp 57) (.con (.int .i64 1)))] [])))))
def L.bM.l3:LC:=
 (.seq (.seq (.reg false (.fin [50] [(50,.tmp 10)] [])) (.cond (.tmp 50) [50] .skip (.exit 4))) (.block 5 (.seq (.reg false (.fin [10] [(10,.con (.bool false))] [])) (.seq (.reg false (.fin [51,52,53,54,55,56,57] [(55,.bin (.lo 1) (.tmp 3) (.bin .min (.con (.int .i64 1)) (.un .len (.tmp 3)))),(56,(.un .len (.bin (.lo 1) (.tmp 3) (.bin .min (.con (.int .i64 1)) (.un .len (.tmp 3)))))),(57,.con (.int .i64 0))] [])) (.block 6 (.loop L.bM.l4))))))
def L.bM:LFn:=
⟨[.tmp 2],(.seq (.reg false (.fin [2] [(2,.con (.slice none 0 0))] [])) (.seq (.reg false (.loud [16] [] [(16,.tmp 0)] none [] false (.call ⟨.value (.func 35),#[.tmp 16],#[33]⟩) 22 (some 17) true (.fin [3] [(3,.tmp 17)] []))) (.seq (.reg false (.loud [18,19] [] [(19,.un .len (.tmp 0)),(19,.un .len (.tmp 0))] none [] false (.makeSlice 22 (.tmp 19) (.tmp 19)) 22 (some 20) true (.fin [4] [(4,.tmp 20)] []))) (.seq (.reg false (.loud [21,22] [] [(22,.un .len (.tmp 0)),(22,.un .len (.tmp 0))] none [] false (.makeSlice 22 (.tmp 22) (.tmp 22)) 22 (some 23) true (.fin [5] [(5,.tmp 23)] []))) (.seq (.seq (.reg false (.fin [24,25,26] [(25,.un .len (.tmp 0)),(26,.con (.int .i64 0))] [])) (.block 0 (.loop L.bM.l1))) (.seq (.seq (.reg false (.fin [36,37,38] [(36,.tmp 3),(37,.un .len (.tmp 3)),(38,.con (.int .i64 0))] [])) (.block 2 (.loop L.bM.l2))) (.seq (.reg false (.loud [48] [] [(48,.tmp 0)] none [] false (.call ⟨.value (.func 36),#[.tmp 48],#[33]⟩) 33 (some 49) true (.fin [9] [(9,.tmp 49)] []))) (.seq (.seq (.reg false (.fin [10] [(10,.con (.bool true))] [])) (.block 4 (.loop L.bM.l3))) (.seq (.reg false (.fin [106,2] [(2,.tmp 5)] [])) .ret)))))))))⟩
theorem E.bM:bj Try.prog Try.f11=some L.bM:=by kernel_rfl
theorem F.bM:Try.prog.funcs[N.bM]? = some Try.f11:=Try.func11
abbrev N.gl:Nat:=12
def L.gl.l1:LC:=
 (.seq (.reg false (.fin [14] [(14,.bin (.cmp .lss) (.tmp 13) (.tmp 12))] [])) (.seq (.cond (.tmp 14) [14] .skip (.exit 0)) (.seq (.block 1 (.seq (.reg false (.loud [15,16,17] [(15,.tmp 13),(17,.un (.au 6) (.bin (.idx 6) (.tmp 11) (.tmp 13)))] [] none [] false (.alloc 43) 0 (some 5) true (.loud [4] [(4,.tmp 15)] [(5,.tmp 5),(17,.tmp 17)] none [] false (.store 43 (.tmp 5) (.tmp 17)) 0 none false (.fin [] [] [])))) (.reg false (.loud [18,19,20,21,22,23,24,25] [(18,.tmp 3),(19,.tmp 4)] [(22,.un .load (.un (.fld 2) (.un (.fld 2) (.tmp 5)))),(25,.un .len (.un .load (.un (.fld 1) (.tmp 1))))] none [] false (.call ⟨.value (.func 38),#[.tmp 22,.tmp 25],#[22,3]⟩) 22 (some 26) true (.loud [27] [] [(27,.bin (.idx 1) (.tmp 18) (.tmp 19)),(26,.tmp 26)] none [] false (.store 22 (.tmp 27) (.tmp 26)) 0 none false (.fin [] [] [])))))) (.reg false (.fin [28,13] [(13,.bin (.arith .add) (.tmp 13) (.con (.int .i64 1)))] [])))))
def L.gl:LFn:=
⟨[.tmp 2],(.seq (.reg false (.loud [] [] [(0,.tmp 0)] none [] false (.box 26 (.tmp 0)) 0 (some 1) true (.fin [2] [(2,.con (.slice none 0 0))] []))) (.seq (.reg false (.loud [6,7,8] [] [(8,.un .len (.un .load (.un (.fld 1) (.tmp 1)))),(8,.un .len (.un .load (.un (.fld 1) (.tmp 1))))] none [] false (.makeSlice 33 (.tmp 8) (.tmp 8)) 33 (some 9) true (.fin [3] [(3,.tmp 9)] []))) (.seq (.seq (.reg false (.fin [10,11,12,13] [(11,.un .load (.un (.fld 1) (.tmp 1))),(12,.un .len (.un .load (.un (.fld 1) (.tmp 1)))),(13,.con (.int .i64 0))] [])) (.block 0 (.loop L.gl.l1))) (.seq (.reg false (.fin [29,2] [(2,.tmp 3)] [])) .ret))))⟩
theorem E.gl:bj Try.prog Try.f12=some L.gl:=by kernel_rfl
theorem F.gl:Try.prog.funcs[N.gl]? = some Try.f12:=Try.func12
abbrev N.cj:Nat:=13
def L.cj.l1:LC:=
 (.seq (.reg false (.fin [23] [(23,.bin (.cmp .lss) (.tmp 22) (.tmp 21))] [])) (.seq (.cond (.tmp 23) [23] .skip (.exit 0)) (.seq (.block 1 (.seq (.seq (.reg false (.fin [24,25,26] [(26,.bin (.cmp .eql) (.tmp 1) (.tmp 2))] [])) (.cond (.tmp 26) [26] (.seq (.reg false (.fin [6] [(6,.con (.bool true))] [])) .ret) .skip)) (.seq (.seq (.reg false (.loud [27,28] [] [(27,.tmp 7),(28,.tmp 2)] none [] false (.call ⟨.value (.tmp 27),#[.tmp 28],#[3]⟩) 4 (some 29) true (.fin [30] [(30,.un .not (.tmp 29))] []))) (.cond (.tmp 30) [30] (.seq (.reg false (.fin [6] [(6,.con (.bool false))] [])) .ret) .skip)) (.reg false (.fin [31,32,33,34,2] [(2,.un .load (.bin (.idx 1) (.un .load (.tmp 3)) (.tmp 2)))] []))))) (.reg false (.fin [35,22] [(22,.bin (.arith .add) (.tmp 22) (.con (.int .i64 1)))] [])))))
def L.cj:LFn:=
⟨[.tmp 6],(.seq (.reg false (.loud [] [] [(0,.tmp 0)] none [] false (.box 22 (.tmp 0)) 0 (some 3) true (.fin [6] [(6,.con (.bool false))] []))) (.seq (.reg false (.fin [8,7] [(7,.un (.fn 39) (.snoc (.con (.tuple #[])) (.tmp 3)))] [])) (.seq (.seq (.reg false (.loud [9,10] [] [(9,.tmp 7),(10,.tmp 1)] none [] false (.call ⟨.value (.tmp 9),#[.tmp 10],#[3]⟩) 4 (some 11) true (.loud [12,13,14,15] [(13,.un .not (.tmp 11))] [(14,.gd (.un .not (.tmp 11)) false (.tmp 7)),(15,.gd (.un .not (.tmp 11)) false (.tmp 2))] (some ((.un .not (.tmp 11)),false)) [] false (.call ⟨.value (.tmp 14),#[.tmp 15],#[3]⟩) 4 (some 16) true (.fin [17,18] [(18,.ite (.tmp 13) (.con (.bool true)) (.un .not (.tmp 16)))] [])))) (.cond (.tmp 18) [18] (.seq (.reg false (.fin [6] [(6,.con (.bool false))] [])) .ret) .skip)) (.seq (.seq (.reg false (.fin [19,20,21,22] [(21,.bin (.arith .add) (.un .len (.un .load (.tmp 3))) (.con (.int .i64 1))),(22,.con (.int .i64 0))] [])) (.block 0 (.loop L.cj.l1))) (.seq (.reg false (.fin [6] [(6,.con (.bool false))] [])) .ret)))))⟩
theorem E.cj:bj Try.prog Try.f13=some L.cj:=by kernel_rfl
theorem F.cj:Try.prog.funcs[N.cj]? = some Try.f13:=Try.func13
abbrev N.dA:Nat:=18
def L.dA:LFn:=
⟨[.un (.au 2) (.tmp 0)],(.seq (.reg false (.loud [] [] [] none [] false (.alloc 26) 0 (some 0) true (.fin [] [] []))) (.seq (.reg false (.loud [] [] [] none [] false (.buildSlice 22 1 #[(0,.const (.int .i64 0))]) 22 (some 1) true (.loud [] [] [] none [] false (.buildSlice 22 2 #[(0,.const (.int .i64 1)),(1,.const (.int .i64 2))]) 22 (some 2) true (.loud [] [] [(1,.tmp 1),(2,.tmp 2)] none [] false (.build 41 #[(0,.const (.int .i64 2)),(1,.tmp 1),(2,.tmp 2)]) 41 (some 3) true (.loud [] [] [(3,.tmp 3)] none [] false (.build 43 #[(2,.tmp 3)]) 43 (some 4) true (.loud [] [] [] none [] false (.buildSlice 22 1 #[(0,.const (.int .i64 2))]) 22 (some 5) true (.loud [] [] [(5,.tmp 5)] none [] false (.build 41 #[(0,.const (.int .i64 1)),(2,.tmp 5)]) 41 (some 6) true (.loud [] [] [(6,.tmp 6)] none [] false (.build 43 #[(2,.tmp 6)]) 43 (some 7) true (.loud [] [] [] none [] false (.build 49 #[(0,.const (.int .i64 0)),(1,.const (.int .i64 0))]) 49 (some 8) true (.loud [] [] [] none [] false (.build 49 #[(0,.const (.int .i64 1)),(1,.const (.int .i64 0))]) 49 (some 9) true (.loud [] [] [(8,.tmp 8),(9,.tmp 9)] none [] false (.buildSlice 44 2 #[(0,.tmp 8),(1,.tmp 9)]) 44 (some 10) true (.loud [] [] [(10,.tmp 10)] none [] false (.build 46 #[(0,.const (.int .i64 1)),(1,.tmp 10)]) 46 (some 11) true (.loud [] [] [(11,.tmp 11)] none [] false (.buildSlice 38 1 #[(0,.tmp 11)]) 38 (some 12) true (.loud [] [] [] none [] false (.buildSlice 22 1 #[(0,.const (.int .i64 1))]) 22 (some 13) true (.loud [] [] [(13,.tmp 13)] none [] false (.build 41 #[(0,.const (.int .i64 4)),(1,.tmp 13)]) 41 (some 14) true (.loud [] [] [(12,.tmp 12),(14,.tmp 14)] none [] false (.build 43 #[(0,.tmp 12),(2,.tmp 14)]) 43 (some 15) true (.loud [] [] [(4,.tmp 4),(7,.tmp 7),(15,.tmp 15)] none [] false (.buildSlice 24 3 #[(0,.tmp 4),(1,.tmp 7),(2,.tmp 15)]) 24 (some 16) true (.loud [] [] [(16,.tmp 16)] none [] false (.build 26 #[(0,.const (.int .i64 1)),(1,.tmp 16)]) 26 (some 17) true (.loud [] [] [(0,.tmp 0),(17,.tmp 17)] none [] false (.store 26 (.tmp 0) (.tmp 17)) 0 none false (.fin [] [] [])))))))))))))))))))) .ret))⟩
theorem E.dA:bj Try.prog Try.f18=some L.dA:=by kernel_rfl
theorem F.dA:Try.prog.funcs[N.dA]? = some Try.f18:=Try.func18
abbrev N.bI:Nat:=19
def L.bI:LFn:=
⟨[.tmp 4],(.seq (.reg false (.fin [4] [(4,.con (.int .i64 0))] [])) (.seq (.reg false (.fin [5] [(5,.con (.int .i64 0))] [])) (.seq (.seq (.reg true (.fin [6,7,8,9,10,11,12,13,14,15] [(15,(.bin (.cmp .lss) (.un .load (.un (.fld 1) (.un .nilPtr (.tmp 0)))) (.un .len (.un .load (.un (.fld 0) (.un .nilPtr (.tmp 0)))))))] [])) (.cond (.tmp 15) [15] (.reg true (.fin [16,17,18,19,20,21,22,23,24,25,5] [(5,(.un .load (.bin (.idx 1) (.un .load (.un (.fld 0) (.un .nilPtr (.tmp 0)))) (.un .load (.un (.fld 1) (.un .nilPtr (.tmp 0)))))))] [])) .skip)) (.seq (.reg false (.loud [26,27,28,29,30,31,32,33] [] [(33,.un (.fld 1) (.un .nilPtr (.tmp 0))),(31,(.bin (.arith .add) (.un .load (.un (.fld 1) (.un .nilPtr (.tmp 0)))) (.con (.int .i64 1))))] none [] false (.store 3 (.tmp 33) (.tmp 31)) 0 none false (.fin [] [] []))) (.seq (.reg false (.fin [34,35,36,37,38,39,40,4] [(4,.bin (.div .rem) (.bin (.arith .add) (.bin (.div .rem) (.tmp 5) (.tmp 1)) (.tmp 1)) (.tmp 1))] [])) .ret)))))⟩
theorem E.bI:bj Try.prog Try.f19=some L.bI:=by kernel_rfl
theorem F.bI:Try.prog.funcs[N.bI]? = some Try.f19:=Try.func19
abbrev N.aN:Nat:=20
def L.aN.l1:LC:=
 (.seq (.seq (.reg false (.fin [14,15,16] [(16,.bin (.cmp .lss) (.tmp 6) (.tmp 1))] [])) (.cond (.tmp 16) [16] .skip (.exit 0))) (.seq (.block 1 (.seq (.reg false (.fin [19,20,7] [(7,.bin (.arith .sub) (.tmp 6) (.con (.int .i64 1)))] [])) (.seq (.seq (.reg false (.loud [21] [] [(21,.tmp 0)] none [] false (.call ⟨.value (.func 19),#[.tmp 21,.const (.int .i64 3)],#[56,3]⟩) 3 (some 22) true (.fin [23] [(23,.bin (.cmp .eql) (.tmp 22) (.con (.int .i64 0)))] []))) (.cond (.tmp 23) [23] (.reg false (.loud [24,25] [] [(24,.tmp 0),(25,.tmp 6)] none [] false (.call ⟨.value (.func 19),#[.tmp 24,.tmp 25],#[56,3]⟩) 3 (some 26) true (.fin [7] [(7,.tmp 26)] []))) .skip)) (.reg false (.loud [27,28,29,30,31,32,33] [(27,.tmp 5),(28,.tmp 7),(32,.un .load (.bin (.idx 1) (.tmp 5) (.tmp 7)))] [(33,.tmp 6)] none [] false (.buildSlice 22 1 #[(0,.tmp 33)]) 22 (some 34) true (.loud [] [] [(32,.tmp 32),(34,.tmp 34)] none [] false (.call ⟨.builtin .append,#[.tmp 32,.tmp 34],#[22,22]⟩) 22 (some 35) true (.loud [36] [] [(36,.bin (.idx 1) (.tmp 27) (.tmp 28)),(35,.tmp 35)] none [] false (.store 22 (.tmp 36) (.tmp 35)) 0 none false (.fin [] [] [])))))))) (.reg false (.fin [17,18,6] [(6,.bin (.arith .add) (.tmp 6) (.con (.int .i64 1)))] []))))
def L.aN.l3:LC:=
 (.seq (.seq (.reg false (.fin [44,45,46,47,48,49,50,51] [(51,(.ite (.bin (.cmp .lss) (.tmp 10) (.bin (.arith .sub) (.tmp 9) (.con (.int .i64 3)))) (.bin (.cmp .gtr) (.tmp 1) (.con (.int .i64 1))) (.con (.bool false))))] [])) (.cond (.tmp 51) [51] .skip (.exit 4))) (.seq (.block 5 (.seq (.reg false (.loud [54,55,56] [] [(54,.tmp 0),(56,.bin (.arith .sub) (.tmp 1) (.con (.int .i64 1)))] none [] false (.call ⟨.value (.func 19),#[.tmp 54,.tmp 56],#[56,3]⟩) 3 (some 57) true (.fin [58,11] [(11,.bin (.arith .add) (.con (.int .i64 1)) (.tmp 57))] []))) (.seq (.seq (.reg false (.loud [59,60,61,62,63] [(62,.bin (.cmp .leq) (.tmp 11) (.tmp 8))] [(63,.gd (.bin (.cmp .leq) (.tmp 11) (.tmp 8)) true (.tmp 0))] (some ((.bin (.cmp .leq) (.tmp 11) (.tmp 8)),true)) [] false (.call ⟨.value (.func 19),#[.tmp 63,.const (.int .i64 2)],#[56,3]⟩) 3 (some 64) true (.fin [65,66] [(66,.ite (.tmp 62) (.bin (.cmp .eql) (.tmp 64) (.con (.int .i64 0))) (.con (.bool false)))] []))) (.cond (.tmp 66) [66] (.reg false (.fin [67,68,69,70,71,11] [(11,.bin .min (.bin (.arith .add) (.tmp 8) (.con (.int .i64 1))) (.bin (.arith .sub) (.tmp 1) (.con (.int .i64 1))))] [])) .skip)) (.reg false (.loud [72,73,74,75,76,77,78] [(72,.tmp 5),(73,.tmp 8),(77,.un .load (.bin (.idx 1) (.tmp 5) (.tmp 8)))] [(78,.tmp 11)] none [] false (.buildSlice 22 1 #[(0,.tmp 78)]) 22 (some 79) true (.loud [] [] [(77,.tmp 77),(79,.tmp 79)] none [] false (.call ⟨.builtin .append,#[.tmp 77,.tmp 79],#[22,22]⟩) 22 (some 80) true (.loud [81] [] [(81,.bin (.idx 1) (.tmp 72) (.tmp 73)),(80,.tmp 80)] none [] false (.store 22 (.tmp 81) (.tmp 80)) 0 none false (.fin [] [] [])))))))) (.reg false (.fin [52,53,10] [(10,.bin (.arith .add) (.tmp 10) (.con (.int .i64 1)))] []))))
def L.aN.l2:LC:=
 (.seq (.seq (.reg false (.fin [37,38,39] [(39,.bin (.cmp .lss) (.tmp 8) (.tmp 1))] [])) (.cond (.tmp 39) [39] .skip (.exit 2))) (.seq (.block 3 (.seq (.reg false (.loud [42] [] [(42,.tmp 0)] none [] false (.call ⟨.value (.func 19),#[.tmp 42,.const (.int .i64 6)],#[56,3]⟩) 3 (some 43) true (.fin [9] [(9,.tmp 43)] []))) (.seq (.reg false (.fin [10] [(10,.con (.int .i64 0))] [])) (.block 4 (.loop L.aN.l3))))) (.reg false (.fin [40,41,8] [(8,.bin (.arith .add) (.tmp 8) (.con (.int .i64 1)))] []))))
def L.aN:LFn:=
⟨[.tmp 4],(.seq (.reg false (.fin [4] [(4,.con (.slice none 0 0))] [])) (.seq (.reg false (.loud [12] [] [(12,.tmp 1),(12,.tmp 1)] none [] false (.makeSlice 33 (.tmp 12) (.tmp 12)) 33 (some 13) true (.fin [5] [(5,.tmp 13)] []))) (.seq (.seq (.reg false (.fin [6] [(6,.con (.int .i64 1))] [])) (.block 0 (.loop L.aN.l1))) (.seq (.seq (.reg false (.fin [8] [(8,.con (.int .i64 0))] [])) (.block 2 (.loop L.aN.l2))) (.seq (.reg false (.fin [82,4] [(4,.tmp 5)] [])) .ret)))))⟩
theorem E.aN:bj Try.prog Try.f20=some L.aN:=by kernel_rfl
theorem F.aN:Try.prog.funcs[N.aN]? = some Try.f20:=Try.func20
abbrev N.dg:Nat:=21
def L.dg.l2:LC:=
 (.seq (.seq (.reg false (.fin [24,25,26,27] [(27,.bin (.cmp .lss) (.tmp 8) (.un .len (.tmp 7)))] [])) (.cond (.tmp 27) [27] .skip (.exit 2))) (.seq (.block 3 (.seq (.reg false (.fin [30,31,32,33,34,35] [(35,.bin (.cmp .eql) (.un .load (.bin (.idx 1) (.tmp 7) (.tmp 8))) (.tmp 1))] [])) (.cond (.tmp 35) [35] (.seq (.reg false (.loud [36,37] [(36,.tmp 5)] [(37,.tmp 6)] none [] false (.buildSlice 22 1 #[(0,.tmp 37)]) 22 (some 38) true (.loud [] [] [(36,.tmp 36),(38,.tmp 38)] none [] false (.call ⟨.builtin .append,#[.tmp 36,.tmp 38],#[22,22]⟩) 22 (some 39) true (.fin [5] [(5,.tmp 39)] [])))) (.exit 2)) .skip))) (.reg false (.fin [28,29,8] [(8,.bin (.arith .add) (.tmp 8) (.con (.int .i64 1)))] []))))
def L.dg.l1:LC:=
 (.seq (.seq (.reg false (.fin [10,11,12,13,14] [(14,(.bin (.cmp .lss) (.tmp 6) (.un .len (.un .load (.un (.fld 1) (.tmp 2))))))] [])) (.cond (.tmp 14) [14] .skip (.exit 0))) (.seq (.block 1 (.seq (.reg false (.fin [17,18,19,20,21,22,23,7] [(7,(.un .load (.un (.fld 2) (.un (.fld 2) (.bin (.idx 6) (.un .load (.un (.fld 1) (.tmp 2))) (.tmp 6))))))] [])) (.seq (.reg false (.fin [8] [(8,.con (.int .i64 0))] [])) (.block 2 (.loop L.dg.l2))))) (.reg false (.fin [15,16,6] [(6,.bin (.arith .add) (.tmp 6) (.con (.int .i64 1)))] []))))
def L.dg:LFn:=
⟨[.tmp 4],(.seq (.reg false (.loud [] [] [(0,.tmp 0)] none [] false (.box 26 (.tmp 0)) 0 (some 2) true (.fin [4] [(4,.con (.slice none 0 0))] []))) (.seq (.reg false (.loud [] [] [] none [] false (.buildSlice 22 0 #[]) 22 (some 9) true (.fin [5] [(5,.tmp 9)] []))) (.seq (.seq (.reg false (.fin [6] [(6,.con (.int .i64 0))] [])) (.block 0 (.loop L.dg.l1))) (.seq (.reg false (.fin [40,4] [(4,.tmp 5)] [])) .ret))))⟩
theorem E.dg:bj Try.prog Try.f21=some L.dg:=by kernel_rfl
theorem F.dg:Try.prog.funcs[N.dg]? = some Try.f21:=Try.func21
abbrev N.bw:Nat:=22
def L.bw:LFn:=
⟨[.tmp 2],(.seq (.reg false (.fin [2] [(2,.con (.int .i64 0))] [])) (.seq (.reg false (.loud [3,4,5,6,7,8,9,10] [] [(10,.un (.fld 4) (.un .nilPtr (.tmp 0))),(8,(.bin (.arith .add) (.un .load (.un (.fld 4) (.un .nilPtr (.tmp 0)))) (.con (.int .i64 1))))] none [] false (.store 3 (.tmp 10) (.tmp 8)) 0 none false (.fin [] [] []))) (.seq (.reg false (.fin [11,12,13,14,15,2] [(2,(.bin (.arith .sub) (.un .load (.un (.fld 4) (.un .nilPtr (.tmp 0)))) (.con (.int .i64 1))))] [])) .ret)))⟩
theorem E.bw:bj Try.prog Try.f22=some L.bw:=by kernel_rfl
theorem F.bw:Try.prog.funcs[N.bw]? = some Try.f22:=Try.func22
abbrev N.cc:Nat:=23
def L.cc.l2:LC:=
 (.seq (.seq (.reg false (.fin [44,45,46,47] [(47,.bin (.cmp .lss) (.tmp 9) (.un .len (.tmp 8)))] [])) (.cond (.tmp 47) [47] .skip (.exit 2))) (.seq (.block 3 (.seq (.reg false (.fin [50,51,52,53,54,55,56,57,58,59,60,61,62,63,64,65,66,67,68,69,70,71,72,73,74,75,76,77,78,79,80,81] [(81,(.ite (.ite (.ite (.bin (.cmp .geq) (.un .load (.bin (.idx 1) (.tmp 8) (.tmp 9))) (.con (.int .i64 0))) (.bin (.cmp .lss) (.un .load (.bin (.idx 1) (.tmp 8) (.tmp 9))) (.un .len (.tmp 5))) (.con (.bool false))) (.un .not (.un .load (.bin (.idx 1) (.tmp 5) (.un .load (.bin (.idx 1) (.tmp 8) (.tmp 9)))))) (.con (.bool false))) (.bin (.cmp .neq) (.un .load (.bin (.idx 1) (.tmp 8) (.tmp 9))) (.tmp 1)) (.con (.bool false))))] [])) (.cond (.tmp 81) [81] (.seq (.reg false (.loud [82,83,84,85,86,87] [] [(87,.bin (.idx 1) (.tmp 5) (.un .load (.bin (.idx 1) (.tmp 8) (.tmp 9))))] none [] false (.store 4 (.tmp 87) (.const (.bool true))) 0 none false (.fin [] [] []))) (.reg false (.loud [88,89,90,91,92] [(88,.tmp 6)] [(92,.un .load (.bin (.idx 1) (.tmp 8) (.tmp 9)))] none [] false (.buildSlice 22 1 #[(0,.tmp 92)]) 22 (some 93) true (.loud [] [] [(88,.tmp 88),(93,.tmp 93)] none [] false (.call ⟨.builtin .append,#[.tmp 88,.tmp 93],#[22,22]⟩) 22 (some 94) true (.fin [6] [(6,.tmp 94)] []))))) .skip))) (.reg false (.fin [48,49,9] [(9,.bin (.arith .add) (.tmp 9) (.con (.int .i64 1)))] []))))
def L.cc.l1:LC:=
 (.seq (.seq (.reg false (.fin [28,29,30,31] [(31,.bin (.cmp .lss) (.tmp 7) (.un .len (.tmp 6)))] [])) (.cond (.tmp 31) [31] .skip (.exit 0))) (.seq (.block 1 (.seq (.reg true (.fin [34,35,36,37,38,39,40,41,42,43,8] [(8,(.un .load (.un (.fld 2) (.un (.fld 2) (.bin (.idx 6) (.un .load (.un (.fld 1) (.tmp 2))) (.un .load (.bin (.idx 1) (.tmp 6) (.tmp 7))))))))] [])) (.seq (.reg false (.fin [9] [(9,.con (.int .i64 0))] [])) (.block 2 (.loop L.cc.l2))))) (.reg false (.fin [32,33,7] [(7,.bin (.arith .add) (.tmp 7) (.con (.int .i64 1)))] []))))
def L.cc:LFn:=
⟨[.tmp 4],(.seq (.reg false (.loud [] [] [(0,.tmp 0)] none [] false (.box 26 (.tmp 0)) 0 (some 2) true (.fin [4] [(4,.con (.slice none 0 0))] []))) (.seq (.reg false (.loud [10,11,12] [] [(12,.un .len (.un .load (.un (.fld 1) (.tmp 2)))),(12,.un .len (.un .load (.un (.fld 1) (.tmp 2))))] none [] false (.makeSlice 63 (.tmp 12) (.tmp 12)) 63 (some 13) true (.fin [5] [(5,.tmp 13)] []))) (.seq (.reg false (.loud [] [] [] none [] false (.buildSlice 22 0 #[]) 22 (some 14) true (.fin [6] [(6,.tmp 14)] []))) (.seq (.seq (.reg false (.fin [15,16,17,18,19,20,21,22] [(22,(.ite (.bin (.cmp .neq) (.tmp 1) (.con (.int .i64 0))) (.bin (.cmp .gtr) (.un .len (.un .load (.un (.fld 1) (.tmp 2)))) (.con (.int .i64 0))) (.con (.bool false))))] [])) (.cond (.tmp 22) [22] (.seq (.reg false (.loud [23,24] [] [(24,.bin (.idx 1) (.tmp 5) (.con (.int .i64 0)))] none [] false (.store 4 (.tmp 24) (.const (.bool true))) 0 none false (.fin [] [] []))) (.reg false (.loud [25] [(25,.tmp 6)] [] none [] false (.buildSlice 22 1 #[(0,.const (.int .i64 0))]) 22 (some 26) true (.loud [] [] [(25,.tmp 25),(26,.tmp 26)] none [] false (.call ⟨.builtin .append,#[.tmp 25,.tmp 26],#[22,22]⟩) 22 (some 27) true (.fin [6] [(6,.tmp 27)] []))))) .skip)) (.seq (.seq (.reg false (.fin [7] [(7,.con (.int .i64 0))] [])) (.block 0 (.loop L.cc.l1))) (.seq (.reg false (.fin [95,4] [(4,.tmp 5)] [])) .ret))))))⟩
theorem E.cc:bj Try.prog Try.f23=some L.cc:=by kernel_rfl
theorem F.cc:Try.prog.funcs[N.cc]? = some Try.f23:=Try.func23
abbrev N.eu:Nat:=24
def L.eu:LFn:=
⟨[.tmp 2],(.seq (.reg false (.loud [] [] [(0,.tmp 0)] none [] false (.box 54 (.tmp 0)) 0 (some 1) true (.fin [2] [(2,.con (.slice none 0 0))] []))) (.seq (.seq (.reg false (.fin [3,4] [(4,.un .load (.un (.fld 0) (.tmp 1)))] [])) (.block 0 (.seq (.reg false (.fin [6,5] [(5,.bin (.cmp .eql) (.tmp 4) (.con (.int .i64 16)))] [])) (.cond (.tmp 5) [5] (.seq (.reg false (.fin [2] [(2,.con (.slice none 0 0))] [])) .ret) (.seq (.reg false (.fin [8,7] [(7,.bin (.cmp .eql) (.tmp 4) (.con (.int .i64 18)))] [])) (.cond (.tmp 7) [7] (.seq (.reg false (.loud [9,10,11,12] [] [(10,.un .load (.un (.fld 1) (.tmp 1))),(12,.un .load (.un (.fld 2) (.tmp 1)))] none [] false (.buildSlice 22 2 #[(0,.tmp 10),(1,.tmp 12)]) 22 (some 13) true (.fin [2] [(2,.tmp 13)] []))) .ret) .skip)))))) (.seq (.reg false (.loud [14,15] [] [(15,.un .load (.un (.fld 1) (.tmp 1)))] none [] false (.buildSlice 22 1 #[(0,.tmp 15)]) 22 (some 16) true (.fin [2] [(2,.tmp 16)] []))) .ret)))⟩
theorem E.eu:bj Try.prog Try.f24=some L.eu:=by kernel_rfl
theorem F.eu:Try.prog.funcs[N.eu]? = some Try.f24:=Try.func24
end Go.Proofs.Ytbkdlhkoiagbbaa
namespace Go.Proofs.Ytbkdlhkoiagbbaa
open Go Go.Lft
set_option maxRecDepth 100000
abbrev N.aW:Nat:=25
def L.aW.l1:LC:=
 (.seq (.seq (.reg false (.fin [120,121,122] [(122,.bin (.cmp .lss) (.tmp 14) (.tmp 13))] [])) (.cond (.tmp 122) [122] .skip (.exit 1))) (.seq (.block 2 (.reg false (.loud [125,126,127] [(125,.tmp 12)] [(126,.tmp 0),(127,.tmp 1)] none [] false (.call ⟨.value (.func 43),#[.tmp 126,.tmp 127],#[56,3]⟩) 3 (some 128) true (.loud [] [] [(128,.tmp 128)] none [] false (.buildSlice 22 1 #[(0,.tmp 128)]) 22 (some 129) true (.loud [] [] [(125,.tmp 125),(129,.tmp 129)] none [] false (.call ⟨.builtin .append,#[.tmp 125,.tmp 129],#[22,22]⟩) 22 (some 130) true (.fin [12] [(12,.tmp 130)] [])))))) (.reg false (.fin [123,124,14] [(14,.bin (.arith .add) (.tmp 14) (.con (.int .i64 1)))] []))))
def L.aW:LFn:=
⟨[],(.seq (.reg false (.loud [18] [] [(18,.tmp 0)] none [] false (.call ⟨.value (.func 19),#[.tmp 18,.const (.int .i64 20)],#[56,3]⟩) 3 (some 19) true (.fin [4] [(4,.tmp 19)] []))) (.block 0 (.seq (.reg false (.fin [26,27,25] [(25,.bin (.cmp .lss) (.tmp 4) (.con (.int .i64 12)))] [])) (.cond (.tmp 25) [25] (.seq (.reg false (.loud [] [] [] none [] false (.build 87 #[(0,.const (.int .i64 2)),(1,.const (.int .i64 2)),(2,.const (.int .i64 3)),(3,.const (.int .i64 4)),(4,.const (.int .i64 5)),(5,.const (.int .i64 6)),(6,.const (.int .i64 7)),(7,.const (.int .i64 8)),(8,.const (.int .i64 9)),(9,.const (.int .i64 10)),(10,.const (.int .i64 12)),(11,.const (.int .i64 11))]) 87 (some 28) true (.loud [] [] [] none [] false (.alloc 87) 0 (some 5) true (.loud [] [] [(5,.tmp 5),(28,.tmp 28)] none [] false (.store 87 (.tmp 5) (.tmp 28)) 0 none false (.fin [] [] []))))) (.seq (.reg false (.loud [29,30] [] [(29,.tmp 0),(30,.tmp 1)] none [] false (.call ⟨.value (.func 43),#[.tmp 29,.tmp 30],#[56,3]⟩) 3 (some 31) true (.fin [6] [(6,.tmp 31)] []))) (.seq (.reg false (.loud [32,33] [] [(32,.tmp 0),(33,.tmp 1)] none [] false (.call ⟨.value (.func 43),#[.tmp 32,.tmp 33],#[56,3]⟩) 3 (some 34) true (.fin [7] [(7,.tmp 34)] []))) (.seq (.seq (.reg false (.loud [35] [] [(35,.tmp 0)] none [] false (.call ⟨.value (.func 19),#[.tmp 35,.const (.int .i64 3)],#[56,3]⟩) 3 (some 36) true (.fin [37] [(37,.bin (.cmp .eql) (.tmp 36) (.con (.int .i64 0)))] []))) (.cond (.tmp 37) [37] (.reg false (.loud [38,39,40] [(38,.tmp 0),(39,.tmp 1)] [(40,.tmp 0)] none [] false (.call ⟨.value (.func 19),#[.tmp 40,.const (.int .i64 40)],#[56,3]⟩) 3 (some 41) true (.loud [42,43] [] [(38,.tmp 38),(39,.tmp 39),(43,.un (.conv .i32) (.bin (.arith .sub) (.tmp 41) (.con (.int .i64 8))))] none [] false (.call ⟨.value (.func 28),#[.tmp 38,.tmp 39,.tmp 43],#[56,3,21]⟩) 3 (some 44) true (.fin [7] [(7,.tmp 44)] [])))) .skip)) (.reg true (.both (.loud [45,46,47,48,49,50,52,53] [(45,.tmp 0),(46,.tmp 1),(49,.un .load (.bin (.aidx 12 1) (.tmp 5) (.tmp 4))),(52,.tmp 6),(53,.tmp 7)] [(50,.tmp 0)] none [] false (.call ⟨.value (.func 22),#[.tmp 50],#[56]⟩) 3 (some 51) true (.loud [] [] [(52,.tmp 52),(53,.tmp 53)] none [] false (.buildSlice 22 2 #[(0,.tmp 52),(1,.tmp 53)]) 22 (some 54) true (.loud [] [] [(49,.tmp 49),(51,.tmp 51),(54,.tmp 54)] none [] true (.build 54 #[(0,.tmp 49),(1,.tmp 51),(3,.tmp 54)]) 54 (some 55) true (.loud [] [] [(45,.tmp 45),(46,.tmp 46),(55,.tmp 55)] none [] false (.call ⟨.value (.func 44),#[.tmp 45,.tmp 46,.tmp 55],#[56,3,54]⟩) 0 (some 56) false (.fin [] [] []))))) (.loud [45,46,47,48,49,50,52,53] [(45,.tmp 0),(46,.tmp 1),(49,.un .load (.bin (.aidx 12 1) (.tmp 5) (.tmp 4))),(50,.tmp 0)] [(52,.tmp 6),(53,.tmp 7)] none [] false (.buildSlice 22 2 #[(0,.tmp 52),(1,.tmp 53)]) 22 (some 54) true (.loud [] [] [(50,.tmp 50)] none [] false (.call ⟨.value (.func 22),#[.tmp 50],#[56]⟩) 3 (some 51) true (.loud [] [] [(49,.tmp 49),(51,.tmp 51),(54,.tmp 54)] none [] true (.build 54 #[(0,.tmp 49),(1,.tmp 51),(3,.tmp 54)]) 54 (some 55) true (.loud [] [] [(45,.tmp 45),(46,.tmp 46),(55,.tmp 55)] none [] false (.call ⟨.value (.func 44),#[.tmp 45,.tmp 46,.tmp 55],#[56,3,54]⟩) 0 (some 56) false (.fin [] [] []))))))))))) (.seq (.reg false (.fin [58,59,57] [(57,.bin (.cmp .eql) (.tmp 4) (.con (.int .i64 12)))] [])) (.cond (.tmp 57) [57] (.seq (.reg false (.loud [60,61] [] [(60,.tmp 0),(61,.tmp 1)] none [] false (.call ⟨.value (.func 43),#[.tmp 60,.tmp 61],#[56,3]⟩) 3 (some 62) true (.fin [8] [(8,.tmp 62)] []))) (.seq (.reg false (.loud [63,64] [] [(63,.tmp 0),(64,.tmp 1)] none [] false (.call ⟨.value (.func 43),#[.tmp 63,.tmp 64],#[56,3]⟩) 3 (some 65) true (.fin [9] [(9,.tmp 65)] []))) (.reg false (.loud [66,67,68] [(66,.tmp 0),(67,.tmp 1)] [(68,.tmp 0)] none [] false (.call ⟨.value (.func 22),#[.tmp 68],#[56]⟩) 3 (some 69) true (.loud [70,71] [] [(70,.tmp 8),(71,.tmp 9)] none [] false (.buildSlice 22 2 #[(0,.tmp 70),(1,.tmp 71)]) 22 (some 72) true (.loud [] [] [(69,.tmp 69),(72,.tmp 72)] none [] false (.build 54 #[(0,.const (.int .i64 13)),(1,.tmp 69),(3,.tmp 72)]) 54 (some 73) true (.loud [] [] [(66,.tmp 66),(67,.tmp 67),(73,.tmp 73)] none [] false (.call ⟨.value (.func 44),#[.tmp 66,.tmp 67,.tmp 73],#[56,3,54]⟩) 0 (some 74) false (.fin [] [] [])))))))) (.seq (.reg false (.fin [76,77,75] [(75,.bin (.cmp .eql) (.tmp 4) (.con (.int .i64 13)))] [])) (.cond (.tmp 75) [75] (.seq (.reg false (.loud [78,79] [] [(78,.tmp 0),(79,.tmp 1)] none [] false (.call ⟨.value (.func 43),#[.tmp 78,.tmp 79],#[56,3]⟩) 3 (some 80) true (.fin [10] [(10,.tmp 80)] []))) (.seq (.reg false (.loud [81,82,83] [(81,.tmp 0),(82,.tmp 1)] [(83,.tmp 0)] none [] false (.call ⟨.value (.func 19),#[.tmp 83,.const (.int .i64 12)],#[56,3]⟩) 3 (some 84) true (.loud [85] [] [(81,.tmp 81),(82,.tmp 82),(85,.un (.conv .i32) (.tmp 84))] none [] false (.call ⟨.value (.func 28),#[.tmp 81,.tmp 82,.tmp 85],#[56,3,21]⟩) 3 (some 86) true (.fin [11] [(11,.tmp 86)] [])))) (.seq (.seq (.reg false (.loud [87] [] [(87,.tmp 0)] none [] false (.call ⟨.value (.func 19),#[.tmp 87,.const (.int .i64 3)],#[56,3]⟩) 3 (some 88) true (.fin [89] [(89,.bin (.cmp .gtr) (.tmp 88) (.con (.int .i64 0)))] []))) (.cond (.tmp 89) [89] (.reg false (.loud [90,91,92] [(90,.tmp 0),(91,.tmp 1)] [(92,.tmp 0)] none [] false (.call ⟨.value (.func 19),#[.tmp 92,.const (.int .i64 12)],#[56,3]⟩) 3 (some 93) true (.loud [94,95] [] [(90,.tmp 90),(91,.tmp 91),(95,.bin (.arith .add) (.con (.int .i32 1)) (.un (.conv .i32) (.tmp 93)))] none [] false (.call ⟨.value (.func 28),#[.tmp 90,.tmp 91,.tmp 95],#[56,3,21]⟩) 3 (some 96) true (.fin [11] [(11,.tmp 96)] [])))) .skip)) (.reg false (.loud [97,98,99] [(97,.tmp 0),(98,.tmp 1)] [(99,.tmp 0)] none [] false (.call ⟨.value (.func 22),#[.tmp 99],#[56]⟩) 3 (some 100) true (.loud [101,102] [] [(101,.tmp 10),(102,.tmp 11)] none [] false (.buildSlice 22 2 #[(0,.tmp 101),(1,.tmp 102)]) 22 (some 103) true (.loud [] [] [(100,.tmp 100),(103,.tmp 103)] none [] false (.build 54 #[(0,.const (.int .i64 14)),(1,.tmp 100),(3,.tmp 103)]) 54 (some 104) true (.loud [] [] [(97,.tmp 97),(98,.tmp 98),(104,.tmp 104)] none [] false (.call ⟨.value (.func 44),#[.tmp 97,.tmp 98,.tmp 104],#[56,3,54]⟩) 0 (some 105) false (.fin [] [] []))))))))) (.seq (.reg false (.fin [107,108,106] [(106,.bin (.cmp .lss) (.tmp 4) (.con (.int .i64 16)))] [])) (.cond (.tmp 106) [106] (.reg false (.loud [109,110,111,112] [] [(109,.tmp 0),(110,.tmp 1),(112,.bin (.cmp .eql) (.tmp 4) (.con (.int .i64 15)))] none [] false (.call ⟨.value (.func 45),#[.tmp 109,.tmp 110,.tmp 112],#[56,3,4]⟩) 0 (some 113) false (.fin [] [] []))) (.seq (.reg false (.fin [115,116,114] [(114,.bin (.cmp .eql) (.tmp 4) (.con (.int .i64 16)))] [])) (.cond (.tmp 114) [114] (.seq (.reg false (.loud [] [] [] none [] false (.buildSlice 22 0 #[]) 22 (some 117) true (.fin [12] [(12,.tmp 117)] []))) (.seq (.reg false (.loud [118] [] [(118,.tmp 0)] none [] false (.call ⟨.value (.func 19),#[.tmp 118,.const (.int .i64 5)],#[56,3]⟩) 3 (some 119) true (.fin [13] [(13,.tmp 119)] []))) (.seq (.seq (.reg false (.fin [14] [(14,.con (.int .i64 0))] [])) (.block 1 (.loop L.aW.l1))) (.reg false (.loud [131,132,133] [(131,.tmp 0),(132,.tmp 1)] [(133,.tmp 0)] none [] false (.call ⟨.value (.func 22),#[.tmp 133],#[56]⟩) 3 (some 134) true (.loud [135,136] [(135,.tmp 12)] [(136,.tmp 0)] none [] false (.call ⟨.value (.func 19),#[.tmp 136,.const (.int .i64 5)],#[56,3]⟩) 3 (some 137) true (.loud [138] [] [(134,.tmp 134),(135,.tmp 135),(138,.un (.conv .i32) (.tmp 137))] none [] false (.build 54 #[(0,.const (.int .i64 17)),(1,.tmp 134),(3,.tmp 135),(4,.tmp 138)]) 54 (some 139) true (.loud [] [] [(131,.tmp 131),(132,.tmp 132),(139,.tmp 139)] none [] false (.call ⟨.value (.func 44),#[.tmp 131,.tmp 132,.tmp 139],#[56,3,54]⟩) 0 (some 140) false (.fin [] [] []))))))))) (.seq (.reg false (.fin [142,143,141] [(141,.bin (.cmp .eql) (.tmp 4) (.con (.int .i64 17)))] [])) (.cond (.tmp 141) [141] (.seq (.reg false (.loud [144,145] [] [(144,.tmp 0),(145,.tmp 1)] none [] false (.call ⟨.value (.func 43),#[.tmp 144,.tmp 145],#[56,3]⟩) 3 (some 146) true (.fin [15] [(15,.tmp 146)] []))) (.seq (.reg false (.loud [147,148] [] [(147,.tmp 0),(148,.tmp 1)] none [] false (.call ⟨.value (.func 43),#[.tmp 147,.tmp 148],#[56,3]⟩) 3 (some 149) true (.fin [16] [(16,.tmp 149)] []))) (.seq (.reg false (.loud [150] [] [(150,.tmp 0)] none [] false (.call ⟨.value (.func 22),#[.tmp 150],#[56]⟩) 3 (some 151) true (.fin [17] [(17,.tmp 151)] []))) (.reg false (.loud [152,153,154,155] [(152,.tmp 0),(153,.tmp 1),(154,.tmp 17)] [(155,.tmp 0)] none [] false (.call ⟨.value (.func 22),#[.tmp 155],#[56]⟩) 3 (some 156) true (.loud [157,158] [] [(157,.tmp 15),(158,.tmp 16)] none [] false (.buildSlice 22 2 #[(0,.tmp 157),(1,.tmp 158)]) 22 (some 159) true (.loud [] [] [(154,.tmp 154),(156,.tmp 156),(159,.tmp 159)] none [] false (.build 54 #[(0,.const (.int .i64 18)),(1,.tmp 154),(2,.tmp 156),(3,.tmp 159)]) 54 (some 160) true (.loud [] [] [(152,.tmp 152),(153,.tmp 153),(160,.tmp 160)] none [] false (.call ⟨.value (.func 44),#[.tmp 152,.tmp 153,.tmp 160],#[56,3,54]⟩) 0 (some 161) false (.fin [] [] []))))))))) (.reg false (.loud [20,21,22] [(20,.tmp 0),(21,.tmp 1)] [(22,.tmp 0)] none [] false (.call ⟨.value (.func 29),#[.tmp 22],#[56]⟩) 21 (some 23) true (.loud [] [] [(20,.tmp 20),(21,.tmp 21),(23,.tmp 23)] none [] false (.call ⟨.value (.func 28),#[.tmp 20,.tmp 21,.tmp 23],#[56,3,21]⟩) 3 (some 24) false (.fin [] [] []))))))))))))))))))⟩
theorem E.aW:bj Try.prog Try.f25=some L.aW:=by kernel_rfl
theorem F.aW:Try.prog.funcs[N.aW]? = some Try.f25:=Try.func25
abbrev N.cY:Nat:=26
def L.cY:LFn:=
⟨[],(.seq (.reg false (.loud [] [] [] none [] false (.build 41 #[]) 41 (some 15) true (.loud [] [] [] none [] false (.alloc 41) 0 (some 6) true (.loud [] [] [(6,.tmp 6),(15,.tmp 15)] none [] false (.store 41 (.tmp 6) (.tmp 15)) 0 none false (.fin [] [] []))))) (.seq (.seq (.reg false (.fin [16,17] [(17,.un .len (.tmp 2))] [])) (.block 0 (.seq (.reg false (.fin [41,40] [(40,.bin (.cmp .eql) (.tmp 17) (.con (.int .i64 0)))] [])) (.cond (.tmp 40) [40] (.seq (.reg false (.loud [42] [] [(42,.un (.fld 0) (.tmp 6))] none [] false (.store 3 (.tmp 42) (.const (.int .i64 4))) 0 none false (.fin [] [] []))) (.seq (.reg false (.loud [43] [] [(43,.tmp 0)] none [] false (.call ⟨.value (.func 19),#[.tmp 43,.const (.int .i64 8)],#[56,3]⟩) 3 (some 44) true (.fin [7] [(7,.tmp 44)] []))) (.seq (.reg false (.fin [45,46] [(46,.bin (.cmp .eql) (.tmp 7) (.con (.int .i64 0)))] [])) (.cond (.tmp 46) [46] (.seq (.reg false (.loud [47] [] [(47,.un (.fld 0) (.tmp 6))] none [] false (.store 3 (.tmp 47) (.const (.int .i64 5))) 0 none false (.fin [] [] []))) (.reg false (.loud [48] [] [(48,.tmp 0)] none [] false (.call ⟨.value (.func 19),#[.tmp 48,.const (.int .i64 200)],#[56,3]⟩) 3 (some 49) true (.loud [50,51] [] [(51,.un (.fld 3) (.tmp 6)),(50,.un (.conv .i32) (.tmp 49))] none [] false (.store 21 (.tmp 51) (.tmp 50)) 0 none false (.fin [] [] []))))) (.seq (.reg false (.fin [52,53] [(53,.bin (.cmp .gtr) (.tmp 7) (.con (.int .i64 1)))] [])) (.cond (.tmp 53) [53] (.reg false (.loud [54,55] [] [(54,.tmp 0),(55,.tmp 1)] none [] false (.call ⟨.value (.func 43),#[.tmp 54,.tmp 55],#[56,3]⟩) 3 (some 56) true (.loud [] [] [(56,.tmp 56)] none [] false (.buildSlice 22 1 #[(0,.tmp 56)]) 22 (some 57) true (.loud [58] [] [(58,.un (.fld 1) (.tmp 6)),(57,.tmp 57)] none [] false (.store 22 (.tmp 58) (.tmp 57)) 0 none false (.fin [] [] []))))) .skip)))))) (.seq (.reg false (.fin [60,59] [(59,.bin (.cmp .eql) (.tmp 17) (.con (.int .i64 1)))] [])) (.cond (.tmp 59) [59] (.seq (.reg false (.loud [61] [] [(61,.un (.fld 0) (.tmp 6))] none [] false (.store 3 (.tmp 61) (.const (.int .i64 1))) 0 none false (.fin [] [] []))) (.reg false (.loud [62,63] [] [(63,.un (.fld 2) (.tmp 6)),(62,.tmp 2)] none [] false (.store 22 (.tmp 63) (.tmp 62)) 0 none false (.fin [] [] [])))) (.seq (.reg false (.fin [65,64] [(64,.bin (.cmp .eql) (.tmp 17) (.con (.int .i64 2)))] [])) (.cond (.tmp 64) [64] (.seq (.reg false (.loud [66] [] [(66,.un (.fld 0) (.tmp 6))] none [] false (.store 3 (.tmp 66) (.const (.int .i64 2))) 0 none false (.fin [] [] []))) (.seq (.reg false (.loud [67,68] [] [(68,.un (.fld 2) (.tmp 6)),(67,.tmp 2)] none [] false (.store 22 (.tmp 68) (.tmp 67)) 0 none false (.fin [] [] []))) (.seq (.reg false (.loud [69,70] [] [(69,.tmp 0),(70,.tmp 1)] none [] false (.call ⟨.value (.func 43),#[.tmp 69,.tmp 70],#[56,3]⟩) 3 (some 71) true (.fin [8] [(8,.tmp 71)] []))) (.seq (.seq (.reg false (.loud [72] [] [(72,.tmp 0)] none [] false (.call ⟨.value (.func 19),#[.tmp 72,.const (.int .i64 2)],#[56,3]⟩) 3 (some 73) true (.fin [74] [(74,.bin (.cmp .eql) (.tmp 73) (.con (.int .i64 0)))] []))) (.cond (.tmp 74) [74] (.seq (.reg false (.loud [] [] [] none [] false (.build 90 #[(0,.const (.int .i64 11)),(1,.const (.int .i64 12)),(2,.const (.int .i64 13))]) 90 (some 75) true (.loud [] [] [] none [] false (.alloc 90) 0 (some 9) true (.loud [] [] [(9,.tmp 9),(75,.tmp 75)] none [] false (.store 90 (.tmp 9) (.tmp 75)) 0 none false (.fin [] [] []))))) (.seq (.reg false (.loud [76,77] [] [(76,.tmp 0),(77,.tmp 1)] none [] false (.call ⟨.value (.func 43),#[.tmp 76,.tmp 77],#[56,3]⟩) 3 (some 78) true (.fin [10] [(10,.tmp 78)] []))) (.seq (.reg false (.loud [79] [] [(79,.tmp 0)] none [] false (.call ⟨.value (.func 22),#[.tmp 79],#[56]⟩) 3 (some 80) true (.fin [11] [(11,.tmp 80)] []))) (.seq (.reg false (.loud [81,82,83] [(81,.tmp 0),(82,.tmp 1)] [(83,.tmp 0)] none [] false (.call ⟨.value (.func 19),#[.tmp 83,.const (.int .i64 3)],#[56,3]⟩) 3 (some 84) true (.loud [85,86,87,88,89] [(86,.un .load (.bin (.aidx 3 1) (.tmp 9) (.tmp 84))),(87,.tmp 11)] [(88,.tmp 8),(89,.tmp 10)] none [] false (.buildSlice 22 2 #[(0,.tmp 88),(1,.tmp 89)]) 22 (some 90) true (.loud [] [] [(86,.tmp 86),(87,.tmp 87),(90,.tmp 90)] none [] false (.build 54 #[(0,.tmp 86),(1,.tmp 87),(3,.tmp 90)]) 54 (some 91) true (.loud [] [] [(81,.tmp 81),(82,.tmp 82),(91,.tmp 91)] none [] false (.call ⟨.value (.func 44),#[.tmp 81,.tmp 82,.tmp 91],#[56,3,54]⟩) 0 (some 92) false (.fin [] [] [])))))) (.reg false (.fin [93,8] [(8,.tmp 11)] [])))))) .skip)) (.reg false (.loud [94] [] [(94,.tmp 8)] none [] false (.buildSlice 22 1 #[(0,.tmp 94)]) 22 (some 95) true (.loud [96] [] [(96,.un (.fld 1) (.tmp 6)),(95,.tmp 95)] none [] false (.store 22 (.tmp 96) (.tmp 95)) 0 none false (.fin [] [] [])))))))) (.seq (.reg false (.loud [18] [] [(18,.un (.fld 0) (.tmp 6))] none [] false (.store 3 (.tmp 18) (.const (.int .i64 3))) 0 none false (.fin [] [] []))) (.seq (.reg false (.loud [19,20] [] [(20,.un (.fld 2) (.tmp 6)),(19,.tmp 2)] none [] false (.store 22 (.tmp 20) (.tmp 19)) 0 none false (.fin [] [] []))) (.seq (.reg false (.loud [21,22] [] [(21,.tmp 0),(22,.tmp 1)] none [] false (.call ⟨.value (.func 43),#[.tmp 21,.tmp 22],#[56,3]⟩) 3 (some 23) true (.fin [12] [(12,.tmp 23)] []))) (.seq (.reg false (.loud [24,25] [] [(24,.tmp 0),(25,.tmp 1)] none [] false (.call ⟨.value (.func 28),#[.tmp 24,.tmp 25,.const (.int .i32 7)],#[56,3,21]⟩) 3 (some 26) true (.fin [13] [(13,.tmp 26)] []))) (.seq (.reg false (.loud [27] [] [(27,.tmp 0)] none [] false (.call ⟨.value (.func 22),#[.tmp 27],#[56]⟩) 3 (some 28) true (.fin [14] [(14,.tmp 28)] []))) (.seq (.reg false (.loud [29,30,31,32,33] [(29,.tmp 0),(30,.tmp 1),(31,.tmp 14)] [(32,.tmp 12),(33,.tmp 13)] none [] false (.buildSlice 22 2 #[(0,.tmp 32),(1,.tmp 33)]) 22 (some 34) true (.loud [] [] [(31,.tmp 31),(34,.tmp 34)] none [] false (.build 54 #[(0,.const (.int .i64 5)),(1,.tmp 31),(3,.tmp 34)]) 54 (some 35) true (.loud [] [] [(29,.tmp 29),(30,.tmp 30),(35,.tmp 35)] none [] false (.call ⟨.value (.func 44),#[.tmp 29,.tmp 30,.tmp 35],#[56,3,54]⟩) 0 (some 36) false (.fin [] [] []))))) (.reg false (.loud [37] [] [(37,.tmp 14)] none [] false (.buildSlice 22 1 #[(0,.tmp 37)]) 22 (some 38) true (.loud [39] [] [(39,.un (.fld 1) (.tmp 6)),(38,.tmp 38)] none [] false (.store 22 (.tmp 39) (.tmp 38)) 0 none false (.fin [] [] [])))))))))))))))))) (.reg true (.loud [97,98,99,100,101,102,103,104,105] [] [(105,(.un (.fld 2) (.bin (.idx 6) (.un .load (.un (.fld 1) (.un (.fld 2) (.un .nilPtr (.tmp 0))))) (.tmp 1)))),(103,.un (.au 4) (.tmp 6))] none [] true (.store 41 (.tmp 105) (.tmp 103)) 0 none false (.fin [] [] [])))))⟩
theorem E.cY:bj Try.prog Try.f26=some L.cY:=by kernel_rfl
theorem F.cY:Try.prog.funcs[N.cY]? = some Try.f26:=Try.func26
abbrev N.b0:Nat:=27
def L.b0.l1:LC:=
 (.seq (.seq (.reg false (.fin [12,13,14,15] [(15,.bin (.cmp .lss) (.tmp 6) (.un .load (.un (.fld 0) (.tmp 2))))] [])) (.cond (.tmp 15) [15] .skip (.exit 0))) (.seq (.block 1 (.reg false (.loud [18,19] [(18,.tmp 5)] [(19,.tmp 6)] none [] false (.buildSlice 22 1 #[(0,.tmp 19)]) 22 (some 20) true (.loud [] [] [(18,.tmp 18),(20,.tmp 20)] none [] false (.call ⟨.builtin .append,#[.tmp 18,.tmp 20],#[22,22]⟩) 22 (some 21) true (.fin [5] [(5,.tmp 21)] []))))) (.reg false (.fin [16,17,6] [(6,.bin (.arith .add) (.tmp 6) (.con (.int .i64 1)))] []))))
def L.b0.l2:LC:=
 (.seq (.seq (.reg false (.fin [24,25,26,27] [(27,.bin (.cmp .lss) (.tmp 8) (.un .len (.tmp 7)))] [])) (.cond (.tmp 27) [27] .skip (.exit 2))) (.seq (.block 3 (.seq (.reg false (.fin [9] [(9,.con (.bool true))] [])) (.seq (.seq (.reg false (.fin [30,31,32,33,34,35,36] [(36,(.bin (.cmp .neq) (.un .load (.un (.fld 0) (.bin (.idx 4) (.tmp 7) (.tmp 8)))) (.tmp 1)))] [])) (.cond (.tmp 36) [36] (.seq (.reg true (.loud [37,38,39,40,41,42] [] [(37,.un (.au 2) (.tmp 2)),(42,.un .load (.un (.fld 0) (.bin (.idx 4) (.tmp 7) (.tmp 8))))] none [] true (.call ⟨.value (.func 23),#[.tmp 37,.tmp 42],#[26,3]⟩) 63 (some 43) true (.fin [10] [(10,.tmp 43)] []))) (.reg false (.fin [44,45,46,47,48,9] [(9,.un .not (.un .load (.bin (.idx 1) (.tmp 10) (.tmp 1))))] []))) .skip)) (.seq (.reg false (.fin [49] [(49,.tmp 9)] [])) (.cond (.tmp 49) [49] (.reg false (.loud [50,51,52,53,54,55] [] [(50,.tmp 5),(55,.un .load (.un (.fld 2) (.bin (.idx 4) (.tmp 7) (.tmp 8))))] none [] false (.call ⟨.builtin .append,#[.tmp 50,.tmp 55],#[22,22]⟩) 22 (some 56) true (.fin [5] [(5,.tmp 56)] []))) .skip))))) (.reg false (.fin [28,29,8] [(8,.bin (.arith .add) (.tmp 8) (.con (.int .i64 1)))] []))))
def L.b0:LFn:=
⟨[.tmp 4],(.seq (.reg false (.loud [] [] [(0,.tmp 0)] none [] false (.box 26 (.tmp 0)) 0 (some 2) true (.fin [4] [(4,.con (.slice none 0 0))] []))) (.seq (.reg false (.loud [] [] [] none [] false (.buildSlice 22 0 #[]) 22 (some 11) true (.fin [5] [(5,.tmp 11)] []))) (.seq (.seq (.reg false (.fin [6] [(6,.con (.int .i64 0))] [])) (.block 0 (.loop L.b0.l1))) (.seq (.reg false (.loud [22] [] [(22,.un (.au 2) (.tmp 2))] none [] false (.call ⟨.value (.func 46),#[.tmp 22],#[26]⟩) 91 (some 23) true (.fin [7] [(7,.tmp 23)] []))) (.seq (.seq (.reg false (.fin [8] [(8,.con (.int .i64 0))] [])) (.block 2 (.loop L.b0.l2))) (.seq (.reg false (.fin [57,4] [(4,.tmp 5)] [])) .ret))))))⟩
theorem E.b0:bj Try.prog Try.f27=some L.b0:=by kernel_rfl
theorem F.b0:Try.prog.funcs[N.b0]? = some Try.f27:=Try.func27
abbrev N.bh:Nat:=28
def L.bh:LFn:=
⟨[.tmp 6],(.seq (.reg false (.fin [6] [(6,.con (.int .i64 0))] [])) (.seq (.reg false (.loud [8] [] [(8,.tmp 0)] none [] false (.call ⟨.value (.func 22),#[.tmp 8],#[56]⟩) 3 (some 9) true (.fin [7] [(7,.tmp 9)] []))) (.seq (.reg false (.loud [10,11,12,13] [(10,.tmp 0),(11,.tmp 1)] [(12,.tmp 7),(13,.tmp 2)] none [] false (.build 54 #[(0,.const (.int .i64 1)),(1,.tmp 12),(4,.tmp 13)]) 54 (some 14) true (.loud [] [] [(10,.tmp 10),(11,.tmp 11),(14,.tmp 14)] none [] false (.call ⟨.value (.func 44),#[.tmp 10,.tmp 11,.tmp 14],#[56,3,54]⟩) 0 (some 15) false (.fin [] [] [])))) (.seq (.reg false (.fin [16,6] [(6,.tmp 7)] [])) .ret))))⟩
theorem E.bh:bj Try.prog Try.f28=some L.bh:=by kernel_rfl
theorem F.bh:Try.prog.funcs[N.bh]? = some Try.f28:=Try.func28
abbrev N.bW:Nat:=29
def L.bW:LFn:=
⟨[.tmp 2],(.seq (.reg false (.fin [2] [(2,.con (.int .i32 0))] [])) (.seq (.reg false (.loud [4] [] [(4,.tmp 0)] none [] false (.call ⟨.value (.func 19),#[.tmp 4,.const (.int .i64 1048576)],#[56,3]⟩) 3 (some 5) true (.fin [3] [(3,.tmp 5)] []))) (.seq (.seq (.reg false (.loud [6] [] [(6,.tmp 0)] none [] false (.call ⟨.value (.func 19),#[.tmp 6,.const (.int .i64 8)],#[56,3]⟩) 3 (some 7) true (.fin [] [] []))) (.block 0 (.seq (.reg false (.fin [9,8] [(8,.bin (.cmp .eql) (.tmp 7) (.con (.int .i64 0)))] [])) (.cond (.tmp 8) [8] (.seq (.reg false (.fin [10,11,12,2] [(2,.un (.conv .i32) (.bin (.arith .mul) (.tmp 3) (.con (.int .i64 4099))))] [])) .ret) (.seq (.reg false (.fin [14,13] [(13,.bin (.cmp .eql) (.tmp 7) (.con (.int .i64 1)))] [])) (.cond (.tmp 13) [13] (.seq (.reg false (.loud [15] [] [(15,.tmp 3)] none [] false (.unOp .neg 3 (.tmp 15)) 3 (some 16) true (.fin [17,2] [(2,.un (.conv .i32) (.tmp 16))] []))) .ret) (.seq (.reg false (.fin [19,18] [(18,.bin (.cmp .eql) (.tmp 7) (.con (.int .i64 2)))] [])) (.cond (.tmp 18) [18] (.seq (.reg false (.fin [2] [(2,.con (.int .i32 (-2147483648)))] [])) .ret) (.seq (.reg false (.fin [21,20] [(20,.bin (.cmp .eql) (.tmp 7) (.con (.int .i64 3)))] [])) (.cond (.tmp 20) [20] (.seq (.reg false (.fin [22,23,24,2] [(2,.un (.conv .i32) (.bin (.div .rem) (.tmp 3) (.con (.int .i64 70000))))] [])) .ret) .skip)))))))))) (.seq (.reg false (.fin [25,26,27,28,2] [(2,(.un (.conv .i32) (.bin (.arith .sub) (.bin (.div .rem) (.tmp 3) (.con (.int .i64 20))) (.con (.int .i64 4)))))] [])) .ret))))⟩
theorem E.bW:bj Try.prog Try.f29=some L.bW:=by kernel_rfl
theorem F.bW:Try.prog.funcs[N.bW]? = some Try.f29:=Try.func29
abbrev N.eL:Nat:=30
def R.eL:List E:=[.un .load (.tmp 2),.un .load (.tmp 3),.un .load (.tmp 4)]

def L.ja:LC:=
 (.reg false (.loud [] [] [(0,.tmp 0)] none [] false (.box 26 (.tmp 0)) 0 (some 1) true (.loud [] [] [] none [] false (.alloc 29) 0 (some 2) true (.loud [] [] [] none [] false (.alloc 3) 0 (some 3) true (.loud [] [] [] none [] false (.alloc 3) 0 (some 4) true (.fin [] [] []))))))
theorem E.ja:dZ Try.prog Try.f30.ntmps (fA Try.f30) (Cp Try.f30) false (uT Try.f30)=some L.ja:=by kernel_rfl
def L.fJ.l1:LC:=
 (.seq (.reg false (.fin [26] [(26,.bin (.cmp .lss) (.tmp 25) (.tmp 24))] [])) (.seq (.cond (.tmp 26) [26] .skip (.exit 0)) (.seq (.block 1 (.seq (.reg false (.loud [27,28] [(28,.un (.au 6) (.bin (.idx 6) (.tmp 23) (.tmp 25)))] [] none [] false (.alloc 43) 0 (some 7) true (.loud [] [] [(7,.tmp 7),(28,.tmp 28)] none [] false (.store 43 (.tmp 7) (.tmp 28)) 0 none false (.fin [] [] [])))) (.reg false (.fin [29,30,31,32,33,34,35,36,37,5] [(5,(.bin (.arith .add) (.tmp 5) (.bin (.arith .add) (.un .len (.un .load (.un (.fld 0) (.tmp 7)))) (.un .len (.un .load (.un (.fld 1) (.tmp 7)))))))] [])))) (.reg false (.fin [38,25] [(25,.bin (.arith .add) (.tmp 25) (.con (.int .i64 1)))] [])))))
def L.fJ:LC:=
 (.seq (.reg false (.loud [10,11] [] [(11,.un .load (.un (.fld 0) (.tmp 1)))] none [] false (.call ⟨.value (.func 49),#[.tmp 11,.const (.int .i64 0),.const (.int .i64 4)],#[3,3,3]⟩) 4 (some 12) true (.loud [] [] [(12,.tmp 12)] none [] false (.call ⟨.value (.func 48),#[.tmp 12,.const (.int .i64 1),.const (.int .i64 0),.const (.int .i64 0)],#[4,29,3,3]⟩) 0 (some 13) false (.fin [] [] [])))) (.seq (.reg false (.loud [14,15,16,17] [] [(17,(.bin (.cmp .gtr) (.un .len (.un .load (.un (.fld 1) (.tmp 1)))) (.con (.int .i64 0))))] none [] false (.call ⟨.value (.func 48),#[.tmp 17,.const (.int .i64 14),.const (.int .i64 0),.const (.int .i64 0)],#[4,29,3,3]⟩) 0 (some 18) false (.fin [] [] []))) (.seq (.reg false (.fin [19,20,21,5] [(5,.un .len (.un .load (.un (.fld 1) (.tmp 1))))] [])) (.seq (.seq (.reg false (.fin [22,23,24,25] [(23,.un .load (.un (.fld 1) (.tmp 1))),(24,.un .len (.un .load (.un (.fld 1) (.tmp 1)))),(25,.con (.int .i64 0))] [])) (.block 0 (.loop L.fJ.l1))) (.seq (.reg false (.loud [39,40,41,42,43,44,45,46] [] [(46,(.ite (.bin (.cmp .leq) (.un .len (.un .load (.un (.fld 1) (.tmp 1)))) (.con (.int .i64 512))) (.bin (.cmp .leq) (.tmp 5) (.con (.int .i64 4096))) (.con (.bool false))))] none [] false (.call ⟨.value (.func 48),#[.tmp 46,.const (.int .i64 2),.const (.int .i64 0),.const (.int .i64 0)],#[4,29,3,3]⟩) 0 (some 47) false (.fin [] [] []))) (.seq (.reg false (.loud [48] [(48,.un (.au 2) (.tmp 1))] [] none [] false (.makeMap 100 none) 100 (some 49) true (.loud [] [] [(48,.tmp 48),(49,.tmp 49)] none [] false (.build 102 #[(0,.tmp 48),(1,.tmp 49)]) 102 (some 50) true (.loud [] [] [(50,.tmp 50)] none [] false (.box 102 (.tmp 50)) 99 (some 51) true (.fin [8] [(8,.tmp 51)] []))))) (.seq (.reg false (.loud [52] [] [(52,.tmp 8)] none [] false (.call ⟨.value (.func 50),#[.tmp 52],#[99]⟩) 0 (some 53) false (.fin [] [] []))) (.seq (.reg false (.loud [54] [] [(54,.tmp 8)] none [] false (.call ⟨.value (.func 51),#[.tmp 54],#[99]⟩) 0 (some 55) false (.fin [] [] []))) (.seq (.reg false (.loud [] [] [(2,.tmp 2)] none [] false (.store 29 (.tmp 2) (.const (.int .i64 0))) 0 none false (.loud [] [] [(3,.tmp 3)] none [] false (.store 3 (.tmp 3) (.const (.int .i64 0))) 0 none false (.loud [] [] [(4,.tmp 4)] none [] false (.store 3 (.tmp 4) (.const (.int .i64 0))) 0 none false (.fin [] [] []))))) .ret)))))))))
theorem E.fJ:dZ Try.prog Try.f30.ntmps (fA Try.f30) (Cp Try.f30) false (Cx Try.f30)=some L.fJ:=by kernel_rfl
theorem R.sU:Try.f30.results.toList.mapM (resE Try.prog)=some R.eL:=by kernel_rfl
theorem F.eL:Try.prog.funcs[N.eL]? = some Try.f30:=Try.func30
theorem B.eL:Try.f30.body=some (.seq (uT Try.f30) (.seq (.region (Ez (ER Try.f30)) #[EV Try.f30 0,EV Try.f30 1] false) (Cx Try.f30))):=by kernel_rfl
abbrev N.dr:Nat:=31
def L.dr:LFn:=
⟨[.tmp 2],(.seq (.reg false (.fin [2] [(2,.con (.slice none 0 0))] [])) (.seq (.reg false (.loud [8] [] [(8,.tmp 0)] none [] false (.call ⟨.value (.func 52),#[.tmp 8],#[33]⟩) 33 (some 9) true (.loud [10] [] [(10,.tmp 0)] none [] false (.call ⟨.value (.func 36),#[.tmp 10],#[33]⟩) 33 (some 11) true (.loud [] [] [] none [] false (.alloc 33) 0 (some 3) true (.loud [] [] [] none [] false (.alloc 33) 0 (some 4) true (.loud [] [] [(3,.tmp 3),(9,.tmp 9)] none [] false (.store 33 (.tmp 3) (.tmp 9)) 0 none false (.loud [] [] [(4,.tmp 4),(11,.tmp 11)] none [] false (.store 33 (.tmp 4) (.tmp 11)) 0 none false (.fin [] [] [])))))))) (.seq (.reg false (.loud [] [] [] none [] false (.alloc 73) 0 (some 5) true (.fin [] [] []))) (.seq (.seq (.reg false (.loud [12] [] [(12,.tmp 0)] none [] false (.call ⟨.value (.func 53),#[.tmp 12],#[33]⟩) 104 (some 13) true (.fin [] [] []))) (.block 0 (.rangef (.tmp 13) [14,15] (.seq (.reg false (.fin [6] [(6,.tmp 14)] [])) (.reg false (.fin [7] [(7,.tmp 15)] []))) (.block 1 (.seq (.reg false (.fin [16,17,18,19,20,21,22,23,24,25,26,27,28,29] [(29,(.ite (.bin (.cmp .gtr) (.un .len (.un .load (.bin (.idx 1) (.un .load (.tmp 3)) (.tmp 6)))) (.con (.int .i64 1))) (.bin (.cmp .gtr) (.un .len (.un .load (.bin (.idx 1) (.un .load (.tmp 4)) (.tmp 7)))) (.con (.int .i64 1))) (.con (.bool false))))] [])) (.cond (.tmp 29) [29] (.reg false (.loud [30,31,32] [(30,.un .load (.tmp 5))] [(31,.tmp 6),(32,.tmp 7)] none [] false (.build 77 #[(0,.tmp 31),(1,.tmp 32)]) 77 (some 33) true (.loud [] [] [(33,.tmp 33)] none [] false (.buildSlice 73 1 #[(0,.tmp 33)]) 73 (some 34) true (.loud [] [] [(30,.tmp 30),(34,.tmp 34)] none [] false (.call ⟨.builtin .append,#[.tmp 30,.tmp 34],#[73,73]⟩) 73 (some 35) true (.loud [] [] [(5,.tmp 5),(35,.tmp 35)] none [] false (.store 73 (.tmp 5) (.tmp 35)) 0 none false (.fin [] [] [])))))) .skip)))))) (.seq (.reg false (.fin [36,2] [(2,.un .load (.tmp 5))] [])) .ret)))))⟩
theorem E.dr:bj Try.prog Try.f31=some L.dr:=by kernel_rfl
theorem F.dr:Try.prog.funcs[N.dr]? = some Try.f31:=Try.func31
abbrev N.gF:Nat:=32
def L.gF:LFn:=
⟨[.un (.au 2) (.tmp 2)],(.seq (.reg false (.loud [] [] [(0,.tmp 0)] none [] false (.box 26 (.tmp 0)) 0 (some 1) true (.loud [] [] [] none [] false (.alloc 26) 0 (some 2) true (.fin [] [] [])))) (.seq (.reg false (.loud [3,4] [] [(4,.un .load (.un (.fld 1) (.tmp 1)))] none [] false (.call ⟨.value (.func 54),#[.tmp 4,.func 55],#[24,112]⟩) 24 (some 5) true (.loud [6] [] [(6,.un (.fld 1) (.tmp 1)),(5,.tmp 5)] none [] false (.store 24 (.tmp 6) (.tmp 5)) 0 none false (.fin [] [] [])))) (.seq (.reg false (.loud [7] [] [(2,.tmp 2),(7,.un (.au 2) (.tmp 1))] none [] false (.store 26 (.tmp 2) (.tmp 7)) 0 none false (.fin [] [] []))) .ret)))⟩
theorem E.gF:bj Try.prog Try.f32=some L.gF:=by kernel_rfl
theorem F.gF:Try.prog.funcs[N.gF]? = some Try.f32:=Try.func32
abbrev N.cf:Nat:=33
def L.cf:LFn:=
⟨[],(.seq (.reg false (.fin [5,6,4] [(4,.un .len (.tmp 0))] [])) (.reg false (.loud [7,8,9,10] [(7,.tmp 0),(8,.tmp 4)] [(10,.un (.conv .u64) (.tmp 4))] none [] false (.call ⟨.value (.func 63),#[.tmp 10],#[115]⟩) 3 (some 11) true (.loud [12] [] [(7,.tmp 7),(8,.tmp 8),(11,.tmp 11),(12,.tmp 1)] none [] false (.call ⟨.value (.func 62),#[.tmp 7,.const (.int .i64 0),.tmp 8,.tmp 11,.tmp 12],#[44,3,3,3,81]⟩) 0 (some 13) false (.fin [] [] [])))))⟩
theorem E.cf:bj Try.prog Try.f33=some L.cf:=by kernel_rfl
theorem F.cf:Try.prog.funcs[N.cf]? = some Try.f33:=Try.func33
abbrev N.bD:Nat:=34
def L.bD:LFn:=
⟨[.tmp 4],(.seq (.reg false (.loud [] [] [(0,.tmp 0)] none [] false (.box 49 (.tmp 0)) 0 (some 2) true (.loud [] [] [(1,.tmp 1)] none [] false (.box 49 (.tmp 1)) 0 (some 3) true (.fin [4] [(4,.con (.int .i64 0))] [])))) (.seq (.reg false (.fin [5,6,7,8,9,4] [(4,.bin (.arith .sub) (.un .load (.un (.fld 0) (.tmp 2))) (.un .load (.un (.fld 0) (.tmp 3))))] [])) .ret))⟩
theorem E.bD:bj Try.prog Try.f34=some L.bD:=by kernel_rfl
theorem F.bD:Try.prog.funcs[N.bD]? = some Try.f34:=Try.func34
abbrev N.ez:Nat:=35
def L.ez:LFn:=
⟨[.tmp 2],(.seq (.reg false (.fin [2] [(2,.con (.slice none 0 0))] [])) (.seq (.seq (.reg false (.fin [7,8,9] [(9,.bin (.cmp .eql) (.un .len (.tmp 0)) (.con (.int .i64 0)))] [])) (.cond (.tmp 9) [9] (.seq (.reg false (.fin [2] [(2,.con (.slice none 0 0))] [])) .ret) .skip)) (.seq (.reg false (.loud [10] [] [(10,.tmp 0)] none [] false (.call ⟨.value (.func 52),#[.tmp 10],#[33]⟩) 33 (some 11) true (.loud [] [] [] none [] false (.alloc 33) 0 (some 3) true (.loud [] [] [(3,.tmp 3),(11,.tmp 11)] none [] false (.store 33 (.tmp 3) (.tmp 11)) 0 none false (.fin [] [] []))))) (.seq (.reg false (.loud [12,13] [] [(13,.un .len (.tmp 0)),(13,.un .len (.tmp 0))] none [] false (.makeSlice 63 (.tmp 13) (.tmp 13)) 63 (some 14) true (.loud [] [] [] none [] false (.alloc 63) 0 (some 4) true (.loud [] [] [(4,.tmp 4),(14,.tmp 14)] none [] false (.store 63 (.tmp 4) (.tmp 14)) 0 none false (.fin [] [] []))))) (.seq (.reg false (.loud [] [] [] none [] false (.alloc 22) 0 (some 5) true (.fin [] [] []))) (.seq (.reg false (.loud [] [] [] none [] false (.alloc 67) 0 (some 6) true (.fin [] [] []))) (.seq (.reg false (.loud [15] [] [(6,.tmp 6),(15,(.un (.fn 64) (.snoc (.snoc (.snoc (.snoc (.con (.tuple #[])) (.tmp 4)) (.tmp 3)) (.tmp 6)) (.tmp 5))))] none [] false (.store 67 (.tmp 6) (.tmp 15)) 0 none false (.fin [] [] []))) (.seq (.reg false (.loud [16] [] [(16,.un .load (.tmp 6))] none [] false (.call ⟨.value (.tmp 16),#[.const (.int .i64 0)],#[3]⟩) 0 (some 17) false (.fin [] [] []))) (.seq (.reg false (.loud [18] [] [(18,.un .load (.tmp 5))] none [] false (.call ⟨.value (.func 65),#[.tmp 18],#[22]⟩) 0 (some 19) false (.fin [] [] []))) (.seq (.reg false (.fin [20,2] [(2,.un .load (.tmp 5))] [])) .ret))))))))))⟩
theorem E.ez:bj Try.prog Try.f35=some L.ez:=by kernel_rfl
theorem F.ez:Try.prog.funcs[N.ez]? = some Try.f35:=Try.func35
abbrev N.eH:Nat:=36
def L.eH:LFn:=
⟨[.tmp 2],(.seq (.reg false (.fin [2] [(2,.con (.slice none 0 0))] [])) (.seq (.reg false (.loud [6,7] [] [(7,.un .len (.tmp 0)),(7,.un .len (.tmp 0))] none [] false (.makeSlice 33 (.tmp 7) (.tmp 7)) 33 (some 8) true (.loud [] [] [] none [] false (.alloc 33) 0 (some 3) true (.loud [] [] [(3,.tmp 3),(8,.tmp 8)] none [] false (.store 33 (.tmp 3) (.tmp 8)) 0 none false (.fin [] [] []))))) (.seq (.seq (.reg false (.loud [9] [] [(9,.tmp 0)] none [] false (.call ⟨.value (.func 53),#[.tmp 9],#[33]⟩) 104 (some 10) true (.fin [] [] []))) (.block 0 (.rangef (.tmp 10) [11,12] (.seq (.reg false (.fin [4] [(4,.tmp 11)] [])) (.reg false (.fin [5] [(5,.tmp 12)] []))) (.block 1 (.reg true (.loud [13,14,15,16,17,18,19] [(13,.un .load (.tmp 3)),(14,.tmp 5),(18,.un .load (.bin (.idx 1) (.un .load (.tmp 3)) (.tmp 5)))] [(19,.tmp 4)] none [] false (.buildSlice 22 1 #[(0,.tmp 19)]) 22 (some 20) true (.loud [] [] [(18,.tmp 18),(20,.tmp 20)] none [] false (.call ⟨.builtin .append,#[.tmp 18,.tmp 20],#[22,22]⟩) 22 (some 21) true (.loud [22] [] [(22,.bin (.idx 1) (.tmp 13) (.tmp 14)),(21,.tmp 21)] none [] true (.store 22 (.tmp 22) (.tmp 21)) 0 none false (.fin [] [] []))))))))) (.seq (.reg false (.fin [23,2] [(2,.un .load (.tmp 3))] [])) .ret))))⟩
theorem E.eH:bj Try.prog Try.f36=some L.eH:=by kernel_rfl
theorem F.eH:Try.prog.funcs[N.eH]? = some Try.f36:=Try.func36
abbrev N.cU:Nat:=37
def L.cU.l1:LC:=
 (.block 1 (.block 2 (.seq (.reg true (.fin [10,11,12,13,14,15,16,17,18,9] [(9,.bin (.cmp .gtr) (.un .load (.bin (.idx 1) (.tmp 1) (.tmp 2))) (.un .load (.bin (.idx 1) (.tmp 1) (.tmp 3))))] [])) (.cond (.tmp 9) [9] (.reg false (.fin [19,20,21,22,2] [(2,.un .load (.bin (.idx 1) (.tmp 0) (.tmp 2)))] [])) (.seq (.reg true (.fin [24,25,26,27,28,29,30,31,32,23] [(23,.bin (.cmp .gtr) (.un .load (.bin (.idx 1) (.tmp 1) (.tmp 3))) (.un .load (.bin (.idx 1) (.tmp 1) (.tmp 2))))] [])) (.cond (.tmp 23) [23] (.reg false (.fin [33,34,35,36,3] [(3,.un .load (.bin (.idx 1) (.tmp 0) (.tmp 3)))] [])) (.exit 0)))))))
def L.cU:LFn:=
⟨[.tmp 8],(.seq (.reg false (.fin [8] [(8,.con (.int .i64 0))] [])) (.seq .skip (.seq (.block 0 (.loop L.cU.l1)) (.seq (.reg false (.fin [37,8] [(8,.tmp 2)] [])) .ret))))⟩
theorem E.cU:bj Try.prog Try.f37=some L.cU:=by kernel_rfl
theorem F.cU:Try.prog.funcs[N.cU]? = some Try.f37:=Try.func37
abbrev N.ee:Nat:=38
def L.ee.l1:LC:=
 (.seq (.reg false (.fin [11] [(11,.bin (.cmp .lss) (.tmp 10) (.tmp 9))] [])) (.seq (.cond (.tmp 11) [11] .skip (.exit 0)) (.seq (.block 1 (.seq (.reg false (.fin [12,13,7] [(7,.un .load (.bin (.idx 1) (.tmp 8) (.tmp 10)))] [])) (.seq (.reg false (.fin [14,15,16,17,18,19,20] [(20,.ite (.bin (.cmp .geq) (.tmp 7) (.con (.int .i64 0))) (.bin (.cmp .lss) (.tmp 7) (.tmp 1)) (.con (.bool false)))] [])) (.cond (.tmp 20) [20] (.reg false (.loud [21,22] [(21,.tmp 5)] [(22,.tmp 7)] none [] false (.buildSlice 22 1 #[(0,.tmp 22)]) 22 (some 23) true (.loud [] [] [(21,.tmp 21),(23,.tmp 23)] none [] false (.call ⟨.builtin .append,#[.tmp 21,.tmp 23],#[22,22]⟩) 22 (some 24) true (.fin [5] [(5,.tmp 24)] [])))) .skip)))) (.reg false (.fin [25,10] [(10,.bin (.arith .add) (.tmp 10) (.con (.int .i64 1)))] [])))))
def L.ee:LFn:=
⟨[.tmp 4],(.seq (.reg false (.fin [4] [(4,.con (.slice none 0 0))] [])) (.seq (.reg false (.fin [5] [(5,.con (.slice none 0 0))] [])) (.seq (.seq (.reg false (.fin [8,9,10] [(8,.tmp 0),(9,.un .len (.tmp 0)),(10,.con (.int .i64 0))] [])) (.block 0 (.loop L.ee.l1))) (.seq (.reg false (.loud [26] [] [(26,.tmp 5)] none [] false (.call ⟨.value (.func 66),#[.tmp 26],#[22]⟩) 0 (some 27) false (.fin [] [] []))) (.seq (.reg false (.loud [28] [] [(28,.tmp 5)] none [] false (.call ⟨.value (.func 67),#[.tmp 28],#[22]⟩) 22 (some 29) true (.fin [4] [(4,.tmp 29)] []))) .ret)))))⟩
theorem E.ee:bj Try.prog Try.f38=some L.ee:=by kernel_rfl
theorem F.ee:Try.prog.funcs[N.ee]? = some Try.f38:=Try.func38
abbrev N.b8:Nat:=39
def L.b8:LFn:=
⟨[.tmp 3],(.seq (.reg false (.fin [3] [(3,.con (.bool false))] [])) (.seq (.reg false (.fin [4,5,6,7,8,9,10,11,3] [(3,(.ite (.bin (.cmp .geq) (.tmp 0) (.con (.int .i64 0))) (.bin (.cmp .lss) (.tmp 0) (.un .len (.un .load (.tmp 1)))) (.con (.bool false))))] [])) .ret))⟩
theorem E.b8:bj Try.prog Try.f39=some L.b8:=by kernel_rfl
theorem F.b8:Try.prog.funcs[N.b8]? = some Try.f39:=Try.func39
abbrev N.cn:Nat:=43
def L.cn:LFn:=
⟨[.tmp 4],(.seq (.reg false (.fin [4] [(4,.con (.int .i64 0))] [])) (.seq (.reg false (.loud [8] [] [(8,.tmp 0)] none [] false (.call ⟨.value (.func 68),#[.tmp 8],#[56]⟩) 79 (some 9) true (.fin [7,10,11,5,6] [(5,.un (.ext 0) (.tmp 9)),(6,.un (.ext 1) (.tmp 9))] []))) (.seq (.seq (.reg false (.loud [12,13,14,15] [(14,.un .not (.tmp 6))] [(15,.gd (.un .not (.tmp 6)) false (.tmp 0))] (some ((.un .not (.tmp 6)),false)) [] false (.call ⟨.value (.func 19),#[.tmp 15,.const (.int .i64 9)],#[56,3]⟩) 3 (some 16) true (.fin [17,18] [(18,.ite (.tmp 14) (.con (.bool true)) (.bin (.cmp .eql) (.tmp 16) (.con (.int .i64 0))))] []))) (.cond (.tmp 18) [18] (.seq (.reg false (.loud [19,20,21] [(19,.tmp 0),(20,.tmp 1)] [(21,.tmp 0)] none [] false (.call ⟨.value (.func 29),#[.tmp 21],#[56]⟩) 21 (some 22) true (.loud [] [] [(19,.tmp 19),(20,.tmp 20),(22,.tmp 22)] none [] false (.call ⟨.value (.func 28),#[.tmp 19,.tmp 20,.tmp 22],#[56,3,21]⟩) 3 (some 23) true (.fin [4] [(4,.tmp 23)] [])))) .ret) .skip)) (.seq (.reg false (.fin [24,4] [(4,.tmp 5)] [])) .ret))))⟩
theorem E.cn:bj Try.prog Try.f43=some L.cn:=by kernel_rfl
theorem F.cn:Try.prog.funcs[N.cn]? = some Try.f43:=Try.func43
abbrev N.cI:Nat:=44
def L.cI:LFn:=
⟨[],(.seq (.reg false (.loud [] [] [(2,.tmp 2)] none [] false (.box 54 (.tmp 2)) 0 (some 5) true (.fin [] [] []))) (.seq (.reg true (.loud [7,8,9,10,11,12,13,14,15,16,17,18,19,20,21,22] [(11,(.un .load (.un (.fld 1) (.un (.fld 2) (.un .nilPtr (.tmp 0)))))),(12,.tmp 1),(21,(.un .load (.un (.fld 1) (.bin (.idx 6) (.un .load (.un (.fld 1) (.un (.fld 2) (.un .nilPtr (.tmp 0))))) (.tmp 1)))))] [(22,.un (.au 5) (.tmp 5))] none [] false (.buildSlice 39 1 #[(0,.tmp 22)]) 39 (some 23) true (.loud [] [] [(21,.tmp 21),(23,.tmp 23)] none [] false (.call ⟨.builtin .append,#[.tmp 21,.tmp 23],#[39,39]⟩) 39 (some 24) true (.loud [25,26] [] [(26,.un (.fld 1) (.bin (.idx 6) (.tmp 11) (.tmp 12))),(24,.tmp 24)] none [] true (.store 39 (.tmp 26) (.tmp 24)) 0 none false (.fin [] [] []))))) (.seq (.reg false (.loud [27] [] [(27,.un (.au 5) (.tmp 5))] none [] false (.call ⟨.value (.func 24),#[.tmp 27],#[54]⟩) 22 (some 28) true (.fin [6] [(6,.tmp 28)] []))) (.reg false (.loud [29,30,31,32,33,34] [(29,.tmp 0)] [(33,.un .load (.un (.fld 5) (.un .nilPtr (.tmp 0)))),(34,.tmp 6)] none [] false (.call ⟨.builtin .append,#[.tmp 33,.tmp 34],#[22,22]⟩) 22 (some 35) true (.loud [36,37] [] [(37,.un (.fld 5) (.un .nilPtr (.tmp 29))),(35,.tmp 35)] none [] false (.store 22 (.tmp 37) (.tmp 35)) 0 none false (.fin [] [] [])))))))⟩
theorem E.cI:bj Try.prog Try.f44=some L.cI:=by kernel_rfl
theorem F.cI:Try.prog.funcs[N.cI]? = some Try.f44:=Try.func44
abbrev N.cg:Nat:=45
def L.cg:LFn:=
⟨[],(.seq (.reg false (.loud [12,13,14] [(12,.tmp 0),(13,.tmp 1)] [(14,.tmp 0)] none [] false (.call ⟨.value (.func 19),#[.tmp 14,.const (.int .i64 9)],#[56,3]⟩) 3 (some 15) true (.loud [16] [] [(12,.tmp 12),(13,.tmp 13),(16,.un (.conv .i32) (.tmp 15))] none [] false (.call ⟨.value (.func 28),#[.tmp 12,.tmp 13,.tmp 16],#[56,3,21]⟩) 3 (some 17) true (.fin [6] [(6,.tmp 17)] [])))) (.seq (.seq (.reg false (.loud [18] [] [(18,.tmp 0)] none [] false (.call ⟨.value (.func 19),#[.tmp 18,.const (.int .i64 3)],#[56,3]⟩) 3 (some 19) true (.fin [20] [(20,.bin (.cmp .eql) (.tmp 19) (.con (.int .i64 0)))] []))) (.cond (.tmp 20) [20] (.seq (.reg false (.loud [21,22] [] [(21,.tmp 0),(22,.tmp 1)] none [] false (.call ⟨.value (.func 43),#[.tmp 21,.tmp 22],#[56,3]⟩) 3 (some 23) true (.fin [7] [(7,.tmp 23)] []))) (.seq (.reg false (.loud [24,25] [] [(24,.tmp 0),(25,.tmp 1)] none [] false (.call ⟨.value (.func 28),#[.tmp 24,.tmp 25,.const (.int .i32 7)],#[56,3,21]⟩) 3 (some 26) true (.fin [8] [(8,.tmp 26)] []))) (.seq (.reg false (.loud [27] [] [(27,.tmp 0)] none [] false (.call ⟨.value (.func 22),#[.tmp 27],#[56]⟩) 3 (some 28) true (.fin [9] [(9,.tmp 28)] []))) (.seq (.reg false (.loud [29,30,31,32,33] [(29,.tmp 0),(30,.tmp 1),(31,.tmp 9)] [(32,.tmp 7),(33,.tmp 8)] none [] false (.buildSlice 22 2 #[(0,.tmp 32),(1,.tmp 33)]) 22 (some 34) true (.loud [] [] [(31,.tmp 31),(34,.tmp 34)] none [] false (.build 54 #[(0,.const (.int .i64 5)),(1,.tmp 31),(3,.tmp 34)]) 54 (some 35) true (.loud [] [] [(29,.tmp 29),(30,.tmp 30),(35,.tmp 35)] none [] false (.call ⟨.value (.func 44),#[.tmp 29,.tmp 30,.tmp 35],#[56,3,54]⟩) 0 (some 36) false (.fin [] [] []))))) (.seq (.reg false (.loud [37] [] [(37,.tmp 0)] none [] false (.call ⟨.value (.func 22),#[.tmp 37],#[56]⟩) 3 (some 38) true (.fin [10] [(10,.tmp 38)] []))) (.seq (.reg false (.loud [39,40,41,42,43] [(39,.tmp 0),(40,.tmp 1),(41,.tmp 10)] [(42,.tmp 6),(43,.tmp 9)] none [] false (.buildSlice 22 2 #[(0,.tmp 42),(1,.tmp 43)]) 22 (some 44) true (.loud [] [] [(41,.tmp 41),(44,.tmp 44)] none [] false (.build 54 #[(0,.const (.int .i64 2)),(1,.tmp 41),(3,.tmp 44)]) 54 (some 45) true (.loud [] [] [(39,.tmp 39),(40,.tmp 40),(45,.tmp 45)] none [] false (.call ⟨.value (.func 44),#[.tmp 39,.tmp 40,.tmp 45],#[56,3,54]⟩) 0 (some 46) false (.fin [] [] []))))) (.reg false (.fin [47,6] [(6,.tmp 10)] [])))))))) .skip)) (.seq (.reg false (.loud [48] [] [(48,.tmp 0)] none [] false (.call ⟨.value (.func 19),#[.tmp 48,.const (.int .i64 4)],#[56,3]⟩) 3 (some 49) true (.fin [50,11] [(11,.un (.conv .i32) (.tmp 49))] []))) (.seq (.seq (.reg false (.loud [51] [] [(51,.tmp 0)] none [] false (.call ⟨.value (.func 19),#[.tmp 51,.const (.int .i64 12)],#[56,3]⟩) 3 (some 52) true (.fin [53] [(53,.bin (.cmp .eql) (.tmp 52) (.con (.int .i64 0)))] []))) (.cond (.tmp 53) [53] (.reg false (.loud [54] [] [(54,.tmp 0)] none [] false (.call ⟨.value (.func 29),#[.tmp 54],#[56]⟩) 21 (some 55) true (.fin [11] [(11,.tmp 55)] []))) .skip)) (.seq (.reg false (.fin [56] [(56,.tmp 2)] [])) (.cond (.tmp 56) [56] (.reg false (.loud [57,58,59,60,61] [(57,.tmp 0),(58,.tmp 1),(59,.tmp 6)] [(60,.tmp 0),(61,.tmp 1)] none [] false (.call ⟨.value (.func 43),#[.tmp 60,.tmp 61],#[56,3]⟩) 3 (some 62) true (.loud [] [] [(59,.tmp 59),(62,.tmp 62)] none [] false (.buildSlice 22 2 #[(0,.tmp 59),(1,.tmp 62)]) 22 (some 63) true (.loud [64] [] [(63,.tmp 63),(64,.tmp 11)] none [] false (.build 54 #[(0,.const (.int .i64 16)),(3,.tmp 63),(4,.tmp 64)]) 54 (some 65) true (.loud [] [] [(57,.tmp 57),(58,.tmp 58),(65,.tmp 65)] none [] false (.call ⟨.value (.func 44),#[.tmp 57,.tmp 58,.tmp 65],#[56,3,54]⟩) 0 (some 66) false (.fin [] [] [])))))) (.reg false (.loud [67,68,69] [(67,.tmp 0),(68,.tmp 1)] [(69,.tmp 0)] none [] false (.call ⟨.value (.func 22),#[.tmp 69],#[56]⟩) 3 (some 70) true (.loud [71] [] [(71,.tmp 6)] none [] false (.buildSlice 22 1 #[(0,.tmp 71)]) 22 (some 72) true (.loud [73] [] [(70,.tmp 70),(72,.tmp 72),(73,.tmp 11)] none [] false (.build 54 #[(0,.const (.int .i64 15)),(1,.tmp 70),(3,.tmp 72),(4,.tmp 73)]) 54 (some 74) true (.loud [] [] [(67,.tmp 67),(68,.tmp 68),(74,.tmp 74)] none [] false (.call ⟨.value (.func 44),#[.tmp 67,.tmp 68,.tmp 74],#[56,3,54]⟩) 0 (some 75) false (.fin [] [] []))))))))))))⟩
theorem E.cg:bj Try.prog Try.f45=some L.cg:=by kernel_rfl
theorem F.cg:Try.prog.funcs[N.cg]? = some Try.f45:=Try.func45
end Go.Proofs.Ytbkdlhkoiagbbaa
namespace Go.Proofs.Ytbkdlhkoiagbbaa
open Go Go.Lft
set_option maxRecDepth 100000
abbrev N.bL:Nat:=46
def L.bL.l3:LC:=
 (.seq (.seq (.reg false (.fin [41,42,43,44,45,46,47,48,49] [(49,(.bin (.cmp .lss) (.tmp 8) (.un .len (.un .load (.un (.fld 1) (.bin (.idx 2) (.un .load (.un (.fld 0) (.tmp 5))) (.tmp 6)))))))] [])) (.cond (.tmp 49) [49] .skip (.exit 4))) (.seq (.block 5 (.reg true (.loud [52,53,54,55,56,57,58,59,60,61,62,63] [(53,.un .load (.un (.fld 3) (.tmp 7)))] [(63,(.un .load (.un (.fld 1) (.bin (.idx 2) (.un .load (.un (.fld 1) (.bin (.idx 2) (.un .load (.un (.fld 0) (.tmp 5))) (.tmp 6)))) (.tmp 8)))))] none [] false (.buildSlice 22 1 #[(0,.tmp 63)]) 22 (some 64) true (.loud [] [] [(53,.tmp 53),(64,.tmp 64)] none [] true (.call ⟨.builtin .append,#[.tmp 53,.tmp 64],#[22,22]⟩) 22 (some 65) true (.loud [66] [] [(66,.un (.fld 3) (.tmp 7)),(65,.tmp 65)] none [] false (.store 22 (.tmp 66) (.tmp 65)) 0 none false (.fin [] [] [])))))) (.reg false (.fin [50,51,8] [(8,.bin (.arith .add) (.tmp 8) (.con (.int .i64 1)))] []))))
def L.bL.l2:LC:=
 (.seq (.seq (.reg false (.fin [23,24,25,26,27] [(27,(.bin (.cmp .lss) (.tmp 6) (.un .len (.un .load (.un (.fld 0) (.tmp 5))))))] [])) (.cond (.tmp 27) [27] .skip (.exit 2))) (.seq (.block 3 (.seq (.reg false (.loud [30,31,32,33,34,35,36,37,38] [(30,.tmp 4),(32,.bin (.arith .sub) (.con (.int .i64 (-1))) (.tmp 6))] [(38,(.un .load (.un (.fld 0) (.bin (.idx 2) (.un .load (.un (.fld 0) (.tmp 5))) (.tmp 6)))))] none [] false (.buildSlice 22 1 #[(0,.tmp 38)]) 22 (some 39) true (.loud [] [] [(30,.tmp 30),(32,.tmp 32),(39,.tmp 39)] none [] false (.build 94 #[(0,.tmp 30),(1,.tmp 32),(2,.tmp 39)]) 94 (some 40) true (.loud [] [] [] none [] false (.alloc 94) 0 (some 7) true (.loud [] [] [(7,.tmp 7),(40,.tmp 40)] none [] false (.store 94 (.tmp 7) (.tmp 40)) 0 none false (.fin [] [] [])))))) (.seq (.seq (.reg false (.fin [8] [(8,.con (.int .i64 0))] [])) (.block 4 (.loop L.bL.l3))) (.reg false (.loud [67,68] [(67,.tmp 3)] [(68,.un (.au 4) (.tmp 7))] none [] false (.buildSlice 91 1 #[(0,.tmp 68)]) 91 (some 69) true (.loud [] [] [(67,.tmp 67),(69,.tmp 69)] none [] false (.call ⟨.builtin .append,#[.tmp 67,.tmp 69],#[91,91]⟩) 91 (some 70) true (.fin [3] [(3,.tmp 70)] []))))))) (.reg false (.fin [28,29,6] [(6,.bin (.arith .add) (.tmp 6) (.con (.int .i64 1)))] []))))
def L.bL.l4:LC:=
 (.seq (.seq (.reg false (.fin [71,72,73,74,75] [(75,(.bin (.cmp .lss) (.tmp 9) (.un .len (.un .load (.un (.fld 1) (.tmp 5))))))] [])) (.cond (.tmp 75) [75] .skip (.exit 6))) (.seq (.block 7 (.reg true (.loud [78,79,80,81,82,83,84,85,87,88,89,90,91,92] [(78,.tmp 3),(79,.tmp 4),(80,.tmp 9),(92,(.un .load (.un (.fld 3) (.bin (.idx 5) (.un .load (.un (.fld 1) (.tmp 5))) (.tmp 9)))))] [(85,(.un (.au 5) (.bin (.idx 5) (.un .load (.un (.fld 1) (.tmp 5))) (.tmp 9))))] none [] false (.call ⟨.value (.func 24),#[.tmp 85],#[54]⟩) 22 (some 86) true (.loud [] [] [(79,.tmp 79),(80,.tmp 80),(86,.tmp 86),(92,.tmp 92)] none [] true (.build 94 #[(0,.tmp 79),(1,.tmp 80),(2,.tmp 86),(3,.tmp 92)]) 94 (some 93) true (.loud [] [] [(93,.tmp 93)] none [] false (.buildSlice 91 1 #[(0,.tmp 93)]) 91 (some 94) true (.loud [] [] [(78,.tmp 78),(94,.tmp 94)] none [] false (.call ⟨.builtin .append,#[.tmp 78,.tmp 94],#[91,91]⟩) 91 (some 95) true (.fin [3] [(3,.tmp 95)] []))))))) (.reg false (.fin [76,77,9] [(9,.bin (.arith .add) (.tmp 9) (.con (.int .i64 1)))] []))))
def L.bL.l1:LC:=
 (.seq (.seq (.reg false (.fin [11,12,13,14,15] [(15,(.bin (.cmp .lss) (.tmp 4) (.un .len (.un .load (.un (.fld 1) (.tmp 1))))))] [])) (.cond (.tmp 15) [15] .skip (.exit 0))) (.seq (.block 1 (.seq (.reg false (.loud [18,19,20,21,22] [(22,(.un (.au 6) (.bin (.idx 6) (.un .load (.un (.fld 1) (.tmp 1))) (.tmp 4))))] [] none [] false (.alloc 43) 0 (some 5) true (.loud [] [] [(5,.tmp 5),(22,.tmp 22)] none [] false (.store 43 (.tmp 5) (.tmp 22)) 0 none false (.fin [] [] [])))) (.seq (.seq (.reg false (.fin [6] [(6,.con (.int .i64 0))] [])) (.block 2 (.loop L.bL.l2))) (.seq (.seq (.reg false (.fin [9] [(9,.con (.int .i64 0))] [])) (.block 6 (.loop L.bL.l4))) (.reg false (.loud [96,97,98,99,100,101,102,103] [(96,.tmp 3)] [(97,.tmp 4),(100,.un .len (.un .load (.un (.fld 1) (.tmp 5)))),(103,.un .load (.un (.fld 1) (.un (.fld 2) (.tmp 5))))] none [] false (.build 94 #[(0,.tmp 97),(1,.tmp 100),(3,.tmp 103)]) 94 (some 104) true (.loud [] [] [(104,.tmp 104)] none [] false (.buildSlice 91 1 #[(0,.tmp 104)]) 91 (some 105) true (.loud [] [] [(96,.tmp 96),(105,.tmp 105)] none [] false (.call ⟨.builtin .append,#[.tmp 96,.tmp 105],#[91,91]⟩) 91 (some 106) true (.fin [3] [(3,.tmp 106)] []))))))))) (.reg false (.fin [16,17,4] [(4,.bin (.arith .add) (.tmp 4) (.con (.int .i64 1)))] []))))
def L.bL:LFn:=
⟨[.tmp 2],(.seq (.reg false (.loud [] [] [(0,.tmp 0)] none [] false (.box 26 (.tmp 0)) 0 (some 1) true (.fin [2] [(2,.con (.slice none 0 0))] []))) (.seq (.reg false (.loud [] [] [] none [] false (.buildSlice 91 0 #[]) 91 (some 10) true (.fin [3] [(3,.tmp 10)] []))) (.seq (.seq (.reg false (.fin [4] [(4,.con (.int .i64 0))] [])) (.block 0 (.loop L.bL.l1))) (.seq (.reg false (.fin [107,2] [(2,.tmp 3)] [])) .ret))))⟩
theorem E.bL:bj Try.prog Try.f46=some L.bL:=by kernel_rfl
theorem F.bL:Try.prog.funcs[N.bL]? = some Try.f46:=Try.func46
abbrev N.bS:Nat:=47
def L.bS:LFn:=
⟨[],(.seq (.reg false (.loud [] [] [] none [] false (.call ⟨.builtin .recover,#[],#[]⟩) 20 (some 6) true (.fin [] [] []))) (.block 0 (.seq (.reg false (.loud [] [] [(6,.tmp 6)] none [] false (.binOp .eql 20 (.tmp 6) (.const .nilIface) 20) 4 (some 8) true (.fin [] [] []))) (.cond (.tmp 8) [8] (.reg false (.fin [3] [] [.tmp 6])) (.seq (.reg false (.loud [] [] [(6,.tmp 6)] none [] false (.typeAssert (.tmp 6) 20 96 true) 0 (some 9) true (.fin [10,11] [(10,.un (.ext 1) (.tmp 9)),(11,.un (.ext 0) (.tmp 9))] []))) (.cond (.tmp 10) [10] (.seq (.reg false (.loud [] [] [] none [] false (.alloc 96) 0 (some 4) true (.loud [] [] [(4,.tmp 4),(11,.tmp 11)] none [] false (.store 96 (.tmp 4) (.tmp 11)) 0 none false (.fin [] [] [])))) (.reg true (.loud [12,13,14,15,16,17] [(15,.un .load (.un (.fld 1) (.tmp 4))),(17,.un .load (.un (.fld 2) (.tmp 4)))] [(0,.tmp 0),(13,.un .load (.un (.fld 0) (.tmp 4)))] none [] false (.store 29 (.tmp 0) (.tmp 13)) 0 none false (.loud [] [] [(1,.tmp 1),(15,.tmp 15)] none [] false (.store 3 (.tmp 1) (.tmp 15)) 0 none false (.loud [] [] [(2,.tmp 2),(17,.tmp 17)] none [] true (.store 3 (.tmp 2) (.tmp 17)) 0 none false (.fin [] [] [])))))) (.seq (.reg false (.fin [5] [(5,.tmp 6)] [])) (.reg false (.loud [7] [] [(7,.tmp 5)] none [] false (.panic (.tmp 7)) 0 none false (.fin [] [] []))))))))))⟩
theorem F.bS:Try.prog.funcs[N.bS]? = some Try.f47:=Try.func47
theorem Q.bS:Try.f47.body=some (.seq (.region (Ez (uT Try.f47)) #[Fo Try.f47 0] false) (ES Try.f47)):=by kernel_rfl
theorem E.mA:dZ Try.prog Try.f47.ntmps (fA Try.f47) (Cp Try.f47) false (ES Try.f47)=some L.bS.body.tail:=by kernel_rfl
abbrev N.eh:Nat:=48
def L.eh:LFn:=
⟨[],(.seq (.reg false (.fin [8,9] [(9,.un .not (.tmp 0))] [])) (.cond (.tmp 9) [9] (.reg false (.loud [10,11,12] [] [(10,.tmp 1),(11,.tmp 2),(12,.tmp 3)] none [] false (.build 96 #[(0,.tmp 10),(1,.tmp 11),(2,.tmp 12)]) 96 (some 13) true (.loud [] [] [(13,.tmp 13)] none [] false (.makeInterface 96 (.tmp 13)) 20 (some 14) true (.loud [] [] [(14,.tmp 14)] none [] false (.panic (.tmp 14)) 0 none false (.fin [] [] []))))) .skip))⟩
theorem E.eh:bj Try.prog Try.f48=some L.eh:=by kernel_rfl
theorem F.eh:Try.prog.funcs[N.eh]? = some Try.f48:=Try.func48
abbrev N.dQ:Nat:=49
def L.dQ:LFn:=
⟨[.tmp 6],(.seq (.reg false (.fin [6] [(6,.con (.bool false))] [])) (.seq (.reg false (.fin [7,8,9,10,11,12,13,14,6] [(6,.ite (.bin (.cmp .geq) (.tmp 0) (.tmp 1)) (.bin (.cmp .leq) (.tmp 0) (.tmp 2)) (.con (.bool false)))] [])) .ret))⟩
theorem E.dQ:bj Try.prog Try.f49=some L.dQ:=by kernel_rfl
theorem F.dQ:Try.prog.funcs[N.dQ]? = some Try.f49:=Try.func49
abbrev N.aK:Nat:=50
def L.aK.l2:LC:=
 (.seq (.reg false (.fin [29] [(29,.bin (.cmp .lss) (.tmp 28) (.tmp 27))] [])) (.seq (.cond (.tmp 29) [29] .skip (.exit 2)) (.seq (.block 3 (.seq (.reg false (.loud [30,31,32] [(30,.tmp 28),(32,.un (.au 2) (.bin (.idx 2) (.tmp 26) (.tmp 28)))] [] none [] false (.alloc 46) 0 (some 5) true (.loud [4] [(4,.tmp 30)] [(5,.tmp 5),(32,.tmp 32)] none [] false (.store 46 (.tmp 5) (.tmp 32)) 0 none false (.fin [] [] [])))) (.reg false (.loud [33,34,35] [(33,.tmp 0)] [(35,.un .load (.un (.fld 0) (.tmp 5)))] none [] false (.buildSlice 22 1 #[(0,.tmp 35)]) 22 (some 36) true (.loud [37,38,39] [] [(33,.tmp 33),(36,.tmp 36),(37,.tmp 2),(39,.bin (.arith .sub) (.con (.int .i64 (-1))) (.tmp 4))] none [] false (.call ⟨.value (.func 69),#[.tmp 33,.tmp 36,.tmp 37,.tmp 39],#[99,22,3,3]⟩) 0 (some 40) false (.fin [] [] [])))))) (.reg false (.fin [41,28] [(28,.bin (.arith .add) (.tmp 28) (.con (.int .i64 1)))] [])))))
def L.aK.l3:LC:=
 (.seq (.reg false (.fin [46] [(46,.bin (.cmp .lss) (.tmp 45) (.tmp 44))] [])) (.seq (.cond (.tmp 46) [46] .skip (.exit 4)) (.seq (.block 5 (.seq (.reg false (.loud [47,48,49] [(47,.tmp 45),(49,.un (.au 5) (.bin (.idx 5) (.tmp 43) (.tmp 45)))] [] none [] false (.alloc 54) 0 (some 7) true (.loud [6] [(6,.tmp 47)] [(7,.tmp 7),(49,.tmp 49)] none [] false (.store 54 (.tmp 7) (.tmp 49)) 0 none false (.fin [] [] [])))) (.seq (.reg false (.loud [50,51] [] [(51,.un .load (.un (.fld 0) (.tmp 7)))] none [] false (.call ⟨.value (.func 49),#[.tmp 51,.const (.int .i64 1),.const (.int .i64 18)],#[3,3,3]⟩) 4 (some 52) true (.loud [53,54] [] [(52,.tmp 52),(53,.tmp 2),(54,.tmp 6)] none [] false (.call ⟨.value (.func 48),#[.tmp 52,.const (.int .i64 10),.tmp 53,.tmp 54],#[4,29,3,3]⟩) 0 (some 55) false (.fin [] [] [])))) (.seq (.reg false (.loud [57,58] [] [(58,.un .load (.un (.fld 0) (.tmp 7)))] none [] false (.call ⟨.value (.func 70),#[.tmp 58],#[3]⟩) 120 (some 59) true (.fin [56,60,61,8,9] [(8,.un (.ext 0) (.tmp 59)),(9,.un (.ext 1) (.tmp 59))] []))) (.seq (.reg false (.loud [62,63,64,65,66] [] [(64,.un .len (.un .load (.un (.fld 3) (.tmp 7)))),(65,.tmp 8),(66,.tmp 9)] none [] false (.call ⟨.value (.func 49),#[.tmp 64,.tmp 65,.tmp 66],#[3,3,3]⟩) 4 (some 67) true (.loud [68,69] [] [(67,.tmp 67),(68,.tmp 2),(69,.tmp 6)] none [] false (.call ⟨.value (.func 48),#[.tmp 67,.const (.int .i64 10),.tmp 68,.tmp 69],#[4,29,3,3]⟩) 0 (some 70) false (.fin [] [] [])))) (.reg false (.loud [71,72] [(71,.tmp 0)] [(72,.un (.au 5) (.tmp 7))] none [] false (.call ⟨.value (.func 71),#[.tmp 72],#[54]⟩) 22 (some 73) true (.loud [74,75] [] [(71,.tmp 71),(73,.tmp 73),(74,.tmp 2),(75,.tmp 6)] none [] false (.call ⟨.value (.func 69),#[.tmp 71,.tmp 73,.tmp 74,.tmp 75],#[99,22,3,3]⟩) 0 (some 76) false (.fin [] [] []))))))))) (.reg false (.fin [77,45] [(45,.bin (.arith .add) (.tmp 45) (.con (.int .i64 1)))] [])))))
def L.aK.l4:LC:=
 (.seq (.reg false (.fin [119] [(119,.bin (.cmp .lss) (.tmp 118) (.tmp 117))] [])) (.seq (.cond (.tmp 119) [119] .skip (.exit 6)) (.seq (.block 7 (.seq (.reg false (.fin [120,121,13] [(13,.un .load (.bin (.idx 1) (.tmp 116) (.tmp 118)))] [])) (.reg true (.loud [122,123,124,125,126,127,128,129,131,132,133,134] [(131,.tmp 2),(134,.un .len (.un .load (.un (.fld 1) (.tmp 3))))] [(122,.tmp 13),(129,(.bin (.arith .sub) (.un .len (.un .load (.un (.fld 1) (.un (.fld 0) (.un .nilPtr (.tmp 0)))))) (.con (.int .i64 1))))] none [] false (.call ⟨.value (.func 49),#[.tmp 122,.const (.int .i64 1),.tmp 129],#[3,3,3]⟩) 4 (some 130) true (.loud [] [] [(130,.tmp 130),(131,.tmp 131),(134,.tmp 134)] none [] true (.call ⟨.value (.func 48),#[.tmp 130,.const (.int .i64 14),.tmp 131,.tmp 134],#[4,29,3,3]⟩) 0 (some 135) false (.fin [] [] [])))))) (.reg false (.fin [136,118] [(118,.bin (.arith .add) (.tmp 118) (.con (.int .i64 1)))] [])))))
def L.aK.l1:LC:=
 (.seq (.reg false (.fin [21] [(21,.bin (.cmp .lss) (.tmp 20) (.tmp 19))] [])) (.seq (.cond (.tmp 21) [21] .skip (.exit 0)) (.seq (.block 1 (.seq (.reg false (.loud [22,23,24] [(22,.tmp 20),(24,.un (.au 6) (.bin (.idx 6) (.tmp 18) (.tmp 20)))] [] none [] false (.alloc 43) 0 (some 3) true (.loud [2] [(2,.tmp 22)] [(3,.tmp 3),(24,.tmp 24)] none [] false (.store 43 (.tmp 3) (.tmp 24)) 0 none false (.fin [] [] [])))) (.seq (.seq (.reg false (.fin [25,26,27,28] [(26,.un .load (.un (.fld 0) (.tmp 3))),(27,.un .len (.un .load (.un (.fld 0) (.tmp 3)))),(28,.con (.int .i64 0))] [])) (.block 2 (.loop L.aK.l2))) (.seq (.seq (.reg false (.fin [42,43,44,45] [(43,.un .load (.un (.fld 1) (.tmp 3))),(44,.un .len (.un .load (.un (.fld 1) (.tmp 3)))),(45,.con (.int .i64 0))] [])) (.block 4 (.loop L.aK.l3))) (.seq (.reg true (.both (.loud [80,81,82] [(82,.un .load (.un (.fld 0) (.un (.fld 2) (.tmp 3))))] [] none [] false (.call ⟨.value (.func 72),#[],#[]⟩) 125 (some 79) true (.both (.loud [] [] [(79,.tmp 79),(82,.tmp 82)] none [] true (.lookup 125 (.tmp 79) (.tmp 82) true) 124 (some 83) true (.loud [78,84,85] [(84,.un (.ext 0) (.tmp 83)),(85,.un (.ext 1) (.tmp 83))] [] none [] false (.alloc 123) 0 (some 10) true (.loud [] [] [(10,.tmp 10),(84,.tmp 84)] none [] false (.store 123 (.tmp 10) (.tmp 84)) 0 none false (.fin [11] [(11,.tmp 85)] [])))) (.loud [] [] [] none [] false (.alloc 123) 0 (some 10) true (.loud [] [] [(79,.tmp 79),(82,.tmp 82)] none [] true (.lookup 125 (.tmp 79) (.tmp 82) true) 124 (some 83) true (.loud [78,84,85] [(85,.un (.ext 1) (.tmp 83))] [(10,.tmp 10),(84,.un (.ext 0) (.tmp 83))] none [] false (.store 123 (.tmp 10) (.tmp 84)) 0 none false (.fin [11] [(11,.tmp 85)] [])))))) (.loud [80,81,82] [(82,.un .load (.un (.fld 0) (.un (.fld 2) (.tmp 3))))] [] none [] false (.alloc 123) 0 (some 10) true (.loud [] [] [] none [] false (.call ⟨.value (.func 72),#[],#[]⟩) 125 (some 79) true (.loud [] [] [(79,.tmp 79),(82,.tmp 82)] none [] true (.lookup 125 (.tmp 79) (.tmp 82) true) 124 (some 83) true (.loud [78,84,85] [(85,.un (.ext 1) (.tmp 83))] [(10,.tmp 10),(84,.un (.ext 0) (.tmp 83))] none [] false (.store 123 (.tmp 10) (.tmp 84)) 0 none false (.fin [11] [(11,.tmp 85)] []))))))) (.seq (.reg true (.loud [86,87,88,89,90,91,92,93,94,95,109,110,111,112] [(87,.tmp 11),(109,.tmp 2),(112,.un .len (.un .load (.un (.fld 1) (.tmp 3))))] [(91,(.gd (.tmp 11) true (.un .len (.un .load (.un (.fld 1) (.un (.fld 2) (.tmp 3))))))),(93,.gd (.tmp 11) true (.un .load (.un (.fld 0) (.tmp 10)))),(95,.gd (.tmp 11) true (.un .load (.un (.fld 1) (.tmp 10))))] (some ((.tmp 11),true)) [] false (.call ⟨.value (.func 49),#[.tmp 91,.tmp 93,.tmp 95],#[3,3,3]⟩) 4 (some 96) true (.loud [97,98,99,100,101,102,103,104,105,106] [(98,.ite (.tmp 87) (.tmp 96) (.con (.bool false)))] [(102,(.gd (.ite (.tmp 87) (.tmp 96) (.con (.bool false))) true (.un .len (.un .load (.un (.fld 2) (.un (.fld 2) (.tmp 3))))))),(104,.gd (.ite (.tmp 87) (.tmp 96) (.con (.bool false))) true (.un .load (.un (.fld 2) (.tmp 10)))),(106,.gd (.ite (.tmp 87) (.tmp 96) (.con (.bool false))) true (.un .load (.un (.fld 3) (.tmp 10))))] (some ((.ite (.tmp 87) (.tmp 96) (.con (.bool false))),true)) [] false (.call ⟨.value (.func 49),#[.tmp 102,.tmp 104,.tmp 106],#[3,3,3]⟩) 4 (some 107) true (.loud [108] [] [(108,.ite (.tmp 98) (.tmp 107) (.con (.bool false))),(109,.tmp 109),(112,.tmp 112)] none [] true (.call ⟨.value (.func 48),#[.tmp 108,.const (.int .i64 10),.tmp 109,.tmp 112],#[4,29,3,3]⟩) 0 (some 113) false (.fin [] [] []))))) (.seq (.reg false (.fin [114,115,116,117,118] [(116,.un .load (.un (.fld 2) (.un (.fld 2) (.tmp 3)))),(117,(.un .len (.un .load (.un (.fld 2) (.un (.fld 2) (.tmp 3)))))),(118,.con (.int .i64 0))] [])) (.block 6 (.loop L.aK.l4))))))))) (.reg false (.fin [137,20] [(20,.bin (.arith .add) (.tmp 20) (.con (.int .i64 1)))] [])))))
def L.aK:LFn:=
⟨[],(.seq (.reg false (.fin [14,15,16,17,18,19,20] [(18,(.un .load (.un (.fld 1) (.un (.fld 0) (.un .nilPtr (.tmp 0)))))),(19,(.un .len (.un .load (.un (.fld 1) (.un (.fld 0) (.un .nilPtr (.tmp 0))))))),(20,.con (.int .i64 0))] [])) (.block 0 (.loop L.aK.l1)))⟩
theorem E.aK:bj Try.prog Try.f50=some L.aK:=by kernel_rfl
theorem F.aK:Try.prog.funcs[N.aK]? = some Try.f50:=Try.func50
abbrev N.ax:Nat:=51
def L.ax.l1:LC:=
 (.seq (.reg false (.fin [37] [(37,.bin (.cmp .lss) (.tmp 36) (.tmp 35))] [])) (.seq (.cond (.tmp 37) [37] .skip (.exit 0)) (.seq (.block 1 (.seq (.reg false (.fin [38,4] [(4,.tmp 36)] [])) (.reg false (.loud [39,40] [] [(39,.tmp 3),(40,.tmp 4)] none [] false (.call ⟨.value (.func 73),#[.tmp 39,.tmp 40],#[22,3]⟩) 4 (some 41) true (.loud [42] [] [(41,.tmp 41),(42,.tmp 4)] none [] false (.call ⟨.value (.func 48),#[.tmp 41,.const (.int .i64 15),.tmp 42,.const (.int .i64 0)],#[4,29,3,3]⟩) 0 (some 43) false (.fin [] [] [])))))) (.reg false (.fin [44,36] [(36,.bin (.arith .add) (.tmp 36) (.con (.int .i64 1)))] [])))))
def L.ax.l4:LC:=
 (.seq (.reg false (.fin [86] [(86,.bin (.cmp .lss) (.tmp 85) (.tmp 84))] [])) (.seq (.cond (.tmp 86) [86] .skip (.exit 6)) (.seq (.block 7 (.seq (.reg false (.loud [87,88,89] [(87,.tmp 85),(89,.un (.au 2) (.bin (.idx 2) (.tmp 83) (.tmp 85)))] [] none [] false (.alloc 49) 0 (some 14) true (.loud [13] [(13,.tmp 87)] [(14,.tmp 14),(89,.tmp 89)] none [] false (.store 49 (.tmp 14) (.tmp 89)) 0 none false (.fin [] [] [])))) (.reg true (.fin [90,91,92,93,94,95,96,97,98,99,100,101,102,12] [(12,(.ite (.tmp 12) (.bin (.cmp .eql) (.un .load (.un (.fld 0) (.tmp 14))) (.un .load (.bin (.idx 1) (.un .load (.bin (.idx 1) (.tmp 5) (.tmp 8))) (.tmp 13)))) (.con (.bool false))))] [])))) (.reg false (.fin [103,85] [(85,.bin (.arith .add) (.tmp 85) (.con (.int .i64 1)))] [])))))
def L.ax.l5:LC:=
 (.seq (.reg false (.fin [113] [(113,.bin (.cmp .lss) (.tmp 112) (.tmp 111))] [])) (.seq (.cond (.tmp 113) [113] .skip (.exit 8)) (.seq (.block 9 (.seq (.reg false (.loud [114,115] [(115,.un (.au 2) (.bin (.idx 2) (.tmp 110) (.tmp 112)))] [] none [] false (.alloc 49) 0 (some 16) true (.loud [] [] [(16,.tmp 16),(115,.tmp 115)] none [] false (.store 49 (.tmp 16) (.tmp 115)) 0 none false (.fin [] [] [])))) (.reg true (.loud [116,117,118,119,120,121,122,123,124,125,126,127,128,129,130,131,132,133,134] [] [(116,.tmp 7),(118,.un .load (.un (.fld 1) (.tmp 16))),(120,.un .load (.un (.fld 0) (.tmp 16))),(122,.bin (.arith .sub) (.con (.int .i64 (-1))) (.tmp 10)),(133,(.un .len (.un .load (.un (.fld 1) (.bin (.idx 6) (.un .load (.un (.fld 1) (.un (.fld 0) (.un .nilPtr (.un .load (.tmp 1)))))) (.un .load (.un (.fld 0) (.tmp 16)))))))),(134,.tmp 8)] none [] true (.call ⟨.value (.tmp 116),#[.tmp 118,.tmp 120,.tmp 122,.tmp 133,.tmp 134],#[3,3,3,3,3]⟩) 0 (some 135) false (.fin [] [] []))))) (.reg false (.fin [136,112] [(112,.bin (.arith .add) (.tmp 112) (.con (.int .i64 1)))] [])))))
def L.ax.l3:LC:=
 (.seq (.reg false (.fin [65] [(65,.bin (.cmp .lss) (.tmp 64) (.tmp 63))] [])) (.seq (.cond (.tmp 65) [65] .skip (.exit 4)) (.seq (.block 5 (.seq (.reg false (.loud [66,67,68] [(66,.tmp 64),(68,.un (.au 2) (.bin (.idx 2) (.tmp 62) (.tmp 64)))] [] none [] false (.alloc 46) 0 (some 11) true (.loud [10] [(10,.tmp 66)] [(11,.tmp 11),(68,.tmp 68)] none [] false (.store 46 (.tmp 11) (.tmp 68)) 0 none false (.fin [] [] [])))) (.seq (.reg true (.fin [69,70,71,72,73,74,75,76,77,78,79,80,81,12] [(12,(.ite (.bin (.cmp .gtr) (.tmp 8) (.con (.int .i64 0))) (.bin (.cmp .eql) (.un .len (.un .load (.un (.fld 1) (.tmp 11)))) (.un .len (.un .load (.bin (.idx 1) (.tmp 5) (.tmp 8))))) (.con (.bool false))))] [])) (.seq (.seq (.reg false (.fin [82,83,84,85] [(83,.un .load (.un (.fld 1) (.tmp 11))),(84,.un .len (.un .load (.un (.fld 1) (.tmp 11)))),(85,.con (.int .i64 0))] [])) (.block 6 (.loop L.ax.l4))) (.seq (.reg false (.loud [104,105,106,107] [] [(104,.tmp 12),(105,.tmp 8),(107,.bin (.arith .sub) (.con (.int .i64 (-1))) (.tmp 10))] none [] false (.call ⟨.value (.func 48),#[.tmp 104,.const (.int .i64 16),.tmp 105,.tmp 107],#[4,29,3,3]⟩) 0 (some 108) false (.fin [] [] []))) (.seq (.reg false (.fin [109,110,111,112] [(110,.un .load (.un (.fld 1) (.tmp 11))),(111,.un .len (.un .load (.un (.fld 1) (.tmp 11)))),(112,.con (.int .i64 0))] [])) (.block 8 (.loop L.ax.l5)))))))) (.reg false (.fin [137,64] [(64,.bin (.arith .add) (.tmp 64) (.con (.int .i64 1)))] [])))))
def L.ax.l7:LC:=
 (.seq (.reg false (.fin [150] [(150,.bin (.cmp .lss) (.tmp 149) (.tmp 148))] [])) (.seq (.cond (.tmp 150) [150] .skip (.exit 12)) (.seq (.block 13 (.seq (.reg false (.fin [151,152,20] [(20,.un .load (.bin (.idx 1) (.tmp 147) (.tmp 149)))] [])) (.reg false (.loud [153,154,155,156,157,158] [] [(153,.tmp 7),(154,.tmp 20),(155,.tmp 8),(156,.tmp 17),(157,.tmp 17),(158,.tmp 8)] none [] false (.call ⟨.value (.tmp 153),#[.tmp 154,.tmp 155,.tmp 156,.tmp 157,.tmp 158],#[3,3,3,3,3]⟩) 0 (some 159) false (.fin [] [] []))))) (.reg false (.fin [160,149] [(149,.bin (.arith .add) (.tmp 149) (.con (.int .i64 1)))] [])))))
def L.ax.l6:LC:=
 (.seq (.reg false (.fin [142] [(142,.bin (.cmp .lss) (.tmp 141) (.tmp 140))] [])) (.seq (.cond (.tmp 142) [142] .skip (.exit 10)) (.seq (.block 11 (.seq (.reg false (.loud [143,144,145] [(143,.tmp 141),(145,.un (.au 5) (.bin (.idx 5) (.tmp 139) (.tmp 141)))] [] none [] false (.alloc 54) 0 (some 18) true (.loud [17] [(17,.tmp 143)] [(18,.tmp 18),(145,.tmp 145)] none [] false (.store 54 (.tmp 18) (.tmp 145)) 0 none false (.fin [] [] [])))) (.seq (.reg false (.fin [146,147,148,149] [(147,.un .load (.un (.fld 3) (.tmp 18))),(148,.un .len (.un .load (.un (.fld 3) (.tmp 18)))),(149,.con (.int .i64 0))] [])) (.block 12 (.loop L.ax.l7))))) (.reg false (.fin [161,141] [(141,.bin (.arith .add) (.tmp 141) (.con (.int .i64 1)))] [])))))
def L.ax.l8:LC:=
 (.seq (.reg false (.fin [167] [(167,.bin (.cmp .lss) (.tmp 166) (.tmp 165))] [])) (.seq (.cond (.tmp 167) [167] .skip (.exit 14)) (.seq (.block 15 (.seq (.reg false (.fin [168,169,22] [(22,.un .load (.bin (.idx 1) (.tmp 164) (.tmp 166)))] [])) (.reg false (.loud [170,171,172,173,174,175,176,177,178,179] [] [(170,.tmp 7),(171,.tmp 22),(172,.tmp 8),(175,.un .len (.un .load (.un (.fld 1) (.tmp 9)))),(178,.un .len (.un .load (.un (.fld 1) (.tmp 9)))),(179,.tmp 8)] none [] false (.call ⟨.value (.tmp 170),#[.tmp 171,.tmp 172,.tmp 175,.tmp 178,.tmp 179],#[3,3,3,3,3]⟩) 0 (some 180) false (.fin [] [] []))))) (.reg false (.fin [181,166] [(166,.bin (.arith .add) (.tmp 166) (.con (.int .i64 1)))] [])))))
def L.ax.l2:LC:=
 (.seq (.reg false (.fin [57] [(57,.bin (.cmp .lss) (.tmp 56) (.tmp 55))] [])) (.seq (.cond (.tmp 57) [57] .skip (.exit 2)) (.seq (.block 3 (.seq (.reg false (.loud [58,59,60] [(58,.tmp 56),(60,.un (.au 6) (.bin (.idx 6) (.tmp 54) (.tmp 56)))] [] none [] false (.alloc 43) 0 (some 9) true (.loud [8] [(8,.tmp 58)] [(9,.tmp 9),(60,.tmp 60)] none [] false (.store 43 (.tmp 9) (.tmp 60)) 0 none false (.fin [] [] [])))) (.seq (.seq (.reg false (.fin [61,62,63,64] [(62,.un .load (.un (.fld 0) (.tmp 9))),(63,.un .len (.un .load (.un (.fld 0) (.tmp 9)))),(64,.con (.int .i64 0))] [])) (.block 4 (.loop L.ax.l3))) (.seq (.seq (.reg false (.fin [138,139,140,141] [(139,.un .load (.un (.fld 1) (.tmp 9))),(140,.un .len (.un .load (.un (.fld 1) (.tmp 9)))),(141,.con (.int .i64 0))] [])) (.block 10 (.loop L.ax.l6))) (.seq (.reg false (.fin [162,163,164,165,166] [(164,.un .load (.un (.fld 1) (.un (.fld 2) (.tmp 9)))),(165,(.un .len (.un .load (.un (.fld 1) (.un (.fld 2) (.tmp 9)))))),(166,.con (.int .i64 0))] [])) (.block 14 (.loop L.ax.l8))))))) (.reg false (.fin [182,56] [(56,.bin (.arith .add) (.tmp 56) (.con (.int .i64 1)))] [])))))
def L.ax:LFn:=
⟨[],(.seq (.reg false (.loud [] [] [(0,.tmp 0)] none [] false (.box 99 (.tmp 0)) 0 (some 1) true (.fin [] [] []))) (.seq (.reg false (.loud [23,24,25,26] [] [(26,(.un (.au 2) (.un (.fld 0) (.un .nilPtr (.un .load (.tmp 1))))))] none [] false (.call ⟨.value (.func 12),#[.tmp 26],#[26]⟩) 33 (some 27) true (.fin [2] [(2,.tmp 27)] []))) (.seq (.reg false (.loud [28] [] [(28,.tmp 2)] none [] false (.call ⟨.value (.func 35),#[.tmp 28],#[33]⟩) 22 (some 29) true (.fin [3] [(3,.tmp 29)] []))) (.seq (.seq (.reg false (.fin [30,31,32,33,34,35,36] [(35,(.un .len (.un .load (.un (.fld 1) (.un (.fld 0) (.un .nilPtr (.un .load (.tmp 1)))))))),(36,.con (.int .i64 0))] [])) (.block 0 (.loop L.ax.l1))) (.seq (.reg false (.loud [45] [] [(45,.tmp 2)] none [] false (.call ⟨.value (.func 36),#[.tmp 45],#[33]⟩) 33 (some 46) true (.loud [47] [] [(47,.tmp 2)] none [] false (.call ⟨.value (.func 11),#[.tmp 47],#[33]⟩) 22 (some 48) true (.loud [] [] [] none [] false (.alloc 22) 0 (some 6) true (.loud [5] [(5,.tmp 46)] [(6,.tmp 6),(48,.tmp 48)] none [] false (.store 22 (.tmp 6) (.tmp 48)) 0 none false (.fin [] [] [])))))) (.seq (.reg false (.fin [49,7] [(7,(.un (.fn 74) (.snoc (.snoc (.con (.tuple #[])) (.tmp 1)) (.tmp 6))))] [])) (.seq (.reg false (.fin [50,51,52,53,54,55,56] [(54,(.un .load (.un (.fld 1) (.un (.fld 0) (.un .nilPtr (.un .load (.tmp 1))))))),(55,(.un .len (.un .load (.un (.fld 1) (.un (.fld 0) (.un .nilPtr (.un .load (.tmp 1)))))))),(56,.con (.int .i64 0))] [])) (.block 2 (.loop L.ax.l2)))))))))⟩
theorem E.ax:bj Try.prog Try.f51=some L.ax:=by kernel_rfl
theorem F.ax:Try.prog.funcs[N.ax]? = some Try.f51:=Try.func51
abbrev N.dC:Nat:=52
def L.dC.l1:LC:=
 (.seq (.reg false (.fin [12] [(12,.bin (.cmp .lss) (.tmp 11) (.tmp 10))] [])) (.seq (.cond (.tmp 12) [12] .skip (.exit 0)) (.seq (.block 1 (.seq (.reg false (.fin [13,14,15,4,5] [(4,.tmp 11),(5,.un .load (.bin (.idx 1) (.tmp 9) (.tmp 11)))] [])) (.reg false (.loud [16,17,18,19,20] [(16,.tmp 3),(17,.tmp 4)] [(18,.tmp 5),(20,.un .len (.tmp 0))] none [] false (.call ⟨.value (.func 38),#[.tmp 18,.tmp 20],#[22,3]⟩) 22 (some 21) true (.loud [22] [] [(22,.bin (.idx 1) (.tmp 16) (.tmp 17)),(21,.tmp 21)] none [] false (.store 22 (.tmp 22) (.tmp 21)) 0 none false (.fin [] [] [])))))) (.reg false (.fin [23,11] [(11,.bin (.arith .add) (.tmp 11) (.con (.int .i64 1)))] [])))))
def L.dC:LFn:=
⟨[.tmp 2],(.seq (.reg false (.fin [2] [(2,.con (.slice none 0 0))] [])) (.seq (.reg false (.loud [6,7] [] [(7,.un .len (.tmp 0)),(7,.un .len (.tmp 0))] none [] false (.makeSlice 33 (.tmp 7) (.tmp 7)) 33 (some 8) true (.fin [3] [(3,.tmp 8)] []))) (.seq (.seq (.reg false (.fin [9,10,11] [(9,.tmp 0),(10,.un .len (.tmp 0)),(11,.con (.int .i64 0))] [])) (.block 0 (.loop L.dC.l1))) (.seq (.reg false (.fin [24,2] [(2,.tmp 3)] [])) .ret))))⟩
theorem E.dC:bj Try.prog Try.f52=some L.dC:=by kernel_rfl
theorem F.dC:Try.prog.funcs[N.dC]? = some Try.f52:=Try.func52
abbrev N.eG:Nat:=53
def L.eG:LFn:=
⟨[.tmp 2],(.seq (.reg false (.loud [] [] [(0,.tmp 0)] none [] false (.box 33 (.tmp 0)) 0 (some 1) true (.fin [2] [(2,.con .nilFunc)] []))) (.seq (.reg false (.fin [3,2] [(2,.un (.fn 75) (.snoc (.con (.tuple #[])) (.tmp 1)))] [])) .ret))⟩
theorem E.eG:bj Try.prog Try.f53=some L.eG:=by kernel_rfl
theorem F.eG:Try.prog.funcs[N.eG]? = some Try.f53:=Try.func53
abbrev N.bC:Nat:=54
def L.bC.l1:LC:=
 (.seq (.reg false (.fin [11] [(11,.bin (.cmp .lss) (.tmp 10) (.tmp 9))] [])) (.seq (.cond (.tmp 11) [11] .skip (.exit 0)) (.seq (.block 1 (.seq (.reg false (.loud [12,13] [(13,.un (.au 6) (.bin (.idx 6) (.tmp 8) (.tmp 10)))] [] none [] false (.alloc 43) 0 (some 7) true (.loud [] [] [(7,.tmp 7),(13,.tmp 13)] none [] false (.store 43 (.tmp 7) (.tmp 13)) 0 none false (.fin [] [] [])))) (.reg false (.loud [14,15,16] [(14,.tmp 5)] [(15,.tmp 1),(16,.un (.au 6) (.tmp 7))] none [] false (.call ⟨.value (.tmp 15),#[.tmp 16],#[43]⟩) 43 (some 17) true (.loud [] [] [(17,.tmp 17)] none [] false (.buildSlice 24 1 #[(0,.tmp 17)]) 24 (some 18) true (.loud [] [] [(14,.tmp 14),(18,.tmp 18)] none [] false (.call ⟨.builtin .append,#[.tmp 14,.tmp 18],#[24,24]⟩) 24 (some 19) true (.fin [5] [(5,.tmp 19)] []))))))) (.reg false (.fin [20,10] [(10,.bin (.arith .add) (.tmp 10) (.con (.int .i64 1)))] [])))))
def L.bC:LFn:=
⟨[.tmp 4],(.seq (.reg false (.fin [4] [(4,.con (.slice none 0 0))] [])) (.seq (.reg false (.fin [5] [(5,.con (.slice none 0 0))] [])) (.seq (.seq (.reg false (.fin [8,9,10] [(8,.tmp 0),(9,.un .len (.tmp 0)),(10,.con (.int .i64 0))] [])) (.block 0 (.loop L.bC.l1))) (.seq (.reg false (.fin [21,4] [(4,.tmp 5)] [])) .ret))))⟩
theorem E.bC:bj Try.prog Try.f54=some L.bC:=by kernel_rfl
theorem F.bC:Try.prog.funcs[N.bC]? = some Try.f54:=Try.func54
abbrev N.dw:Nat:=55
def L.dw:LFn:=
⟨[.un (.au 6) (.tmp 2)],(.seq (.reg false (.loud [] [] [(0,.tmp 0)] none [] false (.box 43 (.tmp 0)) 0 (some 1) true (.loud [] [] [] none [] false (.alloc 43) 0 (some 2) true (.fin [] [] [])))) (.seq (.reg false (.loud [3,4] [] [(4,.un .load (.un (.fld 0) (.tmp 1)))] none [] false (.call ⟨.value (.func 56),#[.tmp 4,.func 57],#[38,109]⟩) 38 (some 5) true (.loud [6] [] [(6,.un (.fld 0) (.tmp 1)),(5,.tmp 5)] none [] false (.store 38 (.tmp 6) (.tmp 5)) 0 none false (.fin [] [] [])))) (.seq (.reg false (.loud [7,8] [] [(8,.un .load (.un (.fld 1) (.tmp 1)))] none [] false (.call ⟨.value (.func 59),#[.tmp 8,.func 60],#[39,111]⟩) 39 (some 9) true (.loud [10] [] [(10,.un (.fld 1) (.tmp 1)),(9,.tmp 9)] none [] false (.store 39 (.tmp 10) (.tmp 9)) 0 none false (.fin [] [] [])))) (.seq (.reg true (.loud [11,12,13,15,16,17] [(17,.un .load (.un (.fld 2) (.un (.fld 2) (.tmp 1))))] [(13,.un .load (.un (.fld 1) (.un (.fld 2) (.tmp 1))))] none [] false (.call ⟨.value (.func 61),#[.tmp 13],#[22]⟩) 22 (some 14) true (.loud [19,20] [(20,.un (.fld 1) (.un (.fld 2) (.tmp 1)))] [(17,.tmp 17)] none [] true (.call ⟨.value (.func 61),#[.tmp 17],#[22]⟩) 22 (some 18) true (.loud [] [] [(20,.tmp 20),(14,.tmp 14)] none [] false (.store 22 (.tmp 20) (.tmp 14)) 0 none false (.loud [21,22] [] [(22,.un (.fld 2) (.un (.fld 2) (.tmp 1))),(18,.tmp 18)] none [] false (.store 22 (.tmp 22) (.tmp 18)) 0 none false (.fin [] [] [])))))) (.seq (.reg false (.loud [23] [] [(2,.tmp 2),(23,.un (.au 6) (.tmp 1))] none [] false (.store 43 (.tmp 2) (.tmp 23)) 0 none false (.fin [] [] []))) .ret)))))⟩
theorem E.dw:bj Try.prog Try.f55=some L.dw:=by kernel_rfl
theorem F.dw:Try.prog.funcs[N.dw]? = some Try.f55:=Try.func55
abbrev N.bU:Nat:=56
def L.bU.l1:LC:=
 (.seq (.reg false (.fin [11] [(11,.bin (.cmp .lss) (.tmp 10) (.tmp 9))] [])) (.seq (.cond (.tmp 11) [11] .skip (.exit 0)) (.seq (.block 1 (.seq (.reg false (.loud [12,13] [(13,.un (.au 2) (.bin (.idx 2) (.tmp 8) (.tmp 10)))] [] none [] false (.alloc 46) 0 (some 7) true (.loud [] [] [(7,.tmp 7),(13,.tmp 13)] none [] false (.store 46 (.tmp 7) (.tmp 13)) 0 none false (.fin [] [] [])))) (.reg false (.loud [14,15,16] [(14,.tmp 5)] [(15,.tmp 1),(16,.un (.au 2) (.tmp 7))] none [] false (.call ⟨.value (.tmp 15),#[.tmp 16],#[46]⟩) 46 (some 17) true (.loud [] [] [(17,.tmp 17)] none [] false (.buildSlice 38 1 #[(0,.tmp 17)]) 38 (some 18) true (.loud [] [] [(14,.tmp 14),(18,.tmp 18)] none [] false (.call ⟨.builtin .append,#[.tmp 14,.tmp 18],#[38,38]⟩) 38 (some 19) true (.fin [5] [(5,.tmp 19)] []))))))) (.reg false (.fin [20,10] [(10,.bin (.arith .add) (.tmp 10) (.con (.int .i64 1)))] [])))))
def L.bU:LFn:=
⟨[.tmp 4],(.seq (.reg false (.fin [4] [(4,.con (.slice none 0 0))] [])) (.seq (.reg false (.fin [5] [(5,.con (.slice none 0 0))] [])) (.seq (.seq (.reg false (.fin [8,9,10] [(8,.tmp 0),(9,.un .len (.tmp 0)),(10,.con (.int .i64 0))] [])) (.block 0 (.loop L.bU.l1))) (.seq (.reg false (.fin [21,4] [(4,.tmp 5)] [])) .ret))))⟩
theorem E.bU:bj Try.prog Try.f56=some L.bU:=by kernel_rfl
theorem F.bU:Try.prog.funcs[N.bU]? = some Try.f56:=Try.func56
abbrev N.cK:Nat:=57
def L.cK:LFn:=
⟨[.un (.au 2) (.tmp 2)],(.seq (.reg false (.loud [] [] [(0,.tmp 0)] none [] false (.box 46 (.tmp 0)) 0 (some 1) true (.loud [] [] [] none [] false (.alloc 46) 0 (some 2) true (.fin [] [] [])))) (.seq (.reg false (.loud [3,4] [] [(4,.un .load (.un (.fld 1) (.tmp 1)))] none [] false (.call ⟨.value (.func 58),#[.tmp 4],#[44]⟩) 44 (some 5) true (.loud [6] [] [(6,.un (.fld 1) (.tmp 1)),(5,.tmp 5)] none [] false (.store 44 (.tmp 6) (.tmp 5)) 0 none false (.fin [] [] [])))) (.seq (.reg false (.loud [7] [] [(2,.tmp 2),(7,.un (.au 2) (.tmp 1))] none [] false (.store 46 (.tmp 2) (.tmp 7)) 0 none false (.fin [] [] []))) .ret)))⟩
theorem E.cK:bj Try.prog Try.f57=some L.cK:=by kernel_rfl
theorem F.cK:Try.prog.funcs[N.cK]? = some Try.f57:=Try.func57
abbrev N.cW:Nat:=58
def L.cW:LFn:=
⟨[.tmp 2],(.seq (.reg false (.fin [2] [(2,.con (.slice none 0 0))] [])) (.seq (.seq (.reg false (.loud [3] [] [(3,.tmp 0)] none [] false (.binOp .eql 44 (.tmp 3) (.const (.slice none 0 0)) 44) 4 (some 4) true (.fin [] [] []))) (.cond (.tmp 4) [4] (.seq (.reg false (.fin [2] [(2,.con (.slice none 0 0))] [])) .ret) .skip)) (.seq (.reg false (.loud [] [] [] none [] false (.buildSlice 44 0 #[]) 44 (some 5) true (.loud [6] [] [(5,.tmp 5),(6,.tmp 0)] none [] false (.call ⟨.builtin .append,#[.tmp 5,.tmp 6],#[44,44]⟩) 44 (some 7) true (.fin [2] [(2,.tmp 7)] [])))) .ret)))⟩
theorem E.cW:bj Try.prog Try.f58=some L.cW:=by kernel_rfl
theorem F.cW:Try.prog.funcs[N.cW]? = some Try.f58:=Try.func58
abbrev N.bY:Nat:=59
def L.bY.l1:LC:=
 (.seq (.reg false (.fin [11] [(11,.bin (.cmp .lss) (.tmp 10) (.tmp 9))] [])) (.seq (.cond (.tmp 11) [11] .skip (.exit 0)) (.seq (.block 1 (.seq (.reg false (.loud [12,13] [(13,.un (.au 5) (.bin (.idx 5) (.tmp 8) (.tmp 10)))] [] none [] false (.alloc 54) 0 (some 7) true (.loud [] [] [(7,.tmp 7),(13,.tmp 13)] none [] false (.store 54 (.tmp 7) (.tmp 13)) 0 none false (.fin [] [] [])))) (.reg false (.loud [14,15,16] [(14,.tmp 5)] [(15,.tmp 1),(16,.un (.au 5) (.tmp 7))] none [] false (.call ⟨.value (.tmp 15),#[.tmp 16],#[54]⟩) 54 (some 17) true (.loud [] [] [(17,.tmp 17)] none [] false (.buildSlice 39 1 #[(0,.tmp 17)]) 39 (some 18) true (.loud [] [] [(14,.tmp 14),(18,.tmp 18)] none [] false (.call ⟨.builtin .append,#[.tmp 14,.tmp 18],#[39,39]⟩) 39 (some 19) true (.fin [5] [(5,.tmp 19)] []))))))) (.reg false (.fin [20,10] [(10,.bin (.arith .add) (.tmp 10) (.con (.int .i64 1)))] [])))))
def L.bY:LFn:=
⟨[.tmp 4],(.seq (.reg false (.fin [4] [(4,.con (.slice none 0 0))] [])) (.seq (.reg false (.fin [5] [(5,.con (.slice none 0 0))] [])) (.seq (.seq (.reg false (.fin [8,9,10] [(8,.tmp 0),(9,.un .len (.tmp 0)),(10,.con (.int .i64 0))] [])) (.block 0 (.loop L.bY.l1))) (.seq (.reg false (.fin [21,4] [(4,.tmp 5)] [])) .ret))))⟩
theorem E.bY:bj Try.prog Try.f59=some L.bY:=by kernel_rfl
theorem F.bY:Try.prog.funcs[N.bY]? = some Try.f59:=Try.func59
abbrev N.cJ:Nat:=60
def L.cJ:LFn:=
⟨[.un (.au 5) (.tmp 2)],(.seq (.reg false (.loud [] [] [(0,.tmp 0)] none [] false (.box 54 (.tmp 0)) 0 (some 1) true (.loud [] [] [] none [] false (.alloc 54) 0 (some 2) true (.fin [] [] [])))) (.seq (.reg false (.loud [3,4] [] [(4,.un .load (.un (.fld 3) (.tmp 1)))] none [] false (.call ⟨.value (.func 61),#[.tmp 4],#[22]⟩) 22 (some 5) true (.loud [6] [] [(6,.un (.fld 3) (.tmp 1)),(5,.tmp 5)] none [] false (.store 22 (.tmp 6) (.tmp 5)) 0 none false (.fin [] [] [])))) (.seq (.reg false (.loud [7] [] [(2,.tmp 2),(7,.un (.au 5) (.tmp 1))] none [] false (.store 54 (.tmp 2) (.tmp 7)) 0 none false (.fin [] [] []))) .ret)))⟩
theorem E.cJ:bj Try.prog Try.f60=some L.cJ:=by kernel_rfl
theorem F.cJ:Try.prog.funcs[N.cJ]? = some Try.f60:=Try.func60
abbrev N.cM:Nat:=61
def L.cM:LFn:=
⟨[.tmp 2],(.seq (.reg false (.fin [2] [(2,.con (.slice none 0 0))] [])) (.seq (.seq (.reg false (.loud [3] [] [(3,.tmp 0)] none [] false (.binOp .eql 22 (.tmp 3) (.const (.slice none 0 0)) 22) 4 (some 4) true (.fin [] [] []))) (.cond (.tmp 4) [4] (.seq (.reg false (.fin [2] [(2,.con (.slice none 0 0))] [])) .ret) .skip)) (.seq (.reg false (.loud [] [] [] none [] false (.buildSlice 22 0 #[]) 22 (some 5) true (.loud [6] [] [(5,.tmp 5),(6,.tmp 0)] none [] false (.call ⟨.builtin .append,#[.tmp 5,.tmp 6],#[22,22]⟩) 22 (some 7) true (.fin [2] [(2,.tmp 7)] [])))) .ret)))⟩
theorem E.cM:bj Try.prog Try.f61=some L.cM:=by kernel_rfl
theorem F.cM:Try.prog.funcs[N.cM]? = some Try.f61:=Try.func61
abbrev N.aL:Nat:=62
def L.aL.l1:LC:=
 (.block 1 (.seq (.reg false (.fin [21,22,23,12] [(12,.bin (.arith .sub) (.tmp 2) (.tmp 1))] [])) (.seq (.seq (.reg false (.fin [24,25] [(25,.bin (.cmp .leq) (.tmp 12) (.con (.int .i64 12)))] [])) (.cond (.tmp 25) [25] (.seq (.reg false (.loud [26,27,28,29] [] [(26,.tmp 0),(27,.tmp 1),(28,.tmp 2),(29,.tmp 4)] none [] false (.call ⟨.value (.func 76),#[.tmp 26,.tmp 27,.tmp 28,.tmp 29],#[44,3,3,81]⟩) 0 (some 30) false (.fin [] [] []))) .ret) .skip)) (.seq (.seq (.reg false (.fin [31,32] [(32,.bin (.cmp .eql) (.tmp 3) (.con (.int .i64 0)))] [])) (.cond (.tmp 32) [32] (.seq (.reg false (.loud [33,34,35,36] [] [(33,.tmp 0),(34,.tmp 1),(35,.tmp 2),(36,.tmp 4)] none [] false (.call ⟨.value (.func 77),#[.tmp 33,.tmp 34,.tmp 35,.tmp 36],#[44,3,3,81]⟩) 0 (some 37) false (.fin [] [] []))) .ret) .skip)) (.seq (.seq (.reg false (.fin [38,39] [(39,.un .not (.tmp 10))] [])) (.cond (.tmp 39) [39] (.seq (.reg false (.loud [40,41,42,43] [] [(40,.tmp 0),(41,.tmp 1),(42,.tmp 2),(43,.tmp 4)] none [] false (.call ⟨.value (.func 78),#[.tmp 40,.tmp 41,.tmp 42,.tmp 43],#[44,3,3,81]⟩) 0 (some 44) false (.fin [] [] []))) (.reg false (.fin [45,46,3] [(3,.bin (.arith .sub) (.tmp 3) (.con (.int .i64 1)))] []))) .skip)) (.seq (.reg false (.loud [48,49,50,51] [] [(48,.tmp 0),(49,.tmp 1),(50,.tmp 2),(51,.tmp 4)] none [] false (.call ⟨.value (.func 79),#[.tmp 48,.tmp 49,.tmp 50,.tmp 51],#[44,3,3,81]⟩) 135 (some 52) true (.fin [47,53,54,13,14] [(13,.un (.ext 0) (.tmp 52)),(14,.un (.ext 1) (.tmp 52))] []))) (.seq (.seq (.reg false (.fin [55,56] [(56,.bin (.cmp .eql) (.tmp 14) (.con (.int .i64 2)))] [])) (.cond (.tmp 56) [56] (.seq (.reg false (.loud [57,58,59,60] [] [(57,.tmp 0),(58,.tmp 1),(59,.tmp 2),(60,.tmp 4)] none [] false (.call ⟨.value (.func 80),#[.tmp 57,.tmp 58,.tmp 59,.tmp 60],#[44,3,3,81]⟩) 0 (some 61) false (.fin [] [] []))) (.seq (.reg false (.fin [62,63,64,65,66,67,13] [(13,.bin (.arith .sub) (.bin (.arith .sub) (.tmp 2) (.con (.int .i64 1))) (.bin (.arith .sub) (.tmp 13) (.tmp 1)))] [])) (.reg false (.fin [14] [(14,.con (.int .i64 1))] [])))) .skip)) (.seq (.seq (.reg false (.fin [68,69,70,71,72,73,74,75] [(75,.ite (.ite (.tmp 10) (.tmp 11) (.con (.bool false))) (.bin (.cmp .eql) (.tmp 14) (.con (.int .i64 1))) (.con (.bool false)))] [])) (.cond (.tmp 75) [75] (.seq (.reg false (.loud [76,77,78,79] [] [(76,.tmp 0),(77,.tmp 1),(78,.tmp 2),(79,.tmp 4)] none [] false (.call ⟨.value (.func 81),#[.tmp 76,.tmp 77,.tmp 78,.tmp 79],#[44,3,3,81]⟩) 4 (some 80) true (.fin [] [] []))) (.cond (.tmp 80) [80] .ret .skip)) .skip)) (.seq (.seq (.reg true (.loud [81,82,83,84,85,86,87,88,89,90,91,92,93] [(83,.bin (.cmp .gtr) (.tmp 1) (.con (.int .i64 0)))] [(84,.gd (.bin (.cmp .gtr) (.tmp 1) (.con (.int .i64 0))) true (.tmp 4)),(89,(.gd (.bin (.cmp .gtr) (.tmp 1) (.con (.int .i64 0))) true (.un (.au 2) (.bin (.idx 2) (.tmp 0) (.bin (.arith .sub) (.tmp 1) (.con (.int .i64 1))))))),(93,.gd (.bin (.cmp .gtr) (.tmp 1) (.con (.int .i64 0))) true (.un (.au 2) (.bin (.idx 2) (.tmp 0) (.tmp 13))))] (some ((.bin (.cmp .gtr) (.tmp 1) (.con (.int .i64 0))),true)) [] false (.call ⟨.value (.tmp 84),#[.tmp 89,.tmp 93],#[49,49]⟩) 3 (some 94) true (.fin [95,96,97] [(97,(.ite (.tmp 83) (.un .not (.bin (.cmp .lss) (.tmp 94) (.con (.int .i64 0)))) (.con (.bool false))))] []))) (.cond (.tmp 97) [97] (.seq (.reg false (.loud [98,99,100,101,102] [] [(98,.tmp 0),(99,.tmp 1),(100,.tmp 2),(101,.tmp 13),(102,.tmp 4)] none [] false (.call ⟨.value (.func 82),#[.tmp 98,.tmp 99,.tmp 100,.tmp 101,.tmp 102],#[44,3,3,3,81]⟩) 3 (some 103) true (.fin [15] [(15,.tmp 103)] []))) (.seq (.reg false (.fin [104,1] [(1,.tmp 15)] [])) (.exit 1))) .skip)) (.seq (.reg false (.loud [106,107,108,109,110] [] [(106,.tmp 0),(107,.tmp 1),(108,.tmp 2),(109,.tmp 13),(110,.tmp 4)] none [] false (.call ⟨.value (.func 83),#[.tmp 106,.tmp 107,.tmp 108,.tmp 109,.tmp 110],#[44,3,3,3,81]⟩) 79 (some 111) true (.fin [105,112,113,16,17] [(16,.un (.ext 0) (.tmp 111)),(17,.un (.ext 1) (.tmp 111))] []))) (.seq (.reg false (.fin [114,11] [(11,.tmp 17)] [])) (.seq (.reg false (.fin [115,116,117,118,119,120,18,19] [(18,.bin (.arith .sub) (.tmp 16) (.tmp 1)),(19,.bin (.arith .sub) (.tmp 2) (.tmp 16))] [])) (.seq (.reg false (.fin [121,122,20] [(20,.bin (.div .quo) (.tmp 12) (.con (.int .i64 8)))] [])) (.seq (.reg false (.fin [123,124,125] [(125,.bin (.cmp .lss) (.tmp 18) (.tmp 19))] [])) (.cond (.tmp 125) [125] (.seq (.reg false (.fin [126,127,128,10] [(10,.bin (.cmp .geq) (.tmp 18) (.tmp 20))] [])) (.seq (.reg false (.loud [129,130,131,132,133] [] [(129,.tmp 0),(130,.tmp 1),(131,.tmp 16),(132,.tmp 3),(133,.tmp 4)] none [] false (.call ⟨.value (.func 62),#[.tmp 129,.tmp 130,.tmp 131,.tmp 132,.tmp 133],#[44,3,3,3,81]⟩) 0 (some 134) false (.fin [] [] []))) (.reg false (.fin [135,136,1] [(1,.bin (.arith .add) (.tmp 16) (.con (.int .i64 1)))] [])))) (.seq (.reg false (.fin [137,138,139,10] [(10,.bin (.cmp .geq) (.tmp 19) (.tmp 20))] [])) (.seq (.reg false (.loud [140,141,142,143,144,145] [] [(140,.tmp 0),(142,.bin (.arith .add) (.tmp 16) (.con (.int .i64 1))),(143,.tmp 2),(144,.tmp 3),(145,.tmp 4)] none [] false (.call ⟨.value (.func 62),#[.tmp 140,.tmp 142,.tmp 143,.tmp 144,.tmp 145],#[44,3,3,3,81]⟩) 0 (some 146) false (.fin [] [] []))) (.reg false (.fin [147,2] [(2,.tmp 16)] [])))))))))))))))))))
def L.aL:LFn:=
⟨[],(.seq (.reg false (.fin [10] [(10,.con (.bool true))] [])) (.seq (.reg false (.fin [11] [(11,.con (.bool true))] [])) (.block 0 (.loop L.aL.l1))))⟩
theorem E.aL:bj Try.prog Try.f62=some L.aL:=by kernel_rfl
theorem F.aL:Try.prog.funcs[N.aL]? = some Try.f62:=Try.func62
abbrev N.sP:Nat:=63
abbrev N.bF:Nat:=64
def L.bF.l1:LC:=
 (.seq (.reg false (.fin [17] [(17,.bin (.cmp .lss) (.tmp 16) (.tmp 15))] [])) (.seq (.cond (.tmp 17) [17] .skip (.exit 0)) (.seq (.block 1 (.seq (.reg false (.fin [18,19,7] [(7,.un .load (.bin (.idx 1) (.tmp 14) (.tmp 16)))] [])) (.seq (.reg false (.fin [20,21,22,23,24] [(24,(.un .not (.un .load (.bin (.idx 1) (.un .load (.tmp 1)) (.tmp 7)))))] [])) (.cond (.tmp 24) [24] (.reg false (.loud [25,26] [] [(25,.un .load (.tmp 3)),(26,.tmp 7)] none [] false (.call ⟨.value (.tmp 25),#[.tmp 26],#[3]⟩) 0 (some 27) false (.fin [] [] []))) .skip)))) (.reg false (.fin [28,16] [(16,.bin (.arith .add) (.tmp 16) (.con (.int .i64 1)))] [])))))
def L.bF:LFn:=
⟨[],(.seq (.reg false (.loud [8,9,10] [] [(10,.bin (.idx 1) (.un .load (.tmp 1)) (.tmp 0))] none [] false (.store 4 (.tmp 10) (.const (.bool true))) 0 none false (.fin [] [] []))) (.seq (.seq (.reg false (.fin [11,12,13,14,15,16] [(14,.un .load (.bin (.idx 1) (.un .load (.tmp 2)) (.tmp 0))),(15,(.un .len (.un .load (.bin (.idx 1) (.un .load (.tmp 2)) (.tmp 0))))),(16,.con (.int .i64 0))] [])) (.block 0 (.loop L.bF.l1))) (.reg false (.loud [29,30] [(29,.un .load (.tmp 4))] [(30,.tmp 0)] none [] false (.buildSlice 22 1 #[(0,.tmp 30)]) 22 (some 31) true (.loud [] [] [(29,.tmp 29),(31,.tmp 31)] none [] false (.call ⟨.builtin .append,#[.tmp 29,.tmp 31],#[22,22]⟩) 22 (some 32) true (.loud [] [] [(4,.tmp 4),(32,.tmp 32)] none [] false (.store 22 (.tmp 4) (.tmp 32)) 0 none false (.fin [] [] [])))))))⟩
theorem E.bF:bj Try.prog Try.f64=some L.bF:=by kernel_rfl
theorem F.bF:Try.prog.funcs[N.bF]? = some Try.f64:=Try.func64
abbrev N.cw:Nat:=68
def L.cw:LFn:=
⟨[.tmp 2,.tmp 3],(.seq (.reg false (.fin [2,3] [(2,.con (.int .i64 0)),(3,.con (.bool false))] [])) (.seq (.seq (.reg false (.fin [5,6,7,8,9,10] [(10,(.bin (.cmp .eql) (.un .len (.un .load (.un (.fld 5) (.un .nilPtr (.tmp 0))))) (.con (.int .i64 0))))] [])) (.cond (.tmp 10) [10] (.seq (.reg false (.fin [2,3] [(2,.con (.int .i64 0)),(3,.con (.bool false))] [])) .ret) .skip)) (.seq (.reg false (.loud [11,12,13,14,15,16] [] [(11,.tmp 0),(16,(.un .len (.un .load (.un (.fld 5) (.un .nilPtr (.tmp 0))))))] none [] false (.call ⟨.value (.func 19),#[.tmp 11,.tmp 16],#[56,3]⟩) 3 (some 17) true (.fin [4] [(4,.tmp 17)] []))) (.seq (.seq (.reg false (.loud [18] [] [(18,.tmp 0)] none [] false (.call ⟨.value (.func 19),#[.tmp 18,.const (.int .i64 3)],#[56,3]⟩) 3 (some 19) true (.fin [20] [(20,.bin (.cmp .eql) (.tmp 19) (.con (.int .i64 0)))] []))) (.cond (.tmp 20) [20] (.reg false (.fin [21,22,23,24,25,26,4] [(4,(.bin (.arith .sub) (.un .len (.un .load (.un (.fld 5) (.un .nilPtr (.tmp 0))))) (.con (.int .i64 1))))] [])) .skip)) (.seq (.reg false (.fin [27,28,29,30,31,32,33,2,3] [(2,(.un .load (.bin (.idx 1) (.un .load (.un (.fld 5) (.un .nilPtr (.tmp 0)))) (.tmp 4)))),(3,.con (.bool true))] [])) .ret)))))⟩
theorem E.cw:bj Try.prog Try.f68=some L.cw:=by kernel_rfl
theorem F.cw:Try.prog.funcs[N.cw]? = some Try.f68:=Try.func68
abbrev N.bu:Nat:=69
def L.bu.l1:LC:=
 (.seq (.reg false (.fin [15] [(15,.bin (.cmp .lss) (.tmp 14) (.tmp 13))] [])) (.seq (.cond (.tmp 15) [15] .skip (.exit 0)) (.seq (.block 1 (.seq (.reg false (.fin [16,17,9] [(9,.un .load (.bin (.idx 1) (.tmp 12) (.tmp 14)))] [])) (.reg false (.loud [18,19,20,21] [] [(18,.tmp 0),(19,.tmp 9),(20,.tmp 2),(21,.tmp 3)] none [] false (.call ⟨.value (.func 87),#[.tmp 18,.tmp 19,.tmp 20,.tmp 21],#[99,3,3,3]⟩) 0 (some 22) false (.fin [] [] []))))) (.reg false (.fin [23,14] [(14,.bin (.arith .add) (.tmp 14) (.con (.int .i64 1)))] [])))))
def L.bu.l2:LC:=
 (.seq (.reg false (.fin [27] [(27,.bin (.cmp .lss) (.tmp 26) (.tmp 25))] [])) (.seq (.cond (.tmp 27) [27] .skip (.exit 2)) (.seq (.block 3 (.seq (.reg false (.fin [28,29,11] [(11,.un .load (.bin (.idx 1) (.tmp 24) (.tmp 26)))] [])) (.reg false (.loud [30,31,32,33] [] [(30,.tmp 0),(31,.tmp 11),(32,.tmp 2),(33,.tmp 3)] none [] false (.call ⟨.value (.func 88),#[.tmp 30,.tmp 31,.tmp 32,.tmp 33],#[99,3,3,3]⟩) 0 (some 34) false (.fin [] [] []))))) (.reg false (.fin [35,26] [(26,.bin (.arith .add) (.tmp 26) (.con (.int .i64 1)))] [])))))
def L.bu:LFn:=
⟨[],(.seq (.seq (.reg false (.fin [12,13,14] [(12,.tmp 1),(13,.un .len (.tmp 1)),(14,.con (.int .i64 0))] [])) (.block 0 (.loop L.bu.l1))) (.seq (.reg false (.fin [24,25,26] [(24,.tmp 1),(25,.un .len (.tmp 1)),(26,.con (.int .i64 0))] [])) (.block 2 (.loop L.bu.l2))))⟩
theorem E.bu:bj Try.prog Try.f69=some L.bu:=by kernel_rfl
theorem F.bu:Try.prog.funcs[N.bu]? = some Try.f69:=Try.func69
end Go.Proofs.Ytbkdlhkoiagbbaa
namespace Go.Proofs.Ytbkdlhkoiagbbaa
open Go Go.Lft
set_option maxRecDepth 100000
abbrev N.dq:Nat:=70
def L.dq:LFn:=
⟨[.tmp 2,.tmp 3],(.seq (.reg false (.fin [2,3] [(2,.con (.int .i64 0)),(3,.con (.int .i64 0))] [])) (.seq (.seq (.reg false (.fin [4] [(4,.tmp 0)] [])) (.block 0 (.seq (.reg false (.fin [6,5] [(5,.bin (.cmp .eql) (.tmp 4) (.con (.int .i64 1)))] [])) (.cond (.tmp 5) [5] (.seq (.reg false (.fin [2,3] [(2,.con (.int .i64 0)),(3,.con (.int .i64 0))] [])) .ret) (.seq (.reg false (.fin [8,7] [(7,.bin (.cmp .eql) (.tmp 4) (.con (.int .i64 15)))] [])) (.cond (.tmp 7) [7] (.seq (.reg false (.fin [2,3] [(2,.con (.int .i64 1)),(3,.con (.int .i64 1))] [])) .ret) (.seq (.reg false (.fin [10,9] [(9,.bin (.cmp .eql) (.tmp 4) (.con (.int .i64 17)))] [])) (.cond (.tmp 9) [9] (.seq (.reg false (.fin [2,3] [(2,.con (.int .i64 0)),(3,.con (.int .i64 4))] [])) .ret) .skip)))))))) (.seq (.reg false (.fin [2,3] [(2,.con (.int .i64 2)),(3,.con (.int .i64 2))] [])) .ret)))⟩
theorem E.dq:bj Try.prog Try.f70=some L.dq:=by kernel_rfl
theorem F.dq:Try.prog.funcs[N.dq]? = some Try.f70:=Try.func70
abbrev N.eI:Nat:=71
def L.eI:LFn:=
⟨[.tmp 2],(.seq (.reg false (.loud [] [] [(0,.tmp 0)] none [] false (.box 54 (.tmp 0)) 0 (some 1) true (.fin [2] [(2,.con (.slice none 0 0))] []))) (.seq (.seq (.reg false (.fin [3,4] [(4,.un .load (.un (.fld 0) (.tmp 1)))] [])) (.block 0 (.seq (.reg false (.fin [6,5] [(5,.bin (.cmp .eql) (.tmp 4) (.con (.int .i64 16)))] [])) (.cond (.tmp 5) [5] (.seq (.reg false (.fin [2] [(2,.con (.slice none 0 0))] [])) .ret) (.seq (.reg false (.fin [8,7] [(7,.bin (.cmp .eql) (.tmp 4) (.con (.int .i64 18)))] [])) (.cond (.tmp 7) [7] (.seq (.reg false (.loud [9,10,11,12] [] [(10,.un .load (.un (.fld 1) (.tmp 1))),(12,.un .load (.un (.fld 2) (.tmp 1)))] none [] false (.buildSlice 22 2 #[(0,.tmp 10),(1,.tmp 12)]) 22 (some 13) true (.fin [2] [(2,.tmp 13)] []))) .ret) .skip)))))) (.seq (.reg false (.loud [14,15] [] [(15,.un .load (.un (.fld 1) (.tmp 1)))] none [] false (.buildSlice 22 1 #[(0,.tmp 15)]) 22 (some 16) true (.fin [2] [(2,.tmp 16)] []))) .ret)))⟩
theorem E.eI:bj Try.prog Try.f71=some L.eI:=by kernel_rfl
theorem F.eI:Try.prog.funcs[N.eI]? = some Try.f71:=Try.func71
abbrev N.dP:Nat:=72
def L.dP:LFn:=
⟨[.tmp 0],(.seq (.reg false (.fin [0] [(0,.con (.map none))] [])) (.seq (.reg false (.loud [] [] [] none [] false (.makeMap 125 none) 125 (some 1) true (.loud [] [] [] none [] false (.build 123 #[(0,.const (.int .i64 0)),(1,.const (.int .i64 0)),(2,.const (.int .i64 1)),(3,.const (.int .i64 1))]) 123 (some 2) true (.loud [] [] [(1,.tmp 1),(2,.tmp 2)] none [] false (.insert 125 (.tmp 1) (.const (.int .i64 1)) (.tmp 2)) 0 none false (.loud [] [] [] none [] false (.build 123 #[(0,.const (.int .i64 1)),(1,.const (.int .i64 1)),(2,.const (.int .i64 2)),(3,.const (.int .i64 2))]) 123 (some 3) true (.loud [] [] [(1,.tmp 1),(3,.tmp 3)] none [] false (.insert 125 (.tmp 1) (.const (.int .i64 2)) (.tmp 3)) 0 none false (.loud [] [] [] none [] false (.build 123 #[(0,.const (.int .i64 1)),(1,.const (.int .i64 1)),(2,.const (.int .i64 2)),(3,.const (.int .i64 65))]) 123 (some 4) true (.loud [] [] [(1,.tmp 1),(4,.tmp 4)] none [] false (.insert 125 (.tmp 1) (.const (.int .i64 3)) (.tmp 4)) 0 none false (.loud [] [] [] none [] false (.build 123 #[(0,.const (.int .i64 0)),(1,.const (.int .i64 1)),(2,.const (.int .i64 0)),(3,.const (.int .i64 0))]) 123 (some 5) true (.loud [] [] [(1,.tmp 1),(5,.tmp 5)] none [] false (.insert 125 (.tmp 1) (.const (.int .i64 4)) (.tmp 5)) 0 none false (.loud [] [] [] none [] false (.build 123 #[(0,.const (.int .i64 0)),(1,.const (.int .i64 0)),(2,.const (.int .i64 0)),(3,.const (.int .i64 0))]) 123 (some 6) true (.loud [] [] [(1,.tmp 1),(6,.tmp 6)] none [] false (.insert 125 (.tmp 1) (.const (.int .i64 5)) (.tmp 6)) 0 none false (.fin [7,0] [(0,.tmp 1)] []))))))))))))) .ret))⟩
theorem E.dP:bj Try.prog Try.f72=some L.dP:=by kernel_rfl
theorem F.dP:Try.prog.funcs[N.dP]? = some Try.f72:=Try.func72
abbrev N.slices_Contains_int:Nat:=73
def L.slices_Contains_int:LFn:=
⟨[.tmp 4],(.seq (.reg false (.fin [4] [(4,.con (.bool false))] [])) (.seq (.reg false (.loud [5,6] [] [(5,.tmp 0),(6,.tmp 1)] none [] false (.call ⟨.value (.func 89),#[.tmp 5,.tmp 6],#[22,3]⟩) 3 (some 7) true (.fin [8,4] [(4,.bin (.cmp .geq) (.tmp 7) (.con (.int .i64 0)))] []))) .ret))⟩
theorem E.slices_Contains_int:bj Try.prog Try.f73=some L.slices_Contains_int:=by kernel_rfl
theorem F.slices_Contains_int:Try.prog.funcs[N.slices_Contains_int]? = some Try.f73:=Try.func73
abbrev N.aJ:Nat:=74
def L.aJ:LFn:=
⟨[],(.seq (.seq (.reg false (.fin [14,15,16,17,18,19,20,21,22,23,24] [(24,(.ite (.bin (.cmp .geq) (.tmp 0) (.con (.int .i64 0))) (.bin (.cmp .lss) (.tmp 0) (.un .load (.un (.fld 0) (.un (.fld 0) (.un .nilPtr (.un .load (.tmp 5))))))) (.con (.bool false))))] [])) (.cond (.tmp 24) [24] .ret .skip)) (.seq (.reg false (.loud [26,27,28,29,30] [] [(29,(.un .load (.un (.fld 2) (.un .nilPtr (.un .load (.tmp 5)))))),(30,.tmp 0)] none [] false (.lookup 100 (.tmp 29) (.tmp 30) true) 130 (some 31) true (.loud [25,32,33] [(32,.un (.ext 0) (.tmp 31)),(33,.un (.ext 1) (.tmp 31))] [] none [] false (.alloc 129) 0 (some 12) true (.loud [] [] [(12,.tmp 12),(32,.tmp 32)] none [] false (.store 129 (.tmp 12) (.tmp 32)) 0 none false (.fin [13] [(13,.tmp 33)] []))))) (.seq (.reg false (.loud [34,35,36,37,38,39,40,41,42,43,44,45,46,47,48,49,50,51,52,53,54,55,56,57,58,59,60] [(35,.tmp 13),(51,(.gd (.tmp 13) true (.ite (.bin (.cmp .eql) (.un .load (.un (.fld 0) (.tmp 12))) (.tmp 1)) (.ite (.bin (.cmp .lss) (.un .load (.un (.fld 1) (.tmp 12))) (.tmp 3)) (.con (.bool true)) (.bin (.cmp .lss) (.un .load (.un (.fld 1) (.tmp 12))) (.con (.int .i64 0)))) (.con (.bool false))))),(56,(.gd (.gd (.tmp 13) true (.ite (.bin (.cmp .eql) (.un .load (.un (.fld 0) (.tmp 12))) (.tmp 1)) (.ite (.bin (.cmp .lss) (.un .load (.un (.fld 1) (.tmp 12))) (.tmp 3)) (.con (.bool true)) (.bin (.cmp .lss) (.un .load (.un (.fld 1) (.tmp 12))) (.con (.int .i64 0)))) (.con (.bool false)))) false (.bin (.cmp .neq) (.un .load (.un (.fld 0) (.tmp 12))) (.tmp 1))))] [(57,(.gd (.gd (.gd (.tmp 13) true (.ite (.bin (.cmp .eql) (.un .load (.un (.fld 0) (.tmp 12))) (.tmp 1)) (.ite (.bin (.cmp .lss) (.un .load (.un (.fld 1) (.tmp 12))) (.tmp 3)) (.con (.bool true)) (.bin (.cmp .lss) (.un .load (.un (.fld 1) (.tmp 12))) (.con (.int .i64 0)))) (.con (.bool false)))) false (.bin (.cmp .neq) (.un .load (.un (.fld 0) (.tmp 12))) (.tmp 1))) true (.un .load (.tmp 6)))),(59,(.gd (.gd (.gd (.tmp 13) true (.ite (.bin (.cmp .eql) (.un .load (.un (.fld 0) (.tmp 12))) (.tmp 1)) (.ite (.bin (.cmp .lss) (.un .load (.un (.fld 1) (.tmp 12))) (.tmp 3)) (.con (.bool true)) (.bin (.cmp .lss) (.un .load (.un (.fld 1) (.tmp 12))) (.con (.int .i64 0)))) (.con (.bool false)))) false (.bin (.cmp .neq) (.un .load (.un (.fld 0) (.tmp 12))) (.tmp 1))) true (.un .load (.un (.fld 0) (.tmp 12))))),(60,(.gd (.gd (.gd (.tmp 13) true (.ite (.bin (.cmp .eql) (.un .load (.un (.fld 0) (.tmp 12))) (.tmp 1)) (.ite (.bin (.cmp .lss) (.un .load (.un (.fld 1) (.tmp 12))) (.tmp 3)) (.con (.bool true)) (.bin (.cmp .lss) (.un .load (.un (.fld 1) (.tmp 12))) (.con (.int .i64 0)))) (.con (.bool false)))) false (.bin (.cmp .neq) (.un .load (.un (.fld 0) (.tmp 12))) (.tmp 1))) true (.tmp 1)))] (some ((.gd (.gd (.tmp 13) true (.ite (.bin (.cmp .eql) (.un .load (.un (.fld 0) (.tmp 12))) (.tmp 1)) (.ite (.bin (.cmp .lss) (.un .load (.un (.fld 1) (.tmp 12))) (.tmp 3)) (.con (.bool true)) (.bin (.cmp .lss) (.un .load (.un (.fld 1) (.tmp 12))) (.con (.int .i64 0)))) (.con (.bool false)))) false (.bin (.cmp .neq) (.un .load (.un (.fld 0) (.tmp 12))) (.tmp 1))),true)) [(.gd (.gd (.tmp 13) true (.bin (.cmp .eql) (.un .load (.un (.fld 0) (.tmp 12))) (.tmp 1))) true (.ite (.bin (.cmp .lss) (.un .load (.un (.fld 1) (.tmp 12))) (.tmp 3)) (.con (.bool true)) (.bin (.cmp .lss) (.un .load (.un (.fld 1) (.tmp 12))) (.con (.int .i64 0))))),(.gd (.gd (.gd (.tmp 13) true (.bin (.cmp .eql) (.un .load (.un (.fld 0) (.tmp 12))) (.tmp 1))) true (.bin (.cmp .lss) (.un .load (.un (.fld 1) (.tmp 12))) (.tmp 3))) false (.bin (.cmp .lss) (.un .load (.un (.fld 1) (.tmp 12))) (.con (.int .i64 0))))] false (.call ⟨.value (.func 13),#[.tmp 57,.tmp 59,.tmp 60],#[22,3,3]⟩) 4 (some 61) true (.fin [62,63,64,13] [(13,(.ite (.tmp 35) (.ite (.tmp 51) (.con (.bool true)) (.ite (.tmp 56) (.tmp 61) (.con (.bool false)))) (.con (.bool false))))] [.gd (.tmp 51) false (.ite (.tmp 56) (.tmp 61) (.con (.bool false)))]))) (.reg false (.loud [65,66,67] [] [(65,.tmp 13),(66,.tmp 4),(67,.tmp 2)] none [] false (.call ⟨.value (.func 48),#[.tmp 65,.const (.int .i64 13),.tmp 66,.tmp 67],#[4,29,3,3]⟩) 0 (some 68) false (.fin [] [] []))))))⟩
theorem E.aJ:bj Try.prog Try.f74=some L.aJ:=by kernel_rfl
theorem F.aJ:Try.prog.funcs[N.aJ]? = some Try.f74:=Try.func74
abbrev N.bE:Nat:=75
def L.bE.l2:LC:=
 (.seq (.reg false (.fin [18] [(18,.bin (.cmp .lss) (.tmp 17) (.tmp 16))] [])) (.seq (.cond (.tmp 18) [18] .skip (.exit 2)) (.seq (.block 3 (.seq (.reg false (.fin [19,20,6] [(6,.un .load (.bin (.idx 1) (.tmp 15) (.tmp 17)))] [])) (.seq (.reg false (.loud [21,22,23] [] [(21,.tmp 0),(22,.tmp 3),(23,.tmp 6)] none [] false (.call ⟨.value (.tmp 21),#[.tmp 22,.tmp 23],#[3,3]⟩) 4 (some 24) true (.fin [25] [(25,.un .not (.tmp 24))] []))) (.cond (.tmp 25) [25] .ret .skip)))) (.reg false (.fin [26,17] [(17,.bin (.arith .add) (.tmp 17) (.con (.int .i64 1)))] [])))))
def L.bE.l1:LC:=
 (.seq (.reg false (.fin [11] [(11,.bin (.cmp .lss) (.tmp 10) (.tmp 9))] [])) (.seq (.cond (.tmp 11) [11] .skip (.exit 0)) (.seq (.block 1 (.seq (.reg false (.fin [12,13,14,3,4] [(3,.tmp 10),(4,.un .load (.bin (.idx 1) (.tmp 8) (.tmp 10)))] [])) (.seq (.reg false (.fin [15,16,17] [(15,.tmp 4),(16,.un .len (.tmp 4)),(17,.con (.int .i64 0))] [])) (.block 2 (.loop L.bE.l2))))) (.reg false (.fin [27,10] [(10,.bin (.arith .add) (.tmp 10) (.con (.int .i64 1)))] [])))))
def L.bE:LFn:=
⟨[],(.seq (.reg false (.loud [7] [] [(7,.un .load (.tmp 1))] none [] false (.call ⟨.value (.func 52),#[.tmp 7],#[33]⟩) 33 (some 8) true (.fin [9,10] [(9,.un .len (.tmp 8)),(10,.con (.int .i64 0))] []))) (.block 0 (.loop L.bE.l1)))⟩
theorem E.bE:bj Try.prog Try.f75=some L.bE:=by kernel_rfl
theorem F.bE:Try.prog.funcs[N.bE]? = some Try.f75:=Try.func75
abbrev N.aw:Nat:=76
def L.aw.l2:LC:=
 (.seq (.seq (.reg true (.loud [18,19,20,21,22,23,24,25,26,27,28,29,30,31] [(21,.bin (.cmp .gtr) (.tmp 9) (.tmp 1))] [(22,.gd (.bin (.cmp .gtr) (.tmp 9) (.tmp 1)) true (.tmp 3)),(26,.gd (.bin (.cmp .gtr) (.tmp 9) (.tmp 1)) true (.un (.au 2) (.bin (.idx 2) (.tmp 0) (.tmp 9)))),(31,(.gd (.bin (.cmp .gtr) (.tmp 9) (.tmp 1)) true (.un (.au 2) (.bin (.idx 2) (.tmp 0) (.bin (.arith .sub) (.tmp 9) (.con (.int .i64 1)))))))] (some ((.bin (.cmp .gtr) (.tmp 9) (.tmp 1)),true)) [] false (.call ⟨.value (.tmp 22),#[.tmp 26,.tmp 31],#[49,49]⟩) 3 (some 32) true (.fin [33,34] [(34,.ite (.tmp 21) (.bin (.cmp .lss) (.tmp 32) (.con (.int .i64 0))) (.con (.bool false)))] []))) (.cond (.tmp 34) [34] .skip (.exit 2))) (.seq (.block 3 (.reg true (.loud [37,38,39,40,41,42,43,44,45,46,47,48,49,50,51] [(39,.tmp 0),(41,.bin (.arith .sub) (.tmp 9) (.con (.int .i64 1))),(50,.un (.au 2) (.bin (.idx 2) (.tmp 0) (.tmp 9)))] [(51,.bin (.idx 2) (.tmp 0) (.tmp 9)),(46,(.un (.au 2) (.bin (.idx 2) (.tmp 0) (.bin (.arith .sub) (.tmp 9) (.con (.int .i64 1))))))] none [] true (.store 49 (.tmp 51) (.tmp 46)) 0 none false (.loud [52] [] [(52,.bin (.idx 2) (.tmp 39) (.tmp 41)),(50,.tmp 50)] none [] false (.store 49 (.tmp 52) (.tmp 50)) 0 none false (.fin [] [] []))))) (.reg false (.fin [35,36,9] [(9,.bin (.arith .sub) (.tmp 9) (.con (.int .i64 1)))] []))))
def L.aw.l1:LC:=
 (.seq (.seq (.reg false (.fin [12,13,14] [(14,.bin (.cmp .lss) (.tmp 8) (.tmp 2))] [])) (.cond (.tmp 14) [14] .skip (.exit 0))) (.seq (.block 1 (.seq (.reg false (.fin [17,9] [(9,.tmp 8)] [])) (.block 2 (.loop L.aw.l2)))) (.reg false (.fin [15,16,8] [(8,.bin (.arith .add) (.tmp 8) (.con (.int .i64 1)))] []))))
def L.aw:LFn:=
⟨[],(.seq (.reg false (.fin [10,11,8] [(8,.bin (.arith .add) (.tmp 1) (.con (.int .i64 1)))] [])) (.block 0 (.loop L.aw.l1)))⟩
theorem E.aw:bj Try.prog Try.f76=some L.aw:=by kernel_rfl
theorem F.aw:Try.prog.funcs[N.aw]? = some Try.f76:=Try.func76
abbrev N.cz:Nat:=87
def L.cz:LFn:=
⟨[],(.reg false (.loud [8,9,10,11,12,13] [] [(8,.tmp 1),(13,(.un .load (.un (.fld 0) (.un (.fld 0) (.un .nilPtr (.tmp 0))))))] none [] false (.call ⟨.value (.func 49),#[.tmp 8,.tmp 13,.const (.int .i64 8191)],#[3,3,3]⟩) 4 (some 14) true (.loud [15,16] [] [(14,.tmp 14),(15,.tmp 2),(16,.tmp 3)] none [] false (.call ⟨.value (.func 48),#[.tmp 14,.const (.int .i64 11),.tmp 15,.tmp 16],#[4,29,3,3]⟩) 0 (some 17) false (.fin [] [] []))))⟩
theorem E.cz:bj Try.prog Try.f87=some L.cz:=by kernel_rfl
theorem F.cz:Try.prog.funcs[N.cz]? = some Try.f87:=Try.func87
abbrev N.cy:Nat:=88
def L.cy:LFn:=
⟨[],(.seq (.reg false (.loud [11,12,13,14,15] [] [(14,.un .load (.un (.fld 2) (.un .nilPtr (.tmp 0)))),(15,.tmp 1)] none [] false (.lookup 100 (.tmp 14) (.tmp 15) true) 130 (some 16) true (.loud [10,17,18] [(17,.un (.ext 0) (.tmp 16)),(18,.un (.ext 1) (.tmp 16))] [] none [] false (.alloc 129) 0 (some 8) true (.loud [] [] [(8,.tmp 8),(17,.tmp 17)] none [] false (.store 129 (.tmp 8) (.tmp 17)) 0 none false (.fin [9] [(9,.tmp 18)] []))))) (.seq (.reg false (.loud [19,20,21,22] [] [(20,.un .not (.tmp 9)),(21,.tmp 2),(22,.tmp 3)] none [] false (.call ⟨.value (.func 48),#[.tmp 20,.const (.int .i64 12),.tmp 21,.tmp 22],#[4,29,3,3]⟩) 0 (some 23) false (.fin [] [] []))) (.reg false (.loud [24,25,26,27,28,29,30] [(27,.un .load (.un (.fld 2) (.un .nilPtr (.tmp 0)))),(28,.tmp 1)] [(29,.tmp 2),(30,.tmp 3)] none [] false (.build 129 #[(0,.tmp 29),(1,.tmp 30)]) 129 (some 31) true (.loud [] [] [(27,.tmp 27),(28,.tmp 28),(31,.tmp 31)] none [] false (.mapUpdate 100 (.tmp 27) (.tmp 28) (.tmp 31)) 0 none false (.fin [] [] []))))))⟩
theorem E.cy:bj Try.prog Try.f88=some L.cy:=by kernel_rfl
theorem F.cy:Try.prog.funcs[N.cy]? = some Try.f88:=Try.func88
abbrev N.slices_Index_int:Nat:=89
def L.slices_Index_int.l1:LC:=
 (.seq (.reg false (.fin [9] [(9,.bin (.cmp .lss) (.tmp 8) (.tmp 7))] [])) (.seq (.cond (.tmp 9) [9] .skip (.exit 0)) (.seq (.block 1 (.seq (.reg false (.fin [10,5] [(5,.tmp 8)] [])) (.seq (.reg false (.fin [11,12,13,14,15,16] [(16,.bin (.cmp .eql) (.tmp 1) (.un .load (.bin (.idx 1) (.tmp 0) (.tmp 5))))] [])) (.cond (.tmp 16) [16] (.seq (.reg false (.fin [17,4] [(4,.tmp 5)] [])) .ret) .skip)))) (.reg false (.fin [18,8] [(8,.bin (.arith .add) (.tmp 8) (.con (.int .i64 1)))] [])))))
def L.slices_Index_int:LFn:=
⟨[.tmp 4],(.seq (.reg false (.fin [4] [(4,.con (.int .i64 0))] [])) (.seq (.seq (.reg false (.fin [6,7,8] [(7,.un .len (.tmp 0)),(8,.con (.int .i64 0))] [])) (.block 0 (.loop L.slices_Index_int.l1))) (.seq (.reg false (.fin [4] [(4,.con (.int .i64 (-1)))] [])) .ret)))⟩
theorem E.slices_Index_int:bj Try.prog Try.f89=some L.slices_Index_int:=by kernel_rfl
theorem F.slices_Index_int:Try.prog.funcs[N.slices_Index_int]? = some Try.f89:=Try.func89
end Go.Proofs.Ytbkdlhkoiagbbaa
namespace Go.Proofs
open Go.Shelf
def Try.wO:Go.Shelf.Ren:=⟨fun | 125=>63 | 128=>84 | 129=>85 | n=>n,fun | 46=>115 | 3=>3 | 51=>141 | 53=>143 | 4=>4 | 5=>5 | 9=>9 | n=>n,fun | n=>n⟩
theorem Try.Ej:Go.Proofs.Lays.n125 Try.prog Try.wO:={
 mixed:=by kernel_rfl
 f125:=Try.func63.trans (congrArg some (by kernel_rfl))
 f128:=Try.func84.trans (congrArg some (by kernel_rfl))
 f129:=Try.func85.trans (congrArg some (by kernel_rfl))
 t3:=Try.underlying3
 a3:=Try.isAgg3
 z3:=Try.sizeOf3
 v3:=Try.zeroValue3
 t4:=Try.underlying4
 a4:=Try.isAgg4
 z4:=Try.sizeOf4
 v4:=Try.zeroValue4
 t5:=Try.underlying5
 a5:=Try.isAgg5
 z5:=Try.sizeOf5
 v5:=Try.zeroValue5
 t9:=Try.underlying9
 a9:=Try.isAgg9
 z9:=Try.sizeOf9
 v9:=Try.zeroValue9
 t46:=Try.underlying115
 a46:=Try.isAgg115
 z46:=Try.sizeOf115
 v46:=Try.zeroValue115
 t51:=Try.underlying141
 a51:=Try.isAgg141
 z51:=Try.sizeOf141
 v51:=Try.zeroValue141
 t53:=Try.underlying143
 a53:=Try.isAgg143
 z53:=Try.sizeOf143
 v53:=Try.zeroValue143 }
theorem Try.bits_Len (x:Int) (w:World) (h0:0≤x) (h1:x≤18446744073709551615) :
  Calls Try.prog 63 #[.int .u64 x] w fun e w'=>e = .returned (.int .i64 (Lib.bitLen x.toNat))∧w'=w:=Any.bits_Len Try.Ej x w h0 h1
def Try.xv:Go.Shelf.Ren:=⟨fun | 189=>66 | 125=>63 | 257=>86 | 128=>84 | 129=>85 | 294=>95 | 295=>96 | 296=>97 | 297=>98 | 298=>99 | 299=>100 | 216=>101 | 300=>102 | 301=>103 | 328=>105 | 329=>91 | 330=>92 | 331=>106 | 332=>107 | 215=>108 | 343=>109 | n=>n,fun | 28=>22 | 3=>3 | 46=>115 | 0=>0 | 51=>141 | 53=>143 | 4=>4 | 183=>135 | 182=>134 | 131=>79 | 5=>5 | 9=>9 | 218=>147 | 222=>151 | 228=>156 | 229=>120 | n=>n,fun | n=>n⟩
theorem Try.zL:Go.Proofs.Lays.n189 Try.prog Try.xv:={
 mixed:=by kernel_rfl
 f125:=Try.func63.trans (congrArg some (by kernel_rfl))
 f128:=Try.func84.trans (congrArg some (by kernel_rfl))
 f129:=Try.func85.trans (congrArg some (by kernel_rfl))
 f189:=Try.func66.trans (congrArg some (by kernel_rfl))
 f215:=Try.func108.trans (congrArg some (by kernel_rfl))
 f216:=Try.func101.trans (congrArg some (by kernel_rfl))
 f257:=Try.func86.trans (congrArg some (by kernel_rfl))
 f294:=Try.func95.trans (congrArg some (by kernel_rfl))
 f295:=Try.func96.trans (congrArg some (by kernel_rfl))
 f296:=Try.func97.trans (congrArg some (by kernel_rfl))
 f297:=Try.func98.trans (congrArg some (by kernel_rfl))
 f298:=Try.func99.trans (congrArg some (by kernel_rfl))
 f299:=Try.func100.trans (congrArg some (by kernel_rfl))
 f300:=Try.func102.trans (congrArg some (by kernel_rfl))
 f301:=Try.func103.trans (congrArg some (by kernel_rfl))
 f328:=Try.func105.trans (congrArg some (by kernel_rfl))
 f329:=Try.func91.trans (congrArg some (by kernel_rfl))
 f330:=Try.func92.trans (congrArg some (by kernel_rfl))
 f331:=Try.func106.trans (congrArg some (by kernel_rfl))
 f332:=Try.func107.trans (congrArg some (by kernel_rfl))
 f343:=Try.func109.trans (congrArg some (by kernel_rfl))
 t0:=Try.underlying0
 a0:=Try.isAgg0
 z0:=Try.sizeOf0
 v0:=Try.zeroValue0
 t3:=Try.underlying3
 a3:=Try.isAgg3
 z3:=Try.sizeOf3
 v3:=Try.zeroValue3
 t4:=Try.underlying4
 a4:=Try.isAgg4
 z4:=Try.sizeOf4
 v4:=Try.zeroValue4
 t5:=Try.underlying5
 a5:=Try.isAgg5
 z5:=Try.sizeOf5
 v5:=Try.zeroValue5
 t9:=Try.underlying9
 a9:=Try.isAgg9
 z9:=Try.sizeOf9
 v9:=Try.zeroValue9
 t28:=Try.underlying22
 a28:=Try.isAgg22
 z28:=Try.sizeOf22
 v28:=Try.zeroValue22
 t46:=Try.underlying115
 a46:=Try.isAgg115
 z46:=Try.sizeOf115
 v46:=Try.zeroValue115
 t51:=Try.underlying141
 a51:=Try.isAgg141
 z51:=Try.sizeOf141
 v51:=Try.zeroValue141
 t53:=Try.underlying143
 a53:=Try.isAgg143
 z53:=Try.sizeOf143
 v53:=Try.zeroValue143
 t131:=Try.underlying79
 a131:=Try.isAgg79
 z131:=Try.sizeOf79
 v131:=Try.zeroValue79
 t182:=Try.underlying134
 a182:=Try.isAgg134
 z182:=Try.sizeOf134
 v182:=Try.zeroValue134
 t183:=Try.underlying135
 a183:=Try.isAgg135
 z183:=Try.sizeOf135
 v183:=Try.zeroValue135
 t218:=Try.underlying147
 a218:=Try.isAgg147
 z218:=Try.sizeOf147
 v218:=Try.zeroValue147
 t222:=Try.underlying151
 a222:=Try.isAgg151
 z222:=Try.sizeOf151
 v222:=Try.zeroValue151
 t228:=Try.underlying156
 a228:=Try.isAgg156
 z228:=Try.sizeOf156
 v228:=Try.zeroValue156
 t229:=Try.underlying120
 a229:=Try.isAgg120
 z229:=Try.sizeOf120
 v229:=Try.zeroValue120 }
open Go.Sort Go.RowKit in
theorem Try.slices_Sort_int (blk off cap:Nat) (zs:List Int) (w:World) (hH:Holds (Value.int .i64) w blk off zs.toArray) (hblk:blk<w.heap.size) (hsz:zs.length<4611686018427387904) :
  Calls Try.prog 66 #[.slice (some ⟨blk,off,none⟩) zs.length cap] w fun e w'=>
   e = .returned (.tuple #[])∧∃ n os,w'=grow (putRow (Value.int .i64) (Sort.ahead w n) blk off (zs.mergeSort fun x y=>decide (x≤y)).toArray) os:=Any.slices_Sort_int Try.zL blk off cap zs w hH hblk hsz
def Try.xf:Go.Shelf.Ren:=⟨fun | 112=>65 | n=>n,fun | 28=>22 | 3=>3 | 4=>4 | 0=>0 | n=>n,fun | n=>n⟩
theorem Try.zb:Go.Proofs.Lays.n112 Try.prog Try.xf:={
 mixed:=by kernel_rfl
 f112:=Try.func65.trans (congrArg some (by kernel_rfl))
 t0:=Try.underlying0
 a0:=Try.isAgg0
 z0:=Try.sizeOf0
 v0:=Try.zeroValue0
 t3:=Try.underlying3
 a3:=Try.isAgg3
 z3:=Try.sizeOf3
 v3:=Try.zeroValue3
 t4:=Try.underlying4
 a4:=Try.isAgg4
 z4:=Try.sizeOf4
 v4:=Try.zeroValue4
 t28:=Try.underlying22
 a28:=Try.isAgg22
 z28:=Try.sizeOf22
 v28:=Try.zeroValue22 }
open Go.RowKit Go.Lib Go.Sort in
/-- slices.Reverse at []int: "Reverse reverses the elements of the slice in place.": THE SLICE's CELLS HOLD 'zs.reverse' BEHIND THE CALL; all else is as it was, but for the count of draws (the exchange 's[i], s[j] = s[j], s[i]' draws its order, once a round). IN THE WORDS OF slices.Sort's CONTRACT: 'Holds': the cells hold zs and none is frozen; 'putRow': the world with those cells holding another array. A slice of length 0 that is not nil is among them ('zs = []'); nil: '.._nil'. (LAID: no walk: one application.) -/
theorem Try.slices_Reverse_int (blk off cap:Nat) (zs:List Int) (w:World) (hH:Holds (Value.int .i64) w blk off zs.toArray) (hsz:zs.length≤9223372036854775807) :
  Calls Try.prog 65 #[.slice (some ⟨blk,off,none⟩) zs.length cap] w fun e w'=>e = .returned (.tuple #[])∧∃ n,w'=putRow (Value.int .i64) (Sort.ahead w n) blk off zs.reverse.toArray:=Any.slices_Reverse_int Try.zb blk off cap zs w hH hsz
open Go.RowKit Go.Lib Go.Sort in
/-- The same at a slice of length 0, a nil one too: nothing is read, nothing written, nothing drawn. (LAID: no walk: one application.) -/
theorem Try.slices_Reverse_int_empty (a:Option Addr) (cap:Nat) (w:World) :
  Calls Try.prog 65 #[.slice a 0 cap] w fun e w'=>e = .returned (.tuple #[])∧w'=w:=Any.slices_Reverse_int_empty Try.zb a cap w
def Try.sR:Go.Shelf.Ren:=⟨fun | 20=>67 | n=>n,fun | 22=>22 | 3=>3 | 4=>4 | 0=>0 | n=>n,fun | n=>n⟩
theorem Try.tN:Go.Proofs.Lays2.n20 Try.prog Try.sR:={
 mixed:=by kernel_rfl
 f20:=Try.func67.trans (congrArg some (by kernel_rfl))
 t0:=Try.underlying0
 a0:=Try.isAgg0
 z0:=Try.sizeOf0
 v0:=Try.zeroValue0
 t3:=Try.underlying3
 a3:=Try.isAgg3
 z3:=Try.sizeOf3
 v3:=Try.zeroValue3
 t4:=Try.underlying4
 a4:=Try.isAgg4
 z4:=Try.sizeOf4
 v4:=Try.zeroValue4
 t22:=Try.underlying22
 a22:=Try.isAgg22
 z22:=Try.sizeOf22
 v22:=Try.zeroValue22
 i3:=by kernel_rfl }
open Go.RowKit Go.Lib Go.Sort in
/-- slices.Compact at []int: "Compact replaces consecutive runs of equal elements with a single copy. This is like the uniq command found on Unix. Compact modifies the contents of the slice s and returns the modified slice, which may have a smaller length. Compact zeroes the elements between the new length and the original length. The result preserves the nilness of s.": IT RETURNS THE SLICE CUT TO 'Lib.compact zs'; ITS CELLS HOLD 'Lib.compact zs', THEN ZERO VALUES up to the old length; all else is as it was, but for the count of draws. IN THE WORDS OF slices.Sort's CONTRACT ('Holds', 'putRow'): so the everyday 'slices.Sort(xs); xs = slices.Compact(xs)' goes from the one contract to the other. It asks 'zs.length ≤ cap' (every slice's: the reslicing 's[:k]' looks at it). Length 0, nil: '.._empty'. (LAID: no walk: one application.) -/
theorem Try.slices_Compact_int (blk off cap:Nat) (zs:List Int) (w:World) (hH:Holds (Value.int .i64) w blk off zs.toArray) (hsz:zs.length≤9223372036854775807) (hcap:zs.length≤cap) :
  Calls Try.prog 67 #[.slice (some ⟨blk,off,none⟩) zs.length cap] w fun e w'=>e = .returned (.slice (some ⟨blk,off,none⟩) (Lib.compact zs).length cap)∧∃ q,w'=putRow (Value.int .i64) (Sort.ahead w q) blk off (Lib.compact zs++List.replicate (zs.length-(Lib.compact zs).length) 0).toArray:=Any.slices_Compact_int Try.tN blk off cap zs w hH hsz hcap
open Go.RowKit Go.Lib Go.Sort in
/-- The same at a slice of length 0, a nil one too: it comes back as it is. (LAID: no walk: one application.) -/
theorem Try.slices_Compact_int_empty (a:Option Addr) (cap:Nat) (w:World) :
  Calls Try.prog 67 #[.slice a 0 cap] w fun e w'=>e = .returned (.slice a 0 cap)∧w'=w:=Any.slices_Compact_int_empty Try.tN a cap w
open Go.RowKit Go.Sort in
/-- .. and plain. (LAID: no walk: one application.) -/
theorem Try.slices_Sort_int_none (p:Option Addr) (cap:Nat) (w:World) :
  Calls Try.prog 66 #[.slice p 0 cap] w fun e w'=>e = .returned (.tuple #[])∧w'=w:=Any.slices_Sort_int_none Try.zL p cap w
end Go.Proofs
namespace Go.Proofs.Ytbkdlhkoiagbbaa
open Go Go.Lft
def I64 (x:Int):Prop:=-9223372036854775808≤x∧x≤9223372036854775807
theorem ni {W:View} {h:Heap} {e:TypeId} {v:Value} {l:List Int}:OwnT W h e v l↔l.length≤140737488355328∧(∀ x∈l,I64 x)∧((v = .slice none 0 0∧l=[])∨
  ∃ g cap cur,v = .slice (some ⟨g,0,none⟩) l.length cap∧h[g]? = some (.cells cur e (0,0))∧l.length≤cap∧cap≤maxLen∧cur.size=cap∧cur.toList.take l.length=l.map (.int .i64)):=by
 have hn:Rep.n Int=1:=rfl
 constructor
 ·rintro ⟨hb,xs,⟨hl,hown⟩,hel⟩
  rw [hn,Nat.mul_one] at hl
  have hel' : ∀ (i:Nat) (hi:i<l.length),xs[i]? = some (.int .i64 l[i])∧I64 l[i]:=fun i hi=>by
   obtain ⟨h1,h2⟩:=hel i hi
   rw [hn,Nat.mul_one] at h1
   have:(xs.drop i).take 1=[.int .i64 l[i]]:=h1
   have h3:((xs.drop i).take 1)[0]? = some (.int .i64 l[i]):=by rw [this];rfl
   rw [List.getElem?_take,if_pos (by decide),List.getElem?_drop] at h3
   exact ⟨by simpa using h3,h2⟩
  have hxs:xs=l.map (.int .i64):=by
   refine List.ext_getElem? fun i=>?_
   rcases Nat.lt_or_ge i l.length with hi | hi
   ·rw [(hel' i hi).1];simp [hi]
   ·rw [List.getElem?_eq_none (by omega),List.getElem?_eq_none (by simpa using hi)]
  refine ⟨hb,fun x hx=>?_,?_⟩
  ·obtain ⟨i,hi,rfl⟩:=List.getElem_of_mem hx
   exact (hel' i hi).2
  ·rcases hown with ⟨rfl,h0⟩ | ⟨g,cap,cur,rfl,hg,h1,h2,h3,h4⟩
   ·exact .inl ⟨rfl,List.eq_nil_of_length_eq_zero h0⟩
   ·rw [hn,Nat.mul_one] at h3 h4
    exact .inr ⟨g,cap,cur,rfl,hg,h1,h2,h3,by rw [h4,hxs]⟩
 ·rintro ⟨hb,hr,hown⟩
  refine ⟨hb,l.map (.int .i64),⟨by rw [hn];simp,?_⟩,fun i hi=>?_⟩
  ·rcases hown with ⟨rfl,rfl⟩ | ⟨g,cap,cur,rfl,hg,h1,h2,h3,h4⟩
   ·exact .inl ⟨rfl,rfl⟩
   ·exact .inr ⟨g,cap,cur,rfl,hg,h1,h2,by rw [hn,Nat.mul_one];exact h3,by rw [hn,Nat.mul_one];exact h4⟩
  ·rw [hn,Nat.mul_one]
   refine ⟨?_,hr _ (List.getElem_mem hi)⟩
   refine List.ext_getElem? fun j=>?_
   rw [List.getElem?_take]
   rcases Nat.lt_or_ge j 1 with hj | hj
   ·have:j=0:=by omega
    subst this
    simp [hi]
   ·rw [if_neg (by omega)];simp;omega
theorem pw {w:World} {g cap:Nat} {cur:Array Value} {e:TypeId} {l:List Int} (hg:w.heap[g]? = some (.cells cur e (0,0))) (h1:l.length≤cur.size) (h4:cur.toList.take l.length=l.map (.int .i64)):Go.Sort.Holds (Value.int .i64) w g 0 l.toArray:=by
 intro j hj
 simp only [List.size_toArray] at hj
 have hc:cur[j]? = some (.int .i64 l[j]):=by
  have:=congrArg (fun x:List Value=>x[j]?) h4
  simp only [List.getElem?_take,hj,if_true,List.getElem?_map] at this
  simpa [hj] using this
 constructor
 ·simp [World.cell?,hg,hc,hj]
 ·simp [World.frozen?,hg]
theorem vf {W:View} {w:World} {h':Heap} {e:TypeId} {v:Value} {g cap:Nat} {cur:Array Value} {l d:List Int} (hv:v = .slice (some ⟨g,0,none⟩) l.length cap) (hg:w.heap[g]? = some (.cells cur e (0,0))) (h1:l.length≤cap) (h2:cap≤maxLen) (h3:cur.size=cap)
  (hd:d.length=l.length) (hb:l.length≤140737488355328) (hr : ∀ x∈d,I64 x) (n:Nat) (os:Array Obj) (hh:h'=(Go.Sort.grow (Go.Sort.putRow (Value.int .i64) (Go.Sort.ahead w n) g 0 d.toArray) os).heap) :
  OwnT W h' e v d∧Kept w.heap h' v.ownBlock:=by
 subst hv
 have hlt:g<w.heap.size:=(Array.getElem?_eq_some_iff.1 hg).1
 have hcur:(Go.Sort.putCells (Value.int .i64) 0 d.toArray cur).toList.take d.length=d.map (.int .i64):=by
  refine List.ext_getElem? fun j=>?_
  rw [List.getElem?_take]
  split
  ·rename_i hj
   have hjc:j<cur.size:=by omega
   simp [Go.Sort.putCells,hj,hjc]
  ·rename_i hj
   exact (List.getElem?_eq_none (by simpa using Nat.le_of_not_lt hj)).symm
 have hblk : ∀ k,k<w.heap.size→h'[k]? = if g=k then (w.heap[k]?).map (Go.Sort.onCells (Go.Sort.putCells (Value.int .i64) 0 d.toArray)) else w.heap[k]?:=by
  intro k hk
  subst hh
  simp only [Go.Sort.grow,Go.Sort.putRow,Go.Sort.mapBlock,Go.Sort.ahead]
  rw [Array.getElem?_append_left (by simpa using hk),Array.getElem?_modify]
 have hsz:w.heap.size≤h'.size:=by subst hh;simp [Go.Sort.grow,Go.Sort.putRow,Go.Sort.mapBlock,Go.Sort.ahead]
 refine ⟨ni.2 ⟨by omega,hr,.inr ⟨g,cap,Go.Sort.putCells (Value.int .i64) 0 d.toArray cur,by rw [hd],?_,by omega,h2,by simp [Go.Sort.putCells,h3],hcur⟩⟩,hsz,fun k hk hne=>?_⟩
 ·rw [hblk g hlt,if_pos rfl,hg];rfl
 ·rw [hblk k hk,if_neg (fun e=>hne (by simp [Value.ownBlock,e]))]
theorem oe (w:World) (n g:Nat) (d:Array Int) (os:Array Obj):Same w (Go.Sort.grow (Go.Sort.putRow (Value.int .i64) (Go.Sort.ahead w n) g 0 d) os):=
 ⟨rfl,rfl,rfl,by simp [Go.Sort.grow,Go.Sort.putRow,Go.Sort.mapBlock,Go.Sort.ahead],fun b hb=>by
  have hlt:=(Array.getElem?_eq_some_iff.1 hb).1
  simp only [Go.Sort.grow,Go.Sort.putRow,Go.Sort.mapBlock,Go.Sort.ahead]
  rw [Array.getElem?_append_left (by simpa using hlt),Array.getElem?_modify]
  split
  ·rw [hb];rfl
  ·exact hb⟩
def mq (l:List Int):List Int:=l.mergeSort fun x y=>decide (x≤y)
theorem Dk {W:View} {h:Heap} {e:TypeId} {v:Value} {l:List Int} (o:OwnT W h e v l):aD Try.prog N.slices_Sort_int #[v] h (fun _ h'=>OwnT W h' e v (mq l)∧Kept h h' v.ownBlock):=by
 rintro w rfl
 obtain ⟨hb,hr,hown⟩:=ni.1 o
 have hlen:(mq l).length=l.length:=List.length_mergeSort _
 have hr' : ∀ x∈mq l,I64 x:=fun x hx=>hr x (List.mem_mergeSort.1 hx)
 rcases hown with ⟨rfl,rfl⟩ | ⟨g,cap,cur,rfl,hg,h1,h2,h3,h4⟩
 ·refine (Try.slices_Sort_int_none none 0 w).mono ?_
  rintro e' w' ⟨rfl,rfl⟩
  exact ⟨_,rfl,⟨by simpa [mq] using o,Kept.refl _ _⟩,Same.refl _⟩
 ·refine (Try.slices_Sort_int g 0 cap l w (pw (cap:=cap) hg (by omega) h4) (Array.getElem?_eq_some_iff.1 hg).1 (by omega)).mono ?_
  rintro e' w' ⟨rfl,n,os,rfl⟩
  exact ⟨_,rfl,vf rfl hg h1 h2 h3 hlen hb hr' n os rfl,oe _ _ _ _ _⟩
theorem Cg {W:View} {h:Heap} {e:TypeId} {g n cap:Nat} {l:List Int} (o:OwnT W h e (.slice (some ⟨g,0,none⟩) l.length cap) l) (hn:n≤l.length):OwnT W h e (.slice (some ⟨g,0,none⟩) n cap) (l.take n):=by
 obtain ⟨hb,hr,hown⟩:=ni.1 o
 have hl:(l.take n).length=n:=by simp;omega
 rcases hown with ⟨hv,_⟩ | ⟨g',cap',cur,hv,hg,h1,h2,h3,h4⟩
 ·cases hv
 ·cases hv
  refine ni.2 ⟨by omega,fun x hx=>hr x (List.mem_of_mem_take hx),.inr ⟨g,cap,cur,by rw [hl],hg,by omega,h2,h3,?_⟩⟩
  rw [hl,List.map_take,←h4,List.take_take,Nat.min_eq_left hn]
theorem qv {l:List Int}:(Lib.compact l).length≤l.length:=by
 unfold Lib.compact Lib.compactUpTo
 rw [List.length_map]
 exact Nat.le_trans (List.length_filter_le _ _) (by simp)
theorem lW {l:List Int} {x:Int} (hx:x∈Lib.compact l):x∈l:=by
 unfold Lib.compact Lib.compactUpTo at hx
 simp only [List.mem_map,List.mem_filter,List.mem_range] at hx
 obtain ⟨i,⟨hi,_⟩,rfl⟩:=hx
 simp [hi]
theorem yj {W:View} {h:Heap} {e:TypeId} {v:Value} {l:List Int} (o:OwnT W h e v l):aD Try.prog N.slices_Compact_int #[v] h (fun v' h'=>OwnT W h' e v' (Lib.compact l)∧jw h h' v v'):=by
 rintro w rfl
 obtain ⟨hb,hr,hown⟩:=ni.1 o
 have hlen:=qv (l:=l)
 rcases hown with ⟨rfl,rfl⟩ | ⟨g,cap,cur,rfl,hg,h1,h2,h3,h4⟩
 ·refine (Try.slices_Compact_int_empty none 0 w).mono ?_
  rintro e' w' ⟨rfl,rfl⟩
  exact ⟨_,rfl,⟨o,Kept.refl _ _,.inl rfl⟩,Same.refl _⟩
 ·refine (Try.slices_Compact_int g 0 cap l w (pw (cap:=cap) hg (by omega) h4) (by omega) h1).mono ?_
  rintro e' w' ⟨rfl,n,hw⟩
  have hw':w'=Go.Sort.grow (Go.Sort.putRow (Value.int .i64) (Go.Sort.ahead w n) g 0 (Lib.compact l++List.replicate (l.length-(Lib.compact l).length) 0).toArray) #[]:=by rw [hw];simp
  have hdl:(Lib.compact l++List.replicate (l.length-(Lib.compact l).length) 0).length=l.length:=by simp;omega
  have hrd : ∀ x∈(Lib.compact l++List.replicate (l.length-(Lib.compact l).length) (0:Int)),I64 x:=fun x hx=>by
   rcases List.mem_append.1 hx with hx | hx
   ·exact hr x (lW hx)
   ·obtain ⟨_,rfl⟩:=List.mem_replicate.1 hx;exact ⟨by omega,by omega⟩
  obtain ⟨o2,k2⟩:=vf (W:=W) (h':=w'.heap) rfl hg h1 h2 h3 hdl hb hrd n #[] (by rw [hw'])
  have o3:=Cg (n:=(Lib.compact l).length) (by rw [hdl];exact o2) (by simp)
  rw [List.take_left'  rfl] at o3
  exact ⟨_,rfl,⟨o3,k2,.inl rfl⟩,by rw [hw'];exact oe _ _ _ _ _⟩
theorem yw {W:View} {h:Heap} {e:TypeId} {v:Value} {l:List Int} (o:OwnT W h e v l):aD Try.prog N.slices_Reverse_int #[v] h (fun _ h'=>OwnT W h' e v l.reverse∧Kept h h' v.ownBlock):=by
 rintro w rfl
 obtain ⟨hb,hr,hown⟩:=ni.1 o
 rcases hown with ⟨rfl,rfl⟩ | ⟨g,cap,cur,rfl,hg,h1,h2,h3,h4⟩
 ·refine (Try.slices_Reverse_int_empty none 0 w).mono ?_
  rintro e' w' ⟨rfl,rfl⟩
  exact ⟨_,rfl,⟨o,Kept.refl _ _⟩,Same.refl _⟩
 ·refine (Try.slices_Reverse_int g 0 cap l w (pw (cap:=cap) hg (by omega) h4) (by omega)).mono ?_
  rintro e' w' ⟨rfl,n,hw⟩
  have hw':w'=Go.Sort.grow (Go.Sort.putRow (Value.int .i64) (Go.Sort.ahead w n) g 0 l.reverse.toArray) #[]:=by rw [hw];simp
  exact ⟨_,rfl,vf rfl hg h1 h2 h3 (by simp) hb (fun x hx=>hr x (by simpa using hx)) n #[] (by rw [hw']),by rw [hw'];exact oe _ _ _ _ _⟩
end Go.Proofs.Ytbkdlhkoiagbbaa
namespace Go.Proofs.Ytbkdlhkoiagbbaa
open Go Go.Lft
def lS (row:List Int) (n:Int) (i:Nat):Bool:=decide (0≤nth row i)&&decide (nth row i<n)
def jt (row:List Int) (n:Int):List Int:=Lib.compact (mq (sift (lS row n) (fun i=>nth row i) row.length))
theorem zA {row:List Int} {n:Int} {vr:Value} {h:Heap} (hr:SlRd (vw h) vr row) (hs:row.length≤1000000) :
  aD Try.prog N.ee #[vr,.int .i64 n] h (fun v h'=>∃ W,Mine nothing h h' W T.int v (jt row n)):=by
 refine ar (args:=[vr,.int .i64 n]) follows F.ee E.ee (Nat.le_of_ble_eq_true (by kernel_rfl)) fun K hK=>?_
 simp [L.ee,hr.len]
 refine aS [0,1,5,8,9,10] (fun (v:Value) k=>[vr,.int .i64 n,v,vr,.int .i64 row.length,.int .i64 k]) (fun v k h1=>Mine nothing h h1 nothing T.int v (sift (lS row n) (fun i=>nth row i) k)) row.length (.slice none 0 0)
  rfl (by omega) rfl (Mine.start (fun _ _ h=>by cases h)) (fun _ _=>rfl) (fun v k h1 hk m=>by simp) ?_ ?_
 ·intro v k h1 hlt m K2 hK2
  have hr1:=hr.mono m.old
  have hrange:=hr.range hlt
  have:=jo (p:=lS row n) (x:=fun i=>nth row i) k
  simp (disch:=omega) [hr1.idx1 rfl,hr1.int (View.le_refl _),ft,-Bool.and_eq_true,-Bool.and_eq_false_imp]
  refine ⟨fun he=>?_,fun he=>hK2 v _ _ rfl rfl (by rw [jW (show lS row n k=false from he)];exact m)⟩
  refine m.push El.bc (by simp<;>rfl) (oA hrange.1 hrange.2) (by omega) (by omega) (fun _=>by simp) (fun _=>by simp) fun u v' h3 m'=>hK2 v' _ _ rfl rfl (by rw [kP (show lS row n k=true from he)];exact m')
 ·intro v h1 m
  simp
  refine ae (by kernel_rfl) (Dk m.own) ?_
  rintro _ h2 ⟨o2,k2⟩
  have m2:=m.lM o2 ⟨k2,.inl rfl⟩
  try simp
  refine ae (by kernel_rfl) (yj m2.own) ?_
  rintro v3 h3 ⟨o3,k3⟩
  have m3:=m2.lM o3 k3
  try simp
  exact hK _ _ ⟨_,m3⟩
def bZ (g:Gr):Gr:=rows (fun a=>jt (nth g a) g.length) g.length
def Sm (g:Gr):Prop:=g.length≤1000000∧∀ i,i<g.length→(nth g i).length≤1000000
theorem B6 {α:Type} [Rep α] {W:View}:Rep.rd W (Value.slice none 0 0).cells.toList ([]:List α):=⟨.slice none 0 0,rfl,none,0,rfl,by simp,by simp,.inl rfl⟩
theorem sj {g:Gr} {vg:Value} {h:Heap} (hg:SlRd (vw h) vg g) (hs:Sm g) :
  aD Try.prog N.dC #[vg] h (fun v h'=>∃ W,Mine nothing h h' W T.bc v (bZ g)):=by
 refine ar (args:=[vg]) follows F.dC E.dC (Nat.le_of_ble_eq_true (by kernel_rfl)) fun K hK=>?_
 have hs1:=hs.1
 simp [L.dC,hg.len]
 refine Mine.made (α:=List Int) (V:=nothing) (W:=nothing) (h0:=h) (n:=g.length) (d:=[]) El.cH (View.le_refl _) (fun _ _ h=>by cases h) (Old.nothing _ _) (by simp<;>rfl) (by simp<;>rfl) B6 (by omega) (by omega) fun v h1 m _ _=>?_
 refine aS [0,3,9,10,11] (fun (_:View) k=>[vg,v,vg,.int .i64 g.length,.int .i64 k]) (fun W k h2=>Mine nothing h h2 W T.bc v (rows (fun a=>jt (nth g a) g.length) k++List.replicate (g.length-k) [])) g.length nothing
  rfl (by omega) rfl m (fun _ _=>rfl) (fun v k h1 hk m=>by simp) ?_ ?_
 ·intro W a h2 hlta m K2 hK2
  have hg2:=hg.mono m.old
  obtain ⟨rv,hrv⟩:=hg2.rows
  obtain ⟨cv,rr⟩:=hrv a hlta
  have hl5:(rows (fun a=>jt (nth g a) g.length) a++List.replicate (g.length-a) ([]:List Int)).length=g.length:=by simp;omega
  simp (disch:=omega) [hg2.idx1 rfl,cv _ (View.le_refl _),hg.len]
  refine ae (by kernel_rfl) (zA rr (hs.2 a hlta)) ?_
  rintro r h3 ⟨W',mr⟩
  have m3:=m.ext mr.old
  have hr:=mr.fresh.mono (gk W _ _)
  simp (disch:=omega) [m3.now.idx1 rfl]
  refine m3.put1 (α:=List Int) (i:=a) (by kernel_rfl) rfl (by simp) (by simp<;>rfl) (by omega) (gm.2 hr) fun h4 m4=>hK2 (grow W h2 h3) _ _ rfl rfl ?_
  rw [jO (x:=fun a=>jt (nth g a) g.length) hlta] at m4
  exact m4
 ·intro W h2 m
  simp at m
  simp
  exact hK _ _ ⟨_,m⟩
theorem qU {l:List Int} {x:Int} {v:Value} {h:Heap} {b:Addr} (hl:SlRd (vw h) v l) (hb:an (vw h) b=some v) :
  aD Try.prog N.b8 #[.int .i64 x,.pointer (some b)] h (fun u h'=>u = .bool (decide (0≤x)&&decide (x<l.length))∧h'=h):=by
 refine ar (args:=[.int .i64 x,.pointer (some b)]) follows F.b8 E.b8 (Nat.le_of_ble_eq_true (by kernel_rfl)) fun K hK=>?_
 simp [L.b8,hb,hl.len]
 exact hK _ _ ⟨rfl,rfl⟩
theorem lH {l:List Int} {a b:Int} {v:Value} {h:Heap} (hl:SlRd (vw h) v l) :
  aD Try.prog N.cj #[v,.int .i64 a,.int .i64 b] h (fun u h'=>u = .bool (da l a b)∧(vw h).le (vw h')):=by
 refine ar (args:=[v,.int .i64 a,.int .i64 b]) follows F.cj E.cj (Nat.le_of_ble_eq_true (by kernel_rfl)) fun K hK=>?_
 have bl:=hl.bound
 simp [L.cj]
 refine ln (v:=v) (by simp) ?_
 have hvc:v.cells = #[v]:=by obtain ⟨_,_,rfl,_⟩:=hl;rfl
 rw [hvc]
 have hle:=bK h (.cells #[v] T.bc)
 have hl:=hl.mono hle
 have hb:an (vw (h.push (.cells #[v] T.bc))) ⟨h.size,0,none⟩=some v:=by simp [an,vw]
 generalize h.push (.cells #[v] T.bc)=h1 at hle hl hb
 generalize h.size=B at hb
 refine ir (ops:=[.tmp 10]) rfl (by kernel_rfl) (by simpa using qU (x:=a) hl hb) ?_
 rintro _ _ ⟨rfl,rfl⟩
 cases ha:decide (0≤a)&&decide (a<l.length) with
 | false=>
  have hsp:da l a b=false:=by
   simp only [Bool.and_eq_false_iff,decide_eq_false_iff_not] at ha
   simp [da];intros;omega
  rw [hsp] at hK
  simp [grdP]
  exact hK _ _ ⟨rfl,hle⟩
 | true=>
  simp only [Bool.and_eq_true,decide_eq_true_eq] at ha
  simp [grdP]
  refine ir (ops:=[.tmp 15]) rfl (by kernel_rfl) (by simpa using qU (x:=b) hl hb) ?_
  rintro _ _ ⟨rfl,rfl⟩
  cases hbb:decide (0≤b)&&decide (b<l.length) with
  | false=>
   have hsp:da l a b=false:=by
    simp only [Bool.and_eq_false_iff,decide_eq_false_iff_not] at hbb
    simp [da];intros;omega
   rw [hsp] at hK
   simp
   exact hK _ _ ⟨rfl,hle⟩
  | true=>
   simp only [Bool.and_eq_true,decide_eq_true_eq] at hbb
   have hsp:da l a b=mz l a (l.length+1) b:=by simp [da,ha,hbb]
   rw [hsp] at hK
   simp (disch:=omega) [hb,hl.len]
   refine aS [1,2,3,6,7,21,22] (fun (c:Int) k=>[.int .i64 a,.int .i64 c,.pointer (some ⟨B,0,none⟩),.bool false,.func (.func N.b8) #[] #[.pointer (some ⟨B,0,none⟩)],.int .i64 ((l.length:Int)+1),.int .i64 k])
    (fun c k h2=>h2=_∧mz l a (l.length+1-k) c=mz l a (l.length+1) b) (l.length+1) b
    rfl (by omega) rfl ⟨rfl,rfl⟩ (fun _ _=>rfl) (fun v k h1 hk m=>by simp) ?_ ?_
   ·rintro c k h2 hlt ⟨rfl,hch⟩ K2 hK2
    have hfu:l.length+1-k=(l.length-k)+1:=by omega
    rw [hfu,mz] at hch
    simp
    refine ⟨fun he=>hK _ _ ⟨by rw [←hch,if_pos he.symm],hle⟩,fun he=>?_⟩
    rw [if_neg (fun e=>he e.symm)] at hch
    refine ir (ops:=[.tmp 28]) rfl (by kernel_rfl) (by simpa using qU (x:=c) hl hb) ?_
    rintro _ _ ⟨rfl,rfl⟩
    cases hc:decide (0≤c)&&decide (c<l.length) with
    | false=>
     simp only [Bool.and_eq_false_iff,decide_eq_false_iff_not] at hc
     simp
     exact hK _ _ ⟨by rw [←hch,if_pos (by omega)],hle⟩
    | true=>
     simp only [Bool.and_eq_true,decide_eq_true_eq] at hc
     rw [if_neg (by omega)] at hch
     simp (disch:=omega) [hb,hl.idx1 rfl,hl.int (View.le_refl _)]
     refine hK2 (nth l c.toNat) _ _ rfl rfl ⟨rfl,?_⟩
     rw [←hch];congr 1;omega
   ·rintro c h2 ⟨rfl,hch⟩
    rw [Nat.sub_self,mz] at hch
    simp
    exact hK _ _ ⟨by rw [←hch],hle⟩
end Go.Proofs.Ytbkdlhkoiagbbaa
namespace Go.Proofs.Ytbkdlhkoiagbbaa
open Go Go.Lft
def jd (idom number:List Int):Nat→Int→Int→Option Int
 | 0,_,_=>none
 | n+1,a,b=>
  if 0≤a∧a<number.length∧a<idom.length∧0≤b∧b<number.length∧b<idom.length then
   if nth number b.toNat<nth number a.toNat then jd idom number n (nth idom a.toNat) b
   else if nth number a.toNat<nth number b.toNat then jd idom number n a (nth idom b.toNat)
   else some a
  else none
theorem sW {idom number:List Int} {vi vn:Value} {h:Heap} {r:Int} (hi:SlRd (vw h) vi idom) (hn:SlRd (vw h) vn number) {n:Nat} {a b:Int} (hc:jd idom number n a b=some r) :
  aD Try.prog N.cU #[vi,vn,.int .i64 a,.int .i64 b] h (fun u h'=>u = .int .i64 r∧h'=h):=by
 refine ar (args:=[vi,vn,.int .i64 a,.int .i64 b]) follows F.cU E.cU (Nat.le_of_ble_eq_true (by kernel_rfl)) fun K hK=>?_
 simp [L.cU]
 refine gP [0,1,2,3] (fun m ρ h'=>∃ (c d:Int),ρ=[(0,vi),(1,vn),(2,.int .i64 c),(3,.int .i64 d)]∧h'=h∧jd idom number m c d=some r) n ⟨a,b,rfl,rfl,hc⟩ ?_
 rintro m ρ h' ⟨c,d,rfl,rfl,hc⟩ K2 hK2
 cases m with
 | zero=>cases hc
 | succ m=>
  rw [jd] at hc
  split at hc
  case isFalse=>cases hc
  rename_i hr
  obtain ⟨r1,r2,r3,r4,r5,r6⟩:=hr
  simp (disch:=omega) [L.cU.l1,hn.idx1 rfl,hn.int (View.le_refl _)]
  refine ⟨fun h1=>?_,fun h1=>?_⟩
  ·rw [if_pos h1] at hc
   simp (disch:=omega) [hi.idx1 rfl,hi.int (View.le_refl _)]
   exact hK2 m _ _ (by omega) ⟨_,_,rfl,rfl,hc⟩
  ·rw [if_neg (by omega)] at hc
   refine ⟨fun h2=>?_,fun h2=>?_⟩
   ·rw [if_pos h2] at hc
    simp (disch:=omega) [hi.idx1 rfl,hi.int (View.le_refl _)]
    exact hK2 m _ _ (by omega) ⟨_,_,rfl,rfl,hc⟩
   ·rw [if_neg (by omega)] at hc
    cases hc
    exact hK _ _ ⟨rfl,rfl⟩
end Go.Proofs.Ytbkdlhkoiagbbaa
namespace Go.Proofs.Ytbkdlhkoiagbbaa
open Go Go.Lft
structure Wo (W:View) (h:Heap) (B:Nat) (vt vl:Value) (s:List Bool × List Int):Prop where
 wle:W.le (vw h)
 box:h[B]? = some (.cells #[vl] T.bc (0,0))
 wB:W B=none
 avt:Av W vt
 avl:Av W vl
 nt:vt.ownBlock≠some B
 nl:vl.ownBlock≠some B
 ne:vl.ownBlock=none∨vl.ownBlock≠vt.ownBlock
 ot:OwnT nothing h T.bool vt s.1
 ol:OwnT nothing h T.int vl s.2
 nn:vt.ownBlock=none∨vt.ownBlock≠vl.ownBlock
theorem Wo.lt {W:View} {h:Heap} {B:Nat} {vt vl:Value} {s:List Bool × List Int} (k:Wo W h B vt vl s):B<h.size:=(Array.getElem?_eq_some_iff.1 k.box).1
theorem Wo.ext {W:View} {h h':Heap} {B:Nat} {vt vl:Value} {s:List Bool × List Int} (k:Wo W h B vt vl s) (hle:(vw h).le (vw h')):Wo W h' B vt vl s:=
 {k with wle:=View.le_trans k.wle hle,box:=hle _ _ k.box,ot:=k.ot.ext hle,ol:=k.ol.ext hle }
theorem Wo.grow {W:View} {h h':Heap} {B:Nat} {vt vl:Value} {s:List Bool × List Int} (k:Wo W h B vt vl s) (hle:(vw h).le (vw h')):Wo (grow W h h') h' B vt vl s:=
 {k.ext hle with
  wle:=ko (View.le_trans k.wle hle)
  wB:=by unfold Lft.grow;rw [if_pos k.lt];exact k.wB
  avt:=k.avt.grow fun _ hb=>k.ot.lt hb
  avl:=k.avl.grow fun _ hb=>k.ol.lt hb }
theorem Wo.flag {W:View} {h h':Heap} {B:Nat} {vt vl:Value} {s:List Bool × List Int} {t':List Bool} (k:Wo W h B vt vl s) (o:OwnT nothing h' T.bool vt t') (m:jw h h' vt vt):Wo W h' B vt vl (t',s.2):=
 {k with
  wle:=(m.view k.wle k.avt).1
  box:=by rw [m.kept.block B k.lt (fun e=>k.nt e.symm)];exact k.box
  ot:=o
  ol:=k.ol.kept m.kept k.ne }
theorem Wo.yr {W:View} {h h' h'':Heap} {B:Nat} {vt vl vl':Value} {s:List Bool × List Int} {l':List Int} (k:Wo W h B vt vl s) (o:OwnT nothing h' T.int vl' l') (m:jw h h' vl vl') (hsz:h''.size=h'.size)
  (hB:h''[B]? = some (.cells #[vl'] T.bc (0,0))) (hoth : ∀ j,j≠B→h''[j]? = h'[j]?):Wo W h'' B vt vl' (s.1,l'):=by
 obtain ⟨hw',ha'⟩:=m.view k.wle k.avl
 have hlt:=k.lt
 have nl':vl'.ownBlock≠some B:=by
  rcases m.at_ with e | e
  ·rw [e];exact k.nl
  ·rw [e];intro e2;cases e2;omega
 have kep:Kept h' h'' (some B):=⟨by omega,fun j _ hj=>hoth j (fun e=>hj (by rw [e]))⟩
 refine ⟨fun b x hb=>?_,hB,k.wB,k.avt,ha',k.nt,nl',?_,?_,?_,?_⟩
 ·have hne:b≠B:=fun e=>by rw [e,k.wB] at hb;cases hb
  show h''[b]? = _
  rw [hoth b hne];exact hw' b x hb
 ·rcases m.at_ with e | e
  ·rw [e];exact k.ne
  ·right;rw [e];intro e2;have:=k.ot.lt e2.symm;omega
 ·exact (k.ot.kept m.kept k.nn).kept kep (.inr k.nt)
 ·exact o.kept kep (.inr nl')
 ·rcases m.at_ with e | e
  ·rw [e];exact k.nn
  ·right;rw [e];intro e2;have:=k.ot.lt e2;omega
theorem Wo.cell {W:View} {h:Heap} {B:Nat} {vt vl:Value} {s:List Bool × List Int} (k:Wo W h B vt vl s):an (vw h) ⟨B,0,none⟩=some vl:=by
 simp [an,vw,k.box]
def nx (rows:Gr) (a:Int):List Int:=nth rows a.toNat
theorem xD {rows:Gr} {vr:Value} {Tp R O:Addr} {B:Nat} (hs:rows.length≤1000000) (hin : ∀ i,i<rows.length→∀ j,j<(nth rows i).length→0≤nth (nth rows i) j∧nth (nth rows i) j<rows.length) : ∀ (n:Nat) {M:Nat} {W:View} {h:Heap} {vt vl:Value} {s:List Bool × List Int} {a:Int},Wo W h B vt vl s→SlRd W vr rows→
  an W Tp=some vt→an W R=some vr→an W O=some (.func (.func N.bF) #[] #[.pointer (some Tp),.pointer (some R),.pointer (some O),.pointer (some ⟨B,0,none⟩)])→0≤a→a<rows.length→s.1.length=rows.length→nth s.1 a.toNat=false→
  cG s.1≤n→s.2.length+cG s.1≤M→M≤1000000→
  aD Try.prog N.bF #[.int .i64 a,.pointer (some Tp),.pointer (some R),.pointer (some O),.pointer (some ⟨B,0,none⟩)] h (fun _ h'=>∃ vl',Wo W h' B vt vl' (hZ (nx rows) n a s)∧(hZ (nx rows) n a s).2.length+cG (hZ (nx rows) n a s).1≤M)
 | 0,M,W,h,vt,vl,s,a,k,hg,hT,hR,hO,h0,h1,hl,hf,hc,hb,hM=>by
  exfalso
  have:=gW (t:=s.1) (i:=a.toNat) (by omega) hf
  omega
 | n+1,M,W,h,vt,vl,(t,l),a,k,hg,hT,hR,hO,h0,h1,hl,hf,hc,hb,hM=>by
  obtain ⟨i,rfl⟩:=Int.eq_ofNat_of_zero_le h0
  simp only at hl hf hc hb
  have hfs:=gW (t:=t) (i:=i) (by omega) (by simpa using hf)
  refine ar (args:=[.int .i64 i,.pointer (some Tp),.pointer (some R),.pointer (some O),.pointer (some ⟨B,0,none⟩)]) follows F.bF E.bF (Nat.le_of_ble_eq_true (by kernel_rfl)) fun K hK=>?_
  have hnow:SlRd (vw h) vt t:=k.ot.now (fun _ _ h=>by cases h)
  simp (disch:=omega) [L.bF,ag k.wle hT,hnow.idx1 rfl]
  refine pF (W:=nothing) (i:=i) (d:=true) (by kernel_rfl) (by simp [show Rep.n Bool=1 from rfl]) (by simp<;>rfl) k.ot (by simpa using by omega) Fx fun h2 o2 m2=>?_
  have k2:=k.flag o2 m2
  have hg2:=hg.mono k2.wle
  obtain ⟨rv,hrv⟩:=hg.rows
  obtain ⟨cv,rr⟩:=hrv i (by omega)
  have br:=rr.bound
  have hov:hZ (nx rows) (n+1) i (t,l)=((up (bT (nx rows) n i) (nx rows i).length (t.set i true,l)).1,(up (bT (nx rows) n i) (nx rows i).length (t.set i true,l)).2++[(i:Int)]):=iS
  rw [hov] at hK
  have hnx:nx rows i=nth rows i:=rfl
  rw [hnx] at hK
  simp (disch:=omega) [ag k2.wle hR,hg2.idx1 rfl,cv _ k2.wle,rr.len]
  refine aS [0,1,2,3,4,14,15,16] (fun (_:Value) j=>[.int .i64 i,.pointer (some Tp),.pointer (some R),.pointer (some O),.pointer (some ⟨B,0,none⟩),rv i,.int .i64 (nth rows i).length,.int .i64 j]) (fun vl j h4=>Wo W h4 B vt vl (up (bT (nx rows) n i) j (t.set i true,l))∧(up (bT (nx rows) n i) j (t.set i true,l)).2.length+cG (up (bT (nx rows) n i) j (t.set i true,l)).1≤M-1) (nth rows i).length vl
   rfl (by omega) rfl ⟨k2,by simp [up];omega⟩ (fun _ _=>rfl) (fun v j h4 hk m=>by simp) ?_ ?_
  ·rintro vl j h4 hltj ⟨k4,hb4⟩ K2 hK2
   have hinv:=pV (fun s:List Bool × List Int=>s.1.length=rows.length∧cG s.1≤n) (f:=bT (nx rows) n i) (fun k x hx=>by
    unfold bT;split
    ·exact hx
    ·exact mc n _ x hx) j (t.set i true,l) ⟨by simpa using hl,by simp only;omega⟩
   generalize hx:up (bT (nx rows) n i) j (t.set i true,l)=x at k4 hb4 hinv
   obtain ⟨e0,e1⟩:=hin i (by omega) j hltj
   have hr4:=rr.mono k4.wle
   have hnow4:=k4.ot.now (fun _ _ h=>by cases h)
   simp (disch:=omega) [ag k4.wle hT,hr4.idx1 rfl,hr4.int (View.le_refl _),hnow4.idx1 rfl,hnow4.bool (View.le_refl _),ft]
   refine ⟨fun he=>?_,fun he=>hK2 vl _ _ rfl rfl ?_⟩
   ·simp [ag k4.wle hO]
    refine ir (ops:=[.tmp 26]) rfl (by kernel_rfl) (by simpa using xD hs hin n k4 hg hT hR hO e0 e1 hinv.1 he hinv.2 hb4 (by omega)) ?_
    rintro _ h5 ⟨⟨vl',k5⟩,hb5⟩
    have hst:up (bT (nx rows) n i) (j+1) (t.set i true,l)=hZ (nx rows) n (nth (nth rows i) j) x:=by rw [up,hx,bT,show nx rows i=nth rows i from rfl,he];rfl
    refine hK2 vl' _ _ rfl rfl ?_
    rw [hst]
    exact ⟨k5,hb5⟩
   ·have hst:up (bT (nx rows) n i) (j+1) (t.set i true,l)=x:=by rw [up,hx,bT,show nx rows i=nth rows i from rfl,he];rfl
    rw [hst];exact ⟨k4,hb4⟩
  ·rintro vl h4 ⟨k4,hb4⟩
   generalize hx:up (bT (nx rows) n i) (nth rows i).length (t.set i true,l)=x at k4 hb4 hK
   simp [k4.cell]
   refine jM (α:=Int) (W:=nothing) El.bc (by simp<;>rfl) (oA (by omega) (by omega)) fun u h5 hsrc hle5 _=>?_
   have k5:=k4.ext hle5
   refine dz El.bc (by simp) (by simp) k5.ol hsrc (by simp;omega) (by simp;omega) fun vl' h6 o6 m6=>?_
   have hB6:h6[B]? = some (.cells #[vl] T.bc (0,0)):=by rw [m6.kept.block B k5.lt (fun e=>k5.nl e.symm)];exact k5.box
   obtain ⟨hcells,hone⟩:=jB o6
   refine dE (g:=B) (o:=0) (n:=1) (v:=vl') (by kernel_rfl) (by simp) (by simp) (by rw [hcells];rfl) (by rw [hcells];simpa using hone) hB6 (by simp) fun h7 hsz7 ⟨row,hrow,he⟩ hoth=>hK _ _ ⟨vl',?_,?_⟩
   ·have hrow2:row = #[vl']:=by rw [←Array.toList_inj,he,hcells];rfl
    rw [hrow2] at hrow
    exact k5.yr o6 m6 hsz7 hrow hoth
   ·simp;omega
end Go.Proofs.Ytbkdlhkoiagbbaa
namespace Go.Proofs.Ytbkdlhkoiagbbaa
open Go Go.Lft
def aZ (g:Gr):List Int:=jr (nx (bZ g)) g.length
theorem fj {g:Gr}:(bZ g).length=g.length:=by simp [bZ]
theorem pZ {g:Gr} : ∀ i,i<(bZ g).length→∀ j,j<(nth (bZ g) i).length→0≤nth (nth (bZ g) i) j∧nth (nth (bZ g) i) j<(bZ g).length:=by
 intro i hi j hj
 rw [fj] at hi
 have hm:=bQ hj
 rw [bZ,dD hi,jt] at hm
 have h2:=lW hm
 rw [mq,List.mem_mergeSort,lD] at h2
 simp only [List.mem_map,List.mem_filter,List.mem_range,lS,Bool.and_eq_true,decide_eq_true_eq] at h2
 obtain ⟨k,⟨_,h3⟩,h4⟩:=h2
 rw [fj]
 have e:nth (nth (bZ g) i) j=nth (nth g i) k:=by rw [bZ,dD hi,jt,h4,mq,lD]
 rw [e];exact h3
theorem vZ {g:Gr} {vg:Value} {h:Heap} (hg:SlRd (vw h) vg g) (hs:Sm g) :
  aD Try.prog N.ez #[vg] h (fun v h'=>(vw h).le (vw h')∧SlRd (fresh h h') v (aZ g)):=by
 refine ar (args:=[vg]) follows F.ez E.ez (Nat.le_of_ble_eq_true (by kernel_rfl)) fun K hK=>?_
 have hs1:=hs.1
 simp [L.ez,hg.len]
 refine ⟨fun h0=>?_,fun h0=>?_⟩
 ·exact hK _ _ ⟨View.le_refl _,⟨none,0,by simp [aZ,jr,h0],by simp [aZ,jr,h0],by simp [aZ,jr,h0],.inl (by simp [aZ,jr,h0])⟩⟩
 ·refine ae (by kernel_rfl) (sj hg hs) ?_
  rintro vr h1 ⟨W1,m1⟩
  have hvr:=m1.now
  obtain ⟨hrc,hro⟩:=jB m1.own
  refine pX (z:=.slice none 0 0) (by kernel_rfl) rfl (by kernel_rfl) hrc hro (fun _=>by simp) (fun _=>by simp) fun h2 hle2 hsz2 hR2=>?_
  refine ll (W:=nothing) (n:=g.length) (d:=false) El.lj (by simp<;>rfl) (by simp<;>rfl) rfl (by omega) (by omega) fun vt h3 o3 m3 hle3 hb3=>?_
  obtain ⟨htc,hto⟩:=jB o3
  refine pX (z:=.slice none 0 0) (by kernel_rfl) rfl (by kernel_rfl) htc hto (fun _=>by simp) (fun _=>by simp) fun h4 hle4 hsz4 hT4=>?_
  refine eA (z:=.slice none 0 0) (by kernel_rfl) ?_
  refine eA (z:=.nilFunc) (by kernel_rfl) ?_
  have hsz3:h2.size<h3.size:=o3.lt hb3
  have hle6:(vw h4).le (vw ((h4.push (.cells (Value.slice none 0 0).cells T.bc)).push (.cells Value.nilFunc.cells T.xI))):=View.le_trans (bK _ _) (bK _ _)
  refine dE (g:=h4.size+1) (o:=0) (n:=1) (e:=T.xI) (cur:=#[.nilFunc]) (v:=.func (.func N.bF) #[] #[.pointer (some ⟨h3.size,0,none⟩),.pointer (some ⟨h1.size,0,none⟩),.pointer (some ⟨h4.size+1,0,none⟩),.pointer (some ⟨h4.size,0,none⟩)]) (by kernel_rfl) (by simp) (by simp) rfl (by simp [Value.cells,Value.oneCell']) (by rw [show h4.size+1=(h4.push (.cells (Value.slice none 0 0).cells T.bc)).size by simp];exact Array.getElem?_push_size) (by simp) fun h7 hsz7 ⟨row,hrow,he⟩ hoth=>?_
  have hrow2:row = #[.func (.func N.bF) #[] #[.pointer (some ⟨h3.size,0,none⟩),.pointer (some ⟨h1.size,0,none⟩),.pointer (some ⟨h4.size+1,0,none⟩),.pointer (some ⟨h4.size,0,none⟩)]]:=by rw [←Array.toList_inj,he];rfl
  rw [hrow2] at hrow
  have hle7:(vw h4).le (vw h7):=fun b o hb=>by
   have hlt:=View.lt (View.le_refl (vw h4)) hb
   show h7[b]? = _
   rw [hoth b (by omega)]
   exact hle6 b o hb
  have hL7:h7[h4.size]? = some (.cells #[.slice none 0 0] T.bc (0,0)):=by
   rw [hoth _ (by omega),Array.getElem?_push,if_neg (by simp),Array.getElem?_push_size];rfl
  have hle27:=View.le_trans hle3 (View.le_trans hle4 hle7)
  have hle17:=View.le_trans hle2 hle27
  obtain ⟨W,hW⟩ : ∃ W:View,W=fun b=>if b=h2.size∨b=h4.size then none else h7[b]?:=⟨_,rfl⟩
  have hWle:W.le (vw h7):=by
   intro b o hb
   rw [hW] at hb
   simp only at hb
   split at hb
   ·cases hb
   ·exact hb
  have hW1:(vw h1).le W:=fun b o hb=>by
   have hlt:=View.lt (View.le_refl (vw h1)) hb
   rw [hW];simp only
   rw [if_neg (by omega)]
   exact hle17 b o hb
  have k7:Wo W h7 h4.size vt (.slice none 0 0) (List.replicate g.length false,[]):=
   ⟨hWle,hL7,by rw [hW];simp,fun b hb=>by rw [hb3] at hb;cases hb;rw [hW];simp,Av.nil _ _ _,by rw [hb3];intro e;simp only [Option.some.injEq] at e;omega,by simp [Value.ownBlock],.inl rfl,
    (o3.ext hle4).ext hle7,OwnT.nil ..,.inr (by rw [hb3];simp [Value.ownBlock])⟩
  have hT:an W ⟨h3.size,0,none⟩=some vt:=by
   have h5:W h3.size=some (.cells #[vt] T.lj (0,0)):=by rw [hW];simp only;rw [if_neg (by omega)];exact hle7 _ _ hT4
   simp [an,h5]
  have hR:an W ⟨h1.size,0,none⟩=some vr:=by
   have h5:W h1.size=some (.cells #[vr] T.cH (0,0)):=by rw [hW];simp only;rw [if_neg (by omega)];exact hle27 _ _ hR2
   simp [an,h5]
  have hO:an W ⟨h4.size+1,0,none⟩=some (.func (.func N.bF) #[] #[.pointer (some ⟨h3.size,0,none⟩),.pointer (some ⟨h1.size,0,none⟩),.pointer (some ⟨h4.size+1,0,none⟩),.pointer (some ⟨h4.size,0,none⟩)]):=by
   have h5:W (h4.size+1)=h7[h4.size+1]?:=by rw [hW];simp only;rw [if_neg (by omega)]
   rw [hrow] at h5
   simp [an,h5]
  have hvrW:=hvr.mono hW1
  have hlen:g.length≠0:=by simpa using h0
  have hcl:=fj (g:=g)
  have hfa:cG (List.replicate g.length false)=g.length:=by simp [cG]
  simp [ag hWle hO]
  refine ir (ops:=[.const (.int .i64 0)]) (f:=N.bF) (caps:=#[.pointer (some ⟨h3.size,0,none⟩),.pointer (some ⟨h1.size,0,none⟩),.pointer (some ⟨h4.size+1,0,none⟩),.pointer (some ⟨h4.size,0,none⟩)]) (by simp) (by kernel_rfl)
   (by simpa using xD (by omega) pZ g.length (M:=g.length) k7 hvrW hT hR hO (a:=0) (by omega) (by omega) (by simp [hcl]) (by rw [ak (by simp;omega)];simp) (by rw [hfa];exact Nat.le_refl _) (by simp [hfa]) (by omega)) ?_
  rintro _ h8 ⟨⟨vl,k8⟩,hb8⟩
  have hord:aZ g=(hZ (nx (bZ g)) g.length 0 (List.replicate g.length false,[])).2.reverse:=by simp [aZ,jr,h0]
  rw [hord] at hK
  generalize hZ (nx (bZ g)) g.length 0 (List.replicate g.length false,[])=s at k8 hb8 hK
  simp [k8.cell]
  refine ae (by kernel_rfl) (yw k8.ol) ?_
  rintro _ h9 ⟨o9,k9⟩
  have hB9:h9[h4.size]? = some (.cells #[vl] T.bc (0,0)):=by rw [k9.block _ k8.lt (fun e=>k8.nl e.symm)];exact k8.box
  have hc9:an (vw h9) ⟨h4.size,0,none⟩=some vl:=by simp [an,vw,hB9]
  have hW9:=k9.view k8.wle k8.avl
  have hle9:(vw h).le (vw h9):=View.le_trans (View.le_trans m1.old hW1) hW9
  have hav:Av (vw h) vl:=fun b hb=>by
   cases hx:vw h b with
   | none=>rfl
   | some o=>have:=(View.le_trans m1.old hW1) _ _ hx;rw [k8.avl b hb] at this;cases this
  simp [hc9]
  exact hK _ _ ⟨hle9,o9.fresh (fun _ _ h=>by cases h) hav⟩
end Go.Proofs.Ytbkdlhkoiagbbaa
namespace Go.Proofs.Ytbkdlhkoiagbbaa
open Go Go.Lft
def fW (f:Nat→List Int) (n:Nat):List (Int × Int):=(List.range n).flatMap fun a=>(f a).map fun b=>((a:Int),b)
theorem fl {f:Nat→List Int} {n:Nat}:fW f (n+1)=fW f n++(f n).map fun b=>((n:Int),b):=by simp [fW,List.range_succ]
theorem Ab {f:Nat→List Int} {n m:Nat} (h:n≤m) : ∃ t,fW f m=fW f n++t:=by
 induction m with
 | zero=>exact ⟨[],by simp [show n=0 by omega]⟩
 | succ m ih=>
  rcases Nat.lt_or_ge n (m+1) with h1 | h1
  ·obtain ⟨t,ht⟩:=ih (by omega)
   exact ⟨t++(f m).map fun b=>((m:Int),b),by rw [fl,ht,List.append_assoc]⟩
  ·exact ⟨[],by simp [show n=m+1 by omega]⟩
theorem Al {f:Nat→List Int} {n a j:Nat} (ha:a<n) (hj:j<(f a).length):(fW f n)[(fW f a).length+j]? = some ((a:Int),nth (f a) j):=by
 obtain ⟨t,ht⟩:=Ab (f:=f) (n:=a+1) (m:=n) (by omega)
 rw [ht,fl,List.append_assoc,List.getElem?_append_right (by omega),Nat.add_sub_cancel_left,List.getElem?_append_left (by simpa using hj)]
 simp [ak hj,hj]
def dY (g:Gr):List (Int × Int):=fW (fun a=>nth (bZ g) a) g.length
def xc (e:Int × Int):List Value:=[.int .i64 e.1,.int .i64 e.2]
def uz (g:Gr):List (List Value):=(dY g).map xc
theorem xj {vg:Value} {h:Heap} :
  aD Try.prog N.eG #[vg] h (fun v h'=>v = .func (.func N.bE) #[] #[.pointer (some ⟨h.size,0,none⟩)]∧h'=h.push (.cells vg.cells T.cH)):=by
 refine ar (args:=[vg]) follows F.eG E.eG (Nat.le_of_ble_eq_true (by kernel_rfl)) fun K hK=>?_
 simp [L.eG]
 refine ln rfl ?_
 simp
 exact hK _ _ ⟨rfl,rfl⟩
theorem qy {g:Gr} {vg:Value} {V:View} {p:Addr} (hg:SlRd V vg g) (hp:an V p=some vg) (hs:Sm g):Iter Try.prog N.bE [.pointer (some p)] V (uz g):=by
 intro l J W h hM hV hVl h0 hround
 have hW:=(hM true 0).le h0
 refine ar (args:=[.func (.yield l) #[] #[],.pointer (some p)]) follows F.bE E.bE (Nat.le_of_ble_eq_true (by kernel_rfl)) fun K hK=>?_
 simp [L.bE,ag (View.le_trans hV hW) hp]
 refine ae (by kernel_rfl) (sj (hg.mono (View.le_trans hV hW)) hs) ?_
 rintro vr h1 ⟨W1,m1⟩
 have hJ1:=(hM true 0).grown h0 (Nat.le_refl _) m1.old
 have hr1:=m1.fresh.mono (gk W h h1)
 have hag : ∀ b,b<h.size→grow W h h1 b=W b:=fun b hb=>nz hb
 generalize grow W h h1=W2 at hJ1 hr1 hag
 have hlen:=hr1.bound
 have hcl:=fj (g:=g)
 obtain ⟨rv,hrv⟩:=hr1.rows
 simp [hr1.len]
 have hall : ∀ {a j:Nat},a<(bZ g).length→j<(nth (bZ g) a).length→(uz g)[(fW (fun a=>nth (bZ g) a) a).length+j]? = some [.int .i64 a,.int .i64 (nth (nth (bZ g) a) j)]:=by
  intro a j ha hj
  rw [uz,List.getElem?_map,dY,Al (f:=fun a=>nth (bZ g) a) (by omega) hj];rfl
 refine aS [0,8,9,10] (fun (_:Unit) k=>[.func (.yield l) #[] #[],vr,.int .i64 (bZ g).length,.int .i64 k]) (fun _ k h2=>J true (fW (fun a=>nth (bZ g) a) k).length W2 h2) (bZ g).length ()
  rfl (by omega) rfl hJ1 (fun _ _=>rfl) (fun v k h1 hk m=>by simp) ?_ ?_
 ·intro _ a h2 hlt hJ2 K2 hK2
  have hW2:=(hM _ _).le hJ2
  obtain ⟨cv,rr⟩:=hrv a hlt
  have br:=rr.bound
  simp (disch:=omega) [hr1.idx1 rfl,cv _ hW2,rr.len]
  refine aS [0,8,9,10,3,15,16,17] (fun (_:Unit) j=>[.func (.yield l) #[] #[],vr,.int .i64 (bZ g).length,.int .i64 a,.int .i64 a,rv a,.int .i64 (nth (bZ g) a).length,.int .i64 j])
   (fun _ j h3=>J true ((fW (fun a=>nth (bZ g) a) a).length+j) W2 h3) (nth (bZ g) a).length () rfl (by omega) rfl hJ2 (fun _ _=>rfl) (fun v k h1 hk m=>by simp) ?_ ?_
  ·intro _ j h3 hlt3 hJ3 K3 hK3
   have hW3:=(hM _ _).le hJ3
   simp (disch:=omega) [rr.idx1 rfl,rr.int hW3]
   refine CW (ops:=[.tmp 22,.tmp 23]) rfl (by simpa using hround _ _ W2 h3 hag (hall hlt hlt3) hJ3) ?_
   rintro b h4 ⟨W4,e1,e2,hJ4⟩
   cases b with
   | true=>
    obtain rfl:=e2 rfl
    simp [ft]
    exact hK3 () _ _ rfl rfl hJ4
   | false=>
    simp [ft]
    exact hK _ _ ⟨false,_,W4,fun i hi hne=>by rw [e1 i hne,hag i hi],hJ4,fun h=>by cases h⟩
  ·intro _ h3 hJ3
   simp
   refine hK2 () _ _ rfl rfl ?_
   rw [fl,List.length_append,List.length_map];exact hJ3
 ·intro _ h2 hJ2
  simp
  refine hK _ _ ⟨true,_,W2,fun i hi _=>hag i hi,hJ2,fun _=>?_⟩
  rw [uz,List.length_map,dY,hcl]
end Go.Proofs.Ytbkdlhkoiagbbaa
namespace Go.Proofs.Ytbkdlhkoiagbbaa
open Go Go.Lft
def dX (p:Gr) (e:Int × Int):Gr:=p.set e.2.toNat (nth p e.2.toNat++[e.1])
def bX (g:Gr):Gr:=(dY g).foldl dX (List.replicate g.length [])
theorem qE {β γ:Type} {f:β→γ→β} {l:List γ} {k:Nat} {x:γ} {b:β} (h:l[k]? = some x):(l.take (k+1)).foldl f b=f ((l.take k).foldl f b) x:=by
 rw [List.take_add_one,h,List.foldl_append];rfl
theorem kS {g:Gr} {e:Int × Int} (h:e∈dY g):(0≤e.1∧e.1<g.length)∧0≤e.2∧e.2<g.length:=by
 simp only [dY,fW,List.mem_flatMap,List.mem_range,List.mem_map] at h
 obtain ⟨a,ha,b,hb,rfl⟩:=h
 obtain ⟨j,hj,rfl⟩:=List.getElem_of_mem hb
 have:=pZ a (by rw [fj];exact ha) j hj
 rw [fj,ak hj] at this
 exact ⟨⟨by omega,by simp only;omega⟩,this⟩
theorem jP {l:List (Int × Int)} {p:Gr}:(l.foldl dX p).length=p.length:=by
 induction l generalizing p with
 | nil=>rfl
 | cons e l ih=>rw [List.foldl_cons,ih];simp [dX]
theorem xU {l:List (Int × Int)} {p:Gr} {i m:Nat} (hp:(nth p i).length≤m):(nth (l.foldl dX p) i).length≤m+l.length:=by
 induction l generalizing p m with
 | nil=>exact hp
 | cons e l ih=>
  rw [List.foldl_cons]
  have:=ih (p:=dX p e) (m:=m+1) ?_
  ·simp only [List.length_cons];omega
  ·unfold dX
   rcases Nat.lt_or_ge i p.length with hi | hi
   ·rw [aF hi]
    split
    ·rename_i h;rw [h];simp;omega
    ·omega
   ·rw [aR (by simpa using hi)];simp [default]
theorem tf {row:List Int} {n:Int}:(jt row n).length≤row.length:=by
 have h1:=jo (p:=lS row n) (x:=fun i=>nth row i) row.length
 have h2:(mq (sift (lS row n) (fun i=>nth row i) row.length)).length=(sift (lS row n) (fun i=>nth row i) row.length).length:=List.length_mergeSort _
 have h3:=qv (l:=mq (sift (lS row n) (fun i=>nth row i) row.length))
 rw [jt];omega
theorem tS {f:Nat→List Int} {n m:Nat} (h : ∀ a,a<n→(f a).length≤m):(fW f n).length≤n*m:=by
 induction n with
 | zero=>simp [fW]
 | succ n ih=>
  have:=ih fun a ha=>h a (by omega)
  have:=h n (by omega)
  rw [fl,List.length_append,List.length_map,Nat.succ_mul];omega
theorem og {g:Gr} (hs:Sm g):(dY g).length≤1000000000000:=by
 have h1:=tS (f:=fun a=>nth (bZ g) a) (n:=g.length) (m:=1000000) fun a ha=>by
  have:=hs.2 a ha
  rw [bZ,dD ha]
  exact Nat.le_trans tf this
 have h2:g.length*1000000≤1000000*1000000:=Nat.mul_le_mul_right _ hs.1
 rw [dY];omega
theorem sA {g:Gr} {vg:Value} {h:Heap} (hg:SlRd (vw h) vg g) (hs:Sm g) :
  aD Try.prog N.eH #[vg] h (fun v h'=>(vw h).le (vw h')∧SlRd (fresh h h') v (bX g)):=by
 refine qb (args:=[vg]) follows F.eH E.eH (Nat.le_of_ble_eq_true (by kernel_rfl)) fun K hK=>?_
 have hs1:=hs.1
 have hel:=og hs
 simp [L.eH,hg.len]
 refine BW (n:=g.length) El.cH (by simp<;>rfl) (by simp<;>rfl) rfl (by omega) (by omega) ?_
 refine pX (z:=.slice none 0 0) (v:=.slice (some ⟨h.size,0,none⟩) g.length g.length) (by kernel_rfl) rfl (by kernel_rfl) rfl rfl (fun _=>by simp) (fun _=>by simp) fun h2 hle2 hsz2 hB2=>?_
 have hle02:(vw h).le (vw h2):=View.le_trans (bK _ _) hle2
 have hg2:h2[h.size]? = some (.cells (List.replicate g.length (.slice none 0 0)).toArray T.bc (0,0)):=hle2 _ _ (show (h.push _)[h.size]? = _ by simp)
 simp at hsz2 hB2
 simp
 refine ae (by kernel_rfl) xj ?_
 rintro _ _ ⟨rfl,rfl⟩
 have hgc:=hg.cells.1
 rw [hgc]
 have hle3:=bK h2 (.cells #[vg] T.cH)
 generalize hh3:h2.push (.cells #[vg] T.cH)=h3 at hle3
 have hsz3:h3.size=h.size+3:=by rw [←hh3];simp [hsz2]
 obtain ⟨W0,hW0⟩ : ∃ W:View,W=fun b=>if b=h.size then none else h3[b]?:=⟨_,rfl⟩
 have hW0le:W0.le (vw h3):=fun b o hb=>by
  rw [hW0] at hb;simp only at hb
  split at hb
  ·cases hb
  ·exact hb
 have h0W:(vw h).le W0:=fun b o hb=>by
  have hlt:=View.lt (View.le_refl (vw h)) hb
  rw [hW0];simp only
  rw [if_neg (by omega)]
  exact View.le_trans hle02 hle3 b o hb
 have hp3:an W0 ⟨h2.size,0,none⟩=some vg:=by
  have e:W0 h2.size=some (.cells #[vg] T.cH (0,0)):=by rw [hW0];simp only;rw [if_neg (by omega),←hh3];simp
  simp [an,e]
 have hB3:W0 (h.size+1)=some (.cells #[.slice (some ⟨h.size,0,none⟩) g.length g.length] T.cH (0,0)):=by
  rw [hW0];simp only;rw [if_neg (by omega)]
  exact hle3 _ _ hB2
 refine qZ (enc:=xc) (all:=dY g) (gf:=N.bE) (caps:=[.pointer (some ⟨h2.size,0,none⟩)]) W0 W0 (fun e k W h'=>e=none∧∃ rv,Rw W h' T.bc T.int h.size rv (((dY g).take k).foldl dX (List.replicate g.length [])))
  rfl (by kernel_rfl) (qy (hg.mono h0W) hp3 hs) (fun _=>rfl) (View.le_refl _) (fun e k=>⟨fun ⟨_,rv,r⟩=>r.wle,fun ⟨a,rv,r⟩ _ h1 h2 _=>⟨a,rv,r.move h1 h2⟩⟩) ⟨rfl,_,Rw.start hW0le (by rw [hW0];simp) (hle3 _ _ hg2)⟩
  (fun x h1=>by simp [xc,cx];rfl) ?_ ?_ ?_
 ·rintro k e W h1 hag hk ⟨_,rv,r⟩ K2 hK2 _
  have he:=kS (List.mem_of_getElem? hk)
  have hk1:k<(dY g).length:=(List.getElem?_eq_some_iff.1 hk).1
  have hst:=qE (f:=dX) (b:=List.replicate g.length []) hk
  have hpl:=jP (l:=(dY g).take k) (p:=List.replicate g.length [])
  have hrl:=xU (l:=(dY g).take k) (p:=List.replicate g.length []) (i:=e.2.toNat) (m:=0) (by rw [ao (by omega)];simp)
  rw [List.length_take] at hrl
  rw [List.length_replicate] at hpl
  generalize hp:((dY g).take k).foldl dX (List.replicate g.length [])=p at r hst hpl hrl
  have hlt:=r.lt
  have hB1:h1[h.size+1]? = some (.cells #[.slice (some ⟨h.size,0,none⟩) g.length g.length] T.cH (0,0)):=r.wle _ _ (by rw [hag _ (by omega)];exact hB3)
  have hlt1:=(Array.getElem?_eq_some_iff.1 hB1).1
  obtain ⟨H,hH⟩ : ∃ H:View,H=fun b=>if b=h.size∨b=h.size+1 then h1[b]? else none:=⟨_,rfl⟩
  have hHle:H.le (vw h1):=fun b o hb=>by
   rw [hH] at hb;simp only at hb
   split at hb
   ·exact hb
   ·cases hb
  have c1:an H ⟨h.size+1,0,none⟩=some (.slice (some ⟨h.size,0,none⟩) g.length g.length):=bJ (by rw [hH];simp only;rw [if_pos (by simp)];exact hB1) rfl
  have hlen:=r.len
  have c2:an H ⟨h.size,e.2.toNat,none⟩=some (nth rv e.2.toNat):=bJ (by rw [hH];simp only;rw [if_pos (by simp)];exact r.blk) (by rw [ak (by omega)];simp)
  refine cS H hHle ?_
  simp (disch:=omega) [c1,c2,DA]
  refine jM (α:=Int) (W:=nothing) El.bc (by simp<;>rfl) (oA (by omega) (by omega)) fun u h4 hsrc hle4 _=>⟨View.le_trans hHle hle4,?_⟩
  have r4:=r.ext hle4
  have hi:e.2.toNat<p.length:=by omega
  refine dz El.bc (by simp) (by simp) (r4.own _ hi) hsrc (by simp;omega) (by simp;omega) fun v' h5 o5 m5=>?_
  have hg5:h5[h.size]? = some (.cells rv.toArray T.bc (0,0)):=by rw [m5.kept.block _ r4.lt (fun e=>r4.ng _ hi e.symm)];exact r4.blk
  obtain ⟨hcells,hone⟩:=jB o5
  have hH5:H.le (vw h5):=by
   intro b o hb
   have hlt4:=View.lt (View.le_trans hHle hle4) hb
   have h4b:=View.le_trans hHle hle4 b o hb
   show h5[b]? = _
   rw [m5.kept.block b hlt4 ?_]
   ·exact h4b
   ·rw [hH] at hb;simp only at hb
    split at hb
    ·rename_i e1
     rcases e1 with rfl | rfl
     ·exact fun e=>r4.ng _ hi e.symm
     ·intro e
      have:=r4.av _ hi _ e.symm
      rw [hag _ (by omega),hB3] at this;cases this
    ·cases hb
  refine ⟨hH5,?_⟩
  refine dE (g:=h.size) (o:=e.2.toNat) (n:=1) (v:=v') (by kernel_rfl) (by simp) (by simp) (by rw [hcells];rfl) (by rw [hcells];simpa using hone) hg5 (by simp;omega) fun h6 hsz6 ⟨row,hrow,hre⟩ hoth=>?_
  refine hK2 _ _ ⟨rfl,rv.set e.2.toNat v',?_⟩
  rw [hst,dX]
  have hrow2:row=(rv.set e.2.toNat v').toArray:=by
   rw [←Array.toList_inj,hre,hcells,List.set_eq_take_append_cons_drop,if_pos (by omega)]
   simp
  rw [hrow2] at hrow
  exact r4.put hi o5 m5 hrow hoth hsz6
 ·rintro W h1 hag ⟨_,rv,r⟩
  rw [List.take_of_length_le (Nat.le_refl _)] at r
  have hB1:h1[h.size+1]? = some (.cells #[.slice (some ⟨h.size,0,none⟩) g.length g.length] T.cH (0,0)):=r.wle _ _ (by rw [hag _ (by omega)];exact hB3)
  have c1:an (vw h1) ⟨h.size+1,0,none⟩=some (.slice (some ⟨h.size,0,none⟩) g.length g.length):=bJ hB1 rfl
  simp [c1]
  intro h4 hsw
  have hWW:(vw h).le W:=fun b o hb=>by rw [hag b (by have:=View.lt (View.le_refl (vw h)) hb;omega)];exact h0W b o hb
  have hfl:=jP (l:=dY g) (p:=List.replicate g.length [])
  rw [List.length_replicate] at hfl
  have hfr:=r.fresh hWW (by omega)
  rw [hfl] at hfr
  exact ⟨_,rfl,hK _ _ ⟨hsw.ext (View.le_trans hWW r.wle),hsw.rd hfr⟩⟩
 ·rintro e k W h1 hag ⟨hne,_⟩
  cases hne
end Go.Proofs.Ytbkdlhkoiagbbaa
namespace Go.Proofs.Ytbkdlhkoiagbbaa
open Go Go.Lft
def eF (n:Nat) (order:List Int):List Int:=up (fun i l=>l.set (nth order i).toNat (i:Int)) order.length (List.replicate n (-1))
def bstS (out number:List Int) (n:Nat):List Int→Int→Option Int
 | [],best=>some best
 | a::l,best=>
  if 0≤a∧a<n then
   if nth number a.toNat<0∨(a≠0∧nth out a.toNat<0) then bstS out number n l best
   else if best<0 then bstS out number n l a
   else (jd out number (2*n+2) best a).bind (bstS out number n l)
  else none
def setS (out:List Int) (ch:Bool) (b best:Int):List Int × Bool:=if nth out b.toNat≠best then (out.set b.toNat best,true) else (out,ch)
def nP (number:List Int) (preds:Gr) (n:Nat):List Int→List Int × Bool→Option (List Int × Bool)
 | [],s=>some s
 | b::l,s=>
  if 0≤b∧b<n then (bstS s.1 number n (nth preds b.toNat) (-1)).bind fun best=>nP number preds n l (setS s.1 s.2 b best)
  else none
def kI (number:List Int) (preds:Gr) (n:Nat) (tail:List Int):Nat→List Int→Option (List Int)
 | 0,_=>none
 | m+1,out=>(nP number preds n tail (out,false)).bind fun s=>if s.2 then kI number preds n tail m s.1 else some s.1
def qn (g:Gr) (fuel:Nat):Option (List Int):=
 kI (eF g.length (aZ g)) (bX g) g.length ((aZ g).drop (min 1 (aZ g).length)) fuel (List.replicate g.length (-1))
theorem gM {out number:List Int} {c:Int} : ∀ {k:Nat} {x y:Int},jd out number k x y=some c→0≤c∧c<number.length
 | 0,x,y,h=>by cases h
 | k+1,x,y,h=>by
  rw [jd] at h
  split at h
  case isFalse=>cases h
  rename_i hr
  split at h
  ·exact gM h
  ·split at h
   ·exact gM h
   ·cases h;omega
theorem yI {out number:List Int} {n:Nat} : ∀ {l:List Int} {best r:Int},(-1≤best∧best<n)→out.length=n→number.length=n→(∀ i,i<n→-1≤nth out i∧nth out i<n)→bstS out number n l best=some r→-1≤r∧r<n:=by
 intro l
 induction l with
 | nil=>intro best r hb _ _ _ h;simp only [bstS,Option.some.injEq] at h;subst h;exact hb
 | cons a l ih=>
  intro best r hb h1 h2 h3 h
  rw [bstS] at h
  split at h
  case isFalse=>cases h
  rename_i ha
  split at h
  ·exact ih hb h1 h2 h3 h
  ·split at h
   ·exact ih ⟨by omega,by omega⟩ h1 h2 h3 h
   ·simp only [Option.bind_eq_some_iff] at h
    obtain ⟨c,hc,h⟩:=h
    refine ih ?_ h1 h2 h3 h
    have:=gM hc
    omega
structure OvOk (m M:Nat) (s:List Bool × List Int):Prop where
 len:s.1.length=m
 cnt:s.2.length+cG s.1≤M
 rng : ∀ x∈s.2,0≤x∧x<m
theorem xp {nx:Int→List Int} {m:Nat} (hnx : ∀ a:Int,0≤a→a<m→∀ i,i<(nx a).length→0≤nth (nx a) i∧nth (nx a) i<m) : ∀ (n M:Nat) (a:Int) (s:List Bool × List Int),0≤a→a<m→nth s.1 a.toNat=false→OvOk m M s→OvOk m M (hZ nx n a s)
 | 0,_,_,_,_,_,_,h=>h
 | n+1,M,a,s,h0,h1,hf,h=>by
  rw [iS]
  have hlen:=h.len
  have hfs:=gW (t:=s.1) (i:=a.toNat) (by omega) hf
  have hc:=h.cnt
  have hup : ∀ k,k≤(nx a).length→OvOk m (M-1) (up (bT nx n a) k (s.1.set a.toNat true,s.2)):=by
   intro k
   induction k with
   | zero=>exact fun _=>⟨by simpa [up] using hlen,by simp only [up];omega,h.rng⟩
   | succ k ih=>
    intro hk
    have:=ih (by omega)
    rw [up]
    generalize up (bT nx n a) k (s.1.set a.toNat true,s.2)=z at this
    unfold bT
    split
    ·exact this
    ·rename_i hz
     obtain ⟨e0,e1⟩:=hnx a h0 h1 k (by omega)
     exact xp hnx n (M-1) _ z e0 e1 (by simpa using hz) this
  have:=hup _ (Nat.le_refl _)
  exact ⟨this.len,by have:=this.cnt;simp;omega,fun x hx=>by
   rcases List.mem_append.1 hx with hx | hx
   ·exact this.rng x hx
   ·simp only [List.mem_singleton] at hx;subst hx;exact ⟨h0,h1⟩⟩
theorem te {nx:Int→List Int} {m:Nat} (hnx : ∀ a:Int,0≤a→a<m→∀ i,i<(nx a).length→0≤nth (nx a) i∧nth (nx a) i<m):(jr nx m).length≤m∧∀ x∈jr nx m,0≤x∧x<m:=by
 unfold jr
 split
 ·simp
 ·rename_i h0
  have:=xp hnx m m 0 (List.replicate m false,[]) (by omega) (by omega) (ao (by simp;omega)) ⟨by simp,by simp [cG],by simp⟩
  refine ⟨?_,fun x hx=>this.rng x (by simpa using hx)⟩
  have:=this.cnt
  simp;omega
theorem ED {g:Gr} : ∀ a:Int,0≤a→a<(g.length:Int)→∀ i,i<(nx (bZ g) a).length→0≤nth (nx (bZ g) a) i∧nth (nx (bZ g) a) i<g.length:=by
 intro a h0 h1 i hi
 have:=pZ a.toNat (by rw [fj];omega) i hi
 rwa [fj] at this
theorem Aw {g:Gr} {i:Nat} (hi:i<(aZ g).length):0≤nth (aZ g) i∧nth (aZ g) i<g.length:=
 (te ED).2 _ (bQ hi)
theorem nS {g:Gr}:(aZ g).length≤g.length:=(te ED).1
theorem pJ {g:Gr} : ∀ {l:List (Int × Int)} {p:Gr},(∀ e∈l,0≤e.1∧e.1<g.length)→(∀ i,∀ x∈nth p i,0≤x∧x<g.length)→∀ i,∀ x∈nth (l.foldl dX p) i,0≤x∧x<g.length:=by
 intro l
 induction l with
 | nil=>exact fun _ h=>h
 | cons e l ih=>
  intro p hl hp
  rw [List.foldl_cons]
  refine ih (fun e' he'=>hl e' (List.mem_cons_of_mem _ he')) fun i x hx=>?_
  unfold dX at hx
  rcases Nat.lt_or_ge i p.length with hi | hi
  ·rw [aF hi] at hx
   split at hx
   ·rcases List.mem_append.1 hx with hx | hx
    ·exact hp _ x hx
    ·simp only [List.mem_singleton] at hx;subst hx;exact hl e (List.mem_cons_self ..)
   ·exact hp _ x hx
  ·rw [aR (by simpa using hi)] at hx;cases hx
end Go.Proofs.Ytbkdlhkoiagbbaa
