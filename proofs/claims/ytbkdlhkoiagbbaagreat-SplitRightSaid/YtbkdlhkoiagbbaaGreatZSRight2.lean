/- A part of the proof: Lb, Lc, Ld, Le, Lf, Lg, Lh, Shelf, Wk, Wl, Wm, Wn, Wo, Wq, Wr. -/
import Derived.Test.YtbkdlhkoiagbbaaGreatZSRight1
import Derived.Test.YtbkdlhkoiagbbaaGreatProg
import Derived.KernelRfl
import Derived.Shelf.Small.Bits
import Derived.Shelf.Small.Wraps
import Derived.Shelf.Strconv.Itoa0
import Derived.Shelf.Sort.Plain
import Derived.Shelf.Slices.Turned
import Derived.Shelf.Slices.Reverse
import Derived.Ground.Names2Prog
import Derived.Shelf.Slices.CompactI
import Derived.Shelf.Slices.SearchI
import Derived.Shelf.Slices.Cells
import Derived.Shelf.Slices.In.SortNone
set_option linter.unusedSimpArgs false
set_option linter.unusedVariables false
namespace Go.Proofs.YtbkdlhkoiagbbaaGreat
open Go Go.Lft
set_option maxRecDepth 100000
abbrev N.bQ:Nat:=12
def L.bQ.l1:LC:=
 (.seq (.reg false (.fin [45] [(45,.bin (.cmp .lss) (.tmp 44) (.tmp 43))] [])) (.seq (.cond (.tmp 45) [45] .skip (.exit 0)) (.seq (.block 1 (.seq (.reg false (.loud [46,47] [(47,.un (.au 6) (.bin (.idx 6) (.tmp 42) (.tmp 44)))] [] none [] false (.alloc 48) 0 (some 10) true (.loud [] [] [(10,.tmp 10),(47,.tmp 47)] none [] false (.store 48 (.tmp 10) (.tmp 47)) 0 none false (.fin [] [] [])))) (.reg false (.fin [48,49,50,51,52,53,54,55,56,57,8] [(8,(.bin (.arith .add) (.tmp 8) (.bin (.arith .add) (.bin (.arith .add) (.un .len (.un .load (.un (.fld 0) (.tmp 10)))) (.un .len (.un .load (.un (.fld 1) (.tmp 10))))) (.con (.int .i64 1)))))] [])))) (.reg false (.fin [58,44] [(44,.bin (.arith .add) (.tmp 44) (.con (.int .i64 1)))] [])))))
def L.bQ.l2:LC:=
 (.seq (.reg false (.fin [77] [(77,.bin (.cmp .lss) (.tmp 76) (.tmp 75))] [])) (.seq (.cond (.tmp 77) [77] .skip (.exit 2)) (.seq (.block 3 (.seq (.reg false (.loud [78,79] [(79,.un (.au 2) (.bin (.idx 2) (.tmp 74) (.tmp 76)))] [] none [] false (.alloc 90) 0 (some 14) true (.loud [] [] [(14,.tmp 14),(79,.tmp 79)] none [] false (.store 90 (.tmp 14) (.tmp 79)) 0 none false (.fin [] [] [])))) (.seq (.reg false (.loud [80,81,82,83,84] [] [(80,.tmp 12),(81,.un (.au 2) (.tmp 14)),(84,.un .len (.un .load (.un (.fld 1) (.tmp 11))))] none [] false (.mapUpdate 89 (.tmp 80) (.tmp 81) (.tmp 84)) 0 none false (.fin [] [] []))) (.reg false (.loud [85,86,87,88] [(86,.un .load (.un (.fld 1) (.tmp 11)))] [(88,.un .load (.bin (.aidx 2 1) (.tmp 14) (.con (.int .i64 1))))] none [] false (.buildSlice 22 1 #[(0,.tmp 88)]) 22 (some 89) true (.loud [] [] [(89,.tmp 89)] none [] false (.build 46 #[(0,.const (.int .i64 1)),(2,.tmp 89)]) 46 (some 90) true (.loud [] [] [(90,.tmp 90)] none [] false (.build 48 #[(2,.tmp 90)]) 48 (some 91) true (.loud [] [] [(91,.tmp 91)] none [] false (.buildSlice 26 1 #[(0,.tmp 91)]) 26 (some 92) true (.loud [] [] [(86,.tmp 86),(92,.tmp 92)] none [] false (.call ⟨.builtin .append,#[.tmp 86,.tmp 92],#[26,26]⟩) 26 (some 93) true (.loud [94] [] [(94,.un (.fld 1) (.tmp 11)),(93,.tmp 93)] none [] false (.store 26 (.tmp 94) (.tmp 93)) 0 none false (.fin [] [] []))))))))))) (.reg false (.fin [95,76] [(76,.bin (.arith .add) (.tmp 76) (.con (.int .i64 1)))] [])))))
def L.bQ.l4:LC:=
 (.seq (.reg false (.fin [113] [(113,.bin (.cmp .lss) (.tmp 112) (.tmp 111))] [])) (.seq (.cond (.tmp 113) [113] .skip (.exit 6)) (.seq (.block 7 (.seq (.reg false (.fin [114,115,116,17,18] [(17,.tmp 112),(18,.un .load (.bin (.idx 1) (.tmp 110) (.tmp 112)))] [])) (.seq (.reg false (.loud [118,119,120] [(118,.tmp 12)] [(119,.tmp 15),(120,.tmp 18)] none [] false (.build 90 #[(0,.tmp 119),(1,.tmp 120)]) 90 (some 121) true (.loud [] [] [(118,.tmp 118),(121,.tmp 121)] none [] false (.lookup 89 (.tmp 118) (.tmp 121) true) 92 (some 122) true (.fin [117,123,124,19,20] [(19,.un (.ext 0) (.tmp 122)),(20,.un (.ext 1) (.tmp 122))] [])))) (.seq (.reg false (.fin [125] [(125,.tmp 20)] [])) (.cond (.tmp 125) [125] (.reg false (.loud [126,127,128,129,130,131,132,133] [] [(133,(.bin (.idx 1) (.un .load (.un (.fld 2) (.un (.fld 2) (.un .nilPtr (.tmp 16))))) (.tmp 17))),(132,.tmp 19)] none [] false (.store 3 (.tmp 133) (.tmp 132)) 0 none false (.fin [] [] []))) .skip))))) (.reg false (.fin [134,112] [(112,.bin (.arith .add) (.tmp 112) (.con (.int .i64 1)))] [])))))
def L.bQ.l6:LC:=
 (.seq (.reg false (.fin [148] [(148,.bin (.cmp .lss) (.tmp 147) (.tmp 146))] [])) (.seq (.cond (.tmp 148) [148] .skip (.exit 10)) (.seq (.block 11 (.seq (.reg false (.fin [149,23] [(23,.tmp 147)] [])) (.seq (.reg false (.loud [151,152,153,154,155,156,157,158] [(151,.tmp 12)] [(157,(.un .load (.un (.fld 0) (.bin (.idx 2) (.un .load (.un (.fld 1) (.tmp 22))) (.tmp 23))))),(158,.tmp 15)] none [] false (.build 90 #[(0,.tmp 157),(1,.tmp 158)]) 90 (some 159) true (.loud [] [] [(151,.tmp 151),(159,.tmp 159)] none [] false (.lookup 89 (.tmp 151) (.tmp 159) true) 92 (some 160) true (.fin [150,161,162,24,25] [(24,.un (.ext 0) (.tmp 160)),(25,.un (.ext 1) (.tmp 160))] [])))) (.seq (.reg false (.fin [163] [(163,.tmp 25)] [])) (.cond (.tmp 163) [163] (.reg false (.loud [164,165,166,167,168,169] [] [(169,(.un (.fld 0) (.bin (.idx 2) (.un .load (.un (.fld 1) (.tmp 22))) (.tmp 23)))),(167,.tmp 24)] none [] false (.store 3 (.tmp 169) (.tmp 167)) 0 none false (.fin [] [] []))) .skip))))) (.reg false (.fin [170,147] [(147,.bin (.arith .add) (.tmp 147) (.con (.int .i64 1)))] [])))))
def L.bQ.l5:LC:=
 (.seq (.reg false (.fin [141] [(141,.bin (.cmp .lss) (.tmp 140) (.tmp 139))] [])) (.seq (.cond (.tmp 141) [141] .skip (.exit 8)) (.seq (.block 9 (.seq (.reg false (.loud [142,143] [(143,.un (.au 2) (.bin (.idx 2) (.tmp 138) (.tmp 140)))] [] none [] false (.alloc 63) 0 (some 22) true (.loud [] [] [(22,.tmp 22),(143,.tmp 143)] none [] false (.store 63 (.tmp 22) (.tmp 143)) 0 none false (.fin [] [] [])))) (.seq (.seq (.reg false (.fin [144,145,146,147] [(146,.un .len (.un .load (.un (.fld 1) (.tmp 22)))),(147,.con (.int .i64 0))] [])) (.block 10 (.loop L.bQ.l6))) (.reg false (.loud [171,172] [] [(172,.un .load (.un (.fld 1) (.tmp 22)))] none [] false (.call ⟨.value (.func 38),#[.tmp 172,.func 39],#[61,94]⟩) 0 (some 173) false (.fin [] [] [])))))) (.reg false (.fin [174,140] [(140,.bin (.arith .add) (.tmp 140) (.con (.int .i64 1)))] [])))))
def L.bQ.l3:LC:=
 (.seq (.reg false (.fin [100] [(100,.bin (.cmp .lss) (.tmp 99) (.tmp 98))] [])) (.seq (.cond (.tmp 100) [100] .skip (.exit 4)) (.seq (.block 5 (.seq (.reg false (.fin [101,15] [(15,.tmp 99)] [])) (.seq (.reg false (.fin [102,103,104,105,16] [(16,.bin (.idx 6) (.un .load (.un (.fld 1) (.tmp 11))) (.tmp 15))] [])) (.seq (.seq (.reg false (.fin [106,107,108,109,110,111,112] [(110,(.un .load (.un (.fld 2) (.un (.fld 2) (.un .nilPtr (.tmp 16)))))),(111,(.un .len (.un .load (.un (.fld 2) (.un (.fld 2) (.un .nilPtr (.tmp 16))))))),(112,.con (.int .i64 0))] [])) (.block 6 (.loop L.bQ.l4))) (.seq (.reg false (.fin [135,136,137,138,139,140] [(138,.un .load (.un (.fld 0) (.un .nilPtr (.tmp 16)))),(139,(.un .len (.un .load (.un (.fld 0) (.un .nilPtr (.tmp 16)))))),(140,.con (.int .i64 0))] [])) (.block 8 (.loop L.bQ.l5))))))) (.reg false (.fin [175,99] [(99,.bin (.arith .add) (.tmp 99) (.con (.int .i64 1)))] [])))))
def L.bQ:LFn:=
⟨[.un (.au 2) (.tmp 2),.tmp 3],(.seq (.reg false (.loud [] [] [(0,.tmp 0)] none [] false (.box 28 (.tmp 0)) 0 (some 1) true (.loud [] [] [] none [] false (.alloc 28) 0 (some 2) true (.fin [3] [(3,.con (.int .i64 0))] [])))) (.seq (.reg false (.loud [27] [] [(27,.un (.au 2) (.tmp 1))] none [] false (.call ⟨.value (.func 36),#[.tmp 27],#[28]⟩) 86 (some 28) true (.fin [26,29,30,31,4,5,6] [(4,.un (.ext 0) (.tmp 28))] [.un (.ext 2) (.tmp 28),.un (.ext 1) (.tmp 28)]))) (.seq (.seq (.reg false (.fin [32,33] [(33,.bin (.cmp .neq) (.tmp 4) (.con (.int .i64 0)))] [])) (.cond (.tmp 33) [33] (.seq (.reg false (.loud [] [] [] none [] false (.build 28 #[]) 28 (some 34) true (.loud [35] [(35,.tmp 4)] [(2,.tmp 2),(34,.tmp 34)] none [] false (.store 28 (.tmp 2) (.tmp 34)) 0 none false (.fin [3] [(3,.tmp 35)] [])))) .ret) .skip)) (.seq (.reg false (.loud [36] [] [(36,.un (.au 2) (.tmp 1))] none [] false (.call ⟨.value (.func 18),#[.tmp 36],#[28]⟩) 40 (some 37) true (.loud [] [] [(37,.tmp 37)] none [] false (.call ⟨.value (.func 17),#[.tmp 37],#[40]⟩) 38 (some 38) true (.fin [7] [(7,.tmp 38)] [])))) (.seq (.reg false (.fin [39,40,8] [(8,.un .len (.tmp 7))] [])) (.seq (.seq (.reg false (.fin [41,42,43,44] [(42,.un .load (.un (.fld 1) (.tmp 1))),(43,.un .len (.un .load (.un (.fld 1) (.tmp 1)))),(44,.con (.int .i64 0))] [])) (.block 0 (.loop L.bQ.l1))) (.seq (.seq (.reg false (.fin [59,60,61,62,63,64,65,66,67,68,69] [(69,(.ite (.bin (.cmp .gtr) (.bin (.arith .add) (.un .len (.un .load (.un (.fld 1) (.tmp 1)))) (.un .len (.tmp 7))) (.con (.int .i64 512))) (.con (.bool true)) (.bin (.cmp .gtr) (.tmp 8) (.con (.int .i64 4096)))))] [])) (.cond (.tmp 69) [69] (.seq (.reg false (.loud [] [] [] none [] false (.build 28 #[]) 28 (some 70) true (.loud [] [] [(2,.tmp 2),(70,.tmp 70)] none [] false (.store 28 (.tmp 2) (.tmp 70)) 0 none false (.fin [3] [(3,.con (.int .i64 2))] [])))) .ret) .skip)) (.seq (.reg false (.loud [71] [] [(71,.un (.au 2) (.tmp 1))] none [] false (.call ⟨.value (.func 37),#[.tmp 71],#[28]⟩) 28 (some 72) true (.loud [] [] [] none [] false (.alloc 28) 0 (some 11) true (.loud [] [] [(11,.tmp 11),(72,.tmp 72)] none [] false (.store 28 (.tmp 11) (.tmp 72)) 0 none false (.fin [] [] []))))) (.seq (.reg false (.loud [] [] [] none [] false (.makeMap 89 none) 89 (some 73) true (.fin [12] [(12,.tmp 73)] []))) (.seq (.seq (.reg false (.fin [74,75,76] [(74,.tmp 7),(75,.un .len (.tmp 7)),(76,.con (.int .i64 0))] [])) (.block 2 (.loop L.bQ.l2))) (.seq (.seq (.reg false (.fin [96,97,98,99] [(98,.un .len (.un .load (.un (.fld 1) (.tmp 1)))),(99,.con (.int .i64 0))] [])) (.block 4 (.loop L.bQ.l3))) (.seq (.reg false (.loud [176] [] [(2,.tmp 2),(176,.un (.au 2) (.tmp 11))] none [] false (.store 28 (.tmp 2) (.tmp 176)) 0 none false (.fin [3] [(3,.con (.int .i64 0))] []))) .ret))))))))))))⟩
theorem E.bQ:bh Tryz.prog Tryz.f12=some L.bQ:=by kernel_rfl
theorem F.bQ:Tryz.prog.funcs[N.bQ]? = some Tryz.f12:=Tryz.func12
abbrev N.cg:Nat:=14
def L.cg.l2:LC:=
 (.seq (.seq (.reg false (.fin [19,20,21,22] [(22,.bin (.cmp .lss) (.tmp 7) (.un .len (.tmp 6)))] [])) (.cond (.tmp 22) [22] .skip (.exit 2))) (.seq (.block 3 (.seq (.reg false (.fin [25,26,27,28,29,30,31,32,33,34,35,36,37,38] [(38,(.ite (.bin (.cmp .gtr) (.un .len (.tmp 6)) (.con (.int .i64 1))) (.bin (.cmp .gtr) (.un .len (.un .load (.bin (.idx 1) (.tmp 3) (.un .load (.bin (.idx 1) (.tmp 6) (.tmp 7)))))) (.con (.int .i64 1))) (.con (.bool false))))] [])) (.cond (.tmp 38) [38] (.reg false (.loud [39,40,41,42,43,44] [(39,.tmp 4)] [(40,.tmp 5),(44,.un .load (.bin (.idx 1) (.tmp 6) (.tmp 7)))] none [] false (.build 90 #[(0,.tmp 40),(1,.tmp 44)]) 90 (some 45) true (.loud [] [] [(45,.tmp 45)] none [] false (.buildSlice 38 1 #[(0,.tmp 45)]) 38 (some 46) true (.loud [] [] [(39,.tmp 39),(46,.tmp 46)] none [] false (.call ⟨.builtin .append,#[.tmp 39,.tmp 46],#[38,38]⟩) 38 (some 47) true (.fin [4] [(4,.tmp 47)] []))))) .skip))) (.reg false (.fin [23,24,7] [(7,.bin (.arith .add) (.tmp 7) (.con (.int .i64 1)))] []))))
def L.cg.l1:LC:=
 (.seq (.seq (.reg false (.fin [10,11,12,13] [(13,.bin (.cmp .lss) (.tmp 5) (.un .len (.tmp 0)))] [])) (.cond (.tmp 13) [13] .skip (.exit 0))) (.seq (.block 1 (.seq (.reg false (.loud [16,17] [] [(16,.tmp 0),(17,.tmp 5)] none [] false (.call ⟨.value (.func 42),#[.tmp 16,.tmp 17],#[40,3]⟩) 22 (some 18) true (.fin [6] [(6,.tmp 18)] []))) (.seq (.reg false (.fin [7] [(7,.con (.int .i64 0))] [])) (.block 2 (.loop L.cg.l2))))) (.reg false (.fin [14,15,5] [(5,.bin (.arith .add) (.tmp 5) (.con (.int .i64 1)))] []))))
def L.cg:LFn:=
⟨[.tmp 2],(.seq (.reg false (.fin [2] [(2,.con (.slice none 0 0))] [])) (.seq (.reg false (.loud [8] [] [(8,.tmp 0)] none [] false (.call ⟨.value (.func 41),#[.tmp 8],#[40]⟩) 40 (some 9) true (.fin [3] [(3,.tmp 9)] []))) (.seq (.reg false (.fin [4] [(4,.con (.slice none 0 0))] [])) (.seq (.seq (.reg false (.fin [5] [(5,.con (.int .i64 0))] [])) (.block 0 (.loop L.cg.l1))) (.seq (.reg false (.fin [48,2] [(2,.tmp 4)] [])) .ret)))))⟩
theorem E.cg:bh Tryz.prog Tryz.f14=some L.cg:=by kernel_rfl
theorem F.cg:Tryz.prog.funcs[N.cg]? = some Tryz.f14:=Tryz.func14
abbrev N.eK:Nat:=15
def L.eK.l3:LC:=
 (.seq (.seq (.reg false (.fin [23,24,25,26,27,28,29,30,31,32] [(32,(.bin (.cmp .lss) (.tmp 8) (.un .len (.un .load (.un (.fld 2) (.un (.fld 2) (.bin (.idx 6) (.un .load (.un (.fld 1) (.tmp 1))) (.tmp 4))))))))] [])) (.cond (.tmp 32) [32] .skip (.exit 4))) (.seq (.block 5 (.reg false (.fin [35,36,37,38,39,40,41,42,43,44,45,46,47,48,49,7] [(7,(.ite (.tmp 7) (.con (.bool true)) (.bin (.cmp .eql) (.un .load (.bin (.idx 1) (.un .load (.un (.fld 2) (.un (.fld 2) (.bin (.idx 6) (.un .load (.un (.fld 1) (.tmp 1))) (.tmp 4))))) (.tmp 8))) (.tmp 6))))] []))) (.reg false (.fin [33,34,8] [(8,.bin (.arith .add) (.tmp 8) (.con (.int .i64 1)))] []))))
def L.eK.l2:LC:=
 (.seq (.seq (.reg false (.fin [16,17,18,19,20] [(20,(.bin (.cmp .lss) (.tmp 6) (.un .len (.un .load (.un (.fld 1) (.tmp 1))))))] [])) (.cond (.tmp 20) [20] .skip (.exit 2))) (.seq (.block 3 (.seq (.reg false (.fin [7] [(7,.con (.bool false))] [])) (.seq (.seq (.reg false (.fin [8] [(8,.con (.int .i64 0))] [])) (.block 4 (.loop L.eK.l3))) (.seq (.reg false (.fin [50] [(50,.tmp 7)] [])) (.cond (.tmp 50) [50] (.reg false (.loud [51,52] [(51,.tmp 5)] [(52,.tmp 6)] none [] false (.buildSlice 22 1 #[(0,.tmp 52)]) 22 (some 53) true (.loud [] [] [(51,.tmp 51),(53,.tmp 53)] none [] false (.call ⟨.builtin .append,#[.tmp 51,.tmp 53],#[22,22]⟩) 22 (some 54) true (.fin [5] [(5,.tmp 54)] [])))) .skip))))) (.reg false (.fin [21,22,6] [(6,.bin (.arith .add) (.tmp 6) (.con (.int .i64 1)))] []))))
def L.eK.l1:LC:=
 (.seq (.seq (.reg false (.fin [9,10,11,12,13] [(13,(.bin (.cmp .lss) (.tmp 4) (.un .len (.un .load (.un (.fld 1) (.tmp 1))))))] [])) (.cond (.tmp 13) [13] .skip (.exit 0))) (.seq (.block 1 (.seq (.reg false (.fin [5] [(5,.con (.slice none 0 0))] [])) (.seq (.seq (.reg false (.fin [6] [(6,.con (.int .i64 0))] [])) (.block 2 (.loop L.eK.l2))) (.reg false (.loud [55,56] [(55,.tmp 3)] [(56,.tmp 5)] none [] false (.buildSlice 40 1 #[(0,.tmp 56)]) 40 (some 57) true (.loud [] [] [(55,.tmp 55),(57,.tmp 57)] none [] false (.call ⟨.builtin .append,#[.tmp 55,.tmp 57],#[40,40]⟩) 40 (some 58) true (.fin [3] [(3,.tmp 58)] []))))))) (.reg false (.fin [14,15,4] [(4,.bin (.arith .add) (.tmp 4) (.con (.int .i64 1)))] []))))
def L.eK:LFn:=
⟨[.tmp 2],(.seq (.reg false (.loud [] [] [(0,.tmp 0)] none [] false (.box 28 (.tmp 0)) 0 (some 1) true (.fin [2] [(2,.con (.slice none 0 0))] []))) (.seq (.reg false (.fin [3] [(3,.con (.slice none 0 0))] [])) (.seq (.seq (.reg false (.fin [4] [(4,.con (.int .i64 0))] [])) (.block 0 (.loop L.eK.l1))) (.seq (.reg false (.fin [59,2] [(2,.tmp 3)] [])) .ret))))⟩
theorem E.eK:bh Tryz.prog Tryz.f15=some L.eK:=by kernel_rfl
theorem F.eK:Tryz.prog.funcs[N.eK]? = some Tryz.f15:=Tryz.func15
abbrev N.fu:Nat:=16
def L.fu:LFn:=
⟨[.tmp 2],(.seq (.reg false (.loud [] [] [(0,.tmp 0)] none [] false (.box 28 (.tmp 0)) 0 (some 1) true (.fin [2] [(2,.con (.bool false))] []))) (.seq (.reg false (.loud [7] [] [(7,.un (.au 2) (.tmp 1))] none [] false (.call ⟨.value (.func 36),#[.tmp 7],#[28]⟩) 86 (some 8) true (.fin [6,9,10,11,3,4,5] [(3,.un (.ext 0) (.tmp 8))] [.un (.ext 2) (.tmp 8),.un (.ext 1) (.tmp 8)]))) (.seq (.reg false (.fin [12,13,2] [(2,.bin (.cmp .eql) (.tmp 3) (.con (.int .i64 0)))] [])) .ret)))⟩
theorem E.fu:bh Tryz.prog Tryz.f16=some L.fu:=by kernel_rfl
theorem F.fu:Tryz.prog.funcs[N.fu]? = some Tryz.f16:=Tryz.func16
abbrev N.dH:Nat:=17
def L.dH:LFn:=
⟨[.tmp 2],(.seq (.reg false (.fin [2] [(2,.con (.slice none 0 0))] [])) (.seq (.reg false (.loud [8] [] [(8,.tmp 0)] none [] false (.call ⟨.value (.func 43),#[.tmp 8],#[40]⟩) 40 (some 9) true (.loud [10] [] [(10,.tmp 0)] none [] false (.call ⟨.value (.func 44),#[.tmp 10],#[40]⟩) 40 (some 11) true (.loud [] [] [] none [] false (.alloc 40) 0 (some 3) true (.loud [] [] [] none [] false (.alloc 40) 0 (some 4) true (.loud [] [] [(3,.tmp 3),(9,.tmp 9)] none [] false (.store 40 (.tmp 3) (.tmp 9)) 0 none false (.loud [] [] [(4,.tmp 4),(11,.tmp 11)] none [] false (.store 40 (.tmp 4) (.tmp 11)) 0 none false (.fin [] [] [])))))))) (.seq (.reg false (.loud [] [] [] none [] false (.alloc 38) 0 (some 5) true (.fin [] [] []))) (.seq (.seq (.reg false (.loud [12] [] [(12,.tmp 0)] none [] false (.call ⟨.value (.func 45),#[.tmp 12],#[40]⟩) 99 (some 13) true (.fin [] [] []))) (.block 0 (.rangef (.tmp 13) [14,15] (.seq (.reg false (.fin [6] [(6,.tmp 14)] [])) (.reg false (.fin [7] [(7,.tmp 15)] []))) (.block 1 (.seq (.reg false (.fin [16,17,18,19,20,21,22,23,24,25,26,27,28,29] [(29,(.ite (.bin (.cmp .gtr) (.un .len (.un .load (.bin (.idx 1) (.un .load (.tmp 3)) (.tmp 6)))) (.con (.int .i64 1))) (.bin (.cmp .gtr) (.un .len (.un .load (.bin (.idx 1) (.un .load (.tmp 4)) (.tmp 7)))) (.con (.int .i64 1))) (.con (.bool false))))] [])) (.cond (.tmp 29) [29] (.reg false (.loud [30,31,32] [(30,.un .load (.tmp 5))] [(31,.tmp 6),(32,.tmp 7)] none [] false (.build 90 #[(0,.tmp 31),(1,.tmp 32)]) 90 (some 33) true (.loud [] [] [(33,.tmp 33)] none [] false (.buildSlice 38 1 #[(0,.tmp 33)]) 38 (some 34) true (.loud [] [] [(30,.tmp 30),(34,.tmp 34)] none [] false (.call ⟨.builtin .append,#[.tmp 30,.tmp 34],#[38,38]⟩) 38 (some 35) true (.loud [] [] [(5,.tmp 5),(35,.tmp 35)] none [] false (.store 38 (.tmp 5) (.tmp 35)) 0 none false (.fin [] [] [])))))) .skip)))))) (.seq (.reg false (.fin [36,2] [(2,.un .load (.tmp 5))] [])) .ret)))))⟩
theorem E.dH:bh Tryz.prog Tryz.f17=some L.dH:=by kernel_rfl
theorem F.dH:Tryz.prog.funcs[N.dH]? = some Tryz.f17:=Tryz.func17
abbrev N.gP:Nat:=18
def L.gP.l1:LC:=
 (.seq (.reg false (.fin [14] [(14,.bin (.cmp .lss) (.tmp 13) (.tmp 12))] [])) (.seq (.cond (.tmp 14) [14] .skip (.exit 0)) (.seq (.block 1 (.seq (.reg false (.loud [15,16,17] [(15,.tmp 13),(17,.un (.au 6) (.bin (.idx 6) (.tmp 11) (.tmp 13)))] [] none [] false (.alloc 48) 0 (some 5) true (.loud [4] [(4,.tmp 15)] [(5,.tmp 5),(17,.tmp 17)] none [] false (.store 48 (.tmp 5) (.tmp 17)) 0 none false (.fin [] [] [])))) (.reg false (.loud [18,19,20,21,22,23,24,25] [(18,.tmp 3),(19,.tmp 4)] [(22,.un .load (.un (.fld 2) (.un (.fld 2) (.tmp 5)))),(25,.un .len (.un .load (.un (.fld 1) (.tmp 1))))] none [] false (.call ⟨.value (.func 46),#[.tmp 22,.tmp 25],#[22,3]⟩) 22 (some 26) true (.loud [27] [] [(27,.bin (.idx 1) (.tmp 18) (.tmp 19)),(26,.tmp 26)] none [] false (.store 22 (.tmp 27) (.tmp 26)) 0 none false (.fin [] [] [])))))) (.reg false (.fin [28,13] [(13,.bin (.arith .add) (.tmp 13) (.con (.int .i64 1)))] [])))))
def L.gP:LFn:=
⟨[.tmp 2],(.seq (.reg false (.loud [] [] [(0,.tmp 0)] none [] false (.box 28 (.tmp 0)) 0 (some 1) true (.fin [2] [(2,.con (.slice none 0 0))] []))) (.seq (.reg false (.loud [6,7,8] [] [(8,.un .len (.un .load (.un (.fld 1) (.tmp 1)))),(8,.un .len (.un .load (.un (.fld 1) (.tmp 1))))] none [] false (.makeSlice 40 (.tmp 8) (.tmp 8)) 40 (some 9) true (.fin [3] [(3,.tmp 9)] []))) (.seq (.seq (.reg false (.fin [10,11,12,13] [(11,.un .load (.un (.fld 1) (.tmp 1))),(12,.un .len (.un .load (.un (.fld 1) (.tmp 1)))),(13,.con (.int .i64 0))] [])) (.block 0 (.loop L.gP.l1))) (.seq (.reg false (.fin [29,2] [(2,.tmp 3)] [])) .ret))))⟩
theorem E.gP:bh Tryz.prog Tryz.f18=some L.gP:=by kernel_rfl
theorem F.gP:Tryz.prog.funcs[N.gP]? = some Tryz.f18:=Tryz.func18
end Go.Proofs.YtbkdlhkoiagbbaaGreat
namespace Go.Proofs.YtbkdlhkoiagbbaaGreat
open Go Go.Lft
set_option maxRecDepth 100000
abbrev N.dX:Nat:=23
def L.dX:LFn:=
⟨[.un (.au 2) (.tmp 0)],(.seq (.reg false (.loud [] [] [] none [] false (.alloc 28) 0 (some 0) true (.fin [] [] []))) (.seq (.reg false (.loud [] [] [] none [] false (.buildSlice 22 1 #[(0,.const (.int .i64 0))]) 22 (some 1) true (.loud [] [] [] none [] false (.buildSlice 22 2 #[(0,.const (.int .i64 1)),(1,.const (.int .i64 2))]) 22 (some 2) true (.loud [] [] [(1,.tmp 1),(2,.tmp 2)] none [] false (.build 46 #[(0,.const (.int .i64 2)),(1,.tmp 1),(2,.tmp 2)]) 46 (some 3) true (.loud [] [] [(3,.tmp 3)] none [] false (.build 48 #[(2,.tmp 3)]) 48 (some 4) true (.loud [] [] [] none [] false (.buildSlice 22 1 #[(0,.const (.int .i64 2))]) 22 (some 5) true (.loud [] [] [(5,.tmp 5)] none [] false (.build 46 #[(0,.const (.int .i64 1)),(2,.tmp 5)]) 46 (some 6) true (.loud [] [] [(6,.tmp 6)] none [] false (.build 48 #[(2,.tmp 6)]) 48 (some 7) true (.loud [] [] [] none [] false (.build 65 #[(0,.const (.int .i64 0)),(1,.const (.int .i64 0))]) 65 (some 8) true (.loud [] [] [] none [] false (.build 65 #[(0,.const (.int .i64 1)),(1,.const (.int .i64 0))]) 65 (some 9) true (.loud [] [] [(8,.tmp 8),(9,.tmp 9)] none [] false (.buildSlice 61 2 #[(0,.tmp 8),(1,.tmp 9)]) 61 (some 10) true (.loud [] [] [(10,.tmp 10)] none [] false (.build 63 #[(0,.const (.int .i64 1)),(1,.tmp 10)]) 63 (some 11) true (.loud [] [] [(11,.tmp 11)] none [] false (.buildSlice 43 1 #[(0,.tmp 11)]) 43 (some 12) true (.loud [] [] [] none [] false (.buildSlice 22 1 #[(0,.const (.int .i64 1))]) 22 (some 13) true (.loud [] [] [(13,.tmp 13)] none [] false (.build 46 #[(0,.const (.int .i64 4)),(1,.tmp 13)]) 46 (some 14) true (.loud [] [] [(12,.tmp 12),(14,.tmp 14)] none [] false (.build 48 #[(0,.tmp 12),(2,.tmp 14)]) 48 (some 15) true (.loud [] [] [(4,.tmp 4),(7,.tmp 7),(15,.tmp 15)] none [] false (.buildSlice 26 3 #[(0,.tmp 4),(1,.tmp 7),(2,.tmp 15)]) 26 (some 16) true (.loud [] [] [(16,.tmp 16)] none [] false (.build 28 #[(0,.const (.int .i64 1)),(1,.tmp 16)]) 28 (some 17) true (.loud [] [] [(0,.tmp 0),(17,.tmp 17)] none [] false (.store 28 (.tmp 0) (.tmp 17)) 0 none false (.fin [] [] [])))))))))))))))))))) .ret))⟩
theorem E.dX:bh Tryz.prog Tryz.f23=some L.dX:=by kernel_rfl
theorem F.dX:Tryz.prog.funcs[N.dX]? = some Tryz.f23:=Tryz.func23
abbrev N.bS:Nat:=24
def L.bS:LFn:=
⟨[.tmp 4],(.seq (.reg false (.fin [4] [(4,.con (.int .i64 0))] [])) (.seq (.reg false (.fin [5] [(5,.con (.int .i64 0))] [])) (.seq (.seq (.reg true (.fin [6,7,8,9,10,11,12,13,14,15] [(15,(.bin (.cmp .lss) (.un .load (.un (.fld 1) (.un .nilPtr (.tmp 0)))) (.un .len (.un .load (.un (.fld 0) (.un .nilPtr (.tmp 0)))))))] [])) (.cond (.tmp 15) [15] (.reg true (.fin [16,17,18,19,20,21,22,23,24,25,5] [(5,(.un .load (.bin (.idx 1) (.un .load (.un (.fld 0) (.un .nilPtr (.tmp 0)))) (.un .load (.un (.fld 1) (.un .nilPtr (.tmp 0)))))))] [])) .skip)) (.seq (.reg false (.loud [26,27,28,29,30,31,32,33] [] [(33,.un (.fld 1) (.un .nilPtr (.tmp 0))),(31,(.bin (.arith .add) (.un .load (.un (.fld 1) (.un .nilPtr (.tmp 0)))) (.con (.int .i64 1))))] none [] false (.store 3 (.tmp 33) (.tmp 31)) 0 none false (.fin [] [] []))) (.seq (.reg false (.fin [34,35,36,37,38,39,40,4] [(4,.bin (.div .rem) (.bin (.arith .add) (.bin (.div .rem) (.tmp 5) (.tmp 1)) (.tmp 1)) (.tmp 1))] [])) .ret)))))⟩
theorem E.bS:bh Tryz.prog Tryz.f24=some L.bS:=by kernel_rfl
theorem F.bS:Tryz.prog.funcs[N.bS]? = some Tryz.f24:=Tryz.func24
abbrev N.aQ:Nat:=25
def L.aQ.l1:LC:=
 (.seq (.seq (.reg false (.fin [14,15,16] [(16,.bin (.cmp .lss) (.tmp 6) (.tmp 1))] [])) (.cond (.tmp 16) [16] .skip (.exit 0))) (.seq (.block 1 (.seq (.reg false (.fin [19,20,7] [(7,.bin (.arith .sub) (.tmp 6) (.con (.int .i64 1)))] [])) (.seq (.seq (.reg false (.loud [21] [] [(21,.tmp 0)] none [] false (.call ⟨.value (.func 24),#[.tmp 21,.const (.int .i64 3)],#[66,3]⟩) 3 (some 22) true (.fin [23] [(23,.bin (.cmp .eql) (.tmp 22) (.con (.int .i64 0)))] []))) (.cond (.tmp 23) [23] (.reg false (.loud [24,25] [] [(24,.tmp 0),(25,.tmp 6)] none [] false (.call ⟨.value (.func 24),#[.tmp 24,.tmp 25],#[66,3]⟩) 3 (some 26) true (.fin [7] [(7,.tmp 26)] []))) .skip)) (.reg false (.loud [27,28,29,30,31,32,33] [(27,.tmp 5),(28,.tmp 7),(32,.un .load (.bin (.idx 1) (.tmp 5) (.tmp 7)))] [(33,.tmp 6)] none [] false (.buildSlice 22 1 #[(0,.tmp 33)]) 22 (some 34) true (.loud [] [] [(32,.tmp 32),(34,.tmp 34)] none [] false (.call ⟨.builtin .append,#[.tmp 32,.tmp 34],#[22,22]⟩) 22 (some 35) true (.loud [36] [] [(36,.bin (.idx 1) (.tmp 27) (.tmp 28)),(35,.tmp 35)] none [] false (.store 22 (.tmp 36) (.tmp 35)) 0 none false (.fin [] [] [])))))))) (.reg false (.fin [17,18,6] [(6,.bin (.arith .add) (.tmp 6) (.con (.int .i64 1)))] []))))
def L.aQ.l3:LC:=
 (.seq (.seq (.reg false (.fin [44,45,46,47,48,49,50,51] [(51,(.ite (.bin (.cmp .lss) (.tmp 10) (.bin (.arith .sub) (.tmp 9) (.con (.int .i64 3)))) (.bin (.cmp .gtr) (.tmp 1) (.con (.int .i64 1))) (.con (.bool false))))] [])) (.cond (.tmp 51) [51] .skip (.exit 4))) (.seq (.block 5 (.seq (.reg false (.loud [54,55,56] [] [(54,.tmp 0),(56,.bin (.arith .sub) (.tmp 1) (.con (.int .i64 1)))] none [] false (.call ⟨.value (.func 24),#[.tmp 54,.tmp 56],#[66,3]⟩) 3 (some 57) true (.fin [58,11] [(11,.bin (.arith .add) (.con (.int .i64 1)) (.tmp 57))] []))) (.seq (.seq (.reg false (.loud [59,60,61,62,63] [(62,.bin (.cmp .leq) (.tmp 11) (.tmp 8))] [(63,.gd (.bin (.cmp .leq) (.tmp 11) (.tmp 8)) true (.tmp 0))] (some ((.bin (.cmp .leq) (.tmp 11) (.tmp 8)),true)) [] false (.call ⟨.value (.func 24),#[.tmp 63,.const (.int .i64 2)],#[66,3]⟩) 3 (some 64) true (.fin [65,66] [(66,.ite (.tmp 62) (.bin (.cmp .eql) (.tmp 64) (.con (.int .i64 0))) (.con (.bool false)))] []))) (.cond (.tmp 66) [66] (.reg false (.fin [67,68,69,70,71,11] [(11,.bin .min (.bin (.arith .add) (.tmp 8) (.con (.int .i64 1))) (.bin (.arith .sub) (.tmp 1) (.con (.int .i64 1))))] [])) .skip)) (.reg false (.loud [72,73,74,75,76,77,78] [(72,.tmp 5),(73,.tmp 8),(77,.un .load (.bin (.idx 1) (.tmp 5) (.tmp 8)))] [(78,.tmp 11)] none [] false (.buildSlice 22 1 #[(0,.tmp 78)]) 22 (some 79) true (.loud [] [] [(77,.tmp 77),(79,.tmp 79)] none [] false (.call ⟨.builtin .append,#[.tmp 77,.tmp 79],#[22,22]⟩) 22 (some 80) true (.loud [81] [] [(81,.bin (.idx 1) (.tmp 72) (.tmp 73)),(80,.tmp 80)] none [] false (.store 22 (.tmp 81) (.tmp 80)) 0 none false (.fin [] [] [])))))))) (.reg false (.fin [52,53,10] [(10,.bin (.arith .add) (.tmp 10) (.con (.int .i64 1)))] []))))
def L.aQ.l2:LC:=
 (.seq (.seq (.reg false (.fin [37,38,39] [(39,.bin (.cmp .lss) (.tmp 8) (.tmp 1))] [])) (.cond (.tmp 39) [39] .skip (.exit 2))) (.seq (.block 3 (.seq (.reg false (.loud [42] [] [(42,.tmp 0)] none [] false (.call ⟨.value (.func 24),#[.tmp 42,.const (.int .i64 6)],#[66,3]⟩) 3 (some 43) true (.fin [9] [(9,.tmp 43)] []))) (.seq (.reg false (.fin [10] [(10,.con (.int .i64 0))] [])) (.block 4 (.loop L.aQ.l3))))) (.reg false (.fin [40,41,8] [(8,.bin (.arith .add) (.tmp 8) (.con (.int .i64 1)))] []))))
def L.aQ:LFn:=
⟨[.tmp 4],(.seq (.reg false (.fin [4] [(4,.con (.slice none 0 0))] [])) (.seq (.reg false (.loud [12] [] [(12,.tmp 1),(12,.tmp 1)] none [] false (.makeSlice 40 (.tmp 12) (.tmp 12)) 40 (some 13) true (.fin [5] [(5,.tmp 13)] []))) (.seq (.seq (.reg false (.fin [6] [(6,.con (.int .i64 1))] [])) (.block 0 (.loop L.aQ.l1))) (.seq (.seq (.reg false (.fin [8] [(8,.con (.int .i64 0))] [])) (.block 2 (.loop L.aQ.l2))) (.seq (.reg false (.fin [82,4] [(4,.tmp 5)] [])) .ret)))))⟩
theorem E.aQ:bh Tryz.prog Tryz.f25=some L.aQ:=by kernel_rfl
theorem F.aQ:Tryz.prog.funcs[N.aQ]? = some Tryz.f25:=Tryz.func25
abbrev N.du:Nat:=26
def L.du.l2:LC:=
 (.seq (.seq (.reg false (.fin [24,25,26,27] [(27,.bin (.cmp .lss) (.tmp 8) (.un .len (.tmp 7)))] [])) (.cond (.tmp 27) [27] .skip (.exit 2))) (.seq (.block 3 (.seq (.reg false (.fin [30,31,32,33,34,35] [(35,.bin (.cmp .eql) (.un .load (.bin (.idx 1) (.tmp 7) (.tmp 8))) (.tmp 1))] [])) (.cond (.tmp 35) [35] (.seq (.reg false (.loud [36,37] [(36,.tmp 5)] [(37,.tmp 6)] none [] false (.buildSlice 22 1 #[(0,.tmp 37)]) 22 (some 38) true (.loud [] [] [(36,.tmp 36),(38,.tmp 38)] none [] false (.call ⟨.builtin .append,#[.tmp 36,.tmp 38],#[22,22]⟩) 22 (some 39) true (.fin [5] [(5,.tmp 39)] [])))) (.exit 2)) .skip))) (.reg false (.fin [28,29,8] [(8,.bin (.arith .add) (.tmp 8) (.con (.int .i64 1)))] []))))
def L.du.l1:LC:=
 (.seq (.seq (.reg false (.fin [10,11,12,13,14] [(14,(.bin (.cmp .lss) (.tmp 6) (.un .len (.un .load (.un (.fld 1) (.tmp 2))))))] [])) (.cond (.tmp 14) [14] .skip (.exit 0))) (.seq (.block 1 (.seq (.reg false (.fin [17,18,19,20,21,22,23,7] [(7,(.un .load (.un (.fld 2) (.un (.fld 2) (.bin (.idx 6) (.un .load (.un (.fld 1) (.tmp 2))) (.tmp 6))))))] [])) (.seq (.reg false (.fin [8] [(8,.con (.int .i64 0))] [])) (.block 2 (.loop L.du.l2))))) (.reg false (.fin [15,16,6] [(6,.bin (.arith .add) (.tmp 6) (.con (.int .i64 1)))] []))))
def L.du:LFn:=
⟨[.tmp 4],(.seq (.reg false (.loud [] [] [(0,.tmp 0)] none [] false (.box 28 (.tmp 0)) 0 (some 2) true (.fin [4] [(4,.con (.slice none 0 0))] []))) (.seq (.reg false (.loud [] [] [] none [] false (.buildSlice 22 0 #[]) 22 (some 9) true (.fin [5] [(5,.tmp 9)] []))) (.seq (.seq (.reg false (.fin [6] [(6,.con (.int .i64 0))] [])) (.block 0 (.loop L.du.l1))) (.seq (.reg false (.fin [40,4] [(4,.tmp 5)] [])) .ret))))⟩
theorem E.du:bh Tryz.prog Tryz.f26=some L.du:=by kernel_rfl
theorem F.du:Tryz.prog.funcs[N.du]? = some Tryz.f26:=Tryz.func26
abbrev N.bE:Nat:=27
def L.bE:LFn:=
⟨[.tmp 2],(.seq (.reg false (.fin [2] [(2,.con (.int .i64 0))] [])) (.seq (.reg false (.loud [3,4,5,6,7,8,9,10] [] [(10,.un (.fld 4) (.un .nilPtr (.tmp 0))),(8,(.bin (.arith .add) (.un .load (.un (.fld 4) (.un .nilPtr (.tmp 0)))) (.con (.int .i64 1))))] none [] false (.store 3 (.tmp 10) (.tmp 8)) 0 none false (.fin [] [] []))) (.seq (.reg false (.fin [11,12,13,14,15,2] [(2,(.bin (.arith .sub) (.un .load (.un (.fld 4) (.un .nilPtr (.tmp 0)))) (.con (.int .i64 1))))] [])) .ret)))⟩
theorem E.bE:bh Tryz.prog Tryz.f27=some L.bE:=by kernel_rfl
theorem F.bE:Tryz.prog.funcs[N.bE]? = some Tryz.f27:=Tryz.func27
abbrev N.cw:Nat:=28
def L.cw.l2:LC:=
 (.seq (.seq (.reg false (.fin [44,45,46,47] [(47,.bin (.cmp .lss) (.tmp 9) (.un .len (.tmp 8)))] [])) (.cond (.tmp 47) [47] .skip (.exit 2))) (.seq (.block 3 (.seq (.reg false (.fin [50,51,52,53,54,55,56,57,58,59,60,61,62,63,64,65,66,67,68,69,70,71,72,73,74,75,76,77,78,79,80,81] [(81,(.ite (.ite (.ite (.bin (.cmp .geq) (.un .load (.bin (.idx 1) (.tmp 8) (.tmp 9))) (.con (.int .i64 0))) (.bin (.cmp .lss) (.un .load (.bin (.idx 1) (.tmp 8) (.tmp 9))) (.un .len (.tmp 5))) (.con (.bool false))) (.un .not (.un .load (.bin (.idx 1) (.tmp 5) (.un .load (.bin (.idx 1) (.tmp 8) (.tmp 9)))))) (.con (.bool false))) (.bin (.cmp .neq) (.un .load (.bin (.idx 1) (.tmp 8) (.tmp 9))) (.tmp 1)) (.con (.bool false))))] [])) (.cond (.tmp 81) [81] (.seq (.reg false (.loud [82,83,84,85,86,87] [] [(87,.bin (.idx 1) (.tmp 5) (.un .load (.bin (.idx 1) (.tmp 8) (.tmp 9))))] none [] false (.store 4 (.tmp 87) (.const (.bool true))) 0 none false (.fin [] [] []))) (.reg false (.loud [88,89,90,91,92] [(88,.tmp 6)] [(92,.un .load (.bin (.idx 1) (.tmp 8) (.tmp 9)))] none [] false (.buildSlice 22 1 #[(0,.tmp 92)]) 22 (some 93) true (.loud [] [] [(88,.tmp 88),(93,.tmp 93)] none [] false (.call ⟨.builtin .append,#[.tmp 88,.tmp 93],#[22,22]⟩) 22 (some 94) true (.fin [6] [(6,.tmp 94)] []))))) .skip))) (.reg false (.fin [48,49,9] [(9,.bin (.arith .add) (.tmp 9) (.con (.int .i64 1)))] []))))
def L.cw.l1:LC:=
 (.seq (.seq (.reg false (.fin [28,29,30,31] [(31,.bin (.cmp .lss) (.tmp 7) (.un .len (.tmp 6)))] [])) (.cond (.tmp 31) [31] .skip (.exit 0))) (.seq (.block 1 (.seq (.reg true (.fin [34,35,36,37,38,39,40,41,42,43,8] [(8,(.un .load (.un (.fld 2) (.un (.fld 2) (.bin (.idx 6) (.un .load (.un (.fld 1) (.tmp 2))) (.un .load (.bin (.idx 1) (.tmp 6) (.tmp 7))))))))] [])) (.seq (.reg false (.fin [9] [(9,.con (.int .i64 0))] [])) (.block 2 (.loop L.cw.l2))))) (.reg false (.fin [32,33,7] [(7,.bin (.arith .add) (.tmp 7) (.con (.int .i64 1)))] []))))
def L.cw:LFn:=
⟨[.tmp 4],(.seq (.reg false (.loud [] [] [(0,.tmp 0)] none [] false (.box 28 (.tmp 0)) 0 (some 2) true (.fin [4] [(4,.con (.slice none 0 0))] []))) (.seq (.reg false (.loud [10,11,12] [] [(12,.un .len (.un .load (.un (.fld 1) (.tmp 2)))),(12,.un .len (.un .load (.un (.fld 1) (.tmp 2))))] none [] false (.makeSlice 73 (.tmp 12) (.tmp 12)) 73 (some 13) true (.fin [5] [(5,.tmp 13)] []))) (.seq (.reg false (.loud [] [] [] none [] false (.buildSlice 22 0 #[]) 22 (some 14) true (.fin [6] [(6,.tmp 14)] []))) (.seq (.seq (.reg false (.fin [15,16,17,18,19,20,21,22] [(22,(.ite (.bin (.cmp .neq) (.tmp 1) (.con (.int .i64 0))) (.bin (.cmp .gtr) (.un .len (.un .load (.un (.fld 1) (.tmp 2)))) (.con (.int .i64 0))) (.con (.bool false))))] [])) (.cond (.tmp 22) [22] (.seq (.reg false (.loud [23,24] [] [(24,.bin (.idx 1) (.tmp 5) (.con (.int .i64 0)))] none [] false (.store 4 (.tmp 24) (.const (.bool true))) 0 none false (.fin [] [] []))) (.reg false (.loud [25] [(25,.tmp 6)] [] none [] false (.buildSlice 22 1 #[(0,.const (.int .i64 0))]) 22 (some 26) true (.loud [] [] [(25,.tmp 25),(26,.tmp 26)] none [] false (.call ⟨.builtin .append,#[.tmp 25,.tmp 26],#[22,22]⟩) 22 (some 27) true (.fin [6] [(6,.tmp 27)] []))))) .skip)) (.seq (.seq (.reg false (.fin [7] [(7,.con (.int .i64 0))] [])) (.block 0 (.loop L.cw.l1))) (.seq (.reg false (.fin [95,4] [(4,.tmp 5)] [])) .ret))))))⟩
theorem E.cw:bh Tryz.prog Tryz.f28=some L.cw:=by kernel_rfl
theorem F.cw:Tryz.prog.funcs[N.cw]? = some Tryz.f28:=Tryz.func28
abbrev N.fh:Nat:=29
def L.fh:LFn:=
⟨[.tmp 2],(.seq (.reg false (.loud [] [] [(0,.tmp 0)] none [] false (.box 78 (.tmp 0)) 0 (some 1) true (.fin [2] [(2,.con (.slice none 0 0))] []))) (.seq (.seq (.reg false (.fin [3,4] [(4,.un .load (.un (.fld 0) (.tmp 1)))] [])) (.block 0 (.seq (.reg false (.fin [6,5] [(5,.bin (.cmp .eql) (.tmp 4) (.con (.int .i64 16)))] [])) (.cond (.tmp 5) [5] (.seq (.reg false (.fin [2] [(2,.con (.slice none 0 0))] [])) .ret) (.seq (.reg false (.fin [8,7] [(7,.bin (.cmp .eql) (.tmp 4) (.con (.int .i64 18)))] [])) (.cond (.tmp 7) [7] (.seq (.reg false (.loud [9,10,11,12] [] [(10,.un .load (.un (.fld 1) (.tmp 1))),(12,.un .load (.un (.fld 2) (.tmp 1)))] none [] false (.buildSlice 22 2 #[(0,.tmp 10),(1,.tmp 12)]) 22 (some 13) true (.fin [2] [(2,.tmp 13)] []))) .ret) .skip)))))) (.seq (.reg false (.loud [14,15] [] [(15,.un .load (.un (.fld 1) (.tmp 1)))] none [] false (.buildSlice 22 1 #[(0,.tmp 15)]) 22 (some 16) true (.fin [2] [(2,.tmp 16)] []))) .ret)))⟩
theorem E.fh:bh Tryz.prog Tryz.f29=some L.fh:=by kernel_rfl
theorem F.fh:Tryz.prog.funcs[N.fh]? = some Tryz.f29:=Tryz.func29
abbrev N.aZ:Nat:=30
def L.aZ.l1:LC:=
 (.seq (.seq (.reg false (.fin [120,121,122] [(122,.bin (.cmp .lss) (.tmp 14) (.tmp 13))] [])) (.cond (.tmp 122) [122] .skip (.exit 1))) (.seq (.block 2 (.reg false (.loud [125,126,127] [(125,.tmp 12)] [(126,.tmp 0),(127,.tmp 1)] none [] false (.call ⟨.value (.func 55),#[.tmp 126,.tmp 127],#[66,3]⟩) 3 (some 128) true (.loud [] [] [(128,.tmp 128)] none [] false (.buildSlice 22 1 #[(0,.tmp 128)]) 22 (some 129) true (.loud [] [] [(125,.tmp 125),(129,.tmp 129)] none [] false (.call ⟨.builtin .append,#[.tmp 125,.tmp 129],#[22,22]⟩) 22 (some 130) true (.fin [12] [(12,.tmp 130)] [])))))) (.reg false (.fin [123,124,14] [(14,.bin (.arith .add) (.tmp 14) (.con (.int .i64 1)))] []))))
def L.aZ:LFn:=
⟨[],(.seq (.reg false (.loud [18] [] [(18,.tmp 0)] none [] false (.call ⟨.value (.func 24),#[.tmp 18,.const (.int .i64 20)],#[66,3]⟩) 3 (some 19) true (.fin [4] [(4,.tmp 19)] []))) (.block 0 (.seq (.reg false (.fin [26,27,25] [(25,.bin (.cmp .lss) (.tmp 4) (.con (.int .i64 12)))] [])) (.cond (.tmp 25) [25] (.seq (.reg false (.loud [] [] [] none [] false (.build 115 #[(0,.const (.int .i64 2)),(1,.const (.int .i64 2)),(2,.const (.int .i64 3)),(3,.const (.int .i64 4)),(4,.const (.int .i64 5)),(5,.const (.int .i64 6)),(6,.const (.int .i64 7)),(7,.const (.int .i64 8)),(8,.const (.int .i64 9)),(9,.const (.int .i64 10)),(10,.const (.int .i64 12)),(11,.const (.int .i64 11))]) 115 (some 28) true (.loud [] [] [] none [] false (.alloc 115) 0 (some 5) true (.loud [] [] [(5,.tmp 5),(28,.tmp 28)] none [] false (.store 115 (.tmp 5) (.tmp 28)) 0 none false (.fin [] [] []))))) (.seq (.reg false (.loud [29,30] [] [(29,.tmp 0),(30,.tmp 1)] none [] false (.call ⟨.value (.func 55),#[.tmp 29,.tmp 30],#[66,3]⟩) 3 (some 31) true (.fin [6] [(6,.tmp 31)] []))) (.seq (.reg false (.loud [32,33] [] [(32,.tmp 0),(33,.tmp 1)] none [] false (.call ⟨.value (.func 55),#[.tmp 32,.tmp 33],#[66,3]⟩) 3 (some 34) true (.fin [7] [(7,.tmp 34)] []))) (.seq (.seq (.reg false (.loud [35] [] [(35,.tmp 0)] none [] false (.call ⟨.value (.func 24),#[.tmp 35,.const (.int .i64 3)],#[66,3]⟩) 3 (some 36) true (.fin [37] [(37,.bin (.cmp .eql) (.tmp 36) (.con (.int .i64 0)))] []))) (.cond (.tmp 37) [37] (.reg false (.loud [38,39,40] [(38,.tmp 0),(39,.tmp 1)] [(40,.tmp 0)] none [] false (.call ⟨.value (.func 24),#[.tmp 40,.const (.int .i64 40)],#[66,3]⟩) 3 (some 41) true (.loud [42,43] [] [(38,.tmp 38),(39,.tmp 39),(43,.un (.conv .i32) (.bin (.arith .sub) (.tmp 41) (.con (.int .i64 8))))] none [] false (.call ⟨.value (.func 33),#[.tmp 38,.tmp 39,.tmp 43],#[66,3,21]⟩) 3 (some 44) true (.fin [7] [(7,.tmp 44)] [])))) .skip)) (.reg true (.both (.loud [45,46,47,48,49,50,52,53] [(45,.tmp 0),(46,.tmp 1),(49,.un .load (.bin (.aidx 12 1) (.tmp 5) (.tmp 4))),(52,.tmp 6),(53,.tmp 7)] [(50,.tmp 0)] none [] false (.call ⟨.value (.func 27),#[.tmp 50],#[66]⟩) 3 (some 51) true (.loud [] [] [(52,.tmp 52),(53,.tmp 53)] none [] false (.buildSlice 22 2 #[(0,.tmp 52),(1,.tmp 53)]) 22 (some 54) true (.loud [] [] [(49,.tmp 49),(51,.tmp 51),(54,.tmp 54)] none [] true (.build 78 #[(0,.tmp 49),(1,.tmp 51),(3,.tmp 54)]) 78 (some 55) true (.loud [] [] [(45,.tmp 45),(46,.tmp 46),(55,.tmp 55)] none [] false (.call ⟨.value (.func 56),#[.tmp 45,.tmp 46,.tmp 55],#[66,3,78]⟩) 0 (some 56) false (.fin [] [] []))))) (.loud [45,46,47,48,49,50,52,53] [(45,.tmp 0),(46,.tmp 1),(49,.un .load (.bin (.aidx 12 1) (.tmp 5) (.tmp 4))),(50,.tmp 0)] [(52,.tmp 6),(53,.tmp 7)] none [] false (.buildSlice 22 2 #[(0,.tmp 52),(1,.tmp 53)]) 22 (some 54) true (.loud [] [] [(50,.tmp 50)] none [] false (.call ⟨.value (.func 27),#[.tmp 50],#[66]⟩) 3 (some 51) true (.loud [] [] [(49,.tmp 49),(51,.tmp 51),(54,.tmp 54)] none [] true (.build 78 #[(0,.tmp 49),(1,.tmp 51),(3,.tmp 54)]) 78 (some 55) true (.loud [] [] [(45,.tmp 45),(46,.tmp 46),(55,.tmp 55)] none [] false (.call ⟨.value (.func 56),#[.tmp 45,.tmp 46,.tmp 55],#[66,3,78]⟩) 0 (some 56) false (.fin [] [] []))))))))))) (.seq (.reg false (.fin [58,59,57] [(57,.bin (.cmp .eql) (.tmp 4) (.con (.int .i64 12)))] [])) (.cond (.tmp 57) [57] (.seq (.reg false (.loud [60,61] [] [(60,.tmp 0),(61,.tmp 1)] none [] false (.call ⟨.value (.func 55),#[.tmp 60,.tmp 61],#[66,3]⟩) 3 (some 62) true (.fin [8] [(8,.tmp 62)] []))) (.seq (.reg false (.loud [63,64] [] [(63,.tmp 0),(64,.tmp 1)] none [] false (.call ⟨.value (.func 55),#[.tmp 63,.tmp 64],#[66,3]⟩) 3 (some 65) true (.fin [9] [(9,.tmp 65)] []))) (.reg false (.loud [66,67,68] [(66,.tmp 0),(67,.tmp 1)] [(68,.tmp 0)] none [] false (.call ⟨.value (.func 27),#[.tmp 68],#[66]⟩) 3 (some 69) true (.loud [70,71] [] [(70,.tmp 8),(71,.tmp 9)] none [] false (.buildSlice 22 2 #[(0,.tmp 70),(1,.tmp 71)]) 22 (some 72) true (.loud [] [] [(69,.tmp 69),(72,.tmp 72)] none [] false (.build 78 #[(0,.const (.int .i64 13)),(1,.tmp 69),(3,.tmp 72)]) 78 (some 73) true (.loud [] [] [(66,.tmp 66),(67,.tmp 67),(73,.tmp 73)] none [] false (.call ⟨.value (.func 56),#[.tmp 66,.tmp 67,.tmp 73],#[66,3,78]⟩) 0 (some 74) false (.fin [] [] [])))))))) (.seq (.reg false (.fin [76,77,75] [(75,.bin (.cmp .eql) (.tmp 4) (.con (.int .i64 13)))] [])) (.cond (.tmp 75) [75] (.seq (.reg false (.loud [78,79] [] [(78,.tmp 0),(79,.tmp 1)] none [] false (.call ⟨.value (.func 55),#[.tmp 78,.tmp 79],#[66,3]⟩) 3 (some 80) true (.fin [10] [(10,.tmp 80)] []))) (.seq (.reg false (.loud [81,82,83] [(81,.tmp 0),(82,.tmp 1)] [(83,.tmp 0)] none [] false (.call ⟨.value (.func 24),#[.tmp 83,.const (.int .i64 12)],#[66,3]⟩) 3 (some 84) true (.loud [85] [] [(81,.tmp 81),(82,.tmp 82),(85,.un (.conv .i32) (.tmp 84))] none [] false (.call ⟨.value (.func 33),#[.tmp 81,.tmp 82,.tmp 85],#[66,3,21]⟩) 3 (some 86) true (.fin [11] [(11,.tmp 86)] [])))) (.seq (.seq (.reg false (.loud [87] [] [(87,.tmp 0)] none [] false (.call ⟨.value (.func 24),#[.tmp 87,.const (.int .i64 3)],#[66,3]⟩) 3 (some 88) true (.fin [89] [(89,.bin (.cmp .gtr) (.tmp 88) (.con (.int .i64 0)))] []))) (.cond (.tmp 89) [89] (.reg false (.loud [90,91,92] [(90,.tmp 0),(91,.tmp 1)] [(92,.tmp 0)] none [] false (.call ⟨.value (.func 24),#[.tmp 92,.const (.int .i64 12)],#[66,3]⟩) 3 (some 93) true (.loud [94,95] [] [(90,.tmp 90),(91,.tmp 91),(95,.bin (.arith .add) (.con (.int .i32 1)) (.un (.conv .i32) (.tmp 93)))] none [] false (.call ⟨.value (.func 33),#[.tmp 90,.tmp 91,.tmp 95],#[66,3,21]⟩) 3 (some 96) true (.fin [11] [(11,.tmp 96)] [])))) .skip)) (.reg false (.loud [97,98,99] [(97,.tmp 0),(98,.tmp 1)] [(99,.tmp 0)] none [] false (.call ⟨.value (.func 27),#[.tmp 99],#[66]⟩) 3 (some 100) true (.loud [101,102] [] [(101,.tmp 10),(102,.tmp 11)] none [] false (.buildSlice 22 2 #[(0,.tmp 101),(1,.tmp 102)]) 22 (some 103) true (.loud [] [] [(100,.tmp 100),(103,.tmp 103)] none [] false (.build 78 #[(0,.const (.int .i64 14)),(1,.tmp 100),(3,.tmp 103)]) 78 (some 104) true (.loud [] [] [(97,.tmp 97),(98,.tmp 98),(104,.tmp 104)] none [] false (.call ⟨.value (.func 56),#[.tmp 97,.tmp 98,.tmp 104],#[66,3,78]⟩) 0 (some 105) false (.fin [] [] []))))))))) (.seq (.reg false (.fin [107,108,106] [(106,.bin (.cmp .lss) (.tmp 4) (.con (.int .i64 16)))] [])) (.cond (.tmp 106) [106] (.reg false (.loud [109,110,111,112] [] [(109,.tmp 0),(110,.tmp 1),(112,.bin (.cmp .eql) (.tmp 4) (.con (.int .i64 15)))] none [] false (.call ⟨.value (.func 57),#[.tmp 109,.tmp 110,.tmp 112],#[66,3,4]⟩) 0 (some 113) false (.fin [] [] []))) (.seq (.reg false (.fin [115,116,114] [(114,.bin (.cmp .eql) (.tmp 4) (.con (.int .i64 16)))] [])) (.cond (.tmp 114) [114] (.seq (.reg false (.loud [] [] [] none [] false (.buildSlice 22 0 #[]) 22 (some 117) true (.fin [12] [(12,.tmp 117)] []))) (.seq (.reg false (.loud [118] [] [(118,.tmp 0)] none [] false (.call ⟨.value (.func 24),#[.tmp 118,.const (.int .i64 5)],#[66,3]⟩) 3 (some 119) true (.fin [13] [(13,.tmp 119)] []))) (.seq (.seq (.reg false (.fin [14] [(14,.con (.int .i64 0))] [])) (.block 1 (.loop L.aZ.l1))) (.reg false (.loud [131,132,133] [(131,.tmp 0),(132,.tmp 1)] [(133,.tmp 0)] none [] false (.call ⟨.value (.func 27),#[.tmp 133],#[66]⟩) 3 (some 134) true (.loud [135,136] [(135,.tmp 12)] [(136,.tmp 0)] none [] false (.call ⟨.value (.func 24),#[.tmp 136,.const (.int .i64 5)],#[66,3]⟩) 3 (some 137) true (.loud [138] [] [(134,.tmp 134),(135,.tmp 135),(138,.un (.conv .i32) (.tmp 137))] none [] false (.build 78 #[(0,.const (.int .i64 17)),(1,.tmp 134),(3,.tmp 135),(4,.tmp 138)]) 78 (some 139) true (.loud [] [] [(131,.tmp 131),(132,.tmp 132),(139,.tmp 139)] none [] false (.call ⟨.value (.func 56),#[.tmp 131,.tmp 132,.tmp 139],#[66,3,78]⟩) 0 (some 140) false (.fin [] [] []))))))))) (.seq (.reg false (.fin [142,143,141] [(141,.bin (.cmp .eql) (.tmp 4) (.con (.int .i64 17)))] [])) (.cond (.tmp 141) [141] (.seq (.reg false (.loud [144,145] [] [(144,.tmp 0),(145,.tmp 1)] none [] false (.call ⟨.value (.func 55),#[.tmp 144,.tmp 145],#[66,3]⟩) 3 (some 146) true (.fin [15] [(15,.tmp 146)] []))) (.seq (.reg false (.loud [147,148] [] [(147,.tmp 0),(148,.tmp 1)] none [] false (.call ⟨.value (.func 55),#[.tmp 147,.tmp 148],#[66,3]⟩) 3 (some 149) true (.fin [16] [(16,.tmp 149)] []))) (.seq (.reg false (.loud [150] [] [(150,.tmp 0)] none [] false (.call ⟨.value (.func 27),#[.tmp 150],#[66]⟩) 3 (some 151) true (.fin [17] [(17,.tmp 151)] []))) (.reg false (.loud [152,153,154,155] [(152,.tmp 0),(153,.tmp 1),(154,.tmp 17)] [(155,.tmp 0)] none [] false (.call ⟨.value (.func 27),#[.tmp 155],#[66]⟩) 3 (some 156) true (.loud [157,158] [] [(157,.tmp 15),(158,.tmp 16)] none [] false (.buildSlice 22 2 #[(0,.tmp 157),(1,.tmp 158)]) 22 (some 159) true (.loud [] [] [(154,.tmp 154),(156,.tmp 156),(159,.tmp 159)] none [] false (.build 78 #[(0,.const (.int .i64 18)),(1,.tmp 154),(2,.tmp 156),(3,.tmp 159)]) 78 (some 160) true (.loud [] [] [(152,.tmp 152),(153,.tmp 153),(160,.tmp 160)] none [] false (.call ⟨.value (.func 56),#[.tmp 152,.tmp 153,.tmp 160],#[66,3,78]⟩) 0 (some 161) false (.fin [] [] []))))))))) (.reg false (.loud [20,21,22] [(20,.tmp 0),(21,.tmp 1)] [(22,.tmp 0)] none [] false (.call ⟨.value (.func 34),#[.tmp 22],#[66]⟩) 21 (some 23) true (.loud [] [] [(20,.tmp 20),(21,.tmp 21),(23,.tmp 23)] none [] false (.call ⟨.value (.func 33),#[.tmp 20,.tmp 21,.tmp 23],#[66,3,21]⟩) 3 (some 24) false (.fin [] [] []))))))))))))))))))⟩
theorem E.aZ:bh Tryz.prog Tryz.f30=some L.aZ:=by kernel_rfl
theorem F.aZ:Tryz.prog.funcs[N.aZ]? = some Tryz.f30:=Tryz.func30
abbrev N.dk:Nat:=31
def L.dk:LFn:=
⟨[],(.seq (.reg false (.loud [] [] [] none [] false (.build 46 #[]) 46 (some 15) true (.loud [] [] [] none [] false (.alloc 46) 0 (some 6) true (.loud [] [] [(6,.tmp 6),(15,.tmp 15)] none [] false (.store 46 (.tmp 6) (.tmp 15)) 0 none false (.fin [] [] []))))) (.seq (.seq (.reg false (.fin [16,17] [(17,.un .len (.tmp 2))] [])) (.block 0 (.seq (.reg false (.fin [41,40] [(40,.bin (.cmp .eql) (.tmp 17) (.con (.int .i64 0)))] [])) (.cond (.tmp 40) [40] (.seq (.reg false (.loud [42] [] [(42,.un (.fld 0) (.tmp 6))] none [] false (.store 3 (.tmp 42) (.const (.int .i64 4))) 0 none false (.fin [] [] []))) (.seq (.reg false (.loud [43] [] [(43,.tmp 0)] none [] false (.call ⟨.value (.func 24),#[.tmp 43,.const (.int .i64 8)],#[66,3]⟩) 3 (some 44) true (.fin [7] [(7,.tmp 44)] []))) (.seq (.reg false (.fin [45,46] [(46,.bin (.cmp .eql) (.tmp 7) (.con (.int .i64 0)))] [])) (.cond (.tmp 46) [46] (.seq (.reg false (.loud [47] [] [(47,.un (.fld 0) (.tmp 6))] none [] false (.store 3 (.tmp 47) (.const (.int .i64 5))) 0 none false (.fin [] [] []))) (.reg false (.loud [48] [] [(48,.tmp 0)] none [] false (.call ⟨.value (.func 24),#[.tmp 48,.const (.int .i64 200)],#[66,3]⟩) 3 (some 49) true (.loud [50,51] [] [(51,.un (.fld 3) (.tmp 6)),(50,.un (.conv .i32) (.tmp 49))] none [] false (.store 21 (.tmp 51) (.tmp 50)) 0 none false (.fin [] [] []))))) (.seq (.reg false (.fin [52,53] [(53,.bin (.cmp .gtr) (.tmp 7) (.con (.int .i64 1)))] [])) (.cond (.tmp 53) [53] (.reg false (.loud [54,55] [] [(54,.tmp 0),(55,.tmp 1)] none [] false (.call ⟨.value (.func 55),#[.tmp 54,.tmp 55],#[66,3]⟩) 3 (some 56) true (.loud [] [] [(56,.tmp 56)] none [] false (.buildSlice 22 1 #[(0,.tmp 56)]) 22 (some 57) true (.loud [58] [] [(58,.un (.fld 1) (.tmp 6)),(57,.tmp 57)] none [] false (.store 22 (.tmp 58) (.tmp 57)) 0 none false (.fin [] [] []))))) .skip)))))) (.seq (.reg false (.fin [60,59] [(59,.bin (.cmp .eql) (.tmp 17) (.con (.int .i64 1)))] [])) (.cond (.tmp 59) [59] (.seq (.reg false (.loud [61] [] [(61,.un (.fld 0) (.tmp 6))] none [] false (.store 3 (.tmp 61) (.const (.int .i64 1))) 0 none false (.fin [] [] []))) (.reg false (.loud [62,63] [] [(63,.un (.fld 2) (.tmp 6)),(62,.tmp 2)] none [] false (.store 22 (.tmp 63) (.tmp 62)) 0 none false (.fin [] [] [])))) (.seq (.reg false (.fin [65,64] [(64,.bin (.cmp .eql) (.tmp 17) (.con (.int .i64 2)))] [])) (.cond (.tmp 64) [64] (.seq (.reg false (.loud [66] [] [(66,.un (.fld 0) (.tmp 6))] none [] false (.store 3 (.tmp 66) (.const (.int .i64 2))) 0 none false (.fin [] [] []))) (.seq (.reg false (.loud [67,68] [] [(68,.un (.fld 2) (.tmp 6)),(67,.tmp 2)] none [] false (.store 22 (.tmp 68) (.tmp 67)) 0 none false (.fin [] [] []))) (.seq (.reg false (.loud [69,70] [] [(69,.tmp 0),(70,.tmp 1)] none [] false (.call ⟨.value (.func 55),#[.tmp 69,.tmp 70],#[66,3]⟩) 3 (some 71) true (.fin [8] [(8,.tmp 71)] []))) (.seq (.seq (.reg false (.loud [72] [] [(72,.tmp 0)] none [] false (.call ⟨.value (.func 24),#[.tmp 72,.const (.int .i64 2)],#[66,3]⟩) 3 (some 73) true (.fin [74] [(74,.bin (.cmp .eql) (.tmp 73) (.con (.int .i64 0)))] []))) (.cond (.tmp 74) [74] (.seq (.reg false (.loud [] [] [] none [] false (.build 23 #[(0,.const (.int .i64 11)),(1,.const (.int .i64 12)),(2,.const (.int .i64 13))]) 23 (some 75) true (.loud [] [] [] none [] false (.alloc 23) 0 (some 9) true (.loud [] [] [(9,.tmp 9),(75,.tmp 75)] none [] false (.store 23 (.tmp 9) (.tmp 75)) 0 none false (.fin [] [] []))))) (.seq (.reg false (.loud [76,77] [] [(76,.tmp 0),(77,.tmp 1)] none [] false (.call ⟨.value (.func 55),#[.tmp 76,.tmp 77],#[66,3]⟩) 3 (some 78) true (.fin [10] [(10,.tmp 78)] []))) (.seq (.reg false (.loud [79] [] [(79,.tmp 0)] none [] false (.call ⟨.value (.func 27),#[.tmp 79],#[66]⟩) 3 (some 80) true (.fin [11] [(11,.tmp 80)] []))) (.seq (.reg false (.loud [81,82,83] [(81,.tmp 0),(82,.tmp 1)] [(83,.tmp 0)] none [] false (.call ⟨.value (.func 24),#[.tmp 83,.const (.int .i64 3)],#[66,3]⟩) 3 (some 84) true (.loud [85,86,87,88,89] [(86,.un .load (.bin (.aidx 3 1) (.tmp 9) (.tmp 84))),(87,.tmp 11)] [(88,.tmp 8),(89,.tmp 10)] none [] false (.buildSlice 22 2 #[(0,.tmp 88),(1,.tmp 89)]) 22 (some 90) true (.loud [] [] [(86,.tmp 86),(87,.tmp 87),(90,.tmp 90)] none [] false (.build 78 #[(0,.tmp 86),(1,.tmp 87),(3,.tmp 90)]) 78 (some 91) true (.loud [] [] [(81,.tmp 81),(82,.tmp 82),(91,.tmp 91)] none [] false (.call ⟨.value (.func 56),#[.tmp 81,.tmp 82,.tmp 91],#[66,3,78]⟩) 0 (some 92) false (.fin [] [] [])))))) (.reg false (.fin [93,8] [(8,.tmp 11)] [])))))) .skip)) (.reg false (.loud [94] [] [(94,.tmp 8)] none [] false (.buildSlice 22 1 #[(0,.tmp 94)]) 22 (some 95) true (.loud [96] [] [(96,.un (.fld 1) (.tmp 6)),(95,.tmp 95)] none [] false (.store 22 (.tmp 96) (.tmp 95)) 0 none false (.fin [] [] [])))))))) (.seq (.reg false (.loud [18] [] [(18,.un (.fld 0) (.tmp 6))] none [] false (.store 3 (.tmp 18) (.const (.int .i64 3))) 0 none false (.fin [] [] []))) (.seq (.reg false (.loud [19,20] [] [(20,.un (.fld 2) (.tmp 6)),(19,.tmp 2)] none [] false (.store 22 (.tmp 20) (.tmp 19)) 0 none false (.fin [] [] []))) (.seq (.reg false (.loud [21,22] [] [(21,.tmp 0),(22,.tmp 1)] none [] false (.call ⟨.value (.func 55),#[.tmp 21,.tmp 22],#[66,3]⟩) 3 (some 23) true (.fin [12] [(12,.tmp 23)] []))) (.seq (.reg false (.loud [24,25] [] [(24,.tmp 0),(25,.tmp 1)] none [] false (.call ⟨.value (.func 33),#[.tmp 24,.tmp 25,.const (.int .i32 7)],#[66,3,21]⟩) 3 (some 26) true (.fin [13] [(13,.tmp 26)] []))) (.seq (.reg false (.loud [27] [] [(27,.tmp 0)] none [] false (.call ⟨.value (.func 27),#[.tmp 27],#[66]⟩) 3 (some 28) true (.fin [14] [(14,.tmp 28)] []))) (.seq (.reg false (.loud [29,30,31,32,33] [(29,.tmp 0),(30,.tmp 1),(31,.tmp 14)] [(32,.tmp 12),(33,.tmp 13)] none [] false (.buildSlice 22 2 #[(0,.tmp 32),(1,.tmp 33)]) 22 (some 34) true (.loud [] [] [(31,.tmp 31),(34,.tmp 34)] none [] false (.build 78 #[(0,.const (.int .i64 5)),(1,.tmp 31),(3,.tmp 34)]) 78 (some 35) true (.loud [] [] [(29,.tmp 29),(30,.tmp 30),(35,.tmp 35)] none [] false (.call ⟨.value (.func 56),#[.tmp 29,.tmp 30,.tmp 35],#[66,3,78]⟩) 0 (some 36) false (.fin [] [] []))))) (.reg false (.loud [37] [] [(37,.tmp 14)] none [] false (.buildSlice 22 1 #[(0,.tmp 37)]) 22 (some 38) true (.loud [39] [] [(39,.un (.fld 1) (.tmp 6)),(38,.tmp 38)] none [] false (.store 22 (.tmp 39) (.tmp 38)) 0 none false (.fin [] [] [])))))))))))))))))) (.reg true (.loud [97,98,99,100,101,102,103,104,105] [] [(105,(.un (.fld 2) (.bin (.idx 6) (.un .load (.un (.fld 1) (.un (.fld 2) (.un .nilPtr (.tmp 0))))) (.tmp 1)))),(103,.un (.au 4) (.tmp 6))] none [] true (.store 46 (.tmp 105) (.tmp 103)) 0 none false (.fin [] [] [])))))⟩
theorem E.dk:bh Tryz.prog Tryz.f31=some L.dk:=by kernel_rfl
theorem F.dk:Tryz.prog.funcs[N.dk]? = some Tryz.f31:=Tryz.func31
abbrev N.cm:Nat:=32
def L.cm.l1:LC:=
 (.seq (.seq (.reg false (.fin [12,13,14,15] [(15,.bin (.cmp .lss) (.tmp 6) (.un .load (.un (.fld 0) (.tmp 2))))] [])) (.cond (.tmp 15) [15] .skip (.exit 0))) (.seq (.block 1 (.reg false (.loud [18,19] [(18,.tmp 5)] [(19,.tmp 6)] none [] false (.buildSlice 22 1 #[(0,.tmp 19)]) 22 (some 20) true (.loud [] [] [(18,.tmp 18),(20,.tmp 20)] none [] false (.call ⟨.builtin .append,#[.tmp 18,.tmp 20],#[22,22]⟩) 22 (some 21) true (.fin [5] [(5,.tmp 21)] []))))) (.reg false (.fin [16,17,6] [(6,.bin (.arith .add) (.tmp 6) (.con (.int .i64 1)))] []))))
def L.cm.l2:LC:=
 (.seq (.seq (.reg false (.fin [24,25,26,27] [(27,.bin (.cmp .lss) (.tmp 8) (.un .len (.tmp 7)))] [])) (.cond (.tmp 27) [27] .skip (.exit 2))) (.seq (.block 3 (.seq (.reg false (.fin [9] [(9,.con (.bool true))] [])) (.seq (.seq (.reg false (.fin [30,31,32,33,34,35,36] [(36,(.bin (.cmp .neq) (.un .load (.un (.fld 0) (.bin (.idx 4) (.tmp 7) (.tmp 8)))) (.tmp 1)))] [])) (.cond (.tmp 36) [36] (.seq (.reg true (.loud [37,38,39,40,41,42] [] [(37,.un (.au 2) (.tmp 2)),(42,.un .load (.un (.fld 0) (.bin (.idx 4) (.tmp 7) (.tmp 8))))] none [] true (.call ⟨.value (.func 28),#[.tmp 37,.tmp 42],#[28,3]⟩) 73 (some 43) true (.fin [10] [(10,.tmp 43)] []))) (.reg false (.fin [44,45,46,47,48,9] [(9,.un .not (.un .load (.bin (.idx 1) (.tmp 10) (.tmp 1))))] []))) .skip)) (.seq (.reg false (.fin [49] [(49,.tmp 9)] [])) (.cond (.tmp 49) [49] (.reg false (.loud [50,51,52,53,54,55] [] [(50,.tmp 5),(55,.un .load (.un (.fld 2) (.bin (.idx 4) (.tmp 7) (.tmp 8))))] none [] false (.call ⟨.builtin .append,#[.tmp 50,.tmp 55],#[22,22]⟩) 22 (some 56) true (.fin [5] [(5,.tmp 56)] []))) .skip))))) (.reg false (.fin [28,29,8] [(8,.bin (.arith .add) (.tmp 8) (.con (.int .i64 1)))] []))))
def L.cm:LFn:=
⟨[.tmp 4],(.seq (.reg false (.loud [] [] [(0,.tmp 0)] none [] false (.box 28 (.tmp 0)) 0 (some 2) true (.fin [4] [(4,.con (.slice none 0 0))] []))) (.seq (.reg false (.loud [] [] [] none [] false (.buildSlice 22 0 #[]) 22 (some 11) true (.fin [5] [(5,.tmp 11)] []))) (.seq (.seq (.reg false (.fin [6] [(6,.con (.int .i64 0))] [])) (.block 0 (.loop L.cm.l1))) (.seq (.reg false (.loud [22] [] [(22,.un (.au 2) (.tmp 2))] none [] false (.call ⟨.value (.func 58),#[.tmp 22],#[28]⟩) 118 (some 23) true (.fin [7] [(7,.tmp 23)] []))) (.seq (.seq (.reg false (.fin [8] [(8,.con (.int .i64 0))] [])) (.block 2 (.loop L.cm.l2))) (.seq (.reg false (.fin [57,4] [(4,.tmp 5)] [])) .ret))))))⟩
theorem E.cm:bh Tryz.prog Tryz.f32=some L.cm:=by kernel_rfl
theorem F.cm:Tryz.prog.funcs[N.cm]? = some Tryz.f32:=Tryz.func32
abbrev N.bn:Nat:=33
def L.bn:LFn:=
⟨[.tmp 6],(.seq (.reg false (.fin [6] [(6,.con (.int .i64 0))] [])) (.seq (.reg false (.loud [8] [] [(8,.tmp 0)] none [] false (.call ⟨.value (.func 27),#[.tmp 8],#[66]⟩) 3 (some 9) true (.fin [7] [(7,.tmp 9)] []))) (.seq (.reg false (.loud [10,11,12,13] [(10,.tmp 0),(11,.tmp 1)] [(12,.tmp 7),(13,.tmp 2)] none [] false (.build 78 #[(0,.const (.int .i64 1)),(1,.tmp 12),(4,.tmp 13)]) 78 (some 14) true (.loud [] [] [(10,.tmp 10),(11,.tmp 11),(14,.tmp 14)] none [] false (.call ⟨.value (.func 56),#[.tmp 10,.tmp 11,.tmp 14],#[66,3,78]⟩) 0 (some 15) false (.fin [] [] [])))) (.seq (.reg false (.fin [16,6] [(6,.tmp 7)] [])) .ret))))⟩
theorem E.bn:bh Tryz.prog Tryz.f33=some L.bn:=by kernel_rfl
theorem F.bn:Tryz.prog.funcs[N.bn]? = some Tryz.f33:=Tryz.func33
abbrev N.cd:Nat:=34
def L.cd:LFn:=
⟨[.tmp 2],(.seq (.reg false (.fin [2] [(2,.con (.int .i32 0))] [])) (.seq (.reg false (.loud [4] [] [(4,.tmp 0)] none [] false (.call ⟨.value (.func 24),#[.tmp 4,.const (.int .i64 1048576)],#[66,3]⟩) 3 (some 5) true (.fin [3] [(3,.tmp 5)] []))) (.seq (.seq (.reg false (.loud [6] [] [(6,.tmp 0)] none [] false (.call ⟨.value (.func 24),#[.tmp 6,.const (.int .i64 8)],#[66,3]⟩) 3 (some 7) true (.fin [] [] []))) (.block 0 (.seq (.reg false (.fin [9,8] [(8,.bin (.cmp .eql) (.tmp 7) (.con (.int .i64 0)))] [])) (.cond (.tmp 8) [8] (.seq (.reg false (.fin [10,11,12,2] [(2,.un (.conv .i32) (.bin (.arith .mul) (.tmp 3) (.con (.int .i64 4099))))] [])) .ret) (.seq (.reg false (.fin [14,13] [(13,.bin (.cmp .eql) (.tmp 7) (.con (.int .i64 1)))] [])) (.cond (.tmp 13) [13] (.seq (.reg false (.loud [15] [] [(15,.tmp 3)] none [] false (.unOp .neg 3 (.tmp 15)) 3 (some 16) true (.fin [17,2] [(2,.un (.conv .i32) (.tmp 16))] []))) .ret) (.seq (.reg false (.fin [19,18] [(18,.bin (.cmp .eql) (.tmp 7) (.con (.int .i64 2)))] [])) (.cond (.tmp 18) [18] (.seq (.reg false (.fin [2] [(2,.con (.int .i32 (-2147483648)))] [])) .ret) (.seq (.reg false (.fin [21,20] [(20,.bin (.cmp .eql) (.tmp 7) (.con (.int .i64 3)))] [])) (.cond (.tmp 20) [20] (.seq (.reg false (.fin [22,23,24,2] [(2,.un (.conv .i32) (.bin (.div .rem) (.tmp 3) (.con (.int .i64 70000))))] [])) .ret) .skip)))))))))) (.seq (.reg false (.fin [25,26,27,28,2] [(2,(.un (.conv .i32) (.bin (.arith .sub) (.bin (.div .rem) (.tmp 3) (.con (.int .i64 20))) (.con (.int .i64 4)))))] [])) .ret))))⟩
theorem E.cd:bh Tryz.prog Tryz.f34=some L.cd:=by kernel_rfl
theorem F.cd:Tryz.prog.funcs[N.cd]? = some Tryz.f34:=Tryz.func34
end Go.Proofs.YtbkdlhkoiagbbaaGreat
namespace Go.Proofs.YtbkdlhkoiagbbaaGreat
open Go Go.Lft
set_option maxRecDepth 100000
abbrev N.fy:Nat:=36
def R.fy:List E:=[.un .load (.tmp 2),.un .load (.tmp 3),.un .load (.tmp 4)]

def L.jw:LC:=
 (.reg false (.loud [] [] [(0,.tmp 0)] none [] false (.box 28 (.tmp 0)) 0 (some 1) true (.loud [] [] [] none [] false (.alloc 34) 0 (some 2) true (.loud [] [] [] none [] false (.alloc 3) 0 (some 3) true (.loud [] [] [] none [] false (.alloc 3) 0 (some 4) true (.fin [] [] []))))))
theorem E.jw:eJ Tryz.prog Tryz.f36.ntmps (gq Tryz.f36) (Ej Tryz.f36) false (wc Tryz.f36)=some L.jw:=by kernel_rfl
def L.gB.l1:LC:=
 (.seq (.reg false (.fin [26] [(26,.bin (.cmp .lss) (.tmp 25) (.tmp 24))] [])) (.seq (.cond (.tmp 26) [26] .skip (.exit 0)) (.seq (.block 1 (.seq (.reg false (.loud [27,28] [(28,.un (.au 6) (.bin (.idx 6) (.tmp 23) (.tmp 25)))] [] none [] false (.alloc 48) 0 (some 7) true (.loud [] [] [(7,.tmp 7),(28,.tmp 28)] none [] false (.store 48 (.tmp 7) (.tmp 28)) 0 none false (.fin [] [] [])))) (.reg false (.fin [29,30,31,32,33,34,35,36,37,5] [(5,(.bin (.arith .add) (.tmp 5) (.bin (.arith .add) (.un .len (.un .load (.un (.fld 0) (.tmp 7)))) (.un .len (.un .load (.un (.fld 1) (.tmp 7)))))))] [])))) (.reg false (.fin [38,25] [(25,.bin (.arith .add) (.tmp 25) (.con (.int .i64 1)))] [])))))
def L.gB:LC:=
 (.seq (.reg false (.loud [10,11] [] [(11,.un .load (.un (.fld 0) (.tmp 1)))] none [] false (.call ⟨.value (.func 66),#[.tmp 11,.const (.int .i64 0),.const (.int .i64 4)],#[3,3,3]⟩) 4 (some 12) true (.loud [] [] [(12,.tmp 12)] none [] false (.call ⟨.value (.func 65),#[.tmp 12,.const (.int .i64 1),.const (.int .i64 0),.const (.int .i64 0)],#[4,34,3,3]⟩) 0 (some 13) false (.fin [] [] [])))) (.seq (.reg false (.loud [14,15,16,17] [] [(17,(.bin (.cmp .gtr) (.un .len (.un .load (.un (.fld 1) (.tmp 1)))) (.con (.int .i64 0))))] none [] false (.call ⟨.value (.func 65),#[.tmp 17,.const (.int .i64 14),.const (.int .i64 0),.const (.int .i64 0)],#[4,34,3,3]⟩) 0 (some 18) false (.fin [] [] []))) (.seq (.reg false (.fin [19,20,21,5] [(5,.un .len (.un .load (.un (.fld 1) (.tmp 1))))] [])) (.seq (.seq (.reg false (.fin [22,23,24,25] [(23,.un .load (.un (.fld 1) (.tmp 1))),(24,.un .len (.un .load (.un (.fld 1) (.tmp 1)))),(25,.con (.int .i64 0))] [])) (.block 0 (.loop L.gB.l1))) (.seq (.reg false (.loud [39,40,41,42,43,44,45,46] [] [(46,(.ite (.bin (.cmp .leq) (.un .len (.un .load (.un (.fld 1) (.tmp 1)))) (.con (.int .i64 512))) (.bin (.cmp .leq) (.tmp 5) (.con (.int .i64 4096))) (.con (.bool false))))] none [] false (.call ⟨.value (.func 65),#[.tmp 46,.const (.int .i64 2),.const (.int .i64 0),.const (.int .i64 0)],#[4,34,3,3]⟩) 0 (some 47) false (.fin [] [] []))) (.seq (.reg false (.loud [48] [(48,.un (.au 2) (.tmp 1))] [] none [] false (.makeMap 133 none) 133 (some 49) true (.loud [] [] [(48,.tmp 48),(49,.tmp 49)] none [] false (.build 135 #[(0,.tmp 48),(1,.tmp 49)]) 135 (some 50) true (.loud [] [] [(50,.tmp 50)] none [] false (.box 135 (.tmp 50)) 132 (some 51) true (.fin [8] [(8,.tmp 51)] []))))) (.seq (.reg false (.loud [52] [] [(52,.tmp 8)] none [] false (.call ⟨.value (.func 67),#[.tmp 52],#[132]⟩) 0 (some 53) false (.fin [] [] []))) (.seq (.reg false (.loud [54] [] [(54,.tmp 8)] none [] false (.call ⟨.value (.func 68),#[.tmp 54],#[132]⟩) 0 (some 55) false (.fin [] [] []))) (.seq (.reg false (.loud [] [] [(2,.tmp 2)] none [] false (.store 34 (.tmp 2) (.const (.int .i64 0))) 0 none false (.loud [] [] [(3,.tmp 3)] none [] false (.store 3 (.tmp 3) (.const (.int .i64 0))) 0 none false (.loud [] [] [(4,.tmp 4)] none [] false (.store 3 (.tmp 4) (.const (.int .i64 0))) 0 none false (.fin [] [] []))))) .ret)))))))))
theorem E.gB:eJ Tryz.prog Tryz.f36.ntmps (gq Tryz.f36) (Ej Tryz.f36) false (CT Tryz.f36)=some L.gB:=by kernel_rfl
theorem R.uh:Tryz.f36.results.toList.mapM (resE Tryz.prog)=some R.fy:=by kernel_rfl
theorem F.fy:Tryz.prog.funcs[N.fy]? = some Tryz.f36:=Tryz.func36
theorem B.fy:Tryz.f36.body=some (.seq (wc Tryz.f36) (.seq (.region (Ge (F0 Tryz.f36)) #[Gm Tryz.f36 0,Gm Tryz.f36 1] false) (CT Tryz.f36))):=by kernel_rfl
abbrev N.gY:Nat:=37
def L.gY:LFn:=
⟨[.un (.au 2) (.tmp 2)],(.seq (.reg false (.loud [] [] [(0,.tmp 0)] none [] false (.box 28 (.tmp 0)) 0 (some 1) true (.loud [] [] [] none [] false (.alloc 28) 0 (some 2) true (.fin [] [] [])))) (.seq (.reg false (.loud [3,4] [] [(4,.un .load (.un (.fld 1) (.tmp 1)))] none [] false (.call ⟨.value (.func 69),#[.tmp 4,.func 70],#[26,141]⟩) 26 (some 5) true (.loud [6] [] [(6,.un (.fld 1) (.tmp 1)),(5,.tmp 5)] none [] false (.store 26 (.tmp 6) (.tmp 5)) 0 none false (.fin [] [] [])))) (.seq (.reg false (.loud [7] [] [(2,.tmp 2),(7,.un (.au 2) (.tmp 1))] none [] false (.store 28 (.tmp 2) (.tmp 7)) 0 none false (.fin [] [] []))) .ret)))⟩
theorem E.gY:bh Tryz.prog Tryz.f37=some L.gY:=by kernel_rfl
theorem F.gY:Tryz.prog.funcs[N.gY]? = some Tryz.f37:=Tryz.func37
abbrev N.cA:Nat:=38
def L.cA:LFn:=
⟨[],(.seq (.reg false (.fin [5,6,4] [(4,.un .len (.tmp 0))] [])) (.reg false (.loud [7,8,9,10] [(7,.tmp 0),(8,.tmp 4)] [(10,.un (.conv .u64) (.tmp 4))] none [] false (.call ⟨.value (.func 78),#[.tmp 10],#[144]⟩) 3 (some 11) true (.loud [12] [] [(7,.tmp 7),(8,.tmp 8),(11,.tmp 11),(12,.tmp 1)] none [] false (.call ⟨.value (.func 77),#[.tmp 7,.const (.int .i64 0),.tmp 8,.tmp 11,.tmp 12],#[61,3,3,3,94]⟩) 0 (some 13) false (.fin [] [] [])))))⟩
theorem E.cA:bh Tryz.prog Tryz.f38=some L.cA:=by kernel_rfl
theorem F.cA:Tryz.prog.funcs[N.cA]? = some Tryz.f38:=Tryz.func38
abbrev N.bI:Nat:=39
def L.bI:LFn:=
⟨[.tmp 4],(.seq (.reg false (.loud [] [] [(0,.tmp 0)] none [] false (.box 65 (.tmp 0)) 0 (some 2) true (.loud [] [] [(1,.tmp 1)] none [] false (.box 65 (.tmp 1)) 0 (some 3) true (.fin [4] [(4,.con (.int .i64 0))] [])))) (.seq (.reg false (.fin [5,6,7,8,9,4] [(4,.bin (.arith .sub) (.un .load (.un (.fld 0) (.tmp 2))) (.un .load (.un (.fld 0) (.tmp 3))))] [])) .ret))⟩
theorem E.bI:bh Tryz.prog Tryz.f39=some L.bI:=by kernel_rfl
theorem F.bI:Tryz.prog.funcs[N.bI]? = some Tryz.f39:=Tryz.func39
abbrev N.dz:Nat:=41
def L.dz.l2:LC:=
 (.seq (.seq (.reg false (.fin [14,15,16,17] [(17,.bin (.cmp .lss) (.tmp 6) (.un .len (.tmp 0)))] [])) (.cond (.tmp 17) [17] .skip (.exit 2))) (.seq (.block 3 (.seq (.reg false (.loud [20,21,22] [] [(20,.tmp 0),(21,.tmp 6),(22,.tmp 4)] none [] false (.call ⟨.value (.func 81),#[.tmp 20,.tmp 21,.tmp 22],#[40,3,3]⟩) 4 (some 23) true (.fin [7] [(7,.tmp 23)] []))) (.seq (.reg false (.fin [24] [(24,.tmp 7)] [])) (.cond (.tmp 24) [24] (.reg false (.loud [25,26] [(25,.tmp 5)] [(26,.tmp 6)] none [] false (.buildSlice 22 1 #[(0,.tmp 26)]) 22 (some 27) true (.loud [] [] [(25,.tmp 25),(27,.tmp 27)] none [] false (.call ⟨.builtin .append,#[.tmp 25,.tmp 27],#[22,22]⟩) 22 (some 28) true (.fin [5] [(5,.tmp 28)] [])))) .skip)))) (.reg false (.fin [18,19,6] [(6,.bin (.arith .add) (.tmp 6) (.con (.int .i64 1)))] []))))
def L.dz.l1:LC:=
 (.seq (.seq (.reg false (.fin [8,9,10,11] [(11,.bin (.cmp .lss) (.tmp 4) (.un .len (.tmp 0)))] [])) (.cond (.tmp 11) [11] .skip (.exit 0))) (.seq (.block 1 (.seq (.reg false (.fin [5] [(5,.con (.slice none 0 0))] [])) (.seq (.seq (.reg false (.fin [6] [(6,.con (.int .i64 0))] [])) (.block 2 (.loop L.dz.l2))) (.reg false (.loud [29,30] [(29,.tmp 3)] [(30,.tmp 5)] none [] false (.buildSlice 40 1 #[(0,.tmp 30)]) 40 (some 31) true (.loud [] [] [(29,.tmp 29),(31,.tmp 31)] none [] false (.call ⟨.builtin .append,#[.tmp 29,.tmp 31],#[40,40]⟩) 40 (some 32) true (.fin [3] [(3,.tmp 32)] []))))))) (.reg false (.fin [12,13,4] [(4,.bin (.arith .add) (.tmp 4) (.con (.int .i64 1)))] []))))
def L.dz:LFn:=
⟨[.tmp 2],(.seq (.reg false (.fin [2] [(2,.con (.slice none 0 0))] [])) (.seq (.reg false (.fin [3] [(3,.con (.slice none 0 0))] [])) (.seq (.seq (.reg false (.fin [4] [(4,.con (.int .i64 0))] [])) (.block 0 (.loop L.dz.l1))) (.seq (.reg false (.fin [33,2] [(2,.tmp 3)] [])) .ret))))⟩
theorem E.dz:bh Tryz.prog Tryz.f41=some L.dz:=by kernel_rfl
theorem F.dz:Tryz.prog.funcs[N.dz]? = some Tryz.f41:=Tryz.func41
abbrev N.eL:Nat:=42
def L.eL.l1:LC:=
 (.seq (.seq (.reg false (.fin [8,9,10,11] [(11,.bin (.cmp .lss) (.tmp 6) (.un .len (.tmp 0)))] [])) (.cond (.tmp 11) [11] .skip (.exit 0))) (.seq (.block 1 (.seq (.reg false (.loud [14,15,16] [] [(14,.tmp 0),(15,.tmp 1),(16,.tmp 6)] none [] false (.call ⟨.value (.func 81),#[.tmp 14,.tmp 15,.tmp 16],#[40,3,3]⟩) 4 (some 17) true (.fin [7] [(7,.tmp 17)] []))) (.seq (.reg false (.fin [18] [(18,.tmp 7)] [])) (.cond (.tmp 18) [18] (.reg false (.loud [19,20] [(19,.tmp 5)] [(20,.tmp 6)] none [] false (.buildSlice 22 1 #[(0,.tmp 20)]) 22 (some 21) true (.loud [] [] [(19,.tmp 19),(21,.tmp 21)] none [] false (.call ⟨.builtin .append,#[.tmp 19,.tmp 21],#[22,22]⟩) 22 (some 22) true (.fin [5] [(5,.tmp 22)] [])))) .skip)))) (.reg false (.fin [12,13,6] [(6,.bin (.arith .add) (.tmp 6) (.con (.int .i64 1)))] []))))
def L.eL:LFn:=
⟨[.tmp 4],(.seq (.reg false (.fin [4] [(4,.con (.slice none 0 0))] [])) (.seq (.reg false (.fin [5] [(5,.con (.slice none 0 0))] [])) (.seq (.seq (.reg false (.fin [6] [(6,.con (.int .i64 0))] [])) (.block 0 (.loop L.eL.l1))) (.seq (.reg false (.fin [23,4] [(4,.tmp 5)] [])) .ret))))⟩
theorem E.eL:bh Tryz.prog Tryz.f42=some L.eL:=by kernel_rfl
theorem F.eL:Tryz.prog.funcs[N.eL]? = some Tryz.f42:=Tryz.func42
abbrev N.dY:Nat:=43
def L.dY.l1:LC:=
 (.seq (.reg false (.fin [12] [(12,.bin (.cmp .lss) (.tmp 11) (.tmp 10))] [])) (.seq (.cond (.tmp 12) [12] .skip (.exit 0)) (.seq (.block 1 (.seq (.reg false (.fin [13,14,15,4,5] [(4,.tmp 11),(5,.un .load (.bin (.idx 1) (.tmp 9) (.tmp 11)))] [])) (.reg false (.loud [16,17,18,19,20] [(16,.tmp 3),(17,.tmp 4)] [(18,.tmp 5),(20,.un .len (.tmp 0))] none [] false (.call ⟨.value (.func 46),#[.tmp 18,.tmp 20],#[22,3]⟩) 22 (some 21) true (.loud [22] [] [(22,.bin (.idx 1) (.tmp 16) (.tmp 17)),(21,.tmp 21)] none [] false (.store 22 (.tmp 22) (.tmp 21)) 0 none false (.fin [] [] [])))))) (.reg false (.fin [23,11] [(11,.bin (.arith .add) (.tmp 11) (.con (.int .i64 1)))] [])))))
def L.dY:LFn:=
⟨[.tmp 2],(.seq (.reg false (.fin [2] [(2,.con (.slice none 0 0))] [])) (.seq (.reg false (.loud [6,7] [] [(7,.un .len (.tmp 0)),(7,.un .len (.tmp 0))] none [] false (.makeSlice 40 (.tmp 7) (.tmp 7)) 40 (some 8) true (.fin [3] [(3,.tmp 8)] []))) (.seq (.seq (.reg false (.fin [9,10,11] [(9,.tmp 0),(10,.un .len (.tmp 0)),(11,.con (.int .i64 0))] [])) (.block 0 (.loop L.dY.l1))) (.seq (.reg false (.fin [24,2] [(2,.tmp 3)] [])) .ret))))⟩
theorem E.dY:bh Tryz.prog Tryz.f43=some L.dY:=by kernel_rfl
theorem F.dY:Tryz.prog.funcs[N.dY]? = some Tryz.f43:=Tryz.func43
abbrev N.fm:Nat:=44
def L.fm:LFn:=
⟨[.tmp 2],(.seq (.reg false (.fin [2] [(2,.con (.slice none 0 0))] [])) (.seq (.reg false (.loud [6,7] [] [(7,.un .len (.tmp 0)),(7,.un .len (.tmp 0))] none [] false (.makeSlice 40 (.tmp 7) (.tmp 7)) 40 (some 8) true (.loud [] [] [] none [] false (.alloc 40) 0 (some 3) true (.loud [] [] [(3,.tmp 3),(8,.tmp 8)] none [] false (.store 40 (.tmp 3) (.tmp 8)) 0 none false (.fin [] [] []))))) (.seq (.seq (.reg false (.loud [9] [] [(9,.tmp 0)] none [] false (.call ⟨.value (.func 45),#[.tmp 9],#[40]⟩) 99 (some 10) true (.fin [] [] []))) (.block 0 (.rangef (.tmp 10) [11,12] (.seq (.reg false (.fin [4] [(4,.tmp 11)] [])) (.reg false (.fin [5] [(5,.tmp 12)] []))) (.block 1 (.reg true (.loud [13,14,15,16,17,18,19] [(13,.un .load (.tmp 3)),(14,.tmp 5),(18,.un .load (.bin (.idx 1) (.un .load (.tmp 3)) (.tmp 5)))] [(19,.tmp 4)] none [] false (.buildSlice 22 1 #[(0,.tmp 19)]) 22 (some 20) true (.loud [] [] [(18,.tmp 18),(20,.tmp 20)] none [] false (.call ⟨.builtin .append,#[.tmp 18,.tmp 20],#[22,22]⟩) 22 (some 21) true (.loud [22] [] [(22,.bin (.idx 1) (.tmp 13) (.tmp 14)),(21,.tmp 21)] none [] true (.store 22 (.tmp 22) (.tmp 21)) 0 none false (.fin [] [] []))))))))) (.seq (.reg false (.fin [23,2] [(2,.un .load (.tmp 3))] [])) .ret))))⟩
theorem E.fm:bh Tryz.prog Tryz.f44=some L.fm:=by kernel_rfl
theorem F.fm:Tryz.prog.funcs[N.fm]? = some Tryz.f44:=Tryz.func44
abbrev N.fl:Nat:=45
def L.fl:LFn:=
⟨[.tmp 2],(.seq (.reg false (.loud [] [] [(0,.tmp 0)] none [] false (.box 40 (.tmp 0)) 0 (some 1) true (.fin [2] [(2,.con .nilFunc)] []))) (.seq (.reg false (.fin [3,2] [(2,.un (.fn 82) (.snoc (.con (.tuple #[])) (.tmp 1)))] [])) .ret))⟩
theorem E.fl:bh Tryz.prog Tryz.f45=some L.fl:=by kernel_rfl
theorem F.fl:Tryz.prog.funcs[N.fl]? = some Tryz.f45:=Tryz.func45
abbrev N.eP:Nat:=46
def L.eP.l1:LC:=
 (.seq (.reg false (.fin [11] [(11,.bin (.cmp .lss) (.tmp 10) (.tmp 9))] [])) (.seq (.cond (.tmp 11) [11] .skip (.exit 0)) (.seq (.block 1 (.seq (.reg false (.fin [12,13,7] [(7,.un .load (.bin (.idx 1) (.tmp 8) (.tmp 10)))] [])) (.seq (.reg false (.fin [14,15,16,17,18,19,20] [(20,.ite (.bin (.cmp .geq) (.tmp 7) (.con (.int .i64 0))) (.bin (.cmp .lss) (.tmp 7) (.tmp 1)) (.con (.bool false)))] [])) (.cond (.tmp 20) [20] (.reg false (.loud [21,22] [(21,.tmp 5)] [(22,.tmp 7)] none [] false (.buildSlice 22 1 #[(0,.tmp 22)]) 22 (some 23) true (.loud [] [] [(21,.tmp 21),(23,.tmp 23)] none [] false (.call ⟨.builtin .append,#[.tmp 21,.tmp 23],#[22,22]⟩) 22 (some 24) true (.fin [5] [(5,.tmp 24)] [])))) .skip)))) (.reg false (.fin [25,10] [(10,.bin (.arith .add) (.tmp 10) (.con (.int .i64 1)))] [])))))
def L.eP:LFn:=
⟨[.tmp 4],(.seq (.reg false (.fin [4] [(4,.con (.slice none 0 0))] [])) (.seq (.reg false (.fin [5] [(5,.con (.slice none 0 0))] [])) (.seq (.seq (.reg false (.fin [8,9,10] [(8,.tmp 0),(9,.un .len (.tmp 0)),(10,.con (.int .i64 0))] [])) (.block 0 (.loop L.eP.l1))) (.seq (.reg false (.loud [26] [] [(26,.tmp 5)] none [] false (.call ⟨.value (.func 83),#[.tmp 26],#[22]⟩) 0 (some 27) false (.fin [] [] []))) (.seq (.reg false (.loud [28] [] [(28,.tmp 5)] none [] false (.call ⟨.value (.func 84),#[.tmp 28],#[22]⟩) 22 (some 29) true (.fin [4] [(4,.tmp 29)] []))) .ret)))))⟩
theorem E.eP:bh Tryz.prog Tryz.f46=some L.eP:=by kernel_rfl
theorem F.eP:Tryz.prog.funcs[N.eP]? = some Tryz.f46:=Tryz.func46
abbrev N.cH:Nat:=55
def L.cH:LFn:=
⟨[.tmp 4],(.seq (.reg false (.fin [4] [(4,.con (.int .i64 0))] [])) (.seq (.reg false (.loud [8] [] [(8,.tmp 0)] none [] false (.call ⟨.value (.func 95),#[.tmp 8],#[66]⟩) 92 (some 9) true (.fin [7,10,11,5,6] [(5,.un (.ext 0) (.tmp 9)),(6,.un (.ext 1) (.tmp 9))] []))) (.seq (.seq (.reg false (.loud [12,13,14,15] [(14,.un .not (.tmp 6))] [(15,.gd (.un .not (.tmp 6)) false (.tmp 0))] (some ((.un .not (.tmp 6)),false)) [] false (.call ⟨.value (.func 24),#[.tmp 15,.const (.int .i64 9)],#[66,3]⟩) 3 (some 16) true (.fin [17,18] [(18,.ite (.tmp 14) (.con (.bool true)) (.bin (.cmp .eql) (.tmp 16) (.con (.int .i64 0))))] []))) (.cond (.tmp 18) [18] (.seq (.reg false (.loud [19,20,21] [(19,.tmp 0),(20,.tmp 1)] [(21,.tmp 0)] none [] false (.call ⟨.value (.func 34),#[.tmp 21],#[66]⟩) 21 (some 22) true (.loud [] [] [(19,.tmp 19),(20,.tmp 20),(22,.tmp 22)] none [] false (.call ⟨.value (.func 33),#[.tmp 19,.tmp 20,.tmp 22],#[66,3,21]⟩) 3 (some 23) true (.fin [4] [(4,.tmp 23)] [])))) .ret) .skip)) (.seq (.reg false (.fin [24,4] [(4,.tmp 5)] [])) .ret))))⟩
theorem E.cH:bh Tryz.prog Tryz.f55=some L.cH:=by kernel_rfl
theorem F.cH:Tryz.prog.funcs[N.cH]? = some Tryz.f55:=Tryz.func55
abbrev N.cV:Nat:=56
def L.cV:LFn:=
⟨[],(.seq (.reg false (.loud [] [] [(2,.tmp 2)] none [] false (.box 78 (.tmp 2)) 0 (some 5) true (.fin [] [] []))) (.seq (.reg true (.loud [7,8,9,10,11,12,13,14,15,16,17,18,19,20,21,22] [(11,(.un .load (.un (.fld 1) (.un (.fld 2) (.un .nilPtr (.tmp 0)))))),(12,.tmp 1),(21,(.un .load (.un (.fld 1) (.bin (.idx 6) (.un .load (.un (.fld 1) (.un (.fld 2) (.un .nilPtr (.tmp 0))))) (.tmp 1)))))] [(22,.un (.au 5) (.tmp 5))] none [] false (.buildSlice 44 1 #[(0,.tmp 22)]) 44 (some 23) true (.loud [] [] [(21,.tmp 21),(23,.tmp 23)] none [] false (.call ⟨.builtin .append,#[.tmp 21,.tmp 23],#[44,44]⟩) 44 (some 24) true (.loud [25,26] [] [(26,.un (.fld 1) (.bin (.idx 6) (.tmp 11) (.tmp 12))),(24,.tmp 24)] none [] true (.store 44 (.tmp 26) (.tmp 24)) 0 none false (.fin [] [] []))))) (.seq (.reg false (.loud [27] [] [(27,.un (.au 5) (.tmp 5))] none [] false (.call ⟨.value (.func 29),#[.tmp 27],#[78]⟩) 22 (some 28) true (.fin [6] [(6,.tmp 28)] []))) (.reg false (.loud [29,30,31,32,33,34] [(29,.tmp 0)] [(33,.un .load (.un (.fld 5) (.un .nilPtr (.tmp 0)))),(34,.tmp 6)] none [] false (.call ⟨.builtin .append,#[.tmp 33,.tmp 34],#[22,22]⟩) 22 (some 35) true (.loud [36,37] [] [(37,.un (.fld 5) (.un .nilPtr (.tmp 29))),(35,.tmp 35)] none [] false (.store 22 (.tmp 37) (.tmp 35)) 0 none false (.fin [] [] [])))))))⟩
theorem E.cV:bh Tryz.prog Tryz.f56=some L.cV:=by kernel_rfl
theorem F.cV:Tryz.prog.funcs[N.cV]? = some Tryz.f56:=Tryz.func56
end Go.Proofs.YtbkdlhkoiagbbaaGreat
namespace Go.Proofs.YtbkdlhkoiagbbaaGreat
open Go Go.Lft
set_option maxRecDepth 100000
abbrev N.cE:Nat:=57
def L.cE:LFn:=
⟨[],(.seq (.reg false (.loud [12,13,14] [(12,.tmp 0),(13,.tmp 1)] [(14,.tmp 0)] none [] false (.call ⟨.value (.func 24),#[.tmp 14,.const (.int .i64 9)],#[66,3]⟩) 3 (some 15) true (.loud [16] [] [(12,.tmp 12),(13,.tmp 13),(16,.un (.conv .i32) (.tmp 15))] none [] false (.call ⟨.value (.func 33),#[.tmp 12,.tmp 13,.tmp 16],#[66,3,21]⟩) 3 (some 17) true (.fin [6] [(6,.tmp 17)] [])))) (.seq (.seq (.reg false (.loud [18] [] [(18,.tmp 0)] none [] false (.call ⟨.value (.func 24),#[.tmp 18,.const (.int .i64 3)],#[66,3]⟩) 3 (some 19) true (.fin [20] [(20,.bin (.cmp .eql) (.tmp 19) (.con (.int .i64 0)))] []))) (.cond (.tmp 20) [20] (.seq (.reg false (.loud [21,22] [] [(21,.tmp 0),(22,.tmp 1)] none [] false (.call ⟨.value (.func 55),#[.tmp 21,.tmp 22],#[66,3]⟩) 3 (some 23) true (.fin [7] [(7,.tmp 23)] []))) (.seq (.reg false (.loud [24,25] [] [(24,.tmp 0),(25,.tmp 1)] none [] false (.call ⟨.value (.func 33),#[.tmp 24,.tmp 25,.const (.int .i32 7)],#[66,3,21]⟩) 3 (some 26) true (.fin [8] [(8,.tmp 26)] []))) (.seq (.reg false (.loud [27] [] [(27,.tmp 0)] none [] false (.call ⟨.value (.func 27),#[.tmp 27],#[66]⟩) 3 (some 28) true (.fin [9] [(9,.tmp 28)] []))) (.seq (.reg false (.loud [29,30,31,32,33] [(29,.tmp 0),(30,.tmp 1),(31,.tmp 9)] [(32,.tmp 7),(33,.tmp 8)] none [] false (.buildSlice 22 2 #[(0,.tmp 32),(1,.tmp 33)]) 22 (some 34) true (.loud [] [] [(31,.tmp 31),(34,.tmp 34)] none [] false (.build 78 #[(0,.const (.int .i64 5)),(1,.tmp 31),(3,.tmp 34)]) 78 (some 35) true (.loud [] [] [(29,.tmp 29),(30,.tmp 30),(35,.tmp 35)] none [] false (.call ⟨.value (.func 56),#[.tmp 29,.tmp 30,.tmp 35],#[66,3,78]⟩) 0 (some 36) false (.fin [] [] []))))) (.seq (.reg false (.loud [37] [] [(37,.tmp 0)] none [] false (.call ⟨.value (.func 27),#[.tmp 37],#[66]⟩) 3 (some 38) true (.fin [10] [(10,.tmp 38)] []))) (.seq (.reg false (.loud [39,40,41,42,43] [(39,.tmp 0),(40,.tmp 1),(41,.tmp 10)] [(42,.tmp 6),(43,.tmp 9)] none [] false (.buildSlice 22 2 #[(0,.tmp 42),(1,.tmp 43)]) 22 (some 44) true (.loud [] [] [(41,.tmp 41),(44,.tmp 44)] none [] false (.build 78 #[(0,.const (.int .i64 2)),(1,.tmp 41),(3,.tmp 44)]) 78 (some 45) true (.loud [] [] [(39,.tmp 39),(40,.tmp 40),(45,.tmp 45)] none [] false (.call ⟨.value (.func 56),#[.tmp 39,.tmp 40,.tmp 45],#[66,3,78]⟩) 0 (some 46) false (.fin [] [] []))))) (.reg false (.fin [47,6] [(6,.tmp 10)] [])))))))) .skip)) (.seq (.reg false (.loud [48] [] [(48,.tmp 0)] none [] false (.call ⟨.value (.func 24),#[.tmp 48,.const (.int .i64 4)],#[66,3]⟩) 3 (some 49) true (.fin [50,11] [(11,.un (.conv .i32) (.tmp 49))] []))) (.seq (.seq (.reg false (.loud [51] [] [(51,.tmp 0)] none [] false (.call ⟨.value (.func 24),#[.tmp 51,.const (.int .i64 12)],#[66,3]⟩) 3 (some 52) true (.fin [53] [(53,.bin (.cmp .eql) (.tmp 52) (.con (.int .i64 0)))] []))) (.cond (.tmp 53) [53] (.reg false (.loud [54] [] [(54,.tmp 0)] none [] false (.call ⟨.value (.func 34),#[.tmp 54],#[66]⟩) 21 (some 55) true (.fin [11] [(11,.tmp 55)] []))) .skip)) (.seq (.reg false (.fin [56] [(56,.tmp 2)] [])) (.cond (.tmp 56) [56] (.reg false (.loud [57,58,59,60,61] [(57,.tmp 0),(58,.tmp 1),(59,.tmp 6)] [(60,.tmp 0),(61,.tmp 1)] none [] false (.call ⟨.value (.func 55),#[.tmp 60,.tmp 61],#[66,3]⟩) 3 (some 62) true (.loud [] [] [(59,.tmp 59),(62,.tmp 62)] none [] false (.buildSlice 22 2 #[(0,.tmp 59),(1,.tmp 62)]) 22 (some 63) true (.loud [64] [] [(63,.tmp 63),(64,.tmp 11)] none [] false (.build 78 #[(0,.const (.int .i64 16)),(3,.tmp 63),(4,.tmp 64)]) 78 (some 65) true (.loud [] [] [(57,.tmp 57),(58,.tmp 58),(65,.tmp 65)] none [] false (.call ⟨.value (.func 56),#[.tmp 57,.tmp 58,.tmp 65],#[66,3,78]⟩) 0 (some 66) false (.fin [] [] [])))))) (.reg false (.loud [67,68,69] [(67,.tmp 0),(68,.tmp 1)] [(69,.tmp 0)] none [] false (.call ⟨.value (.func 27),#[.tmp 69],#[66]⟩) 3 (some 70) true (.loud [71] [] [(71,.tmp 6)] none [] false (.buildSlice 22 1 #[(0,.tmp 71)]) 22 (some 72) true (.loud [73] [] [(70,.tmp 70),(72,.tmp 72),(73,.tmp 11)] none [] false (.build 78 #[(0,.const (.int .i64 15)),(1,.tmp 70),(3,.tmp 72),(4,.tmp 73)]) 78 (some 74) true (.loud [] [] [(67,.tmp 67),(68,.tmp 68),(74,.tmp 74)] none [] false (.call ⟨.value (.func 56),#[.tmp 67,.tmp 68,.tmp 74],#[66,3,78]⟩) 0 (some 75) false (.fin [] [] []))))))))))))⟩
theorem E.cE:bh Tryz.prog Tryz.f57=some L.cE:=by kernel_rfl
theorem F.cE:Tryz.prog.funcs[N.cE]? = some Tryz.f57:=Tryz.func57
abbrev N.bU:Nat:=58
def L.bU.l3:LC:=
 (.seq (.seq (.reg false (.fin [41,42,43,44,45,46,47,48,49] [(49,(.bin (.cmp .lss) (.tmp 8) (.un .len (.un .load (.un (.fld 1) (.bin (.idx 2) (.un .load (.un (.fld 0) (.tmp 5))) (.tmp 6)))))))] [])) (.cond (.tmp 49) [49] .skip (.exit 4))) (.seq (.block 5 (.reg true (.loud [52,53,54,55,56,57,58,59,60,61,62,63] [(53,.un .load (.un (.fld 3) (.tmp 7)))] [(63,(.un .load (.un (.fld 1) (.bin (.idx 2) (.un .load (.un (.fld 1) (.bin (.idx 2) (.un .load (.un (.fld 0) (.tmp 5))) (.tmp 6)))) (.tmp 8)))))] none [] false (.buildSlice 22 1 #[(0,.tmp 63)]) 22 (some 64) true (.loud [] [] [(53,.tmp 53),(64,.tmp 64)] none [] true (.call ⟨.builtin .append,#[.tmp 53,.tmp 64],#[22,22]⟩) 22 (some 65) true (.loud [66] [] [(66,.un (.fld 3) (.tmp 7)),(65,.tmp 65)] none [] false (.store 22 (.tmp 66) (.tmp 65)) 0 none false (.fin [] [] [])))))) (.reg false (.fin [50,51,8] [(8,.bin (.arith .add) (.tmp 8) (.con (.int .i64 1)))] []))))
def L.bU.l2:LC:=
 (.seq (.seq (.reg false (.fin [23,24,25,26,27] [(27,(.bin (.cmp .lss) (.tmp 6) (.un .len (.un .load (.un (.fld 0) (.tmp 5))))))] [])) (.cond (.tmp 27) [27] .skip (.exit 2))) (.seq (.block 3 (.seq (.reg false (.loud [30,31,32,33,34,35,36,37,38] [(30,.tmp 4),(32,.bin (.arith .sub) (.con (.int .i64 (-1))) (.tmp 6))] [(38,(.un .load (.un (.fld 0) (.bin (.idx 2) (.un .load (.un (.fld 0) (.tmp 5))) (.tmp 6)))))] none [] false (.buildSlice 22 1 #[(0,.tmp 38)]) 22 (some 39) true (.loud [] [] [(30,.tmp 30),(32,.tmp 32),(39,.tmp 39)] none [] false (.build 121 #[(0,.tmp 30),(1,.tmp 32),(2,.tmp 39)]) 121 (some 40) true (.loud [] [] [] none [] false (.alloc 121) 0 (some 7) true (.loud [] [] [(7,.tmp 7),(40,.tmp 40)] none [] false (.store 121 (.tmp 7) (.tmp 40)) 0 none false (.fin [] [] [])))))) (.seq (.seq (.reg false (.fin [8] [(8,.con (.int .i64 0))] [])) (.block 4 (.loop L.bU.l3))) (.reg false (.loud [67,68] [(67,.tmp 3)] [(68,.un (.au 4) (.tmp 7))] none [] false (.buildSlice 118 1 #[(0,.tmp 68)]) 118 (some 69) true (.loud [] [] [(67,.tmp 67),(69,.tmp 69)] none [] false (.call ⟨.builtin .append,#[.tmp 67,.tmp 69],#[118,118]⟩) 118 (some 70) true (.fin [3] [(3,.tmp 70)] []))))))) (.reg false (.fin [28,29,6] [(6,.bin (.arith .add) (.tmp 6) (.con (.int .i64 1)))] []))))
def L.bU.l4:LC:=
 (.seq (.seq (.reg false (.fin [71,72,73,74,75] [(75,(.bin (.cmp .lss) (.tmp 9) (.un .len (.un .load (.un (.fld 1) (.tmp 5))))))] [])) (.cond (.tmp 75) [75] .skip (.exit 6))) (.seq (.block 7 (.reg true (.loud [78,79,80,81,82,83,84,85,87,88,89,90,91,92] [(78,.tmp 3),(79,.tmp 4),(80,.tmp 9),(92,(.un .load (.un (.fld 3) (.bin (.idx 5) (.un .load (.un (.fld 1) (.tmp 5))) (.tmp 9)))))] [(85,(.un (.au 5) (.bin (.idx 5) (.un .load (.un (.fld 1) (.tmp 5))) (.tmp 9))))] none [] false (.call ⟨.value (.func 29),#[.tmp 85],#[78]⟩) 22 (some 86) true (.loud [] [] [(79,.tmp 79),(80,.tmp 80),(86,.tmp 86),(92,.tmp 92)] none [] true (.build 121 #[(0,.tmp 79),(1,.tmp 80),(2,.tmp 86),(3,.tmp 92)]) 121 (some 93) true (.loud [] [] [(93,.tmp 93)] none [] false (.buildSlice 118 1 #[(0,.tmp 93)]) 118 (some 94) true (.loud [] [] [(78,.tmp 78),(94,.tmp 94)] none [] false (.call ⟨.builtin .append,#[.tmp 78,.tmp 94],#[118,118]⟩) 118 (some 95) true (.fin [3] [(3,.tmp 95)] []))))))) (.reg false (.fin [76,77,9] [(9,.bin (.arith .add) (.tmp 9) (.con (.int .i64 1)))] []))))
def L.bU.l1:LC:=
 (.seq (.seq (.reg false (.fin [11,12,13,14,15] [(15,(.bin (.cmp .lss) (.tmp 4) (.un .len (.un .load (.un (.fld 1) (.tmp 1))))))] [])) (.cond (.tmp 15) [15] .skip (.exit 0))) (.seq (.block 1 (.seq (.reg false (.loud [18,19,20,21,22] [(22,(.un (.au 6) (.bin (.idx 6) (.un .load (.un (.fld 1) (.tmp 1))) (.tmp 4))))] [] none [] false (.alloc 48) 0 (some 5) true (.loud [] [] [(5,.tmp 5),(22,.tmp 22)] none [] false (.store 48 (.tmp 5) (.tmp 22)) 0 none false (.fin [] [] [])))) (.seq (.seq (.reg false (.fin [6] [(6,.con (.int .i64 0))] [])) (.block 2 (.loop L.bU.l2))) (.seq (.seq (.reg false (.fin [9] [(9,.con (.int .i64 0))] [])) (.block 6 (.loop L.bU.l4))) (.reg false (.loud [96,97,98,99,100,101,102,103] [(96,.tmp 3)] [(97,.tmp 4),(100,.un .len (.un .load (.un (.fld 1) (.tmp 5)))),(103,.un .load (.un (.fld 1) (.un (.fld 2) (.tmp 5))))] none [] false (.build 121 #[(0,.tmp 97),(1,.tmp 100),(3,.tmp 103)]) 121 (some 104) true (.loud [] [] [(104,.tmp 104)] none [] false (.buildSlice 118 1 #[(0,.tmp 104)]) 118 (some 105) true (.loud [] [] [(96,.tmp 96),(105,.tmp 105)] none [] false (.call ⟨.builtin .append,#[.tmp 96,.tmp 105],#[118,118]⟩) 118 (some 106) true (.fin [3] [(3,.tmp 106)] []))))))))) (.reg false (.fin [16,17,4] [(4,.bin (.arith .add) (.tmp 4) (.con (.int .i64 1)))] []))))
def L.bU:LFn:=
⟨[.tmp 2],(.seq (.reg false (.loud [] [] [(0,.tmp 0)] none [] false (.box 28 (.tmp 0)) 0 (some 1) true (.fin [2] [(2,.con (.slice none 0 0))] []))) (.seq (.reg false (.loud [] [] [] none [] false (.buildSlice 118 0 #[]) 118 (some 10) true (.fin [3] [(3,.tmp 10)] []))) (.seq (.seq (.reg false (.fin [4] [(4,.con (.int .i64 0))] [])) (.block 0 (.loop L.bU.l1))) (.seq (.reg false (.fin [107,2] [(2,.tmp 3)] [])) .ret))))⟩
theorem E.bU:bh Tryz.prog Tryz.f58=some L.bU:=by kernel_rfl
theorem F.bU:Tryz.prog.funcs[N.bU]? = some Tryz.f58:=Tryz.func58
abbrev N.bY:Nat:=64
def L.bY:LFn:=
⟨[],(.seq (.reg false (.loud [] [] [] none [] false (.call ⟨.builtin .recover,#[],#[]⟩) 20 (some 6) true (.fin [] [] []))) (.block 0 (.seq (.reg false (.loud [] [] [(6,.tmp 6)] none [] false (.binOp .eql 20 (.tmp 6) (.const .nilIface) 20) 4 (some 8) true (.fin [] [] []))) (.cond (.tmp 8) [8] (.reg false (.fin [3] [] [.tmp 6])) (.seq (.reg false (.loud [] [] [(6,.tmp 6)] none [] false (.typeAssert (.tmp 6) 20 129 true) 0 (some 9) true (.fin [10,11] [(10,.un (.ext 1) (.tmp 9)),(11,.un (.ext 0) (.tmp 9))] []))) (.cond (.tmp 10) [10] (.seq (.reg false (.loud [] [] [] none [] false (.alloc 129) 0 (some 4) true (.loud [] [] [(4,.tmp 4),(11,.tmp 11)] none [] false (.store 129 (.tmp 4) (.tmp 11)) 0 none false (.fin [] [] [])))) (.reg true (.loud [12,13,14,15,16,17] [(15,.un .load (.un (.fld 1) (.tmp 4))),(17,.un .load (.un (.fld 2) (.tmp 4)))] [(0,.tmp 0),(13,.un .load (.un (.fld 0) (.tmp 4)))] none [] false (.store 34 (.tmp 0) (.tmp 13)) 0 none false (.loud [] [] [(1,.tmp 1),(15,.tmp 15)] none [] false (.store 3 (.tmp 1) (.tmp 15)) 0 none false (.loud [] [] [(2,.tmp 2),(17,.tmp 17)] none [] true (.store 3 (.tmp 2) (.tmp 17)) 0 none false (.fin [] [] [])))))) (.seq (.reg false (.fin [5] [(5,.tmp 6)] [])) (.reg false (.loud [7] [] [(7,.tmp 5)] none [] false (.panic (.tmp 7)) 0 none false (.fin [] [] []))))))))))⟩
theorem F.bY:Tryz.prog.funcs[N.bY]? = some Tryz.f64:=Tryz.func64
theorem Q.bY:Tryz.f64.body=some (.seq (.region (Ge (wc Tryz.f64)) #[GM Tryz.f64 0] false) (F7 Tryz.f64)):=by kernel_rfl
theorem E.nD:eJ Tryz.prog Tryz.f64.ntmps (gq Tryz.f64) (Ej Tryz.f64) false (F7 Tryz.f64)=some L.bY.body.tail:=by kernel_rfl
abbrev N.eM:Nat:=65
def L.eM:LFn:=
⟨[],(.seq (.reg false (.fin [8,9] [(9,.un .not (.tmp 0))] [])) (.cond (.tmp 9) [9] (.reg false (.loud [10,11,12] [] [(10,.tmp 1),(11,.tmp 2),(12,.tmp 3)] none [] false (.build 129 #[(0,.tmp 10),(1,.tmp 11),(2,.tmp 12)]) 129 (some 13) true (.loud [] [] [(13,.tmp 13)] none [] false (.makeInterface 129 (.tmp 13)) 20 (some 14) true (.loud [] [] [(14,.tmp 14)] none [] false (.panic (.tmp 14)) 0 none false (.fin [] [] []))))) .skip))⟩
theorem E.eM:bh Tryz.prog Tryz.f65=some L.eM:=by kernel_rfl
theorem F.eM:Tryz.prog.funcs[N.eM]? = some Tryz.f65:=Tryz.func65
abbrev N.eA:Nat:=66
def L.eA:LFn:=
⟨[.tmp 6],(.seq (.reg false (.fin [6] [(6,.con (.bool false))] [])) (.seq (.reg false (.fin [7,8,9,10,11,12,13,14,6] [(6,.ite (.bin (.cmp .geq) (.tmp 0) (.tmp 1)) (.bin (.cmp .leq) (.tmp 0) (.tmp 2)) (.con (.bool false)))] [])) .ret))⟩
theorem E.eA:bh Tryz.prog Tryz.f66=some L.eA:=by kernel_rfl
theorem F.eA:Tryz.prog.funcs[N.eA]? = some Tryz.f66:=Tryz.func66
abbrev N.aO:Nat:=67
def L.aO.l2:LC:=
 (.seq (.reg false (.fin [29] [(29,.bin (.cmp .lss) (.tmp 28) (.tmp 27))] [])) (.seq (.cond (.tmp 29) [29] .skip (.exit 2)) (.seq (.block 3 (.seq (.reg false (.loud [30,31,32] [(30,.tmp 28),(32,.un (.au 2) (.bin (.idx 2) (.tmp 26) (.tmp 28)))] [] none [] false (.alloc 63) 0 (some 5) true (.loud [4] [(4,.tmp 30)] [(5,.tmp 5),(32,.tmp 32)] none [] false (.store 63 (.tmp 5) (.tmp 32)) 0 none false (.fin [] [] [])))) (.reg false (.loud [33,34,35] [(33,.tmp 0)] [(35,.un .load (.un (.fld 0) (.tmp 5)))] none [] false (.buildSlice 22 1 #[(0,.tmp 35)]) 22 (some 36) true (.loud [37,38,39] [] [(33,.tmp 33),(36,.tmp 36),(37,.tmp 2),(39,.bin (.arith .sub) (.con (.int .i64 (-1))) (.tmp 4))] none [] false (.call ⟨.value (.func 99),#[.tmp 33,.tmp 36,.tmp 37,.tmp 39],#[132,22,3,3]⟩) 0 (some 40) false (.fin [] [] [])))))) (.reg false (.fin [41,28] [(28,.bin (.arith .add) (.tmp 28) (.con (.int .i64 1)))] [])))))
def L.aO.l3:LC:=
 (.seq (.reg false (.fin [46] [(46,.bin (.cmp .lss) (.tmp 45) (.tmp 44))] [])) (.seq (.cond (.tmp 46) [46] .skip (.exit 4)) (.seq (.block 5 (.seq (.reg false (.loud [47,48,49] [(47,.tmp 45),(49,.un (.au 5) (.bin (.idx 5) (.tmp 43) (.tmp 45)))] [] none [] false (.alloc 78) 0 (some 7) true (.loud [6] [(6,.tmp 47)] [(7,.tmp 7),(49,.tmp 49)] none [] false (.store 78 (.tmp 7) (.tmp 49)) 0 none false (.fin [] [] [])))) (.seq (.reg false (.loud [50,51] [] [(51,.un .load (.un (.fld 0) (.tmp 7)))] none [] false (.call ⟨.value (.func 66),#[.tmp 51,.const (.int .i64 1),.const (.int .i64 18)],#[3,3,3]⟩) 4 (some 52) true (.loud [53,54] [] [(52,.tmp 52),(53,.tmp 2),(54,.tmp 6)] none [] false (.call ⟨.value (.func 65),#[.tmp 52,.const (.int .i64 10),.tmp 53,.tmp 54],#[4,34,3,3]⟩) 0 (some 55) false (.fin [] [] [])))) (.seq (.reg false (.loud [57,58] [] [(58,.un .load (.un (.fld 0) (.tmp 7)))] none [] false (.call ⟨.value (.func 100),#[.tmp 58],#[3]⟩) 167 (some 59) true (.fin [56,60,61,8,9] [(8,.un (.ext 0) (.tmp 59)),(9,.un (.ext 1) (.tmp 59))] []))) (.seq (.reg false (.loud [62,63,64,65,66] [] [(64,.un .len (.un .load (.un (.fld 3) (.tmp 7)))),(65,.tmp 8),(66,.tmp 9)] none [] false (.call ⟨.value (.func 66),#[.tmp 64,.tmp 65,.tmp 66],#[3,3,3]⟩) 4 (some 67) true (.loud [68,69] [] [(67,.tmp 67),(68,.tmp 2),(69,.tmp 6)] none [] false (.call ⟨.value (.func 65),#[.tmp 67,.const (.int .i64 10),.tmp 68,.tmp 69],#[4,34,3,3]⟩) 0 (some 70) false (.fin [] [] [])))) (.reg false (.loud [71,72] [(71,.tmp 0)] [(72,.un (.au 5) (.tmp 7))] none [] false (.call ⟨.value (.func 101),#[.tmp 72],#[78]⟩) 22 (some 73) true (.loud [74,75] [] [(71,.tmp 71),(73,.tmp 73),(74,.tmp 2),(75,.tmp 6)] none [] false (.call ⟨.value (.func 99),#[.tmp 71,.tmp 73,.tmp 74,.tmp 75],#[132,22,3,3]⟩) 0 (some 76) false (.fin [] [] []))))))))) (.reg false (.fin [77,45] [(45,.bin (.arith .add) (.tmp 45) (.con (.int .i64 1)))] [])))))
def L.aO.l4:LC:=
 (.seq (.reg false (.fin [119] [(119,.bin (.cmp .lss) (.tmp 118) (.tmp 117))] [])) (.seq (.cond (.tmp 119) [119] .skip (.exit 6)) (.seq (.block 7 (.seq (.reg false (.fin [120,121,13] [(13,.un .load (.bin (.idx 1) (.tmp 116) (.tmp 118)))] [])) (.reg true (.loud [122,123,124,125,126,127,128,129,131,132,133,134] [(131,.tmp 2),(134,.un .len (.un .load (.un (.fld 1) (.tmp 3))))] [(122,.tmp 13),(129,(.bin (.arith .sub) (.un .len (.un .load (.un (.fld 1) (.un (.fld 0) (.un .nilPtr (.tmp 0)))))) (.con (.int .i64 1))))] none [] false (.call ⟨.value (.func 66),#[.tmp 122,.const (.int .i64 1),.tmp 129],#[3,3,3]⟩) 4 (some 130) true (.loud [] [] [(130,.tmp 130),(131,.tmp 131),(134,.tmp 134)] none [] true (.call ⟨.value (.func 65),#[.tmp 130,.const (.int .i64 14),.tmp 131,.tmp 134],#[4,34,3,3]⟩) 0 (some 135) false (.fin [] [] [])))))) (.reg false (.fin [136,118] [(118,.bin (.arith .add) (.tmp 118) (.con (.int .i64 1)))] [])))))
def L.aO.l1:LC:=
 (.seq (.reg false (.fin [21] [(21,.bin (.cmp .lss) (.tmp 20) (.tmp 19))] [])) (.seq (.cond (.tmp 21) [21] .skip (.exit 0)) (.seq (.block 1 (.seq (.reg false (.loud [22,23,24] [(22,.tmp 20),(24,.un (.au 6) (.bin (.idx 6) (.tmp 18) (.tmp 20)))] [] none [] false (.alloc 48) 0 (some 3) true (.loud [2] [(2,.tmp 22)] [(3,.tmp 3),(24,.tmp 24)] none [] false (.store 48 (.tmp 3) (.tmp 24)) 0 none false (.fin [] [] [])))) (.seq (.seq (.reg false (.fin [25,26,27,28] [(26,.un .load (.un (.fld 0) (.tmp 3))),(27,.un .len (.un .load (.un (.fld 0) (.tmp 3)))),(28,.con (.int .i64 0))] [])) (.block 2 (.loop L.aO.l2))) (.seq (.seq (.reg false (.fin [42,43,44,45] [(43,.un .load (.un (.fld 1) (.tmp 3))),(44,.un .len (.un .load (.un (.fld 1) (.tmp 3)))),(45,.con (.int .i64 0))] [])) (.block 4 (.loop L.aO.l3))) (.seq (.reg true (.both (.loud [80,81,82] [(82,.un .load (.un (.fld 0) (.un (.fld 2) (.tmp 3))))] [] none [] false (.call ⟨.value (.func 102),#[],#[]⟩) 172 (some 79) true (.both (.loud [] [] [(79,.tmp 79),(82,.tmp 82)] none [] true (.lookup 172 (.tmp 79) (.tmp 82) true) 171 (some 83) true (.loud [78,84,85] [(84,.un (.ext 0) (.tmp 83)),(85,.un (.ext 1) (.tmp 83))] [] none [] false (.alloc 170) 0 (some 10) true (.loud [] [] [(10,.tmp 10),(84,.tmp 84)] none [] false (.store 170 (.tmp 10) (.tmp 84)) 0 none false (.fin [11] [(11,.tmp 85)] [])))) (.loud [] [] [] none [] false (.alloc 170) 0 (some 10) true (.loud [] [] [(79,.tmp 79),(82,.tmp 82)] none [] true (.lookup 172 (.tmp 79) (.tmp 82) true) 171 (some 83) true (.loud [78,84,85] [(85,.un (.ext 1) (.tmp 83))] [(10,.tmp 10),(84,.un (.ext 0) (.tmp 83))] none [] false (.store 170 (.tmp 10) (.tmp 84)) 0 none false (.fin [11] [(11,.tmp 85)] [])))))) (.loud [80,81,82] [(82,.un .load (.un (.fld 0) (.un (.fld 2) (.tmp 3))))] [] none [] false (.alloc 170) 0 (some 10) true (.loud [] [] [] none [] false (.call ⟨.value (.func 102),#[],#[]⟩) 172 (some 79) true (.loud [] [] [(79,.tmp 79),(82,.tmp 82)] none [] true (.lookup 172 (.tmp 79) (.tmp 82) true) 171 (some 83) true (.loud [78,84,85] [(85,.un (.ext 1) (.tmp 83))] [(10,.tmp 10),(84,.un (.ext 0) (.tmp 83))] none [] false (.store 170 (.tmp 10) (.tmp 84)) 0 none false (.fin [11] [(11,.tmp 85)] []))))))) (.seq (.reg true (.loud [86,87,88,89,90,91,92,93,94,95,109,110,111,112] [(87,.tmp 11),(109,.tmp 2),(112,.un .len (.un .load (.un (.fld 1) (.tmp 3))))] [(91,(.gd (.tmp 11) true (.un .len (.un .load (.un (.fld 1) (.un (.fld 2) (.tmp 3))))))),(93,.gd (.tmp 11) true (.un .load (.un (.fld 0) (.tmp 10)))),(95,.gd (.tmp 11) true (.un .load (.un (.fld 1) (.tmp 10))))] (some ((.tmp 11),true)) [] false (.call ⟨.value (.func 66),#[.tmp 91,.tmp 93,.tmp 95],#[3,3,3]⟩) 4 (some 96) true (.loud [97,98,99,100,101,102,103,104,105,106] [(98,.ite (.tmp 87) (.tmp 96) (.con (.bool false)))] [(102,(.gd (.ite (.tmp 87) (.tmp 96) (.con (.bool false))) true (.un .len (.un .load (.un (.fld 2) (.un (.fld 2) (.tmp 3))))))),(104,.gd (.ite (.tmp 87) (.tmp 96) (.con (.bool false))) true (.un .load (.un (.fld 2) (.tmp 10)))),(106,.gd (.ite (.tmp 87) (.tmp 96) (.con (.bool false))) true (.un .load (.un (.fld 3) (.tmp 10))))] (some ((.ite (.tmp 87) (.tmp 96) (.con (.bool false))),true)) [] false (.call ⟨.value (.func 66),#[.tmp 102,.tmp 104,.tmp 106],#[3,3,3]⟩) 4 (some 107) true (.loud [108] [] [(108,.ite (.tmp 98) (.tmp 107) (.con (.bool false))),(109,.tmp 109),(112,.tmp 112)] none [] true (.call ⟨.value (.func 65),#[.tmp 108,.const (.int .i64 10),.tmp 109,.tmp 112],#[4,34,3,3]⟩) 0 (some 113) false (.fin [] [] []))))) (.seq (.reg false (.fin [114,115,116,117,118] [(116,.un .load (.un (.fld 2) (.un (.fld 2) (.tmp 3)))),(117,(.un .len (.un .load (.un (.fld 2) (.un (.fld 2) (.tmp 3)))))),(118,.con (.int .i64 0))] [])) (.block 6 (.loop L.aO.l4))))))))) (.reg false (.fin [137,20] [(20,.bin (.arith .add) (.tmp 20) (.con (.int .i64 1)))] [])))))
def L.aO:LFn:=
⟨[],(.seq (.reg false (.fin [14,15,16,17,18,19,20] [(18,(.un .load (.un (.fld 1) (.un (.fld 0) (.un .nilPtr (.tmp 0)))))),(19,(.un .len (.un .load (.un (.fld 1) (.un (.fld 0) (.un .nilPtr (.tmp 0))))))),(20,.con (.int .i64 0))] [])) (.block 0 (.loop L.aO.l1)))⟩
theorem E.aO:bh Tryz.prog Tryz.f67=some L.aO:=by kernel_rfl
theorem F.aO:Tryz.prog.funcs[N.aO]? = some Tryz.f67:=Tryz.func67
end Go.Proofs.YtbkdlhkoiagbbaaGreat
namespace Go.Proofs.YtbkdlhkoiagbbaaGreat
open Go Go.Lft
set_option maxRecDepth 100000
abbrev N.ay:Nat:=68
def L.ay.l1:LC:=
 (.seq (.reg false (.fin [37] [(37,.bin (.cmp .lss) (.tmp 36) (.tmp 35))] [])) (.seq (.cond (.tmp 37) [37] .skip (.exit 0)) (.seq (.block 1 (.seq (.reg false (.fin [38,4] [(4,.tmp 36)] [])) (.reg false (.loud [39,40] [] [(39,.tmp 3),(40,.tmp 4)] none [] false (.call ⟨.value (.func 104),#[.tmp 39,.tmp 40],#[22,3]⟩) 4 (some 41) true (.loud [42] [] [(41,.tmp 41),(42,.tmp 4)] none [] false (.call ⟨.value (.func 65),#[.tmp 41,.const (.int .i64 15),.tmp 42,.const (.int .i64 0)],#[4,34,3,3]⟩) 0 (some 43) false (.fin [] [] [])))))) (.reg false (.fin [44,36] [(36,.bin (.arith .add) (.tmp 36) (.con (.int .i64 1)))] [])))))
def L.ay.l4:LC:=
 (.seq (.reg false (.fin [86] [(86,.bin (.cmp .lss) (.tmp 85) (.tmp 84))] [])) (.seq (.cond (.tmp 86) [86] .skip (.exit 6)) (.seq (.block 7 (.seq (.reg false (.loud [87,88,89] [(87,.tmp 85),(89,.un (.au 2) (.bin (.idx 2) (.tmp 83) (.tmp 85)))] [] none [] false (.alloc 65) 0 (some 14) true (.loud [13] [(13,.tmp 87)] [(14,.tmp 14),(89,.tmp 89)] none [] false (.store 65 (.tmp 14) (.tmp 89)) 0 none false (.fin [] [] [])))) (.reg true (.fin [90,91,92,93,94,95,96,97,98,99,100,101,102,12] [(12,(.ite (.tmp 12) (.bin (.cmp .eql) (.un .load (.un (.fld 0) (.tmp 14))) (.un .load (.bin (.idx 1) (.un .load (.bin (.idx 1) (.tmp 5) (.tmp 8))) (.tmp 13)))) (.con (.bool false))))] [])))) (.reg false (.fin [103,85] [(85,.bin (.arith .add) (.tmp 85) (.con (.int .i64 1)))] [])))))
def L.ay.l5:LC:=
 (.seq (.reg false (.fin [113] [(113,.bin (.cmp .lss) (.tmp 112) (.tmp 111))] [])) (.seq (.cond (.tmp 113) [113] .skip (.exit 8)) (.seq (.block 9 (.seq (.reg false (.loud [114,115] [(115,.un (.au 2) (.bin (.idx 2) (.tmp 110) (.tmp 112)))] [] none [] false (.alloc 65) 0 (some 16) true (.loud [] [] [(16,.tmp 16),(115,.tmp 115)] none [] false (.store 65 (.tmp 16) (.tmp 115)) 0 none false (.fin [] [] [])))) (.reg true (.loud [116,117,118,119,120,121,122,123,124,125,126,127,128,129,130,131,132,133,134] [] [(116,.tmp 7),(118,.un .load (.un (.fld 1) (.tmp 16))),(120,.un .load (.un (.fld 0) (.tmp 16))),(122,.bin (.arith .sub) (.con (.int .i64 (-1))) (.tmp 10)),(133,(.un .len (.un .load (.un (.fld 1) (.bin (.idx 6) (.un .load (.un (.fld 1) (.un (.fld 0) (.un .nilPtr (.un .load (.tmp 1)))))) (.un .load (.un (.fld 0) (.tmp 16)))))))),(134,.tmp 8)] none [] true (.call ⟨.value (.tmp 116),#[.tmp 118,.tmp 120,.tmp 122,.tmp 133,.tmp 134],#[3,3,3,3,3]⟩) 0 (some 135) false (.fin [] [] []))))) (.reg false (.fin [136,112] [(112,.bin (.arith .add) (.tmp 112) (.con (.int .i64 1)))] [])))))
def L.ay.l3:LC:=
 (.seq (.reg false (.fin [65] [(65,.bin (.cmp .lss) (.tmp 64) (.tmp 63))] [])) (.seq (.cond (.tmp 65) [65] .skip (.exit 4)) (.seq (.block 5 (.seq (.reg false (.loud [66,67,68] [(66,.tmp 64),(68,.un (.au 2) (.bin (.idx 2) (.tmp 62) (.tmp 64)))] [] none [] false (.alloc 63) 0 (some 11) true (.loud [10] [(10,.tmp 66)] [(11,.tmp 11),(68,.tmp 68)] none [] false (.store 63 (.tmp 11) (.tmp 68)) 0 none false (.fin [] [] [])))) (.seq (.reg true (.fin [69,70,71,72,73,74,75,76,77,78,79,80,81,12] [(12,(.ite (.bin (.cmp .gtr) (.tmp 8) (.con (.int .i64 0))) (.bin (.cmp .eql) (.un .len (.un .load (.un (.fld 1) (.tmp 11)))) (.un .len (.un .load (.bin (.idx 1) (.tmp 5) (.tmp 8))))) (.con (.bool false))))] [])) (.seq (.seq (.reg false (.fin [82,83,84,85] [(83,.un .load (.un (.fld 1) (.tmp 11))),(84,.un .len (.un .load (.un (.fld 1) (.tmp 11)))),(85,.con (.int .i64 0))] [])) (.block 6 (.loop L.ay.l4))) (.seq (.reg false (.loud [104,105,106,107] [] [(104,.tmp 12),(105,.tmp 8),(107,.bin (.arith .sub) (.con (.int .i64 (-1))) (.tmp 10))] none [] false (.call ⟨.value (.func 65),#[.tmp 104,.const (.int .i64 16),.tmp 105,.tmp 107],#[4,34,3,3]⟩) 0 (some 108) false (.fin [] [] []))) (.seq (.reg false (.fin [109,110,111,112] [(110,.un .load (.un (.fld 1) (.tmp 11))),(111,.un .len (.un .load (.un (.fld 1) (.tmp 11)))),(112,.con (.int .i64 0))] [])) (.block 8 (.loop L.ay.l5)))))))) (.reg false (.fin [137,64] [(64,.bin (.arith .add) (.tmp 64) (.con (.int .i64 1)))] [])))))
def L.ay.l7:LC:=
 (.seq (.reg false (.fin [150] [(150,.bin (.cmp .lss) (.tmp 149) (.tmp 148))] [])) (.seq (.cond (.tmp 150) [150] .skip (.exit 12)) (.seq (.block 13 (.seq (.reg false (.fin [151,152,20] [(20,.un .load (.bin (.idx 1) (.tmp 147) (.tmp 149)))] [])) (.reg false (.loud [153,154,155,156,157,158] [] [(153,.tmp 7),(154,.tmp 20),(155,.tmp 8),(156,.tmp 17),(157,.tmp 17),(158,.tmp 8)] none [] false (.call ⟨.value (.tmp 153),#[.tmp 154,.tmp 155,.tmp 156,.tmp 157,.tmp 158],#[3,3,3,3,3]⟩) 0 (some 159) false (.fin [] [] []))))) (.reg false (.fin [160,149] [(149,.bin (.arith .add) (.tmp 149) (.con (.int .i64 1)))] [])))))
def L.ay.l6:LC:=
 (.seq (.reg false (.fin [142] [(142,.bin (.cmp .lss) (.tmp 141) (.tmp 140))] [])) (.seq (.cond (.tmp 142) [142] .skip (.exit 10)) (.seq (.block 11 (.seq (.reg false (.loud [143,144,145] [(143,.tmp 141),(145,.un (.au 5) (.bin (.idx 5) (.tmp 139) (.tmp 141)))] [] none [] false (.alloc 78) 0 (some 18) true (.loud [17] [(17,.tmp 143)] [(18,.tmp 18),(145,.tmp 145)] none [] false (.store 78 (.tmp 18) (.tmp 145)) 0 none false (.fin [] [] [])))) (.seq (.reg false (.fin [146,147,148,149] [(147,.un .load (.un (.fld 3) (.tmp 18))),(148,.un .len (.un .load (.un (.fld 3) (.tmp 18)))),(149,.con (.int .i64 0))] [])) (.block 12 (.loop L.ay.l7))))) (.reg false (.fin [161,141] [(141,.bin (.arith .add) (.tmp 141) (.con (.int .i64 1)))] [])))))
def L.ay.l8:LC:=
 (.seq (.reg false (.fin [167] [(167,.bin (.cmp .lss) (.tmp 166) (.tmp 165))] [])) (.seq (.cond (.tmp 167) [167] .skip (.exit 14)) (.seq (.block 15 (.seq (.reg false (.fin [168,169,22] [(22,.un .load (.bin (.idx 1) (.tmp 164) (.tmp 166)))] [])) (.reg false (.loud [170,171,172,173,174,175,176,177,178,179] [] [(170,.tmp 7),(171,.tmp 22),(172,.tmp 8),(175,.un .len (.un .load (.un (.fld 1) (.tmp 9)))),(178,.un .len (.un .load (.un (.fld 1) (.tmp 9)))),(179,.tmp 8)] none [] false (.call ⟨.value (.tmp 170),#[.tmp 171,.tmp 172,.tmp 175,.tmp 178,.tmp 179],#[3,3,3,3,3]⟩) 0 (some 180) false (.fin [] [] []))))) (.reg false (.fin [181,166] [(166,.bin (.arith .add) (.tmp 166) (.con (.int .i64 1)))] [])))))
def L.ay.l2:LC:=
 (.seq (.reg false (.fin [57] [(57,.bin (.cmp .lss) (.tmp 56) (.tmp 55))] [])) (.seq (.cond (.tmp 57) [57] .skip (.exit 2)) (.seq (.block 3 (.seq (.reg false (.loud [58,59,60] [(58,.tmp 56),(60,.un (.au 6) (.bin (.idx 6) (.tmp 54) (.tmp 56)))] [] none [] false (.alloc 48) 0 (some 9) true (.loud [8] [(8,.tmp 58)] [(9,.tmp 9),(60,.tmp 60)] none [] false (.store 48 (.tmp 9) (.tmp 60)) 0 none false (.fin [] [] [])))) (.seq (.seq (.reg false (.fin [61,62,63,64] [(62,.un .load (.un (.fld 0) (.tmp 9))),(63,.un .len (.un .load (.un (.fld 0) (.tmp 9)))),(64,.con (.int .i64 0))] [])) (.block 4 (.loop L.ay.l3))) (.seq (.seq (.reg false (.fin [138,139,140,141] [(139,.un .load (.un (.fld 1) (.tmp 9))),(140,.un .len (.un .load (.un (.fld 1) (.tmp 9)))),(141,.con (.int .i64 0))] [])) (.block 10 (.loop L.ay.l6))) (.seq (.reg false (.fin [162,163,164,165,166] [(164,.un .load (.un (.fld 1) (.un (.fld 2) (.tmp 9)))),(165,(.un .len (.un .load (.un (.fld 1) (.un (.fld 2) (.tmp 9)))))),(166,.con (.int .i64 0))] [])) (.block 14 (.loop L.ay.l8))))))) (.reg false (.fin [182,56] [(56,.bin (.arith .add) (.tmp 56) (.con (.int .i64 1)))] [])))))
def L.ay:LFn:=
⟨[],(.seq (.reg false (.loud [] [] [(0,.tmp 0)] none [] false (.box 132 (.tmp 0)) 0 (some 1) true (.fin [] [] []))) (.seq (.reg false (.loud [23,24,25,26] [] [(26,(.un (.au 2) (.un (.fld 0) (.un .nilPtr (.un .load (.tmp 1))))))] none [] false (.call ⟨.value (.func 18),#[.tmp 26],#[28]⟩) 40 (some 27) true (.fin [2] [(2,.tmp 27)] []))) (.seq (.reg false (.loud [28] [] [(28,.tmp 2)] none [] false (.call ⟨.value (.func 103),#[.tmp 28],#[40]⟩) 22 (some 29) true (.fin [3] [(3,.tmp 29)] []))) (.seq (.seq (.reg false (.fin [30,31,32,33,34,35,36] [(35,(.un .len (.un .load (.un (.fld 1) (.un (.fld 0) (.un .nilPtr (.un .load (.tmp 1)))))))),(36,.con (.int .i64 0))] [])) (.block 0 (.loop L.ay.l1))) (.seq (.reg false (.loud [45] [] [(45,.tmp 2)] none [] false (.call ⟨.value (.func 44),#[.tmp 45],#[40]⟩) 40 (some 46) true (.loud [47] [] [(47,.tmp 2)] none [] false (.call ⟨.value (.func 105),#[.tmp 47],#[40]⟩) 22 (some 48) true (.loud [] [] [] none [] false (.alloc 22) 0 (some 6) true (.loud [5] [(5,.tmp 46)] [(6,.tmp 6),(48,.tmp 48)] none [] false (.store 22 (.tmp 6) (.tmp 48)) 0 none false (.fin [] [] [])))))) (.seq (.reg false (.fin [49,7] [(7,(.un (.fn 106) (.snoc (.snoc (.con (.tuple #[])) (.tmp 1)) (.tmp 6))))] [])) (.seq (.reg false (.fin [50,51,52,53,54,55,56] [(54,(.un .load (.un (.fld 1) (.un (.fld 0) (.un .nilPtr (.un .load (.tmp 1))))))),(55,(.un .len (.un .load (.un (.fld 1) (.un (.fld 0) (.un .nilPtr (.un .load (.tmp 1)))))))),(56,.con (.int .i64 0))] [])) (.block 2 (.loop L.ay.l2)))))))))⟩
theorem E.ay:bh Tryz.prog Tryz.f68=some L.ay:=by kernel_rfl
theorem F.ay:Tryz.prog.funcs[N.ay]? = some Tryz.f68:=Tryz.func68
abbrev N.bF:Nat:=69
def L.bF.l1:LC:=
 (.seq (.reg false (.fin [11] [(11,.bin (.cmp .lss) (.tmp 10) (.tmp 9))] [])) (.seq (.cond (.tmp 11) [11] .skip (.exit 0)) (.seq (.block 1 (.seq (.reg false (.loud [12,13] [(13,.un (.au 6) (.bin (.idx 6) (.tmp 8) (.tmp 10)))] [] none [] false (.alloc 48) 0 (some 7) true (.loud [] [] [(7,.tmp 7),(13,.tmp 13)] none [] false (.store 48 (.tmp 7) (.tmp 13)) 0 none false (.fin [] [] [])))) (.reg false (.loud [14,15,16] [(14,.tmp 5)] [(15,.tmp 1),(16,.un (.au 6) (.tmp 7))] none [] false (.call ⟨.value (.tmp 15),#[.tmp 16],#[48]⟩) 48 (some 17) true (.loud [] [] [(17,.tmp 17)] none [] false (.buildSlice 26 1 #[(0,.tmp 17)]) 26 (some 18) true (.loud [] [] [(14,.tmp 14),(18,.tmp 18)] none [] false (.call ⟨.builtin .append,#[.tmp 14,.tmp 18],#[26,26]⟩) 26 (some 19) true (.fin [5] [(5,.tmp 19)] []))))))) (.reg false (.fin [20,10] [(10,.bin (.arith .add) (.tmp 10) (.con (.int .i64 1)))] [])))))
def L.bF:LFn:=
⟨[.tmp 4],(.seq (.reg false (.fin [4] [(4,.con (.slice none 0 0))] [])) (.seq (.reg false (.fin [5] [(5,.con (.slice none 0 0))] [])) (.seq (.seq (.reg false (.fin [8,9,10] [(8,.tmp 0),(9,.un .len (.tmp 0)),(10,.con (.int .i64 0))] [])) (.block 0 (.loop L.bF.l1))) (.seq (.reg false (.fin [21,4] [(4,.tmp 5)] [])) .ret))))⟩
theorem E.bF:bh Tryz.prog Tryz.f69=some L.bF:=by kernel_rfl
theorem F.bF:Tryz.prog.funcs[N.bF]? = some Tryz.f69:=Tryz.func69
abbrev N.dM:Nat:=70
def L.dM:LFn:=
⟨[.un (.au 6) (.tmp 2)],(.seq (.reg false (.loud [] [] [(0,.tmp 0)] none [] false (.box 48 (.tmp 0)) 0 (some 1) true (.loud [] [] [] none [] false (.alloc 48) 0 (some 2) true (.fin [] [] [])))) (.seq (.reg false (.loud [3,4] [] [(4,.un .load (.un (.fld 0) (.tmp 1)))] none [] false (.call ⟨.value (.func 71),#[.tmp 4,.func 72],#[43,138]⟩) 43 (some 5) true (.loud [6] [] [(6,.un (.fld 0) (.tmp 1)),(5,.tmp 5)] none [] false (.store 43 (.tmp 6) (.tmp 5)) 0 none false (.fin [] [] [])))) (.seq (.reg false (.loud [7,8] [] [(8,.un .load (.un (.fld 1) (.tmp 1)))] none [] false (.call ⟨.value (.func 74),#[.tmp 8,.func 75],#[44,140]⟩) 44 (some 9) true (.loud [10] [] [(10,.un (.fld 1) (.tmp 1)),(9,.tmp 9)] none [] false (.store 44 (.tmp 10) (.tmp 9)) 0 none false (.fin [] [] [])))) (.seq (.reg true (.loud [11,12,13,15,16,17] [(17,.un .load (.un (.fld 2) (.un (.fld 2) (.tmp 1))))] [(13,.un .load (.un (.fld 1) (.un (.fld 2) (.tmp 1))))] none [] false (.call ⟨.value (.func 76),#[.tmp 13],#[22]⟩) 22 (some 14) true (.loud [19,20] [(20,.un (.fld 1) (.un (.fld 2) (.tmp 1)))] [(17,.tmp 17)] none [] true (.call ⟨.value (.func 76),#[.tmp 17],#[22]⟩) 22 (some 18) true (.loud [] [] [(20,.tmp 20),(14,.tmp 14)] none [] false (.store 22 (.tmp 20) (.tmp 14)) 0 none false (.loud [21,22] [] [(22,.un (.fld 2) (.un (.fld 2) (.tmp 1))),(18,.tmp 18)] none [] false (.store 22 (.tmp 22) (.tmp 18)) 0 none false (.fin [] [] [])))))) (.seq (.reg false (.loud [23] [] [(2,.tmp 2),(23,.un (.au 6) (.tmp 1))] none [] false (.store 48 (.tmp 2) (.tmp 23)) 0 none false (.fin [] [] []))) .ret)))))⟩
theorem E.dM:bh Tryz.prog Tryz.f70=some L.dM:=by kernel_rfl
theorem F.dM:Tryz.prog.funcs[N.dM]? = some Tryz.f70:=Tryz.func70
abbrev N.cj:Nat:=71
def L.cj.l1:LC:=
 (.seq (.reg false (.fin [11] [(11,.bin (.cmp .lss) (.tmp 10) (.tmp 9))] [])) (.seq (.cond (.tmp 11) [11] .skip (.exit 0)) (.seq (.block 1 (.seq (.reg false (.loud [12,13] [(13,.un (.au 2) (.bin (.idx 2) (.tmp 8) (.tmp 10)))] [] none [] false (.alloc 63) 0 (some 7) true (.loud [] [] [(7,.tmp 7),(13,.tmp 13)] none [] false (.store 63 (.tmp 7) (.tmp 13)) 0 none false (.fin [] [] [])))) (.reg false (.loud [14,15,16] [(14,.tmp 5)] [(15,.tmp 1),(16,.un (.au 2) (.tmp 7))] none [] false (.call ⟨.value (.tmp 15),#[.tmp 16],#[63]⟩) 63 (some 17) true (.loud [] [] [(17,.tmp 17)] none [] false (.buildSlice 43 1 #[(0,.tmp 17)]) 43 (some 18) true (.loud [] [] [(14,.tmp 14),(18,.tmp 18)] none [] false (.call ⟨.builtin .append,#[.tmp 14,.tmp 18],#[43,43]⟩) 43 (some 19) true (.fin [5] [(5,.tmp 19)] []))))))) (.reg false (.fin [20,10] [(10,.bin (.arith .add) (.tmp 10) (.con (.int .i64 1)))] [])))))
def L.cj:LFn:=
⟨[.tmp 4],(.seq (.reg false (.fin [4] [(4,.con (.slice none 0 0))] [])) (.seq (.reg false (.fin [5] [(5,.con (.slice none 0 0))] [])) (.seq (.seq (.reg false (.fin [8,9,10] [(8,.tmp 0),(9,.un .len (.tmp 0)),(10,.con (.int .i64 0))] [])) (.block 0 (.loop L.cj.l1))) (.seq (.reg false (.fin [21,4] [(4,.tmp 5)] [])) .ret))))⟩
theorem E.cj:bh Tryz.prog Tryz.f71=some L.cj:=by kernel_rfl
theorem F.cj:Tryz.prog.funcs[N.cj]? = some Tryz.f71:=Tryz.func71
abbrev N.cT:Nat:=72
def L.cT:LFn:=
⟨[.un (.au 2) (.tmp 2)],(.seq (.reg false (.loud [] [] [(0,.tmp 0)] none [] false (.box 63 (.tmp 0)) 0 (some 1) true (.loud [] [] [] none [] false (.alloc 63) 0 (some 2) true (.fin [] [] [])))) (.seq (.reg false (.loud [3,4] [] [(4,.un .load (.un (.fld 1) (.tmp 1)))] none [] false (.call ⟨.value (.func 73),#[.tmp 4],#[61]⟩) 61 (some 5) true (.loud [6] [] [(6,.un (.fld 1) (.tmp 1)),(5,.tmp 5)] none [] false (.store 61 (.tmp 6) (.tmp 5)) 0 none false (.fin [] [] [])))) (.seq (.reg false (.loud [7] [] [(2,.tmp 2),(7,.un (.au 2) (.tmp 1))] none [] false (.store 63 (.tmp 2) (.tmp 7)) 0 none false (.fin [] [] []))) .ret)))⟩
theorem E.cT:bh Tryz.prog Tryz.f72=some L.cT:=by kernel_rfl
theorem F.cT:Tryz.prog.funcs[N.cT]? = some Tryz.f72:=Tryz.func72
abbrev N.dg:Nat:=73
def L.dg:LFn:=
⟨[.tmp 2],(.seq (.reg false (.fin [2] [(2,.con (.slice none 0 0))] [])) (.seq (.seq (.reg false (.loud [3] [] [(3,.tmp 0)] none [] false (.binOp .eql 61 (.tmp 3) (.const (.slice none 0 0)) 61) 4 (some 4) true (.fin [] [] []))) (.cond (.tmp 4) [4] (.seq (.reg false (.fin [2] [(2,.con (.slice none 0 0))] [])) .ret) .skip)) (.seq (.reg false (.loud [] [] [] none [] false (.buildSlice 61 0 #[]) 61 (some 5) true (.loud [6] [] [(5,.tmp 5),(6,.tmp 0)] none [] false (.call ⟨.builtin .append,#[.tmp 5,.tmp 6],#[61,61]⟩) 61 (some 7) true (.fin [2] [(2,.tmp 7)] [])))) .ret)))⟩
theorem E.dg:bh Tryz.prog Tryz.f73=some L.dg:=by kernel_rfl
theorem F.dg:Tryz.prog.funcs[N.dg]? = some Tryz.f73:=Tryz.func73
abbrev N.b6:Nat:=74
def L.b6.l1:LC:=
 (.seq (.reg false (.fin [11] [(11,.bin (.cmp .lss) (.tmp 10) (.tmp 9))] [])) (.seq (.cond (.tmp 11) [11] .skip (.exit 0)) (.seq (.block 1 (.seq (.reg false (.loud [12,13] [(13,.un (.au 5) (.bin (.idx 5) (.tmp 8) (.tmp 10)))] [] none [] false (.alloc 78) 0 (some 7) true (.loud [] [] [(7,.tmp 7),(13,.tmp 13)] none [] false (.store 78 (.tmp 7) (.tmp 13)) 0 none false (.fin [] [] [])))) (.reg false (.loud [14,15,16] [(14,.tmp 5)] [(15,.tmp 1),(16,.un (.au 5) (.tmp 7))] none [] false (.call ⟨.value (.tmp 15),#[.tmp 16],#[78]⟩) 78 (some 17) true (.loud [] [] [(17,.tmp 17)] none [] false (.buildSlice 44 1 #[(0,.tmp 17)]) 44 (some 18) true (.loud [] [] [(14,.tmp 14),(18,.tmp 18)] none [] false (.call ⟨.builtin .append,#[.tmp 14,.tmp 18],#[44,44]⟩) 44 (some 19) true (.fin [5] [(5,.tmp 19)] []))))))) (.reg false (.fin [20,10] [(10,.bin (.arith .add) (.tmp 10) (.con (.int .i64 1)))] [])))))
def L.b6:LFn:=
⟨[.tmp 4],(.seq (.reg false (.fin [4] [(4,.con (.slice none 0 0))] [])) (.seq (.reg false (.fin [5] [(5,.con (.slice none 0 0))] [])) (.seq (.seq (.reg false (.fin [8,9,10] [(8,.tmp 0),(9,.un .len (.tmp 0)),(10,.con (.int .i64 0))] [])) (.block 0 (.loop L.b6.l1))) (.seq (.reg false (.fin [21,4] [(4,.tmp 5)] [])) .ret))))⟩
theorem E.b6:bh Tryz.prog Tryz.f74=some L.b6:=by kernel_rfl
theorem F.b6:Tryz.prog.funcs[N.b6]? = some Tryz.f74:=Tryz.func74
abbrev N.cU:Nat:=75
def L.cU:LFn:=
⟨[.un (.au 5) (.tmp 2)],(.seq (.reg false (.loud [] [] [(0,.tmp 0)] none [] false (.box 78 (.tmp 0)) 0 (some 1) true (.loud [] [] [] none [] false (.alloc 78) 0 (some 2) true (.fin [] [] [])))) (.seq (.reg false (.loud [3,4] [] [(4,.un .load (.un (.fld 3) (.tmp 1)))] none [] false (.call ⟨.value (.func 76),#[.tmp 4],#[22]⟩) 22 (some 5) true (.loud [6] [] [(6,.un (.fld 3) (.tmp 1)),(5,.tmp 5)] none [] false (.store 22 (.tmp 6) (.tmp 5)) 0 none false (.fin [] [] [])))) (.seq (.reg false (.loud [7] [] [(2,.tmp 2),(7,.un (.au 5) (.tmp 1))] none [] false (.store 78 (.tmp 2) (.tmp 7)) 0 none false (.fin [] [] []))) .ret)))⟩
theorem E.cU:bh Tryz.prog Tryz.f75=some L.cU:=by kernel_rfl
theorem F.cU:Tryz.prog.funcs[N.cU]? = some Tryz.f75:=Tryz.func75
abbrev N.cZ:Nat:=76
def L.cZ:LFn:=
⟨[.tmp 2],(.seq (.reg false (.fin [2] [(2,.con (.slice none 0 0))] [])) (.seq (.seq (.reg false (.loud [3] [] [(3,.tmp 0)] none [] false (.binOp .eql 22 (.tmp 3) (.const (.slice none 0 0)) 22) 4 (some 4) true (.fin [] [] []))) (.cond (.tmp 4) [4] (.seq (.reg false (.fin [2] [(2,.con (.slice none 0 0))] [])) .ret) .skip)) (.seq (.reg false (.loud [] [] [] none [] false (.buildSlice 22 0 #[]) 22 (some 5) true (.loud [6] [] [(5,.tmp 5),(6,.tmp 0)] none [] false (.call ⟨.builtin .append,#[.tmp 5,.tmp 6],#[22,22]⟩) 22 (some 7) true (.fin [2] [(2,.tmp 7)] [])))) .ret)))⟩
theorem E.cZ:bh Tryz.prog Tryz.f76=some L.cZ:=by kernel_rfl
theorem F.cZ:Tryz.prog.funcs[N.cZ]? = some Tryz.f76:=Tryz.func76
abbrev N.aP:Nat:=77
def L.aP.l1:LC:=
 (.block 1 (.seq (.reg false (.fin [21,22,23,12] [(12,.bin (.arith .sub) (.tmp 2) (.tmp 1))] [])) (.seq (.seq (.reg false (.fin [24,25] [(25,.bin (.cmp .leq) (.tmp 12) (.con (.int .i64 12)))] [])) (.cond (.tmp 25) [25] (.seq (.reg false (.loud [26,27,28,29] [] [(26,.tmp 0),(27,.tmp 1),(28,.tmp 2),(29,.tmp 4)] none [] false (.call ⟨.value (.func 108),#[.tmp 26,.tmp 27,.tmp 28,.tmp 29],#[61,3,3,94]⟩) 0 (some 30) false (.fin [] [] []))) .ret) .skip)) (.seq (.seq (.reg false (.fin [31,32] [(32,.bin (.cmp .eql) (.tmp 3) (.con (.int .i64 0)))] [])) (.cond (.tmp 32) [32] (.seq (.reg false (.loud [33,34,35,36] [] [(33,.tmp 0),(34,.tmp 1),(35,.tmp 2),(36,.tmp 4)] none [] false (.call ⟨.value (.func 109),#[.tmp 33,.tmp 34,.tmp 35,.tmp 36],#[61,3,3,94]⟩) 0 (some 37) false (.fin [] [] []))) .ret) .skip)) (.seq (.seq (.reg false (.fin [38,39] [(39,.un .not (.tmp 10))] [])) (.cond (.tmp 39) [39] (.seq (.reg false (.loud [40,41,42,43] [] [(40,.tmp 0),(41,.tmp 1),(42,.tmp 2),(43,.tmp 4)] none [] false (.call ⟨.value (.func 110),#[.tmp 40,.tmp 41,.tmp 42,.tmp 43],#[61,3,3,94]⟩) 0 (some 44) false (.fin [] [] []))) (.reg false (.fin [45,46,3] [(3,.bin (.arith .sub) (.tmp 3) (.con (.int .i64 1)))] []))) .skip)) (.seq (.reg false (.loud [48,49,50,51] [] [(48,.tmp 0),(49,.tmp 1),(50,.tmp 2),(51,.tmp 4)] none [] false (.call ⟨.value (.func 111),#[.tmp 48,.tmp 49,.tmp 50,.tmp 51],#[61,3,3,94]⟩) 183 (some 52) true (.fin [47,53,54,13,14] [(13,.un (.ext 0) (.tmp 52)),(14,.un (.ext 1) (.tmp 52))] []))) (.seq (.seq (.reg false (.fin [55,56] [(56,.bin (.cmp .eql) (.tmp 14) (.con (.int .i64 2)))] [])) (.cond (.tmp 56) [56] (.seq (.reg false (.loud [57,58,59,60] [] [(57,.tmp 0),(58,.tmp 1),(59,.tmp 2),(60,.tmp 4)] none [] false (.call ⟨.value (.func 112),#[.tmp 57,.tmp 58,.tmp 59,.tmp 60],#[61,3,3,94]⟩) 0 (some 61) false (.fin [] [] []))) (.seq (.reg false (.fin [62,63,64,65,66,67,13] [(13,.bin (.arith .sub) (.bin (.arith .sub) (.tmp 2) (.con (.int .i64 1))) (.bin (.arith .sub) (.tmp 13) (.tmp 1)))] [])) (.reg false (.fin [14] [(14,.con (.int .i64 1))] [])))) .skip)) (.seq (.seq (.reg false (.fin [68,69,70,71,72,73,74,75] [(75,.ite (.ite (.tmp 10) (.tmp 11) (.con (.bool false))) (.bin (.cmp .eql) (.tmp 14) (.con (.int .i64 1))) (.con (.bool false)))] [])) (.cond (.tmp 75) [75] (.seq (.reg false (.loud [76,77,78,79] [] [(76,.tmp 0),(77,.tmp 1),(78,.tmp 2),(79,.tmp 4)] none [] false (.call ⟨.value (.func 113),#[.tmp 76,.tmp 77,.tmp 78,.tmp 79],#[61,3,3,94]⟩) 4 (some 80) true (.fin [] [] []))) (.cond (.tmp 80) [80] .ret .skip)) .skip)) (.seq (.seq (.reg true (.loud [81,82,83,84,85,86,87,88,89,90,91,92,93] [(83,.bin (.cmp .gtr) (.tmp 1) (.con (.int .i64 0)))] [(84,.gd (.bin (.cmp .gtr) (.tmp 1) (.con (.int .i64 0))) true (.tmp 4)),(89,(.gd (.bin (.cmp .gtr) (.tmp 1) (.con (.int .i64 0))) true (.un (.au 2) (.bin (.idx 2) (.tmp 0) (.bin (.arith .sub) (.tmp 1) (.con (.int .i64 1))))))),(93,.gd (.bin (.cmp .gtr) (.tmp 1) (.con (.int .i64 0))) true (.un (.au 2) (.bin (.idx 2) (.tmp 0) (.tmp 13))))] (some ((.bin (.cmp .gtr) (.tmp 1) (.con (.int .i64 0))),true)) [] false (.call ⟨.value (.tmp 84),#[.tmp 89,.tmp 93],#[65,65]⟩) 3 (some 94) true (.fin [95,96,97] [(97,(.ite (.tmp 83) (.un .not (.bin (.cmp .lss) (.tmp 94) (.con (.int .i64 0)))) (.con (.bool false))))] []))) (.cond (.tmp 97) [97] (.seq (.reg false (.loud [98,99,100,101,102] [] [(98,.tmp 0),(99,.tmp 1),(100,.tmp 2),(101,.tmp 13),(102,.tmp 4)] none [] false (.call ⟨.value (.func 114),#[.tmp 98,.tmp 99,.tmp 100,.tmp 101,.tmp 102],#[61,3,3,3,94]⟩) 3 (some 103) true (.fin [15] [(15,.tmp 103)] []))) (.seq (.reg false (.fin [104,1] [(1,.tmp 15)] [])) (.exit 1))) .skip)) (.seq (.reg false (.loud [106,107,108,109,110] [] [(106,.tmp 0),(107,.tmp 1),(108,.tmp 2),(109,.tmp 13),(110,.tmp 4)] none [] false (.call ⟨.value (.func 115),#[.tmp 106,.tmp 107,.tmp 108,.tmp 109,.tmp 110],#[61,3,3,3,94]⟩) 92 (some 111) true (.fin [105,112,113,16,17] [(16,.un (.ext 0) (.tmp 111)),(17,.un (.ext 1) (.tmp 111))] []))) (.seq (.reg false (.fin [114,11] [(11,.tmp 17)] [])) (.seq (.reg false (.fin [115,116,117,118,119,120,18,19] [(18,.bin (.arith .sub) (.tmp 16) (.tmp 1)),(19,.bin (.arith .sub) (.tmp 2) (.tmp 16))] [])) (.seq (.reg false (.fin [121,122,20] [(20,.bin (.div .quo) (.tmp 12) (.con (.int .i64 8)))] [])) (.seq (.reg false (.fin [123,124,125] [(125,.bin (.cmp .lss) (.tmp 18) (.tmp 19))] [])) (.cond (.tmp 125) [125] (.seq (.reg false (.fin [126,127,128,10] [(10,.bin (.cmp .geq) (.tmp 18) (.tmp 20))] [])) (.seq (.reg false (.loud [129,130,131,132,133] [] [(129,.tmp 0),(130,.tmp 1),(131,.tmp 16),(132,.tmp 3),(133,.tmp 4)] none [] false (.call ⟨.value (.func 77),#[.tmp 129,.tmp 130,.tmp 131,.tmp 132,.tmp 133],#[61,3,3,3,94]⟩) 0 (some 134) false (.fin [] [] []))) (.reg false (.fin [135,136,1] [(1,.bin (.arith .add) (.tmp 16) (.con (.int .i64 1)))] [])))) (.seq (.reg false (.fin [137,138,139,10] [(10,.bin (.cmp .geq) (.tmp 19) (.tmp 20))] [])) (.seq (.reg false (.loud [140,141,142,143,144,145] [] [(140,.tmp 0),(142,.bin (.arith .add) (.tmp 16) (.con (.int .i64 1))),(143,.tmp 2),(144,.tmp 3),(145,.tmp 4)] none [] false (.call ⟨.value (.func 77),#[.tmp 140,.tmp 142,.tmp 143,.tmp 144,.tmp 145],#[61,3,3,3,94]⟩) 0 (some 146) false (.fin [] [] []))) (.reg false (.fin [147,2] [(2,.tmp 16)] [])))))))))))))))))))
def L.aP:LFn:=
⟨[],(.seq (.reg false (.fin [10] [(10,.con (.bool true))] [])) (.seq (.reg false (.fin [11] [(11,.con (.bool true))] [])) (.block 0 (.loop L.aP.l1))))⟩
theorem E.aP:bh Tryz.prog Tryz.f77=some L.aP:=by kernel_rfl
theorem F.aP:Tryz.prog.funcs[N.aP]? = some Tryz.f77:=Tryz.func77
abbrev N.uo:Nat:=78
abbrev N.dG:Nat:=81
def L.dG.l1:LC:=
 (.seq (.seq (.reg false (.fin [26,27,28,29,30,31,32] [(32,(.bin (.cmp .lss) (.tmp 7) (.un .len (.un .load (.bin (.idx 1) (.tmp 0) (.tmp 1))))))] [])) (.cond (.tmp 32) [32] .skip (.exit 0))) (.seq (.block 1 (.seq (.reg false (.fin [35,36,37,38,39,40,41,42,43] [(43,(.bin (.cmp .eql) (.un .load (.bin (.idx 1) (.un .load (.bin (.idx 1) (.tmp 0) (.tmp 1))) (.tmp 7))) (.tmp 2)))] [])) (.cond (.tmp 43) [43] (.seq (.reg false (.fin [6] [(6,.con (.bool true))] [])) .ret) .skip))) (.reg false (.fin [33,34,7] [(7,.bin (.arith .add) (.tmp 7) (.con (.int .i64 1)))] []))))
def L.dG:LFn:=
⟨[.tmp 6],(.seq (.reg false (.fin [6] [(6,.con (.bool false))] [])) (.seq (.seq (.reg false (.fin [8,9,10,11,12,13,14,15,16,17,18,19,20,21,22,23,24,25] [(25,(.ite (.ite (.ite (.bin (.cmp .lss) (.tmp 1) (.con (.int .i64 0))) (.con (.bool true)) (.bin (.cmp .geq) (.tmp 1) (.un .len (.tmp 0)))) (.con (.bool true)) (.bin (.cmp .lss) (.tmp 2) (.con (.int .i64 0)))) (.con (.bool true)) (.bin (.cmp .geq) (.tmp 2) (.un .len (.tmp 0)))))] [])) (.cond (.tmp 25) [25] (.seq (.reg false (.fin [6] [(6,.con (.bool false))] [])) .ret) .skip)) (.seq (.seq (.reg false (.fin [7] [(7,.con (.int .i64 0))] [])) (.block 0 (.loop L.dG.l1))) (.seq (.reg false (.fin [6] [(6,.con (.bool false))] [])) .ret))))⟩
theorem E.dG:bh Tryz.prog Tryz.f81=some L.dG:=by kernel_rfl
theorem F.dG:Tryz.prog.funcs[N.dG]? = some Tryz.f81:=Tryz.func81
abbrev N.bL:Nat:=82
def L.bL.l2:LC:=
 (.seq (.reg false (.fin [18] [(18,.bin (.cmp .lss) (.tmp 17) (.tmp 16))] [])) (.seq (.cond (.tmp 18) [18] .skip (.exit 2)) (.seq (.block 3 (.seq (.reg false (.fin [19,20,6] [(6,.un .load (.bin (.idx 1) (.tmp 15) (.tmp 17)))] [])) (.seq (.reg false (.loud [21,22,23] [] [(21,.tmp 0),(22,.tmp 3),(23,.tmp 6)] none [] false (.call ⟨.value (.tmp 21),#[.tmp 22,.tmp 23],#[3,3]⟩) 4 (some 24) true (.fin [25] [(25,.un .not (.tmp 24))] []))) (.cond (.tmp 25) [25] .ret .skip)))) (.reg false (.fin [26,17] [(17,.bin (.arith .add) (.tmp 17) (.con (.int .i64 1)))] [])))))
def L.bL.l1:LC:=
 (.seq (.reg false (.fin [11] [(11,.bin (.cmp .lss) (.tmp 10) (.tmp 9))] [])) (.seq (.cond (.tmp 11) [11] .skip (.exit 0)) (.seq (.block 1 (.seq (.reg false (.fin [12,13,14,3,4] [(3,.tmp 10),(4,.un .load (.bin (.idx 1) (.tmp 8) (.tmp 10)))] [])) (.seq (.reg false (.fin [15,16,17] [(15,.tmp 4),(16,.un .len (.tmp 4)),(17,.con (.int .i64 0))] [])) (.block 2 (.loop L.bL.l2))))) (.reg false (.fin [27,10] [(10,.bin (.arith .add) (.tmp 10) (.con (.int .i64 1)))] [])))))
def L.bL:LFn:=
⟨[],(.seq (.reg false (.loud [7] [] [(7,.un .load (.tmp 1))] none [] false (.call ⟨.value (.func 43),#[.tmp 7],#[40]⟩) 40 (some 8) true (.fin [9,10] [(9,.un .len (.tmp 8)),(10,.con (.int .i64 0))] []))) (.block 0 (.loop L.bL.l1)))⟩
theorem E.bL:bh Tryz.prog Tryz.f82=some L.bL:=by kernel_rfl
theorem F.bL:Tryz.prog.funcs[N.bL]? = some Tryz.f82:=Tryz.func82
abbrev N.cK:Nat:=95
def L.cK:LFn:=
⟨[.tmp 2,.tmp 3],(.seq (.reg false (.fin [2,3] [(2,.con (.int .i64 0)),(3,.con (.bool false))] [])) (.seq (.seq (.reg false (.fin [5,6,7,8,9,10] [(10,(.bin (.cmp .eql) (.un .len (.un .load (.un (.fld 5) (.un .nilPtr (.tmp 0))))) (.con (.int .i64 0))))] [])) (.cond (.tmp 10) [10] (.seq (.reg false (.fin [2,3] [(2,.con (.int .i64 0)),(3,.con (.bool false))] [])) .ret) .skip)) (.seq (.reg false (.loud [11,12,13,14,15,16] [] [(11,.tmp 0),(16,(.un .len (.un .load (.un (.fld 5) (.un .nilPtr (.tmp 0))))))] none [] false (.call ⟨.value (.func 24),#[.tmp 11,.tmp 16],#[66,3]⟩) 3 (some 17) true (.fin [4] [(4,.tmp 17)] []))) (.seq (.seq (.reg false (.loud [18] [] [(18,.tmp 0)] none [] false (.call ⟨.value (.func 24),#[.tmp 18,.const (.int .i64 3)],#[66,3]⟩) 3 (some 19) true (.fin [20] [(20,.bin (.cmp .eql) (.tmp 19) (.con (.int .i64 0)))] []))) (.cond (.tmp 20) [20] (.reg false (.fin [21,22,23,24,25,26,4] [(4,(.bin (.arith .sub) (.un .len (.un .load (.un (.fld 5) (.un .nilPtr (.tmp 0))))) (.con (.int .i64 1))))] [])) .skip)) (.seq (.reg false (.fin [27,28,29,30,31,32,33,2,3] [(2,(.un .load (.bin (.idx 1) (.un .load (.un (.fld 5) (.un .nilPtr (.tmp 0)))) (.tmp 4)))),(3,.con (.bool true))] [])) .ret)))))⟩
theorem E.cK:bh Tryz.prog Tryz.f95=some L.cK:=by kernel_rfl
theorem F.cK:Tryz.prog.funcs[N.cK]? = some Tryz.f95:=Tryz.func95
end Go.Proofs.YtbkdlhkoiagbbaaGreat
namespace Go.Proofs.YtbkdlhkoiagbbaaGreat
open Go Go.Lft
set_option maxRecDepth 100000
abbrev N.bC:Nat:=99
def L.bC.l1:LC:=
 (.seq (.reg false (.fin [15] [(15,.bin (.cmp .lss) (.tmp 14) (.tmp 13))] [])) (.seq (.cond (.tmp 15) [15] .skip (.exit 0)) (.seq (.block 1 (.seq (.reg false (.fin [16,17,9] [(9,.un .load (.bin (.idx 1) (.tmp 12) (.tmp 14)))] [])) (.reg false (.loud [18,19,20,21] [] [(18,.tmp 0),(19,.tmp 9),(20,.tmp 2),(21,.tmp 3)] none [] false (.call ⟨.value (.func 135),#[.tmp 18,.tmp 19,.tmp 20,.tmp 21],#[132,3,3,3]⟩) 0 (some 22) false (.fin [] [] []))))) (.reg false (.fin [23,14] [(14,.bin (.arith .add) (.tmp 14) (.con (.int .i64 1)))] [])))))
def L.bC.l2:LC:=
 (.seq (.reg false (.fin [27] [(27,.bin (.cmp .lss) (.tmp 26) (.tmp 25))] [])) (.seq (.cond (.tmp 27) [27] .skip (.exit 2)) (.seq (.block 3 (.seq (.reg false (.fin [28,29,11] [(11,.un .load (.bin (.idx 1) (.tmp 24) (.tmp 26)))] [])) (.reg false (.loud [30,31,32,33] [] [(30,.tmp 0),(31,.tmp 11),(32,.tmp 2),(33,.tmp 3)] none [] false (.call ⟨.value (.func 136),#[.tmp 30,.tmp 31,.tmp 32,.tmp 33],#[132,3,3,3]⟩) 0 (some 34) false (.fin [] [] []))))) (.reg false (.fin [35,26] [(26,.bin (.arith .add) (.tmp 26) (.con (.int .i64 1)))] [])))))
def L.bC:LFn:=
⟨[],(.seq (.seq (.reg false (.fin [12,13,14] [(12,.tmp 1),(13,.un .len (.tmp 1)),(14,.con (.int .i64 0))] [])) (.block 0 (.loop L.bC.l1))) (.seq (.reg false (.fin [24,25,26] [(24,.tmp 1),(25,.un .len (.tmp 1)),(26,.con (.int .i64 0))] [])) (.block 2 (.loop L.bC.l2))))⟩
theorem E.bC:bh Tryz.prog Tryz.f99=some L.bC:=by kernel_rfl
theorem F.bC:Tryz.prog.funcs[N.bC]? = some Tryz.f99:=Tryz.func99
abbrev N.dF:Nat:=100
def L.dF:LFn:=
⟨[.tmp 2,.tmp 3],(.seq (.reg false (.fin [2,3] [(2,.con (.int .i64 0)),(3,.con (.int .i64 0))] [])) (.seq (.seq (.reg false (.fin [4] [(4,.tmp 0)] [])) (.block 0 (.seq (.reg false (.fin [6,5] [(5,.bin (.cmp .eql) (.tmp 4) (.con (.int .i64 1)))] [])) (.cond (.tmp 5) [5] (.seq (.reg false (.fin [2,3] [(2,.con (.int .i64 0)),(3,.con (.int .i64 0))] [])) .ret) (.seq (.reg false (.fin [8,7] [(7,.bin (.cmp .eql) (.tmp 4) (.con (.int .i64 15)))] [])) (.cond (.tmp 7) [7] (.seq (.reg false (.fin [2,3] [(2,.con (.int .i64 1)),(3,.con (.int .i64 1))] [])) .ret) (.seq (.reg false (.fin [10,9] [(9,.bin (.cmp .eql) (.tmp 4) (.con (.int .i64 17)))] [])) (.cond (.tmp 9) [9] (.seq (.reg false (.fin [2,3] [(2,.con (.int .i64 0)),(3,.con (.int .i64 4))] [])) .ret) .skip)))))))) (.seq (.reg false (.fin [2,3] [(2,.con (.int .i64 2)),(3,.con (.int .i64 2))] [])) .ret)))⟩
theorem E.dF:bh Tryz.prog Tryz.f100=some L.dF:=by kernel_rfl
theorem F.dF:Tryz.prog.funcs[N.dF]? = some Tryz.f100:=Tryz.func100
abbrev N.ff:Nat:=101
def L.ff:LFn:=
⟨[.tmp 2],(.seq (.reg false (.loud [] [] [(0,.tmp 0)] none [] false (.box 78 (.tmp 0)) 0 (some 1) true (.fin [2] [(2,.con (.slice none 0 0))] []))) (.seq (.seq (.reg false (.fin [3,4] [(4,.un .load (.un (.fld 0) (.tmp 1)))] [])) (.block 0 (.seq (.reg false (.fin [6,5] [(5,.bin (.cmp .eql) (.tmp 4) (.con (.int .i64 16)))] [])) (.cond (.tmp 5) [5] (.seq (.reg false (.fin [2] [(2,.con (.slice none 0 0))] [])) .ret) (.seq (.reg false (.fin [8,7] [(7,.bin (.cmp .eql) (.tmp 4) (.con (.int .i64 18)))] [])) (.cond (.tmp 7) [7] (.seq (.reg false (.loud [9,10,11,12] [] [(10,.un .load (.un (.fld 1) (.tmp 1))),(12,.un .load (.un (.fld 2) (.tmp 1)))] none [] false (.buildSlice 22 2 #[(0,.tmp 10),(1,.tmp 12)]) 22 (some 13) true (.fin [2] [(2,.tmp 13)] []))) .ret) .skip)))))) (.seq (.reg false (.loud [14,15] [] [(15,.un .load (.un (.fld 1) (.tmp 1)))] none [] false (.buildSlice 22 1 #[(0,.tmp 15)]) 22 (some 16) true (.fin [2] [(2,.tmp 16)] []))) .ret)))⟩
theorem E.ff:bh Tryz.prog Tryz.f101=some L.ff:=by kernel_rfl
theorem F.ff:Tryz.prog.funcs[N.ff]? = some Tryz.f101:=Tryz.func101
abbrev N.eB:Nat:=102
def L.eB:LFn:=
⟨[.tmp 0],(.seq (.reg false (.fin [0] [(0,.con (.map none))] [])) (.seq (.reg false (.loud [] [] [] none [] false (.makeMap 172 none) 172 (some 1) true (.loud [] [] [] none [] false (.build 170 #[(0,.const (.int .i64 0)),(1,.const (.int .i64 0)),(2,.const (.int .i64 1)),(3,.const (.int .i64 1))]) 170 (some 2) true (.loud [] [] [(1,.tmp 1),(2,.tmp 2)] none [] false (.insert 172 (.tmp 1) (.const (.int .i64 1)) (.tmp 2)) 0 none false (.loud [] [] [] none [] false (.build 170 #[(0,.const (.int .i64 1)),(1,.const (.int .i64 1)),(2,.const (.int .i64 2)),(3,.const (.int .i64 2))]) 170 (some 3) true (.loud [] [] [(1,.tmp 1),(3,.tmp 3)] none [] false (.insert 172 (.tmp 1) (.const (.int .i64 2)) (.tmp 3)) 0 none false (.loud [] [] [] none [] false (.build 170 #[(0,.const (.int .i64 1)),(1,.const (.int .i64 1)),(2,.const (.int .i64 2)),(3,.const (.int .i64 65))]) 170 (some 4) true (.loud [] [] [(1,.tmp 1),(4,.tmp 4)] none [] false (.insert 172 (.tmp 1) (.const (.int .i64 3)) (.tmp 4)) 0 none false (.loud [] [] [] none [] false (.build 170 #[(0,.const (.int .i64 0)),(1,.const (.int .i64 1)),(2,.const (.int .i64 0)),(3,.const (.int .i64 0))]) 170 (some 5) true (.loud [] [] [(1,.tmp 1),(5,.tmp 5)] none [] false (.insert 172 (.tmp 1) (.const (.int .i64 4)) (.tmp 5)) 0 none false (.loud [] [] [] none [] false (.build 170 #[(0,.const (.int .i64 0)),(1,.const (.int .i64 0)),(2,.const (.int .i64 0)),(3,.const (.int .i64 0))]) 170 (some 6) true (.loud [] [] [(1,.tmp 1),(6,.tmp 6)] none [] false (.insert 172 (.tmp 1) (.const (.int .i64 5)) (.tmp 6)) 0 none false (.fin [7,0] [(0,.tmp 1)] []))))))))))))) .ret))⟩
theorem E.eB:bh Tryz.prog Tryz.f102=some L.eB:=by kernel_rfl
theorem F.eB:Tryz.prog.funcs[N.eB]? = some Tryz.f102:=Tryz.func102
abbrev N.fq:Nat:=103
def L.fq:LFn:=
⟨[.tmp 2],(.seq (.reg false (.fin [2] [(2,.con (.slice none 0 0))] [])) (.seq (.seq (.reg false (.fin [7,8,9] [(9,.bin (.cmp .eql) (.un .len (.tmp 0)) (.con (.int .i64 0)))] [])) (.cond (.tmp 9) [9] (.seq (.reg false (.fin [2] [(2,.con (.slice none 0 0))] [])) .ret) .skip)) (.seq (.reg false (.loud [10] [] [(10,.tmp 0)] none [] false (.call ⟨.value (.func 43),#[.tmp 10],#[40]⟩) 40 (some 11) true (.loud [] [] [] none [] false (.alloc 40) 0 (some 3) true (.loud [] [] [(3,.tmp 3),(11,.tmp 11)] none [] false (.store 40 (.tmp 3) (.tmp 11)) 0 none false (.fin [] [] []))))) (.seq (.reg false (.loud [12,13] [] [(13,.un .len (.tmp 0)),(13,.un .len (.tmp 0))] none [] false (.makeSlice 73 (.tmp 13) (.tmp 13)) 73 (some 14) true (.loud [] [] [] none [] false (.alloc 73) 0 (some 4) true (.loud [] [] [(4,.tmp 4),(14,.tmp 14)] none [] false (.store 73 (.tmp 4) (.tmp 14)) 0 none false (.fin [] [] []))))) (.seq (.reg false (.loud [] [] [] none [] false (.alloc 22) 0 (some 5) true (.fin [] [] []))) (.seq (.reg false (.loud [] [] [] none [] false (.alloc 79) 0 (some 6) true (.fin [] [] []))) (.seq (.reg false (.loud [15] [] [(6,.tmp 6),(15,(.un (.fn 137) (.snoc (.snoc (.snoc (.snoc (.con (.tuple #[])) (.tmp 4)) (.tmp 3)) (.tmp 6)) (.tmp 5))))] none [] false (.store 79 (.tmp 6) (.tmp 15)) 0 none false (.fin [] [] []))) (.seq (.reg false (.loud [16] [] [(16,.un .load (.tmp 6))] none [] false (.call ⟨.value (.tmp 16),#[.const (.int .i64 0)],#[3]⟩) 0 (some 17) false (.fin [] [] []))) (.seq (.reg false (.loud [18] [] [(18,.un .load (.tmp 5))] none [] false (.call ⟨.value (.func 138),#[.tmp 18],#[22]⟩) 0 (some 19) false (.fin [] [] []))) (.seq (.reg false (.fin [20,2] [(2,.un .load (.tmp 5))] [])) .ret))))))))))⟩
theorem E.fq:bh Tryz.prog Tryz.f103=some L.fq:=by kernel_rfl
theorem F.fq:Tryz.prog.funcs[N.fq]? = some Tryz.f103:=Tryz.func103
abbrev N.slices_Contains_int:Nat:=104
def L.slices_Contains_int:LFn:=
⟨[.tmp 4],(.seq (.reg false (.fin [4] [(4,.con (.bool false))] [])) (.seq (.reg false (.loud [5,6] [] [(5,.tmp 0),(6,.tmp 1)] none [] false (.call ⟨.value (.func 139),#[.tmp 5,.tmp 6],#[22,3]⟩) 3 (some 7) true (.fin [8,4] [(4,.bin (.cmp .geq) (.tmp 7) (.con (.int .i64 0)))] []))) .ret))⟩
theorem E.slices_Contains_int:bh Tryz.prog Tryz.f104=some L.slices_Contains_int:=by kernel_rfl
theorem F.slices_Contains_int:Tryz.prog.funcs[N.slices_Contains_int]? = some Tryz.f104:=Tryz.func104
abbrev N.bW:Nat:=105
def L.bW.l1:LC:=
 (.seq (.reg false (.fin [27] [(27,.bin (.cmp .lss) (.tmp 26) (.tmp 25))] [])) (.seq (.cond (.tmp 27) [27] .skip (.exit 0)) (.seq (.block 1 (.seq (.reg false (.fin [28,6] [(6,.tmp 26)] [])) (.reg false (.loud [29,30,31,32,33] [(31,.tmp 5),(32,.tmp 6)] [(33,.bin (.idx 1) (.tmp 4) (.tmp 6))] none [] false (.store 3 (.tmp 33) (.const (.int .i64 (-1)))) 0 none false (.loud [34] [] [(34,.bin (.idx 1) (.tmp 31) (.tmp 32))] none [] false (.store 3 (.tmp 34) (.const (.int .i64 (-1)))) 0 none false (.fin [] [] [])))))) (.reg false (.fin [35,26] [(26,.bin (.arith .add) (.tmp 26) (.con (.int .i64 1)))] [])))))
def L.bW.l2:LC:=
 (.seq (.reg false (.fin [39] [(39,.bin (.cmp .lss) (.tmp 38) (.tmp 37))] [])) (.seq (.cond (.tmp 39) [39] .skip (.exit 2)) (.seq (.block 3 (.seq (.reg false (.fin [40,41,42,7,8] [(7,.tmp 38),(8,.un .load (.bin (.idx 1) (.tmp 36) (.tmp 38)))] [])) (.reg false (.loud [43,44,45,46] [] [(46,.bin (.idx 1) (.tmp 4) (.tmp 8)),(45,.tmp 7)] none [] false (.store 3 (.tmp 46) (.tmp 45)) 0 none false (.fin [] [] []))))) (.reg false (.fin [47,38] [(38,.bin (.arith .add) (.tmp 38) (.con (.int .i64 1)))] [])))))
def L.bW.l5:LC:=
 (.seq (.reg false (.fin [67] [(67,.bin (.cmp .lss) (.tmp 66) (.tmp 65))] [])) (.seq (.cond (.tmp 67) [67] .skip (.exit 8)) (.seq (.block 9 (.seq (.reg false (.fin [68,69,15] [(15,.un .load (.bin (.idx 1) (.tmp 64) (.tmp 66)))] [])) (.seq (.seq (.reg false (.fin [70,71,72,73,74,75,76,77,78,79,80,81,82,83,84,85] [(85,(.ite (.bin (.cmp .lss) (.un .load (.bin (.idx 1) (.tmp 4) (.tmp 15))) (.con (.int .i64 0))) (.con (.bool true)) (.ite (.bin (.cmp .neq) (.tmp 15) (.con (.int .i64 0))) (.bin (.cmp .lss) (.un .load (.bin (.idx 1) (.tmp 5) (.tmp 15))) (.con (.int .i64 0))) (.con (.bool false)))))] [(.gd (.gd (.bin (.cmp .lss) (.un .load (.bin (.idx 1) (.tmp 4) (.tmp 15))) (.con (.int .i64 0))) false (.bin (.cmp .neq) (.tmp 15) (.con (.int .i64 0)))) true (.bin (.cmp .lss) (.un .load (.bin (.idx 1) (.tmp 5) (.tmp 15))) (.con (.int .i64 0))))])) (.cond (.tmp 85) [85] (.exit 9) .skip)) (.seq (.seq (.reg false (.fin [86,87] [(87,.bin (.cmp .lss) (.tmp 13) (.con (.int .i64 0)))] [])) (.cond (.tmp 87) [87] (.seq (.reg false (.fin [88,13] [(13,.tmp 15)] [])) (.exit 9)) .skip)) (.reg false (.loud [89,90,91,92] [] [(89,.tmp 5),(90,.tmp 4),(91,.tmp 13),(92,.tmp 15)] none [] false (.call ⟨.value (.func 140),#[.tmp 89,.tmp 90,.tmp 91,.tmp 92],#[22,22,3,3]⟩) 3 (some 93) true (.fin [13] [(13,.tmp 93)] []))))))) (.reg false (.fin [94,66] [(66,.bin (.arith .add) (.tmp 66) (.con (.int .i64 1)))] [])))))
def L.bW.l4:LC:=
 (.seq (.reg false (.fin [58] [(58,.bin (.cmp .lss) (.tmp 57) (.tmp 56))] [])) (.seq (.cond (.tmp 58) [58] .skip (.exit 6)) (.seq (.block 7 (.seq (.reg false (.fin [59,60,12] [(12,.un .load (.bin (.idx 1) (.tmp 55) (.tmp 57)))] [])) (.seq (.reg false (.fin [13] [(13,.con (.int .i64 (-1)))] [])) (.seq (.seq (.reg false (.fin [61,62,63,64,65,66] [(64,.un .load (.bin (.idx 1) (.tmp 9) (.tmp 12))),(65,.un .len (.un .load (.bin (.idx 1) (.tmp 9) (.tmp 12)))),(66,.con (.int .i64 0))] [])) (.block 8 (.loop L.bW.l5))) (.seq (.reg false (.fin [95,96,97,98,99,100] [(100,.bin (.cmp .neq) (.un .load (.bin (.idx 1) (.tmp 5) (.tmp 12))) (.tmp 13))] [])) (.cond (.tmp 100) [100] (.reg false (.loud [101,102,103,104] [] [(104,.bin (.idx 1) (.tmp 5) (.tmp 12)),(103,.tmp 13)] none [] false (.store 3 (.tmp 104) (.tmp 103)) 0 none false (.fin [10] [(10,.con (.bool true))] []))) .skip)))))) (.reg false (.fin [105,57] [(57,.bin (.arith .add) (.tmp 57) (.con (.int .i64 1)))] [])))))
def L.bW.l3:LC:=
 (.seq (.seq (.reg false (.fin [50] [(50,.tmp 10)] [])) (.cond (.tmp 50) [50] .skip (.exit 4))) (.block 5 (.seq (.reg false (.fin [10] [(10,.con (.bool false))] [])) (.seq (.reg false (.fin [51,52,53,54,55,56,57] [(55,.bin (.lo 1) (.tmp 3) (.bin .min (.con (.int .i64 1)) (.un .len (.tmp 3)))),(56,(.un .len (.bin (.lo 1) (.tmp 3) (.bin .min (.con (.int .i64 1)) (.un .len (.tmp 3)))))),(57,.con (.int .i64 0))] [])) (.block 6 (.loop L.bW.l4))))))
def L.bW:LFn:=
⟨[.tmp 2],(.seq (.reg false (.fin [2] [(2,.con (.slice none 0 0))] [])) (.seq (.reg false (.loud [16] [] [(16,.tmp 0)] none [] false (.call ⟨.value (.func 103),#[.tmp 16],#[40]⟩) 22 (some 17) true (.fin [3] [(3,.tmp 17)] []))) (.seq (.reg false (.loud [18,19] [] [(19,.un .len (.tmp 0)),(19,.un .len (.tmp 0))] none [] false (.makeSlice 22 (.tmp 19) (.tmp 19)) 22 (some 20) true (.fin [4] [(4,.tmp 20)] []))) (.seq (.reg false (.loud [21,22] [] [(22,.un .len (.tmp 0)),(22,.un .len (.tmp 0))] none [] false (.makeSlice 22 (.tmp 22) (.tmp 22)) 22 (some 23) true (.fin [5] [(5,.tmp 23)] []))) (.seq (.seq (.reg false (.fin [24,25,26] [(25,.un .len (.tmp 0)),(26,.con (.int .i64 0))] [])) (.block 0 (.loop L.bW.l1))) (.seq (.seq (.reg false (.fin [36,37,38] [(36,.tmp 3),(37,.un .len (.tmp 3)),(38,.con (.int .i64 0))] [])) (.block 2 (.loop L.bW.l2))) (.seq (.reg false (.loud [48] [] [(48,.tmp 0)] none [] false (.call ⟨.value (.func 44),#[.tmp 48],#[40]⟩) 40 (some 49) true (.fin [9] [(9,.tmp 49)] []))) (.seq (.seq (.reg false (.fin [10] [(10,.con (.bool true))] [])) (.block 4 (.loop L.bW.l3))) (.seq (.reg false (.fin [106,2] [(2,.tmp 5)] [])) .ret)))))))))⟩
theorem E.bW:bh Tryz.prog Tryz.f105=some L.bW:=by kernel_rfl
theorem F.bW:Tryz.prog.funcs[N.bW]? = some Tryz.f105:=Tryz.func105
abbrev N.aN:Nat:=106
def L.aN:LFn:=
⟨[],(.seq (.seq (.reg false (.fin [14,15,16,17,18,19,20,21,22,23,24] [(24,(.ite (.bin (.cmp .geq) (.tmp 0) (.con (.int .i64 0))) (.bin (.cmp .lss) (.tmp 0) (.un .load (.un (.fld 0) (.un (.fld 0) (.un .nilPtr (.un .load (.tmp 5))))))) (.con (.bool false))))] [])) (.cond (.tmp 24) [24] .ret .skip)) (.seq (.reg false (.loud [26,27,28,29,30] [] [(29,(.un .load (.un (.fld 2) (.un .nilPtr (.un .load (.tmp 5)))))),(30,.tmp 0)] none [] false (.lookup 133 (.tmp 29) (.tmp 30) true) 178 (some 31) true (.loud [25,32,33] [(32,.un (.ext 0) (.tmp 31)),(33,.un (.ext 1) (.tmp 31))] [] none [] false (.alloc 177) 0 (some 12) true (.loud [] [] [(12,.tmp 12),(32,.tmp 32)] none [] false (.store 177 (.tmp 12) (.tmp 32)) 0 none false (.fin [13] [(13,.tmp 33)] []))))) (.seq (.reg false (.loud [34,35,36,37,38,39,40,41,42,43,44,45,46,47,48,49,50,51,52,53,54,55,56,57,58,59,60] [(35,.tmp 13),(51,(.gd (.tmp 13) true (.ite (.bin (.cmp .eql) (.un .load (.un (.fld 0) (.tmp 12))) (.tmp 1)) (.ite (.bin (.cmp .lss) (.un .load (.un (.fld 1) (.tmp 12))) (.tmp 3)) (.con (.bool true)) (.bin (.cmp .lss) (.un .load (.un (.fld 1) (.tmp 12))) (.con (.int .i64 0)))) (.con (.bool false))))),(56,(.gd (.gd (.tmp 13) true (.ite (.bin (.cmp .eql) (.un .load (.un (.fld 0) (.tmp 12))) (.tmp 1)) (.ite (.bin (.cmp .lss) (.un .load (.un (.fld 1) (.tmp 12))) (.tmp 3)) (.con (.bool true)) (.bin (.cmp .lss) (.un .load (.un (.fld 1) (.tmp 12))) (.con (.int .i64 0)))) (.con (.bool false)))) false (.bin (.cmp .neq) (.un .load (.un (.fld 0) (.tmp 12))) (.tmp 1))))] [(57,(.gd (.gd (.gd (.tmp 13) true (.ite (.bin (.cmp .eql) (.un .load (.un (.fld 0) (.tmp 12))) (.tmp 1)) (.ite (.bin (.cmp .lss) (.un .load (.un (.fld 1) (.tmp 12))) (.tmp 3)) (.con (.bool true)) (.bin (.cmp .lss) (.un .load (.un (.fld 1) (.tmp 12))) (.con (.int .i64 0)))) (.con (.bool false)))) false (.bin (.cmp .neq) (.un .load (.un (.fld 0) (.tmp 12))) (.tmp 1))) true (.un .load (.tmp 6)))),(59,(.gd (.gd (.gd (.tmp 13) true (.ite (.bin (.cmp .eql) (.un .load (.un (.fld 0) (.tmp 12))) (.tmp 1)) (.ite (.bin (.cmp .lss) (.un .load (.un (.fld 1) (.tmp 12))) (.tmp 3)) (.con (.bool true)) (.bin (.cmp .lss) (.un .load (.un (.fld 1) (.tmp 12))) (.con (.int .i64 0)))) (.con (.bool false)))) false (.bin (.cmp .neq) (.un .load (.un (.fld 0) (.tmp 12))) (.tmp 1))) true (.un .load (.un (.fld 0) (.tmp 12))))),(60,(.gd (.gd (.gd (.tmp 13) true (.ite (.bin (.cmp .eql) (.un .load (.un (.fld 0) (.tmp 12))) (.tmp 1)) (.ite (.bin (.cmp .lss) (.un .load (.un (.fld 1) (.tmp 12))) (.tmp 3)) (.con (.bool true)) (.bin (.cmp .lss) (.un .load (.un (.fld 1) (.tmp 12))) (.con (.int .i64 0)))) (.con (.bool false)))) false (.bin (.cmp .neq) (.un .load (.un (.fld 0) (.tmp 12))) (.tmp 1))) true (.tmp 1)))] (some ((.gd (.gd (.tmp 13) true (.ite (.bin (.cmp .eql) (.un .load (.un (.fld 0) (.tmp 12))) (.tmp 1)) (.ite (.bin (.cmp .lss) (.un .load (.un (.fld 1) (.tmp 12))) (.tmp 3)) (.con (.bool true)) (.bin (.cmp .lss) (.un .load (.un (.fld 1) (.tmp 12))) (.con (.int .i64 0)))) (.con (.bool false)))) false (.bin (.cmp .neq) (.un .load (.un (.fld 0) (.tmp 12))) (.tmp 1))),true)) [(.gd (.gd (.tmp 13) true (.bin (.cmp .eql) (.un .load (.un (.fld 0) (.tmp 12))) (.tmp 1))) true (.ite (.bin (.cmp .lss) (.un .load (.un (.fld 1) (.tmp 12))) (.tmp 3)) (.con (.bool true)) (.bin (.cmp .lss) (.un .load (.un (.fld 1) (.tmp 12))) (.con (.int .i64 0))))),(.gd (.gd (.gd (.tmp 13) true (.bin (.cmp .eql) (.un .load (.un (.fld 0) (.tmp 12))) (.tmp 1))) true (.bin (.cmp .lss) (.un .load (.un (.fld 1) (.tmp 12))) (.tmp 3))) false (.bin (.cmp .lss) (.un .load (.un (.fld 1) (.tmp 12))) (.con (.int .i64 0))))] false (.call ⟨.value (.func 107),#[.tmp 57,.tmp 59,.tmp 60],#[22,3,3]⟩) 4 (some 61) true (.fin [62,63,64,13] [(13,(.ite (.tmp 35) (.ite (.tmp 51) (.con (.bool true)) (.ite (.tmp 56) (.tmp 61) (.con (.bool false)))) (.con (.bool false))))] [.gd (.tmp 51) false (.ite (.tmp 56) (.tmp 61) (.con (.bool false)))]))) (.reg false (.loud [65,66,67] [] [(65,.tmp 13),(66,.tmp 4),(67,.tmp 2)] none [] false (.call ⟨.value (.func 65),#[.tmp 65,.const (.int .i64 13),.tmp 66,.tmp 67],#[4,34,3,3]⟩) 0 (some 68) false (.fin [] [] []))))))⟩
theorem E.aN:bh Tryz.prog Tryz.f106=some L.aN:=by kernel_rfl
theorem F.aN:Tryz.prog.funcs[N.aN]? = some Tryz.f106:=Tryz.func106
abbrev N.cF:Nat:=107
def L.cF.l1:LC:=
 (.seq (.reg false (.fin [23] [(23,.bin (.cmp .lss) (.tmp 22) (.tmp 21))] [])) (.seq (.cond (.tmp 23) [23] .skip (.exit 0)) (.seq (.block 1 (.seq (.seq (.reg false (.fin [24,25,26] [(26,.bin (.cmp .eql) (.tmp 1) (.tmp 2))] [])) (.cond (.tmp 26) [26] (.seq (.reg false (.fin [6] [(6,.con (.bool true))] [])) .ret) .skip)) (.seq (.seq (.reg false (.loud [27,28] [] [(27,.tmp 7),(28,.tmp 2)] none [] false (.call ⟨.value (.tmp 27),#[.tmp 28],#[3]⟩) 4 (some 29) true (.fin [30] [(30,.un .not (.tmp 29))] []))) (.cond (.tmp 30) [30] (.seq (.reg false (.fin [6] [(6,.con (.bool false))] [])) .ret) .skip)) (.reg false (.fin [31,32,33,34,2] [(2,.un .load (.bin (.idx 1) (.un .load (.tmp 3)) (.tmp 2)))] []))))) (.reg false (.fin [35,22] [(22,.bin (.arith .add) (.tmp 22) (.con (.int .i64 1)))] [])))))
def L.cF:LFn:=
⟨[.tmp 6],(.seq (.reg false (.loud [] [] [(0,.tmp 0)] none [] false (.box 22 (.tmp 0)) 0 (some 3) true (.fin [6] [(6,.con (.bool false))] []))) (.seq (.reg false (.fin [8,7] [(7,.un (.fn 141) (.snoc (.con (.tuple #[])) (.tmp 3)))] [])) (.seq (.seq (.reg false (.loud [9,10] [] [(9,.tmp 7),(10,.tmp 1)] none [] false (.call ⟨.value (.tmp 9),#[.tmp 10],#[3]⟩) 4 (some 11) true (.loud [12,13,14,15] [(13,.un .not (.tmp 11))] [(14,.gd (.un .not (.tmp 11)) false (.tmp 7)),(15,.gd (.un .not (.tmp 11)) false (.tmp 2))] (some ((.un .not (.tmp 11)),false)) [] false (.call ⟨.value (.tmp 14),#[.tmp 15],#[3]⟩) 4 (some 16) true (.fin [17,18] [(18,.ite (.tmp 13) (.con (.bool true)) (.un .not (.tmp 16)))] [])))) (.cond (.tmp 18) [18] (.seq (.reg false (.fin [6] [(6,.con (.bool false))] [])) .ret) .skip)) (.seq (.seq (.reg false (.fin [19,20,21,22] [(21,.bin (.arith .add) (.un .len (.un .load (.tmp 3))) (.con (.int .i64 1))),(22,.con (.int .i64 0))] [])) (.block 0 (.loop L.cF.l1))) (.seq (.reg false (.fin [6] [(6,.con (.bool false))] [])) .ret)))))⟩
theorem E.cF:bh Tryz.prog Tryz.f107=some L.cF:=by kernel_rfl
theorem F.cF:Tryz.prog.funcs[N.cF]? = some Tryz.f107:=Tryz.func107
abbrev N.ax:Nat:=108
def L.ax.l2:LC:=
 (.seq (.seq (.reg true (.loud [18,19,20,21,22,23,24,25,26,27,28,29,30,31] [(21,.bin (.cmp .gtr) (.tmp 9) (.tmp 1))] [(22,.gd (.bin (.cmp .gtr) (.tmp 9) (.tmp 1)) true (.tmp 3)),(26,.gd (.bin (.cmp .gtr) (.tmp 9) (.tmp 1)) true (.un (.au 2) (.bin (.idx 2) (.tmp 0) (.tmp 9)))),(31,(.gd (.bin (.cmp .gtr) (.tmp 9) (.tmp 1)) true (.un (.au 2) (.bin (.idx 2) (.tmp 0) (.bin (.arith .sub) (.tmp 9) (.con (.int .i64 1)))))))] (some ((.bin (.cmp .gtr) (.tmp 9) (.tmp 1)),true)) [] false (.call ⟨.value (.tmp 22),#[.tmp 26,.tmp 31],#[65,65]⟩) 3 (some 32) true (.fin [33,34] [(34,.ite (.tmp 21) (.bin (.cmp .lss) (.tmp 32) (.con (.int .i64 0))) (.con (.bool false)))] []))) (.cond (.tmp 34) [34] .skip (.exit 2))) (.seq (.block 3 (.reg true (.loud [37,38,39,40,41,42,43,44,45,46,47,48,49,50,51] [(39,.tmp 0),(41,.bin (.arith .sub) (.tmp 9) (.con (.int .i64 1))),(50,.un (.au 2) (.bin (.idx 2) (.tmp 0) (.tmp 9)))] [(51,.bin (.idx 2) (.tmp 0) (.tmp 9)),(46,(.un (.au 2) (.bin (.idx 2) (.tmp 0) (.bin (.arith .sub) (.tmp 9) (.con (.int .i64 1))))))] none [] true (.store 65 (.tmp 51) (.tmp 46)) 0 none false (.loud [52] [] [(52,.bin (.idx 2) (.tmp 39) (.tmp 41)),(50,.tmp 50)] none [] false (.store 65 (.tmp 52) (.tmp 50)) 0 none false (.fin [] [] []))))) (.reg false (.fin [35,36,9] [(9,.bin (.arith .sub) (.tmp 9) (.con (.int .i64 1)))] []))))
def L.ax.l1:LC:=
 (.seq (.seq (.reg false (.fin [12,13,14] [(14,.bin (.cmp .lss) (.tmp 8) (.tmp 2))] [])) (.cond (.tmp 14) [14] .skip (.exit 0))) (.seq (.block 1 (.seq (.reg false (.fin [17,9] [(9,.tmp 8)] [])) (.block 2 (.loop L.ax.l2)))) (.reg false (.fin [15,16,8] [(8,.bin (.arith .add) (.tmp 8) (.con (.int .i64 1)))] []))))
def L.ax:LFn:=
⟨[],(.seq (.reg false (.fin [10,11,8] [(8,.bin (.arith .add) (.tmp 1) (.con (.int .i64 1)))] [])) (.block 0 (.loop L.ax.l1)))⟩
theorem E.ax:bh Tryz.prog Tryz.f108=some L.ax:=by kernel_rfl
theorem F.ax:Tryz.prog.funcs[N.ax]? = some Tryz.f108:=Tryz.func108
abbrev N.cO:Nat:=135
def L.cO:LFn:=
⟨[],(.reg false (.loud [8,9,10,11,12,13] [] [(8,.tmp 1),(13,(.un .load (.un (.fld 0) (.un (.fld 0) (.un .nilPtr (.tmp 0))))))] none [] false (.call ⟨.value (.func 66),#[.tmp 8,.tmp 13,.const (.int .i64 8191)],#[3,3,3]⟩) 4 (some 14) true (.loud [15,16] [] [(14,.tmp 14),(15,.tmp 2),(16,.tmp 3)] none [] false (.call ⟨.value (.func 65),#[.tmp 14,.const (.int .i64 11),.tmp 15,.tmp 16],#[4,34,3,3]⟩) 0 (some 17) false (.fin [] [] []))))⟩
theorem E.cO:bh Tryz.prog Tryz.f135=some L.cO:=by kernel_rfl
theorem F.cO:Tryz.prog.funcs[N.cO]? = some Tryz.f135:=Tryz.func135
end Go.Proofs.YtbkdlhkoiagbbaaGreat
namespace Go.Proofs.YtbkdlhkoiagbbaaGreat
open Go Go.Lft
set_option maxRecDepth 100000
abbrev N.cN:Nat:=136
def L.cN:LFn:=
⟨[],(.seq (.reg false (.loud [11,12,13,14,15] [] [(14,.un .load (.un (.fld 2) (.un .nilPtr (.tmp 0)))),(15,.tmp 1)] none [] false (.lookup 133 (.tmp 14) (.tmp 15) true) 178 (some 16) true (.loud [10,17,18] [(17,.un (.ext 0) (.tmp 16)),(18,.un (.ext 1) (.tmp 16))] [] none [] false (.alloc 177) 0 (some 8) true (.loud [] [] [(8,.tmp 8),(17,.tmp 17)] none [] false (.store 177 (.tmp 8) (.tmp 17)) 0 none false (.fin [9] [(9,.tmp 18)] []))))) (.seq (.reg false (.loud [19,20,21,22] [] [(20,.un .not (.tmp 9)),(21,.tmp 2),(22,.tmp 3)] none [] false (.call ⟨.value (.func 65),#[.tmp 20,.const (.int .i64 12),.tmp 21,.tmp 22],#[4,34,3,3]⟩) 0 (some 23) false (.fin [] [] []))) (.reg false (.loud [24,25,26,27,28,29,30] [(27,.un .load (.un (.fld 2) (.un .nilPtr (.tmp 0)))),(28,.tmp 1)] [(29,.tmp 2),(30,.tmp 3)] none [] false (.build 177 #[(0,.tmp 29),(1,.tmp 30)]) 177 (some 31) true (.loud [] [] [(27,.tmp 27),(28,.tmp 28),(31,.tmp 31)] none [] false (.mapUpdate 133 (.tmp 27) (.tmp 28) (.tmp 31)) 0 none false (.fin [] [] []))))))⟩
theorem E.cN:bh Tryz.prog Tryz.f136=some L.cN:=by kernel_rfl
theorem F.cN:Tryz.prog.funcs[N.cN]? = some Tryz.f136:=Tryz.func136
abbrev N.bK:Nat:=137
def L.bK.l1:LC:=
 (.seq (.reg false (.fin [17] [(17,.bin (.cmp .lss) (.tmp 16) (.tmp 15))] [])) (.seq (.cond (.tmp 17) [17] .skip (.exit 0)) (.seq (.block 1 (.seq (.reg false (.fin [18,19,7] [(7,.un .load (.bin (.idx 1) (.tmp 14) (.tmp 16)))] [])) (.seq (.reg false (.fin [20,21,22,23,24] [(24,(.un .not (.un .load (.bin (.idx 1) (.un .load (.tmp 1)) (.tmp 7)))))] [])) (.cond (.tmp 24) [24] (.reg false (.loud [25,26] [] [(25,.un .load (.tmp 3)),(26,.tmp 7)] none [] false (.call ⟨.value (.tmp 25),#[.tmp 26],#[3]⟩) 0 (some 27) false (.fin [] [] []))) .skip)))) (.reg false (.fin [28,16] [(16,.bin (.arith .add) (.tmp 16) (.con (.int .i64 1)))] [])))))
def L.bK:LFn:=
⟨[],(.seq (.reg false (.loud [8,9,10] [] [(10,.bin (.idx 1) (.un .load (.tmp 1)) (.tmp 0))] none [] false (.store 4 (.tmp 10) (.const (.bool true))) 0 none false (.fin [] [] []))) (.seq (.seq (.reg false (.fin [11,12,13,14,15,16] [(14,.un .load (.bin (.idx 1) (.un .load (.tmp 2)) (.tmp 0))),(15,(.un .len (.un .load (.bin (.idx 1) (.un .load (.tmp 2)) (.tmp 0))))),(16,.con (.int .i64 0))] [])) (.block 0 (.loop L.bK.l1))) (.reg false (.loud [29,30] [(29,.un .load (.tmp 4))] [(30,.tmp 0)] none [] false (.buildSlice 22 1 #[(0,.tmp 30)]) 22 (some 31) true (.loud [] [] [(29,.tmp 29),(31,.tmp 31)] none [] false (.call ⟨.builtin .append,#[.tmp 29,.tmp 31],#[22,22]⟩) 22 (some 32) true (.loud [] [] [(4,.tmp 4),(32,.tmp 32)] none [] false (.store 22 (.tmp 4) (.tmp 32)) 0 none false (.fin [] [] [])))))))⟩
theorem E.bK:bh Tryz.prog Tryz.f137=some L.bK:=by kernel_rfl
theorem F.bK:Tryz.prog.funcs[N.bK]? = some Tryz.f137:=Tryz.func137
abbrev N.slices_Index_int:Nat:=139
def L.slices_Index_int.l1:LC:=
 (.seq (.reg false (.fin [9] [(9,.bin (.cmp .lss) (.tmp 8) (.tmp 7))] [])) (.seq (.cond (.tmp 9) [9] .skip (.exit 0)) (.seq (.block 1 (.seq (.reg false (.fin [10,5] [(5,.tmp 8)] [])) (.seq (.reg false (.fin [11,12,13,14,15,16] [(16,.bin (.cmp .eql) (.tmp 1) (.un .load (.bin (.idx 1) (.tmp 0) (.tmp 5))))] [])) (.cond (.tmp 16) [16] (.seq (.reg false (.fin [17,4] [(4,.tmp 5)] [])) .ret) .skip)))) (.reg false (.fin [18,8] [(8,.bin (.arith .add) (.tmp 8) (.con (.int .i64 1)))] [])))))
def L.slices_Index_int:LFn:=
⟨[.tmp 4],(.seq (.reg false (.fin [4] [(4,.con (.int .i64 0))] [])) (.seq (.seq (.reg false (.fin [6,7,8] [(7,.un .len (.tmp 0)),(8,.con (.int .i64 0))] [])) (.block 0 (.loop L.slices_Index_int.l1))) (.seq (.reg false (.fin [4] [(4,.con (.int .i64 (-1)))] [])) .ret)))⟩
theorem E.slices_Index_int:bh Tryz.prog Tryz.f139=some L.slices_Index_int:=by kernel_rfl
theorem F.slices_Index_int:Tryz.prog.funcs[N.slices_Index_int]? = some Tryz.f139:=Tryz.func139
abbrev N.dh:Nat:=140
def L.dh.l1:LC:=
 (.block 1 (.block 2 (.seq (.reg true (.fin [10,11,12,13,14,15,16,17,18,9] [(9,.bin (.cmp .gtr) (.un .load (.bin (.idx 1) (.tmp 1) (.tmp 2))) (.un .load (.bin (.idx 1) (.tmp 1) (.tmp 3))))] [])) (.cond (.tmp 9) [9] (.reg false (.fin [19,20,21,22,2] [(2,.un .load (.bin (.idx 1) (.tmp 0) (.tmp 2)))] [])) (.seq (.reg true (.fin [24,25,26,27,28,29,30,31,32,23] [(23,.bin (.cmp .gtr) (.un .load (.bin (.idx 1) (.tmp 1) (.tmp 3))) (.un .load (.bin (.idx 1) (.tmp 1) (.tmp 2))))] [])) (.cond (.tmp 23) [23] (.reg false (.fin [33,34,35,36,3] [(3,.un .load (.bin (.idx 1) (.tmp 0) (.tmp 3)))] [])) (.exit 0)))))))
def L.dh:LFn:=
⟨[.tmp 8],(.seq (.reg false (.fin [8] [(8,.con (.int .i64 0))] [])) (.seq .skip (.seq (.block 0 (.loop L.dh.l1)) (.seq (.reg false (.fin [37,8] [(8,.tmp 2)] [])) .ret))))⟩
theorem E.dh:bh Tryz.prog Tryz.f140=some L.dh:=by kernel_rfl
theorem F.dh:Tryz.prog.funcs[N.dh]? = some Tryz.f140:=Tryz.func140
abbrev N.cn:Nat:=141
def L.cn:LFn:=
⟨[.tmp 3],(.seq (.reg false (.fin [3] [(3,.con (.bool false))] [])) (.seq (.reg false (.fin [4,5,6,7,8,9,10,11,3] [(3,(.ite (.bin (.cmp .geq) (.tmp 0) (.con (.int .i64 0))) (.bin (.cmp .lss) (.tmp 0) (.un .len (.un .load (.tmp 1)))) (.con (.bool false))))] [])) .ret))⟩
theorem E.cn:bh Tryz.prog Tryz.f141=some L.cn:=by kernel_rfl
theorem F.cn:Tryz.prog.funcs[N.cn]? = some Tryz.f141:=Tryz.func141
end Go.Proofs.YtbkdlhkoiagbbaaGreat
namespace Go.Proofs
open Go.Shelf
def Tryz.yQ:Go.Shelf.Ren:=⟨fun | 125=>78 | 128=>116 | 129=>117 | n=>n,fun | 46=>144 | 3=>3 | 51=>162 | 53=>190 | 4=>4 | 5=>5 | 9=>9 | n=>n,fun | n=>n⟩
theorem Tryz.FH:Go.Proofs.Lays.n125 Tryz.prog Tryz.yQ:={
 mixed:=by kernel_rfl
 f125:=Tryz.func78.trans (congrArg some (by kernel_rfl))
 f128:=Tryz.func116.trans (congrArg some (by kernel_rfl))
 f129:=Tryz.func117.trans (congrArg some (by kernel_rfl))
 t3:=Tryz.underlying3
 a3:=Tryz.isAgg3
 z3:=Tryz.sizeOf3
 v3:=Tryz.zeroValue3
 t4:=Tryz.underlying4
 a4:=Tryz.isAgg4
 z4:=Tryz.sizeOf4
 v4:=Tryz.zeroValue4
 t5:=Tryz.underlying5
 a5:=Tryz.isAgg5
 z5:=Tryz.sizeOf5
 v5:=Tryz.zeroValue5
 t9:=Tryz.underlying9
 a9:=Tryz.isAgg9
 z9:=Tryz.sizeOf9
 v9:=Tryz.zeroValue9
 t46:=Tryz.underlying144
 a46:=Tryz.isAgg144
 z46:=Tryz.sizeOf144
 v46:=Tryz.zeroValue144
 t51:=Tryz.underlying162
 a51:=Tryz.isAgg162
 z51:=Tryz.sizeOf162
 v51:=Tryz.zeroValue162
 t53:=Tryz.underlying190
 a53:=Tryz.isAgg190
 z53:=Tryz.sizeOf190
 v53:=Tryz.zeroValue190 }
theorem Tryz.bits_Len (x:Int) (w:World) (h0:0≤x) (h1:x≤18446744073709551615) :
  Calls Tryz.prog 78 #[.int .u64 x] w fun e w'=>e = .returned (.int .i64 (Lib.bitLen x.toNat))∧w'=w:=Any.bits_Len Tryz.FH x w h0 h1
def Tryz.xP:Go.Shelf.Ren:=⟨fun | 189=>83 | 125=>78 | 257=>118 | 128=>116 | 129=>117 | 294=>147 | 295=>148 | 296=>149 | 297=>150 | 298=>151 | 299=>152 | 216=>153 | 300=>154 | 301=>155 | 328=>157 | 329=>143 | 330=>144 | 331=>158 | 332=>159 | 215=>160 | 343=>161 | n=>n,fun | 28=>22 | 3=>3 | 46=>144 | 0=>0 | 51=>162 | 53=>190 | 4=>4 | 183=>183 | 182=>182 | 131=>92 | 5=>5 | 9=>9 | 218=>200 | 222=>204 | 228=>209 | 229=>167 | n=>n,fun | n=>n⟩
theorem Tryz.A2:Go.Proofs.Lays.n189 Tryz.prog Tryz.xP:={
 mixed:=by kernel_rfl
 f125:=Tryz.func78.trans (congrArg some (by kernel_rfl))
 f128:=Tryz.func116.trans (congrArg some (by kernel_rfl))
 f129:=Tryz.func117.trans (congrArg some (by kernel_rfl))
 f189:=Tryz.func83.trans (congrArg some (by kernel_rfl))
 f215:=Tryz.func160.trans (congrArg some (by kernel_rfl))
 f216:=Tryz.func153.trans (congrArg some (by kernel_rfl))
 f257:=Tryz.func118.trans (congrArg some (by kernel_rfl))
 f294:=Tryz.func147.trans (congrArg some (by kernel_rfl))
 f295:=Tryz.func148.trans (congrArg some (by kernel_rfl))
 f296:=Tryz.func149.trans (congrArg some (by kernel_rfl))
 f297:=Tryz.func150.trans (congrArg some (by kernel_rfl))
 f298:=Tryz.func151.trans (congrArg some (by kernel_rfl))
 f299:=Tryz.func152.trans (congrArg some (by kernel_rfl))
 f300:=Tryz.func154.trans (congrArg some (by kernel_rfl))
 f301:=Tryz.func155.trans (congrArg some (by kernel_rfl))
 f328:=Tryz.func157.trans (congrArg some (by kernel_rfl))
 f329:=Tryz.func143.trans (congrArg some (by kernel_rfl))
 f330:=Tryz.func144.trans (congrArg some (by kernel_rfl))
 f331:=Tryz.func158.trans (congrArg some (by kernel_rfl))
 f332:=Tryz.func159.trans (congrArg some (by kernel_rfl))
 f343:=Tryz.func161.trans (congrArg some (by kernel_rfl))
 t0:=Tryz.underlying0
 a0:=Tryz.isAgg0
 z0:=Tryz.sizeOf0
 v0:=Tryz.zeroValue0
 t3:=Tryz.underlying3
 a3:=Tryz.isAgg3
 z3:=Tryz.sizeOf3
 v3:=Tryz.zeroValue3
 t4:=Tryz.underlying4
 a4:=Tryz.isAgg4
 z4:=Tryz.sizeOf4
 v4:=Tryz.zeroValue4
 t5:=Tryz.underlying5
 a5:=Tryz.isAgg5
 z5:=Tryz.sizeOf5
 v5:=Tryz.zeroValue5
 t9:=Tryz.underlying9
 a9:=Tryz.isAgg9
 z9:=Tryz.sizeOf9
 v9:=Tryz.zeroValue9
 t28:=Tryz.underlying22
 a28:=Tryz.isAgg22
 z28:=Tryz.sizeOf22
 v28:=Tryz.zeroValue22
 t46:=Tryz.underlying144
 a46:=Tryz.isAgg144
 z46:=Tryz.sizeOf144
 v46:=Tryz.zeroValue144
 t51:=Tryz.underlying162
 a51:=Tryz.isAgg162
 z51:=Tryz.sizeOf162
 v51:=Tryz.zeroValue162
 t53:=Tryz.underlying190
 a53:=Tryz.isAgg190
 z53:=Tryz.sizeOf190
 v53:=Tryz.zeroValue190
 t131:=Tryz.underlying92
 a131:=Tryz.isAgg92
 z131:=Tryz.sizeOf92
 v131:=Tryz.zeroValue92
 t182:=Tryz.underlying182
 a182:=Tryz.isAgg182
 z182:=Tryz.sizeOf182
 v182:=Tryz.zeroValue182
 t183:=Tryz.underlying183
 a183:=Tryz.isAgg183
 z183:=Tryz.sizeOf183
 v183:=Tryz.zeroValue183
 t218:=Tryz.underlying200
 a218:=Tryz.isAgg200
 z218:=Tryz.sizeOf200
 v218:=Tryz.zeroValue200
 t222:=Tryz.underlying204
 a222:=Tryz.isAgg204
 z222:=Tryz.sizeOf204
 v222:=Tryz.zeroValue204
 t228:=Tryz.underlying209
 a228:=Tryz.isAgg209
 z228:=Tryz.sizeOf209
 v228:=Tryz.zeroValue209
 t229:=Tryz.underlying167
 a229:=Tryz.isAgg167
 z229:=Tryz.sizeOf167
 v229:=Tryz.zeroValue167 }
open Go.Sort Go.RowKit in
theorem Tryz.slices_Sort_int (blk off cap:Nat) (zs:List Int) (w:World) (hH:Holds (Value.int .i64) w blk off zs.toArray) (hblk:blk<w.heap.size) (hsz:zs.length<4611686018427387904) :
  Calls Tryz.prog 83 #[.slice (some ⟨blk,off,none⟩) zs.length cap] w fun e w'=>
   e = .returned (.tuple #[])∧∃ n os,w'=grow (putRow (Value.int .i64) (Sort.ahead w n) blk off (zs.mergeSort fun x y=>decide (x≤y)).toArray) os:=Any.slices_Sort_int Tryz.A2 blk off cap zs w hH hblk hsz
def Tryz.xH:Go.Shelf.Ren:=⟨fun | 112=>138 | n=>n,fun | 28=>22 | 3=>3 | 4=>4 | 0=>0 | n=>n,fun | n=>n⟩
theorem Tryz.AG:Go.Proofs.Lays.n112 Tryz.prog Tryz.xH:={
 mixed:=by kernel_rfl
 f112:=Tryz.func138.trans (congrArg some (by kernel_rfl))
 t0:=Tryz.underlying0
 a0:=Tryz.isAgg0
 z0:=Tryz.sizeOf0
 v0:=Tryz.zeroValue0
 t3:=Tryz.underlying3
 a3:=Tryz.isAgg3
 z3:=Tryz.sizeOf3
 v3:=Tryz.zeroValue3
 t4:=Tryz.underlying4
 a4:=Tryz.isAgg4
 z4:=Tryz.sizeOf4
 v4:=Tryz.zeroValue4
 t28:=Tryz.underlying22
 a28:=Tryz.isAgg22
 z28:=Tryz.sizeOf22
 v28:=Tryz.zeroValue22 }
open Go.RowKit Go.Lib Go.Sort in
/-- slices.Reverse at []int: "Reverse reverses the elements of the slice in place.": THE SLICE's CELLS HOLD 'zs.reverse' BEHIND THE CALL; all else is as it was, but for the count of draws (the exchange 's[i], s[j] = s[j], s[i]' draws its order, once a round). IN THE WORDS OF slices.Sort's CONTRACT: 'Holds': the cells hold zs and none is frozen; 'putRow': the world with those cells holding another array. A slice of length 0 that is not nil is among them ('zs = []'); nil: '.._nil'. (LAID: no walk: one application.) -/
theorem Tryz.slices_Reverse_int (blk off cap:Nat) (zs:List Int) (w:World) (hH:Holds (Value.int .i64) w blk off zs.toArray) (hsz:zs.length≤9223372036854775807) :
  Calls Tryz.prog 138 #[.slice (some ⟨blk,off,none⟩) zs.length cap] w fun e w'=>e = .returned (.tuple #[])∧∃ n,w'=putRow (Value.int .i64) (Sort.ahead w n) blk off zs.reverse.toArray:=Any.slices_Reverse_int Tryz.AG blk off cap zs w hH hsz
open Go.RowKit Go.Lib Go.Sort in
/-- The same at a slice of length 0, a nil one too: nothing is read, nothing written, nothing drawn. (LAID: no walk: one application.) -/
theorem Tryz.slices_Reverse_int_empty (a:Option Addr) (cap:Nat) (w:World) :
  Calls Tryz.prog 138 #[.slice a 0 cap] w fun e w'=>e = .returned (.tuple #[])∧w'=w:=Any.slices_Reverse_int_empty Tryz.AG a cap w
def Tryz.ui:Go.Shelf.Ren:=⟨fun | 20=>84 | n=>n,fun | 22=>22 | 3=>3 | 4=>4 | 0=>0 | n=>n,fun | n=>n⟩
theorem Tryz.uK:Go.Proofs.Lays2.n20 Tryz.prog Tryz.ui:={
 mixed:=by kernel_rfl
 f20:=Tryz.func84.trans (congrArg some (by kernel_rfl))
 t0:=Tryz.underlying0
 a0:=Tryz.isAgg0
 z0:=Tryz.sizeOf0
 v0:=Tryz.zeroValue0
 t3:=Tryz.underlying3
 a3:=Tryz.isAgg3
 z3:=Tryz.sizeOf3
 v3:=Tryz.zeroValue3
 t4:=Tryz.underlying4
 a4:=Tryz.isAgg4
 z4:=Tryz.sizeOf4
 v4:=Tryz.zeroValue4
 t22:=Tryz.underlying22
 a22:=Tryz.isAgg22
 z22:=Tryz.sizeOf22
 v22:=Tryz.zeroValue22
 i3:=by kernel_rfl }
open Go.RowKit Go.Lib Go.Sort in
/-- slices.Compact at []int: "Compact replaces consecutive runs of equal elements with a single copy. This is like the uniq command found on Unix. Compact modifies the contents of the slice s and returns the modified slice, which may have a smaller length. Compact zeroes the elements between the new length and the original length. The result preserves the nilness of s.": IT RETURNS THE SLICE CUT TO 'Lib.compact zs'; ITS CELLS HOLD 'Lib.compact zs', THEN ZERO VALUES up to the old length; all else is as it was, but for the count of draws. IN THE WORDS OF slices.Sort's CONTRACT ('Holds', 'putRow'): so the everyday 'slices.Sort(xs); xs = slices.Compact(xs)' goes from the one contract to the other. It asks 'zs.length ≤ cap' (every slice's: the reslicing 's[:k]' looks at it). Length 0, nil: '.._empty'. (LAID: no walk: one application.) -/
theorem Tryz.slices_Compact_int (blk off cap:Nat) (zs:List Int) (w:World) (hH:Holds (Value.int .i64) w blk off zs.toArray) (hsz:zs.length≤9223372036854775807) (hcap:zs.length≤cap) :
  Calls Tryz.prog 84 #[.slice (some ⟨blk,off,none⟩) zs.length cap] w fun e w'=>e = .returned (.slice (some ⟨blk,off,none⟩) (Lib.compact zs).length cap)∧∃ q,w'=putRow (Value.int .i64) (Sort.ahead w q) blk off (Lib.compact zs++List.replicate (zs.length-(Lib.compact zs).length) 0).toArray:=Any.slices_Compact_int Tryz.uK blk off cap zs w hH hsz hcap
open Go.RowKit Go.Lib Go.Sort in
/-- The same at a slice of length 0, a nil one too: it comes back as it is. (LAID: no walk: one application.) -/
theorem Tryz.slices_Compact_int_empty (a:Option Addr) (cap:Nat) (w:World) :
  Calls Tryz.prog 84 #[.slice a 0 cap] w fun e w'=>e = .returned (.slice a 0 cap)∧w'=w:=Any.slices_Compact_int_empty Tryz.uK a cap w
open Go.RowKit Go.Sort in
/-- .. and plain. (LAID: no walk: one application.) -/
theorem Tryz.slices_Sort_int_none (p:Option Addr) (cap:Nat) (w:World) :
  Calls Tryz.prog 83 #[.slice p 0 cap] w fun e w'=>e = .returned (.tuple #[])∧w'=w:=Any.slices_Sort_int_none Tryz.A2 p cap w
end Go.Proofs
namespace Go.Proofs.YtbkdlhkoiagbbaaGreat
open Go Go.Lft
def I64 (x:Int):Prop:=-9223372036854775808≤x∧x≤9223372036854775807
theorem om {W:View} {h:Heap} {e:TypeId} {v:Value} {l:List Int}:OwnT W h e v l↔l.length≤140737488355328∧(∀ x∈l,I64 x)∧((v = .slice none 0 0∧l=[])∨
  ∃ g cap cur,v = .slice (some ⟨g,0,none⟩) l.length cap∧h[g]? = some (.cells cur e (0,0))∧l.length≤cap∧cap≤maxLen∧cur.size=cap∧cur.toList.take l.length=l.map (.int .i64)):=by
 have hn:Rep.n Int=1:=rfl
 constructor
 ·rintro ⟨hb,xs,⟨hl,hown⟩,hel⟩
  rw [hn,Nat.mul_one] at hl
  have hel' : ∀ (i:Nat) (hi:i<l.length),xs[i]? = some (.int .i64 l[i])∧I64 l[i]:=fun i hi=>by
   obtain ⟨h1,h2⟩:=hel i hi
   rw [hn,Nat.mul_one] at h1
   have:(xs.drop i).take 1=[.int .i64 l[i]]:=h1
   have h3:((xs.drop i).take 1)[0]? = some (.int .i64 l[i]):=by rw [this];rfl
   rw [List.getElem?_take,if_pos (by decide),List.getElem?_drop] at h3
   exact ⟨by simpa using h3,h2⟩
  have hxs:xs=l.map (.int .i64):=by
   refine List.ext_getElem? fun i=>?_
   rcases Nat.lt_or_ge i l.length with hi | hi
   ·rw [(hel' i hi).1];simp [hi]
   ·rw [List.getElem?_eq_none (by omega),List.getElem?_eq_none (by simpa using hi)]
  refine ⟨hb,fun x hx=>?_,?_⟩
  ·obtain ⟨i,hi,rfl⟩:=List.getElem_of_mem hx
   exact (hel' i hi).2
  ·rcases hown with ⟨rfl,h0⟩ | ⟨g,cap,cur,rfl,hg,h1,h2,h3,h4⟩
   ·exact .inl ⟨rfl,List.eq_nil_of_length_eq_zero h0⟩
   ·rw [hn,Nat.mul_one] at h3 h4
    exact .inr ⟨g,cap,cur,rfl,hg,h1,h2,h3,by rw [h4,hxs]⟩
 ·rintro ⟨hb,hr,hown⟩
  refine ⟨hb,l.map (.int .i64),⟨by rw [hn];simp,?_⟩,fun i hi=>?_⟩
  ·rcases hown with ⟨rfl,rfl⟩ | ⟨g,cap,cur,rfl,hg,h1,h2,h3,h4⟩
   ·exact .inl ⟨rfl,rfl⟩
   ·exact .inr ⟨g,cap,cur,rfl,hg,h1,h2,by rw [hn,Nat.mul_one];exact h3,by rw [hn,Nat.mul_one];exact h4⟩
  ·rw [hn,Nat.mul_one]
   refine ⟨?_,hr _ (List.getElem_mem hi)⟩
   refine List.ext_getElem? fun j=>?_
   rw [List.getElem?_take]
   rcases Nat.lt_or_ge j 1 with hj | hj
   ·have:j=0:=by omega
    subst this
    simp [hi]
   ·rw [if_neg (by omega)];simp;omega
theorem qw {w:World} {g cap:Nat} {cur:Array Value} {e:TypeId} {l:List Int} (hg:w.heap[g]? = some (.cells cur e (0,0))) (h1:l.length≤cur.size) (h4:cur.toList.take l.length=l.map (.int .i64)):Go.Sort.Holds (Value.int .i64) w g 0 l.toArray:=by
 intro j hj
 simp only [List.size_toArray] at hj
 have hc:cur[j]? = some (.int .i64 l[j]):=by
  have:=congrArg (fun x:List Value=>x[j]?) h4
  simp only [List.getElem?_take,hj,if_true,List.getElem?_map] at this
  simpa [hj] using this
 constructor
 ·simp [World.cell?,hg,hc,hj]
 ·simp [World.frozen?,hg]
theorem wE {W:View} {w:World} {h':Heap} {e:TypeId} {v:Value} {g cap:Nat} {cur:Array Value} {l d:List Int} (hv:v = .slice (some ⟨g,0,none⟩) l.length cap) (hg:w.heap[g]? = some (.cells cur e (0,0))) (h1:l.length≤cap) (h2:cap≤maxLen) (h3:cur.size=cap)
  (hd:d.length=l.length) (hb:l.length≤140737488355328) (hr : ∀ x∈d,I64 x) (n:Nat) (os:Array Obj) (hh:h'=(Go.Sort.grow (Go.Sort.putRow (Value.int .i64) (Go.Sort.ahead w n) g 0 d.toArray) os).heap) :
  OwnT W h' e v d∧Kept w.heap h' v.ownBlock:=by
 subst hv
 have hlt:g<w.heap.size:=(Array.getElem?_eq_some_iff.1 hg).1
 have hcur:(Go.Sort.putCells (Value.int .i64) 0 d.toArray cur).toList.take d.length=d.map (.int .i64):=by
  refine List.ext_getElem? fun j=>?_
  rw [List.getElem?_take]
  split
  ·rename_i hj
   have hjc:j<cur.size:=by omega
   simp [Go.Sort.putCells,hj,hjc]
  ·rename_i hj
   exact (List.getElem?_eq_none (by simpa using Nat.le_of_not_lt hj)).symm
 have hblk : ∀ k,k<w.heap.size→h'[k]? = if g=k then (w.heap[k]?).map (Go.Sort.onCells (Go.Sort.putCells (Value.int .i64) 0 d.toArray)) else w.heap[k]?:=by
  intro k hk
  subst hh
  simp only [Go.Sort.grow,Go.Sort.putRow,Go.Sort.mapBlock,Go.Sort.ahead]
  rw [Array.getElem?_append_left (by simpa using hk),Array.getElem?_modify]
 have hsz:w.heap.size≤h'.size:=by subst hh;simp [Go.Sort.grow,Go.Sort.putRow,Go.Sort.mapBlock,Go.Sort.ahead]
 refine ⟨om.2 ⟨by omega,hr,.inr ⟨g,cap,Go.Sort.putCells (Value.int .i64) 0 d.toArray cur,by rw [hd],?_,by omega,h2,by simp [Go.Sort.putCells,h3],hcur⟩⟩,hsz,fun k hk hne=>?_⟩
 ·rw [hblk g hlt,if_pos rfl,hg];rfl
 ·rw [hblk k hk,if_neg (fun e=>hne (by simp [Value.ownBlock,e]))]
theorem oY (w:World) (n g:Nat) (d:Array Int) (os:Array Obj):Same w (Go.Sort.grow (Go.Sort.putRow (Value.int .i64) (Go.Sort.ahead w n) g 0 d) os):=
 ⟨rfl,rfl,rfl,by simp [Go.Sort.grow,Go.Sort.putRow,Go.Sort.mapBlock,Go.Sort.ahead],fun b hb=>by
  have hlt:=(Array.getElem?_eq_some_iff.1 hb).1
  simp only [Go.Sort.grow,Go.Sort.putRow,Go.Sort.mapBlock,Go.Sort.ahead]
  rw [Array.getElem?_append_left (by simpa using hlt),Array.getElem?_modify]
  split
  ·rw [hb];rfl
  ·exact hb⟩
def nM (l:List Int):List Int:=l.mergeSort fun x y=>decide (x≤y)
theorem EW {W:View} {h:Heap} {e:TypeId} {v:Value} {l:List Int} (o:OwnT W h e v l):aD Tryz.prog N.slices_Sort_int #[v] h (fun _ h'=>OwnT W h' e v (nM l)∧Kept h h' v.ownBlock):=by
 rintro w rfl
 obtain ⟨hb,hr,hown⟩:=om.1 o
 have hlen:(nM l).length=l.length:=List.length_mergeSort _
 have hr' : ∀ x∈nM l,I64 x:=fun x hx=>hr x (List.mem_mergeSort.1 hx)
 rcases hown with ⟨rfl,rfl⟩ | ⟨g,cap,cur,rfl,hg,h1,h2,h3,h4⟩
 ·refine (Tryz.slices_Sort_int_none none 0 w).mono ?_
  rintro e' w' ⟨rfl,rfl⟩
  exact ⟨_,rfl,⟨by simpa [nM] using o,Kept.refl _ _⟩,Same.refl _⟩
 ·refine (Tryz.slices_Sort_int g 0 cap l w (qw (cap:=cap) hg (by omega) h4) (Array.getElem?_eq_some_iff.1 hg).1 (by omega)).mono ?_
  rintro e' w' ⟨rfl,n,os,rfl⟩
  exact ⟨_,rfl,wE rfl hg h1 h2 h3 hlen hb hr' n os rfl,oY _ _ _ _ _⟩
theorem DZ {W:View} {h:Heap} {e:TypeId} {g n cap:Nat} {l:List Int} (o:OwnT W h e (.slice (some ⟨g,0,none⟩) l.length cap) l) (hn:n≤l.length):OwnT W h e (.slice (some ⟨g,0,none⟩) n cap) (l.take n):=by
 obtain ⟨hb,hr,hown⟩:=om.1 o
 have hl:(l.take n).length=n:=by simp;omega
 rcases hown with ⟨hv,_⟩ | ⟨g',cap',cur,hv,hg,h1,h2,h3,h4⟩
 ·cases hv
 ·cases hv
  refine om.2 ⟨by omega,fun x hx=>hr x (List.mem_of_mem_take hx),.inr ⟨g,cap,cur,by rw [hl],hg,by omega,h2,h3,?_⟩⟩
  rw [hl,List.map_take,←h4,List.take_take,Nat.min_eq_left hn]
theorem rm {l:List Int}:(Lib.compact l).length≤l.length:=by
 unfold Lib.compact Lib.compactUpTo
 rw [List.length_map]
 exact Nat.le_trans (List.length_filter_le _ _) (by simp)
theorem nC {l:List Int} {x:Int} (hx:x∈Lib.compact l):x∈l:=by
 unfold Lib.compact Lib.compactUpTo at hx
 simp only [List.mem_map,List.mem_filter,List.mem_range] at hx
 obtain ⟨i,⟨hi,_⟩,rfl⟩:=hx
 simp [hi]
theorem zA {W:View} {h:Heap} {e:TypeId} {v:Value} {l:List Int} (o:OwnT W h e v l):aD Tryz.prog N.slices_Compact_int #[v] h (fun v' h'=>OwnT W h' e v' (Lib.compact l)∧jY h h' v v'):=by
 rintro w rfl
 obtain ⟨hb,hr,hown⟩:=om.1 o
 have hlen:=rm (l:=l)
 rcases hown with ⟨rfl,rfl⟩ | ⟨g,cap,cur,rfl,hg,h1,h2,h3,h4⟩
 ·refine (Tryz.slices_Compact_int_empty none 0 w).mono ?_
  rintro e' w' ⟨rfl,rfl⟩
  exact ⟨_,rfl,⟨o,Kept.refl _ _,.inl rfl⟩,Same.refl _⟩
 ·refine (Tryz.slices_Compact_int g 0 cap l w (qw (cap:=cap) hg (by omega) h4) (by omega) h1).mono ?_
  rintro e' w' ⟨rfl,n,hw⟩
  have hw':w'=Go.Sort.grow (Go.Sort.putRow (Value.int .i64) (Go.Sort.ahead w n) g 0 (Lib.compact l++List.replicate (l.length-(Lib.compact l).length) 0).toArray) #[]:=by rw [hw];simp
  have hdl:(Lib.compact l++List.replicate (l.length-(Lib.compact l).length) 0).length=l.length:=by simp;omega
  have hrd : ∀ x∈(Lib.compact l++List.replicate (l.length-(Lib.compact l).length) (0:Int)),I64 x:=fun x hx=>by
   rcases List.mem_append.1 hx with hx | hx
   ·exact hr x (nC hx)
   ·obtain ⟨_,rfl⟩:=List.mem_replicate.1 hx;exact ⟨by omega,by omega⟩
  obtain ⟨o2,k2⟩:=wE (W:=W) (h':=w'.heap) rfl hg h1 h2 h3 hdl hb hrd n #[] (by rw [hw'])
  have o3:=DZ (n:=(Lib.compact l).length) (by rw [hdl];exact o2) (by simp)
  rw [List.take_left'  rfl] at o3
  exact ⟨_,rfl,⟨o3,k2,.inl rfl⟩,by rw [hw'];exact oY _ _ _ _ _⟩
theorem zv {W:View} {h:Heap} {e:TypeId} {v:Value} {l:List Int} (o:OwnT W h e v l):aD Tryz.prog N.slices_Reverse_int #[v] h (fun _ h'=>OwnT W h' e v l.reverse∧Kept h h' v.ownBlock):=by
 rintro w rfl
 obtain ⟨hb,hr,hown⟩:=om.1 o
 rcases hown with ⟨rfl,rfl⟩ | ⟨g,cap,cur,rfl,hg,h1,h2,h3,h4⟩
 ·refine (Tryz.slices_Reverse_int_empty none 0 w).mono ?_
  rintro e' w' ⟨rfl,rfl⟩
  exact ⟨_,rfl,⟨o,Kept.refl _ _⟩,Same.refl _⟩
 ·refine (Tryz.slices_Reverse_int g 0 cap l w (qw (cap:=cap) hg (by omega) h4) (by omega)).mono ?_
  rintro e' w' ⟨rfl,n,hw⟩
  have hw':w'=Go.Sort.grow (Go.Sort.putRow (Value.int .i64) (Go.Sort.ahead w n) g 0 l.reverse.toArray) #[]:=by rw [hw];simp
  exact ⟨_,rfl,wE rfl hg h1 h2 h3 (by simp) hb (fun x hx=>hr x (by simpa using hx)) n #[] (by rw [hw']),by rw [hw'];exact oY _ _ _ _ _⟩
end Go.Proofs.YtbkdlhkoiagbbaaGreat
namespace Go.Proofs.YtbkdlhkoiagbbaaGreat
open Go Go.Lft
def mQ (row:List Int) (n:Int) (i:Nat):Bool:=decide (0≤nth row i)&&decide (nth row i<n)
def jV (row:List Int) (n:Int):List Int:=Lib.compact (nM (sift (mQ row n) (fun i=>nth row i) row.length))
theorem Ba {row:List Int} {n:Int} {vr:Value} {h:Heap} (hr:SlRd (vw h) vr row) (hs:row.length≤1000000) :
  aD Tryz.prog N.eP #[vr,.int .i64 n] h (fun v h'=>∃ W,Mine nothing h h' W T.int v (jV row n)):=by
 refine ao (args:=[vr,.int .i64 n]) follows F.eP E.eP (Nat.le_of_ble_eq_true (by kernel_rfl)) fun K hK=>?_
 simp [L.eP,hr.len]
 refine aV [0,1,5,8,9,10] (fun (v:Value) k=>[vr,.int .i64 n,v,vr,.int .i64 row.length,.int .i64 k]) (fun v k h1=>Mine nothing h h1 nothing T.int v (sift (mQ row n) (fun i=>nth row i) k)) row.length (.slice none 0 0)
  rfl (by omega) rfl (Mine.start (fun _ _ h=>by cases h)) (fun _ _=>rfl) (fun v k h1 hk m=>by simp) ?_ ?_
 ·intro v k h1 hlt m K2 hK2
  have hr1:=hr.mono m.old
  have hrange:=hr.range hlt
  have:=fG (p:=mQ row n) (x:=fun i=>nth row i) k
  simp (disch:=omega) [hr1.idx1 rfl,hr1.int (View.le_refl _),dT,-Bool.and_eq_true,-Bool.and_eq_false_imp]
  refine ⟨fun he=>?_,fun he=>hK2 v _ _ rfl rfl (by rw [fY (show mQ row n k=false from he)];exact m)⟩
  refine m.push El.a8 (by simp<;>rfl) (mJ hrange.1 hrange.2) (by omega) (by omega) (fun _=>by simp) (fun _=>by simp) fun u v' h3 m'=>hK2 v' _ _ rfl rfl (by rw [gX (show mQ row n k=true from he)];exact m')
 ·intro v h1 m
  simp
  refine af (by kernel_rfl) (EW m.own) ?_
  rintro _ h2 ⟨o2,k2⟩
  have m2:=m.mG o2 ⟨k2,.inl rfl⟩
  try simp
  refine af (by kernel_rfl) (zA m2.own) ?_
  rintro v3 h3 ⟨o3,k3⟩
  have m3:=m2.mG o3 k3
  try simp
  exact hK _ _ ⟨_,m3⟩
def cc (g:Gr):Gr:=rows (fun a=>jV (nth g a) g.length) g.length
def Sm (g:Gr):Prop:=g.length≤1000000∧∀ i,i<g.length→(nth g i).length≤1000000
theorem CX {α:Type} [Rep α] {W:View}:Rep.rd W (Value.slice none 0 0).cells.toList ([]:List α):=⟨.slice none 0 0,rfl,none,0,rfl,by simp,by simp,.inl rfl⟩
theorem sO {g:Gr} {vg:Value} {h:Heap} (hg:SlRd (vw h) vg g) (hs:Sm g) :
  aD Tryz.prog N.dY #[vg] h (fun v h'=>∃ W,Mine nothing h h' W T.a8 v (cc g)):=by
 refine ao (args:=[vg]) follows F.dY E.dY (Nat.le_of_ble_eq_true (by kernel_rfl)) fun K hK=>?_
 have hs1:=hs.1
 simp [L.dY,hg.len]
 refine Mine.made (α:=List Int) (V:=nothing) (W:=nothing) (h0:=h) (n:=g.length) (d:=[]) El.cJ (View.le_refl _) (fun _ _ h=>by cases h) (Old.nothing _ _) (by simp<;>rfl) (by simp<;>rfl) CX (by omega) (by omega) fun v h1 m _ _=>?_
 refine aV [0,3,9,10,11] (fun (_:View) k=>[vg,v,vg,.int .i64 g.length,.int .i64 k]) (fun W k h2=>Mine nothing h h2 W T.a8 v (rows (fun a=>jV (nth g a) g.length) k++List.replicate (g.length-k) [])) g.length nothing
  rfl (by omega) rfl m (fun _ _=>rfl) (fun v k h1 hk m=>by simp) ?_ ?_
 ·intro W a h2 hlta m K2 hK2
  have hg2:=hg.mono m.old
  obtain ⟨rv,hrv⟩:=hg2.rows
  obtain ⟨cv,rr⟩:=hrv a hlta
  have hl5:(rows (fun a=>jV (nth g a) g.length) a++List.replicate (g.length-a) ([]:List Int)).length=g.length:=by simp;omega
  simp (disch:=omega) [hg2.idx1 rfl,cv _ (View.le_refl _),hg.len]
  refine af (by kernel_rfl) (Ba rr (hs.2 a hlta)) ?_
  rintro r h3 ⟨W',mr⟩
  have m3:=m.ext mr.old
  have hr:=mr.fresh.mono (eR W _ _)
  simp (disch:=omega) [m3.now.idx1 rfl]
  refine m3.put1 (α:=List Int) (i:=a) (by kernel_rfl) rfl (by simp) (by simp<;>rfl) (by omega) (gl.2 hr) fun h4 m4=>hK2 (grow W h2 h3) _ _ rfl rfl ?_
  rw [kt (x:=fun a=>jV (nth g a) g.length) hlta] at m4
  exact m4
 ·intro W h2 m
  simp at m
  simp
  exact hK _ _ ⟨_,m⟩
theorem tf {l:List Int} {x:Int} {v:Value} {h:Heap} {b:Addr} (hl:SlRd (vw h) v l) (hb:an (vw h) b=some v) :
  aD Tryz.prog N.cn #[.int .i64 x,.pointer (some b)] h (fun u h'=>u = .bool (decide (0≤x)&&decide (x<l.length))∧h'=h):=by
 refine ao (args:=[.int .i64 x,.pointer (some b)]) follows F.cn E.cn (Nat.le_of_ble_eq_true (by kernel_rfl)) fun K hK=>?_
 simp [L.cn,hb,hl.len]
 exact hK _ _ ⟨rfl,rfl⟩
theorem wW {l:List Int} {a b:Int} {v:Value} {h:Heap} (hl:SlRd (vw h) v l) :
  aD Tryz.prog N.cF #[v,.int .i64 a,.int .i64 b] h (fun u h'=>u = .bool (dS l a b)∧(vw h).le (vw h')):=by
 refine ao (args:=[v,.int .i64 a,.int .i64 b]) follows F.cF E.cF (Nat.le_of_ble_eq_true (by kernel_rfl)) fun K hK=>?_
 have bl:=hl.bound
 simp [L.cF]
 refine lf (v:=v) (by simp) ?_
 have hvc:v.cells = #[v]:=by obtain ⟨_,_,rfl,_⟩:=hl;rfl
 rw [hvc]
 have hle:=bN h (.cells #[v] T.a8)
 have hl:=hl.mono hle
 have hb:an (vw (h.push (.cells #[v] T.a8))) ⟨h.size,0,none⟩=some v:=by simp [an,vw]
 generalize h.push (.cells #[v] T.a8)=h1 at hle hl hb
 generalize h.size=B at hb
 refine iV (ops:=[.tmp 10]) rfl (by kernel_rfl) (by simpa using tf (x:=a) hl hb) ?_
 rintro _ _ ⟨rfl,rfl⟩
 cases ha:decide (0≤a)&&decide (a<l.length) with
 | false=>
  have hsp:dS l a b=false:=by
   simp only [Bool.and_eq_false_iff,decide_eq_false_iff_not] at ha
   simp [dS];intros;omega
  rw [hsp] at hK
  simp [grdP]
  exact hK _ _ ⟨rfl,hle⟩
 | true=>
  simp only [Bool.and_eq_true,decide_eq_true_eq] at ha
  simp [grdP]
  refine iV (ops:=[.tmp 15]) rfl (by kernel_rfl) (by simpa using tf (x:=b) hl hb) ?_
  rintro _ _ ⟨rfl,rfl⟩
  cases hbb:decide (0≤b)&&decide (b<l.length) with
  | false=>
   have hsp:dS l a b=false:=by
    simp only [Bool.and_eq_false_iff,decide_eq_false_iff_not] at hbb
    simp [dS];intros;omega
   rw [hsp] at hK
   simp
   exact hK _ _ ⟨rfl,hle⟩
  | true=>
   simp only [Bool.and_eq_true,decide_eq_true_eq] at hbb
   have hsp:dS l a b=mX l a (l.length+1) b:=by simp [dS,ha,hbb]
   rw [hsp] at hK
   simp (disch:=omega) [hb,hl.len]
   refine aV [1,2,3,6,7,21,22] (fun (c:Int) k=>[.int .i64 a,.int .i64 c,.pointer (some ⟨B,0,none⟩),.bool false,.func (.func N.cn) #[] #[.pointer (some ⟨B,0,none⟩)],.int .i64 ((l.length:Int)+1),.int .i64 k])
    (fun c k h2=>h2=_∧mX l a (l.length+1-k) c=mX l a (l.length+1) b) (l.length+1) b
    rfl (by omega) rfl ⟨rfl,rfl⟩ (fun _ _=>rfl) (fun v k h1 hk m=>by simp) ?_ ?_
   ·rintro c k h2 hlt ⟨rfl,hch⟩ K2 hK2
    have hfu:l.length+1-k=(l.length-k)+1:=by omega
    rw [hfu,mX] at hch
    simp
    refine ⟨fun he=>hK _ _ ⟨by rw [←hch,if_pos he.symm],hle⟩,fun he=>?_⟩
    rw [if_neg (fun e=>he e.symm)] at hch
    refine iV (ops:=[.tmp 28]) rfl (by kernel_rfl) (by simpa using tf (x:=c) hl hb) ?_
    rintro _ _ ⟨rfl,rfl⟩
    cases hc:decide (0≤c)&&decide (c<l.length) with
    | false=>
     simp only [Bool.and_eq_false_iff,decide_eq_false_iff_not] at hc
     simp
     exact hK _ _ ⟨by rw [←hch,if_pos (by omega)],hle⟩
    | true=>
     simp only [Bool.and_eq_true,decide_eq_true_eq] at hc
     rw [if_neg (by omega)] at hch
     simp (disch:=omega) [hb,hl.idx1 rfl,hl.int (View.le_refl _)]
     refine hK2 (nth l c.toNat) _ _ rfl rfl ⟨rfl,?_⟩
     rw [←hch];congr 1;omega
   ·rintro c h2 ⟨rfl,hch⟩
    rw [Nat.sub_self,mX] at hch
    simp
    exact hK _ _ ⟨by rw [←hch],hle⟩
end Go.Proofs.YtbkdlhkoiagbbaaGreat
namespace Go.Proofs.YtbkdlhkoiagbbaaGreat
open Go Go.Lft
def jI (idom number:List Int):Nat→Int→Int→Option Int
 | 0,_,_=>none
 | n+1,a,b=>
  if 0≤a∧a<number.length∧a<idom.length∧0≤b∧b<number.length∧b<idom.length then
   if nth number b.toNat<nth number a.toNat then jI idom number n (nth idom a.toNat) b
   else if nth number a.toNat<nth number b.toNat then jI idom number n a (nth idom b.toNat)
   else some a
  else none
theorem uZ {idom number:List Int} {vi vn:Value} {h:Heap} {r:Int} (hi:SlRd (vw h) vi idom) (hn:SlRd (vw h) vn number) {n:Nat} {a b:Int} (hc:jI idom number n a b=some r) :
  aD Tryz.prog N.dh #[vi,vn,.int .i64 a,.int .i64 b] h (fun u h'=>u = .int .i64 r∧h'=h):=by
 refine ao (args:=[vi,vn,.int .i64 a,.int .i64 b]) follows F.dh E.dh (Nat.le_of_ble_eq_true (by kernel_rfl)) fun K hK=>?_
 simp [L.dh]
 refine gR [0,1,2,3] (fun m ρ h'=>∃ (c d:Int),ρ=[(0,vi),(1,vn),(2,.int .i64 c),(3,.int .i64 d)]∧h'=h∧jI idom number m c d=some r) n ⟨a,b,rfl,rfl,hc⟩ ?_
 rintro m ρ h' ⟨c,d,rfl,rfl,hc⟩ K2 hK2
 cases m with
 | zero=>cases hc
 | succ m=>
  rw [jI] at hc
  split at hc
  case isFalse=>cases hc
  rename_i hr
  obtain ⟨r1,r2,r3,r4,r5,r6⟩:=hr
  simp (disch:=omega) [L.dh.l1,hn.idx1 rfl,hn.int (View.le_refl _)]
  refine ⟨fun h1=>?_,fun h1=>?_⟩
  ·rw [if_pos h1] at hc
   simp (disch:=omega) [hi.idx1 rfl,hi.int (View.le_refl _)]
   exact hK2 m _ _ (by omega) ⟨_,_,rfl,rfl,hc⟩
  ·rw [if_neg (by omega)] at hc
   refine ⟨fun h2=>?_,fun h2=>?_⟩
   ·rw [if_pos h2] at hc
    simp (disch:=omega) [hi.idx1 rfl,hi.int (View.le_refl _)]
    exact hK2 m _ _ (by omega) ⟨_,_,rfl,rfl,hc⟩
   ·rw [if_neg (by omega)] at hc
    cases hc
    exact hK _ _ ⟨rfl,rfl⟩
end Go.Proofs.YtbkdlhkoiagbbaaGreat
namespace Go.Proofs.YtbkdlhkoiagbbaaGreat
open Go Go.Lft
structure Wo (W:View) (h:Heap) (B:Nat) (vt vl:Value) (s:List Bool × List Int):Prop where
 wle:W.le (vw h)
 box:h[B]? = some (.cells #[vl] T.a8 (0,0))
 wB:W B=none
 avt:Av W vt
 avl:Av W vl
 nt:vt.ownBlock≠some B
 nl:vl.ownBlock≠some B
 ne:vl.ownBlock=none∨vl.ownBlock≠vt.ownBlock
 ot:OwnT nothing h T.bool vt s.1
 ol:OwnT nothing h T.int vl s.2
 nn:vt.ownBlock=none∨vt.ownBlock≠vl.ownBlock
theorem Wo.lt {W:View} {h:Heap} {B:Nat} {vt vl:Value} {s:List Bool × List Int} (k:Wo W h B vt vl s):B<h.size:=(Array.getElem?_eq_some_iff.1 k.box).1
theorem Wo.ext {W:View} {h h':Heap} {B:Nat} {vt vl:Value} {s:List Bool × List Int} (k:Wo W h B vt vl s) (hle:(vw h).le (vw h')):Wo W h' B vt vl s:=
 {k with wle:=View.le_trans k.wle hle,box:=hle _ _ k.box,ot:=k.ot.ext hle,ol:=k.ol.ext hle }
theorem Wo.grow {W:View} {h h':Heap} {B:Nat} {vt vl:Value} {s:List Bool × List Int} (k:Wo W h B vt vl s) (hle:(vw h).le (vw h')):Wo (grow W h h') h' B vt vl s:=
 {k.ext hle with
  wle:=kZ (View.le_trans k.wle hle)
  wB:=by unfold Lft.grow;rw [if_pos k.lt];exact k.wB
  avt:=k.avt.grow fun _ hb=>k.ot.lt hb
  avl:=k.avl.grow fun _ hb=>k.ol.lt hb }
theorem Wo.flag {W:View} {h h':Heap} {B:Nat} {vt vl:Value} {s:List Bool × List Int} {t':List Bool} (k:Wo W h B vt vl s) (o:OwnT nothing h' T.bool vt t') (m:jY h h' vt vt):Wo W h' B vt vl (t',s.2):=
 {k with
  wle:=(m.view k.wle k.avt).1
  box:=by rw [m.kept.block B k.lt (fun e=>k.nt e.symm)];exact k.box
  ot:=o
  ol:=k.ol.kept m.kept k.ne }
theorem Wo.zR {W:View} {h h' h'':Heap} {B:Nat} {vt vl vl':Value} {s:List Bool × List Int} {l':List Int} (k:Wo W h B vt vl s) (o:OwnT nothing h' T.int vl' l') (m:jY h h' vl vl') (hsz:h''.size=h'.size)
  (hB:h''[B]? = some (.cells #[vl'] T.a8 (0,0))) (hoth : ∀ j,j≠B→h''[j]? = h'[j]?):Wo W h'' B vt vl' (s.1,l'):=by
 obtain ⟨hw',ha'⟩:=m.view k.wle k.avl
 have hlt:=k.lt
 have nl':vl'.ownBlock≠some B:=by
  rcases m.at_ with e | e
  ·rw [e];exact k.nl
  ·rw [e];intro e2;cases e2;omega
 have kep:Kept h' h'' (some B):=⟨by omega,fun j _ hj=>hoth j (fun e=>hj (by rw [e]))⟩
 refine ⟨fun b x hb=>?_,hB,k.wB,k.avt,ha',k.nt,nl',?_,?_,?_,?_⟩
 ·have hne:b≠B:=fun e=>by rw [e,k.wB] at hb;cases hb
  show h''[b]? = _
  rw [hoth b hne];exact hw' b x hb
 ·rcases m.at_ with e | e
  ·rw [e];exact k.ne
  ·right;rw [e];intro e2;have:=k.ot.lt e2.symm;omega
 ·exact (k.ot.kept m.kept k.nn).kept kep (.inr k.nt)
 ·exact o.kept kep (.inr nl')
 ·rcases m.at_ with e | e
  ·rw [e];exact k.nn
  ·right;rw [e];intro e2;have:=k.ot.lt e2;omega
theorem Wo.cell {W:View} {h:Heap} {B:Nat} {vt vl:Value} {s:List Bool × List Int} (k:Wo W h B vt vl s):an (vw h) ⟨B,0,none⟩=some vl:=by
 simp [an,vw,k.box]
def nx (rows:Gr) (a:Int):List Int:=nth rows a.toNat
theorem xM {rows:Gr} {vr:Value} {Tp R O:Addr} {B:Nat} (hs:rows.length≤1000000) (hin : ∀ i,i<rows.length→∀ j,j<(nth rows i).length→0≤nth (nth rows i) j∧nth (nth rows i) j<rows.length) : ∀ (n:Nat) {M:Nat} {W:View} {h:Heap} {vt vl:Value} {s:List Bool × List Int} {a:Int},Wo W h B vt vl s→SlRd W vr rows→
  an W Tp=some vt→an W R=some vr→an W O=some (.func (.func N.bK) #[] #[.pointer (some Tp),.pointer (some R),.pointer (some O),.pointer (some ⟨B,0,none⟩)])→0≤a→a<rows.length→s.1.length=rows.length→nth s.1 a.toNat=false→
  cR s.1≤n→s.2.length+cR s.1≤M→M≤1000000→
  aD Tryz.prog N.bK #[.int .i64 a,.pointer (some Tp),.pointer (some R),.pointer (some O),.pointer (some ⟨B,0,none⟩)] h (fun _ h'=>∃ vl',Wo W h' B vt vl' (iR (nx rows) n a s)∧(iR (nx rows) n a s).2.length+cR (iR (nx rows) n a s).1≤M)
 | 0,M,W,h,vt,vl,s,a,k,hg,hT,hR,hO,h0,h1,hl,hf,hc,hb,hM=>by
  exfalso
  have:=iL (t:=s.1) (i:=a.toNat) (by omega) hf
  omega
 | n+1,M,W,h,vt,vl,(t,l),a,k,hg,hT,hR,hO,h0,h1,hl,hf,hc,hb,hM=>by
  obtain ⟨i,rfl⟩:=Int.eq_ofNat_of_zero_le h0
  simp only at hl hf hc hb
  have hfs:=iL (t:=t) (i:=i) (by omega) (by simpa using hf)
  refine ao (args:=[.int .i64 i,.pointer (some Tp),.pointer (some R),.pointer (some O),.pointer (some ⟨B,0,none⟩)]) follows F.bK E.bK (Nat.le_of_ble_eq_true (by kernel_rfl)) fun K hK=>?_
  have hnow:SlRd (vw h) vt t:=k.ot.now (fun _ _ h=>by cases h)
  simp (disch:=omega) [L.bK,ae k.wle hT,hnow.idx1 rfl]
  refine qF (W:=nothing) (i:=i) (d:=true) (by kernel_rfl) (by simp [show Rep.n Bool=1 from rfl]) (by simp<;>rfl) k.ot (by simpa using by omega) GU fun h2 o2 m2=>?_
  have k2:=k.flag o2 m2
  have hg2:=hg.mono k2.wle
  obtain ⟨rv,hrv⟩:=hg.rows
  obtain ⟨cv,rr⟩:=hrv i (by omega)
  have br:=rr.bound
  have hov:iR (nx rows) (n+1) i (t,l)=((up (b0 (nx rows) n i) (nx rows i).length (t.set i true,l)).1,(up (b0 (nx rows) n i) (nx rows i).length (t.set i true,l)).2++[(i:Int)]):=jq
  rw [hov] at hK
  have hnx:nx rows i=nth rows i:=rfl
  rw [hnx] at hK
  simp (disch:=omega) [ae k2.wle hR,hg2.idx1 rfl,cv _ k2.wle,rr.len]
  refine aV [0,1,2,3,4,14,15,16] (fun (_:Value) j=>[.int .i64 i,.pointer (some Tp),.pointer (some R),.pointer (some O),.pointer (some ⟨B,0,none⟩),rv i,.int .i64 (nth rows i).length,.int .i64 j]) (fun vl j h4=>Wo W h4 B vt vl (up (b0 (nx rows) n i) j (t.set i true,l))∧(up (b0 (nx rows) n i) j (t.set i true,l)).2.length+cR (up (b0 (nx rows) n i) j (t.set i true,l)).1≤M-1) (nth rows i).length vl
   rfl (by omega) rfl ⟨k2,by simp [up];omega⟩ (fun _ _=>rfl) (fun v j h4 hk m=>by simp) ?_ ?_
  ·rintro vl j h4 hltj ⟨k4,hb4⟩ K2 hK2
   have hinv:=qM (fun s:List Bool × List Int=>s.1.length=rows.length∧cR s.1≤n) (f:=b0 (nx rows) n i) (fun k x hx=>by
    unfold b0;split
    ·exact hx
    ·exact nr n _ x hx) j (t.set i true,l) ⟨by simpa using hl,by simp only;omega⟩
   generalize hx:up (b0 (nx rows) n i) j (t.set i true,l)=x at k4 hb4 hinv
   obtain ⟨e0,e1⟩:=hin i (by omega) j hltj
   have hr4:=rr.mono k4.wle
   have hnow4:=k4.ot.now (fun _ _ h=>by cases h)
   simp (disch:=omega) [ae k4.wle hT,hr4.idx1 rfl,hr4.int (View.le_refl _),hnow4.idx1 rfl,hnow4.bool (View.le_refl _),dT]
   refine ⟨fun he=>?_,fun he=>hK2 vl _ _ rfl rfl ?_⟩
   ·simp [ae k4.wle hO]
    refine iV (ops:=[.tmp 26]) rfl (by kernel_rfl) (by simpa using xM hs hin n k4 hg hT hR hO e0 e1 hinv.1 he hinv.2 hb4 (by omega)) ?_
    rintro _ h5 ⟨⟨vl',k5⟩,hb5⟩
    have hst:up (b0 (nx rows) n i) (j+1) (t.set i true,l)=iR (nx rows) n (nth (nth rows i) j) x:=by rw [up,hx,b0,show nx rows i=nth rows i from rfl,he];rfl
    refine hK2 vl' _ _ rfl rfl ?_
    rw [hst]
    exact ⟨k5,hb5⟩
   ·have hst:up (b0 (nx rows) n i) (j+1) (t.set i true,l)=x:=by rw [up,hx,b0,show nx rows i=nth rows i from rfl,he];rfl
    rw [hst];exact ⟨k4,hb4⟩
  ·rintro vl h4 ⟨k4,hb4⟩
   generalize hx:up (b0 (nx rows) n i) (nth rows i).length (t.set i true,l)=x at k4 hb4 hK
   simp [k4.cell]
   refine ku (α:=Int) (W:=nothing) El.a8 (by simp<;>rfl) (mJ (by omega) (by omega)) fun u h5 hsrc hle5 _=>?_
   have k5:=k4.ext hle5
   refine dR El.a8 (by simp) (by simp) k5.ol hsrc (by simp;omega) (by simp;omega) fun vl' h6 o6 m6=>?_
   have hB6:h6[B]? = some (.cells #[vl] T.a8 (0,0)):=by rw [m6.kept.block B k5.lt (fun e=>k5.nl e.symm)];exact k5.box
   obtain ⟨hcells,hone⟩:=j7 o6
   refine ee (g:=B) (o:=0) (n:=1) (v:=vl') (by kernel_rfl) (by simp) (by simp) (by rw [hcells];rfl) (by rw [hcells];simpa using hone) hB6 (by simp) fun h7 hsz7 ⟨row,hrow,he⟩ hoth=>hK _ _ ⟨vl',?_,?_⟩
   ·have hrow2:row = #[vl']:=by rw [←Array.toList_inj,he,hcells];rfl
    rw [hrow2] at hrow
    exact k5.zR o6 m6 hsz7 hrow hoth
   ·simp;omega
end Go.Proofs.YtbkdlhkoiagbbaaGreat
namespace Go.Proofs.YtbkdlhkoiagbbaaGreat
open Go Go.Lft
def a6 (g:Gr):List Int:=jT (nx (cc g)) g.length
theorem gj {g:Gr}:(cc g).length=g.length:=by simp [cc]
theorem qt {g:Gr} : ∀ i,i<(cc g).length→∀ j,j<(nth (cc g) i).length→0≤nth (nth (cc g) i) j∧nth (nth (cc g) i) j<(cc g).length:=by
 intro i hi j hj
 rw [gj] at hi
 have hm:=bu hj
 rw [cc,df hi,jV] at hm
 have h2:=nC hm
 rw [nM,List.mem_mergeSort,jx] at h2
 simp only [List.mem_map,List.mem_filter,List.mem_range,mQ,Bool.and_eq_true,decide_eq_true_eq] at h2
 obtain ⟨k,⟨_,h3⟩,h4⟩:=h2
 rw [gj]
 have e:nth (nth (cc g) i) j=nth (nth g i) k:=by rw [cc,df hi,jV,h4,nM,jx]
 rw [e];exact h3
theorem yx {g:Gr} {vg:Value} {h:Heap} (hg:SlRd (vw h) vg g) (hs:Sm g) :
  aD Tryz.prog N.fq #[vg] h (fun v h'=>(vw h).le (vw h')∧SlRd (fresh h h') v (a6 g)):=by
 refine ao (args:=[vg]) follows F.fq E.fq (Nat.le_of_ble_eq_true (by kernel_rfl)) fun K hK=>?_
 have hs1:=hs.1
 simp [L.fq,hg.len]
 refine ⟨fun h0=>?_,fun h0=>?_⟩
 ·exact hK _ _ ⟨View.le_refl _,⟨none,0,by simp [a6,jT,h0],by simp [a6,jT,h0],by simp [a6,jT,h0],.inl (by simp [a6,jT,h0])⟩⟩
 ·refine af (by kernel_rfl) (sO hg hs) ?_
  rintro vr h1 ⟨W1,m1⟩
  have hvr:=m1.now
  obtain ⟨hrc,hro⟩:=j7 m1.own
  refine qH (z:=.slice none 0 0) (by kernel_rfl) rfl (by kernel_rfl) hrc hro (fun _=>by simp) (fun _=>by simp) fun h2 hle2 hsz2 hR2=>?_
  refine lW (W:=nothing) (n:=g.length) (d:=false) El.mj (by simp<;>rfl) (by simp<;>rfl) rfl (by omega) (by omega) fun vt h3 o3 m3 hle3 hb3=>?_
  obtain ⟨htc,hto⟩:=j7 o3
  refine qH (z:=.slice none 0 0) (by kernel_rfl) rfl (by kernel_rfl) htc hto (fun _=>by simp) (fun _=>by simp) fun h4 hle4 hsz4 hT4=>?_
  refine fg (z:=.slice none 0 0) (by kernel_rfl) ?_
  refine fg (z:=.nilFunc) (by kernel_rfl) ?_
  have hsz3:h2.size<h3.size:=o3.lt hb3
  have hle6:(vw h4).le (vw ((h4.push (.cells (Value.slice none 0 0).cells T.a8)).push (.cells Value.nilFunc.cells T.yX))):=View.le_trans (bN _ _) (bN _ _)
  refine ee (g:=h4.size+1) (o:=0) (n:=1) (e:=T.yX) (cur:=#[.nilFunc]) (v:=.func (.func N.bK) #[] #[.pointer (some ⟨h3.size,0,none⟩),.pointer (some ⟨h1.size,0,none⟩),.pointer (some ⟨h4.size+1,0,none⟩),.pointer (some ⟨h4.size,0,none⟩)]) (by kernel_rfl) (by simp) (by simp) rfl (by simp [Value.cells,Value.oneCell']) (by rw [show h4.size+1=(h4.push (.cells (Value.slice none 0 0).cells T.a8)).size by simp];exact Array.getElem?_push_size) (by simp) fun h7 hsz7 ⟨row,hrow,he⟩ hoth=>?_
  have hrow2:row = #[.func (.func N.bK) #[] #[.pointer (some ⟨h3.size,0,none⟩),.pointer (some ⟨h1.size,0,none⟩),.pointer (some ⟨h4.size+1,0,none⟩),.pointer (some ⟨h4.size,0,none⟩)]]:=by rw [←Array.toList_inj,he];rfl
  rw [hrow2] at hrow
  have hle7:(vw h4).le (vw h7):=fun b o hb=>by
   have hlt:=View.lt (View.le_refl (vw h4)) hb
   show h7[b]? = _
   rw [hoth b (by omega)]
   exact hle6 b o hb
  have hL7:h7[h4.size]? = some (.cells #[.slice none 0 0] T.a8 (0,0)):=by
   rw [hoth _ (by omega),Array.getElem?_push,if_neg (by simp),Array.getElem?_push_size];rfl
  have hle27:=View.le_trans hle3 (View.le_trans hle4 hle7)
  have hle17:=View.le_trans hle2 hle27
  obtain ⟨W,hW⟩ : ∃ W:View,W=fun b=>if b=h2.size∨b=h4.size then none else h7[b]?:=⟨_,rfl⟩
  have hWle:W.le (vw h7):=by
   intro b o hb
   rw [hW] at hb
   simp only at hb
   split at hb
   ·cases hb
   ·exact hb
  have hW1:(vw h1).le W:=fun b o hb=>by
   have hlt:=View.lt (View.le_refl (vw h1)) hb
   rw [hW];simp only
   rw [if_neg (by omega)]
   exact hle17 b o hb
  have k7:Wo W h7 h4.size vt (.slice none 0 0) (List.replicate g.length false,[]):=
   ⟨hWle,hL7,by rw [hW];simp,fun b hb=>by rw [hb3] at hb;cases hb;rw [hW];simp,Av.nil _ _ _,by rw [hb3];intro e;simp only [Option.some.injEq] at e;omega,by simp [Value.ownBlock],.inl rfl,
    (o3.ext hle4).ext hle7,OwnT.nil ..,.inr (by rw [hb3];simp [Value.ownBlock])⟩
  have hT:an W ⟨h3.size,0,none⟩=some vt:=by
   have h5:W h3.size=some (.cells #[vt] T.mj (0,0)):=by rw [hW];simp only;rw [if_neg (by omega)];exact hle7 _ _ hT4
   simp [an,h5]
  have hR:an W ⟨h1.size,0,none⟩=some vr:=by
   have h5:W h1.size=some (.cells #[vr] T.cJ (0,0)):=by rw [hW];simp only;rw [if_neg (by omega)];exact hle27 _ _ hR2
   simp [an,h5]
  have hO:an W ⟨h4.size+1,0,none⟩=some (.func (.func N.bK) #[] #[.pointer (some ⟨h3.size,0,none⟩),.pointer (some ⟨h1.size,0,none⟩),.pointer (some ⟨h4.size+1,0,none⟩),.pointer (some ⟨h4.size,0,none⟩)]):=by
   have h5:W (h4.size+1)=h7[h4.size+1]?:=by rw [hW];simp only;rw [if_neg (by omega)]
   rw [hrow] at h5
   simp [an,h5]
  have hvrW:=hvr.mono hW1
  have hlen:g.length≠0:=by simpa using h0
  have hcl:=gj (g:=g)
  have hfa:cR (List.replicate g.length false)=g.length:=by simp [cR]
  simp [ae hWle hO]
  refine iV (ops:=[.const (.int .i64 0)]) (f:=N.bK) (caps:=#[.pointer (some ⟨h3.size,0,none⟩),.pointer (some ⟨h1.size,0,none⟩),.pointer (some ⟨h4.size+1,0,none⟩),.pointer (some ⟨h4.size,0,none⟩)]) (by simp) (by kernel_rfl)
   (by simpa using xM (by omega) qt g.length (M:=g.length) k7 hvrW hT hR hO (a:=0) (by omega) (by omega) (by simp [hcl]) (by rw [ak (by simp;omega)];simp) (by rw [hfa];exact Nat.le_refl _) (by simp [hfa]) (by omega)) ?_
  rintro _ h8 ⟨⟨vl,k8⟩,hb8⟩
  have hord:a6 g=(iR (nx (cc g)) g.length 0 (List.replicate g.length false,[])).2.reverse:=by simp [a6,jT,h0]
  rw [hord] at hK
  generalize iR (nx (cc g)) g.length 0 (List.replicate g.length false,[])=s at k8 hb8 hK
  simp [k8.cell]
  refine af (by kernel_rfl) (zv k8.ol) ?_
  rintro _ h9 ⟨o9,k9⟩
  have hB9:h9[h4.size]? = some (.cells #[vl] T.a8 (0,0)):=by rw [k9.block _ k8.lt (fun e=>k8.nl e.symm)];exact k8.box
  have hc9:an (vw h9) ⟨h4.size,0,none⟩=some vl:=by simp [an,vw,hB9]
  have hW9:=k9.view k8.wle k8.avl
  have hle9:(vw h).le (vw h9):=View.le_trans (View.le_trans m1.old hW1) hW9
  have hav:Av (vw h) vl:=fun b hb=>by
   cases hx:vw h b with
   | none=>rfl
   | some o=>have:=(View.le_trans m1.old hW1) _ _ hx;rw [k8.avl b hb] at this;cases this
  simp [hc9]
  exact hK _ _ ⟨hle9,o9.fresh (fun _ _ h=>by cases h) hav⟩
end Go.Proofs.YtbkdlhkoiagbbaaGreat
namespace Go.Proofs.YtbkdlhkoiagbbaaGreat
open Go Go.Lft
def gN (f:Nat→List Int) (n:Nat):List (Int × Int):=(List.range n).flatMap fun a=>(f a).map fun b=>((a:Int),b)
theorem fW {f:Nat→List Int} {n:Nat}:gN f (n+1)=gN f n++(f n).map fun b=>((n:Int),b):=by simp [gN,List.range_succ]
theorem B0 {f:Nat→List Int} {n m:Nat} (h:n≤m) : ∃ t,gN f m=gN f n++t:=by
 induction m with
 | zero=>exact ⟨[],by simp [show n=0 by omega]⟩
 | succ m ih=>
  rcases Nat.lt_or_ge n (m+1) with h1 | h1
  ·obtain ⟨t,ht⟩:=ih (by omega)
   exact ⟨t++(f m).map fun b=>((m:Int),b),by rw [fW,ht,List.append_assoc]⟩
  ·exact ⟨[],by simp [show n=m+1 by omega]⟩
theorem Bh {f:Nat→List Int} {n a j:Nat} (ha:a<n) (hj:j<(f a).length):(gN f n)[(gN f a).length+j]? = some ((a:Int),nth (f a) j):=by
 obtain ⟨t,ht⟩:=B0 (f:=f) (n:=a+1) (m:=n) (by omega)
 rw [ht,fW,List.append_assoc,List.getElem?_append_right (by omega),Nat.add_sub_cancel_left,List.getElem?_append_left (by simpa using hj)]
 simp [ak hj,hj]
def eQ (g:Gr):List (Int × Int):=gN (fun a=>nth (cc g) a) g.length
def zh (e:Int × Int):List Value:=[.int .i64 e.1,.int .i64 e.2]
def vX (g:Gr):List (List Value):=(eQ g).map zh
theorem yS {vg:Value} {h:Heap} :
  aD Tryz.prog N.fl #[vg] h (fun v h'=>v = .func (.func N.bL) #[] #[.pointer (some ⟨h.size,0,none⟩)]∧h'=h.push (.cells vg.cells T.cJ)):=by
 refine ao (args:=[vg]) follows F.fl E.fl (Nat.le_of_ble_eq_true (by kernel_rfl)) fun K hK=>?_
 simp [L.fl]
 refine lf rfl ?_
 simp
 exact hK _ _ ⟨rfl,rfl⟩
theorem qX {g:Gr} {vg:Value} {V:View} {p:Addr} (hg:SlRd V vg g) (hp:an V p=some vg) (hs:Sm g):Iter Tryz.prog N.bL [.pointer (some p)] V (vX g):=by
 intro l J W h hM hV hVl h0 hround
 have hW:=(hM true 0).le h0
 refine ao (args:=[.func (.yield l) #[] #[],.pointer (some p)]) follows F.bL E.bL (Nat.le_of_ble_eq_true (by kernel_rfl)) fun K hK=>?_
 simp [L.bL,ae (View.le_trans hV hW) hp]
 refine af (by kernel_rfl) (sO (hg.mono (View.le_trans hV hW)) hs) ?_
 rintro vr h1 ⟨W1,m1⟩
 have hJ1:=(hM true 0).grown h0 (Nat.le_refl _) m1.old
 have hr1:=m1.fresh.mono (eR W h h1)
 have hag : ∀ b,b<h.size→grow W h h1 b=W b:=fun b hb=>nT hb
 generalize grow W h h1=W2 at hJ1 hr1 hag
 have hlen:=hr1.bound
 have hcl:=gj (g:=g)
 obtain ⟨rv,hrv⟩:=hr1.rows
 simp [hr1.len]
 have hall : ∀ {a j:Nat},a<(cc g).length→j<(nth (cc g) a).length→(vX g)[(gN (fun a=>nth (cc g) a) a).length+j]? = some [.int .i64 a,.int .i64 (nth (nth (cc g) a) j)]:=by
  intro a j ha hj
  rw [vX,List.getElem?_map,eQ,Bh (f:=fun a=>nth (cc g) a) (by omega) hj];rfl
 refine aV [0,8,9,10] (fun (_:Unit) k=>[.func (.yield l) #[] #[],vr,.int .i64 (cc g).length,.int .i64 k]) (fun _ k h2=>J true (gN (fun a=>nth (cc g) a) k).length W2 h2) (cc g).length ()
  rfl (by omega) rfl hJ1 (fun _ _=>rfl) (fun v k h1 hk m=>by simp) ?_ ?_
 ·intro _ a h2 hlt hJ2 K2 hK2
  have hW2:=(hM _ _).le hJ2
  obtain ⟨cv,rr⟩:=hrv a hlt
  have br:=rr.bound
  simp (disch:=omega) [hr1.idx1 rfl,cv _ hW2,rr.len]
  refine aV [0,8,9,10,3,15,16,17] (fun (_:Unit) j=>[.func (.yield l) #[] #[],vr,.int .i64 (cc g).length,.int .i64 a,.int .i64 a,rv a,.int .i64 (nth (cc g) a).length,.int .i64 j])
   (fun _ j h3=>J true ((gN (fun a=>nth (cc g) a) a).length+j) W2 h3) (nth (cc g) a).length () rfl (by omega) rfl hJ2 (fun _ _=>rfl) (fun v k h1 hk m=>by simp) ?_ ?_
  ·intro _ j h3 hlt3 hJ3 K3 hK3
   have hW3:=(hM _ _).le hJ3
   simp (disch:=omega) [rr.idx1 rfl,rr.int hW3]
   refine De (ops:=[.tmp 22,.tmp 23]) rfl (by simpa using hround _ _ W2 h3 hag (hall hlt hlt3) hJ3) ?_
   rintro b h4 ⟨W4,e1,e2,hJ4⟩
   cases b with
   | true=>
    obtain rfl:=e2 rfl
    simp [dT]
    exact hK3 () _ _ rfl rfl hJ4
   | false=>
    simp [dT]
    exact hK _ _ ⟨false,_,W4,fun i hi hne=>by rw [e1 i hne,hag i hi],hJ4,fun h=>by cases h⟩
  ·intro _ h3 hJ3
   simp
   refine hK2 () _ _ rfl rfl ?_
   rw [fW,List.length_append,List.length_map];exact hJ3
 ·intro _ h2 hJ2
  simp
  refine hK _ _ ⟨true,_,W2,fun i hi _=>hag i hi,hJ2,fun _=>?_⟩
  rw [vX,List.length_map,eQ,hcl]
end Go.Proofs.YtbkdlhkoiagbbaaGreat
namespace Go.Proofs.YtbkdlhkoiagbbaaGreat
open Go Go.Lft
def eO (p:Gr) (e:Int × Int):Gr:=p.set e.2.toNat (nth p e.2.toNat++[e.1])
def cf (g:Gr):Gr:=(eQ g).foldl eO (List.replicate g.length [])
theorem rQ {β γ:Type} {f:β→γ→β} {l:List γ} {k:Nat} {x:γ} {b:β} (h:l[k]? = some x):(l.take (k+1)).foldl f b=f ((l.take k).foldl f b) x:=by
 rw [List.take_add_one,h,List.foldl_append];rfl
theorem lF {g:Gr} {e:Int × Int} (h:e∈eQ g):(0≤e.1∧e.1<g.length)∧0≤e.2∧e.2<g.length:=by
 simp only [eQ,gN,List.mem_flatMap,List.mem_range,List.mem_map] at h
 obtain ⟨a,ha,b,hb,rfl⟩:=h
 obtain ⟨j,hj,rfl⟩:=List.getElem_of_mem hb
 have:=qt a (by rw [gj];exact ha) j hj
 rw [gj,ak hj] at this
 exact ⟨⟨by omega,by simp only;omega⟩,this⟩
theorem kG {l:List (Int × Int)} {p:Gr}:(l.foldl eO p).length=p.length:=by
 induction l generalizing p with
 | nil=>rfl
 | cons e l ih=>rw [List.foldl_cons,ih];simp [eO]
theorem xR {l:List (Int × Int)} {p:Gr} {i m:Nat} (hp:(nth p i).length≤m):(nth (l.foldl eO p) i).length≤m+l.length:=by
 induction l generalizing p m with
 | nil=>exact hp
 | cons e l ih=>
  rw [List.foldl_cons]
  have:=ih (p:=eO p e) (m:=m+1) ?_
  ·simp only [List.length_cons];omega
  ·unfold eO
   rcases Nat.lt_or_ge i p.length with hi | hi
   ·rw [aJ hi]
    split
    ·rename_i h;rw [h];simp;omega
    ·omega
   ·rw [aU (by simpa using hi)];simp [default]
theorem vc {row:List Int} {n:Int}:(jV row n).length≤row.length:=by
 have h1:=fG (p:=mQ row n) (x:=fun i=>nth row i) row.length
 have h2:(nM (sift (mQ row n) (fun i=>nth row i) row.length)).length=(sift (mQ row n) (fun i=>nth row i) row.length).length:=List.length_mergeSort _
 have h3:=rm (l:=nM (sift (mQ row n) (fun i=>nth row i) row.length))
 rw [jV];omega
theorem uU {f:Nat→List Int} {n m:Nat} (h : ∀ a,a<n→(f a).length≤m):(gN f n).length≤n*m:=by
 induction n with
 | zero=>simp [gN]
 | succ n ih=>
  have:=ih fun a ha=>h a (by omega)
  have:=h n (by omega)
  rw [fW,List.length_append,List.length_map,Nat.succ_mul];omega
theorem oU {g:Gr} (hs:Sm g):(eQ g).length≤1000000000000:=by
 have h1:=uU (f:=fun a=>nth (cc g) a) (n:=g.length) (m:=1000000) fun a ha=>by
  have:=hs.2 a ha
  rw [cc,df ha]
  exact Nat.le_trans vc this
 have h2:g.length*1000000≤1000000*1000000:=Nat.mul_le_mul_right _ hs.1
 rw [eQ];omega
theorem sP {g:Gr} {vg:Value} {h:Heap} (hg:SlRd (vw h) vg g) (hs:Sm g) :
  aD Tryz.prog N.fm #[vg] h (fun v h'=>(vw h).le (vw h')∧SlRd (fresh h h') v (cf g)):=by
 refine rB (args:=[vg]) follows F.fm E.fm (Nat.le_of_ble_eq_true (by kernel_rfl)) fun K hK=>?_
 have hs1:=hs.1
 have hel:=oU hs
 simp [L.fm,hg.len]
 refine Eu (n:=g.length) El.cJ (by simp<;>rfl) (by simp<;>rfl) rfl (by omega) (by omega) ?_
 refine qH (z:=.slice none 0 0) (v:=.slice (some ⟨h.size,0,none⟩) g.length g.length) (by kernel_rfl) rfl (by kernel_rfl) rfl rfl (fun _=>by simp) (fun _=>by simp) fun h2 hle2 hsz2 hB2=>?_
 have hle02:(vw h).le (vw h2):=View.le_trans (bN _ _) hle2
 have hg2:h2[h.size]? = some (.cells (List.replicate g.length (.slice none 0 0)).toArray T.a8 (0,0)):=hle2 _ _ (show (h.push _)[h.size]? = _ by simp)
 simp at hsz2 hB2
 simp
 refine af (by kernel_rfl) yS ?_
 rintro _ _ ⟨rfl,rfl⟩
 have hgc:=hg.cells.1
 rw [hgc]
 have hle3:=bN h2 (.cells #[vg] T.cJ)
 generalize hh3:h2.push (.cells #[vg] T.cJ)=h3 at hle3
 have hsz3:h3.size=h.size+3:=by rw [←hh3];simp [hsz2]
 obtain ⟨W0,hW0⟩ : ∃ W:View,W=fun b=>if b=h.size then none else h3[b]?:=⟨_,rfl⟩
 have hW0le:W0.le (vw h3):=fun b o hb=>by
  rw [hW0] at hb;simp only at hb
  split at hb
  ·cases hb
  ·exact hb
 have h0W:(vw h).le W0:=fun b o hb=>by
  have hlt:=View.lt (View.le_refl (vw h)) hb
  rw [hW0];simp only
  rw [if_neg (by omega)]
  exact View.le_trans hle02 hle3 b o hb
 have hp3:an W0 ⟨h2.size,0,none⟩=some vg:=by
  have e:W0 h2.size=some (.cells #[vg] T.cJ (0,0)):=by rw [hW0];simp only;rw [if_neg (by omega),←hh3];simp
  simp [an,e]
 have hB3:W0 (h.size+1)=some (.cells #[.slice (some ⟨h.size,0,none⟩) g.length g.length] T.cJ (0,0)):=by
  rw [hW0];simp only;rw [if_neg (by omega)]
  exact hle3 _ _ hB2
 refine tY (enc:=zh) (all:=eQ g) (gf:=N.bL) (caps:=[.pointer (some ⟨h2.size,0,none⟩)]) W0 W0 (fun e k W h'=>e=none∧∃ rv,Rw W h' T.a8 T.int h.size rv (((eQ g).take k).foldl eO (List.replicate g.length [])))
  rfl (by kernel_rfl) (qX (hg.mono h0W) hp3 hs) (fun _=>rfl) (View.le_refl _) (fun e k=>⟨fun ⟨_,rv,r⟩=>r.wle,fun ⟨a,rv,r⟩ _ h1 h2 _=>⟨a,rv,r.move h1 h2⟩⟩) ⟨rfl,_,Rw.start hW0le (by rw [hW0];simp) (hle3 _ _ hg2)⟩
  (fun x h1=>by simp [zh,cL];rfl) ?_ ?_ ?_
 ·rintro k e W h1 hag hk ⟨_,rv,r⟩ K2 hK2 _
  have he:=lF (List.mem_of_getElem? hk)
  have hk1:k<(eQ g).length:=(List.getElem?_eq_some_iff.1 hk).1
  have hst:=rQ (f:=eO) (b:=List.replicate g.length []) hk
  have hpl:=kG (l:=(eQ g).take k) (p:=List.replicate g.length [])
  have hrl:=xR (l:=(eQ g).take k) (p:=List.replicate g.length []) (i:=e.2.toNat) (m:=0) (by rw [aq (by omega)];simp)
  rw [List.length_take] at hrl
  rw [List.length_replicate] at hpl
  generalize hp:((eQ g).take k).foldl eO (List.replicate g.length [])=p at r hst hpl hrl
  have hlt:=r.lt
  have hB1:h1[h.size+1]? = some (.cells #[.slice (some ⟨h.size,0,none⟩) g.length g.length] T.cJ (0,0)):=r.wle _ _ (by rw [hag _ (by omega)];exact hB3)
  have hlt1:=(Array.getElem?_eq_some_iff.1 hB1).1
  obtain ⟨H,hH⟩ : ∃ H:View,H=fun b=>if b=h.size∨b=h.size+1 then h1[b]? else none:=⟨_,rfl⟩
  have hHle:H.le (vw h1):=fun b o hb=>by
   rw [hH] at hb;simp only at hb
   split at hb
   ·exact hb
   ·cases hb
  have c1:an H ⟨h.size+1,0,none⟩=some (.slice (some ⟨h.size,0,none⟩) g.length g.length):=bJ (by rw [hH];simp only;rw [if_pos (by simp)];exact hB1) rfl
  have hlen:=r.len
  have c2:an H ⟨h.size,e.2.toNat,none⟩=some (nth rv e.2.toNat):=bJ (by rw [hH];simp only;rw [if_pos (by simp)];exact r.blk) (by rw [ak (by omega)];simp)
  refine cM H hHle ?_
  simp (disch:=omega) [c1,c2,EE]
  refine ku (α:=Int) (W:=nothing) El.a8 (by simp<;>rfl) (mJ (by omega) (by omega)) fun u h4 hsrc hle4 _=>⟨View.le_trans hHle hle4,?_⟩
  have r4:=r.ext hle4
  have hi:e.2.toNat<p.length:=by omega
  refine dR El.a8 (by simp) (by simp) (r4.own _ hi) hsrc (by simp;omega) (by simp;omega) fun v' h5 o5 m5=>?_
  have hg5:h5[h.size]? = some (.cells rv.toArray T.a8 (0,0)):=by rw [m5.kept.block _ r4.lt (fun e=>r4.ng _ hi e.symm)];exact r4.blk
  obtain ⟨hcells,hone⟩:=j7 o5
  have hH5:H.le (vw h5):=by
   intro b o hb
   have hlt4:=View.lt (View.le_trans hHle hle4) hb
   have h4b:=View.le_trans hHle hle4 b o hb
   show h5[b]? = _
   rw [m5.kept.block b hlt4 ?_]
   ·exact h4b
   ·rw [hH] at hb;simp only at hb
    split at hb
    ·rename_i e1
     rcases e1 with rfl | rfl
     ·exact fun e=>r4.ng _ hi e.symm
     ·intro e
      have:=r4.av _ hi _ e.symm
      rw [hag _ (by omega),hB3] at this;cases this
    ·cases hb
  refine ⟨hH5,?_⟩
  refine ee (g:=h.size) (o:=e.2.toNat) (n:=1) (v:=v') (by kernel_rfl) (by simp) (by simp) (by rw [hcells];rfl) (by rw [hcells];simpa using hone) hg5 (by simp;omega) fun h6 hsz6 ⟨row,hrow,hre⟩ hoth=>?_
  refine hK2 _ _ ⟨rfl,rv.set e.2.toNat v',?_⟩
  rw [hst,eO]
  have hrow2:row=(rv.set e.2.toNat v').toArray:=by
   rw [←Array.toList_inj,hre,hcells,List.set_eq_take_append_cons_drop,if_pos (by omega)]
   simp
  rw [hrow2] at hrow
  exact r4.put hi o5 m5 hrow hoth hsz6
 ·rintro W h1 hag ⟨_,rv,r⟩
  rw [List.take_of_length_le (Nat.le_refl _)] at r
  have hB1:h1[h.size+1]? = some (.cells #[.slice (some ⟨h.size,0,none⟩) g.length g.length] T.cJ (0,0)):=r.wle _ _ (by rw [hag _ (by omega)];exact hB3)
  have c1:an (vw h1) ⟨h.size+1,0,none⟩=some (.slice (some ⟨h.size,0,none⟩) g.length g.length):=bJ hB1 rfl
  simp [c1]
  intro h4 hsw
  have hWW:(vw h).le W:=fun b o hb=>by rw [hag b (by have:=View.lt (View.le_refl (vw h)) hb;omega)];exact h0W b o hb
  have hfl:=kG (l:=eQ g) (p:=List.replicate g.length [])
  rw [List.length_replicate] at hfl
  have hfr:=r.fresh hWW (by omega)
  rw [hfl] at hfr
  exact ⟨_,rfl,hK _ _ ⟨hsw.ext (View.le_trans hWW r.wle),hsw.rd hfr⟩⟩
 ·rintro e k W h1 hag ⟨hne,_⟩
  cases hne
end Go.Proofs.YtbkdlhkoiagbbaaGreat
