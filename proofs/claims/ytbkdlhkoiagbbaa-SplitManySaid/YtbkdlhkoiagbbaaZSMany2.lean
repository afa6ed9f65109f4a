/- A part of the proof: Ld, Le, Shelf, Wk, Wl, Wm, Wn, Wo, Wq, Wr, Ws, Wt, Ha, Hb, Hc, Pa, Pb, Pd, Pc, Pe. -/
import Derived.Test.YtbkdlhkoiagbbaaZSMany1
import Derived.Test.YtbkdlhkoiagbbaaProg
import Derived.KernelRfl
import Derived.Shelf.Small.Bits
import Derived.Shelf.Small.Wraps
import Derived.Shelf.Strconv.Itoa0
import Derived.Shelf.Sort.Plain
import Derived.Shelf.Slices.Turned
import Derived.Shelf.Slices.Reverse
import Derived.Ground.Names2Prog
import Derived.Shelf.Slices.CompactI
import Derived.Shelf.Slices.SearchI
import Derived.Shelf.Slices.Cells
import Derived.Shelf.Slices.In.SortNone
set_option linter.unusedSimpArgs false
set_option linter.unusedVariables false
namespace Go.Proofs.Ytbkdlhkoiagbbaa
open Go Go.Lft
set_option maxRecDepth 100000
abbrev N.bj:Nat:=47
def L.bj:LFn:=
⟨[],(.seq (.reg false (.loud [] [] [] none [] false (.call ⟨.builtin .recover,#[],#[]⟩) 20 (some 6) true (.fin [] [] []))) (.block 0 (.seq (.reg false (.loud [] [] [(6,.tmp 6)] none [] false (.binOp .eql 20 (.tmp 6) (.const .nilIface) 20) 4 (some 8) true (.fin [] [] []))) (.cond (.tmp 8) [8] (.reg false (.fin [3] [] [.tmp 6])) (.seq (.reg false (.loud [] [] [(6,.tmp 6)] none [] false (.typeAssert (.tmp 6) 20 96 true) 0 (some 9) true (.fin [10,11] [(10,.un (.ext 1) (.tmp 9)),(11,.un (.ext 0) (.tmp 9))] []))) (.cond (.tmp 10) [10] (.seq (.reg false (.loud [] [] [] none [] false (.alloc 96) 0 (some 4) true (.loud [] [] [(4,.tmp 4),(11,.tmp 11)] none [] false (.store 96 (.tmp 4) (.tmp 11)) 0 none false (.fin [] [] [])))) (.reg true (.loud [12,13,14,15,16,17] [(15,.un .load (.un (.fld 1) (.tmp 4))),(17,.un .load (.un (.fld 2) (.tmp 4)))] [(0,.tmp 0),(13,.un .load (.un (.fld 0) (.tmp 4)))] none [] false (.store 29 (.tmp 0) (.tmp 13)) 0 none false (.loud [] [] [(1,.tmp 1),(15,.tmp 15)] none [] false (.store 3 (.tmp 1) (.tmp 15)) 0 none false (.loud [] [] [(2,.tmp 2),(17,.tmp 17)] none [] true (.store 3 (.tmp 2) (.tmp 17)) 0 none false (.fin [] [] [])))))) (.seq (.reg false (.fin [5] [(5,.tmp 6)] [])) (.reg false (.loud [7] [] [(7,.tmp 5)] none [] false (.panic (.tmp 7)) 0 none false (.fin [] [] []))))))))))⟩
theorem F.bj:Try.prog.funcs[N.bj]? = some Try.f47:=Try.func47
theorem Q.bj:Try.f47.body=some (.seq (.region (Be (qP Try.f47)) #[Bj Try.f47 0] false) (A0 Try.f47)):=by kernel_rfl
theorem E.jO:c9 Try.prog Try.f47.ntmps (gQ Try.f47) (x6 Try.f47) false (A0 Try.f47)=some L.bj.body.tail:=by kernel_rfl
abbrev N.db:Nat:=48
def L.db:LFn:=
⟨[],(.seq (.reg false (.fin [8,9] [(9,.un .not (.tmp 0))] [])) (.cond (.tmp 9) [9] (.reg false (.loud [10,11,12] [] [(10,.tmp 1),(11,.tmp 2),(12,.tmp 3)] none [] false (.build 96 #[(0,.tmp 10),(1,.tmp 11),(2,.tmp 12)]) 96 (some 13) true (.loud [] [] [(13,.tmp 13)] none [] false (.makeInterface 96 (.tmp 13)) 20 (some 14) true (.loud [] [] [(14,.tmp 14)] none [] false (.panic (.tmp 14)) 0 none false (.fin [] [] []))))) .skip))⟩
theorem E.db:aW Try.prog Try.f48=some L.db:=by kernel_rfl
theorem F.db:Try.prog.funcs[N.db]? = some Try.f48:=Try.func48
abbrev N.cR:Nat:=49
def L.cR:LFn:=
⟨[.tmp 6],(.seq (.reg false (.fin [6] [(6,.con (.bool false))] [])) (.seq (.reg false (.fin [7,8,9,10,11,12,13,14,6] [(6,.ite (.bin (.cmp .geq) (.tmp 0) (.tmp 1)) (.bin (.cmp .leq) (.tmp 0) (.tmp 2)) (.con (.bool false)))] [])) .ret))⟩
theorem E.cR:aW Try.prog Try.f49=some L.cR:=by kernel_rfl
theorem F.cR:Try.prog.funcs[N.cR]? = some Try.f49:=Try.func49
abbrev N.au:Nat:=50
def L.au.l2:LC:=
 (.seq (.reg false (.fin [29] [(29,.bin (.cmp .lss) (.tmp 28) (.tmp 27))] [])) (.seq (.cond (.tmp 29) [29] .skip (.exit 2)) (.seq (.block 3 (.seq (.reg false (.loud [30,31,32] [(30,.tmp 28),(32,.un (.ao 2) (.bin (.idx 2) (.tmp 26) (.tmp 28)))] [] none [] false (.alloc 46) 0 (some 5) true (.loud [4] [(4,.tmp 30)] [(5,.tmp 5),(32,.tmp 32)] none [] false (.store 46 (.tmp 5) (.tmp 32)) 0 none false (.fin [] [] [])))) (.reg false (.loud [33,34,35] [(33,.tmp 0)] [(35,.un .load (.un (.fld 0) (.tmp 5)))] none [] false (.buildSlice 22 1 #[(0,.tmp 35)]) 22 (some 36) true (.loud [37,38,39] [] [(33,.tmp 33),(36,.tmp 36),(37,.tmp 2),(39,.bin (.arith .sub) (.con (.int .i64 (-1))) (.tmp 4))] none [] false (.call ⟨.value (.func 69),#[.tmp 33,.tmp 36,.tmp 37,.tmp 39],#[99,22,3,3]⟩) 0 (some 40) false (.fin [] [] [])))))) (.reg false (.fin [41,28] [(28,.bin (.arith .add) (.tmp 28) (.con (.int .i64 1)))] [])))))
def L.au.l3:LC:=
 (.seq (.reg false (.fin [46] [(46,.bin (.cmp .lss) (.tmp 45) (.tmp 44))] [])) (.seq (.cond (.tmp 46) [46] .skip (.exit 4)) (.seq (.block 5 (.seq (.reg false (.loud [47,48,49] [(47,.tmp 45),(49,.un (.ao 5) (.bin (.idx 5) (.tmp 43) (.tmp 45)))] [] none [] false (.alloc 54) 0 (some 7) true (.loud [6] [(6,.tmp 47)] [(7,.tmp 7),(49,.tmp 49)] none [] false (.store 54 (.tmp 7) (.tmp 49)) 0 none false (.fin [] [] [])))) (.seq (.reg false (.loud [50,51] [] [(51,.un .load (.un (.fld 0) (.tmp 7)))] none [] false (.call ⟨.value (.func 49),#[.tmp 51,.const (.int .i64 1),.const (.int .i64 18)],#[3,3,3]⟩) 4 (some 52) true (.loud [53,54] [] [(52,.tmp 52),(53,.tmp 2),(54,.tmp 6)] none [] false (.call ⟨.value (.func 48),#[.tmp 52,.const (.int .i64 10),.tmp 53,.tmp 54],#[4,29,3,3]⟩) 0 (some 55) false (.fin [] [] [])))) (.seq (.reg false (.loud [57,58] [] [(58,.un .load (.un (.fld 0) (.tmp 7)))] none [] false (.call ⟨.value (.func 70),#[.tmp 58],#[3]⟩) 120 (some 59) true (.fin [56,60,61,8,9] [(8,.un (.ext 0) (.tmp 59)),(9,.un (.ext 1) (.tmp 59))] []))) (.seq (.reg false (.loud [62,63,64,65,66] [] [(64,.un .len (.un .load (.un (.fld 3) (.tmp 7)))),(65,.tmp 8),(66,.tmp 9)] none [] false (.call ⟨.value (.func 49),#[.tmp 64,.tmp 65,.tmp 66],#[3,3,3]⟩) 4 (some 67) true (.loud [68,69] [] [(67,.tmp 67),(68,.tmp 2),(69,.tmp 6)] none [] false (.call ⟨.value (.func 48),#[.tmp 67,.const (.int .i64 10),.tmp 68,.tmp 69],#[4,29,3,3]⟩) 0 (some 70) false (.fin [] [] [])))) (.reg false (.loud [71,72] [(71,.tmp 0)] [(72,.un (.ao 5) (.tmp 7))] none [] false (.call ⟨.value (.func 71),#[.tmp 72],#[54]⟩) 22 (some 73) true (.loud [74,75] [] [(71,.tmp 71),(73,.tmp 73),(74,.tmp 2),(75,.tmp 6)] none [] false (.call ⟨.value (.func 69),#[.tmp 71,.tmp 73,.tmp 74,.tmp 75],#[99,22,3,3]⟩) 0 (some 76) false (.fin [] [] []))))))))) (.reg false (.fin [77,45] [(45,.bin (.arith .add) (.tmp 45) (.con (.int .i64 1)))] [])))))
def L.au.l4:LC:=
 (.seq (.reg false (.fin [119] [(119,.bin (.cmp .lss) (.tmp 118) (.tmp 117))] [])) (.seq (.cond (.tmp 119) [119] .skip (.exit 6)) (.seq (.block 7 (.seq (.reg false (.fin [120,121,13] [(13,.un .load (.bin (.idx 1) (.tmp 116) (.tmp 118)))] [])) (.reg true (.loud [122,123,124,125,126,127,128,129,131,132,133,134] [(131,.tmp 2),(134,.un .len (.un .load (.un (.fld 1) (.tmp 3))))] [(122,.tmp 13),(129,(.bin (.arith .sub) (.un .len (.un .load (.un (.fld 1) (.un (.fld 0) (.un .nilPtr (.tmp 0)))))) (.con (.int .i64 1))))] none [] false (.call ⟨.value (.func 49),#[.tmp 122,.const (.int .i64 1),.tmp 129],#[3,3,3]⟩) 4 (some 130) true (.loud [] [] [(130,.tmp 130),(131,.tmp 131),(134,.tmp 134)] none [] true (.call ⟨.value (.func 48),#[.tmp 130,.const (.int .i64 14),.tmp 131,.tmp 134],#[4,29,3,3]⟩) 0 (some 135) false (.fin [] [] [])))))) (.reg false (.fin [136,118] [(118,.bin (.arith .add) (.tmp 118) (.con (.int .i64 1)))] [])))))
def L.au.l1:LC:=
 (.seq (.reg false (.fin [21] [(21,.bin (.cmp .lss) (.tmp 20) (.tmp 19))] [])) (.seq (.cond (.tmp 21) [21] .skip (.exit 0)) (.seq (.block 1 (.seq (.reg false (.loud [22,23,24] [(22,.tmp 20),(24,.un (.ao 6) (.bin (.idx 6) (.tmp 18) (.tmp 20)))] [] none [] false (.alloc 43) 0 (some 3) true (.loud [2] [(2,.tmp 22)] [(3,.tmp 3),(24,.tmp 24)] none [] false (.store 43 (.tmp 3) (.tmp 24)) 0 none false (.fin [] [] [])))) (.seq (.seq (.reg false (.fin [25,26,27,28] [(26,.un .load (.un (.fld 0) (.tmp 3))),(27,.un .len (.un .load (.un (.fld 0) (.tmp 3)))),(28,.con (.int .i64 0))] [])) (.block 2 (.loop L.au.l2))) (.seq (.seq (.reg false (.fin [42,43,44,45] [(43,.un .load (.un (.fld 1) (.tmp 3))),(44,.un .len (.un .load (.un (.fld 1) (.tmp 3)))),(45,.con (.int .i64 0))] [])) (.block 4 (.loop L.au.l3))) (.seq (.reg true (.both (.loud [80,81,82] [(82,.un .load (.un (.fld 0) (.un (.fld 2) (.tmp 3))))] [] none [] false (.call ⟨.value (.func 72),#[],#[]⟩) 125 (some 79) true (.both (.loud [] [] [(79,.tmp 79),(82,.tmp 82)] none [] true (.lookup 125 (.tmp 79) (.tmp 82) true) 124 (some 83) true (.loud [78,84,85] [(84,.un (.ext 0) (.tmp 83)),(85,.un (.ext 1) (.tmp 83))] [] none [] false (.alloc 123) 0 (some 10) true (.loud [] [] [(10,.tmp 10),(84,.tmp 84)] none [] false (.store 123 (.tmp 10) (.tmp 84)) 0 none false (.fin [11] [(11,.tmp 85)] [])))) (.loud [] [] [] none [] false (.alloc 123) 0 (some 10) true (.loud [] [] [(79,.tmp 79),(82,.tmp 82)] none [] true (.lookup 125 (.tmp 79) (.tmp 82) true) 124 (some 83) true (.loud [78,84,85] [(85,.un (.ext 1) (.tmp 83))] [(10,.tmp 10),(84,.un (.ext 0) (.tmp 83))] none [] false (.store 123 (.tmp 10) (.tmp 84)) 0 none false (.fin [11] [(11,.tmp 85)] [])))))) (.loud [80,81,82] [(82,.un .load (.un (.fld 0) (.un (.fld 2) (.tmp 3))))] [] none [] false (.alloc 123) 0 (some 10) true (.loud [] [] [] none [] false (.call ⟨.value (.func 72),#[],#[]⟩) 125 (some 79) true (.loud [] [] [(79,.tmp 79),(82,.tmp 82)] none [] true (.lookup 125 (.tmp 79) (.tmp 82) true) 124 (some 83) true (.loud [78,84,85] [(85,.un (.ext 1) (.tmp 83))] [(10,.tmp 10),(84,.un (.ext 0) (.tmp 83))] none [] false (.store 123 (.tmp 10) (.tmp 84)) 0 none false (.fin [11] [(11,.tmp 85)] []))))))) (.seq (.reg true (.loud [86,87,88,89,90,91,92,93,94,95,109,110,111,112] [(87,.tmp 11),(109,.tmp 2),(112,.un .len (.un .load (.un (.fld 1) (.tmp 3))))] [(91,(.gd (.tmp 11) true (.un .len (.un .load (.un (.fld 1) (.un (.fld 2) (.tmp 3))))))),(93,.gd (.tmp 11) true (.un .load (.un (.fld 0) (.tmp 10)))),(95,.gd (.tmp 11) true (.un .load (.un (.fld 1) (.tmp 10))))] (some ((.tmp 11),true)) [] false (.call ⟨.value (.func 49),#[.tmp 91,.tmp 93,.tmp 95],#[3,3,3]⟩) 4 (some 96) true (.loud [97,98,99,100,101,102,103,104,105,106] [(98,.ite (.tmp 87) (.tmp 96) (.con (.bool false)))] [(102,(.gd (.ite (.tmp 87) (.tmp 96) (.con (.bool false))) true (.un .len (.un .load (.un (.fld 2) (.un (.fld 2) (.tmp 3))))))),(104,.gd (.ite (.tmp 87) (.tmp 96) (.con (.bool false))) true (.un .load (.un (.fld 2) (.tmp 10)))),(106,.gd (.ite (.tmp 87) (.tmp 96) (.con (.bool false))) true (.un .load (.un (.fld 3) (.tmp 10))))] (some ((.ite (.tmp 87) (.tmp 96) (.con (.bool false))),true)) [] false (.call ⟨.value (.func 49),#[.tmp 102,.tmp 104,.tmp 106],#[3,3,3]⟩) 4 (some 107) true (.loud [108] [] [(108,.ite (.tmp 98) (.tmp 107) (.con (.bool false))),(109,.tmp 109),(112,.tmp 112)] none [] true (.call ⟨.value (.func 48),#[.tmp 108,.const (.int .i64 10),.tmp 109,.tmp 112],#[4,29,3,3]⟩) 0 (some 113) false (.fin [] [] []))))) (.seq (.reg false (.fin [114,115,116,117,118] [(116,.un .load (.un (.fld 2) (.un (.fld 2) (.tmp 3)))),(117,(.un .len (.un .load (.un (.fld 2) (.un (.fld 2) (.tmp 3)))))),(118,.con (.int .i64 0))] [])) (.block 6 (.loop L.au.l4))))))))) (.reg false (.fin [137,20] [(20,.bin (.arith .add) (.tmp 20) (.con (.int .i64 1)))] [])))))
def L.au:LFn:=
⟨[],(.seq (.reg false (.fin [14,15,16,17,18,19,20] [(18,(.un .load (.un (.fld 1) (.un (.fld 0) (.un .nilPtr (.tmp 0)))))),(19,(.un .len (.un .load (.un (.fld 1) (.un (.fld 0) (.un .nilPtr (.tmp 0))))))),(20,.con (.int .i64 0))] [])) (.block 0 (.loop L.au.l1)))⟩
theorem E.au:aW Try.prog Try.f50=some L.au:=by kernel_rfl
theorem F.au:Try.prog.funcs[N.au]? = some Try.f50:=Try.func50
abbrev N.al:Nat:=51
def L.al.l1:LC:=
 (.seq (.reg false (.fin [37] [(37,.bin (.cmp .lss) (.tmp 36) (.tmp 35))] [])) (.seq (.cond (.tmp 37) [37] .skip (.exit 0)) (.seq (.block 1 (.seq (.reg false (.fin [38,4] [(4,.tmp 36)] [])) (.reg false (.loud [39,40] [] [(39,.tmp 3),(40,.tmp 4)] none [] false (.call ⟨.value (.func 73),#[.tmp 39,.tmp 40],#[22,3]⟩) 4 (some 41) true (.loud [42] [] [(41,.tmp 41),(42,.tmp 4)] none [] false (.call ⟨.value (.func 48),#[.tmp 41,.const (.int .i64 15),.tmp 42,.const (.int .i64 0)],#[4,29,3,3]⟩) 0 (some 43) false (.fin [] [] [])))))) (.reg false (.fin [44,36] [(36,.bin (.arith .add) (.tmp 36) (.con (.int .i64 1)))] [])))))
def L.al.l4:LC:=
 (.seq (.reg false (.fin [86] [(86,.bin (.cmp .lss) (.tmp 85) (.tmp 84))] [])) (.seq (.cond (.tmp 86) [86] .skip (.exit 6)) (.seq (.block 7 (.seq (.reg false (.loud [87,88,89] [(87,.tmp 85),(89,.un (.ao 2) (.bin (.idx 2) (.tmp 83) (.tmp 85)))] [] none [] false (.alloc 49) 0 (some 14) true (.loud [13] [(13,.tmp 87)] [(14,.tmp 14),(89,.tmp 89)] none [] false (.store 49 (.tmp 14) (.tmp 89)) 0 none false (.fin [] [] [])))) (.reg true (.fin [90,91,92,93,94,95,96,97,98,99,100,101,102,12] [(12,(.ite (.tmp 12) (.bin (.cmp .eql) (.un .load (.un (.fld 0) (.tmp 14))) (.un .load (.bin (.idx 1) (.un .load (.bin (.idx 1) (.tmp 5) (.tmp 8))) (.tmp 13)))) (.con (.bool false))))] [])))) (.reg false (.fin [103,85] [(85,.bin (.arith .add) (.tmp 85) (.con (.int .i64 1)))] [])))))
def L.al.l5:LC:=
 (.seq (.reg false (.fin [113] [(113,.bin (.cmp .lss) (.tmp 112) (.tmp 111))] [])) (.seq (.cond (.tmp 113) [113] .skip (.exit 8)) (.seq (.block 9 (.seq (.reg false (.loud [114,115] [(115,.un (.ao 2) (.bin (.idx 2) (.tmp 110) (.tmp 112)))] [] none [] false (.alloc 49) 0 (some 16) true (.loud [] [] [(16,.tmp 16),(115,.tmp 115)] none [] false (.store 49 (.tmp 16) (.tmp 115)) 0 none false (.fin [] [] [])))) (.reg true (.loud [116,117,118,119,120,121,122,123,124,125,126,127,128,129,130,131,132,133,134] [] [(116,.tmp 7),(118,.un .load (.un (.fld 1) (.tmp 16))),(120,.un .load (.un (.fld 0) (.tmp 16))),(122,.bin (.arith .sub) (.con (.int .i64 (-1))) (.tmp 10)),(133,(.un .len (.un .load (.un (.fld 1) (.bin (.idx 6) (.un .load (.un (.fld 1) (.un (.fld 0) (.un .nilPtr (.un .load (.tmp 1)))))) (.un .load (.un (.fld 0) (.tmp 16)))))))),(134,.tmp 8)] none [] true (.call ⟨.value (.tmp 116),#[.tmp 118,.tmp 120,.tmp 122,.tmp 133,.tmp 134],#[3,3,3,3,3]⟩) 0 (some 135) false (.fin [] [] []))))) (.reg false (.fin [136,112] [(112,.bin (.arith .add) (.tmp 112) (.con (.int .i64 1)))] [])))))
def L.al.l3:LC:=
 (.seq (.reg false (.fin [65] [(65,.bin (.cmp .lss) (.tmp 64) (.tmp 63))] [])) (.seq (.cond (.tmp 65) [65] .skip (.exit 4)) (.seq (.block 5 (.seq (.reg false (.loud [66,67,68] [(66,.tmp 64),(68,.un (.ao 2) (.bin (.idx 2) (.tmp 62) (.tmp 64)))] [] none [] false (.alloc 46) 0 (some 11) true (.loud [10] [(10,.tmp 66)] [(11,.tmp 11),(68,.tmp 68)] none [] false (.store 46 (.tmp 11) (.tmp 68)) 0 none false (.fin [] [] [])))) (.seq (.reg true (.fin [69,70,71,72,73,74,75,76,77,78,79,80,81,12] [(12,(.ite (.bin (.cmp .gtr) (.tmp 8) (.con (.int .i64 0))) (.bin (.cmp .eql) (.un .len (.un .load (.un (.fld 1) (.tmp 11)))) (.un .len (.un .load (.bin (.idx 1) (.tmp 5) (.tmp 8))))) (.con (.bool false))))] [])) (.seq (.seq (.reg false (.fin [82,83,84,85] [(83,.un .load (.un (.fld 1) (.tmp 11))),(84,.un .len (.un .load (.un (.fld 1) (.tmp 11)))),(85,.con (.int .i64 0))] [])) (.block 6 (.loop L.al.l4))) (.seq (.reg false (.loud [104,105,106,107] [] [(104,.tmp 12),(105,.tmp 8),(107,.bin (.arith .sub) (.con (.int .i64 (-1))) (.tmp 10))] none [] false (.call ⟨.value (.func 48),#[.tmp 104,.const (.int .i64 16),.tmp 105,.tmp 107],#[4,29,3,3]⟩) 0 (some 108) false (.fin [] [] []))) (.seq (.reg false (.fin [109,110,111,112] [(110,.un .load (.un (.fld 1) (.tmp 11))),(111,.un .len (.un .load (.un (.fld 1) (.tmp 11)))),(112,.con (.int .i64 0))] [])) (.block 8 (.loop L.al.l5)))))))) (.reg false (.fin [137,64] [(64,.bin (.arith .add) (.tmp 64) (.con (.int .i64 1)))] [])))))
def L.al.l7:LC:=
 (.seq (.reg false (.fin [150] [(150,.bin (.cmp .lss) (.tmp 149) (.tmp 148))] [])) (.seq (.cond (.tmp 150) [150] .skip (.exit 12)) (.seq (.block 13 (.seq (.reg false (.fin [151,152,20] [(20,.un .load (.bin (.idx 1) (.tmp 147) (.tmp 149)))] [])) (.reg false (.loud [153,154,155,156,157,158] [] [(153,.tmp 7),(154,.tmp 20),(155,.tmp 8),(156,.tmp 17),(157,.tmp 17),(158,.tmp 8)] none [] false (.call ⟨.value (.tmp 153),#[.tmp 154,.tmp 155,.tmp 156,.tmp 157,.tmp 158],#[3,3,3,3,3]⟩) 0 (some 159) false (.fin [] [] []))))) (.reg false (.fin [160,149] [(149,.bin (.arith .add) (.tmp 149) (.con (.int .i64 1)))] [])))))
def L.al.l6:LC:=
 (.seq (.reg false (.fin [142] [(142,.bin (.cmp .lss) (.tmp 141) (.tmp 140))] [])) (.seq (.cond (.tmp 142) [142] .skip (.exit 10)) (.seq (.block 11 (.seq (.reg false (.loud [143,144,145] [(143,.tmp 141),(145,.un (.ao 5) (.bin (.idx 5) (.tmp 139) (.tmp 141)))] [] none [] false (.alloc 54) 0 (some 18) true (.loud [17] [(17,.tmp 143)] [(18,.tmp 18),(145,.tmp 145)] none [] false (.store 54 (.tmp 18) (.tmp 145)) 0 none false (.fin [] [] [])))) (.seq (.reg false (.fin [146,147,148,149] [(147,.un .load (.un (.fld 3) (.tmp 18))),(148,.un .len (.un .load (.un (.fld 3) (.tmp 18)))),(149,.con (.int .i64 0))] [])) (.block 12 (.loop L.al.l7))))) (.reg false (.fin [161,141] [(141,.bin (.arith .add) (.tmp 141) (.con (.int .i64 1)))] [])))))
def L.al.l8:LC:=
 (.seq (.reg false (.fin [167] [(167,.bin (.cmp .lss) (.tmp 166) (.tmp 165))] [])) (.seq (.cond (.tmp 167) [167] .skip (.exit 14)) (.seq (.block 15 (.seq (.reg false (.fin [168,169,22] [(22,.un .load (.bin (.idx 1) (.tmp 164) (.tmp 166)))] [])) (.reg false (.loud [170,171,172,173,174,175,176,177,178,179] [] [(170,.tmp 7),(171,.tmp 22),(172,.tmp 8),(175,.un .len (.un .load (.un (.fld 1) (.tmp 9)))),(178,.un .len (.un .load (.un (.fld 1) (.tmp 9)))),(179,.tmp 8)] none [] false (.call ⟨.value (.tmp 170),#[.tmp 171,.tmp 172,.tmp 175,.tmp 178,.tmp 179],#[3,3,3,3,3]⟩) 0 (some 180) false (.fin [] [] []))))) (.reg false (.fin [181,166] [(166,.bin (.arith .add) (.tmp 166) (.con (.int .i64 1)))] [])))))
def L.al.l2:LC:=
 (.seq (.reg false (.fin [57] [(57,.bin (.cmp .lss) (.tmp 56) (.tmp 55))] [])) (.seq (.cond (.tmp 57) [57] .skip (.exit 2)) (.seq (.block 3 (.seq (.reg false (.loud [58,59,60] [(58,.tmp 56),(60,.un (.ao 6) (.bin (.idx 6) (.tmp 54) (.tmp 56)))] [] none [] false (.alloc 43) 0 (some 9) true (.loud [8] [(8,.tmp 58)] [(9,.tmp 9),(60,.tmp 60)] none [] false (.store 43 (.tmp 9) (.tmp 60)) 0 none false (.fin [] [] [])))) (.seq (.seq (.reg false (.fin [61,62,63,64] [(62,.un .load (.un (.fld 0) (.tmp 9))),(63,.un .len (.un .load (.un (.fld 0) (.tmp 9)))),(64,.con (.int .i64 0))] [])) (.block 4 (.loop L.al.l3))) (.seq (.seq (.reg false (.fin [138,139,140,141] [(139,.un .load (.un (.fld 1) (.tmp 9))),(140,.un .len (.un .load (.un (.fld 1) (.tmp 9)))),(141,.con (.int .i64 0))] [])) (.block 10 (.loop L.al.l6))) (.seq (.reg false (.fin [162,163,164,165,166] [(164,.un .load (.un (.fld 1) (.un (.fld 2) (.tmp 9)))),(165,(.un .len (.un .load (.un (.fld 1) (.un (.fld 2) (.tmp 9)))))),(166,.con (.int .i64 0))] [])) (.block 14 (.loop L.al.l8))))))) (.reg false (.fin [182,56] [(56,.bin (.arith .add) (.tmp 56) (.con (.int .i64 1)))] [])))))
def L.al:LFn:=
⟨[],(.seq (.reg false (.loud [] [] [(0,.tmp 0)] none [] false (.box 99 (.tmp 0)) 0 (some 1) true (.fin [] [] []))) (.seq (.reg false (.loud [23,24,25,26] [] [(26,(.un (.ao 2) (.un (.fld 0) (.un .nilPtr (.un .load (.tmp 1))))))] none [] false (.call ⟨.value (.func 12),#[.tmp 26],#[26]⟩) 33 (some 27) true (.fin [2] [(2,.tmp 27)] []))) (.seq (.reg false (.loud [28] [] [(28,.tmp 2)] none [] false (.call ⟨.value (.func 35),#[.tmp 28],#[33]⟩) 22 (some 29) true (.fin [3] [(3,.tmp 29)] []))) (.seq (.seq (.reg false (.fin [30,31,32,33,34,35,36] [(35,(.un .len (.un .load (.un (.fld 1) (.un (.fld 0) (.un .nilPtr (.un .load (.tmp 1)))))))),(36,.con (.int .i64 0))] [])) (.block 0 (.loop L.al.l1))) (.seq (.reg false (.loud [45] [] [(45,.tmp 2)] none [] false (.call ⟨.value (.func 36),#[.tmp 45],#[33]⟩) 33 (some 46) true (.loud [47] [] [(47,.tmp 2)] none [] false (.call ⟨.value (.func 11),#[.tmp 47],#[33]⟩) 22 (some 48) true (.loud [] [] [] none [] false (.alloc 22) 0 (some 6) true (.loud [5] [(5,.tmp 46)] [(6,.tmp 6),(48,.tmp 48)] none [] false (.store 22 (.tmp 6) (.tmp 48)) 0 none false (.fin [] [] [])))))) (.seq (.reg false (.fin [49,7] [(7,(.un (.fn 74) (.snoc (.snoc (.con (.tuple #[])) (.tmp 1)) (.tmp 6))))] [])) (.seq (.reg false (.fin [50,51,52,53,54,55,56] [(54,(.un .load (.un (.fld 1) (.un (.fld 0) (.un .nilPtr (.un .load (.tmp 1))))))),(55,(.un .len (.un .load (.un (.fld 1) (.un (.fld 0) (.un .nilPtr (.un .load (.tmp 1)))))))),(56,.con (.int .i64 0))] [])) (.block 2 (.loop L.al.l2)))))))))⟩
theorem E.al:aW Try.prog Try.f51=some L.al:=by kernel_rfl
theorem F.al:Try.prog.funcs[N.al]? = some Try.f51:=Try.func51
abbrev N.cM:Nat:=52
def L.cM.l1:LC:=
 (.seq (.reg false (.fin [12] [(12,.bin (.cmp .lss) (.tmp 11) (.tmp 10))] [])) (.seq (.cond (.tmp 12) [12] .skip (.exit 0)) (.seq (.block 1 (.seq (.reg false (.fin [13,14,15,4,5] [(4,.tmp 11),(5,.un .load (.bin (.idx 1) (.tmp 9) (.tmp 11)))] [])) (.reg false (.loud [16,17,18,19,20] [(16,.tmp 3),(17,.tmp 4)] [(18,.tmp 5),(20,.un .len (.tmp 0))] none [] false (.call ⟨.value (.func 38),#[.tmp 18,.tmp 20],#[22,3]⟩) 22 (some 21) true (.loud [22] [] [(22,.bin (.idx 1) (.tmp 16) (.tmp 17)),(21,.tmp 21)] none [] false (.store 22 (.tmp 22) (.tmp 21)) 0 none false (.fin [] [] [])))))) (.reg false (.fin [23,11] [(11,.bin (.arith .add) (.tmp 11) (.con (.int .i64 1)))] [])))))
def L.cM:LFn:=
⟨[.tmp 2],(.seq (.reg false (.fin [2] [(2,.con (.slice none 0 0))] [])) (.seq (.reg false (.loud [6,7] [] [(7,.un .len (.tmp 0)),(7,.un .len (.tmp 0))] none [] false (.makeSlice 33 (.tmp 7) (.tmp 7)) 33 (some 8) true (.fin [3] [(3,.tmp 8)] []))) (.seq (.seq (.reg false (.fin [9,10,11] [(9,.tmp 0),(10,.un .len (.tmp 0)),(11,.con (.int .i64 0))] [])) (.block 0 (.loop L.cM.l1))) (.seq (.reg false (.fin [24,2] [(2,.tmp 3)] [])) .ret))))⟩
theorem E.cM:aW Try.prog Try.f52=some L.cM:=by kernel_rfl
theorem F.cM:Try.prog.funcs[N.cM]? = some Try.f52:=Try.func52
abbrev N.du:Nat:=53
def L.du:LFn:=
⟨[.tmp 2],(.seq (.reg false (.loud [] [] [(0,.tmp 0)] none [] false (.box 33 (.tmp 0)) 0 (some 1) true (.fin [2] [(2,.con .nilFunc)] []))) (.seq (.reg false (.fin [3,2] [(2,.un (.fn 75) (.snoc (.con (.tuple #[])) (.tmp 1)))] [])) .ret))⟩
theorem E.du:aW Try.prog Try.f53=some L.du:=by kernel_rfl
theorem F.du:Try.prog.funcs[N.du]? = some Try.f53:=Try.func53
abbrev N.aQ:Nat:=54
def L.aQ.l1:LC:=
 (.seq (.reg false (.fin [11] [(11,.bin (.cmp .lss) (.tmp 10) (.tmp 9))] [])) (.seq (.cond (.tmp 11) [11] .skip (.exit 0)) (.seq (.block 1 (.seq (.reg false (.loud [12,13] [(13,.un (.ao 6) (.bin (.idx 6) (.tmp 8) (.tmp 10)))] [] none [] false (.alloc 43) 0 (some 7) true (.loud [] [] [(7,.tmp 7),(13,.tmp 13)] none [] false (.store 43 (.tmp 7) (.tmp 13)) 0 none false (.fin [] [] [])))) (.reg false (.loud [14,15,16] [(14,.tmp 5)] [(15,.tmp 1),(16,.un (.ao 6) (.tmp 7))] none [] false (.call ⟨.value (.tmp 15),#[.tmp 16],#[43]⟩) 43 (some 17) true (.loud [] [] [(17,.tmp 17)] none [] false (.buildSlice 24 1 #[(0,.tmp 17)]) 24 (some 18) true (.loud [] [] [(14,.tmp 14),(18,.tmp 18)] none [] false (.call ⟨.builtin .append,#[.tmp 14,.tmp 18],#[24,24]⟩) 24 (some 19) true (.fin [5] [(5,.tmp 19)] []))))))) (.reg false (.fin [20,10] [(10,.bin (.arith .add) (.tmp 10) (.con (.int .i64 1)))] [])))))
def L.aQ:LFn:=
⟨[.tmp 4],(.seq (.reg false (.fin [4] [(4,.con (.slice none 0 0))] [])) (.seq (.reg false (.fin [5] [(5,.con (.slice none 0 0))] [])) (.seq (.seq (.reg false (.fin [8,9,10] [(8,.tmp 0),(9,.un .len (.tmp 0)),(10,.con (.int .i64 0))] [])) (.block 0 (.loop L.aQ.l1))) (.seq (.reg false (.fin [21,4] [(4,.tmp 5)] [])) .ret))))⟩
theorem E.aQ:aW Try.prog Try.f54=some L.aQ:=by kernel_rfl
theorem F.aQ:Try.prog.funcs[N.aQ]? = some Try.f54:=Try.func54
abbrev N.cx:Nat:=55
def L.cx:LFn:=
⟨[.un (.ao 6) (.tmp 2)],(.seq (.reg false (.loud [] [] [(0,.tmp 0)] none [] false (.box 43 (.tmp 0)) 0 (some 1) true (.loud [] [] [] none [] false (.alloc 43) 0 (some 2) true (.fin [] [] [])))) (.seq (.reg false (.loud [3,4] [] [(4,.un .load (.un (.fld 0) (.tmp 1)))] none [] false (.call ⟨.value (.func 56),#[.tmp 4,.func 57],#[38,109]⟩) 38 (some 5) true (.loud [6] [] [(6,.un (.fld 0) (.tmp 1)),(5,.tmp 5)] none [] false (.store 38 (.tmp 6) (.tmp 5)) 0 none false (.fin [] [] [])))) (.seq (.reg false (.loud [7,8] [] [(8,.un .load (.un (.fld 1) (.tmp 1)))] none [] false (.call ⟨.value (.func 59),#[.tmp 8,.func 60],#[39,111]⟩) 39 (some 9) true (.loud [10] [] [(10,.un (.fld 1) (.tmp 1)),(9,.tmp 9)] none [] false (.store 39 (.tmp 10) (.tmp 9)) 0 none false (.fin [] [] [])))) (.seq (.reg true (.loud [11,12,13,15,16,17] [(17,.un .load (.un (.fld 2) (.un (.fld 2) (.tmp 1))))] [(13,.un .load (.un (.fld 1) (.un (.fld 2) (.tmp 1))))] none [] false (.call ⟨.value (.func 61),#[.tmp 13],#[22]⟩) 22 (some 14) true (.loud [19,20] [(20,.un (.fld 1) (.un (.fld 2) (.tmp 1)))] [(17,.tmp 17)] none [] true (.call ⟨.value (.func 61),#[.tmp 17],#[22]⟩) 22 (some 18) true (.loud [] [] [(20,.tmp 20),(14,.tmp 14)] none [] false (.store 22 (.tmp 20) (.tmp 14)) 0 none false (.loud [21,22] [] [(22,.un (.fld 2) (.un (.fld 2) (.tmp 1))),(18,.tmp 18)] none [] false (.store 22 (.tmp 22) (.tmp 18)) 0 none false (.fin [] [] [])))))) (.seq (.reg false (.loud [23] [] [(2,.tmp 2),(23,.un (.ao 6) (.tmp 1))] none [] false (.store 43 (.tmp 2) (.tmp 23)) 0 none false (.fin [] [] []))) .ret)))))⟩
theorem E.cx:aW Try.prog Try.f55=some L.cx:=by kernel_rfl
theorem F.cx:Try.prog.funcs[N.cx]? = some Try.f55:=Try.func55
abbrev N.bw:Nat:=56
def L.bw.l1:LC:=
 (.seq (.reg false (.fin [11] [(11,.bin (.cmp .lss) (.tmp 10) (.tmp 9))] [])) (.seq (.cond (.tmp 11) [11] .skip (.exit 0)) (.seq (.block 1 (.seq (.reg false (.loud [12,13] [(13,.un (.ao 2) (.bin (.idx 2) (.tmp 8) (.tmp 10)))] [] none [] false (.alloc 46) 0 (some 7) true (.loud [] [] [(7,.tmp 7),(13,.tmp 13)] none [] false (.store 46 (.tmp 7) (.tmp 13)) 0 none false (.fin [] [] [])))) (.reg false (.loud [14,15,16] [(14,.tmp 5)] [(15,.tmp 1),(16,.un (.ao 2) (.tmp 7))] none [] false (.call ⟨.value (.tmp 15),#[.tmp 16],#[46]⟩) 46 (some 17) true (.loud [] [] [(17,.tmp 17)] none [] false (.buildSlice 38 1 #[(0,.tmp 17)]) 38 (some 18) true (.loud [] [] [(14,.tmp 14),(18,.tmp 18)] none [] false (.call ⟨.builtin .append,#[.tmp 14,.tmp 18],#[38,38]⟩) 38 (some 19) true (.fin [5] [(5,.tmp 19)] []))))))) (.reg false (.fin [20,10] [(10,.bin (.arith .add) (.tmp 10) (.con (.int .i64 1)))] [])))))
def L.bw:LFn:=
⟨[.tmp 4],(.seq (.reg false (.fin [4] [(4,.con (.slice none 0 0))] [])) (.seq (.reg false (.fin [5] [(5,.con (.slice none 0 0))] [])) (.seq (.seq (.reg false (.fin [8,9,10] [(8,.tmp 0),(9,.un .len (.tmp 0)),(10,.con (.int .i64 0))] [])) (.block 0 (.loop L.bw.l1))) (.seq (.reg false (.fin [21,4] [(4,.tmp 5)] [])) .ret))))⟩
theorem E.bw:aW Try.prog Try.f56=some L.bw:=by kernel_rfl
theorem F.bw:Try.prog.funcs[N.bw]? = some Try.f56:=Try.func56
abbrev N.bN:Nat:=57
def L.bN:LFn:=
⟨[.un (.ao 2) (.tmp 2)],(.seq (.reg false (.loud [] [] [(0,.tmp 0)] none [] false (.box 46 (.tmp 0)) 0 (some 1) true (.loud [] [] [] none [] false (.alloc 46) 0 (some 2) true (.fin [] [] [])))) (.seq (.reg false (.loud [3,4] [] [(4,.un .load (.un (.fld 1) (.tmp 1)))] none [] false (.call ⟨.value (.func 58),#[.tmp 4],#[44]⟩) 44 (some 5) true (.loud [6] [] [(6,.un (.fld 1) (.tmp 1)),(5,.tmp 5)] none [] false (.store 44 (.tmp 6) (.tmp 5)) 0 none false (.fin [] [] [])))) (.seq (.reg false (.loud [7] [] [(2,.tmp 2),(7,.un (.ao 2) (.tmp 1))] none [] false (.store 46 (.tmp 2) (.tmp 7)) 0 none false (.fin [] [] []))) .ret)))⟩
theorem E.bN:aW Try.prog Try.f57=some L.bN:=by kernel_rfl
theorem F.bN:Try.prog.funcs[N.bN]? = some Try.f57:=Try.func57
abbrev N.bX:Nat:=58
def L.bX:LFn:=
⟨[.tmp 2],(.seq (.reg false (.fin [2] [(2,.con (.slice none 0 0))] [])) (.seq (.seq (.reg false (.loud [3] [] [(3,.tmp 0)] none [] false (.binOp .eql 44 (.tmp 3) (.const (.slice none 0 0)) 44) 4 (some 4) true (.fin [] [] []))) (.cond (.tmp 4) [4] (.seq (.reg false (.fin [2] [(2,.con (.slice none 0 0))] [])) .ret) .skip)) (.seq (.reg false (.loud [] [] [] none [] false (.buildSlice 44 0 #[]) 44 (some 5) true (.loud [6] [] [(5,.tmp 5),(6,.tmp 0)] none [] false (.call ⟨.builtin .append,#[.tmp 5,.tmp 6],#[44,44]⟩) 44 (some 7) true (.fin [2] [(2,.tmp 7)] [])))) .ret)))⟩
theorem E.bX:aW Try.prog Try.f58=some L.bX:=by kernel_rfl
theorem F.bX:Try.prog.funcs[N.bX]? = some Try.f58:=Try.func58
abbrev N.bu:Nat:=59
def L.bu.l1:LC:=
 (.seq (.reg false (.fin [11] [(11,.bin (.cmp .lss) (.tmp 10) (.tmp 9))] [])) (.seq (.cond (.tmp 11) [11] .skip (.exit 0)) (.seq (.block 1 (.seq (.reg false (.loud [12,13] [(13,.un (.ao 5) (.bin (.idx 5) (.tmp 8) (.tmp 10)))] [] none [] false (.alloc 54) 0 (some 7) true (.loud [] [] [(7,.tmp 7),(13,.tmp 13)] none [] false (.store 54 (.tmp 7) (.tmp 13)) 0 none false (.fin [] [] [])))) (.reg false (.loud [14,15,16] [(14,.tmp 5)] [(15,.tmp 1),(16,.un (.ao 5) (.tmp 7))] none [] false (.call ⟨.value (.tmp 15),#[.tmp 16],#[54]⟩) 54 (some 17) true (.loud [] [] [(17,.tmp 17)] none [] false (.buildSlice 39 1 #[(0,.tmp 17)]) 39 (some 18) true (.loud [] [] [(14,.tmp 14),(18,.tmp 18)] none [] false (.call ⟨.builtin .append,#[.tmp 14,.tmp 18],#[39,39]⟩) 39 (some 19) true (.fin [5] [(5,.tmp 19)] []))))))) (.reg false (.fin [20,10] [(10,.bin (.arith .add) (.tmp 10) (.con (.int .i64 1)))] [])))))
def L.bu:LFn:=
⟨[.tmp 4],(.seq (.reg false (.fin [4] [(4,.con (.slice none 0 0))] [])) (.seq (.reg false (.fin [5] [(5,.con (.slice none 0 0))] [])) (.seq (.seq (.reg false (.fin [8,9,10] [(8,.tmp 0),(9,.un .len (.tmp 0)),(10,.con (.int .i64 0))] [])) (.block 0 (.loop L.bu.l1))) (.seq (.reg false (.fin [21,4] [(4,.tmp 5)] [])) .ret))))⟩
theorem E.bu:aW Try.prog Try.f59=some L.bu:=by kernel_rfl
theorem F.bu:Try.prog.funcs[N.bu]? = some Try.f59:=Try.func59
abbrev N.bP:Nat:=60
def L.bP:LFn:=
⟨[.un (.ao 5) (.tmp 2)],(.seq (.reg false (.loud [] [] [(0,.tmp 0)] none [] false (.box 54 (.tmp 0)) 0 (some 1) true (.loud [] [] [] none [] false (.alloc 54) 0 (some 2) true (.fin [] [] [])))) (.seq (.reg false (.loud [3,4] [] [(4,.un .load (.un (.fld 3) (.tmp 1)))] none [] false (.call ⟨.value (.func 61),#[.tmp 4],#[22]⟩) 22 (some 5) true (.loud [6] [] [(6,.un (.fld 3) (.tmp 1)),(5,.tmp 5)] none [] false (.store 22 (.tmp 6) (.tmp 5)) 0 none false (.fin [] [] [])))) (.seq (.reg false (.loud [7] [] [(2,.tmp 2),(7,.un (.ao 5) (.tmp 1))] none [] false (.store 54 (.tmp 2) (.tmp 7)) 0 none false (.fin [] [] []))) .ret)))⟩
theorem E.bP:aW Try.prog Try.f60=some L.bP:=by kernel_rfl
theorem F.bP:Try.prog.funcs[N.bP]? = some Try.f60:=Try.func60
abbrev N.bS:Nat:=61
def L.bS:LFn:=
⟨[.tmp 2],(.seq (.reg false (.fin [2] [(2,.con (.slice none 0 0))] [])) (.seq (.seq (.reg false (.loud [3] [] [(3,.tmp 0)] none [] false (.binOp .eql 22 (.tmp 3) (.const (.slice none 0 0)) 22) 4 (some 4) true (.fin [] [] []))) (.cond (.tmp 4) [4] (.seq (.reg false (.fin [2] [(2,.con (.slice none 0 0))] [])) .ret) .skip)) (.seq (.reg false (.loud [] [] [] none [] false (.buildSlice 22 0 #[]) 22 (some 5) true (.loud [6] [] [(5,.tmp 5),(6,.tmp 0)] none [] false (.call ⟨.builtin .append,#[.tmp 5,.tmp 6],#[22,22]⟩) 22 (some 7) true (.fin [2] [(2,.tmp 7)] [])))) .ret)))⟩
theorem E.bS:aW Try.prog Try.f61=some L.bS:=by kernel_rfl
theorem F.bS:Try.prog.funcs[N.bS]? = some Try.f61:=Try.func61
abbrev N.ax:Nat:=62
def L.ax.l1:LC:=
 (.block 1 (.seq (.reg false (.fin [21,22,23,12] [(12,.bin (.arith .sub) (.tmp 2) (.tmp 1))] [])) (.seq (.seq (.reg false (.fin [24,25] [(25,.bin (.cmp .leq) (.tmp 12) (.con (.int .i64 12)))] [])) (.cond (.tmp 25) [25] (.seq (.reg false (.loud [26,27,28,29] [] [(26,.tmp 0),(27,.tmp 1),(28,.tmp 2),(29,.tmp 4)] none [] false (.call ⟨.value (.func 76),#[.tmp 26,.tmp 27,.tmp 28,.tmp 29],#[44,3,3,81]⟩) 0 (some 30) false (.fin [] [] []))) .ret) .skip)) (.seq (.seq (.reg false (.fin [31,32] [(32,.bin (.cmp .eql) (.tmp 3) (.con (.int .i64 0)))] [])) (.cond (.tmp 32) [32] (.seq (.reg false (.loud [33,34,35,36] [] [(33,.tmp 0),(34,.tmp 1),(35,.tmp 2),(36,.tmp 4)] none [] false (.call ⟨.value (.func 77),#[.tmp 33,.tmp 34,.tmp 35,.tmp 36],#[44,3,3,81]⟩) 0 (some 37) false (.fin [] [] []))) .ret) .skip)) (.seq (.seq (.reg false (.fin [38,39] [(39,.un .not (.tmp 10))] [])) (.cond (.tmp 39) [39] (.seq (.reg false (.loud [40,41,42,43] [] [(40,.tmp 0),(41,.tmp 1),(42,.tmp 2),(43,.tmp 4)] none [] false (.call ⟨.value (.func 78),#[.tmp 40,.tmp 41,.tmp 42,.tmp 43],#[44,3,3,81]⟩) 0 (some 44) false (.fin [] [] []))) (.reg false (.fin [45,46,3] [(3,.bin (.arith .sub) (.tmp 3) (.con (.int .i64 1)))] []))) .skip)) (.seq (.reg false (.loud [48,49,50,51] [] [(48,.tmp 0),(49,.tmp 1),(50,.tmp 2),(51,.tmp 4)] none [] false (.call ⟨.value (.func 79),#[.tmp 48,.tmp 49,.tmp 50,.tmp 51],#[44,3,3,81]⟩) 135 (some 52) true (.fin [47,53,54,13,14] [(13,.un (.ext 0) (.tmp 52)),(14,.un (.ext 1) (.tmp 52))] []))) (.seq (.seq (.reg false (.fin [55,56] [(56,.bin (.cmp .eql) (.tmp 14) (.con (.int .i64 2)))] [])) (.cond (.tmp 56) [56] (.seq (.reg false (.loud [57,58,59,60] [] [(57,.tmp 0),(58,.tmp 1),(59,.tmp 2),(60,.tmp 4)] none [] false (.call ⟨.value (.func 80),#[.tmp 57,.tmp 58,.tmp 59,.tmp 60],#[44,3,3,81]⟩) 0 (some 61) false (.fin [] [] []))) (.seq (.reg false (.fin [62,63,64,65,66,67,13] [(13,.bin (.arith .sub) (.bin (.arith .sub) (.tmp 2) (.con (.int .i64 1))) (.bin (.arith .sub) (.tmp 13) (.tmp 1)))] [])) (.reg false (.fin [14] [(14,.con (.int .i64 1))] [])))) .skip)) (.seq (.seq (.reg false (.fin [68,69,70,71,72,73,74,75] [(75,.ite (.ite (.tmp 10) (.tmp 11) (.con (.bool false))) (.bin (.cmp .eql) (.tmp 14) (.con (.int .i64 1))) (.con (.bool false)))] [])) (.cond (.tmp 75) [75] (.seq (.reg false (.loud [76,77,78,79] [] [(76,.tmp 0),(77,.tmp 1),(78,.tmp 2),(79,.tmp 4)] none [] false (.call ⟨.value (.func 81),#[.tmp 76,.tmp 77,.tmp 78,.tmp 79],#[44,3,3,81]⟩) 4 (some 80) true (.fin [] [] []))) (.cond (.tmp 80) [80] .ret .skip)) .skip)) (.seq (.seq (.reg true (.loud [81,82,83,84,85,86,87,88,89,90,91,92,93] [(83,.bin (.cmp .gtr) (.tmp 1) (.con (.int .i64 0)))] [(84,.gd (.bin (.cmp .gtr) (.tmp 1) (.con (.int .i64 0))) true (.tmp 4)),(89,(.gd (.bin (.cmp .gtr) (.tmp 1) (.con (.int .i64 0))) true (.un (.ao 2) (.bin (.idx 2) (.tmp 0) (.bin (.arith .sub) (.tmp 1) (.con (.int .i64 1))))))),(93,.gd (.bin (.cmp .gtr) (.tmp 1) (.con (.int .i64 0))) true (.un (.ao 2) (.bin (.idx 2) (.tmp 0) (.tmp 13))))] (some ((.bin (.cmp .gtr) (.tmp 1) (.con (.int .i64 0))),true)) [] false (.call ⟨.value (.tmp 84),#[.tmp 89,.tmp 93],#[49,49]⟩) 3 (some 94) true (.fin [95,96,97] [(97,(.ite (.tmp 83) (.un .not (.bin (.cmp .lss) (.tmp 94) (.con (.int .i64 0)))) (.con (.bool false))))] []))) (.cond (.tmp 97) [97] (.seq (.reg false (.loud [98,99,100,101,102] [] [(98,.tmp 0),(99,.tmp 1),(100,.tmp 2),(101,.tmp 13),(102,.tmp 4)] none [] false (.call ⟨.value (.func 82),#[.tmp 98,.tmp 99,.tmp 100,.tmp 101,.tmp 102],#[44,3,3,3,81]⟩) 3 (some 103) true (.fin [15] [(15,.tmp 103)] []))) (.seq (.reg false (.fin [104,1] [(1,.tmp 15)] [])) (.exit 1))) .skip)) (.seq (.reg false (.loud [106,107,108,109,110] [] [(106,.tmp 0),(107,.tmp 1),(108,.tmp 2),(109,.tmp 13),(110,.tmp 4)] none [] false (.call ⟨.value (.func 83),#[.tmp 106,.tmp 107,.tmp 108,.tmp 109,.tmp 110],#[44,3,3,3,81]⟩) 79 (some 111) true (.fin [105,112,113,16,17] [(16,.un (.ext 0) (.tmp 111)),(17,.un (.ext 1) (.tmp 111))] []))) (.seq (.reg false (.fin [114,11] [(11,.tmp 17)] [])) (.seq (.reg false (.fin [115,116,117,118,119,120,18,19] [(18,.bin (.arith .sub) (.tmp 16) (.tmp 1)),(19,.bin (.arith .sub) (.tmp 2) (.tmp 16))] [])) (.seq (.reg false (.fin [121,122,20] [(20,.bin (.div .quo) (.tmp 12) (.con (.int .i64 8)))] [])) (.seq (.reg false (.fin [123,124,125] [(125,.bin (.cmp .lss) (.tmp 18) (.tmp 19))] [])) (.cond (.tmp 125) [125] (.seq (.reg false (.fin [126,127,128,10] [(10,.bin (.cmp .geq) (.tmp 18) (.tmp 20))] [])) (.seq (.reg false (.loud [129,130,131,132,133] [] [(129,.tmp 0),(130,.tmp 1),(131,.tmp 16),(132,.tmp 3),(133,.tmp 4)] none [] false (.call ⟨.value (.func 62),#[.tmp 129,.tmp 130,.tmp 131,.tmp 132,.tmp 133],#[44,3,3,3,81]⟩) 0 (some 134) false (.fin [] [] []))) (.reg false (.fin [135,136,1] [(1,.bin (.arith .add) (.tmp 16) (.con (.int .i64 1)))] [])))) (.seq (.reg false (.fin [137,138,139,10] [(10,.bin (.cmp .geq) (.tmp 19) (.tmp 20))] [])) (.seq (.reg false (.loud [140,141,142,143,144,145] [] [(140,.tmp 0),(142,.bin (.arith .add) (.tmp 16) (.con (.int .i64 1))),(143,.tmp 2),(144,.tmp 3),(145,.tmp 4)] none [] false (.call ⟨.value (.func 62),#[.tmp 140,.tmp 142,.tmp 143,.tmp 144,.tmp 145],#[44,3,3,3,81]⟩) 0 (some 146) false (.fin [] [] []))) (.reg false (.fin [147,2] [(2,.tmp 16)] [])))))))))))))))))))
def L.ax:LFn:=
⟨[],(.seq (.reg false (.fin [10] [(10,.con (.bool true))] [])) (.seq (.reg false (.fin [11] [(11,.con (.bool true))] [])) (.block 0 (.loop L.ax.l1))))⟩
theorem E.ax:aW Try.prog Try.f62=some L.ax:=by kernel_rfl
theorem F.ax:Try.prog.funcs[N.ax]? = some Try.f62:=Try.func62
abbrev N.pO:Nat:=63
abbrev N.aT:Nat:=64
def L.aT.l1:LC:=
 (.seq (.reg false (.fin [17] [(17,.bin (.cmp .lss) (.tmp 16) (.tmp 15))] [])) (.seq (.cond (.tmp 17) [17] .skip (.exit 0)) (.seq (.block 1 (.seq (.reg false (.fin [18,19,7] [(7,.un .load (.bin (.idx 1) (.tmp 14) (.tmp 16)))] [])) (.seq (.reg false (.fin [20,21,22,23,24] [(24,(.un .not (.un .load (.bin (.idx 1) (.un .load (.tmp 1)) (.tmp 7)))))] [])) (.cond (.tmp 24) [24] (.reg false (.loud [25,26] [] [(25,.un .load (.tmp 3)),(26,.tmp 7)] none [] false (.call ⟨.value (.tmp 25),#[.tmp 26],#[3]⟩) 0 (some 27) false (.fin [] [] []))) .skip)))) (.reg false (.fin [28,16] [(16,.bin (.arith .add) (.tmp 16) (.con (.int .i64 1)))] [])))))
def L.aT:LFn:=
⟨[],(.seq (.reg false (.loud [8,9,10] [] [(10,.bin (.idx 1) (.un .load (.tmp 1)) (.tmp 0))] none [] false (.store 4 (.tmp 10) (.const (.bool true))) 0 none false (.fin [] [] []))) (.seq (.seq (.reg false (.fin [11,12,13,14,15,16] [(14,.un .load (.bin (.idx 1) (.un .load (.tmp 2)) (.tmp 0))),(15,(.un .len (.un .load (.bin (.idx 1) (.un .load (.tmp 2)) (.tmp 0))))),(16,.con (.int .i64 0))] [])) (.block 0 (.loop L.aT.l1))) (.reg false (.loud [29,30] [(29,.un .load (.tmp 4))] [(30,.tmp 0)] none [] false (.buildSlice 22 1 #[(0,.tmp 30)]) 22 (some 31) true (.loud [] [] [(29,.tmp 29),(31,.tmp 31)] none [] false (.call ⟨.builtin .append,#[.tmp 29,.tmp 31],#[22,22]⟩) 22 (some 32) true (.loud [] [] [(4,.tmp 4),(32,.tmp 32)] none [] false (.store 22 (.tmp 4) (.tmp 32)) 0 none false (.fin [] [] [])))))))⟩
theorem E.aT:aW Try.prog Try.f64=some L.aT:=by kernel_rfl
theorem F.aT:Try.prog.funcs[N.aT]? = some Try.f64:=Try.func64
abbrev N.bL:Nat:=68
def L.bL:LFn:=
⟨[.tmp 2,.tmp 3],(.seq (.reg false (.fin [2,3] [(2,.con (.int .i64 0)),(3,.con (.bool false))] [])) (.seq (.seq (.reg false (.fin [5,6,7,8,9,10] [(10,(.bin (.cmp .eql) (.un .len (.un .load (.un (.fld 5) (.un .nilPtr (.tmp 0))))) (.con (.int .i64 0))))] [])) (.cond (.tmp 10) [10] (.seq (.reg false (.fin [2,3] [(2,.con (.int .i64 0)),(3,.con (.bool false))] [])) .ret) .skip)) (.seq (.reg false (.loud [11,12,13,14,15,16] [] [(11,.tmp 0),(16,(.un .len (.un .load (.un (.fld 5) (.un .nilPtr (.tmp 0))))))] none [] false (.call ⟨.value (.func 19),#[.tmp 11,.tmp 16],#[56,3]⟩) 3 (some 17) true (.fin [4] [(4,.tmp 17)] []))) (.seq (.seq (.reg false (.loud [18] [] [(18,.tmp 0)] none [] false (.call ⟨.value (.func 19),#[.tmp 18,.const (.int .i64 3)],#[56,3]⟩) 3 (some 19) true (.fin [20] [(20,.bin (.cmp .eql) (.tmp 19) (.con (.int .i64 0)))] []))) (.cond (.tmp 20) [20] (.reg false (.fin [21,22,23,24,25,26,4] [(4,(.bin (.arith .sub) (.un .len (.un .load (.un (.fld 5) (.un .nilPtr (.tmp 0))))) (.con (.int .i64 1))))] [])) .skip)) (.seq (.reg false (.fin [27,28,29,30,31,32,33,2,3] [(2,(.un .load (.bin (.idx 1) (.un .load (.un (.fld 5) (.un .nilPtr (.tmp 0)))) (.tmp 4)))),(3,.con (.bool true))] [])) .ret)))))⟩
theorem E.bL:aW Try.prog Try.f68=some L.bL:=by kernel_rfl
theorem F.bL:Try.prog.funcs[N.bL]? = some Try.f68:=Try.func68
abbrev N.aO:Nat:=69
def L.aO.l1:LC:=
 (.seq (.reg false (.fin [15] [(15,.bin (.cmp .lss) (.tmp 14) (.tmp 13))] [])) (.seq (.cond (.tmp 15) [15] .skip (.exit 0)) (.seq (.block 1 (.seq (.reg false (.fin [16,17,9] [(9,.un .load (.bin (.idx 1) (.tmp 12) (.tmp 14)))] [])) (.reg false (.loud [18,19,20,21] [] [(18,.tmp 0),(19,.tmp 9),(20,.tmp 2),(21,.tmp 3)] none [] false (.call ⟨.value (.func 87),#[.tmp 18,.tmp 19,.tmp 20,.tmp 21],#[99,3,3,3]⟩) 0 (some 22) false (.fin [] [] []))))) (.reg false (.fin [23,14] [(14,.bin (.arith .add) (.tmp 14) (.con (.int .i64 1)))] [])))))
def L.aO.l2:LC:=
 (.seq (.reg false (.fin [27] [(27,.bin (.cmp .lss) (.tmp 26) (.tmp 25))] [])) (.seq (.cond (.tmp 27) [27] .skip (.exit 2)) (.seq (.block 3 (.seq (.reg false (.fin [28,29,11] [(11,.un .load (.bin (.idx 1) (.tmp 24) (.tmp 26)))] [])) (.reg false (.loud [30,31,32,33] [] [(30,.tmp 0),(31,.tmp 11),(32,.tmp 2),(33,.tmp 3)] none [] false (.call ⟨.value (.func 88),#[.tmp 30,.tmp 31,.tmp 32,.tmp 33],#[99,3,3,3]⟩) 0 (some 34) false (.fin [] [] []))))) (.reg false (.fin [35,26] [(26,.bin (.arith .add) (.tmp 26) (.con (.int .i64 1)))] [])))))
def L.aO:LFn:=
⟨[],(.seq (.seq (.reg false (.fin [12,13,14] [(12,.tmp 1),(13,.un .len (.tmp 1)),(14,.con (.int .i64 0))] [])) (.block 0 (.loop L.aO.l1))) (.seq (.reg false (.fin [24,25,26] [(24,.tmp 1),(25,.un .len (.tmp 1)),(26,.con (.int .i64 0))] [])) (.block 2 (.loop L.aO.l2))))⟩
theorem E.aO:aW Try.prog Try.f69=some L.aO:=by kernel_rfl
theorem F.aO:Try.prog.funcs[N.aO]? = some Try.f69:=Try.func69
end Go.Proofs.Ytbkdlhkoiagbbaa
namespace Go.Proofs.Ytbkdlhkoiagbbaa
open Go Go.Lft
set_option maxRecDepth 100000
abbrev N.cu:Nat:=70
def L.cu:LFn:=
⟨[.tmp 2,.tmp 3],(.seq (.reg false (.fin [2,3] [(2,.con (.int .i64 0)),(3,.con (.int .i64 0))] [])) (.seq (.seq (.reg false (.fin [4] [(4,.tmp 0)] [])) (.block 0 (.seq (.reg false (.fin [6,5] [(5,.bin (.cmp .eql) (.tmp 4) (.con (.int .i64 1)))] [])) (.cond (.tmp 5) [5] (.seq (.reg false (.fin [2,3] [(2,.con (.int .i64 0)),(3,.con (.int .i64 0))] [])) .ret) (.seq (.reg false (.fin [8,7] [(7,.bin (.cmp .eql) (.tmp 4) (.con (.int .i64 15)))] [])) (.cond (.tmp 7) [7] (.seq (.reg false (.fin [2,3] [(2,.con (.int .i64 1)),(3,.con (.int .i64 1))] [])) .ret) (.seq (.reg false (.fin [10,9] [(9,.bin (.cmp .eql) (.tmp 4) (.con (.int .i64 17)))] [])) (.cond (.tmp 9) [9] (.seq (.reg false (.fin [2,3] [(2,.con (.int .i64 0)),(3,.con (.int .i64 4))] [])) .ret) .skip)))))))) (.seq (.reg false (.fin [2,3] [(2,.con (.int .i64 2)),(3,.con (.int .i64 2))] [])) .ret)))⟩
theorem E.cu:aW Try.prog Try.f70=some L.cu:=by kernel_rfl
theorem F.cu:Try.prog.funcs[N.cu]? = some Try.f70:=Try.func70
abbrev N.dk:Nat:=71
def L.dk:LFn:=
⟨[.tmp 2],(.seq (.reg false (.loud [] [] [(0,.tmp 0)] none [] false (.box 54 (.tmp 0)) 0 (some 1) true (.fin [2] [(2,.con (.slice none 0 0))] []))) (.seq (.seq (.reg false (.fin [3,4] [(4,.un .load (.un (.fld 0) (.tmp 1)))] [])) (.block 0 (.seq (.reg false (.fin [6,5] [(5,.bin (.cmp .eql) (.tmp 4) (.con (.int .i64 16)))] [])) (.cond (.tmp 5) [5] (.seq (.reg false (.fin [2] [(2,.con (.slice none 0 0))] [])) .ret) (.seq (.reg false (.fin [8,7] [(7,.bin (.cmp .eql) (.tmp 4) (.con (.int .i64 18)))] [])) (.cond (.tmp 7) [7] (.seq (.reg false (.loud [9,10,11,12] [] [(10,.un .load (.un (.fld 1) (.tmp 1))),(12,.un .load (.un (.fld 2) (.tmp 1)))] none [] false (.buildSlice 22 2 #[(0,.tmp 10),(1,.tmp 12)]) 22 (some 13) true (.fin [2] [(2,.tmp 13)] []))) .ret) .skip)))))) (.seq (.reg false (.loud [14,15] [] [(15,.un .load (.un (.fld 1) (.tmp 1)))] none [] false (.buildSlice 22 1 #[(0,.tmp 15)]) 22 (some 16) true (.fin [2] [(2,.tmp 16)] []))) .ret)))⟩
theorem E.dk:aW Try.prog Try.f71=some L.dk:=by kernel_rfl
theorem F.dk:Try.prog.funcs[N.dk]? = some Try.f71:=Try.func71
abbrev N.cS:Nat:=72
def L.cS:LFn:=
⟨[.tmp 0],(.seq (.reg false (.fin [0] [(0,.con (.map none))] [])) (.seq (.reg false (.loud [] [] [] none [] false (.makeMap 125 none) 125 (some 1) true (.loud [] [] [] none [] false (.build 123 #[(0,.const (.int .i64 0)),(1,.const (.int .i64 0)),(2,.const (.int .i64 1)),(3,.const (.int .i64 1))]) 123 (some 2) true (.loud [] [] [(1,.tmp 1),(2,.tmp 2)] none [] false (.insert 125 (.tmp 1) (.const (.int .i64 1)) (.tmp 2)) 0 none false (.loud [] [] [] none [] false (.build 123 #[(0,.const (.int .i64 1)),(1,.const (.int .i64 1)),(2,.const (.int .i64 2)),(3,.const (.int .i64 2))]) 123 (some 3) true (.loud [] [] [(1,.tmp 1),(3,.tmp 3)] none [] false (.insert 125 (.tmp 1) (.const (.int .i64 2)) (.tmp 3)) 0 none false (.loud [] [] [] none [] false (.build 123 #[(0,.const (.int .i64 1)),(1,.const (.int .i64 1)),(2,.const (.int .i64 2)),(3,.const (.int .i64 65))]) 123 (some 4) true (.loud [] [] [(1,.tmp 1),(4,.tmp 4)] none [] false (.insert 125 (.tmp 1) (.const (.int .i64 3)) (.tmp 4)) 0 none false (.loud [] [] [] none [] false (.build 123 #[(0,.const (.int .i64 0)),(1,.const (.int .i64 1)),(2,.const (.int .i64 0)),(3,.const (.int .i64 0))]) 123 (some 5) true (.loud [] [] [(1,.tmp 1),(5,.tmp 5)] none [] false (.insert 125 (.tmp 1) (.const (.int .i64 4)) (.tmp 5)) 0 none false (.loud [] [] [] none [] false (.build 123 #[(0,.const (.int .i64 0)),(1,.const (.int .i64 0)),(2,.const (.int .i64 0)),(3,.const (.int .i64 0))]) 123 (some 6) true (.loud [] [] [(1,.tmp 1),(6,.tmp 6)] none [] false (.insert 125 (.tmp 1) (.const (.int .i64 5)) (.tmp 6)) 0 none false (.fin [7,0] [(0,.tmp 1)] []))))))))))))) .ret))⟩
theorem E.cS:aW Try.prog Try.f72=some L.cS:=by kernel_rfl
theorem F.cS:Try.prog.funcs[N.cS]? = some Try.f72:=Try.func72
abbrev N.slices_Contains_int:Nat:=73
def L.slices_Contains_int:LFn:=
⟨[.tmp 4],(.seq (.reg false (.fin [4] [(4,.con (.bool false))] [])) (.seq (.reg false (.loud [5,6] [] [(5,.tmp 0),(6,.tmp 1)] none [] false (.call ⟨.value (.func 89),#[.tmp 5,.tmp 6],#[22,3]⟩) 3 (some 7) true (.fin [8,4] [(4,.bin (.cmp .geq) (.tmp 7) (.con (.int .i64 0)))] []))) .ret))⟩
theorem E.slices_Contains_int:aW Try.prog Try.f73=some L.slices_Contains_int:=by kernel_rfl
theorem F.slices_Contains_int:Try.prog.funcs[N.slices_Contains_int]? = some Try.f73:=Try.func73
abbrev N.ar:Nat:=74
def L.ar:LFn:=
⟨[],(.seq (.seq (.reg false (.fin [14,15,16,17,18,19,20,21,22,23,24] [(24,(.ite (.bin (.cmp .geq) (.tmp 0) (.con (.int .i64 0))) (.bin (.cmp .lss) (.tmp 0) (.un .load (.un (.fld 0) (.un (.fld 0) (.un .nilPtr (.un .load (.tmp 5))))))) (.con (.bool false))))] [])) (.cond (.tmp 24) [24] .ret .skip)) (.seq (.reg false (.loud [26,27,28,29,30] [] [(29,(.un .load (.un (.fld 2) (.un .nilPtr (.un .load (.tmp 5)))))),(30,.tmp 0)] none [] false (.lookup 100 (.tmp 29) (.tmp 30) true) 130 (some 31) true (.loud [25,32,33] [(32,.un (.ext 0) (.tmp 31)),(33,.un (.ext 1) (.tmp 31))] [] none [] false (.alloc 129) 0 (some 12) true (.loud [] [] [(12,.tmp 12),(32,.tmp 32)] none [] false (.store 129 (.tmp 12) (.tmp 32)) 0 none false (.fin [13] [(13,.tmp 33)] []))))) (.seq (.reg false (.loud [34,35,36,37,38,39,40,41,42,43,44,45,46,47,48,49,50,51,52,53,54,55,56,57,58,59,60] [(35,.tmp 13),(51,(.gd (.tmp 13) true (.ite (.bin (.cmp .eql) (.un .load (.un (.fld 0) (.tmp 12))) (.tmp 1)) (.ite (.bin (.cmp .lss) (.un .load (.un (.fld 1) (.tmp 12))) (.tmp 3)) (.con (.bool true)) (.bin (.cmp .lss) (.un .load (.un (.fld 1) (.tmp 12))) (.con (.int .i64 0)))) (.con (.bool false))))),(56,(.gd (.gd (.tmp 13) true (.ite (.bin (.cmp .eql) (.un .load (.un (.fld 0) (.tmp 12))) (.tmp 1)) (.ite (.bin (.cmp .lss) (.un .load (.un (.fld 1) (.tmp 12))) (.tmp 3)) (.con (.bool true)) (.bin (.cmp .lss) (.un .load (.un (.fld 1) (.tmp 12))) (.con (.int .i64 0)))) (.con (.bool false)))) false (.bin (.cmp .neq) (.un .load (.un (.fld 0) (.tmp 12))) (.tmp 1))))] [(57,(.gd (.gd (.gd (.tmp 13) true (.ite (.bin (.cmp .eql) (.un .load (.un (.fld 0) (.tmp 12))) (.tmp 1)) (.ite (.bin (.cmp .lss) (.un .load (.un (.fld 1) (.tmp 12))) (.tmp 3)) (.con (.bool true)) (.bin (.cmp .lss) (.un .load (.un (.fld 1) (.tmp 12))) (.con (.int .i64 0)))) (.con (.bool false)))) false (.bin (.cmp .neq) (.un .load (.un (.fld 0) (.tmp 12))) (.tmp 1))) true (.un .load (.tmp 6)))),(59,(.gd (.gd (.gd (.tmp 13) true (.ite (.bin (.cmp .eql) (.un .load (.un (.fld 0) (.tmp 12))) (.tmp 1)) (.ite (.bin (.cmp .lss) (.un .load (.un (.fld 1) (.tmp 12))) (.tmp 3)) (.con (.bool true)) (.bin (.cmp .lss) (.un .load (.un (.fld 1) (.tmp 12))) (.con (.int .i64 0)))) (.con (.bool false)))) false (.bin (.cmp .neq) (.un .load (.un (.fld 0) (.tmp 12))) (.tmp 1))) true (.un .load (.un (.fld 0) (.tmp 12))))),(60,(.gd (.gd (.gd (.tmp 13) true (.ite (.bin (.cmp .eql) (.un .load (.un (.fld 0) (.tmp 12))) (.tmp 1)) (.ite (.bin (.cmp .lss) (.un .load (.un (.fld 1) (.tmp 12))) (.tmp 3)) (.con (.bool true)) (.bin (.cmp .lss) (.un .load (.un (.fld 1) (.tmp 12))) (.con (.int .i64 0)))) (.con (.bool false)))) false (.bin (.cmp .neq) (.un .load (.un (.fld 0) (.tmp 12))) (.tmp 1))) true (.tmp 1)))] (some ((.gd (.gd (.tmp 13) true (.ite (.bin (.cmp .eql) (.un .load (.un (.fld 0) (.tmp 12))) (.tmp 1)) (.ite (.bin (.cmp .lss) (.un .load (.un (.fld 1) (.tmp 12))) (.tmp 3)) (.con (.bool true)) (.bin (.cmp .lss) (.un .load (.un (.fld 1) (.tmp 12))) (.con (.int .i64 0)))) (.con (.bool false)))) false (.bin (.cmp .neq) (.un .load (.un (.fld 0) (.tmp 12))) (.tmp 1))),true)) [(.gd (.gd (.tmp 13) true (.bin (.cmp .eql) (.un .load (.un (.fld 0) (.tmp 12))) (.tmp 1))) true (.ite (.bin (.cmp .lss) (.un .load (.un (.fld 1) (.tmp 12))) (.tmp 3)) (.con (.bool true)) (.bin (.cmp .lss) (.un .load (.un (.fld 1) (.tmp 12))) (.con (.int .i64 0))))),(.gd (.gd (.gd (.tmp 13) true (.bin (.cmp .eql) (.un .load (.un (.fld 0) (.tmp 12))) (.tmp 1))) true (.bin (.cmp .lss) (.un .load (.un (.fld 1) (.tmp 12))) (.tmp 3))) false (.bin (.cmp .lss) (.un .load (.un (.fld 1) (.tmp 12))) (.con (.int .i64 0))))] false (.call ⟨.value (.func 13),#[.tmp 57,.tmp 59,.tmp 60],#[22,3,3]⟩) 4 (some 61) true (.fin [62,63,64,13] [(13,(.ite (.tmp 35) (.ite (.tmp 51) (.con (.bool true)) (.ite (.tmp 56) (.tmp 61) (.con (.bool false)))) (.con (.bool false))))] [.gd (.tmp 51) false (.ite (.tmp 56) (.tmp 61) (.con (.bool false)))]))) (.reg false (.loud [65,66,67] [] [(65,.tmp 13),(66,.tmp 4),(67,.tmp 2)] none [] false (.call ⟨.value (.func 48),#[.tmp 65,.const (.int .i64 13),.tmp 66,.tmp 67],#[4,29,3,3]⟩) 0 (some 68) false (.fin [] [] []))))))⟩
theorem E.ar:aW Try.prog Try.f74=some L.ar:=by kernel_rfl
theorem F.ar:Try.prog.funcs[N.ar]? = some Try.f74:=Try.func74
abbrev N.aS:Nat:=75
def L.aS.l2:LC:=
 (.seq (.reg false (.fin [18] [(18,.bin (.cmp .lss) (.tmp 17) (.tmp 16))] [])) (.seq (.cond (.tmp 18) [18] .skip (.exit 2)) (.seq (.block 3 (.seq (.reg false (.fin [19,20,6] [(6,.un .load (.bin (.idx 1) (.tmp 15) (.tmp 17)))] [])) (.seq (.reg false (.loud [21,22,23] [] [(21,.tmp 0),(22,.tmp 3),(23,.tmp 6)] none [] false (.call ⟨.value (.tmp 21),#[.tmp 22,.tmp 23],#[3,3]⟩) 4 (some 24) true (.fin [25] [(25,.un .not (.tmp 24))] []))) (.cond (.tmp 25) [25] .ret .skip)))) (.reg false (.fin [26,17] [(17,.bin (.arith .add) (.tmp 17) (.con (.int .i64 1)))] [])))))
def L.aS.l1:LC:=
 (.seq (.reg false (.fin [11] [(11,.bin (.cmp .lss) (.tmp 10) (.tmp 9))] [])) (.seq (.cond (.tmp 11) [11] .skip (.exit 0)) (.seq (.block 1 (.seq (.reg false (.fin [12,13,14,3,4] [(3,.tmp 10),(4,.un .load (.bin (.idx 1) (.tmp 8) (.tmp 10)))] [])) (.seq (.reg false (.fin [15,16,17] [(15,.tmp 4),(16,.un .len (.tmp 4)),(17,.con (.int .i64 0))] [])) (.block 2 (.loop L.aS.l2))))) (.reg false (.fin [27,10] [(10,.bin (.arith .add) (.tmp 10) (.con (.int .i64 1)))] [])))))
def L.aS:LFn:=
⟨[],(.seq (.reg false (.loud [7] [] [(7,.un .load (.tmp 1))] none [] false (.call ⟨.value (.func 52),#[.tmp 7],#[33]⟩) 33 (some 8) true (.fin [9,10] [(9,.un .len (.tmp 8)),(10,.con (.int .i64 0))] []))) (.block 0 (.loop L.aS.l1)))⟩
theorem E.aS:aW Try.prog Try.f75=some L.aS:=by kernel_rfl
theorem F.aS:Try.prog.funcs[N.aS]? = some Try.f75:=Try.func75
abbrev N.ak:Nat:=76
def L.ak.l2:LC:=
 (.seq (.seq (.reg true (.loud [18,19,20,21,22,23,24,25,26,27,28,29,30,31] [(21,.bin (.cmp .gtr) (.tmp 9) (.tmp 1))] [(22,.gd (.bin (.cmp .gtr) (.tmp 9) (.tmp 1)) true (.tmp 3)),(26,.gd (.bin (.cmp .gtr) (.tmp 9) (.tmp 1)) true (.un (.ao 2) (.bin (.idx 2) (.tmp 0) (.tmp 9)))),(31,(.gd (.bin (.cmp .gtr) (.tmp 9) (.tmp 1)) true (.un (.ao 2) (.bin (.idx 2) (.tmp 0) (.bin (.arith .sub) (.tmp 9) (.con (.int .i64 1)))))))] (some ((.bin (.cmp .gtr) (.tmp 9) (.tmp 1)),true)) [] false (.call ⟨.value (.tmp 22),#[.tmp 26,.tmp 31],#[49,49]⟩) 3 (some 32) true (.fin [33,34] [(34,.ite (.tmp 21) (.bin (.cmp .lss) (.tmp 32) (.con (.int .i64 0))) (.con (.bool false)))] []))) (.cond (.tmp 34) [34] .skip (.exit 2))) (.seq (.block 3 (.reg true (.loud [37,38,39,40,41,42,43,44,45,46,47,48,49,50,51] [(39,.tmp 0),(41,.bin (.arith .sub) (.tmp 9) (.con (.int .i64 1))),(50,.un (.ao 2) (.bin (.idx 2) (.tmp 0) (.tmp 9)))] [(51,.bin (.idx 2) (.tmp 0) (.tmp 9)),(46,(.un (.ao 2) (.bin (.idx 2) (.tmp 0) (.bin (.arith .sub) (.tmp 9) (.con (.int .i64 1))))))] none [] true (.store 49 (.tmp 51) (.tmp 46)) 0 none false (.loud [52] [] [(52,.bin (.idx 2) (.tmp 39) (.tmp 41)),(50,.tmp 50)] none [] false (.store 49 (.tmp 52) (.tmp 50)) 0 none false (.fin [] [] []))))) (.reg false (.fin [35,36,9] [(9,.bin (.arith .sub) (.tmp 9) (.con (.int .i64 1)))] []))))
def L.ak.l1:LC:=
 (.seq (.seq (.reg false (.fin [12,13,14] [(14,.bin (.cmp .lss) (.tmp 8) (.tmp 2))] [])) (.cond (.tmp 14) [14] .skip (.exit 0))) (.seq (.block 1 (.seq (.reg false (.fin [17,9] [(9,.tmp 8)] [])) (.block 2 (.loop L.ak.l2)))) (.reg false (.fin [15,16,8] [(8,.bin (.arith .add) (.tmp 8) (.con (.int .i64 1)))] []))))
def L.ak:LFn:=
⟨[],(.seq (.reg false (.fin [10,11,8] [(8,.bin (.arith .add) (.tmp 1) (.con (.int .i64 1)))] [])) (.block 0 (.loop L.ak.l1)))⟩
theorem E.ak:aW Try.prog Try.f76=some L.ak:=by kernel_rfl
theorem F.ak:Try.prog.funcs[N.ak]? = some Try.f76:=Try.func76
abbrev N.bJ:Nat:=87
def L.bJ:LFn:=
⟨[],(.reg false (.loud [8,9,10,11,12,13] [] [(8,.tmp 1),(13,(.un .load (.un (.fld 0) (.un (.fld 0) (.un .nilPtr (.tmp 0))))))] none [] false (.call ⟨.value (.func 49),#[.tmp 8,.tmp 13,.const (.int .i64 8191)],#[3,3,3]⟩) 4 (some 14) true (.loud [15,16] [] [(14,.tmp 14),(15,.tmp 2),(16,.tmp 3)] none [] false (.call ⟨.value (.func 48),#[.tmp 14,.const (.int .i64 11),.tmp 15,.tmp 16],#[4,29,3,3]⟩) 0 (some 17) false (.fin [] [] []))))⟩
theorem E.bJ:aW Try.prog Try.f87=some L.bJ:=by kernel_rfl
theorem F.bJ:Try.prog.funcs[N.bJ]? = some Try.f87:=Try.func87
abbrev N.bK:Nat:=88
def L.bK:LFn:=
⟨[],(.seq (.reg false (.loud [11,12,13,14,15] [] [(14,.un .load (.un (.fld 2) (.un .nilPtr (.tmp 0)))),(15,.tmp 1)] none [] false (.lookup 100 (.tmp 14) (.tmp 15) true) 130 (some 16) true (.loud [10,17,18] [(17,.un (.ext 0) (.tmp 16)),(18,.un (.ext 1) (.tmp 16))] [] none [] false (.alloc 129) 0 (some 8) true (.loud [] [] [(8,.tmp 8),(17,.tmp 17)] none [] false (.store 129 (.tmp 8) (.tmp 17)) 0 none false (.fin [9] [(9,.tmp 18)] []))))) (.seq (.reg false (.loud [19,20,21,22] [] [(20,.un .not (.tmp 9)),(21,.tmp 2),(22,.tmp 3)] none [] false (.call ⟨.value (.func 48),#[.tmp 20,.const (.int .i64 12),.tmp 21,.tmp 22],#[4,29,3,3]⟩) 0 (some 23) false (.fin [] [] []))) (.reg false (.loud [24,25,26,27,28,29,30] [(27,.un .load (.un (.fld 2) (.un .nilPtr (.tmp 0)))),(28,.tmp 1)] [(29,.tmp 2),(30,.tmp 3)] none [] false (.build 129 #[(0,.tmp 29),(1,.tmp 30)]) 129 (some 31) true (.loud [] [] [(27,.tmp 27),(28,.tmp 28),(31,.tmp 31)] none [] false (.mapUpdate 100 (.tmp 27) (.tmp 28) (.tmp 31)) 0 none false (.fin [] [] []))))))⟩
theorem E.bK:aW Try.prog Try.f88=some L.bK:=by kernel_rfl
theorem F.bK:Try.prog.funcs[N.bK]? = some Try.f88:=Try.func88
abbrev N.slices_Index_int:Nat:=89
def L.slices_Index_int.l1:LC:=
 (.seq (.reg false (.fin [9] [(9,.bin (.cmp .lss) (.tmp 8) (.tmp 7))] [])) (.seq (.cond (.tmp 9) [9] .skip (.exit 0)) (.seq (.block 1 (.seq (.reg false (.fin [10,5] [(5,.tmp 8)] [])) (.seq (.reg false (.fin [11,12,13,14,15,16] [(16,.bin (.cmp .eql) (.tmp 1) (.un .load (.bin (.idx 1) (.tmp 0) (.tmp 5))))] [])) (.cond (.tmp 16) [16] (.seq (.reg false (.fin [17,4] [(4,.tmp 5)] [])) .ret) .skip)))) (.reg false (.fin [18,8] [(8,.bin (.arith .add) (.tmp 8) (.con (.int .i64 1)))] [])))))
def L.slices_Index_int:LFn:=
⟨[.tmp 4],(.seq (.reg false (.fin [4] [(4,.con (.int .i64 0))] [])) (.seq (.seq (.reg false (.fin [6,7,8] [(7,.un .len (.tmp 0)),(8,.con (.int .i64 0))] [])) (.block 0 (.loop L.slices_Index_int.l1))) (.seq (.reg false (.fin [4] [(4,.con (.int .i64 (-1)))] [])) .ret)))⟩
theorem E.slices_Index_int:aW Try.prog Try.f89=some L.slices_Index_int:=by kernel_rfl
theorem F.slices_Index_int:Try.prog.funcs[N.slices_Index_int]? = some Try.f89:=Try.func89
end Go.Proofs.Ytbkdlhkoiagbbaa
namespace Go.Proofs
open Go.Shelf
def Try.sP:Go.Shelf.Ren:=⟨fun | 125=>63 | 128=>84 | 129=>85 | n=>n,fun | 46=>115 | 3=>3 | 51=>141 | 53=>143 | 4=>4 | 5=>5 | 9=>9 | n=>n,fun | n=>n⟩
theorem Try.AT:Go.Proofs.Lays.n125 Try.prog Try.sP:={
 mixed:=by kernel_rfl
 f125:=Try.func63.trans (congrArg some (by kernel_rfl))
 f128:=Try.func84.trans (congrArg some (by kernel_rfl))
 f129:=Try.func85.trans (congrArg some (by kernel_rfl))
 t3:=Try.underlying3
 a3:=Try.isAgg3
 z3:=Try.sizeOf3
 v3:=Try.zeroValue3
 t4:=Try.underlying4
 a4:=Try.isAgg4
 z4:=Try.sizeOf4
 v4:=Try.zeroValue4
 t5:=Try.underlying5
 a5:=Try.isAgg5
 z5:=Try.sizeOf5
 v5:=Try.zeroValue5
 t9:=Try.underlying9
 a9:=Try.isAgg9
 z9:=Try.sizeOf9
 v9:=Try.zeroValue9
 t46:=Try.underlying115
 a46:=Try.isAgg115
 z46:=Try.sizeOf115
 v46:=Try.zeroValue115
 t51:=Try.underlying141
 a51:=Try.isAgg141
 z51:=Try.sizeOf141
 v51:=Try.zeroValue141
 t53:=Try.underlying143
 a53:=Try.isAgg143
 z53:=Try.sizeOf143
 v53:=Try.zeroValue143 }
theorem Try.bits_Len (x:Int) (w:World) (h0:0≤x) (h1:x≤18446744073709551615) :
  Calls Try.prog 63 #[.int .u64 x] w fun e w'=>e = .returned (.int .i64 (Lib.bitLen x.toNat))∧w'=w:=Any.bits_Len Try.AT x w h0 h1
def Try.sD:Go.Shelf.Ren:=⟨fun | 189=>66 | 125=>63 | 257=>86 | 128=>84 | 129=>85 | 294=>95 | 295=>96 | 296=>97 | 297=>98 | 298=>99 | 299=>100 | 216=>101 | 300=>102 | 301=>103 | 328=>105 | 329=>91 | 330=>92 | 331=>106 | 332=>107 | 215=>108 | 343=>109 | n=>n,fun | 28=>22 | 3=>3 | 46=>115 | 0=>0 | 51=>141 | 53=>143 | 4=>4 | 183=>135 | 182=>134 | 131=>79 | 5=>5 | 9=>9 | 218=>147 | 222=>151 | 228=>156 | 229=>120 | n=>n,fun | n=>n⟩
theorem Try.vK:Go.Proofs.Lays.n189 Try.prog Try.sD:={
 mixed:=by kernel_rfl
 f125:=Try.func63.trans (congrArg some (by kernel_rfl))
 f128:=Try.func84.trans (congrArg some (by kernel_rfl))
 f129:=Try.func85.trans (congrArg some (by kernel_rfl))
 f189:=Try.func66.trans (congrArg some (by kernel_rfl))
 f215:=Try.func108.trans (congrArg some (by kernel_rfl))
 f216:=Try.func101.trans (congrArg some (by kernel_rfl))
 f257:=Try.func86.trans (congrArg some (by kernel_rfl))
 f294:=Try.func95.trans (congrArg some (by kernel_rfl))
 f295:=Try.func96.trans (congrArg some (by kernel_rfl))
 f296:=Try.func97.trans (congrArg some (by kernel_rfl))
 f297:=Try.func98.trans (congrArg some (by kernel_rfl))
 f298:=Try.func99.trans (congrArg some (by kernel_rfl))
 f299:=Try.func100.trans (congrArg some (by kernel_rfl))
 f300:=Try.func102.trans (congrArg some (by kernel_rfl))
 f301:=Try.func103.trans (congrArg some (by kernel_rfl))
 f328:=Try.func105.trans (congrArg some (by kernel_rfl))
 f329:=Try.func91.trans (congrArg some (by kernel_rfl))
 f330:=Try.func92.trans (congrArg some (by kernel_rfl))
 f331:=Try.func106.trans (congrArg some (by kernel_rfl))
 f332:=Try.func107.trans (congrArg some (by kernel_rfl))
 f343:=Try.func109.trans (congrArg some (by kernel_rfl))
 t0:=Try.underlying0
 a0:=Try.isAgg0
 z0:=Try.sizeOf0
 v0:=Try.zeroValue0
 t3:=Try.underlying3
 a3:=Try.isAgg3
 z3:=Try.sizeOf3
 v3:=Try.zeroValue3
 t4:=Try.underlying4
 a4:=Try.isAgg4
 z4:=Try.sizeOf4
 v4:=Try.zeroValue4
 t5:=Try.underlying5
 a5:=Try.isAgg5
 z5:=Try.sizeOf5
 v5:=Try.zeroValue5
 t9:=Try.underlying9
 a9:=Try.isAgg9
 z9:=Try.sizeOf9
 v9:=Try.zeroValue9
 t28:=Try.underlying22
 a28:=Try.isAgg22
 z28:=Try.sizeOf22
 v28:=Try.zeroValue22
 t46:=Try.underlying115
 a46:=Try.isAgg115
 z46:=Try.sizeOf115
 v46:=Try.zeroValue115
 t51:=Try.underlying141
 a51:=Try.isAgg141
 z51:=Try.sizeOf141
 v51:=Try.zeroValue141
 t53:=Try.underlying143
 a53:=Try.isAgg143
 z53:=Try.sizeOf143
 v53:=Try.zeroValue143
 t131:=Try.underlying79
 a131:=Try.isAgg79
 z131:=Try.sizeOf79
 v131:=Try.zeroValue79
 t182:=Try.underlying134
 a182:=Try.isAgg134
 z182:=Try.sizeOf134
 v182:=Try.zeroValue134
 t183:=Try.underlying135
 a183:=Try.isAgg135
 z183:=Try.sizeOf135
 v183:=Try.zeroValue135
 t218:=Try.underlying147
 a218:=Try.isAgg147
 z218:=Try.sizeOf147
 v218:=Try.zeroValue147
 t222:=Try.underlying151
 a222:=Try.isAgg151
 z222:=Try.sizeOf151
 v222:=Try.zeroValue151
 t228:=Try.underlying156
 a228:=Try.isAgg156
 z228:=Try.sizeOf156
 v228:=Try.zeroValue156
 t229:=Try.underlying120
 a229:=Try.isAgg120
 z229:=Try.sizeOf120
 v229:=Try.zeroValue120 }
open Go.Sort Go.RowKit in
theorem Try.slices_Sort_int (blk off cap:Nat) (zs:List Int) (w:World) (hH:Holds (Value.int .i64) w blk off zs.toArray) (hblk:blk<w.heap.size) (hsz:zs.length<4611686018427387904) :
  Calls Try.prog 66 #[.slice (some ⟨blk,off,none⟩) zs.length cap] w fun e w'=>
   e = .returned (.tuple #[])∧∃ n os,w'=grow (putRow (Value.int .i64) (Sort.ahead w n) blk off (zs.mergeSort fun x y=>decide (x≤y)).toArray) os:=Any.slices_Sort_int Try.vK blk off cap zs w hH hblk hsz
def Try.sj:Go.Shelf.Ren:=⟨fun | 112=>65 | n=>n,fun | 28=>22 | 3=>3 | 4=>4 | 0=>0 | n=>n,fun | n=>n⟩
theorem Try.v8:Go.Proofs.Lays.n112 Try.prog Try.sj:={
 mixed:=by kernel_rfl
 f112:=Try.func65.trans (congrArg some (by kernel_rfl))
 t0:=Try.underlying0
 a0:=Try.isAgg0
 z0:=Try.sizeOf0
 v0:=Try.zeroValue0
 t3:=Try.underlying3
 a3:=Try.isAgg3
 z3:=Try.sizeOf3
 v3:=Try.zeroValue3
 t4:=Try.underlying4
 a4:=Try.isAgg4
 z4:=Try.sizeOf4
 v4:=Try.zeroValue4
 t28:=Try.underlying22
 a28:=Try.isAgg22
 z28:=Try.sizeOf22
 v28:=Try.zeroValue22 }
open Go.RowKit Go.Lib Go.Sort in
/-- slices.Reverse at []int: "Reverse reverses the elements of the slice in place.": THE SLICE's CELLS HOLD 'zs.reverse' BEHIND THE CALL; all else is as it was, but for the count of draws (the exchange 's[i], s[j] = s[j], s[i]' draws its order, once a round). IN THE WORDS OF slices.Sort's CONTRACT: 'Holds': the cells hold zs and none is frozen; 'putRow': the world with those cells holding another array. A slice of length 0 that is not nil is among them ('zs = []'); nil: '.._nil'. (LAID: no walk: one application.) -/
theorem Try.slices_Reverse_int (blk off cap:Nat) (zs:List Int) (w:World) (hH:Holds (Value.int .i64) w blk off zs.toArray) (hsz:zs.length≤9223372036854775807) :
  Calls Try.prog 65 #[.slice (some ⟨blk,off,none⟩) zs.length cap] w fun e w'=>e = .returned (.tuple #[])∧∃ n,w'=putRow (Value.int .i64) (Sort.ahead w n) blk off zs.reverse.toArray:=Any.slices_Reverse_int Try.v8 blk off cap zs w hH hsz
open Go.RowKit Go.Lib Go.Sort in
/-- The same at a slice of length 0, a nil one too: nothing is read, nothing written, nothing drawn. (LAID: no walk: one application.) -/
theorem Try.slices_Reverse_int_empty (a:Option Addr) (cap:Nat) (w:World) :
  Calls Try.prog 65 #[.slice a 0 cap] w fun e w'=>e = .returned (.tuple #[])∧w'=w:=Any.slices_Reverse_int_empty Try.v8 a cap w
def Try.pM:Go.Shelf.Ren:=⟨fun | 20=>67 | n=>n,fun | 22=>22 | 3=>3 | 4=>4 | 0=>0 | n=>n,fun | n=>n⟩
theorem Try.qH:Go.Proofs.Lays2.n20 Try.prog Try.pM:={
 mixed:=by kernel_rfl
 f20:=Try.func67.trans (congrArg some (by kernel_rfl))
 t0:=Try.underlying0
 a0:=Try.isAgg0
 z0:=Try.sizeOf0
 v0:=Try.zeroValue0
 t3:=Try.underlying3
 a3:=Try.isAgg3
 z3:=Try.sizeOf3
 v3:=Try.zeroValue3
 t4:=Try.underlying4
 a4:=Try.isAgg4
 z4:=Try.sizeOf4
 v4:=Try.zeroValue4
 t22:=Try.underlying22
 a22:=Try.isAgg22
 z22:=Try.sizeOf22
 v22:=Try.zeroValue22
 i3:=by kernel_rfl }
open Go.RowKit Go.Lib Go.Sort in
/-- slices.Compact at []int: "Compact replaces consecutive runs of equal elements with a single copy. This is like the uniq command found on Unix. Compact modifies the contents of the slice s and returns the modified slice, which may have a smaller length. Compact zeroes the elements between the new length and the original length. The result preserves the nilness of s.": IT RETURNS THE SLICE CUT TO 'Lib.compact zs'; ITS CELLS HOLD 'Lib.compact zs', THEN ZERO VALUES up to the old length; all else is as it was, but for the count of draws. IN THE WORDS OF slices.Sort's CONTRACT ('Holds', 'putRow'): so the everyday 'slices.Sort(xs); xs = slices.Compact(xs)' goes from the one contract to the other. It asks 'zs.length ≤ cap' (every slice's: the reslicing 's[:k]' looks at it). Length 0, nil: '.._empty'. (LAID: no walk: one application.) -/
theorem Try.slices_Compact_int (blk off cap:Nat) (zs:List Int) (w:World) (hH:Holds (Value.int .i64) w blk off zs.toArray) (hsz:zs.length≤9223372036854775807) (hcap:zs.length≤cap) :
  Calls Try.prog 67 #[.slice (some ⟨blk,off,none⟩) zs.length cap] w fun e w'=>e = .returned (.slice (some ⟨blk,off,none⟩) (Lib.compact zs).length cap)∧∃ q,w'=putRow (Value.int .i64) (Sort.ahead w q) blk off (Lib.compact zs++List.replicate (zs.length-(Lib.compact zs).length) 0).toArray:=Any.slices_Compact_int Try.qH blk off cap zs w hH hsz hcap
open Go.RowKit Go.Lib Go.Sort in
/-- The same at a slice of length 0, a nil one too: it comes back as it is. (LAID: no walk: one application.) -/
theorem Try.slices_Compact_int_empty (a:Option Addr) (cap:Nat) (w:World) :
  Calls Try.prog 67 #[.slice a 0 cap] w fun e w'=>e = .returned (.slice a 0 cap)∧w'=w:=Any.slices_Compact_int_empty Try.qH a cap w
open Go.RowKit Go.Sort in
/-- .. and plain. (LAID: no walk: one application.) -/
theorem Try.slices_Sort_int_none (p:Option Addr) (cap:Nat) (w:World) :
  Calls Try.prog 66 #[.slice p 0 cap] w fun e w'=>e = .returned (.tuple #[])∧w'=w:=Any.slices_Sort_int_none Try.vK p cap w
end Go.Proofs
namespace Go.Proofs.Ytbkdlhkoiagbbaa
open Go Go.Lft
def I64 (x:Int):Prop:=-9223372036854775808≤x∧x≤9223372036854775807
theorem km {W:View} {h:Heap} {e:TypeId} {v:Value} {l:List Int}:OwnT W h e v l↔l.length≤140737488355328∧(∀ x∈l,I64 x)∧((v = .slice none 0 0∧l=[])∨
  ∃ g cap cur,v = .slice (some ⟨g,0,none⟩) l.length cap∧h[g]? = some (.cells cur e (0,0))∧l.length≤cap∧cap≤maxLen∧cur.size=cap∧cur.toList.take l.length=l.map (.int .i64)):=by
 have hn:Rep.n Int=1:=rfl
 constructor
 ·rintro ⟨hb,xs,⟨hl,hown⟩,hel⟩
  rw [hn,Nat.mul_one] at hl
  have hel' : ∀ (i:Nat) (hi:i<l.length),xs[i]? = some (.int .i64 l[i])∧I64 l[i]:=fun i hi=>by
   obtain ⟨h1,h2⟩:=hel i hi
   rw [hn,Nat.mul_one] at h1
   have:(xs.drop i).take 1=[.int .i64 l[i]]:=h1
   have h3:((xs.drop i).take 1)[0]? = some (.int .i64 l[i]):=by rw [this];rfl
   rw [List.getElem?_take,if_pos (by decide),List.getElem?_drop] at h3
   exact ⟨by simpa using h3,h2⟩
  have hxs:xs=l.map (.int .i64):=by
   refine List.ext_getElem? fun i=>?_
   rcases Nat.lt_or_ge i l.length with hi | hi
   ·rw [(hel' i hi).1];simp [hi]
   ·rw [List.getElem?_eq_none (by omega),List.getElem?_eq_none (by simpa using hi)]
  refine ⟨hb,fun x hx=>?_,?_⟩
  ·obtain ⟨i,hi,rfl⟩:=List.getElem_of_mem hx
   exact (hel' i hi).2
  ·rcases hown with ⟨rfl,h0⟩ | ⟨g,cap,cur,rfl,hg,h1,h2,h3,h4⟩
   ·exact .inl ⟨rfl,List.eq_nil_of_length_eq_zero h0⟩
   ·rw [hn,Nat.mul_one] at h3 h4
    exact .inr ⟨g,cap,cur,rfl,hg,h1,h2,h3,by rw [h4,hxs]⟩
 ·rintro ⟨hb,hr,hown⟩
  refine ⟨hb,l.map (.int .i64),⟨by rw [hn];simp,?_⟩,fun i hi=>?_⟩
  ·rcases hown with ⟨rfl,rfl⟩ | ⟨g,cap,cur,rfl,hg,h1,h2,h3,h4⟩
   ·exact .inl ⟨rfl,rfl⟩
   ·exact .inr ⟨g,cap,cur,rfl,hg,h1,h2,by rw [hn,Nat.mul_one];exact h3,by rw [hn,Nat.mul_one];exact h4⟩
  ·rw [hn,Nat.mul_one]
   refine ⟨?_,hr _ (List.getElem_mem hi)⟩
   refine List.ext_getElem? fun j=>?_
   rw [List.getElem?_take]
   rcases Nat.lt_or_ge j 1 with hj | hj
   ·have:j=0:=by omega
    subst this
    simp [hi]
   ·rw [if_neg (by omega)];simp;omega
theorem nq {w:World} {g cap:Nat} {cur:Array Value} {e:TypeId} {l:List Int} (hg:w.heap[g]? = some (.cells cur e (0,0))) (h1:l.length≤cur.size) (h4:cur.toList.take l.length=l.map (.int .i64)):Go.Sort.Holds (Value.int .i64) w g 0 l.toArray:=by
 intro j hj
 simp only [List.size_toArray] at hj
 have hc:cur[j]? = some (.int .i64 l[j]):=by
  have:=congrArg (fun x:List Value=>x[j]?) h4
  simp only [List.getElem?_take,hj,if_true,List.getElem?_map] at this
  simpa [hj] using this
 constructor
 ·simp [World.cell?,hg,hc,hj]
 ·simp [World.frozen?,hg]
theorem rJ {W:View} {w:World} {h':Heap} {e:TypeId} {v:Value} {g cap:Nat} {cur:Array Value} {l d:List Int} (hv:v = .slice (some ⟨g,0,none⟩) l.length cap) (hg:w.heap[g]? = some (.cells cur e (0,0))) (h1:l.length≤cap) (h2:cap≤maxLen) (h3:cur.size=cap)
  (hd:d.length=l.length) (hb:l.length≤140737488355328) (hr : ∀ x∈d,I64 x) (n:Nat) (os:Array Obj) (hh:h'=(Go.Sort.grow (Go.Sort.putRow (Value.int .i64) (Go.Sort.ahead w n) g 0 d.toArray) os).heap) :
  OwnT W h' e v d∧Kept w.heap h' v.ownBlock:=by
 subst hv
 have hlt:g<w.heap.size:=(Array.getElem?_eq_some_iff.1 hg).1
 have hcur:(Go.Sort.putCells (Value.int .i64) 0 d.toArray cur).toList.take d.length=d.map (.int .i64):=by
  refine List.ext_getElem? fun j=>?_
  rw [List.getElem?_take]
  split
  ·rename_i hj
   have hjc:j<cur.size:=by omega
   simp [Go.Sort.putCells,hj,hjc]
  ·rename_i hj
   exact (List.getElem?_eq_none (by simpa using Nat.le_of_not_lt hj)).symm
 have hblk : ∀ k,k<w.heap.size→h'[k]? = if g=k then (w.heap[k]?).map (Go.Sort.onCells (Go.Sort.putCells (Value.int .i64) 0 d.toArray)) else w.heap[k]?:=by
  intro k hk
  subst hh
  simp only [Go.Sort.grow,Go.Sort.putRow,Go.Sort.mapBlock,Go.Sort.ahead]
  rw [Array.getElem?_append_left (by simpa using hk),Array.getElem?_modify]
 have hsz:w.heap.size≤h'.size:=by subst hh;simp [Go.Sort.grow,Go.Sort.putRow,Go.Sort.mapBlock,Go.Sort.ahead]
 refine ⟨km.2 ⟨by omega,hr,.inr ⟨g,cap,Go.Sort.putCells (Value.int .i64) 0 d.toArray cur,by rw [hd],?_,by omega,h2,by simp [Go.Sort.putCells,h3],hcur⟩⟩,hsz,fun k hk hne=>?_⟩
 ·rw [hblk g hlt,if_pos rfl,hg];rfl
 ·rw [hblk k hk,if_neg (fun e=>hne (by simp [Value.ownBlock,e]))]
theorem lT (w:World) (n g:Nat) (d:Array Int) (os:Array Obj):Same w (Go.Sort.grow (Go.Sort.putRow (Value.int .i64) (Go.Sort.ahead w n) g 0 d) os):=
 ⟨rfl,rfl,rfl,by simp [Go.Sort.grow,Go.Sort.putRow,Go.Sort.mapBlock,Go.Sort.ahead],fun b hb=>by
  have hlt:=(Array.getElem?_eq_some_iff.1 hb).1
  simp only [Go.Sort.grow,Go.Sort.putRow,Go.Sort.mapBlock,Go.Sort.ahead]
  rw [Array.getElem?_append_left (by simpa using hlt),Array.getElem?_modify]
  split
  ·rw [hb];rfl
  ·exact hb⟩
def j9 (l:List Int):List Int:=l.mergeSort fun x y=>decide (x≤y)
theorem Ag {W:View} {h:Heap} {e:TypeId} {v:Value} {l:List Int} (o:OwnT W h e v l):ay Try.prog N.slices_Sort_int #[v] h (fun _ h'=>OwnT W h' e v (j9 l)∧Kept h h' v.ownBlock):=by
 rintro w rfl
 obtain ⟨hb,hr,hown⟩:=km.1 o
 have hlen:(j9 l).length=l.length:=List.length_mergeSort _
 have hr' : ∀ x∈j9 l,I64 x:=fun x hx=>hr x (List.mem_mergeSort.1 hx)
 rcases hown with ⟨rfl,rfl⟩ | ⟨g,cap,cur,rfl,hg,h1,h2,h3,h4⟩
 ·refine (Try.slices_Sort_int_none none 0 w).mono ?_
  rintro e' w' ⟨rfl,rfl⟩
  exact ⟨_,rfl,⟨by simpa [j9] using o,Kept.refl _ _⟩,Same.refl _⟩
 ·refine (Try.slices_Sort_int g 0 cap l w (nq (cap:=cap) hg (by omega) h4) (Array.getElem?_eq_some_iff.1 hg).1 (by omega)).mono ?_
  rintro e' w' ⟨rfl,n,os,rfl⟩
  exact ⟨_,rfl,rJ rfl hg h1 h2 h3 hlen hb hr' n os rfl,lT _ _ _ _ _⟩
theorem yV {W:View} {h:Heap} {e:TypeId} {g n cap:Nat} {l:List Int} (o:OwnT W h e (.slice (some ⟨g,0,none⟩) l.length cap) l) (hn:n≤l.length):OwnT W h e (.slice (some ⟨g,0,none⟩) n cap) (l.take n):=by
 obtain ⟨hb,hr,hown⟩:=km.1 o
 have hl:(l.take n).length=n:=by simp;omega
 rcases hown with ⟨hv,_⟩ | ⟨g',cap',cur,hv,hg,h1,h2,h3,h4⟩
 ·cases hv
 ·cases hv
  refine km.2 ⟨by omega,fun x hx=>hr x (List.mem_of_mem_take hx),.inr ⟨g,cap,cur,by rw [hl],hg,by omega,h2,h3,?_⟩⟩
  rw [hl,List.map_take,←h4,List.take_take,Nat.min_eq_left hn]
theorem nS {l:List Int}:(Lib.compact l).length≤l.length:=by
 unfold Lib.compact Lib.compactUpTo
 rw [List.length_map]
 exact Nat.le_trans (List.length_filter_le _ _) (by simp)
theorem jC {l:List Int} {x:Int} (hx:x∈Lib.compact l):x∈l:=by
 unfold Lib.compact Lib.compactUpTo at hx
 simp only [List.mem_map,List.mem_filter,List.mem_range] at hx
 obtain ⟨i,⟨hi,_⟩,rfl⟩:=hx
 simp [hi]
theorem uW {W:View} {h:Heap} {e:TypeId} {v:Value} {l:List Int} (o:OwnT W h e v l):ay Try.prog N.slices_Compact_int #[v] h (fun v' h'=>OwnT W h' e v' (Lib.compact l)∧gB h h' v v'):=by
 rintro w rfl
 obtain ⟨hb,hr,hown⟩:=km.1 o
 have hlen:=nS (l:=l)
 rcases hown with ⟨rfl,rfl⟩ | ⟨g,cap,cur,rfl,hg,h1,h2,h3,h4⟩
 ·refine (Try.slices_Compact_int_empty none 0 w).mono ?_
  rintro e' w' ⟨rfl,rfl⟩
  exact ⟨_,rfl,⟨o,Kept.refl _ _,.inl rfl⟩,Same.refl _⟩
 ·refine (Try.slices_Compact_int g 0 cap l w (nq (cap:=cap) hg (by omega) h4) (by omega) h1).mono ?_
  rintro e' w' ⟨rfl,n,hw⟩
  have hw':w'=Go.Sort.grow (Go.Sort.putRow (Value.int .i64) (Go.Sort.ahead w n) g 0 (Lib.compact l++List.replicate (l.length-(Lib.compact l).length) 0).toArray) #[]:=by rw [hw];simp
  have hdl:(Lib.compact l++List.replicate (l.length-(Lib.compact l).length) 0).length=l.length:=by simp;omega
  have hrd : ∀ x∈(Lib.compact l++List.replicate (l.length-(Lib.compact l).length) (0:Int)),I64 x:=fun x hx=>by
   rcases List.mem_append.1 hx with hx | hx
   ·exact hr x (jC hx)
   ·obtain ⟨_,rfl⟩:=List.mem_replicate.1 hx;exact ⟨by omega,by omega⟩
  obtain ⟨o2,k2⟩:=rJ (W:=W) (h':=w'.heap) rfl hg h1 h2 h3 hdl hb hrd n #[] (by rw [hw'])
  have o3:=yV (n:=(Lib.compact l).length) (by rw [hdl];exact o2) (by simp)
  rw [List.take_left'  rfl] at o3
  exact ⟨_,rfl,⟨o3,k2,.inl rfl⟩,by rw [hw'];exact lT _ _ _ _ _⟩
theorem uZ {W:View} {h:Heap} {e:TypeId} {v:Value} {l:List Int} (o:OwnT W h e v l):ay Try.prog N.slices_Reverse_int #[v] h (fun _ h'=>OwnT W h' e v l.reverse∧Kept h h' v.ownBlock):=by
 rintro w rfl
 obtain ⟨hb,hr,hown⟩:=km.1 o
 rcases hown with ⟨rfl,rfl⟩ | ⟨g,cap,cur,rfl,hg,h1,h2,h3,h4⟩
 ·refine (Try.slices_Reverse_int_empty none 0 w).mono ?_
  rintro e' w' ⟨rfl,rfl⟩
  exact ⟨_,rfl,⟨o,Kept.refl _ _⟩,Same.refl _⟩
 ·refine (Try.slices_Reverse_int g 0 cap l w (nq (cap:=cap) hg (by omega) h4) (by omega)).mono ?_
  rintro e' w' ⟨rfl,n,hw⟩
  have hw':w'=Go.Sort.grow (Go.Sort.putRow (Value.int .i64) (Go.Sort.ahead w n) g 0 l.reverse.toArray) #[]:=by rw [hw];simp
  exact ⟨_,rfl,rJ rfl hg h1 h2 h3 (by simp) hb (fun x hx=>hr x (by simpa using hx)) n #[] (by rw [hw']),by rw [hw'];exact lT _ _ _ _ _⟩
end Go.Proofs.Ytbkdlhkoiagbbaa
namespace Go.Proofs.Ytbkdlhkoiagbbaa
open Go Go.Lft
def jH (row:List Int) (n:Int) (i:Nat):Bool:=decide (0≤nth row i)&&decide (nth row i<n)
def gw (row:List Int) (n:Int):List Int:=Lib.compact (j9 (sift (jH row n) (fun i=>nth row i) row.length))
theorem wv {row:List Int} {n:Int} {vr:Value} {h:Heap} (hr:SlRd (vw h) vr row) (hs:row.length≤1000000) :
  ay Try.prog N.dc #[vr,.int .i64 n] h (fun v h'=>∃ W,Mine nothing h h' W T.int v (gw row n)):=by
 refine an (args:=[vr,.int .i64 n]) follows F.dc E.dc (Nat.le_of_ble_eq_true (by kernel_rfl)) fun K hK=>?_
 simp [L.dc,hr.len]
 refine aA [0,1,5,8,9,10] (fun (v:Value) k=>[vr,.int .i64 n,v,vr,.int .i64 row.length,.int .i64 k]) (fun v k h1=>Mine nothing h h1 nothing T.int v (sift (jH row n) (fun i=>nth row i) k)) row.length (.slice none 0 0)
  rfl (by omega) rfl (Mine.start (fun _ _ h=>by cases h)) (fun _ _=>rfl) (fun v k h1 hk m=>by simp) ?_ ?_
 ·intro v k h1 hlt m K2 hK2
  have hr1:=hr.mono m.old
  have hrange:=hr.range hlt
  have:=pq (p:=jH row n) (x:=fun i=>nth row i) k
  simp (disch:=omega) [hr1.idx1 rfl,hr1.int (View.le_refl _),dT,-Bool.and_eq_true,-Bool.and_eq_false_imp]
  refine ⟨fun he=>?_,fun he=>hK2 v _ _ rfl rfl (by rw [jf (show jH row n k=false from he)];exact m)⟩
  refine m.push El.bV (by simp<;>rfl) (kY hrange.1 hrange.2) (by omega) (by omega) (fun _=>by simp) (fun _=>by simp) fun u v' h3 m'=>hK2 v' _ _ rfl rfl (by rw [kt (show jH row n k=true from he)];exact m')
 ·intro v h1 m
  simp
  refine aq (by kernel_rfl) (Ag m.own) ?_
  rintro _ h2 ⟨o2,k2⟩
  have m2:=m.jB o2 ⟨k2,.inl rfl⟩
  try simp
  refine aq (by kernel_rfl) (uW m2.own) ?_
  rintro v3 h3 ⟨o3,k3⟩
  have m3:=m2.jB o3 k3
  try simp
  exact hK _ _ ⟨_,m3⟩
def bs (g:Gr):Gr:=rows (fun a=>gw (nth g a) g.length) g.length
def Sm (g:Gr):Prop:=g.length≤1000000∧∀ i,i<g.length→(nth g i).length≤1000000
theorem zg {α:Type} [Rep α] {W:View}:Rep.rd W (Value.slice none 0 0).cells.toList ([]:List α):=⟨.slice none 0 0,rfl,none,0,rfl,by simp,by simp,.inl rfl⟩
theorem oR {g:Gr} {vg:Value} {h:Heap} (hg:SlRd (vw h) vg g) (hs:Sm g) :
  ay Try.prog N.cM #[vg] h (fun v h'=>∃ W,Mine nothing h h' W T.bV v (bs g)):=by
 refine an (args:=[vg]) follows F.cM E.cM (Nat.le_of_ble_eq_true (by kernel_rfl)) fun K hK=>?_
 have hs1:=hs.1
 simp [L.cM,hg.len]
 refine Mine.made (α:=List Int) (V:=nothing) (W:=nothing) (h0:=h) (n:=g.length) (d:=[]) El.bQ (View.le_refl _) (fun _ _ h=>by cases h) (Old.nothing _ _) (by simp<;>rfl) (by simp<;>rfl) zg (by omega) (by omega) fun v h1 m _ _=>?_
 refine aA [0,3,9,10,11] (fun (_:View) k=>[vg,v,vg,.int .i64 g.length,.int .i64 k]) (fun W k h2=>Mine nothing h h2 W T.bV v (rows (fun a=>gw (nth g a) g.length) k++List.replicate (g.length-k) [])) g.length nothing
  rfl (by omega) rfl m (fun _ _=>rfl) (fun v k h1 hk m=>by simp) ?_ ?_
 ·intro W a h2 hlta m K2 hK2
  have hg2:=hg.mono m.old
  obtain ⟨rv,hrv⟩:=hg2.rows
  obtain ⟨cv,rr⟩:=hrv a hlta
  have hl5:(rows (fun a=>gw (nth g a) g.length) a++List.replicate (g.length-a) ([]:List Int)).length=g.length:=by simp;omega
  simp (disch:=omega) [hg2.idx1 rfl,cv _ (View.le_refl _),hg.len]
  refine aq (by kernel_rfl) (wv rr (hs.2 a hlta)) ?_
  rintro r h3 ⟨W',mr⟩
  have m3:=m.ext mr.old
  have hr:=mr.fresh.mono (jo W _ _)
  simp (disch:=omega) [m3.now.idx1 rfl]
  refine m3.put1 (α:=List Int) (i:=a) (by kernel_rfl) rfl (by simp) (by simp<;>rfl) (by omega) (gE.2 hr) fun h4 m4=>hK2 (grow W h2 h3) _ _ rfl rfl ?_
  rw [ie (x:=fun a=>gw (nth g a) g.length) hlta] at m4
  exact m4
 ·intro W h2 m
  simp at m
  simp
  exact hK _ _ ⟨_,m⟩
theorem pb {l:List Int} {x:Int} {v:Value} {h:Heap} {b:Addr} (hl:SlRd (vw h) v l) (hb:ah (vw h) b=some v) :
  ay Try.prog N.bC #[.int .i64 x,.pointer (some b)] h (fun u h'=>u = .bool (decide (0≤x)&&decide (x<l.length))∧h'=h):=by
 refine an (args:=[.int .i64 x,.pointer (some b)]) follows F.bC E.bC (Nat.le_of_ble_eq_true (by kernel_rfl)) fun K hK=>?_
 simp [L.bC,hb,hl.len]
 exact hK _ _ ⟨rfl,rfl⟩
theorem rS {l:List Int} {a b:Int} {v:Value} {h:Heap} (hl:SlRd (vw h) v l) :
  ay Try.prog N.bF #[v,.int .i64 a,.int .i64 b] h (fun u h'=>u = .bool (cE l a b)∧(vw h).le (vw h')):=by
 refine an (args:=[v,.int .i64 a,.int .i64 b]) follows F.bF E.bF (Nat.le_of_ble_eq_true (by kernel_rfl)) fun K hK=>?_
 have bl:=hl.bound
 simp [L.bF]
 refine lG (v:=v) (by simp) ?_
 have hvc:v.cells = #[v]:=by obtain ⟨_,_,rfl,_⟩:=hl;rfl
 rw [hvc]
 have hle:=bg h (.cells #[v] T.bV)
 have hl:=hl.mono hle
 have hb:ah (vw (h.push (.cells #[v] T.bV))) ⟨h.size,0,none⟩=some v:=by simp [ah,vw]
 generalize h.push (.cells #[v] T.bV)=h1 at hle hl hb
 generalize h.size=B at hb
 refine fA (ops:=[.tmp 10]) rfl (by kernel_rfl) (by simpa using pb (x:=a) hl hb) ?_
 rintro _ _ ⟨rfl,rfl⟩
 cases ha:decide (0≤a)&&decide (a<l.length) with
 | false=>
  have hsp:cE l a b=false:=by
   simp only [Bool.and_eq_false_iff,decide_eq_false_iff_not] at ha
   simp [cE];intros;omega
  rw [hsp] at hK
  simp [grdP]
  exact hK _ _ ⟨rfl,hle⟩
 | true=>
  simp only [Bool.and_eq_true,decide_eq_true_eq] at ha
  simp [grdP]
  refine fA (ops:=[.tmp 15]) rfl (by kernel_rfl) (by simpa using pb (x:=b) hl hb) ?_
  rintro _ _ ⟨rfl,rfl⟩
  cases hbb:decide (0≤b)&&decide (b<l.length) with
  | false=>
   have hsp:cE l a b=false:=by
    simp only [Bool.and_eq_false_iff,decide_eq_false_iff_not] at hbb
    simp [cE];intros;omega
   rw [hsp] at hK
   simp
   exact hK _ _ ⟨rfl,hle⟩
  | true=>
   simp only [Bool.and_eq_true,decide_eq_true_eq] at hbb
   have hsp:cE l a b=j0 l a (l.length+1) b:=by simp [cE,ha,hbb]
   rw [hsp] at hK
   simp (disch:=omega) [hb,hl.len]
   refine aA [1,2,3,6,7,21,22] (fun (c:Int) k=>[.int .i64 a,.int .i64 c,.pointer (some ⟨B,0,none⟩),.bool false,.func (.func N.bC) #[] #[.pointer (some ⟨B,0,none⟩)],.int .i64 ((l.length:Int)+1),.int .i64 k])
    (fun c k h2=>h2=_∧j0 l a (l.length+1-k) c=j0 l a (l.length+1) b) (l.length+1) b
    rfl (by omega) rfl ⟨rfl,rfl⟩ (fun _ _=>rfl) (fun v k h1 hk m=>by simp) ?_ ?_
   ·rintro c k h2 hlt ⟨rfl,hch⟩ K2 hK2
    have hfu:l.length+1-k=(l.length-k)+1:=by omega
    rw [hfu,j0] at hch
    simp
    refine ⟨fun he=>hK _ _ ⟨by rw [←hch,if_pos he.symm],hle⟩,fun he=>?_⟩
    rw [if_neg (fun e=>he e.symm)] at hch
    refine fA (ops:=[.tmp 28]) rfl (by kernel_rfl) (by simpa using pb (x:=c) hl hb) ?_
    rintro _ _ ⟨rfl,rfl⟩
    cases hc:decide (0≤c)&&decide (c<l.length) with
    | false=>
     simp only [Bool.and_eq_false_iff,decide_eq_false_iff_not] at hc
     simp
     exact hK _ _ ⟨by rw [←hch,if_pos (by omega)],hle⟩
    | true=>
     simp only [Bool.and_eq_true,decide_eq_true_eq] at hc
     rw [if_neg (by omega)] at hch
     simp (disch:=omega) [hb,hl.idx1 rfl,hl.int (View.le_refl _)]
     refine hK2 (nth l c.toNat) _ _ rfl rfl ⟨rfl,?_⟩
     rw [←hch];congr 1;omega
   ·rintro c h2 ⟨rfl,hch⟩
    rw [Nat.sub_self,j0] at hch
    simp
    exact hK _ _ ⟨by rw [←hch],hle⟩
end Go.Proofs.Ytbkdlhkoiagbbaa
namespace Go.Proofs.Ytbkdlhkoiagbbaa
open Go Go.Lft
def fT (idom number:List Int):Nat→Int→Int→Option Int
 | 0,_,_=>none
 | n+1,a,b=>
  if 0≤a∧a<number.length∧a<idom.length∧0≤b∧b<number.length∧b<idom.length then
   if nth number b.toNat<nth number a.toNat then fT idom number n (nth idom a.toNat) b
   else if nth number a.toNat<nth number b.toNat then fT idom number n a (nth idom b.toNat)
   else some a
  else none
theorem qt {idom number:List Int} {vi vn:Value} {h:Heap} {r:Int} (hi:SlRd (vw h) vi idom) (hn:SlRd (vw h) vn number) {n:Nat} {a b:Int} (hc:fT idom number n a b=some r) :
  ay Try.prog N.bZ #[vi,vn,.int .i64 a,.int .i64 b] h (fun u h'=>u = .int .i64 r∧h'=h):=by
 refine an (args:=[vi,vn,.int .i64 a,.int .i64 b]) follows F.bZ E.bZ (Nat.le_of_ble_eq_true (by kernel_rfl)) fun K hK=>?_
 simp [L.bZ]
 refine gX [0,1,2,3] (fun m ρ h'=>∃ (c d:Int),ρ=[(0,vi),(1,vn),(2,.int .i64 c),(3,.int .i64 d)]∧h'=h∧fT idom number m c d=some r) n ⟨a,b,rfl,rfl,hc⟩ ?_
 rintro m ρ h' ⟨c,d,rfl,rfl,hc⟩ K2 hK2
 cases m with
 | zero=>cases hc
 | succ m=>
  rw [fT] at hc
  split at hc
  case isFalse=>cases hc
  rename_i hr
  obtain ⟨r1,r2,r3,r4,r5,r6⟩:=hr
  simp (disch:=omega) [L.bZ.l1,hn.idx1 rfl,hn.int (View.le_refl _)]
  refine ⟨fun h1=>?_,fun h1=>?_⟩
  ·rw [if_pos h1] at hc
   simp (disch:=omega) [hi.idx1 rfl,hi.int (View.le_refl _)]
   exact hK2 m _ _ (by omega) ⟨_,_,rfl,rfl,hc⟩
  ·rw [if_neg (by omega)] at hc
   refine ⟨fun h2=>?_,fun h2=>?_⟩
   ·rw [if_pos h2] at hc
    simp (disch:=omega) [hi.idx1 rfl,hi.int (View.le_refl _)]
    exact hK2 m _ _ (by omega) ⟨_,_,rfl,rfl,hc⟩
   ·rw [if_neg (by omega)] at hc
    cases hc
    exact hK _ _ ⟨rfl,rfl⟩
end Go.Proofs.Ytbkdlhkoiagbbaa
namespace Go.Proofs.Ytbkdlhkoiagbbaa
open Go Go.Lft
structure Wo (W:View) (h:Heap) (B:Nat) (vt vl:Value) (s:List Bool × List Int):Prop where
 wle:W.le (vw h)
 box:h[B]? = some (.cells #[vl] T.bV (0,0))
 wB:W B=none
 avt:Av W vt
 avl:Av W vl
 nt:vt.ownBlock≠some B
 nl:vl.ownBlock≠some B
 ne:vl.ownBlock=none∨vl.ownBlock≠vt.ownBlock
 ot:OwnT nothing h T.bool vt s.1
 ol:OwnT nothing h T.int vl s.2
 nn:vt.ownBlock=none∨vt.ownBlock≠vl.ownBlock
theorem Wo.lt {W:View} {h:Heap} {B:Nat} {vt vl:Value} {s:List Bool × List Int} (k:Wo W h B vt vl s):B<h.size:=(Array.getElem?_eq_some_iff.1 k.box).1
theorem Wo.ext {W:View} {h h':Heap} {B:Nat} {vt vl:Value} {s:List Bool × List Int} (k:Wo W h B vt vl s) (hle:(vw h).le (vw h')):Wo W h' B vt vl s:=
 {k with wle:=View.le_trans k.wle hle,box:=hle _ _ k.box,ot:=k.ot.ext hle,ol:=k.ol.ext hle }
theorem Wo.grow {W:View} {h h':Heap} {B:Nat} {vt vl:Value} {s:List Bool × List Int} (k:Wo W h B vt vl s) (hle:(vw h).le (vw h')):Wo (grow W h h') h' B vt vl s:=
 {k.ext hle with
  wle:=iW (View.le_trans k.wle hle)
  wB:=by unfold Lft.grow;rw [if_pos k.lt];exact k.wB
  avt:=k.avt.grow fun _ hb=>k.ot.lt hb
  avl:=k.avl.grow fun _ hb=>k.ol.lt hb }
theorem Wo.flag {W:View} {h h':Heap} {B:Nat} {vt vl:Value} {s:List Bool × List Int} {t':List Bool} (k:Wo W h B vt vl s) (o:OwnT nothing h' T.bool vt t') (m:gB h h' vt vt):Wo W h' B vt vl (t',s.2):=
 {k with
  wle:=(m.view k.wle k.avt).1
  box:=by rw [m.kept.block B k.lt (fun e=>k.nt e.symm)];exact k.box
  ot:=o
  ol:=k.ol.kept m.kept k.ne }
theorem Wo.uB {W:View} {h h' h'':Heap} {B:Nat} {vt vl vl':Value} {s:List Bool × List Int} {l':List Int} (k:Wo W h B vt vl s) (o:OwnT nothing h' T.int vl' l') (m:gB h h' vl vl') (hsz:h''.size=h'.size)
  (hB:h''[B]? = some (.cells #[vl'] T.bV (0,0))) (hoth : ∀ j,j≠B→h''[j]? = h'[j]?):Wo W h'' B vt vl' (s.1,l'):=by
 obtain ⟨hw',ha'⟩:=m.view k.wle k.avl
 have hlt:=k.lt
 have nl':vl'.ownBlock≠some B:=by
  rcases m.at_ with e | e
  ·rw [e];exact k.nl
  ·rw [e];intro e2;cases e2;omega
 have kep:Kept h' h'' (some B):=⟨by omega,fun j _ hj=>hoth j (fun e=>hj (by rw [e]))⟩
 refine ⟨fun b x hb=>?_,hB,k.wB,k.avt,ha',k.nt,nl',?_,?_,?_,?_⟩
 ·have hne:b≠B:=fun e=>by rw [e,k.wB] at hb;cases hb
  show h''[b]? = _
  rw [hoth b hne];exact hw' b x hb
 ·rcases m.at_ with e | e
  ·rw [e];exact k.ne
  ·right;rw [e];intro e2;have:=k.ot.lt e2.symm;omega
 ·exact (k.ot.kept m.kept k.nn).kept kep (.inr k.nt)
 ·exact o.kept kep (.inr nl')
 ·rcases m.at_ with e | e
  ·rw [e];exact k.nn
  ·right;rw [e];intro e2;have:=k.ot.lt e2;omega
theorem Wo.cell {W:View} {h:Heap} {B:Nat} {vt vl:Value} {s:List Bool × List Int} (k:Wo W h B vt vl s):ah (vw h) ⟨B,0,none⟩=some vl:=by
 simp [ah,vw,k.box]
def nx (rows:Gr) (a:Int):List Int:=nth rows a.toNat
theorem sW {rows:Gr} {vr:Value} {Tp R O:Addr} {B:Nat} (hs:rows.length≤1000000) (hin : ∀ i,i<rows.length→∀ j,j<(nth rows i).length→0≤nth (nth rows i) j∧nth (nth rows i) j<rows.length) : ∀ (n:Nat) {M:Nat} {W:View} {h:Heap} {vt vl:Value} {s:List Bool × List Int} {a:Int},Wo W h B vt vl s→SlRd W vr rows→
  ah W Tp=some vt→ah W R=some vr→ah W O=some (.func (.func N.aT) #[] #[.pointer (some Tp),.pointer (some R),.pointer (some O),.pointer (some ⟨B,0,none⟩)])→0≤a→a<rows.length→s.1.length=rows.length→nth s.1 a.toNat=false→
  bM s.1≤n→s.2.length+bM s.1≤M→M≤1000000→
  ay Try.prog N.aT #[.int .i64 a,.pointer (some Tp),.pointer (some R),.pointer (some O),.pointer (some ⟨B,0,none⟩)] h (fun _ h'=>∃ vl',Wo W h' B vt vl' (fo (nx rows) n a s)∧(fo (nx rows) n a s).2.length+bM (fo (nx rows) n a s).1≤M)
 | 0,M,W,h,vt,vl,s,a,k,hg,hT,hR,hO,h0,h1,hl,hf,hc,hb,hM=>by
  exfalso
  have:=eZ (t:=s.1) (i:=a.toNat) (by omega) hf
  omega
 | n+1,M,W,h,vt,vl,(t,l),a,k,hg,hT,hR,hO,h0,h1,hl,hf,hc,hb,hM=>by
  obtain ⟨i,rfl⟩:=Int.eq_ofNat_of_zero_le h0
  simp only at hl hf hc hb
  have hfs:=eZ (t:=t) (i:=i) (by omega) (by simpa using hf)
  refine an (args:=[.int .i64 i,.pointer (some Tp),.pointer (some R),.pointer (some O),.pointer (some ⟨B,0,none⟩)]) follows F.aT E.aT (Nat.le_of_ble_eq_true (by kernel_rfl)) fun K hK=>?_
  have hnow:SlRd (vw h) vt t:=k.ot.now (fun _ _ h=>by cases h)
  simp (disch:=omega) [L.aT,af k.wle hT,hnow.idx1 rfl]
  refine mL (W:=nothing) (i:=i) (d:=true) (by kernel_rfl) (by simp [show Rep.n Bool=1 from rfl]) (by simp<;>rfl) k.ot (by simpa using by omega) Dr fun h2 o2 m2=>?_
  have k2:=k.flag o2 m2
  have hg2:=hg.mono k2.wle
  obtain ⟨rv,hrv⟩:=hg.rows
  obtain ⟨cv,rr⟩:=hrv i (by omega)
  have br:=rr.bound
  have hov:fo (nx rows) (n+1) i (t,l)=((up (bn (nx rows) n i) (nx rows i).length (t.set i true,l)).1,(up (bn (nx rows) n i) (nx rows i).length (t.set i true,l)).2++[(i:Int)]):=fQ
  rw [hov] at hK
  have hnx:nx rows i=nth rows i:=rfl
  rw [hnx] at hK
  simp (disch:=omega) [af k2.wle hR,hg2.idx1 rfl,cv _ k2.wle,rr.len]
  refine aA [0,1,2,3,4,14,15,16] (fun (_:Value) j=>[.int .i64 i,.pointer (some Tp),.pointer (some R),.pointer (some O),.pointer (some ⟨B,0,none⟩),rv i,.int .i64 (nth rows i).length,.int .i64 j]) (fun vl j h4=>Wo W h4 B vt vl (up (bn (nx rows) n i) j (t.set i true,l))∧(up (bn (nx rows) n i) j (t.set i true,l)).2.length+bM (up (bn (nx rows) n i) j (t.set i true,l)).1≤M-1) (nth rows i).length vl
   rfl (by omega) rfl ⟨k2,by simp [up];omega⟩ (fun _ _=>rfl) (fun v j h4 hk m=>by simp) ?_ ?_
  ·rintro vl j h4 hltj ⟨k4,hb4⟩ K2 hK2
   have hinv:=xZ (fun s:List Bool × List Int=>s.1.length=rows.length∧bM s.1≤n) (f:=bn (nx rows) n i) (fun k x hx=>by
    unfold bn;split
    ·exact hx
    ·exact ka n _ x hx) j (t.set i true,l) ⟨by simpa using hl,by simp only;omega⟩
   generalize hx:up (bn (nx rows) n i) j (t.set i true,l)=x at k4 hb4 hinv
   obtain ⟨e0,e1⟩:=hin i (by omega) j hltj
   have hr4:=rr.mono k4.wle
   have hnow4:=k4.ot.now (fun _ _ h=>by cases h)
   simp (disch:=omega) [af k4.wle hT,hr4.idx1 rfl,hr4.int (View.le_refl _),hnow4.idx1 rfl,hnow4.bool (View.le_refl _),dT]
   refine ⟨fun he=>?_,fun he=>hK2 vl _ _ rfl rfl ?_⟩
   ·simp [af k4.wle hO]
    refine fA (ops:=[.tmp 26]) rfl (by kernel_rfl) (by simpa using sW hs hin n k4 hg hT hR hO e0 e1 hinv.1 he hinv.2 hb4 (by omega)) ?_
    rintro _ h5 ⟨⟨vl',k5⟩,hb5⟩
    have hst:up (bn (nx rows) n i) (j+1) (t.set i true,l)=fo (nx rows) n (nth (nth rows i) j) x:=by rw [up,hx,bn,show nx rows i=nth rows i from rfl,he];rfl
    refine hK2 vl' _ _ rfl rfl ?_
    rw [hst]
    exact ⟨k5,hb5⟩
   ·have hst:up (bn (nx rows) n i) (j+1) (t.set i true,l)=x:=by rw [up,hx,bn,show nx rows i=nth rows i from rfl,he];rfl
    rw [hst];exact ⟨k4,hb4⟩
  ·rintro vl h4 ⟨k4,hb4⟩
   generalize hx:up (bn (nx rows) n i) (nth rows i).length (t.set i true,l)=x at k4 hb4 hK
   simp [k4.cell]
   refine nj (α:=Int) (W:=nothing) El.bV (by simp<;>rfl) (kY (by omega) (by omega)) fun u h5 hsrc hle5 _=>?_
   have k5:=k4.ext hle5
   refine eg El.bV (by simp) (by simp) k5.ol hsrc (by simp;omega) (by simp;omega) fun vl' h6 o6 m6=>?_
   have hB6:h6[B]? = some (.cells #[vl] T.bV (0,0)):=by rw [m6.kept.block B k5.lt (fun e=>k5.nl e.symm)];exact k5.box
   obtain ⟨hcells,hone⟩:=gC o6
   refine cJ (g:=B) (o:=0) (n:=1) (v:=vl') (by kernel_rfl) (by simp) (by simp) (by rw [hcells];rfl) (by rw [hcells];simpa using hone) hB6 (by simp) fun h7 hsz7 ⟨row,hrow,he⟩ hoth=>hK _ _ ⟨vl',?_,?_⟩
   ·have hrow2:row = #[vl']:=by rw [←Array.toList_inj,he,hcells];rfl
    rw [hrow2] at hrow
    exact k5.uB o6 m6 hsz7 hrow hoth
   ·simp;omega
end Go.Proofs.Ytbkdlhkoiagbbaa
namespace Go.Proofs.Ytbkdlhkoiagbbaa
open Go Go.Lft
def aC (g:Gr):List Int:=gq (nx (bs g)) g.length
theorem dR {g:Gr}:(bs g).length=g.length:=by simp [bs]
theorem mV {g:Gr} : ∀ i,i<(bs g).length→∀ j,j<(nth (bs g) i).length→0≤nth (nth (bs g) i) j∧nth (nth (bs g) i) j<(bs g).length:=by
 intro i hi j hj
 rw [dR] at hi
 have hm:=bW hj
 rw [bs,cm hi,gw] at hm
 have h2:=jC hm
 rw [j9,List.mem_mergeSort,jt] at h2
 simp only [List.mem_map,List.mem_filter,List.mem_range,jH,Bool.and_eq_true,decide_eq_true_eq] at h2
 obtain ⟨k,⟨_,h3⟩,h4⟩:=h2
 rw [dR]
 have e:nth (nth (bs g) i) j=nth (nth g i) k:=by rw [bs,cm hi,gw,h4,j9,jt]
 rw [e];exact h3
theorem tz {g:Gr} {vg:Value} {h:Heap} (hg:SlRd (vw h) vg g) (hs:Sm g) :
  ay Try.prog N.dp #[vg] h (fun v h'=>(vw h).le (vw h')∧SlRd (fresh h h') v (aC g)):=by
 refine an (args:=[vg]) follows F.dp E.dp (Nat.le_of_ble_eq_true (by kernel_rfl)) fun K hK=>?_
 have hs1:=hs.1
 simp [L.dp,hg.len]
 refine ⟨fun h0=>?_,fun h0=>?_⟩
 ·exact hK _ _ ⟨View.le_refl _,⟨none,0,by simp [aC,gq,h0],by simp [aC,gq,h0],by simp [aC,gq,h0],.inl (by simp [aC,gq,h0])⟩⟩
 ·refine aq (by kernel_rfl) (oR hg hs) ?_
  rintro vr h1 ⟨W1,m1⟩
  have hvr:=m1.now
  obtain ⟨hrc,hro⟩:=gC m1.own
  refine mK (z:=.slice none 0 0) (by kernel_rfl) rfl (by kernel_rfl) hrc hro (fun _=>by simp) (fun _=>by simp) fun h2 hle2 hsz2 hR2=>?_
  refine vH (W:=nothing) (n:=g.length) (d:=false) El.r7 (by simp<;>rfl) (by simp<;>rfl) rfl (by omega) (by omega) fun vt h3 o3 m3 hle3 hb3=>?_
  obtain ⟨htc,hto⟩:=gC o3
  refine mK (z:=.slice none 0 0) (by kernel_rfl) rfl (by kernel_rfl) htc hto (fun _=>by simp) (fun _=>by simp) fun h4 hle4 hsz4 hT4=>?_
  refine dw (z:=.slice none 0 0) (by kernel_rfl) ?_
  refine dw (z:=.nilFunc) (by kernel_rfl) ?_
  have hsz3:h2.size<h3.size:=o3.lt hb3
  have hle6:(vw h4).le (vw ((h4.push (.cells (Value.slice none 0 0).cells T.bV)).push (.cells Value.nilFunc.cells T.sE))):=View.le_trans (bg _ _) (bg _ _)
  refine cJ (g:=h4.size+1) (o:=0) (n:=1) (e:=T.sE) (cur:=#[.nilFunc]) (v:=.func (.func N.aT) #[] #[.pointer (some ⟨h3.size,0,none⟩),.pointer (some ⟨h1.size,0,none⟩),.pointer (some ⟨h4.size+1,0,none⟩),.pointer (some ⟨h4.size,0,none⟩)]) (by kernel_rfl) (by simp) (by simp) rfl (by simp [Value.cells,Value.oneCell']) (by rw [show h4.size+1=(h4.push (.cells (Value.slice none 0 0).cells T.bV)).size by simp];exact Array.getElem?_push_size) (by simp) fun h7 hsz7 ⟨row,hrow,he⟩ hoth=>?_
  have hrow2:row = #[.func (.func N.aT) #[] #[.pointer (some ⟨h3.size,0,none⟩),.pointer (some ⟨h1.size,0,none⟩),.pointer (some ⟨h4.size+1,0,none⟩),.pointer (some ⟨h4.size,0,none⟩)]]:=by rw [←Array.toList_inj,he];rfl
  rw [hrow2] at hrow
  have hle7:(vw h4).le (vw h7):=fun b o hb=>by
   have hlt:=View.lt (View.le_refl (vw h4)) hb
   show h7[b]? = _
   rw [hoth b (by omega)]
   exact hle6 b o hb
  have hL7:h7[h4.size]? = some (.cells #[.slice none 0 0] T.bV (0,0)):=by
   rw [hoth _ (by omega),Array.getElem?_push,if_neg (by simp),Array.getElem?_push_size];rfl
  have hle27:=View.le_trans hle3 (View.le_trans hle4 hle7)
  have hle17:=View.le_trans hle2 hle27
  obtain ⟨W,hW⟩ : ∃ W:View,W=fun b=>if b=h2.size∨b=h4.size then none else h7[b]?:=⟨_,rfl⟩
  have hWle:W.le (vw h7):=by
   intro b o hb
   rw [hW] at hb
   simp only at hb
   split at hb
   ·cases hb
   ·exact hb
  have hW1:(vw h1).le W:=fun b o hb=>by
   have hlt:=View.lt (View.le_refl (vw h1)) hb
   rw [hW];simp only
   rw [if_neg (by omega)]
   exact hle17 b o hb
  have k7:Wo W h7 h4.size vt (.slice none 0 0) (List.replicate g.length false,[]):=
   ⟨hWle,hL7,by rw [hW];simp,fun b hb=>by rw [hb3] at hb;cases hb;rw [hW];simp,Av.nil _ _ _,by rw [hb3];intro e;simp only [Option.some.injEq] at e;omega,by simp [Value.ownBlock],.inl rfl,
    (o3.ext hle4).ext hle7,OwnT.nil ..,.inr (by rw [hb3];simp [Value.ownBlock])⟩
  have hT:ah W ⟨h3.size,0,none⟩=some vt:=by
   have h5:W h3.size=some (.cells #[vt] T.r7 (0,0)):=by rw [hW];simp only;rw [if_neg (by omega)];exact hle7 _ _ hT4
   simp [ah,h5]
  have hR:ah W ⟨h1.size,0,none⟩=some vr:=by
   have h5:W h1.size=some (.cells #[vr] T.bQ (0,0)):=by rw [hW];simp only;rw [if_neg (by omega)];exact hle27 _ _ hR2
   simp [ah,h5]
  have hO:ah W ⟨h4.size+1,0,none⟩=some (.func (.func N.aT) #[] #[.pointer (some ⟨h3.size,0,none⟩),.pointer (some ⟨h1.size,0,none⟩),.pointer (some ⟨h4.size+1,0,none⟩),.pointer (some ⟨h4.size,0,none⟩)]):=by
   have h5:W (h4.size+1)=h7[h4.size+1]?:=by rw [hW];simp only;rw [if_neg (by omega)]
   rw [hrow] at h5
   simp [ah,h5]
  have hvrW:=hvr.mono hW1
  have hlen:g.length≠0:=by simpa using h0
  have hcl:=dR (g:=g)
  have hfa:bM (List.replicate g.length false)=g.length:=by simp [bM]
  simp [af hWle hO]
  refine fA (ops:=[.const (.int .i64 0)]) (f:=N.aT) (caps:=#[.pointer (some ⟨h3.size,0,none⟩),.pointer (some ⟨h1.size,0,none⟩),.pointer (some ⟨h4.size+1,0,none⟩),.pointer (some ⟨h4.size,0,none⟩)]) (by simp) (by kernel_rfl)
   (by simpa using sW (by omega) mV g.length (M:=g.length) k7 hvrW hT hR hO (a:=0) (by omega) (by omega) (by simp [hcl]) (by rw [aj (by simp;omega)];simp) (by rw [hfa];exact Nat.le_refl _) (by simp [hfa]) (by omega)) ?_
  rintro _ h8 ⟨⟨vl,k8⟩,hb8⟩
  have hord:aC g=(fo (nx (bs g)) g.length 0 (List.replicate g.length false,[])).2.reverse:=by simp [aC,gq,h0]
  rw [hord] at hK
  generalize fo (nx (bs g)) g.length 0 (List.replicate g.length false,[])=s at k8 hb8 hK
  simp [k8.cell]
  refine aq (by kernel_rfl) (uZ k8.ol) ?_
  rintro _ h9 ⟨o9,k9⟩
  have hB9:h9[h4.size]? = some (.cells #[vl] T.bV (0,0)):=by rw [k9.block _ k8.lt (fun e=>k8.nl e.symm)];exact k8.box
  have hc9:ah (vw h9) ⟨h4.size,0,none⟩=some vl:=by simp [ah,vw,hB9]
  have hW9:=k9.view k8.wle k8.avl
  have hle9:(vw h).le (vw h9):=View.le_trans (View.le_trans m1.old hW1) hW9
  have hav:Av (vw h) vl:=fun b hb=>by
   cases hx:vw h b with
   | none=>rfl
   | some o=>have:=(View.le_trans m1.old hW1) _ _ hx;rw [k8.avl b hb] at this;cases this
  simp [hc9]
  exact hK _ _ ⟨hle9,o9.fresh (fun _ _ h=>by cases h) hav⟩
end Go.Proofs.Ytbkdlhkoiagbbaa
namespace Go.Proofs.Ytbkdlhkoiagbbaa
open Go Go.Lft
def ey (f:Nat→List Int) (n:Nat):List (Int × Int):=(List.range n).flatMap fun a=>(f a).map fun b=>((a:Int),b)
theorem dP {f:Nat→List Int} {n:Nat}:ey f (n+1)=ey f n++(f n).map fun b=>((n:Int),b):=by simp [ey,List.range_succ]
theorem xn {f:Nat→List Int} {n m:Nat} (h:n≤m) : ∃ t,ey f m=ey f n++t:=by
 induction m with
 | zero=>exact ⟨[],by simp [show n=0 by omega]⟩
 | succ m ih=>
  rcases Nat.lt_or_ge n (m+1) with h1 | h1
  ·obtain ⟨t,ht⟩:=ih (by omega)
   exact ⟨t++(f m).map fun b=>((m:Int),b),by rw [dP,ht,List.append_assoc]⟩
  ·exact ⟨[],by simp [show n=m+1 by omega]⟩
theorem xU {f:Nat→List Int} {n a j:Nat} (ha:a<n) (hj:j<(f a).length):(ey f n)[(ey f a).length+j]? = some ((a:Int),nth (f a) j):=by
 obtain ⟨t,ht⟩:=xn (f:=f) (n:=a+1) (m:=n) (by omega)
 rw [ht,dP,List.append_assoc,List.getElem?_append_right (by omega),Nat.add_sub_cancel_left,List.getElem?_append_left (by simpa using hj)]
 simp [aj hj,hj]
def cY (g:Gr):List (Int × Int):=ey (fun a=>nth (bs g) a) g.length
def tE (e:Int × Int):List Value:=[.int .i64 e.1,.int .i64 e.2]
def qQ (g:Gr):List (List Value):=(cY g).map tE
theorem sZ {vg:Value} {h:Heap} :
  ay Try.prog N.du #[vg] h (fun v h'=>v = .func (.func N.aS) #[] #[.pointer (some ⟨h.size,0,none⟩)]∧h'=h.push (.cells vg.cells T.bQ)):=by
 refine an (args:=[vg]) follows F.du E.du (Nat.le_of_ble_eq_true (by kernel_rfl)) fun K hK=>?_
 simp [L.du]
 refine lG rfl ?_
 simp
 exact hK _ _ ⟨rfl,rfl⟩
theorem nC {g:Gr} {vg:Value} {V:View} {p:Addr} (hg:SlRd V vg g) (hp:ah V p=some vg) (hs:Sm g):Iter Try.prog N.aS [.pointer (some p)] V (qQ g):=by
 intro l J W h hM hV hVl h0 hround
 have hW:=(hM true 0).le h0
 refine an (args:=[.func (.yield l) #[] #[],.pointer (some p)]) follows F.aS E.aS (Nat.le_of_ble_eq_true (by kernel_rfl)) fun K hK=>?_
 simp [L.aS,af (View.le_trans hV hW) hp]
 refine aq (by kernel_rfl) (oR (hg.mono (View.le_trans hV hW)) hs) ?_
 rintro vr h1 ⟨W1,m1⟩
 have hJ1:=(hM true 0).grown h0 (Nat.le_refl _) m1.old
 have hr1:=m1.fresh.mono (jo W h h1)
 have hag : ∀ b,b<h.size→grow W h h1 b=W b:=fun b hb=>kI hb
 generalize grow W h h1=W2 at hJ1 hr1 hag
 have hlen:=hr1.bound
 have hcl:=dR (g:=g)
 obtain ⟨rv,hrv⟩:=hr1.rows
 simp [hr1.len]
 have hall : ∀ {a j:Nat},a<(bs g).length→j<(nth (bs g) a).length→(qQ g)[(ey (fun a=>nth (bs g) a) a).length+j]? = some [.int .i64 a,.int .i64 (nth (nth (bs g) a) j)]:=by
  intro a j ha hj
  rw [qQ,List.getElem?_map,cY,xU (f:=fun a=>nth (bs g) a) (by omega) hj];rfl
 refine aA [0,8,9,10] (fun (_:Unit) k=>[.func (.yield l) #[] #[],vr,.int .i64 (bs g).length,.int .i64 k]) (fun _ k h2=>J true (ey (fun a=>nth (bs g) a) k).length W2 h2) (bs g).length ()
  rfl (by omega) rfl hJ1 (fun _ _=>rfl) (fun v k h1 hk m=>by simp) ?_ ?_
 ·intro _ a h2 hlt hJ2 K2 hK2
  have hW2:=(hM _ _).le hJ2
  obtain ⟨cv,rr⟩:=hrv a hlt
  have br:=rr.bound
  simp (disch:=omega) [hr1.idx1 rfl,cv _ hW2,rr.len]
  refine aA [0,8,9,10,3,15,16,17] (fun (_:Unit) j=>[.func (.yield l) #[] #[],vr,.int .i64 (bs g).length,.int .i64 a,.int .i64 a,rv a,.int .i64 (nth (bs g) a).length,.int .i64 j])
   (fun _ j h3=>J true ((ey (fun a=>nth (bs g) a) a).length+j) W2 h3) (nth (bs g) a).length () rfl (by omega) rfl hJ2 (fun _ _=>rfl) (fun v k h1 hk m=>by simp) ?_ ?_
  ·intro _ j h3 hlt3 hJ3 K3 hK3
   have hW3:=(hM _ _).le hJ3
   simp (disch:=omega) [rr.idx1 rfl,rr.int hW3]
   refine zw (ops:=[.tmp 22,.tmp 23]) rfl (by simpa using hround _ _ W2 h3 hag (hall hlt hlt3) hJ3) ?_
   rintro b h4 ⟨W4,e1,e2,hJ4⟩
   cases b with
   | true=>
    obtain rfl:=e2 rfl
    simp [dT]
    exact hK3 () _ _ rfl rfl hJ4
   | false=>
    simp [dT]
    exact hK _ _ ⟨false,_,W4,fun i hi hne=>by rw [e1 i hne,hag i hi],hJ4,fun h=>by cases h⟩
  ·intro _ h3 hJ3
   simp
   refine hK2 () _ _ rfl rfl ?_
   rw [dP,List.length_append,List.length_map];exact hJ3
 ·intro _ h2 hJ2
  simp
  refine hK _ _ ⟨true,_,W2,fun i hi _=>hag i hi,hJ2,fun _=>?_⟩
  rw [qQ,List.length_map,cY,hcl]
end Go.Proofs.Ytbkdlhkoiagbbaa
namespace Go.Proofs.Ytbkdlhkoiagbbaa
open Go Go.Lft
def cZ (p:Gr) (e:Int × Int):Gr:=p.set e.2.toNat (nth p e.2.toNat++[e.1])
def bm (g:Gr):Gr:=(cY g).foldl cZ (List.replicate g.length [])
theorem nU {β γ:Type} {f:β→γ→β} {l:List γ} {k:Nat} {x:γ} {b:β} (h:l[k]? = some x):(l.take (k+1)).foldl f b=f ((l.take k).foldl f b) x:=by
 rw [List.take_add_one,h,List.foldl_append];rfl
theorem iJ {g:Gr} {e:Int × Int} (h:e∈cY g):(0≤e.1∧e.1<g.length)∧0≤e.2∧e.2<g.length:=by
 simp only [cY,ey,List.mem_flatMap,List.mem_range,List.mem_map] at h
 obtain ⟨a,ha,b,hb,rfl⟩:=h
 obtain ⟨j,hj,rfl⟩:=List.getElem_of_mem hb
 have:=mV a (by rw [dR];exact ha) j hj
 rw [dR,aj hj] at this
 exact ⟨⟨by omega,by simp only;omega⟩,this⟩
theorem gY {l:List (Int × Int)} {p:Gr}:(l.foldl cZ p).length=p.length:=by
 induction l generalizing p with
 | nil=>rfl
 | cons e l ih=>rw [List.foldl_cons,ih];simp [cZ]
theorem tP {l:List (Int × Int)} {p:Gr} {i m:Nat} (hp:(nth p i).length≤m):(nth (l.foldl cZ p) i).length≤m+l.length:=by
 induction l generalizing p m with
 | nil=>exact hp
 | cons e l ih=>
  rw [List.foldl_cons]
  have:=ih (p:=cZ p e) (m:=m+1) ?_
  ·simp only [List.length_cons];omega
  ·unfold cZ
   rcases Nat.lt_or_ge i p.length with hi | hi
   ·rw [az hi]
    split
    ·rename_i h;rw [h];simp;omega
    ·omega
   ·rw [aU (by simpa using hi)];simp [default]
theorem qn {row:List Int} {n:Int}:(gw row n).length≤row.length:=by
 have h1:=pq (p:=jH row n) (x:=fun i=>nth row i) row.length
 have h2:(j9 (sift (jH row n) (fun i=>nth row i) row.length)).length=(sift (jH row n) (fun i=>nth row i) row.length).length:=List.length_mergeSort _
 have h3:=nS (l:=j9 (sift (jH row n) (fun i=>nth row i) row.length))
 rw [gw];omega
theorem xa {f:Nat→List Int} {n m:Nat} (h : ∀ a,a<n→(f a).length≤m):(ey f n).length≤n*m:=by
 induction n with
 | zero=>simp [ey]
 | succ n ih=>
  have:=ih fun a ha=>h a (by omega)
  have:=h n (by omega)
  rw [dP,List.length_append,List.length_map,Nat.succ_mul];omega
theorem lM {g:Gr} (hs:Sm g):(cY g).length≤1000000000000:=by
 have h1:=xa (f:=fun a=>nth (bs g) a) (n:=g.length) (m:=1000000) fun a ha=>by
  have:=hs.2 a ha
  rw [bs,cm ha]
  exact Nat.le_trans qn this
 have h2:g.length*1000000≤1000000*1000000:=Nat.mul_le_mul_right _ hs.1
 rw [cY];omega
theorem pg {g:Gr} {vg:Value} {h:Heap} (hg:SlRd (vw h) vg g) (hs:Sm g) :
  ay Try.prog N.dt #[vg] h (fun v h'=>(vw h).le (vw h')∧SlRd (fresh h h') v (bm g)):=by
 refine nL (args:=[vg]) follows F.dt E.dt (Nat.le_of_ble_eq_true (by kernel_rfl)) fun K hK=>?_
 have hs1:=hs.1
 have hel:=lM hs
 simp [L.dt,hg.len]
 refine yP (n:=g.length) El.bQ (by simp<;>rfl) (by simp<;>rfl) rfl (by omega) (by omega) ?_
 refine mK (z:=.slice none 0 0) (v:=.slice (some ⟨h.size,0,none⟩) g.length g.length) (by kernel_rfl) rfl (by kernel_rfl) rfl rfl (fun _=>by simp) (fun _=>by simp) fun h2 hle2 hsz2 hB2=>?_
 have hle02:(vw h).le (vw h2):=View.le_trans (bg _ _) hle2
 have hg2:h2[h.size]? = some (.cells (List.replicate g.length (.slice none 0 0)).toArray T.bV (0,0)):=hle2 _ _ (show (h.push _)[h.size]? = _ by simp)
 simp at hsz2 hB2
 simp
 refine aq (by kernel_rfl) sZ ?_
 rintro _ _ ⟨rfl,rfl⟩
 have hgc:=hg.cells.1
 rw [hgc]
 have hle3:=bg h2 (.cells #[vg] T.bQ)
 generalize hh3:h2.push (.cells #[vg] T.bQ)=h3 at hle3
 have hsz3:h3.size=h.size+3:=by rw [←hh3];simp [hsz2]
 obtain ⟨W0,hW0⟩ : ∃ W:View,W=fun b=>if b=h.size then none else h3[b]?:=⟨_,rfl⟩
 have hW0le:W0.le (vw h3):=fun b o hb=>by
  rw [hW0] at hb;simp only at hb
  split at hb
  ·cases hb
  ·exact hb
 have h0W:(vw h).le W0:=fun b o hb=>by
  have hlt:=View.lt (View.le_refl (vw h)) hb
  rw [hW0];simp only
  rw [if_neg (by omega)]
  exact View.le_trans hle02 hle3 b o hb
 have hp3:ah W0 ⟨h2.size,0,none⟩=some vg:=by
  have e:W0 h2.size=some (.cells #[vg] T.bQ (0,0)):=by rw [hW0];simp only;rw [if_neg (by omega),←hh3];simp
  simp [ah,e]
 have hB3:W0 (h.size+1)=some (.cells #[.slice (some ⟨h.size,0,none⟩) g.length g.length] T.bQ (0,0)):=by
  rw [hW0];simp only;rw [if_neg (by omega)]
  exact hle3 _ _ hB2
 refine oM (enc:=tE) (all:=cY g) (gf:=N.aS) (caps:=[.pointer (some ⟨h2.size,0,none⟩)]) W0 W0 (fun e k W h'=>e=none∧∃ rv,Rw W h' T.bV T.int h.size rv (((cY g).take k).foldl cZ (List.replicate g.length [])))
  rfl (by kernel_rfl) (nC (hg.mono h0W) hp3 hs) (fun _=>rfl) (View.le_refl _) (fun e k=>⟨fun ⟨_,rv,r⟩=>r.wle,fun ⟨a,rv,r⟩ _ h1 h2 _=>⟨a,rv,r.move h1 h2⟩⟩) ⟨rfl,_,Rw.start hW0le (by rw [hW0];simp) (hle3 _ _ hg2)⟩
  (fun x h1=>by simp [tE,bT];rfl) ?_ ?_ ?_
 ·rintro k e W h1 hag hk ⟨_,rv,r⟩ K2 hK2 _
  have he:=iJ (List.mem_of_getElem? hk)
  have hk1:k<(cY g).length:=(List.getElem?_eq_some_iff.1 hk).1
  have hst:=nU (f:=cZ) (b:=List.replicate g.length []) hk
  have hpl:=gY (l:=(cY g).take k) (p:=List.replicate g.length [])
  have hrl:=tP (l:=(cY g).take k) (p:=List.replicate g.length []) (i:=e.2.toNat) (m:=0) (by rw [aB (by omega)];simp)
  rw [List.length_take] at hrl
  rw [List.length_replicate] at hpl
  generalize hp:((cY g).take k).foldl cZ (List.replicate g.length [])=p at r hst hpl hrl
  have hlt:=r.lt
  have hB1:h1[h.size+1]? = some (.cells #[.slice (some ⟨h.size,0,none⟩) g.length g.length] T.bQ (0,0)):=r.wle _ _ (by rw [hag _ (by omega)];exact hB3)
  have hlt1:=(Array.getElem?_eq_some_iff.1 hB1).1
  obtain ⟨H,hH⟩ : ∃ H:View,H=fun b=>if b=h.size∨b=h.size+1 then h1[b]? else none:=⟨_,rfl⟩
  have hHle:H.le (vw h1):=fun b o hb=>by
   rw [hH] at hb;simp only at hb
   split at hb
   ·exact hb
   ·cases hb
  have c1:ah H ⟨h.size+1,0,none⟩=some (.slice (some ⟨h.size,0,none⟩) g.length g.length):=aY (by rw [hH];simp only;rw [if_pos (by simp)];exact hB1) rfl
  have hlen:=r.len
  have c2:ah H ⟨h.size,e.2.toNat,none⟩=some (nth rv e.2.toNat):=aY (by rw [hH];simp only;rw [if_pos (by simp)];exact r.blk) (by rw [aj (by omega)];simp)
  refine eI H hHle ?_
  simp (disch:=omega) [c1,c2,Ax]
  refine nj (α:=Int) (W:=nothing) El.bV (by simp<;>rfl) (kY (by omega) (by omega)) fun u h4 hsrc hle4 _=>⟨View.le_trans hHle hle4,?_⟩
  have r4:=r.ext hle4
  have hi:e.2.toNat<p.length:=by omega
  refine eg El.bV (by simp) (by simp) (r4.own _ hi) hsrc (by simp;omega) (by simp;omega) fun v' h5 o5 m5=>?_
  have hg5:h5[h.size]? = some (.cells rv.toArray T.bV (0,0)):=by rw [m5.kept.block _ r4.lt (fun e=>r4.ng _ hi e.symm)];exact r4.blk
  obtain ⟨hcells,hone⟩:=gC o5
  have hH5:H.le (vw h5):=by
   intro b o hb
   have hlt4:=View.lt (View.le_trans hHle hle4) hb
   have h4b:=View.le_trans hHle hle4 b o hb
   show h5[b]? = _
   rw [m5.kept.block b hlt4 ?_]
   ·exact h4b
   ·rw [hH] at hb;simp only at hb
    split at hb
    ·rename_i e1
     rcases e1 with rfl | rfl
     ·exact fun e=>r4.ng _ hi e.symm
     ·intro e
      have:=r4.av _ hi _ e.symm
      rw [hag _ (by omega),hB3] at this;cases this
    ·cases hb
  refine ⟨hH5,?_⟩
  refine cJ (g:=h.size) (o:=e.2.toNat) (n:=1) (v:=v') (by kernel_rfl) (by simp) (by simp) (by rw [hcells];rfl) (by rw [hcells];simpa using hone) hg5 (by simp;omega) fun h6 hsz6 ⟨row,hrow,hre⟩ hoth=>?_
  refine hK2 _ _ ⟨rfl,rv.set e.2.toNat v',?_⟩
  rw [hst,cZ]
  have hrow2:row=(rv.set e.2.toNat v').toArray:=by
   rw [←Array.toList_inj,hre,hcells,List.set_eq_take_append_cons_drop,if_pos (by omega)]
   simp
  rw [hrow2] at hrow
  exact r4.put hi o5 m5 hrow hoth hsz6
 ·rintro W h1 hag ⟨_,rv,r⟩
  rw [List.take_of_length_le (Nat.le_refl _)] at r
  have hB1:h1[h.size+1]? = some (.cells #[.slice (some ⟨h.size,0,none⟩) g.length g.length] T.bQ (0,0)):=r.wle _ _ (by rw [hag _ (by omega)];exact hB3)
  have c1:ah (vw h1) ⟨h.size+1,0,none⟩=some (.slice (some ⟨h.size,0,none⟩) g.length g.length):=aY hB1 rfl
  simp [c1]
  intro h4 hsw
  have hWW:(vw h).le W:=fun b o hb=>by rw [hag b (by have:=View.lt (View.le_refl (vw h)) hb;omega)];exact h0W b o hb
  have hfl:=gY (l:=cY g) (p:=List.replicate g.length [])
  rw [List.length_replicate] at hfl
  have hfr:=r.fresh hWW (by omega)
  rw [hfl] at hfr
  exact ⟨_,rfl,hK _ _ ⟨hsw.ext (View.le_trans hWW r.wle),hsw.rd hfr⟩⟩
 ·rintro e k W h1 hag ⟨hne,_⟩
  cases hne
end Go.Proofs.Ytbkdlhkoiagbbaa
namespace Go.Proofs.Ytbkdlhkoiagbbaa
open Go Go.Lft
def dr (n:Nat) (order:List Int):List Int:=up (fun i l=>l.set (nth order i).toNat (i:Int)) order.length (List.replicate n (-1))
def bstS (out number:List Int) (n:Nat):List Int→Int→Option Int
 | [],best=>some best
 | a::l,best=>
  if 0≤a∧a<n then
   if nth number a.toNat<0∨(a≠0∧nth out a.toNat<0) then bstS out number n l best
   else if best<0 then bstS out number n l a
   else (fT out number (2*n+2) best a).bind (bstS out number n l)
  else none
def setS (out:List Int) (ch:Bool) (b best:Int):List Int × Bool:=if nth out b.toNat≠best then (out.set b.toNat best,true) else (out,ch)
def lA (number:List Int) (preds:Gr) (n:Nat):List Int→List Int × Bool→Option (List Int × Bool)
 | [],s=>some s
 | b::l,s=>
  if 0≤b∧b<n then (bstS s.1 number n (nth preds b.toNat) (-1)).bind fun best=>lA number preds n l (setS s.1 s.2 b best)
  else none
def iO (number:List Int) (preds:Gr) (n:Nat) (tail:List Int):Nat→List Int→Option (List Int)
 | 0,_=>none
 | m+1,out=>(lA number preds n tail (out,false)).bind fun s=>if s.2 then iO number preds n tail m s.1 else some s.1
def qm (g:Gr) (fuel:Nat):Option (List Int):=
 iO (dr g.length (aC g)) (bm g) g.length ((aC g).drop (min 1 (aC g).length)) fuel (List.replicate g.length (-1))
theorem eU {out number:List Int} {c:Int} : ∀ {k:Nat} {x y:Int},fT out number k x y=some c→0≤c∧c<number.length
 | 0,x,y,h=>by cases h
 | k+1,x,y,h=>by
  rw [fT] at h
  split at h
  case isFalse=>cases h
  rename_i hr
  split at h
  ·exact eU h
  ·split at h
   ·exact eU h
   ·cases h;omega
theorem uh {out number:List Int} {n:Nat} : ∀ {l:List Int} {best r:Int},(-1≤best∧best<n)→out.length=n→number.length=n→(∀ i,i<n→-1≤nth out i∧nth out i<n)→bstS out number n l best=some r→-1≤r∧r<n:=by
 intro l
 induction l with
 | nil=>intro best r hb _ _ _ h;simp only [bstS,Option.some.injEq] at h;subst h;exact hb
 | cons a l ih=>
  intro best r hb h1 h2 h3 h
  rw [bstS] at h
  split at h
  case isFalse=>cases h
  rename_i ha
  split at h
  ·exact ih hb h1 h2 h3 h
  ·split at h
   ·exact ih ⟨by omega,by omega⟩ h1 h2 h3 h
   ·simp only [Option.bind_eq_some_iff] at h
    obtain ⟨c,hc,h⟩:=h
    refine ih ?_ h1 h2 h3 h
    have:=eU hc
    omega
structure OvOk (m M:Nat) (s:List Bool × List Int):Prop where
 len:s.1.length=m
 cnt:s.2.length+bM s.1≤M
 rng : ∀ x∈s.2,0≤x∧x<m
theorem tR {nx:Int→List Int} {m:Nat} (hnx : ∀ a:Int,0≤a→a<m→∀ i,i<(nx a).length→0≤nth (nx a) i∧nth (nx a) i<m) : ∀ (n M:Nat) (a:Int) (s:List Bool × List Int),0≤a→a<m→nth s.1 a.toNat=false→OvOk m M s→OvOk m M (fo nx n a s)
 | 0,_,_,_,_,_,_,h=>h
 | n+1,M,a,s,h0,h1,hf,h=>by
  rw [fQ]
  have hlen:=h.len
  have hfs:=eZ (t:=s.1) (i:=a.toNat) (by omega) hf
  have hc:=h.cnt
  have hup : ∀ k,k≤(nx a).length→OvOk m (M-1) (up (bn nx n a) k (s.1.set a.toNat true,s.2)):=by
   intro k
   induction k with
   | zero=>exact fun _=>⟨by simpa [up] using hlen,by simp only [up];omega,h.rng⟩
   | succ k ih=>
    intro hk
    have:=ih (by omega)
    rw [up]
    generalize up (bn nx n a) k (s.1.set a.toNat true,s.2)=z at this
    unfold bn
    split
    ·exact this
    ·rename_i hz
     obtain ⟨e0,e1⟩:=hnx a h0 h1 k (by omega)
     exact tR hnx n (M-1) _ z e0 e1 (by simpa using hz) this
  have:=hup _ (Nat.le_refl _)
  exact ⟨this.len,by have:=this.cnt;simp;omega,fun x hx=>by
   rcases List.mem_append.1 hx with hx | hx
   ·exact this.rng x hx
   ·simp only [List.mem_singleton] at hx;subst hx;exact ⟨h0,h1⟩⟩
theorem qB {nx:Int→List Int} {m:Nat} (hnx : ∀ a:Int,0≤a→a<m→∀ i,i<(nx a).length→0≤nth (nx a) i∧nth (nx a) i<m):(gq nx m).length≤m∧∀ x∈gq nx m,0≤x∧x<m:=by
 unfold gq
 split
 ·simp
 ·rename_i h0
  have:=tR hnx m m 0 (List.replicate m false,[]) (by omega) (by omega) (aB (by simp;omega)) ⟨by simp,by simp [bM],by simp⟩
  refine ⟨?_,fun x hx=>this.rng x (by simpa using hx)⟩
  have:=this.cnt
  simp;omega
theorem AY {g:Gr} : ∀ a:Int,0≤a→a<(g.length:Int)→∀ i,i<(nx (bs g) a).length→0≤nth (nx (bs g) a) i∧nth (nx (bs g) a) i<g.length:=by
 intro a h0 h1 i hi
 have:=mV a.toNat (by rw [dR];omega) i hi
 rwa [dR] at this
theorem xt {g:Gr} {i:Nat} (hi:i<(aC g).length):0≤nth (aC g) i∧nth (aC g) i<g.length:=
 (qB AY).2 _ (bW hi)
theorem lW {g:Gr}:(aC g).length≤g.length:=(qB AY).1
theorem mN {g:Gr} : ∀ {l:List (Int × Int)} {p:Gr},(∀ e∈l,0≤e.1∧e.1<g.length)→(∀ i,∀ x∈nth p i,0≤x∧x<g.length)→∀ i,∀ x∈nth (l.foldl cZ p) i,0≤x∧x<g.length:=by
 intro l
 induction l with
 | nil=>exact fun _ h=>h
 | cons e l ih=>
  intro p hl hp
  rw [List.foldl_cons]
  refine ih (fun e' he'=>hl e' (List.mem_cons_of_mem _ he')) fun i x hx=>?_
  unfold cZ at hx
  rcases Nat.lt_or_ge i p.length with hi | hi
  ·rw [az hi] at hx
   split at hx
   ·rcases List.mem_append.1 hx with hx | hx
    ·exact hp _ x hx
    ·simp only [List.mem_singleton] at hx;subst hx;exact hl e (List.mem_cons_self ..)
   ·exact hp _ x hx
  ·rw [aU (by simpa using hi)] at hx;cases hx
end Go.Proofs.Ytbkdlhkoiagbbaa
namespace Go.Proofs.Ytbkdlhkoiagbbaa
open Go Go.Lft
theorem oO {h h':Heap} {v v':Value} (m:gB h h' v v') {W:View} (hw:W.le (vw h)) (ha:Av W v):W.le (vw h'):=(m.view hw ha).1
theorem Aq {g:Gr} {vg:Value} {h:Heap} {fuel:Nat} {l:List Int} (hg:SlRd (vw h) vg g) (hs:Sm g) (hl:qm g fuel=some l) :
  ay Try.prog N.a7 #[vg] h (fun v h'=>∃ W,Mine nothing h h' W T.int v l):=by
 refine an (args:=[vg]) follows F.a7 E.a7 (Nat.le_of_ble_eq_true (by kernel_rfl)) fun K hK=>?_
 have hs1:=hs.1
 simp [L.a7,hg.len]
 refine aq (by kernel_rfl) (tz hg hs) ?_
 rintro vo h1 ⟨hle1,ho⟩
 have hoin:=@xt g
 have holen:=lW (g:=g)
 rw [qm] at hl
 generalize aC g=order at ho hoin holen hl
 refine Mine.made (V:=nothing) (W:=nothing) (h0:=h) (n:=g.length) (d:=(0:Int)) El.bV hle1 (fun _ _ h=>by cases h) (Old.nothing _ _) (by simp<;>rfl) (by simp<;>rfl) ⟨rfl,by omega,by omega⟩ (by omega) (by omega) fun vn h2 mn hle2 hbn=>?_
 refine Mine.made (V:=nothing) (W:=nothing) (h0:=h) (n:=g.length) (d:=(0:Int)) El.bV mn.old (fun _ _ h=>by cases h) (Old.nothing _ _) (by simp<;>rfl) (by simp<;>rfl) ⟨rfl,by omega,by omega⟩ (by omega) (by omega) fun vi h3 mi hle3 hbi=>?_
 have mn3:=mn.ext' hle3
 have hne:vn.ownBlock≠vi.ownBlock:=by
  have:=mn.own.lt hbn
  rw [hbn,hbi];intro e;simp only [Option.some.injEq] at e;omega
 have hle13:(vw h1).le (vw h3):=View.le_trans hle2 hle3
 have av1n:Av (vw h1) vn:=fun b hb=>by rw [hbn] at hb;cases hb;exact View.da (View.le_refl _) (Nat.le_refl _)
 have av1i:Av (vw h1) vi:=fun b hb=>by rw [hbi] at hb;cases hb;exact View.da hle2 (Nat.le_refl _)
 refine aA [0,3,4,5,25,26] (fun (_:Unit) k=>[vg,vo,vn,vi,.int .i64 g.length,.int .i64 k])
  (fun _ k h4=>Mine nothing h h4 nothing T.int vn (rows (fun _=>(-1:Int)) k++List.replicate (g.length-k) 0)∧Mine nothing h h4 nothing T.int vi (rows (fun _=>(-1:Int)) k++List.replicate (g.length-k) 0)∧(vw h1).le (vw h4)) g.length ()
  rfl (by omega) rfl ⟨by simpa using mn3,by simpa using mi,hle13⟩ (fun _ _=>rfl) (fun v k h1 hk m=>by simp) ?_ ?_
 ·rintro _ k h4 hlt ⟨m4n,m4i,hle4⟩ K2 hK2
  have hlk:(rows (fun _=>(-1:Int)) k++List.replicate (g.length-k) (0:Int)).length=g.length:=by simp;omega
  simp (disch:=omega) [m4n.now.idx1 rfl,m4i.now.idx1 rfl]
  refine mL (W:=nothing) (i:=k) (d:=(-1:Int)) (by kernel_rfl) (by simp [show Rep.n Int=1 from rfl]) (by simp<;>rfl) m4n.own (by omega) (kY (by omega) (by omega)) fun h5 o5 mv5=>?_
  have m5n:=m4n.jB o5 mv5
  have m5i:=m4i.beside m5n mv5 (.inr (Ne.symm hne))
  refine mL (W:=nothing) (i:=k) (d:=(-1:Int)) (by kernel_rfl) (by simp [show Rep.n Int=1 from rfl]) (by simp<;>rfl) m5i.own (by omega) (kY (by omega) (by omega)) fun h6 o6 mv6=>?_
  have m6i:=m5i.jB o6 mv6
  have m6n:=m5n.beside m6i mv6 (.inr hne)
  rw [ie (x:=fun _=>(-1:Int)) hlt] at m6i m6n
  exact hK2 () _ _ rfl rfl ⟨m6n,m6i,oO mv6 (oO mv5 hle4 av1n) av1i⟩
 ·rintro _ h4 ⟨m4n,m4i,hle4⟩
  have hrows:rows (fun _=>(-1:Int)) g.length=List.replicate g.length (-1):=by
   refine List.ext_getElem (by simp) fun i h1 h2=>?_
   simp [rows]
  rw [hrows] at m4n m4i
  simp only [Nat.sub_self,List.replicate_zero,List.append_nil] at m4n m4i
  have ho1:=ho.mono (fu h h1)
  simp [ho1.len]
  refine aA [0,3,4,5,36,37,38] (fun (_:Unit) k=>[vg,vo,vn,vi,vo,.int .i64 order.length,.int .i64 k])
   (fun _ k h5=>Mine nothing h h5 nothing T.int vn (up (fun i l=>l.set (nth order i).toNat (i:Int)) k (List.replicate g.length (-1)))∧Mine nothing h h5 nothing T.int vi (List.replicate g.length (-1))∧(vw h1).le (vw h5)) order.length ()
   rfl (by omega) rfl ⟨m4n,m4i,hle4⟩ (fun _ _=>rfl) (fun v k h1 hk m=>by simp) ?_ ?_
  ·rintro _ k h5 hlt ⟨m5n,m5i,hle5⟩ K2 hK2
   have hlen5:(up (fun i l=>l.set (nth order i).toNat (i:Int)) k (List.replicate g.length (-1))).length=g.length:=by
    rw [qJ List.length (fun _ _=>by simp)];simp
   have ho5:=ho1.mono hle5
   obtain ⟨e0,e1⟩:=hoin hlt
   simp (disch:=omega) [ho5.idx1 rfl,ho5.int (View.le_refl _),m5n.now.idx1 rfl]
   refine mL (W:=nothing) (i:=(nth order k).toNat) (d:=(k:Int)) (by kernel_rfl) (by simp [show Rep.n Int=1 from rfl]) (by simp<;>rfl) m5n.own (by omega) (kY (by omega) (by omega)) fun h6 o6 mv6=>?_
   have m6n:=m5n.jB o6 mv6
   exact hK2 () _ _ rfl rfl ⟨m6n,m5i.beside m6n mv6 (.inr (Ne.symm hne)),oO mv6 hle5 av1n⟩
  ·rintro _ h5 ⟨m5n,m5i,hle5⟩
   have hnum:up (fun i l=>l.set (nth order i).toNat (i:Int)) order.length (List.replicate g.length (-1))=dr g.length order:=rfl
   rw [hnum] at m5n
   have hnl:(dr g.length order).length=g.length:=by rw [dr,qJ List.length (fun _ _=>by simp)];simp
   simp
   refine aq (by kernel_rfl) (pg (hg.mono m5n.old) hs) ?_
   rintro vp h6 ⟨hle6,hp⟩
   have hpl:(bm g).length=g.length:=by rw [bm,gY];simp
   have hpin : ∀ i,∀ x∈nth (bm g) i,0≤x∧x<g.length:=mN (fun e he=>(iJ he).1) (fun i x hx=>by
    rcases Nat.lt_or_ge i g.length with hi | hi
    ·rw [aB hi] at hx;cases hx
    ·rw [aU (by simpa using hi)] at hx;cases hx)
   have m6:=(m5i.ext' hle6).over
   have hn6:SlRd (but vi h6) vn (dr g.length order):=(m5n.own.rd (V:=but vi h5) (fun _ _ h=>by cases h) (fun b hb=>by unfold but;rw [if_neg (fun e=>hne (hb.trans e.symm))])).mono (tI hle6)
   have hp6:SlRd (but vi h6) vp (bm g):=hp.mono fun b o hb=>by
    have hb2:=fu _ _ b o hb
    unfold but
    split
    ·rename_i e
     have:=m5i.own.lt e
     unfold fresh at hb;rw [if_pos this] at hb;cases hb
    ·exact hb2
   have ho6:SlRd (but vi h6) vo order:=ho1.mono (View.le_trans (Bt hle5 av1i) (tI hle6))
   generalize hW:but vi h6=W at m6 hn6 hp6 ho6
   generalize dr g.length order=number at hn6 hnl hl
   generalize hpr:bm g=preds at hp6 hpl hpin hl
   obtain ⟨pv,hpv⟩:=hp6.rows
   refine gX [3,4,5,9,10] (fun m ρ h7=>∃ (out:List Int) (ch:Bool),ρ=[(3,vo),(4,vn),(5,vi),(9,vp),(10,.bool ch)]∧Mine (vw h) h h7 W T.int vi out∧out.length=g.length∧(∀ i,i<g.length→-1≤nth out i∧nth out i<g.length)∧
    (ch=true→iO number preds g.length (order.drop (min 1 order.length)) m out=some l)∧(ch=false→out=l)) fuel
    ⟨_,true,rfl,m6,by simp,fun i hi=>by rw [aB hi];omega,fun _=>hl,fun h=>by cases h⟩ ?_
   rintro m ρ h7 ⟨out,ch,rfl,m7,hol,hor,hch1,hch2⟩ K2 hK2
   cases ch with
   | false=>
    simp [L.a7.l3,dT]
    have:=hch2 rfl
    subst this
    exact hK _ _ ⟨_,m7.Cw⟩
   | true=>
    have hit:=hch1 rfl
    cases m with
    | zero=>cases hit
    | succ m=>
     rw [iO,Option.bind_eq_some_iff] at hit
     obtain ⟨⟨out',ch'⟩,hsw,hfin⟩:=hit
     simp only at hfin
     simp [L.a7.l3,dT]
     have hmin:(if (order.length:Int)<1 then (order.length:Int) else 1)=((min 1 order.length:Nat):Int):=by split<;>omega
     obtain ⟨u,hu,hur⟩:=ho6.drop (n:=min 1 order.length) (by omega) (kd:=.i64)
     rw [show Rep.n Int=1 from rfl] at hu
     have hti : ∀ j,j<(order.drop (min 1 order.length)).length→nth (order.drop (min 1 order.length)) j=nth order (min 1 order.length+j):=by
      intro j hj
      rw [List.length_drop] at hj
      rw [aj (by rw [List.length_drop];omega),aj (by omega),List.getElem_drop]
     generalize order.drop (min 1 order.length)=tail at hur hti hsw hfin hK2
     simp only [ho6.len,Option.bind_some,Bp,hmin,hu,hur.len,gW,bT]
     have hub:=hur.bound
     simp
     refine aA [3,4,5,9,10,55,56,57] (fun (s:List Int × Bool) k=>[vo,vn,vi,vp,.bool s.2,u,.int .i64 tail.length,.int .i64 k])
      (fun s k h8=>Mine (vw h) h h8 W T.int vi s.1∧s.1.length=g.length∧(∀ i,i<g.length→-1≤nth s.1 i∧nth s.1 i<g.length)∧lA number preds g.length (tail.drop k) s=some (out',ch')) tail.length (out,false)
      rfl (by omega) rfl ⟨m7,hol,hor,by simpa using hsw⟩ (fun _ _=>rfl) (fun v k h1 hk m=>by simp) ?_ ?_
     ·rintro ⟨o8,c8⟩ k h8 hlt8 ⟨m8,hol8,hor8,hs8⟩ K3 hK3
      simp only at m8 hol8 hor8
      rw [List.drop_eq_getElem_cons hlt8,←aj hlt8,lA] at hs8
      split at hs8
      case isFalse=>cases hs8
      rename_i hb
      rw [Option.bind_eq_some_iff] at hs8
      obtain ⟨best,hbest,hs8⟩:=hs8
      simp only at hbest hs8
      have hb2:=uh (by omega) hol8 hnl hor8 hbest
      generalize hbe:nth tail k=b at hb hbest hs8
      obtain ⟨cv,rr⟩:=hpv b.toNat (by omega)
      have br:=rr.bound
      simp (disch:=omega) [hur.idx1 rfl,hur.int m8.wle,hbe,hp6.idx1 rfl,cv _ m8.wle,rr.len]
      refine aA [3,4,5,9,10,55,56,57,12,13,64,65,66] (fun (bst:Int) j=>[vo,vn,vi,vp,.bool c8,u,.int .i64 tail.length,.int .i64 k,.int .i64 b,.int .i64 bst,pv b.toNat,.int .i64 (nth preds b.toNat).length,.int .i64 j])
       (fun bst j h9=>Mine (vw h) h h9 W T.int vi o8∧(-1≤bst∧bst<g.length)∧bstS o8 number g.length ((nth preds b.toNat).drop j) bst=some best) (nth preds b.toNat).length (-1)
       rfl (by omega) rfl ⟨m8,by omega,by simpa using hbest⟩ (fun _ _=>rfl) (fun v k h1 hk m=>by simp) ?_ ?_
      ·rintro bst j h9 hlt9 ⟨m9,hb9,hs9⟩ K4 hK4
       rw [List.drop_eq_getElem_cons hlt9,←aj hlt9,bstS] at hs9
       have ha:=hpin _ _ (bW hlt9)
       rw [if_pos ha] at hs9
       have hra:=rr.int m9.wle hlt9
       generalize nth (nth preds b.toNat) j=a at hs9 ha hra
       have hn9:=hn6.int m9.wle (i:=a.toNat) (by omega)
       have ho9:=m9.now.int (View.le_refl _) (i:=a.toNat) (by omega)
       have hi9:=m9.now
       by_cases c1:nth number a.toNat<0
       ·rw [if_pos (.inl c1)] at hs9
        simp (disch:=omega) [rr.idx1 rfl,hra,hn6.idx1 rfl,hn9,c1,hi9.idx1 rfl,ho9]
        exact hK4 bst _ _ rfl rfl ⟨m9,hb9,hs9⟩
       ·by_cases c2:a=0
        ·rw [if_neg (by rintro (h | h);exact c1 h;exact h.1 c2)] at hs9
         subst c2
         rw [Int.toNat_zero] at hn9 ho9 c1
         simp (disch:=omega) [rr.idx1 rfl,hra,hn6.idx1 rfl,hn9,c1,hi9.idx1 rfl,ho9]
         refine ⟨fun c4=>?_,fun c4=>?_⟩
         ·rw [if_pos c4] at hs9
          exact hK4 _ _ _ rfl rfl ⟨m9,by omega,hs9⟩
         ·rw [if_neg (by omega),Option.bind_eq_some_iff] at hs9
          obtain ⟨c,hc,hs9⟩:=hs9
          have hcr:=eU hc
          refine aq (by kernel_rfl) (qt m9.now (hn6.mono m9.wle) hc) ?_
          rintro _ _ ⟨rfl,rfl⟩
          exact hK4 c _ _ rfl rfl ⟨m9,by omega,hs9⟩
        ·by_cases c3:nth o8 a.toNat<0
         ·rw [if_pos (.inr ⟨c2,c3⟩)] at hs9
          simp (disch:=omega) [rr.idx1 rfl,hra,hn6.idx1 rfl,hn9,c1,c2,hi9.idx1 rfl,ho9,c3]
          exact hK4 bst _ _ rfl rfl ⟨m9,hb9,hs9⟩
         ·rw [if_neg (by rintro (h | h);exact c1 h;exact c3 h.2)] at hs9
          simp (disch:=omega) [rr.idx1 rfl,hra,hn6.idx1 rfl,hn9,c1,c2,hi9.idx1 rfl,ho9,c3]
          refine ⟨fun c4=>?_,fun c4=>?_⟩
          ·rw [if_pos c4] at hs9
           exact hK4 _ _ _ rfl rfl ⟨m9,by omega,hs9⟩
          ·rw [if_neg (by omega),Option.bind_eq_some_iff] at hs9
           obtain ⟨c,hc,hs9⟩:=hs9
           have hcr:=eU hc
           refine aq (by kernel_rfl) (qt m9.now (hn6.mono m9.wle) hc) ?_
           rintro _ _ ⟨rfl,rfl⟩
           exact hK4 c _ _ rfl rfl ⟨m9,by omega,hs9⟩
      ·rintro bst h9 ⟨m9,hb9,hs9⟩
       simp only [List.drop_length,bstS,Option.some.injEq] at hs9
       subst hs9
       simp (disch:=omega) [m9.now.idx1 rfl,m9.now.int (View.le_refl _)]
       refine ⟨fun e=>hK3 (o8,c8) _ _ rfl rfl ⟨m9,hol8,hor8,by rw [setS,if_neg (by simpa using e)] at hs8;exact hs8⟩,fun e=>?_⟩
       refine m9.put1 (α:=Int) (i:=b.toNat) (by kernel_rfl) rfl (by simp) (by simp<;>rfl) (by omega) (kY (by omega) (by omega)) fun h10 m10=>hK3 (o8.set b.toNat bst,true) _ _ rfl rfl ⟨m10,by simpa using hol8,fun i hi=>?_,by rw [setS,if_pos e] at hs8;exact hs8⟩
       simp only
       rw [az (by omega)]
       split
       ·exact hb9
       ·exact hor8 i hi
     ·rintro ⟨o8,c8⟩ h8 ⟨m8,hol8,hor8,hs8⟩
      simp only [List.drop_length,lA,Option.some.injEq,Prod.mk.injEq] at hs8 m8 hol8 hor8
      obtain ⟨rfl,rfl⟩:=hs8
      simp
      refine hK2 m _ _ (by omega) ⟨_,_,rfl,m8,hol8,hor8,fun e=>?_,fun e=>?_⟩
      ·rw [if_pos e] at hfin;exact hfin
      ·rw [if_neg (by simp [e])] at hfin;exact Option.some.inj hfin
end Go.Proofs.Ytbkdlhkoiagbbaa
namespace Go.Proofs.Ytbkdlhkoiagbbaa
open Go Go.Lft
abbrev Tr:=Int × Int × Int
def trV (t:Tr):List PanicEntry:=[{ v:=.iface T.dy (.agg #[.int .i64 t.1,.int .i64 t.2.1,.int .i64 t.2.2]),recovered:=false }]
def aN (n a b:Int):Bool:=decide (a≤n)&&decide (n≤b)
theorem fP {n a b:Int} {h:Heap}:ay Try.prog N.cR #[.int .i64 n,.int .i64 a,.int .i64 b] h (fun v h'=>v = .bool (aN n a b)∧h'=h):=by
 refine an (args:=[.int .i64 n,.int .i64 a,.int .i64 b]) follows F.cR E.cR (Nat.le_of_ble_eq_true (by kernel_rfl)) fun K hK=>?_
 simp [L.cR]
 exact hK _ _ ⟨by by_cases h1:a≤n<;>simp [aN,h1],rfl⟩
theorem eu {ok:Bool} {e b p:Int} {h:Heap}:dF Try.prog N.db #[.bool ok,.int .i64 e,.int .i64 b,.int .i64 p] h (fun v h'=>ok=true∧h'=h) (fun ch h'=>ok=false∧ch=trV (e,b,p)∧h'=h):=by
 refine eB (args:=[.bool ok,.int .i64 e,.int .i64 b,.int .i64 p]) follows F.db E.db (Nat.le_of_ble_eq_true (by kernel_rfl)) fun K Kp hK hKp=>?_
 cases ok with
 | true=>
  simp [L.db]
  exact hK _ _ ⟨rfl,rfl⟩
 | false=>
  simp [L.db]
  refine bc (z:=.agg #[.int .i64 0,.int .i64 0,.int .i64 0]) (places:=[(0,1),(1,1),(2,1)]) (vs:=[(0,.int .i64 e),(1,.int .i64 b),(2,.int .i64 p)]) (cs:=#[.int .i64 e,.int .i64 b,.int .i64 p]) (by kernel_rfl) (by kernel_rfl) (by simp) (by rfl) ?_
  refine x3 (d:=(Try.prog.underlying T.dy).getD .bool) (by kernel_rfl) (by kernel_rfl) rfl ?_
  simp
  refine yi (t:=T.dy) (v:=.agg #[.int .i64 e,.int .i64 b,.int .i64 p]) rfl ?_
  exact ⟨.inl rfl,hKp _ _ ⟨rfl,rfl,rfl⟩⟩
def dK (op:Int):Int × Int:=if op=1 then (0,0) else if op=15 then (1,1) else if op=17 then (0,4) else (2,2)
theorem tr {op:Int} {h:Heap}:ay Try.prog N.cu #[.int .i64 op] h (fun v h'=>v = .tuple #[.int .i64 (dK op).1,.int .i64 (dK op).2]∧h'=h):=by
 refine an (args:=[.int .i64 op]) follows F.cu E.cu (Nat.le_of_ble_eq_true (by kernel_rfl)) fun K hK=>?_
 simp [L.cu]
 refine ⟨fun h1=>hK _ _ ⟨by simp [dK,h1],rfl⟩,fun h1=>⟨fun h2=>hK _ _ ⟨by simp [dK,h1,h2],rfl⟩,fun h2=>⟨fun h3=>hK _ _ ⟨by simp [dK,h1,h2,h3],rfl⟩,fun h3=>hK _ _ ⟨by simp [dK,h1,h2,h3],rfl⟩⟩⟩⟩
def aI (i:InsD):List Int:=if i.op=16 then [] else if i.op=18 then [i.dst,i.two] else [i.dst]
theorem yn {d:InsD} {v:Value} {h:Heap} (hd:Rd (vw h) v d):ay Try.prog N.dk #[v] h (fun u h'=>(vw h).le (vw h')∧SlRd (fresh h h') u (aI d)):=by
 refine an (args:=[v]) follows F.dk E.dk (Nat.le_of_ble_eq_true (by kernel_rfl)) fun K hK=>?_
 simp [L.dk]
 refine jj rfl hd fun h1 _ hle1 hsz1 hat=>?_
 obtain ⟨c0,c1,c2,va,ca⟩:=od hat
 have r1:=(hat.part InsD.jw).rng
 have r2:=(hat.part InsD.qu).rng
 simp [c0]
 refine ⟨fun e1=>hK _ _ ⟨hle1,by simpa [aI,e1] using dX⟩,fun e1=>⟨fun e2=>?_,fun e2=>?_⟩⟩
 ·simp [c1,c2]
  refine gH (X:=nothing) (ds:=[d.dst,d.two]) (vs:=[.int .i64 d.dst,.int .i64 d.two]) rfl El.bV (by simp) ⟨eF.2 ⟨rfl,r1⟩,eF.2 ⟨rfl,r2⟩,trivial⟩ bE rfl (by omega) fun u h2 hle2 hsz2 hu _=>?_
  exact hK _ _ ⟨View.le_trans hle1 hle2,by simpa [aI,e2] using hu _ bE (by unfold fresh;rw [if_neg (by omega)])⟩
 ·simp [c1]
  refine gH (X:=nothing) (ds:=[d.dst]) (vs:=[.int .i64 d.dst]) rfl El.bV (by simp) ⟨eF.2 ⟨rfl,r1⟩,trivial⟩ bE rfl (by omega) fun u h2 hle2 hsz2 hu _=>?_
  exact hK _ _ ⟨View.le_trans hle1 hle2,by simpa [aI,e1,e2] using hu _ bE (by unfold fresh;rw [if_neg (by omega)])⟩
end Go.Proofs.Ytbkdlhkoiagbbaa
namespace Go.Proofs.Ytbkdlhkoiagbbaa
open Go Go.Lft
abbrev MW:=Int→Option (Int × Int)
def encW (w:Int × Int):Value:=.agg #[.int .i64 w.1,.int .i64 w.2]
theorem Ae {Kb:Nat} {ps n b p:Int} {h:Heap} (h0:ah (vw h) ⟨Kb,0,none⟩=some (.int .i64 ps)) :
  dF Try.prog N.bJ #[.pointer (some ⟨Kb,0,none⟩),.int .i64 n,.int .i64 b,.int .i64 p] h (fun _ h'=>aN n ps 8191=true∧h'=h) (fun ch h'=>aN n ps 8191=false∧ch=trV (11,b,p)∧h'=h):=by
 refine eB (args:=[.pointer (some ⟨Kb,0,none⟩),.int .i64 n,.int .i64 b,.int .i64 p]) follows F.bJ E.bJ (Nat.le_of_ble_eq_true (by kernel_rfl)) fun K Kp hK hKp=>?_
 simp [L.bJ,h0]
 refine aq (by kernel_rfl) fP ?_
 rintro _ _ ⟨rfl,rfl⟩
 refine b9 (by kernel_rfl) eu ?_ ?_
 ·rintro _ _ ⟨e,rfl⟩
  exact hK _ _ ⟨e,rfl⟩
 ·rintro _ _ ⟨e,rfl,rfl⟩
  exact ⟨.inl rfl,hKp _ _ ⟨e,rfl,rfl⟩⟩
theorem zT {Kb r:Nat} {m:MW} {n b p:Int} {h:Heap} (h2:ah (skip r h) ⟨Kb,2,none⟩=some (.map (some r))) (hm:dO (.int .i64) h r (mapE encW m)) :
  dF Try.prog N.bK #[.pointer (some ⟨Kb,0,none⟩),.int .i64 n,.int .i64 b,.int .i64 p] h (fun _ h'=>m n=none∧dO (.int .i64) h' r (mapE encW (putM m n (b,p)))∧Kept h h' (some r))
   (fun ch h'=>m n≠none∧ch=trV (12,b,p)∧Kept h h' (some r)):=by
 refine eB (args:=[.pointer (some ⟨Kb,0,none⟩),.int .i64 n,.int .i64 b,.int .i64 p]) follows F.bK E.bK (Nat.le_of_ble_eq_true (by kernel_rfl)) fun K Kp hK hKp=>?_
 simp [L.bK,af a8 h2]
 refine hC (z:=.agg #[.int .i64 0,.int .i64 0]) U.dq U.int (by kernel_rfl) (by simp<;>rfl) (by simp<;>rfl) ij hm ?_
 simp
 refine iX (n:=2) (z:=.agg #[.int .i64 0,.int .i64 0]) (v:=((m n).map encW).getD (.agg #[.int .i64 0,.int .i64 0])) (by kernel_rfl) rfl (by kernel_rfl) (by cases m n<;>rfl) (by cases m n<;>simp [encW,Value.oneCell']) (fun _=>by simp) (fun _=>by simp) fun h3 hle3 _ _=>?_
 have k3:=Kept.of_le (b:=some r) hle3
 have hm3:=hm.ext hle3
 have h23:=af k3.wH h2
 refine b9 (by kernel_rfl) eu ?_ ?_
 ·rintro _ _ ⟨e,rfl⟩
  simp [h23]
  refine bc (z:=.agg #[.int .i64 0,.int .i64 0]) (places:=[(0,1),(1,1)]) (vs:=[(0,.int .i64 b),(1,.int .i64 p)]) (cs:=#[.int .i64 b,.int .i64 p]) (by kernel_rfl) (by kernel_rfl) (by simp) (by rfl) ?_
  refine qw (v:=encW (b,p)) (.inl rfl) U.dq U.int (by simp<;>rfl) (by simp<;>rfl) (by simp<;>rfl) ij hm3 _ mE.1 mE.2 fun h4 hs4 ho4 hm4=>?_
  exact hK _ _ ⟨by simpa using e,hm4,k3.trans (Kept.upd hs4 ho4)⟩
 ·rintro _ _ ⟨e,rfl,rfl⟩
  exact ⟨.inl rfl,hKp _ _ ⟨(by intro e2;rw [e2] at e;cases e),rfl,k3⟩⟩
def lh (b p:Int) (m:MW) (n:Int):Except Tr MW:=if (m n).isSome then .error (12,b,p) else .ok (putM m n (b,p))
def allS (ps:Int) (l:List Int) (b p:Int) (m:MW):Except Tr MW:=if l.all (fun n=>aN n ps 8191) then l.foldlM (lh b p) m else .error (11,b,p)
structure Lk (h:Heap) (Kb r:Nat) (vb:Value) (f:ae) (m:MW):Prop where
 c0:ah (skip r h) ⟨Kb,0,none⟩=some (.int .i64 f.params)
 c1:ah (skip r h) ⟨Kb,1,none⟩=some vb
 c2:ah (skip r h) ⟨Kb,2,none⟩=some (.map (some r))
 rb:SlRd (skip r h) vb f.blocks
 map:dO (.int .i64) h r (mapE encW m)
theorem Lk.kept {h h':Heap} {Kb r:Nat} {vb:Value} {f:ae} {m m':MW} (k:Lk h Kb r vb f m) (hk:Kept h h' (some r)) (hm:dO (.int .i64) h' r (mapE encW m')):Lk h' Kb r vb f m':=
 ⟨af hk.skip k.c0,af hk.skip k.c1,af hk.skip k.c2,k.rb.mono hk.skip,hm⟩
theorem Lk.ext {h h':Heap} {Kb r:Nat} {vb:Value} {f:ae} {m:MW} (k:Lk h Kb r vb f m) (hle:(vw h).le (vw h')):Lk h' Kb r vb f m:=
 k.kept (Kept.of_le hle) (k.map.ext hle)
theorem y6 {Kb r:Nat} {vb vl:Value} {f:ae} {m:MW} {l:List Int} {b p:Int} {h:Heap} (k:Lk h Kb r vb f m) (hl:SlRd (skip r h) vl l) :
  dF Try.prog N.aO #[.pointer (some ⟨Kb,0,none⟩),vl,.int .i64 b,.int .i64 p] h (fun _ h'=>∃ m',allS f.params l b p m = .ok m'∧Lk h' Kb r vb f m'∧Kept h h' (some r))
   (fun ch h'=>∃ t,allS f.params l b p m = .error t∧ch=trV t∧Kept h h' (some r)):=by
 refine eB (args:=[.pointer (some ⟨Kb,0,none⟩),vl,.int .i64 b,.int .i64 p]) follows F.aO E.aO (Nat.le_of_ble_eq_true (by kernel_rfl)) fun K Kp hK hKp=>?_
 have hlb:=hl.bound
 simp [L.aO,hl.len]
 refine aA [0,1,2,3,12,13,14] (fun (_:Unit) i=>[.pointer (some ⟨Kb,0,none⟩),vl,.int .i64 b,.int .i64 p,vl,.int .i64 l.length,.int .i64 i]) (fun _ i h1=>h1=h∧∀ j,j<i→aN (nth l j) f.params 8191=true) l.length ()
  rfl (by omega) rfl ⟨rfl,fun j hj=>by omega⟩ (fun _ _=>rfl) (fun v i h1 hk m=>by simp) ?_ ?_
 ·rintro _ i _ hlt ⟨rfl,hpre⟩ K2 hK2
  simp (disch:=omega) [hl.idx1 rfl,hl.int a8]
  refine b9 (by kernel_rfl) (Ae (af a8 k.c0)) ?_ ?_
  ·rintro _ _ ⟨e,rfl⟩
   refine hK2 () _ _ rfl rfl ⟨rfl,fun j hj=>?_⟩
   rcases Nat.lt_or_ge j i with h | h
   ·exact hpre j h
   ·have:j=i:=by omega
    subst this;exact e
  ·rintro _ _ ⟨e,rfl,rfl⟩
   refine ⟨.inl rfl,hKp _ _ ⟨_,?_,rfl,Kept.refl _ _⟩⟩
   rw [allS,if_neg]
   intro ha
   rw [List.all_eq_true.1 ha _ (bW hlt)] at e;cases e
 ·rintro _ h ⟨rfl,hpre⟩
  have hall:allS f.params l b p m=l.foldlM (lh b p) m:=by
   rw [allS,if_pos]
   rw [List.all_eq_true]
   intro x hx
   obtain ⟨j,hj,rfl⟩:=List.getElem_of_mem hx
   rw [←aj hj];exact hpre j hj
  rw [hall] at hK hKp
  simp [hl.len]
  refine aA [0,2,3,24,25,26] (fun (_:Unit) i=>[.pointer (some ⟨Kb,0,none⟩),.int .i64 b,.int .i64 p,vl,.int .i64 l.length,.int .i64 i]) (fun _ i h1=>∃ m',(l.take i).foldlM (lh b p) m = .ok m'∧Lk h1 Kb r vb f m'∧Kept h h1 (some r)) l.length ()
   rfl (by omega) rfl ⟨m,rfl,k,Kept.refl _ _⟩ (fun _ _=>rfl) (fun v i h1 hk m=>by simp) ?_ ?_
  ·rintro _ i h1 hlt ⟨m1,hm1,k1,kp1⟩ K2 hK2
   have hl1:=hl.mono kp1.wH
   have hst:=uR hlt hm1
   simp (disch:=omega) [hl1.idx1 rfl,hl1.int (View.le_refl _)]
   refine b9 (by kernel_rfl) (zT k1.c2 k1.map) ?_ ?_
   ·rintro _ h2 ⟨e,hm2,kp2⟩
    refine hK2 () _ _ rfl rfl ⟨_,by rw [hst,lh,e];rfl,k1.kept kp2 hm2,kp1.trans kp2⟩
   ·rintro _ h2 ⟨e,rfl,kp2⟩
    refine ⟨.inl rfl,hKp _ _ ⟨_,xk (k:=i+1) (by rw [hst,lh,if_pos (Option.isSome_iff_ne_none.2 e)]),rfl,kp1.trans kp2⟩⟩
  ·rintro _ h1 ⟨m1,hm1,k1,kp1⟩
   rw [List.take_length] at hm1
   simp
   exact hK _ _ ⟨m1,hm1,k1,kp1⟩
end Go.Proofs.Ytbkdlhkoiagbbaa
namespace Go.Proofs.Ytbkdlhkoiagbbaa
open Go Go.Lft
abbrev Sh:=Int × Int × Int × Int
def encS (s:Sh):Value:=.agg #[.int .i64 s.1,.int .i64 s.2.1,.int .i64 s.2.2.1,.int .i64 s.2.2.2]
def dD:Int→Option Sh:=putM (putM (putM (putM (putM (fun _=>none) 1 (0,0,1,1)) 2 (1,1,2,2)) 3 (1,1,2,65)) 4 (0,1,0,0)) 5 (0,0,0,0)
theorem kg {po:OP} {ty:TypeId} {us:List (Nat × Value)} {h:Heap} {K:Value→Heap→Prop} {a b c d:Int} (hk:K (encS (a,b,c,d)) h) :
  Lft.step Try.prog (.build T.bU #[(0,.const (.int .i64 a)),(1,.const (.int .i64 b)),(2,.const (.int .i64 c)),(3,.const (.int .i64 d))]) ty us h K:=
 bc (z:=.agg #[.int .i64 0,.int .i64 0,.int .i64 0,.int .i64 0]) (places:=[(0,1),(1,1),(2,1),(3,1)]) (vs:=[(0,.int .i64 a),(1,.int .i64 b),(2,.int .i64 c),(3,.int .i64 d)]) (cs:=#[.int .i64 a,.int .i64 b,.int .i64 c,.int .i64 d]) (by kernel_rfl) (by kernel_rfl) (by simp only [List.map_toArray,List.map_cons,List.map_nil,qz]) (by rfl) hk
theorem ga {po:OP} {ty:TypeId} {us:List (Nat × Value)} {h:Heap} {K:Value→Heap→Prop} {x y:Operand} {r:Nat} {f:Int→Option Sh} {j:Int} {s:Sh} (hx:asg us x = .map (some r)) (hy:asg us y=encS s) (m:dO (.int .i64) h r (mapE encS f))
  (hk : ∀ h':Heap,Kept h h' (some r)→dO (.int .i64) h' r (mapE encS (putM f j s))→K undef h'):Lft.step Try.prog (.insert T.cn x (.const (.int .i64 j)) y) ty us h K:=
 qw (v:=encS s) (.inr rfl) U.cn U.int hx rfl hy ij m _ mE.1 mE.2 fun h' hs ho hm=>hk h' (Kept.upd hs ho) hm
theorem qG {h:Heap}:ay Try.prog N.cS #[] h (fun v h'=>v = .map (some h.size)∧(vw h).le (vw h')∧dO (.int .i64) h' h.size (mapE encS dD)):=by
 refine an (args:=[]) follows F.cS E.cS (Nat.le_of_ble_eq_true (by kernel_rfl)) fun K hK=>?_
 simp [L.cS]
 refine lY ?_
 have m0:dO (.int .i64) (h.push (.map #[] 0)) h.size (mapE encS fun _=>none):=by rw [qd];exact dO.none (by simp)
 have hle:=bg h (.map #[] 0)
 generalize h.push (.map #[] 0)=h0 at m0 hle
 refine kg (ga (s:=(0,0,1,1)) rfl rfl m0 fun h1 k1 m1=>?_)
 refine kg (ga (s:=(1,1,2,2)) rfl rfl m1 fun h2 k2 m2=>?_)
 refine kg (ga (s:=(1,1,2,65)) rfl rfl m2 fun h3 k3 m3=>?_)
 refine kg (ga (s:=(0,1,0,0)) rfl rfl m3 fun h4 k4 m4=>?_)
 refine kg (ga (s:=(0,0,0,0)) rfl rfl m4 fun h5 k5 m5=>?_)
 refine hK _ _ ⟨rfl,fun b o hb=>?_,m5⟩
 have hlt:=View.lt (View.le_refl (vw h)) hb
 have kk:=(((k1.trans k2).trans k3).trans k4).trans k5
 show h5[b]? = _
 rw [kk.block b (Nat.lt_of_lt_of_le hlt (fw hle)) (by simp;omega)]
 exact hle b o hb
def jG (t:de):Bool:=match dD t.kind with
 | some s=>aN t.args.length s.1 s.2.1&&aN t.to.length s.2.2.1 s.2.2.2
 | none=>false
def insS (ps b:Int) (x:BlkD) (i:Nat) (m:MW):Except Tr MW:=
 if aN (nth x.ins i).op 1 18&&aN (nth x.ins i).args.length (dK (nth x.ins i).op).1 (dK (nth x.ins i).op).2 then allS ps (aI (nth x.ins i)) b i m else .error (10,b,i)
def phiS (ps b:Int) (x:BlkD) (i:Nat) (m:MW):Except Tr MW:=allS ps [(nth x.phis i).dst] b (-1-i) m
def endS (n b:Int) (x:BlkD) (m:MW):Except Tr MW:=
 if jG x.term then (if x.term.to.all (fun t=>aN t 1 (n-1)) then .ok m else .error (14,b,x.ins.length)) else .error (10,b,x.ins.length)
def blkS (f:ae) (b:Nat) (m:MW):Except Tr MW:=
 match upE (phiS f.params b (nth f.blocks b)) (nth f.blocks b).phis.length m with
 | .error t=>.error t
 | .ok m1=>match upE (insS f.params b (nth f.blocks b)) (nth f.blocks b).ins.length m1 with
  | .error t=>.error t
  | .ok m2=>endS f.blocks.length b (nth f.blocks b) m2
def gT (f:ae) (m:MW):Except Tr MW:=upE (blkS f) f.blocks.length m
theorem yZ {Kb r:Nat} {vb:Value} {f:ae} {m:MW} {h:Heap} (k:Lk h Kb r vb f m) :
  dF Try.prog N.au #[.pointer (some ⟨Kb,0,none⟩)] h (fun _ h'=>∃ m',gT f m = .ok m'∧Lk h' Kb r vb f m'∧Kept h h' (some r))
   (fun ch h'=>∃ t,gT f m = .error t∧ch=trV t∧Kept h h' (some r)):=by
 refine eB (args:=[.pointer (some ⟨Kb,0,none⟩)]) follows F.au E.au (Nat.le_of_ble_eq_true (by kernel_rfl)) fun K Kp hK hKp=>?_
 have hbb:=k.rb.bound
 simp [L.au,af a8 k.c1,k.rb.len]
 refine aA [0,18,19,20] (fun (_:Unit) b=>[.pointer (some ⟨Kb,0,none⟩),vb,.int .i64 f.blocks.length,.int .i64 b]) (fun _ b h1=>∃ m',upE (blkS f) b m = .ok m'∧Lk h1 Kb r vb f m'∧Kept h h1 (some r)) f.blocks.length ()
  rfl (by omega) rfl ⟨m,rfl,k,Kept.refl _ _⟩ (fun _ _=>rfl) (fun v i h1 hk m=>by simp) ?_ ?_
 ·rintro _ b h1 hltb ⟨m1,hm1,k1,kp1⟩ K2 hK2
  have hst:=iS hm1
  have her : ∀ {t},blkS f b m1 = .error t→gT f m = .error t:=fun e=>rD hm1 hltb e
  obtain ⟨u,hu,hur⟩:=k1.rb.wh rfl (N:=6) rfl hltb
  rw [blkS] at hst her
  have hr1:=k1.map.lt
  generalize hx:nth f.blocks b=x at hst her hur
  refine aa fun z hz=>?_
  simp (disch:=omega) [k1.rb.idxn (N:=6) rfl,hu _ a8]
  refine eV (z:=.agg #[.slice none 0 0,.slice none 0 0,.int .i64 0,.slice none 0 0,.slice none 0 0,.int .i32 0]) (by kernel_rfl) rfl (by kernel_rfl) hur (fun _=>by simp) (fun _=>by simp) fun h2 hle2 hsz2 hat=>?_
  have k2:=k1.ext hle2
  have kp2:=kp1.trans (Kept.of_le hle2)
  have hat2:=hat (skip r h2) (Kept.of_le hle2).skip (fC (by omega))
  obtain ⟨vp,vi,va,vt,bp,bi,bk,ba,bt⟩:=me hat2
  generalize h1.size=B at bp bi bk ba bt
  rw [hz];clear hz z
  refine aa fun z hz=>?_
  simp [af a8 bp.1,bp.2.len]
  have bph:=bp.2.bound
  have bin:=bi.2.bound
  have bto:=bt.2.bound
  refine aA [0,2,3,18,19,20,26,27,28] (fun (_:Unit) i=>[.pointer (some ⟨Kb,0,none⟩),.int .i64 b,.pointer (some ⟨B,0,none⟩),vb,.int .i64 f.blocks.length,.int .i64 b,vp,.int .i64 x.phis.length,.int .i64 i])
   (fun _ i h3=>∃ m',upE (phiS f.params b x) i m1 = .ok m'∧Lk h3 Kb r vb f m'∧Kept h2 h3 (some r)) x.phis.length ()
   rfl (by omega) rfl ⟨m1,rfl,k2,Kept.refl _ _⟩ (fun _ _=>rfl) (fun v i h1 hk m=>by simp) ?_ ?_
  ·rintro _ i h3 hlti ⟨m3,hm3,k3,kp3⟩ K3 hK3
   have bp3:=bp.2.mono kp3.skip
   obtain ⟨u5,hu5,hur5⟩:=bp3.wh rfl (N:=2) rfl hlti
   have hr3:=k3.map.lt
   have hst3:=iS hm3
   have her3 : ∀ {t},phiS f.params b x i m3 = .error t→upE (phiS f.params b x) x.phis.length m1 = .error t:=fun e=>rD hm3 hlti e
   rw [phiS] at hst3 her3
   refine aa fun y hy=>?_
   simp (disch:=omega) [bp3.idxn (N:=2) rfl,hu5 _ a8]
   refine eV (z:=.agg #[.int .i64 0,.slice none 0 0]) (by kernel_rfl) rfl (by kernel_rfl) hur5 (fun _=>by simp) (fun _=>by simp) fun h4 hle4 hsz4 hat4=>?_
   have hat4':=hat4 (skip r h4) (Kept.of_le hle4).skip (fC (by omega))
   obtain ⟨c0,_⟩:=vv hat4'
   have rd:=(hat4'.part PhiD.jw).rng
   generalize nth x.phis i=q at c0 rd hst3 her3
   generalize h3.size=B3 at c0
   rw [hy];clear hy y
   simp [af a8 c0]
   refine gH (X:=nothing) (ds:=[q.dst]) (vs:=[.int .i64 q.dst]) rfl El.bV (by simp) ⟨eF.2 ⟨rfl,rd⟩,trivial⟩ bE rfl (by omega) fun u6 h5 hle5 hsz5 hu6 _=>?_
   have k5:=(k3.ext hle4).ext hle5
   have kp5:=(kp3.trans (Kept.of_le hle4)).trans (Kept.of_le hle5)
   have hr5:=k5.map.lt
   simp (disch:=omega)
   refine b9 (by kernel_rfl) (y6 k5 (hu6 _ bE (fC (by omega)))) ?_ ?_
   ·rintro _ h6 ⟨m6,hm6,k6,kp6⟩
    exact hK3 () _ _ rfl rfl ⟨m6,by rw [hst3,hm6],k6,kp5.trans kp6⟩
   ·rintro _ h6 ⟨t,ht,rfl,kp6⟩
    exact ⟨.inl rfl,hKp _ _ ⟨t,her (by rw [her3 ht]),rfl,(kp2.trans kp5).trans kp6⟩⟩
  ·rintro _ h3 ⟨m3,hm3,k3,kp3⟩
   simp only [hm3] at hst her
   simp
   rw [hz];clear hz z
   refine aa fun z hz=>?_
   have bi3:=bi.2.mono kp3.skip
   have ci3:=af kp3.wH bi.1
   have kp03:=kp2.trans kp3
   simp [ci3,bi3.len]
   refine aA [0,2,3,18,19,20,43,44,45] (fun (_:Unit) i=>[.pointer (some ⟨Kb,0,none⟩),.int .i64 b,.pointer (some ⟨B,0,none⟩),vb,.int .i64 f.blocks.length,.int .i64 b,vi,.int .i64 x.ins.length,.int .i64 i])
    (fun _ i h4=>∃ m',upE (insS f.params b x) i m3 = .ok m'∧Lk h4 Kb r vb f m'∧Kept h3 h4 (some r)) x.ins.length ()
    rfl (by omega) rfl ⟨m3,rfl,k3,Kept.refl _ _⟩ (fun _ _=>rfl) (fun v i h1 hk m=>by simp) ?_ ?_
   ·rintro _ i h4 hlti ⟨m4,hm4,k4,kp4⟩ K3 hK3
    have bi4:=bi3.mono kp4.skip
    obtain ⟨u5,hu5,hur5⟩:=bi4.wh rfl (N:=5) rfl hlti
    have hr4:=k4.map.lt
    have hst4:=iS hm4
    have her4 : ∀ {t},insS f.params b x i m4 = .error t→upE (insS f.params b x) x.ins.length m3 = .error t:=fun e=>rD hm4 hlti e
    rw [insS] at hst4 her4
    refine aa fun y hy=>?_
    simp (disch:=omega) [bi4.idxn (N:=5) rfl,hu5 _ a8]
    refine eV (z:=.agg #[.int .i64 0,.int .i64 0,.int .i64 0,.slice none 0 0,.int .i32 0]) (by kernel_rfl) rfl (by kernel_rfl) hur5 (fun _=>by simp) (fun _=>by simp) fun h5 hle5 hsz5 hat5=>?_
    have hat5':=hat5 (skip r h5) (Kept.of_le hle5).skip (fC (by omega))
    obtain ⟨c0,c1,c2,va5,ca5⟩:=od hat5'
    have k5:=k4.ext hle5
    have kp5:=kp4.trans (Kept.of_le hle5)
    have whole : ∃ w,Un.ev (vw h5) (.ao 5) (.pointer (some ⟨h4.size,0,none⟩))=some w∧Rd (vw h5) w (nth x.ins i):=by
     obtain ⟨w,w1,w2⟩:=(hat5'.mono a8).ao rfl
     exact ⟨w,w1,w2⟩
    obtain ⟨w,w1,w2⟩:=whole
    generalize nth x.ins i=q at c0 c1 c2 ca5 hst4 her4 w2
    generalize h4.size=B4 at c0 c1 c2 ca5 w1
    rw [hy];clear hy y
    refine aa fun y hy=>?_
    simp [af a8 c0]
    refine aq (by kernel_rfl) fP ?_
    rintro _ _ ⟨rfl,rfl⟩
    refine b9 (by kernel_rfl) eu ?_ ?_
    rotate_left
    ·rintro _ _ ⟨e,rfl,rfl⟩
     exact ⟨.inl rfl,hKp _ _ ⟨_,her (by rw [her4 (by rw [if_neg (by simp [e])])]),rfl,kp03.trans kp5⟩⟩
    rintro _ _ ⟨e1,rfl⟩
    rw [hy];clear hy y
    refine aa fun y hy=>?_
    simp [af a8 c0]
    refine aq (by kernel_rfl) tr ?_
    rintro _ _ ⟨rfl,rfl⟩
    simp
    rw [hy];clear hy y
    refine aa fun y hy=>?_
    simp [af a8 ca5.1,ca5.2.len]
    refine aq (by kernel_rfl) fP ?_
    rintro _ _ ⟨rfl,rfl⟩
    refine b9 (by kernel_rfl) eu ?_ ?_
    rotate_left
    ·rintro _ _ ⟨e,rfl,rfl⟩
     exact ⟨.inl rfl,hKp _ _ ⟨_,her (by rw [her4 (by rw [if_neg (by simp [e])])]),rfl,kp03.trans kp5⟩⟩
    rintro _ _ ⟨e2,rfl⟩
    rw [hy];clear hy y
    simp [w1]
    refine aq (by kernel_rfl) (yn w2) ?_
    rintro u6 h6 ⟨hle6,hu6⟩
    have k6:=k5.ext hle6
    have kp6:=kp5.trans (Kept.of_le hle6)
    rw [if_pos (by simp [e1,e2])] at hst4 her4
    have hr5:=k5.map.lt
    refine b9 (by kernel_rfl) (y6 k6 (hu6.mono fun b o hb=>?_)) ?_ ?_
    ·unfold fresh at hb;unfold Lft.skip
     split at hb
     ·cases hb
     ·rw [if_neg (by omega)];exact hb
    ·rintro _ h7 ⟨m7,hm7,k7,kp7⟩
     exact hK3 () _ _ rfl rfl ⟨m7,by rw [hst4,hm7],k7,kp6.trans kp7⟩
    ·rintro _ h7 ⟨t,ht,rfl,kp7⟩
     exact ⟨.inl rfl,hKp _ _ ⟨t,her (by rw [her4 ht]),rfl,(kp03.trans kp6).trans kp7⟩⟩
   ·rintro _ h4 ⟨m4,hm4,k4,kp4⟩
    simp only [hm4] at hst her
    simp
    rw [hz];clear hz z
    refine aa fun z hz=>?_
    have kp24:=kp3.trans kp4
    have hr4:=k4.map.lt
    have ck4:=af kp24.skip bk
    have hc : ∀ {h5:Heap},Kept h4 h5 (some r)→(skip r h4).le (vw h5):=fun hk=>hk.wH
    have cellsS : ∀ o:Option Sh,((o.map encS).getD (.agg #[.int .i64 0,.int .i64 0,.int .i64 0,.int .i64 0]))=encS (o.getD (0,0,0,0)):=fun o=>by cases o<;>rfl
    have hone : ∀ s:Sh,∀ c∈(encS s).cells.toList,c.oneCell'=true:=fun s=>by simp [encS,Value.oneCell']
    refine vu (fun ρ h5=>∃ (B5:Nat) (v79 v83:Value) (tl:Env),ρ=[(0,.pointer (some ⟨Kb,0,none⟩)),(2,.int .i64 b),(3,.pointer (some ⟨B,0,none⟩)),(10,.pointer (some ⟨B5,0,none⟩)),(11,.bool (dD x.term.kind).isSome),(18,vb),(19,.int .i64 f.blocks.length),(20,.int .i64 b),(43,vi),
      (44,.int .i64 x.ins.length),(45,.int .i64 x.ins.length),(79,v79),(82,.int .i64 x.term.kind),(83,v83)]++tl∧Lk h5 Kb r vb f m4∧Kept h4 h5 (some r)∧B5≠r∧h5[B5]? = some (.cells (encS ((dD x.term.kind).getD (0,0,0,0))).cells T.bU (0,0))) ?_ ?_
    ·intro K3 hK3
     refine eI (skip r h4) a8 ?_
     simp [ck4]
     refine ⟨?_,?_⟩
     ·refine aq (by kernel_rfl) qG ?_
      rintro _ h5 ⟨rfl,hle5,hm5⟩
      have hs5:=fw hle5
      refine ⟨hc (Kept.of_le hle5),?_,?_⟩
      ·refine hC (z:=.agg #[.int .i64 0,.int .i64 0,.int .i64 0,.int .i64 0]) U.cn U.int (by kernel_rfl) (by simp<;>rfl) (by simp<;>rfl) ij hm5 ?_
       rw [j7,cellsS,Option.isSome_map]
       simp
       refine iX (n:=4) (v:=encS ((dD x.term.kind).getD (0,0,0,0))) (z:=.agg #[.int .i64 0,.int .i64 0,.int .i64 0,.int .i64 0]) (by kernel_rfl) rfl (by kernel_rfl) rfl (hone _) (fun _=>by simp) (fun _=>by simp) fun h6 hle6 hsz6 hb6=>?_
       exact hK3 _ _ ⟨_,_,_,_,rfl,(k4.ext hle5).ext hle6,(Kept.of_le hle5).trans (Kept.of_le hle6),by omega,hb6⟩
      ·refine dw (z:=.agg #[.int .i64 0,.int .i64 0,.int .i64 0,.int .i64 0]) (by kernel_rfl) ?_
       have hle6:=bg h5 (.cells (Value.cells (.agg #[.int .i64 0,.int .i64 0,.int .i64 0,.int .i64 0])) T.bU)
       have hb6:(h5.push (.cells (Value.cells (.agg #[.int .i64 0,.int .i64 0,.int .i64 0,.int .i64 0])) T.bU))[h5.size]? = some (.cells (Value.cells (.agg #[.int .i64 0,.int .i64 0,.int .i64 0,.int .i64 0])) T.bU (0,0)):=by simp
       have hs6:(h5.push (.cells (Value.cells (.agg #[.int .i64 0,.int .i64 0,.int .i64 0,.int .i64 0])) T.bU)).size=h5.size+1:=by simp
       generalize h5.push (.cells (Value.cells (.agg #[.int .i64 0,.int .i64 0,.int .i64 0,.int .i64 0])) T.bU)=h6 at hle6 hb6 hs6
       refine ⟨hc ((Kept.of_le hle5).trans (Kept.of_le hle6)),?_⟩
       refine hC (z:=.agg #[.int .i64 0,.int .i64 0,.int .i64 0,.int .i64 0]) U.cn U.int (by kernel_rfl) (by simp<;>rfl) (by simp<;>rfl) ij (hm5.ext hle6) ?_
       rw [j7,cellsS,Option.isSome_map]
       simp
       refine cJ (g:=h5.size) (o:=0) (n:=4) (v:=encS ((dD x.term.kind).getD (0,0,0,0))) (by kernel_rfl) rfl rfl rfl (hone _) hb6 (by simp) fun h7 hs7 ⟨row,hb7,hrow⟩ ho7=>?_
       have hrow2:row=(encS ((dD x.term.kind).getD (0,0,0,0))).cells:=by rw [←Array.toList_inj,hrow];simp
       rw [hrow2] at hb7
       have kp7:Kept h4 h7 (some r):=⟨by omega,fun q hq hne=>by rw [ho7 q (by omega)];exact hle6 _ _ (hle5 _ _ (Array.getElem?_eq_getElem hq)) |>.trans (Array.getElem?_eq_getElem hq).symm⟩
       exact hK3 _ _ ⟨_,_,_,_,rfl,k4.kept kp7 (((k4.map.ext hle5).ext hle6).same (ho7 r (by omega))),kp7,by omega,hb7⟩
     ·refine dw (z:=.agg #[.int .i64 0,.int .i64 0,.int .i64 0,.int .i64 0]) (by kernel_rfl) ?_
      have hle5:=bg h4 (.cells (Value.cells (.agg #[.int .i64 0,.int .i64 0,.int .i64 0,.int .i64 0])) T.bU)
      have hb5:(h4.push (.cells (Value.cells (.agg #[.int .i64 0,.int .i64 0,.int .i64 0,.int .i64 0])) T.bU))[h4.size]? = some (.cells (Value.cells (.agg #[.int .i64 0,.int .i64 0,.int .i64 0,.int .i64 0])) T.bU (0,0)):=by simp
      have hs5:(h4.push (.cells (Value.cells (.agg #[.int .i64 0,.int .i64 0,.int .i64 0,.int .i64 0])) T.bU)).size=h4.size+1:=by simp
      generalize h4.push (.cells (Value.cells (.agg #[.int .i64 0,.int .i64 0,.int .i64 0,.int .i64 0])) T.bU)=h5 at hle5 hb5 hs5
      refine ⟨hc (Kept.of_le hle5),?_⟩
      refine aq (by kernel_rfl) qG ?_
      rintro _ h6 ⟨rfl,hle6,hm6⟩
      have hs6:=fw hle6
      refine ⟨hc ((Kept.of_le hle5).trans (Kept.of_le hle6)),?_⟩
      refine hC (z:=.agg #[.int .i64 0,.int .i64 0,.int .i64 0,.int .i64 0]) U.cn U.int (by kernel_rfl) (by simp<;>rfl) (by simp<;>rfl) ij hm6 ?_
      rw [j7,cellsS,Option.isSome_map]
      simp
      refine cJ (g:=h4.size) (o:=0) (n:=4) (v:=encS ((dD x.term.kind).getD (0,0,0,0))) (by kernel_rfl) rfl rfl rfl (hone _) (hle6 _ _ hb5) (by simp) fun h7 hs7 ⟨row,hb7,hrow⟩ ho7=>?_
      have hrow2:row=(encS ((dD x.term.kind).getD (0,0,0,0))).cells:=by rw [←Array.toList_inj,hrow];simp
      rw [hrow2] at hb7
      have kp7:Kept h4 h7 (some r):=⟨by omega,fun q hq hne=>by rw [ho7 q (by omega)];exact hle6 _ _ (hle5 _ _ (Array.getElem?_eq_getElem hq)) |>.trans (Array.getElem?_eq_getElem hq).symm⟩
      exact hK3 _ _ ⟨_,_,_,_,rfl,k4.kept kp7 (((k4.map.ext hle5).ext hle6).same (ho7 r (by omega))),kp7,by omega,hb7⟩
    ·rintro ρ h5 ⟨B5,v79,v83,tl,rfl,k5,kp5,hB5,hb5⟩
     rw [hz];clear hz z
     refine aa fun z hz=>?_
     have kp25:=kp24.trans kp5
     have ci5:=af kp25.skip bi.1
     have bi5:=bi.2.mono kp25.skip
     have ca5:=af kp25.skip ba.1
     have ba5:=ba.2.mono kp25.skip
     have ct5:=af kp25.skip bt.1
     have bt5:=bt.2.mono kp25.skip
     have hb5':skip r h5 B5=some (.cells (encS ((dD x.term.kind).getD (0,0,0,0))).cells T.bU (0,0)):=by rw [fC hB5];exact hb5
     generalize hsh:(dD x.term.kind).getD (0,0,0,0)=s at hb5'
     have d0:ah (skip r h5) ⟨B5,0,none⟩=some (.int .i64 s.1):=aY hb5' rfl
     have d1:ah (skip r h5) ⟨B5,1,none⟩=some (.int .i64 s.2.1):=aY hb5' rfl
     have d2:ah (skip r h5) ⟨B5,2,none⟩=some (.int .i64 s.2.2.1):=aY hb5' rfl
     have d3:ah (skip r h5) ⟨B5,3,none⟩=some (.int .i64 s.2.2.2):=aY hb5' rfl
     have hto:jG x.term=((dD x.term.kind).isSome&&(aN x.term.args.length s.1 s.2.1&&aN x.term.to.length s.2.2.1 s.2.2.2)):=by
      rw [jG,←hsh];cases dD x.term.kind<;>rfl
     refine eI (skip r h5) a8 ?_
     have bad:jG x.term=false→∀ ch,ch=trV (10,(b:Int),(x.ins.length:Int))→Kp ch h5:=fun e ch hch=>hKp _ _ ⟨_,her (by rw [endS,if_neg (by simp [e])]),hch,kp03.trans (kp4.trans kp5)⟩
     have good:jG x.term=true→∀ tl:Env,@LC.wp (ppOf Kp) Try.prog z (gA 1 (fK K2 (gA 0 (@jc [] K)))) ([(0,.pointer (some ⟨Kb,0,none⟩)),(2,.int .i64 b),(3,.pointer (some ⟨B,0,none⟩)),(10,.pointer (some ⟨B5,0,none⟩)),(11,.bool true),(18,vb),(19,.int .i64 f.blocks.length),(20,.int .i64 b),(43,vi),
      (44,.int .i64 x.ins.length),(45,.int .i64 x.ins.length),(79,v79),(82,.int .i64 x.term.kind),(83,v83)]++tl) h5:=by
      intro hgood tl
      rw [hz];clear hz z
      have ct5':=af a8 ct5
      have cb5:=k5.c1
      have hne:0<f.blocks.length:=by omega
      simp [ct5',bt5.len]
      refine aA [0,2,3,18,19,20,116,117,118] (fun (_:Unit) i=>[.pointer (some ⟨Kb,0,none⟩),.int .i64 b,.pointer (some ⟨B,0,none⟩),vb,.int .i64 f.blocks.length,.int .i64 b,vt,.int .i64 x.term.to.length,.int .i64 i])
       (fun _ i h6=>h6=h5∧∀ j,j<i→aN (nth x.term.to j) 1 (f.blocks.length-1)=true) x.term.to.length ()
       rfl (by omega) (by simp [cW,b8,ff]) ⟨rfl,fun j hj=>by omega⟩ (fun _ _=>rfl) (fun v i h1 hk m=>by simp) ?_ ?_
      ·rintro _ i h5 hlti ⟨rfl,hpre⟩ K3 hK3
       refine aa fun y hy=>?_
       simp (disch:=omega) [bt5.idx1 rfl,bt5.int a8]
       rw [hy];clear hy y
       refine eI (skip r h5) a8 ?_
       simp (disch:=omega) [ci5,bi5.len,cb5,k5.rb.len]
       refine aq (by kernel_rfl) fP ?_
       rintro _ _ ⟨rfl,rfl⟩
       refine ⟨a8,?_⟩
       refine b9 (by kernel_rfl) eu ?_ ?_
       ·rintro _ _ ⟨e,rfl⟩
        refine hK3 () _ _ rfl rfl ⟨rfl,fun j hj=>?_⟩
        rcases Nat.lt_or_ge j i with h | h
        ·exact hpre j h
        ·have:j=i:=by omega
         subst this;exact e
       ·rintro ch _ ⟨e,hch,rfl⟩
        refine ⟨.inr fun _=>trivial,hKp _ _ ⟨_,her ?_,hch,kp03.trans (kp4.trans kp5)⟩⟩
        rw [endS,if_pos hgood,if_neg]
        intro ha
        rw [List.all_eq_true.1 ha _ (bW hlti)] at e;cases e
      ·rintro _ h5 ⟨rfl,hpre⟩
       simp
       refine hK2 () _ _ rfl rfl ⟨m4,?_,k5,kp03.trans (kp4.trans kp5)⟩
       rw [hst,endS,if_pos hgood,if_pos]
       rw [List.all_eq_true]
       intro y hy
       obtain ⟨j,hj,rfl⟩:=List.getElem_of_mem hy
       rw [←aj hj];exact hpre j hj
     cases hso:(dD x.term.kind).isSome with
     | false=>
      simp [ci5,bi5.len,d0,d1,d2,d3,ca5,ba5.len,ct5,bt5.len,b8,ff]
      refine b9 (by kernel_rfl) eu ?_ ?_
      ·rintro _ _ ⟨e,_⟩;cases e
      ·rintro ch _ ⟨_,hch,rfl⟩
       exact ⟨.inr fun _=>trivial,bad (by rw [hto,hso];rfl) _ hch⟩
     | true=>
      rw [hso,Bool.true_and] at hto
      simp [ci5,bi5.len,d0,d1,d2,d3,ca5,ba5.len,ct5,bt5.len,b8,ff]
      refine aq (by kernel_rfl) fP ?_
      rintro _ _ ⟨rfl,rfl⟩
      refine ⟨a8,?_⟩
      cases hw1:aN x.term.args.length s.1 s.2.1 with
      | false=>
       simp [b8,ff]
       refine b9 (by kernel_rfl) eu ?_ ?_
       ·rintro _ _ ⟨e,_⟩;cases e
       ·rintro ch _ ⟨_,hch,rfl⟩
        exact ⟨.inr fun _=>trivial,bad (by rw [hto,hw1];rfl) _ hch⟩
      | true=>
       simp [b8,ff]
       refine aq (by kernel_rfl) fP ?_
       rintro _ _ ⟨rfl,rfl⟩
       refine ⟨a8,?_⟩
       refine b9 (by kernel_rfl) eu ?_ ?_
       ·rintro _ _ ⟨e,rfl⟩
        exact good (by rw [hto,hw1,e];rfl) _
       ·rintro ch _ ⟨e,hch,rfl⟩
        exact ⟨.inr fun _=>trivial,bad (by rw [hto,hw1,e];rfl) _ hch⟩
 ·rintro _ h1 ⟨m1,hm1,k1,kp1⟩
  simp
  exact hK _ _ ⟨m1,hm1,k1,kp1⟩
end Go.Proofs.Ytbkdlhkoiagbbaa
namespace Go.Proofs.Ytbkdlhkoiagbbaa
open Go Go.Lft
theorem lr : ∀ {a b:List Int},a.Pairwise (· < ·)→b.Pairwise (· < ·)→(∀ x,x∈a↔x∈b)→a=b
 | [],[],_,_,_=>rfl
 | [],y::b,_,_,h=>by have:=(h y).2 (List.mem_cons_self ..);cases this
 | x::a,[],_,_,h=>by have:=(h x).1 (List.mem_cons_self ..);cases this
 | x::a,y::b,ha,hb,h=>by
  obtain ⟨a1,a2⟩:=List.pairwise_cons.1 ha
  obtain ⟨b1,b2⟩:=List.pairwise_cons.1 hb
  have e:x=y:=by
   rcases List.mem_cons.1 ((h x).1 (List.mem_cons_self ..)) with e | h1
   ·exact e
   ·rcases List.mem_cons.1 ((h y).2 (List.mem_cons_self ..)) with e | h2
    ·exact e.symm
    ·have:=a1 y h2;have:=b1 x h1;omega
  subst e
  rw [lr a2 b2 fun z=>?_]
  constructor
  ·intro hz
   rcases List.mem_cons.1 ((h z).1 (List.mem_cons_of_mem _ hz)) with e | h1
   ·have:=a1 z hz;omega
   ·exact h1
  ·intro hz
   rcases List.mem_cons.1 ((h z).2 (List.mem_cons_of_mem _ hz)) with e | h1
   ·have:=b1 z hz;omega
   ·exact h1
theorem rC (l:List Int):(j9 l).Pairwise (·≤·):=by
 have:=List.pairwise_mergeSort (le:=fun x y:Int=>decide (x≤y)) (fun a b c h1 h2=>by simp at *;omega) (fun a b=>by simp;omega) l
 exact this.imp fun h=>by simpa using h
theorem get!_nth {l:List Int} {i:Nat}:l.toArray[i]! = nth l i:=by
 simp [nth,List.getD_eq_getElem?_getD]
theorem pB {l:List Int} (hs:l.Pairwise (·≤·)) {i j:Nat} (hij:i≤j) (hj:j<l.length):nth l i≤nth l j:=by
 rw [aj (by omega),aj hj]
 rcases Nat.lt_or_ge i j with h | h
 ·exact List.pairwise_iff_getElem.1 hs i j (by omega) hj h
 ·have:i=j:=by omega
  subst this;exact Int.le_refl _
theorem oI {l:List Int} (hs:l.Pairwise (·≤·)):(Lib.compact l).Pairwise (· < ·):=by
 unfold Lib.compact Lib.compactUpTo
 rw [List.pairwise_map,List.pairwise_filter]
 refine (List.pairwise_lt_range (n:=l.length)).imp_of_mem fun {i j} hi hj hij ki kj=>?_
 simp only [List.mem_range] at hi hj
 simp only [Lib.keeps,get!_nth,decide_eq_true_eq] at kj
 rw [get!_nth,get!_nth]
 have h1:=pB hs (i:=i) (j:=j-1) (by omega) (by omega)
 have h2:=pB hs (i:=j-1) (j:=j) (by omega) hj
 rcases kj with h | h<;>omega
theorem nT {l:List Int} {x:Int}:x∈Lib.compact l↔x∈l:=by
 refine ⟨jC,fun hx=>?_⟩
 obtain ⟨j,hj,rfl⟩:=List.getElem_of_mem hx
 have key : ∀ j,j<l.length→nth l j∈Lib.compact l:=by
  intro j
  induction j with
  | zero=>
   intro h
   unfold Lib.compact Lib.compactUpTo
   refine List.mem_map.2 ⟨0,List.mem_filter.2 ⟨by simpa using h,by simp [Lib.keeps]⟩,get!_nth⟩
  | succ j ih=>
   intro h
   by_cases he:nth l (j+1)=nth l j
   ·rw [he];exact ih (by omega)
   ·unfold Lib.compact Lib.compactUpTo
    refine List.mem_map.2 ⟨j+1,List.mem_filter.2 ⟨by simpa using h,by simp only [Lib.keeps,get!_nth,decide_eq_true_eq];exact .inr (by simpa using he)⟩,get!_nth⟩
 rw [←aj hj];exact key j hj
theorem iN {β:Type} {p:Nat→Bool} {x:Nat→β} {n:Nat} {y:β}:y∈sift p x n↔∃ i,i<n∧p i=true∧x i=y:=by
 rw [jt];simp [and_assoc]
theorem rX {row:List Int} {n:Int}:(gw row n).Pairwise (· < ·):=oI (rC _)
theorem mQ {row:List Int} {n x:Int}:x∈gw row n↔x∈row∧0≤x∧x<n:=by
 rw [gw,nT,j9,List.mem_mergeSort,iN]
 simp only [jH,Bool.and_eq_true,decide_eq_true_eq]
 constructor
 ·rintro ⟨i,hi,h,rfl⟩;exact ⟨bW hi,h⟩
 ·rintro ⟨h,h1⟩
  obtain ⟨i,hi,rfl⟩:=List.getElem_of_mem h
  exact ⟨i,hi,by rw [aj hi];exact h1,aj hi⟩
theorem cO {g:Gr} {a b:Int}:ek g a b=true↔(0≤a∧a<g.length∧0≤b∧b<g.length)∧b∈nth g a.toNat:=by
 simp [ek]
theorem nF {p:Nat→Bool} {n:Nat}:(sift p (fun b=>(b:Int)) n).Pairwise (· < ·):=by
 rw [jt,List.pairwise_map,List.pairwise_filter]
 exact List.pairwise_lt_range.imp fun h _ _=>by omega
theorem cF {g:Gr} {a b:Int}:b∈cV g a↔ek g a b=true:=by
 rw [cV,iN]
 constructor
 ·rintro ⟨i,_,h,rfl⟩;exact h
 ·intro h
  have:=(cO.1 h).1
  exact ⟨b.toNat,by omega,by rw [Int.toNat_of_nonneg (by omega)];exact h,Int.toNat_of_nonneg (by omega)⟩
theorem fI {g:Gr} {a:Int}:(cV g a).Pairwise (· < ·):=nF
theorem gZ {g:Gr} {a:Nat} (ha:a<g.length):nth (bs g) a=cV g a:=by
 rw [bs,cm ha]
 refine lr rX fI fun x=>?_
 rw [mQ,cF,cO,Int.toNat_natCast]
 exact ⟨fun ⟨h1,h2,h3⟩=>⟨⟨by omega,by omega,h2,h3⟩,h1⟩,fun ⟨⟨_,_,h2,h3⟩,h1⟩=>⟨h1,h2,h3⟩⟩
theorem sR {f k:Nat→List Int} {n:Nat} (h : ∀ a,a<n→f a=k a):ey f n=ey k n:=by
 induction n with
 | zero=>rfl
 | succ n ih=>rw [dP,dP,ih fun a ha=>h a (by omega),h n (by omega)]
theorem kN {g:Gr}:cY g=ey (fun a=>cV g a) g.length:=sR fun a ha=>gZ ha
theorem wO {g:Gr} {e:Int × Int}:e∈cY g↔ek g e.1 e.2=true:=by
 rw [kN,ey,List.mem_flatMap]
 simp only [List.mem_range,List.mem_map]
 constructor
 ·rintro ⟨a,ha,b,hb,rfl⟩;exact cF.1 hb
 ·intro h
  have:=(cO.1 h).1
  exact ⟨e.1.toNat,by omega,e.2,cF.2 (by rw [Int.toNat_of_nonneg (by omega)];exact h),by rw [Int.toNat_of_nonneg (by omega)]⟩
theorem yd {l:List (Int × Int)} : ∀ {p:Gr} {i:Nat},i<p.length→nth (l.foldl cZ p) i=nth p i++(l.filter fun e=>decide (e.2.toNat=i)).map Prod.fst:=by
 induction l with
 | nil=>intro p i _;simp
 | cons e l ih=>
  intro p i hi
  rw [List.foldl_cons,ih (by simpa [cZ] using hi),cZ,az hi,List.filter_cons]
  split
  ·rename_i h;simp [h]
  ·rename_i h;simp [h]
theorem filter_one {l:List Int} (hs:l.Pairwise (· < ·)) {b:Int}:l.filter (fun x=>decide (x=b))=if b∈l then [b] else []:=by
 induction l with
 | nil=>simp
 | cons x l ih=>
  obtain ⟨h1,h2⟩:=List.pairwise_cons.1 hs
  rw [List.filter_cons,ih h2]
  by_cases hx:x=b
  ·subst hx
   have:¬x∈l:=fun h=>by have:=h1 x h;omega
   simp [this]
  ·simp [hx,Ne.symm hx]
theorem yI {f:Nat→List Int} (hf : ∀ a,(f a).Pairwise (· < ·)) (hp : ∀ a,∀ x∈f a,0≤x) {b n:Nat}:((ey f n).filter fun e=>decide (e.2.toNat=b)).map Prod.fst=sift (fun a=>decide ((b:Int)∈f a)) (fun a=>(a:Int)) n:=by
 induction n with
 | zero=>rfl
 | succ n ih=>
  rw [dP,List.filter_append,List.map_append,ih]
  have e1:((f n).map fun b=>((n:Int),b)).filter (fun e=>decide (e.2.toNat=b))=((f n).filter fun x=>decide (x=(b:Int))).map fun b=>((n:Int),b):=by
   rw [List.filter_map]
   congr 1
   refine List.filter_congr fun x hx=>?_
   have:=hp n x hx
   simp only [Function.comp,decide_eq_decide]
   omega
  rw [e1,filter_one (hf n)]
  by_cases h:(b:Int)∈f n
  ·rw [if_pos h,kt (by simpa using h)];rfl
  ·rw [if_neg h,jf (by simpa using h)];simp
theorem kf {g:Gr}:(bm g).length=g.length:=by rw [bm,gY];simp
theorem ke {g:Gr}:bm g=ez g:=by
 refine qo (by rw [kf,ub]) fun b hb=>?_
 rw [kf] at hb
 rw [bm,yd (by simpa using hb),aB hb,List.nil_append,ez,cm hb,kN,yI (fun _=>fI) (fun a x hx=>by
  have:=(cO.1 (cF.1 hx)).1;omega)]
 have e:(fun a:Nat=>decide ((b:Int)∈cV g a))=fun a:Nat=>ek g a b:=by
  funext a
  rw [Bool.eq_iff_iff]
  simp [cF]
 rw [e]
theorem xj {g:Gr} {a b:Int} (hb:0≤b∧b<g.length):a∈nth (bm g) b.toNat↔ek g a b=true:=by
 rw [ke,ez,cm (by omega),iN]
 constructor
 ·rintro ⟨i,_,h,rfl⟩
  rwa [Int.toNat_of_nonneg hb.1] at h
 ·intro h
  have:=(cO.1 h).1
  exact ⟨a.toNat,by omega,by rw [Int.toNat_of_nonneg (by omega),Int.toNat_of_nonneg (by omega)];exact h,Int.toNat_of_nonneg (by omega)⟩
end Go.Proofs.Ytbkdlhkoiagbbaa
namespace Go.Proofs.Ytbkdlhkoiagbbaa
open Go Go.Lft
structure Le (x y:List Bool):Prop where
 len:y.length=x.length
 le : ∀ i,nth x i=true→nth y i=true
theorem Le.refl (x:List Bool):Le x x:=⟨rfl,fun _ h=>h⟩
theorem Le.trans {x y z:List Bool} (h:Le x y) (k:Le y z):Le x z:=⟨k.len.trans h.len,fun i e=>k.le i (h.le i e)⟩
theorem Le.antisymm {x y:List Bool} (h:Le x y) (k:Le y x):x=y:=by
 refine qo h.len.symm fun i _=>?_
 rw [Bool.eq_iff_iff];exact ⟨h.le i,k.le i⟩
theorem Le.bM : ∀ {x y:List Bool},Le x y→x=y∨bM y<bM x
 | [],y,h=>.inl (List.eq_nil_of_length_eq_zero h.len).symm
 | a::x,y,h=>by
  match y,h with
  | [],h=>have:=h.len;simp at this
  | b::y,h=>
   have h2:Le x y:=⟨by simpa using h.len,fun i e=>by have:=h.le (i+1);simpa [nth] using this (by simpa [nth] using e)⟩
   have h0:a=true→b=true:=fun e=>by have:=h.le 0;simpa [nth] using this (by simpa [nth] using e)
   unfold Go.Proofs.Ytbkdlhkoiagbbaa.bM
   rcases h2.bM with rfl | h3
   ·cases a<;>cases b<;>simp at h0 ⊢
   ·unfold Go.Proofs.Ytbkdlhkoiagbbaa.bM at h3
    cases a<;>cases b<;>simp at h0 ⊢<;>omega
theorem BG {x:List Bool} {i:Nat} {b:Bool} (hb:nth x i=true→b=true):Le x (x.set i b):=by
 refine ⟨by simp,fun j hj=>?_⟩
 rcases Nat.lt_or_ge j x.length with h | h
 ·rw [az h]
  split
  ·rename_i e;subst e;exact hb hj
  ·exact hj
 ·rw [aU h] at hj;cases hj
theorem qF {f:Nat→List Bool→List Bool} (hf : ∀ k x,Le x (f k x)) (x:List Bool) : ∀ n m,n≤m→Le (up f n x) (up f m x)
  | n,0,h=>by
                  obtain rfl:n=0:=by omega
                  exact Le.refl _
  | n,m+1,h=>by
    rcases Nat.lt_or_ge n (m+1) with h1 | h1
    · exact (qF hf x n m (by omega)).trans (hf m _)
    · obtain rfl:n=m+1:=by omega
      exact Le.refl _
theorem Bf {f:Nat→List Bool→List Bool} (hf : ∀ k x,Le x (f k x)) {x:List Bool} {n:Nat} (h:up f n x=x) : ∀ k,k<n→f k x=x:=by
 have key : ∀ k,k≤n→up f k x=x:=fun k hk=>by
  have h1:=qF hf x k n hk
  rw [h] at h1
  have h2:=qF hf x 0 k (Nat.zero_le _)
  exact (h2.antisymm h1).symm
 intro k hk
 have h1:=key (k+1) (by omega)
 rw [up,key k (by omega)] at h1
 exact h1
theorem sK {β:Type} {F:β→β} : ∀ (n:Nat) (x:β),up (fun _=>F) (n+1) x=up (fun _=>F) n (F x)
 | 0,x=>rfl
 | n+1,x=>by
  show F (up (fun _=>F) (n+1) x)=F (up (fun _=>F) n (F x))
  rw [sK n x]
theorem tp {β:Type} {F:β→β} {x:β} (h:F x=x) : ∀ n,up (fun _=>F) n x=x
 | 0=>rfl
 | n+1=>by show F (up (fun _=>F) n x)=x;rw [tp h n,h]
theorem yJ {F:List Bool→List Bool} (hF : ∀ x,Le x (F x)) : ∀ (n:Nat) (x:List Bool),bM x≤n→F (up (fun _=>F) n x)=up (fun _=>F) n x
 | 0,x,h=>by
  rcases (hF x).bM with e | e
  ·exact e.symm
  ·omega
 | n+1,x,h=>by
  rw [sK]
  rcases (hF x).bM with e | e
  ·rw [←e,tp e.symm];exact e.symm
  ·exact yJ hF n _ (by omega)
inductive Re (g:Gr) (gone:Int):Nat→Prop
 | root:0<g.length→gone≠0→Re g gone 0
 | step {a b:Nat}:Re g gone a→ek g a b=true→(b:Int)≠gone→Re g gone b
theorem Re.lt {g:Gr} {gone:Int} {b:Nat} (h:Re g gone b):b<g.length:=by
 cases h with
 | root h _=>exact h
 | step _ h _=>have:=(cO.1 h).1;omega
theorem Re.ne {g:Gr} {gone:Int} {b:Nat} (h:Re g gone b):(b:Int)≠gone:=by
 cases h with
 | root _ h=>exact fun e=>h e.symm
 | step _ _ h=>exact h
theorem Re.all {g:Gr} {gone:Int} {b:Nat} (h:Re g gone b):Re g (-1) b:=by
 induction h with
 | root h _=>exact .root h (by decide)
 | step _ h _ ih=>exact .step ih h (by omega)
theorem oh {gone:Int} {l:List Int} {i:Nat} {x:List Bool}:Le x (oa gone l i x):=BG fun h=>by rw [h];rfl
theorem nA {g:Gr} {gone:Int} {a:Nat} {x:List Bool}:Le x (outBlock g gone a x):=by
 unfold outBlock
 split
 ·exact qF (fun k x=>oh) x 0 _ (Nat.zero_le _)
 ·exact Le.refl _
theorem nM {g:Gr} {gone:Int} {x:List Bool}:Le x (iB g gone x):=qF (fun k x=>nA) x 0 _ (Nat.zero_le _)
theorem rV {β:Type} (I:β→Prop) {f:Nat→β→β} {n:Nat} (hf : ∀ k x,k<n→I x→I (f k x)) {x:β} (hx:I x):I (up f n x):=by
 have : ∀ m,m≤n→I (up f m x):=by
  intro m
  induction m with
  | zero=>exact fun _=>hx
  | succ m ih=>exact fun h=>hf _ _ (by omega) (ih (by omega))
 exact this n (Nat.le_refl _)
theorem qR {g:Gr} {gone:Int} {b:Nat}:nth (iT g gone) b=true↔Re g gone b:=by
 by_cases h0:g.length=0∨gone=0
 ·rw [iT,if_pos h0]
  constructor
  ·intro h
   rcases Nat.lt_or_ge b g.length with h1 | h1
   ·rw [aB h1] at h;cases h
   ·rw [aU (by simpa using h1)] at h;cases h
  ·intro h
   exfalso
   induction h with
   | root h1 h2=>rcases h0 with h0 | h0;omega;exact h2 h0
   | step _ _ _ ih=>exact ih
 ·rw [iT,if_neg h0]
  have hg:g.length≠0:=fun e=>h0 (.inl e)
  have hgone:gone≠0:=fun e=>h0 (.inr e)
  have hinit:((List.replicate g.length false).set 0 true).length=g.length:=by simp
  constructor
  ·-- what is marked is reached
   have hI : ∀ x:List Bool,(∀ b,nth x b=true→Re g gone b)→∀ b,nth (iB g gone x) b=true→Re g gone b:=by
    intro x hx
    refine rV (fun x:List Bool=>∀ b,nth x b=true→Re g gone b) (fun a x ha hx=>?_) hx
    unfold outBlock
    split
    ·rename_i hxa
     have hra:=hx a hxa
     refine rV (fun x:List Bool=>∀ b,nth x b=true→Re g gone b) (fun i x hi hx=>?_) hx
     intro b hb
     have hm:=bW hi
     have hed:=cF.1 hm
     have hrng:=(cO.1 hed).1
     unfold oa at hb
     rcases Nat.lt_or_ge b x.length with h1 | h1
     ·rw [az h1] at hb
      split at hb
      ·rename_i e
       rcases (Bool.or_eq_true _ _).mp hb with h2 | h2
       ·rw [e] at h2;exact hx b h2
       ·have eb:(b:Int)=nth (cV g a) i:=by omega
        exact .step hra (by rw [eb];exact hed) (by rw [eb];simpa using h2)
      ·exact hx b hb
     ·rw [aU (by simpa using h1)] at hb;cases hb
    ·exact hx
   exact rV (fun x:List Bool=>∀ b,nth x b=true→Re g gone b) (fun _ x _ hx=>hI x hx) (fun b hb=>by
    rcases Nat.lt_or_ge b g.length with h1 | h1
    ·rw [az (by simpa using h1)] at hb
     split at hb
     ·rename_i e;subst e;exact .root (by omega) hgone
     ·rw [aB h1] at hb;cases hb
    ·rw [aU (by simpa using h1)] at hb;cases hb) b
  ·-- what is reached is marked
   intro h
   have hfix:=yJ (F:=iB g gone) (fun x=>nM) g.length ((List.replicate g.length false).set 0 true) (by
    have:=pZ (t:=List.replicate g.length false) (i:=0)
    have h2:bM (List.replicate g.length false)=g.length:=by simp [bM]
    omega)
   have hle:=qF (f:=fun _=>iB g gone) (fun _ x=>nM) ((List.replicate g.length false).set 0 true) 0 g.length (Nat.zero_le _)
   generalize up (fun _=>iB g gone) g.length ((List.replicate g.length false).set 0 true)=x at hfix hle
   have hxl:x.length=g.length:=hle.len.trans hinit
   induction h with
   | root h1 _=>exact hle.le 0 (by show nth ((List.replicate g.length false).set 0 true) 0=true;rw [az (by simpa using h1),if_pos rfl])
   | step ha he hb ih=>
    rename_i a b
    have hrng:=(cO.1 he).1
    have h1:=Bf (fun k x=>nA) hfix a (by omega)
    rw [outBlock,if_pos ih] at h1
    obtain ⟨i,hi,e⟩:=List.getElem_of_mem (cF.2 he)
    have h2:=Bf (fun k x=>oh) h1 i hi
    rw [←aj hi] at e
    unfold oa at h2
    rw [e] at h2
    have h3:=congrArg (fun l=>nth l b) h2
    simp only [Int.toNat_natCast] at h3
    rw [az (by omega),if_pos rfl] at h3
    rw [←h3]
    simp [hb]
theorem jX {g:Gr} {a b:Nat}:domC g a b=true↔Re g (-1) a∧Re g (-1) b∧¬Re g a b:=by
 rw [domC]
 simp only [Bool.and_eq_true,Bool.or_eq_true,Bool.not_eq_true',decide_eq_true_eq,qR,Bool.eq_false_iff,ne_eq]
 constructor
 ·rintro ⟨⟨h1,h2⟩,h3⟩
  refine ⟨h1,h2,?_⟩
  rcases h3 with h3 | h3
  ·exact fun h=>h.ne h3.symm
  ·exact h3
 ·rintro ⟨h1,h2,h3⟩
  exact ⟨⟨h1,h2⟩,.inr h3⟩
end Go.Proofs.Ytbkdlhkoiagbbaa
namespace Go.Proofs.Ytbkdlhkoiagbbaa
open Go Go.Lft
def Bef (l:List Int) (u v:Int):Prop:=∃ p q,l=p++u::q∧v∈q
theorem Bef.app {l:List Int} {u v:Int} (h:Bef l u v) (t:List Int):Bef (l++t) u v:=by
 obtain ⟨p,q,rfl,hv⟩:=h
 exact ⟨p,q++t,by simp,List.mem_append_left _ hv⟩
theorem Bef.pre {l:List Int} {u v:Int} (h:Bef l u v) (t:List Int):Bef (t++l) u v:=by
 obtain ⟨p,q,rfl,hv⟩:=h
 exact ⟨t++p,q,by simp,hv⟩
theorem Bef.wj {l t:List Int} {u v:Int} (hu:u∈l) (hv:v∈t):Bef (l++t) u v:=by
 obtain ⟨p,q,rfl⟩:=List.append_of_mem hu
 exact ⟨p,q++t,by simp,List.mem_append_right _ hv⟩
theorem Bef.mem {l:List Int} {u v:Int} (h:Bef l u v):u∈l∧v∈l:=by
 obtain ⟨p,q,rfl,hv⟩:=h
 exact ⟨by simp,by simp [hv]⟩
inductive Adv (nx:Int→List Int) (l:List Int) (u:Int):Int→Prop
 | self:Adv nx l u u
 | step {p q:Int}:Adv nx l u p→q∈nx p→Bef l q p→Adv nx l u q
theorem Adv.app {nx:Int→List Int} {l:List Int} {u v:Int} (h:Adv nx l u v) (t:List Int):Adv nx (l++t) u v:=by
 induction h with
 | self=>exact .self
 | step _ h1 h2 ih=>exact .step ih h1 (h2.app t)
theorem Adv.pre {nx:Int→List Int} {l:List Int} {u v:Int} (h:Adv nx l u v) (t:List Int):Adv nx (t++l) u v:=by
 induction h with
 | self=>exact .self
 | step _ h1 h2 ih=>exact .step ih h1 (h2.pre t)
theorem Adv.trans {nx:Int→List Int} {l:List Int} {u v w:Int} (h:Adv nx l u v) (k:Adv nx l v w):Adv nx l u w:=by
 induction k with
 | self=>exact h
 | step _ h1 h2 ih=>exact .step ih h1 h2
def vis (s:List Bool × List Int) (x:Int):Prop:=nth s.1 x.toNat=true
structure Told (nx:Int→List Int) (m:Nat) (a:Int) (s s':List Bool × List Int) (new:List Int):Prop where
 out:s'.2=s.2++new
 len:s'.1.length=s.1.length
 nodup:new.Nodup
 visd : ∀ x,0≤x→(vis s' x↔vis s x∨x∈new)
 fresh : ∀ x∈new,¬vis s x∧0≤x∧x<m
 last : ∃ t,new=t++[a]
 clos : ∀ x∈new,∀ y∈nx x,vis s' y
 par : ∀ x∈new,x≠a→∃ p∈new,x∈nx p∧Bef new x p
 desc : ∀ x∈new,Adv nx new a x
 ret : ∀ x∈new,∀ y∈nx x,y∈new→Bef new y x∨Adv nx new y x
structure Half (nx:Int→List Int) (m:Nat) (a:Int) (k:Nat) (s s':List Bool × List Int) (new:List Int):Prop where
 out:s'.2=s.2++new
 len:s'.1.length=s.1.length
 nodup:new.Nodup
 visd : ∀ x,0≤x→(vis s' x↔vis s x∨x=a∨x∈new)
 fresh : ∀ x∈new,¬vis s x∧(0≤x∧x<m)∧x≠a
 clos : ∀ x∈new,∀ y∈nx x,vis s' y
 done : ∀ j,j<k→vis s' (nth (nx a) j)
 par : ∀ x∈new,x∈nx a∨∃ p∈new,x∈nx p∧Bef new x p
 desc : ∀ x∈new,∃ b∈new,b∈nx a∧Adv nx new b x
 ret : ∀ x∈new,∀ y∈nx x,y∈new→Bef new y x∨Adv nx new y x
theorem qp {nx:Int→List Int} {m:Nat} (hnx : ∀ a:Int,0≤a→a<m→∀ y∈nx a,0≤y∧y<m) : ∀ (n:Nat) (a:Int) (s:List Bool × List Int),0≤a→a<m→s.1.length=m→nth s.1 a.toNat=false→bM s.1≤n→
  ∃ new,Told nx m a s (fo nx n a s) new
 | 0,a,s,h0,h1,hl,hf,hc=>by
  exfalso
  have:=eZ (t:=s.1) (i:=a.toNat) (by omega) hf
  omega
 | n+1,a,s,h0,h1,hl,hf,hc=>by
  have hfs:=eZ (t:=s.1) (i:=a.toNat) (by omega) hf
  rw [fQ]
  have half : ∀ k,k≤(nx a).length→∃ new,Half nx m a k s (up (bn nx n a) k (s.1.set a.toNat true,s.2)) new∧bM (up (bn nx n a) k (s.1.set a.toNat true,s.2)).1≤n:=by
   intro k
   induction k with
   | zero=>
    intro _
    refine ⟨[],⟨by simp [up],by simp [up],by simp,fun x hx=>?_,by simp,by simp,by simp,by simp,by simp,by simp⟩,by simp only [up];omega⟩
    unfold vis
    show nth (s.1.set a.toNat true) x.toNat=true↔_
    rcases Nat.lt_or_ge x.toNat s.1.length with hlt | hge
    ·rw [az hlt]
     split
     ·rename_i e
      have:x=a:=by omega
      simp [this]
     ·rename_i e
      have:x≠a:=fun h=>e (by rw [h])
      simp [this]
    ·rw [aU (by simpa using hge),aU hge]
     have:x≠a:=by omega
     simp [this]
   | succ k ih=>
    intro hk
    obtain ⟨new,H,hcn⟩:=ih (by omega)
    rw [up]
    generalize up (bn nx n a) k (s.1.set a.toNat true,s.2)=z at H hcn
    have hb:=hnx a h0 h1 (nth (nx a) k) (bW (by omega))
    have hbm:nth (nx a) k∈nx a:=bW (by omega)
    have hzl:z.1.length=m:=H.len.trans hl
    rw [bn]
    split
    ·rename_i hv
     refine ⟨new,{ H with done:=fun j hj=>?_ },hcn⟩
     rcases Nat.lt_or_ge j k with h | h
     ·exact H.done j h
     ·obtain rfl:j=k:=by omega
      exact hv
    ·rename_i hv
     obtain ⟨new',T⟩:=qp hnx n (nth (nx a) k) z hb.1 hb.2 hzl (by simpa using hv) hcn
     have hkeep:=(ka (nx:=nx) (m:=m) (c:=n) n (nth (nx a) k) z ⟨hzl,hcn⟩).2
     generalize fo nx n (nth (nx a) k) z=z' at T hkeep
     obtain ⟨t,ht⟩:=T.last
     have hbn:nth (nx a) k∈new':=by rw [ht];simp
     have up : ∀ y,0≤y→vis z y→vis z' y:=fun y hy h=>(T.visd y hy).2 (.inl h)
     have hnv : ∀ x∈new,vis z x:=fun x hx=>(H.visd x (H.fresh x hx).2.1.1).2 (.inr (.inr hx))
     refine ⟨new++new',⟨?_,?_,?_,?_,?_,?_,?_,?_,?_,?_⟩,hkeep⟩
     ·rw [T.out,H.out,List.append_assoc]
     ·rw [T.len,H.len]
     ·exact List.nodup_append.2 ⟨H.nodup,T.nodup,fun x hx y hy e=>by subst e;exact (T.fresh x hy).1 (hnv x hx)⟩
     ·intro x hx
      rw [T.visd x hx,H.visd x hx,List.mem_append]
      constructor
      ·rintro ((h | h | h) | h)
       ·exact .inl h
       ·exact .inr (.inl h)
       ·exact .inr (.inr (.inl h))
       ·exact .inr (.inr (.inr h))
      ·rintro (h | h | h | h)
       ·exact .inl (.inl h)
       ·exact .inl (.inr (.inl h))
       ·exact .inl (.inr (.inr h))
       ·exact .inr h
     ·intro x hx
      rcases List.mem_append.1 hx with hx | hx
      ·exact H.fresh x hx
      ·obtain ⟨g1,g2⟩:=T.fresh x hx
       refine ⟨fun h=>g1 ((H.visd x g2.1).2 (.inl h)),g2,fun e=>g1 ((H.visd x g2.1).2 (.inr (.inl e)))⟩
     ·intro x hx y hy
      rcases List.mem_append.1 hx with hx | hx
      ·have hxr:=(H.fresh x hx).2.1
       exact up y (hnx x hxr.1 hxr.2 y hy).1 (H.clos x hx y hy)
      ·exact T.clos x hx y hy
     ·intro j hj
      rcases Nat.lt_or_ge j k with h | h
      ·exact up _ (hnx a h0 h1 _ (bW (by omega))).1 (H.done j h)
      ·obtain rfl:j=k:=by omega
       exact (T.visd _ hb.1).2 (.inr hbn)
     ·intro x hx
      rcases List.mem_append.1 hx with hx | hx
      ·rcases H.par x hx with h | ⟨p,hp,h2,h3⟩
       ·exact .inl h
       ·exact .inr ⟨p,List.mem_append_left _ hp,h2,h3.app _⟩
      ·by_cases e:x=nth (nx a) k
       ·exact .inl (e▸hbm)
       ·obtain ⟨p,hp,h2,h3⟩:=T.par x hx e
        exact .inr ⟨p,List.mem_append_right _ hp,h2,h3.pre _⟩
     ·intro x hx
      rcases List.mem_append.1 hx with hx | hx
      ·obtain ⟨b,hb,h2,h3⟩:=H.desc x hx
       exact ⟨b,List.mem_append_left _ hb,h2,h3.app _⟩
      ·exact ⟨_,List.mem_append_right _ hbn,hbm,(T.desc x hx).pre _⟩
     ·intro x hx y hy hyn
      rcases List.mem_append.1 hx with hx | hx<;>rcases List.mem_append.1 hyn with hyn | hyn
      ·exact (H.ret x hx y hy hyn).imp (·.app _) (·.app _)
      ·exact absurd (H.clos x hx y hy) (T.fresh y hyn).1
      ·exact .inl (Bef.wj hyn hx)
      ·exact (T.ret x hx y hy hyn).imp (·.pre _) (·.pre _)
  obtain ⟨new,H,hcn⟩:=half (nx a).length (Nat.le_refl _)
  generalize up (bn nx n a) (nx a).length (s.1.set a.toNat true,s.2)=z at H hcn
  have hda : ∀ y∈nx a,vis z y:=by
   intro y hy
   obtain ⟨j,hj,rfl⟩:=List.getElem_of_mem hy
   have:=H.done j hj
   rwa [aj hj] at this
  have hadv : ∀ x∈new,Adv nx (new++[a]) a x:=by
   intro x hx
   obtain ⟨b,hb,h2,h3⟩:=H.desc x hx
   exact (Adv.step .self h2 (Bef.wj hb (by simp))).trans (h3.app _)
  refine ⟨new++[a],⟨?_,H.len,?_,?_,?_,⟨new,rfl⟩,?_,?_,?_,?_⟩⟩
  ·simp only [H.out,List.append_assoc]
  ·refine List.nodup_append.2 ⟨H.nodup,by simp,fun x hx y hy e=>?_⟩
   simp only [List.mem_singleton] at hy
   exact (H.fresh x hx).2.2 (e.trans hy)
  ·intro x hx
   show nth z.1 x.toNat=true↔_
   have:=H.visd x hx
   unfold vis at this ⊢
   rw [this]
   simp only [List.mem_append,List.mem_singleton]
   constructor
   ·rintro (h | h | h)
    ·exact .inl h
    ·exact .inr (.inr h)
    ·exact .inr (.inl h)
   ·rintro (h | h | h)
    ·exact .inl h
    ·exact .inr (.inr h)
    ·exact .inr (.inl h)
  ·intro x hx
   rcases List.mem_append.1 hx with hx | hx
   ·exact ⟨(H.fresh x hx).1,(H.fresh x hx).2.1⟩
   ·simp only [List.mem_singleton] at hx;subst hx
    exact ⟨by unfold vis;rw [hf];simp,h0,h1⟩
  ·intro x hx y hy
   rcases List.mem_append.1 hx with hx | hx
   ·exact H.clos x hx y hy
   ·simp only [List.mem_singleton] at hx;subst hx
    exact hda y hy
  ·intro x hx hne
   rcases List.mem_append.1 hx with hx | hx
   ·rcases H.par x hx with h | ⟨p,hp,h2,h3⟩
    ·exact ⟨a,by simp,h,Bef.wj hx (by simp)⟩
    ·exact ⟨p,List.mem_append_left _ hp,h2,h3.app _⟩
   ·simp only [List.mem_singleton] at hx;exact absurd hx hne
  ·intro x hx
   rcases List.mem_append.1 hx with hx | hx
   ·exact hadv x hx
   ·simp only [List.mem_singleton] at hx;subst hx;exact .self
  ·intro x hx y hy hyn
   rcases List.mem_append.1 hyn with hn | hn
   ·rcases List.mem_append.1 hx with hx | hx
    ·exact (H.ret x hx y hy hn).imp (·.app _) (·.app _)
    ·simp only [List.mem_singleton] at hx;subst hx
     exact .inl (Bef.wj hn (by simp))
   ·simp only [List.mem_singleton] at hn;subst hn
    rcases List.mem_append.1 hx with hx | hx
    ·exact .inr (hadv x hx)
    ·simp only [List.mem_singleton] at hx;subst hx
     exact .inr .self
end Go.Proofs.Ytbkdlhkoiagbbaa
namespace Go.Proofs.Ytbkdlhkoiagbbaa.Chk
inductive Anc (o:Nat→Nat) (x:Nat):Nat→Prop
 | self:Anc o x x
 | up {b:Nat}:b≠0→Anc o x (o b)→Anc o x b
theorem mg {o:Nat→Nat} {x:Nat}:Anc o x 0↔x=0:=by
 constructor
 ·intro h
  cases h with
  | self=>rfl
  | up h _=>exact absurd rfl h
 ·rintro rfl;exact .self
theorem jq {o:Nat→Nat} {x b:Nat} (hb:b≠0):Anc o x b↔x=b∨Anc o x (o b):=by
 constructor
 ·intro h
  cases h with
  | self=>exact .inl rfl
  | up _ h=>exact .inr h
 ·rintro (rfl | h)
  ·exact .self
  ·exact .up hb h
theorem Anc.trans {o:Nat→Nat} {x y b:Nat} (h:Anc o x y) (k:Anc o y b):Anc o x b:=by
 induction k with
 | self=>exact h
 | up hb _ ih=>exact .up hb ih
theorem Anc.total {o:Nat→Nat} {x y b:Nat} (h:Anc o x b) (k:Anc o y b):Anc o x y∨Anc o y x:=by
 induction h with
 | self=>exact .inr k
 | up hb h ih=>
  cases k with
  | self=>exact .inl (.up hb h)
  | up _ k=>exact ih k
structure Ch (R:Nat→Prop) (r:Nat→Nat) (E:Nat→Nat→Prop) (f:Nat→Nat) (D:Nat→Nat→Prop):Prop where
 inj : ∀ a b,R a→R b→r a=r b→a=b
 R0:R 0
 r0:r 0=0
 hf : ∀ x,R x→x≠0→R (f x)∧E (f x) x∧r (f x)<r x
 d1 : ∀ d b a,D d b→d≠b→E a b→R a→D d a
 d0 : ∀ d,D d 0→d=0
def Ok (Pr:Nat→Prop) (x:Nat):Prop:=x=0∨Pr x
structure Inv (R:Nat→Prop) (r:Nat→Nat) (E:Nat→Nat→Prop) (f:Nat→Nat) (D:Nat→Nat→Prop) (k:Nat) (o:Nat→Nat) (Pr:Nat→Prop):Prop where
 pr : ∀ b,Pr b→R b∧b≠0∧Ok Pr (o b)∧r (o b)<r b
 all : ∀ b,R b→b≠0→r b<k→Pr b
 fok : ∀ b,Pr b→Ok Pr (f b)
 K : ∀ b,Pr b→∀ x,(∀ a,E a b→R a→Ok Pr a→Anc o x a)→Anc o x (o b)
 FP : ∀ b,Pr b→∀ y,Anc o y (o b)→k≤r y→Anc o y (f b)
 FP2 : ∀ b,Pr b→r b<k→Anc o (o b) (f b)
 S : ∀ b,Pr b→∀ d,D d b→d≠b→Anc o d (o b)
section
variable {R:Nat→Prop} {r:Nat→Nat} {E:Nat→Nat→Prop} {f:Nat→Nat} {D:Nat→Nat→Prop} {k:Nat} {o:Nat→Nat} {Pr:Nat→Prop}
theorem Inv.okR (I:Inv R r E f D k o Pr) (C:Ch R r E f D) {x:Nat} (h:Ok Pr x):R x:=by
 rcases h with rfl | h
 ·exact C.R0
 ·exact (I.pr x h).1
theorem Inv.anc (I:Inv R r E f D k o Pr) {x b:Nat} (h:Anc o x b):Ok Pr b→Ok Pr x∧(x=b∨r x<r b):=by
 induction h with
 | self=>exact fun hb=>⟨hb,.inl rfl⟩
 | up hb _ ih=>
  intro hok
  rcases hok with rfl | hp
  ·exact absurd rfl hb
  ·obtain ⟨_,_,h3,h4⟩:=I.pr _ hp
   obtain ⟨h5,h6⟩:=ih h3
   refine ⟨h5,.inr ?_⟩
   rcases h6 with rfl | h6
   ·exact h4
   ·omega
theorem Inv.dom (I:Inv R r E f D k o Pr) (C:Ch R r E f D) {d b:Nat} (hb:Ok Pr b) (h:D d b):Anc o d b:=by
 by_cases e:d=b
 ·subst e;exact .self
 ·rcases hb with rfl | hb
  ·exact absurd (C.d0 d h) e
  ·exact .up (I.pr b hb).2.1 (I.S b hb d h e)
def upd (o:Nat→Nat) (c q:Nat):Nat→Nat:=fun b=>if b=c then q else o b
def add (Pr:Nat→Prop) (c:Nat):Nat→Prop:=fun b=>b=c∨Pr b
theorem fy {c q x b:Nat} (h:¬Anc o c b):Anc (upd o c q) x b↔Anc o x b:=by
 constructor
 ·intro k
  induction k with
  | self=>exact .self
  | up hb k ih=>
   rename_i b
   have hne:b≠c:=fun e=>h (e▸.self)
   have e:upd o c q b=o b:=by unfold upd;rw [if_neg hne]
   rw [e] at ih k
   exact .up hb (ih fun hc=>h (.up hb hc))
 ·intro k
  induction k with
  | self=>exact .self
  | up hb k ih=>
   rename_i b
   have hne:b≠c:=fun e=>h (e▸.self)
   have e:upd o c q b=o b:=by unfold upd;rw [if_neg hne]
   exact .up hb (by rw [e];exact ih fun hc=>h (.up hb hc))
theorem BW {c q x:Nat} (hc:c≠0) (hq:¬Anc o c q):Anc (upd o c q) x c↔x=c∨Anc o x q:=by
 rw [jq hc,show upd o c q c=q by simp [upd],fy hq]
theorem Inv.Ap (I:Inv R r E f D k o Pr) {x y:Nat} (hx:Ok Pr x) (hy:Ok Pr y) (h1:Anc o x y) (h2:Anc o y x):x=y:=by
 have e1:=(I.anc h1 hy).2
 have e2:=(I.anc h2 hx).2
 omega
theorem Inv.below (I:Inv R r E f D k o Pr) {c q x b:Nat} (hpc:Pr c) (hq:¬Anc o c q) (h:Anc o c b):Ok Pr b→(Anc (upd o c q) x b↔(Anc o x b∧Anc o c x)∨Anc o x q):=by
 have hc:=(I.pr c hpc).2.1
 induction h with
 | self=>
  intro hb
  rw [BW hc hq]
  constructor
  ·rintro (rfl | h)
   ·exact .inl ⟨.self,.self⟩
   ·exact .inr h
  ·rintro (⟨h1,h2⟩ | h)
   ·exact .inl (I.Ap (I.anc h1 hb).1 hb h1 h2)
   ·exact .inr h
 | up hb h ih=>
  rename_i b
  intro hok
  have hpb:Pr b:=hok.resolve_left hb
  obtain ⟨_,_,h3,h4⟩:=I.pr b hpb
  have hne:b≠c:=fun e=>by
   subst e
   rcases (I.anc h h3).2 with e | e
   ·rw [←e] at h4;omega
   ·omega
  have e:upd o c q b=o b:=by unfold upd;rw [if_neg hne]
  rw [jq hb,e,ih h3,jq hb]
  constructor
  ·rintro (rfl | ⟨h1,h2⟩ | h1)
   ·exact .inl ⟨.inl rfl,.up hb h⟩
   ·exact .inl ⟨.inr h1,h2⟩
   ·exact .inr h1
  ·rintro (⟨rfl | h1,h2⟩ | h1)
   ·exact .inl rfl
   ·exact .inr (.inl ⟨h1,h2⟩)
   ·exact .inr (.inr h1)
structure Turn (R:Nat→Prop) (r:Nat→Nat) (E:Nat→Nat→Prop) (o:Nat→Nat) (Pr:Nat→Prop) (c q:Nat):Prop where
 ok:Ok Pr q
 q : ∀ x,Anc o x q↔∀ a,E a c→R a→Ok Pr a→Anc o x a
theorem Inv.fc (I:Inv R r E f D k o Pr) (C:Ch R r E f D) {c:Nat} (hR:R c) (hc:c≠0) (hk:r c=k):Ok Pr (f c):=by
 obtain ⟨h1,_,h3⟩:=C.hf c hR hc
 by_cases e:f c=0
 ·exact .inl e
 ·exact .inr (I.all _ h1 e (by omega))
theorem Turn.lt {c q:Nat} (T:Turn R r E o Pr c q) (I:Inv R r E f D k o Pr) (C:Ch R r E f D) (hR:R c) (hc:c≠0) (hk:r c=k):r q<r c∧Anc o q (f c):=by
 obtain ⟨h1,h2,h3⟩:=C.hf c hR hc
 have h4:=(T.q q).1 .self (f c) h2 h1 (I.fc C hR hc hk)
 have:=(I.anc h4 (I.fc C hR hc hk)).2
 refine ⟨?_,h4⟩
 rcases this with e | e
 ·rw [e];exact h3
 ·omega
theorem Inv.turn (I:Inv R r E f D k o Pr) (C:Ch R r E f D) {c q:Nat} (hR:R c) (hc:c≠0) (hk:r c=k) (T:Turn R r E o Pr c q):Inv R r E f D (k+1) (upd o c q) (add Pr c):=by
 obtain ⟨f1,f2,f3⟩:=C.hf c hR hc
 have hfok:=I.fc C hR hc hk
 obtain ⟨hlt,hqf⟩:=T.lt I C hR hc hk
 have hq:¬Anc o c q:=fun h=>by
  have:=(I.anc h T.ok).2
  rcases this with e | e
  ·rw [e] at hlt;omega
  ·omega
 have hcf:¬Anc o c (f c):=fun h=>by
  have:=(I.anc h hfok).2
  rcases this with e | e
  ·rw [←e] at f3;omega
  ·omega
 have okm : ∀ x,Ok Pr x→Ok (add Pr c) x:=fun x h=>h.imp id .inr
 have up_ne : ∀ b,b≠c→upd o c q b=o b:=fun b hb=>by unfold upd;rw [if_neg hb]
 have up_c:upd o c q c=q:=by simp [upd]
 have hpc : ∀ b,Ok Pr b→Anc o c b→Pr c:=fun b hb h=>((I.anc h hb).1).resolve_left hc
 have mono : ∀ b,Ok Pr b→∀ x,Anc (upd o c q) x b→Anc o x b:=by
  intro b hb x h
  by_cases hcb:Anc o c b
  ·have hp:=hpc b hb hcb
   rcases (I.below hp hq hcb hb).1 h with ⟨h1,_⟩ | h1
   ·exact h1
   ·exact (Anc.up hc (I.K c hp x ((T.q x).1 h1))).trans hcb
  ·exact (fy hcb).1 h
 have stay : ∀ b,Ok Pr b→∀ x,Anc o x b→(Anc o c b→Anc o c x∨Anc o x q)→Anc (upd o c q) x b:=by
  intro b hb x h h2
  by_cases hcb:Anc o c b
  ·refine (I.below (hpc b hb hcb) hq hcb hb).2 ?_
   rcases h2 hcb with h3 | h3
   ·exact .inl ⟨h,h3⟩
   ·exact .inr h3
  ·exact (fy hcb).2 h
 have domc : ∀ n b,r b≤n→Ok Pr b→Anc o c b→∀ d,D d b→r d<r c→D d c:=by
  intro n
  induction n with
  | zero=>
   intro b hb hok hcb d hd hlt
   have:=(I.anc hcb hok).2
   rcases this with rfl | h
   ·exact hd
   ·omega
  | succ n ih=>
   intro b hb hok hcb d hd hlt
   by_cases e:c=b
   ·subst e;exact hd
   ·have hb0:b≠0:=fun e0=>by subst e0;exact e (mg.1 hcb)
    have hpb:=hok.resolve_left hb0
    have hcb':Anc o c (o b):=((jq hb0).1 hcb).resolve_left e
    obtain ⟨g1,g2,g3⟩:=C.hf b (I.pr b hpb).1 hb0
    have hlb:=(I.anc hcb hok).2
    have hdb:d≠b:=fun e2=>by subst e2;omega
    exact ih (f b) (by omega) (I.fok b hpb) (I.FP b hpb c hcb' (by omega)) d (C.d1 d b (f b) hd hdb g2 g1) hlt
 have domq : ∀ d,D d c→d≠c→Anc o d q:=by
  intro d hd hne
  refine (T.q d).2 fun a ha hRa hoka=>?_
  exact I.dom C hoka (C.d1 d c a hd hne ha hRa)
 refine ⟨?_,?_,?_,?_,?_,?_,?_⟩
 ·rintro b (rfl | hb)
  ·rw [up_c];exact ⟨hR,hc,okm _ T.ok,hlt⟩
  ·by_cases e:b=c
   ·subst e;rw [up_c];exact ⟨hR,hc,okm _ T.ok,hlt⟩
   ·rw [up_ne b e]
    obtain ⟨h1,h2,h3,h4⟩:=I.pr b hb
    exact ⟨h1,h2,okm _ h3,h4⟩
 ·intro b hRb hb0 hlt
  by_cases e:r b=k
  ·exact .inl (C.inj b c hRb hR (by omega))
  ·exact .inr (I.all b hRb hb0 (by omega))
 ·rintro b (rfl | hb)
  ·exact okm _ hfok
  ·exact okm _ (I.fok b hb)
 ·intro b hb x hx
  have hx' : ∀ a,E a b→R a→Ok Pr a→Anc o x a:=fun a h1 h2 h3=>mono a h3 x (hx a h1 h2 (okm a h3))
  by_cases e:b=c
  ·subst e
   rw [up_c,fy hq]
   exact (T.q x).2 hx'
  ·have hpb:Pr b:=hb.resolve_left e
   rw [up_ne b e]
   obtain ⟨h1,h2,h3,h4⟩:=I.pr b hpb
   have hxo:=I.K b hpb x hx'
   refine stay (o b) h3 x hxo fun hco=>?_
   rcases Anc.total hxo hco with h5 | h5
   ·-- x above c: by the one ahead of b
    obtain ⟨g1,g2,g3⟩:=C.hf b h1 h2
    have hcf2:=I.FP b hpb c hco (by omega)
    have hxf:=hx (f b) g2 g1 (okm _ (I.fok b hpb))
    rcases (I.below (hpc _ h3 hco) hq hcf2 (I.fok b hpb)).1 hxf with ⟨_,h6⟩ | h6
    ·exact .inl h6
    ·exact .inr h6
   ·exact .inl h5
 ·intro b hb y hy hky
  by_cases e:b=c
  ·subst e
   rw [up_c,fy hq] at hy
   exact (fy hcf).2 (hy.trans hqf)
  ·have hpb:Pr b:=hb.resolve_left e
   rw [up_ne b e] at hy
   obtain ⟨h1,h2,h3,h4⟩:=I.pr b hpb
   have hyf:=I.FP b hpb y (mono _ h3 y hy) (by omega)
   refine stay (f b) (I.fok b hpb) y hyf fun hcf2=>?_
   rcases Anc.total hyf hcf2 with h5 | h5
   ·exfalso
    have:=(I.anc h5 (.inr (hpc _ (I.fok b hpb) hcf2))).2
    rcases this with e2 | e2
    ·subst e2;omega
    ·omega
   ·exact .inl h5
 ·intro b hb hlt
  by_cases e:b=c
  ·subst e
   rw [up_c]
   exact (fy hcf).2 hqf
  ·have hpb:Pr b:=hb.resolve_left e
   rw [up_ne b e]
   obtain ⟨h1,h2,h3,h4⟩:=I.pr b hpb
   obtain ⟨g1,g2,g3⟩:=C.hf b h1 h2
   have hbk:r b<k:=by
    rcases Nat.lt_or_ge (r b) k with h | h
    ·exact h
    ·exact absurd (C.inj b c h1 hR (by omega)) e
   have h5:=I.FP2 b hpb hbk
   refine (fy fun hcf2=>?_).2 h5
   have:=(I.anc hcf2 (I.fok b hpb)).2
   rcases this with e2 | e2
   ·rw [←e2] at g3;omega
   ·omega
 ·intro b hb d hd hne
  by_cases e:b=c
  ·subst e
   rw [up_c,fy hq]
   exact domq d hd hne
  ·have hpb:Pr b:=hb.resolve_left e
   rw [up_ne b e]
   obtain ⟨h1,h2,h3,h4⟩:=I.pr b hpb
   have hdo:=I.S b hpb d hd hne
   refine stay (o b) h3 d hdo fun hco=>?_
   rcases Anc.total hdo hco with h5 | h5
   ·have hpcc:=hpc _ h3 hco
    rcases (I.anc h5 (.inr hpcc)).2 with e2 | e2
    ·subst e2;exact .inl .self
    ·exact .inr (domq d (domc (r b) b (Nat.le_refl _) (.inr hpb) (.up h2 hco) d hd e2) fun e3=>by subst e3;omega)
   ·exact .inl h5
theorem Inv.again (I:Inv R r E f D k o Pr) (hk : ∀ b,R b→r b<k):Inv R r E f D 0 o Pr:=by
 refine ⟨I.pr,fun b hR h0 h=>I.all b hR h0 (hk b hR),I.fok,I.K,fun b hb y hy _=>?_,fun b _ h=>absurd h (by omega),I.S⟩
 exact hy.trans (I.FP2 b hb (hk b (I.pr b hb).1))
theorem Inv.start:Inv R r E f D 0 o (fun _=>False):=
 ⟨fun _ h=>h.elim,fun _ _ _ h=>absurd h (by omega),fun _ h=>h.elim,fun _ h=>h.elim,fun _ h=>h.elim,fun _ h=>h.elim,fun _ h=>h.elim⟩
theorem Inv.CH (I:Inv R r E f D k o Pr) {c q:Nat} (T:Turn R r E o Pr c q) (hp:Pr c):q=o c∨r q<r (o c):=by
 have:=I.K c hp q ((T.q q).1 .self)
 exact (I.anc this (I.pr c hp).2.2.1).2
end
end Go.Proofs.Ytbkdlhkoiagbbaa.Chk
namespace Go.Proofs.Ytbkdlhkoiagbbaa
open Go Go.Lft Chk
theorem zv {β:Type} {f k:Nat→β→β} {n:Nat} (I:β→Prop) (h : ∀ i x,i<n→I x→f i x=k i x) (hI : ∀ i x,i<n→I x→I (f i x)) {x:β} (hx:I x):up f n x=up k n x:=by
 have key : ∀ m,m≤n→up f m x=up k m x∧I (up f m x):=by
  intro m
  induction m with
  | zero=>exact fun _=>⟨rfl,hx⟩
  | succ m ih=>
   intro hm
   obtain ⟨h1,h2⟩:=ih (by omega)
   exact ⟨by rw [up,up,←h1,h m _ (by omega) h2],hI _ _ (by omega) h2⟩
 exact (key n (Nat.le_refl _)).1
theorem nD {nx nx':Int→List Int} {m:Nat} (hnx : ∀ a:Int,0≤a→a<m→nx a=nx' a∧∀ y∈nx a,0≤y∧y<m) : ∀ (n:Nat) (a:Int) (s:List Bool × List Int),0≤a→a<m→fo nx n a s=fo nx' n a s
 | 0,_,_,_,_=>rfl
 | n+1,a,s,h0,h1=>by
  obtain ⟨e,hr⟩:=hnx a h0 h1
  rw [fQ,fQ,←e]
  have:up (bn nx n a) (nx a).length (s.1.set a.toNat true,s.2)=up (bn nx' n a) (nx a).length (s.1.set a.toNat true,s.2):=by
   refine zv (fun _=>True) (fun i x hi _=>?_) (fun _ _ _ _=>trivial) trivial
   unfold bn
   rw [←e]
   obtain ⟨g0,g1⟩:=hr _ (bW hi)
   rw [nD hnx n _ x g0 g1]
  rw [this]
theorem pR {g:Gr} {a y:Int} (h:y∈cV g a):0≤y∧y<g.length:=by
 have:=(cO.1 (cF.1 h)).1;omega
theorem vQ {g:Gr} {a:Int} (h0:0≤a) (h1:a<g.length):nx (bs g) a=cV g a:=by
 unfold nx
 rw [gZ (by omega),Int.toNat_of_nonneg h0]
theorem x4 {g:Gr}:aC g=gq (cV g) g.length:=by
 unfold aC gq
 split
 ·rfl
 ·rw [nD (m:=g.length) (fun a h0 h1=>⟨vQ h0 h1,fun y hy=>pR (by rwa [vQ h0 h1] at hy)⟩) _ _ _ (by omega) (by omega)]
structure Ord (g:Gr) (order:List Int):Prop where
 nodup:order.Nodup
 mem : ∀ x:Nat,(x:Int)∈order↔Re g (-1) x
 rng : ∀ x∈order,0≤x∧x<g.length
 head:order[0]? = some 0
 par : ∀ x∈order,x≠0→∃ p∈order,ek g p x=true∧order.idxOf p<order.idxOf x
 ret : ∀ x∈order,∀ y∈order,ek g x y=true→order.idxOf y≤order.idxOf x→∃ l,Adv (cV g) l y x∧∀ u v,Bef l u v→order.idxOf v<order.idxOf u
theorem mW {l:List Int} (hn:l.Nodup) {u v:Int} (h:Bef l u v):l.reverse.idxOf v<l.reverse.idxOf u:=by
 obtain ⟨p,q,rfl,hv⟩:=h
 have hu:u∉q:=by
  have:=(List.nodup_append.1 hn).2.1
  exact (List.nodup_cons.1 this).1
 rw [List.reverse_append,List.reverse_cons,List.append_assoc]
 have h1:(q.reverse++([u]++p.reverse)).idxOf v<q.reverse.length:=by
  rw [List.idxOf_append,if_pos (by simpa using hv)]
  exact List.idxOf_lt_length_of_mem (by simpa using hv)
 have h2:(q.reverse++([u]++p.reverse)).idxOf u=q.reverse.length:=by
  rw [List.idxOf_append,if_neg (by simpa using hu)]
  simp
 omega
theorem fE {g:Gr} (hg:0<g.length):Ord g (aC g):=by
 have hT:=qp (nx:=cV g) (m:=g.length) (fun a _ _ y hy=>pR hy) g.length 0 (List.replicate g.length false,[]) (by omega) (by omega) (by simp) (aB (by simpa using hg)) (by simp [bM])
 have ho:aC g=(fo (cV g) g.length 0 (List.replicate g.length false,[])).2.reverse:=by
  rw [x4,gq,if_neg (by omega)]
 obtain ⟨new,T⟩:=hT
 have hout:=T.out
 simp only [List.nil_append] at hout
 rw [ho,hout]
 have hv0 : ∀ x:Int,¬vis (List.replicate g.length false,([]:List Int)) x:=by
  intro x h
  unfold vis at h
  simp only at h
  rcases Nat.lt_or_ge x.toNat g.length with h1 | h1
  ·rw [aB h1] at h;cases h
  ·rw [aU (by simpa using h1)] at h;cases h
 have hvis : ∀ x,0≤x→(vis (fo (cV g) g.length 0 (List.replicate g.length false,[])) x↔x∈new):=fun x hx=>by
  rw [T.visd x hx]
  exact ⟨fun h=>h.resolve_left (hv0 x),.inr⟩
 obtain ⟨t,ht⟩:=T.last
 have h0:(0:Int)∈new:=by rw [ht];simp
 have hre : ∀ x∈new,Re g (-1) x.toNat:=by
  intro x hx
  have:=T.desc x hx
  clear hx
  induction this with
  | self=>exact .root hg (by decide)
  | step _ h1 h2 ih=>
   have hpr:=T.fresh _ h2.mem.2
   have hqr:=T.fresh _ h2.mem.1
   have he:=cF.1 h1
   refine .step ih ?_ (by omega)
   rwa [Int.toNat_of_nonneg hpr.2.1,Int.toNat_of_nonneg hqr.2.1]
 refine ⟨by simpa [List.Nodup,List.pairwise_reverse,ne_comm] using T.nodup,fun x=>?_,fun x hx=>(T.fresh x (by simpa using hx)).2,?_,?_,?_⟩
 ·rw [List.mem_reverse]
  constructor
  ·intro h;simpa using hre x h
  ·intro h
   induction h with
   | root _ _=>exact h0
   | step _ he _ ih=>
    exact (hvis _ (by omega)).1 (T.clos _ ih _ (cF.2 he))
 ·rw [ht,List.reverse_append];rfl
 ·intro x hx hne
  obtain ⟨p,hp,h1,h2⟩:=T.par x (by simpa using hx) hne
  exact ⟨p,by simpa using hp,cF.1 h1,mW T.nodup h2⟩
 ·intro x hx y hy he hle
  rcases T.ret x (by simpa using hx) y (cF.2 he) (by simpa using hy) with h | h
  ·have:=mW T.nodup h
   omega
  ·exact ⟨new,h,fun u v huv=>mW T.nodup huv⟩
theorem nE {n:Nat} {order:List Int} (hn:order.Nodup) (hr : ∀ x∈order,0≤x∧x<(n:Int)) {x:Nat} (hx:x<n):nth (dr n order) x=if (x:Int)∈order then (order.idxOf (x:Int):Int) else -1:=by
 have key : ∀ k,k≤order.length→(up (fun i l=>l.set (nth order i).toNat (i:Int)) k (List.replicate n (-1))).length=n∧nth (up (fun i l=>l.set (nth order i).toNat (i:Int)) k (List.replicate n (-1))) x=if (x:Int)∈order.take k then (order.idxOf (x:Int):Int) else -1:=by
  intro k
  induction k with
  | zero=>intro _;exact ⟨by simp [up],by rw [up,aB hx];simp⟩
  | succ k ih=>
   intro hk
   obtain ⟨h1,h2⟩:=ih (by omega)
   rw [up]
   refine ⟨by simpa using h1,?_⟩
   rw [az (by omega),List.take_succ_eq_append_getElem (by omega),h2]
   have hmem:order[k]∈order:=List.getElem_mem _
   have hrk:=hr _ hmem
   rw [aj (show k<order.length by omega)]
   by_cases e:order[k].toNat=x
   ·have e2:order[k]=(x:Int):=by omega
    rw [if_pos e,if_pos (by rw [←e2];exact List.mem_append_right _ (List.mem_singleton.2 rfl)),←e2,List.Nodup.idxOf_getElem hn]
   ·rw [if_neg e]
    have e2:¬(x:Int)=order[k]:=fun h=>e (by omega)
    simp only [List.mem_append,List.mem_singleton,e2,or_false]
 have:=(key order.length (Nat.le_refl _)).2
 rw [List.take_of_length_le (Nat.le_refl _)] at this
 exact this
end Go.Proofs.Ytbkdlhkoiagbbaa
