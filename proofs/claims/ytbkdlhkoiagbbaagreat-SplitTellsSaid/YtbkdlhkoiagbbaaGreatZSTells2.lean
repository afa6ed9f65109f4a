/- A part of the proof: Lc, Ld, Le, Lf, Lg, Lh, Shelf, Wk, Wl, Wm, Wn, Wo, Wq, Wr, Ws, Wt, Ha, Hb. -/
import Derived.Test.YtbkdlhkoiagbbaaGreatZSTells1
import Derived.Test.YtbkdlhkoiagbbaaGreatProg
import Derived.KernelRfl
import Derived.Shelf.Small.Bits
import Derived.Shelf.Small.Wraps
import Derived.Shelf.Strconv.Itoa0
import Derived.Shelf.Sort.Plain
import Derived.Shelf.Slices.Turned
import Derived.Shelf.Slices.Reverse
import Derived.Ground.Names2Prog
import Derived.Shelf.Slices.CompactI
import Derived.Shelf.Slices.SearchI
import Derived.Shelf.Slices.Cells
import Derived.Shelf.Slices.In.SortNone
set_option linter.unusedSimpArgs false
set_option linter.unusedVariables false
namespace Go.Proofs.YtbkdlhkoiagbbaaGreat
open Go Go.Lft
section
set_option maxRecDepth 100000
abbrev N.eW:Nat:=23
def L.eW:LFn:=by apply(fun{b:LFn}(_:b=⟨[.un (.al 2) (t 0)],q [.reg false (p [] (.alloc 28) 0 0 z),.reg false (p [] (.buildSlice 22 1 #[(0,.const (.int .i64 0))]) 22 1 (p [] (.buildSlice 22 2 #[(0,.const (.int .i64 1)),(1,.const (.int .i64 2))]) 22 2 (p (w [1,2]) (.build 46 #[(0,.const (.int .i64 2)),(1,a 1),(2,a 2)]) 46 3 (p (w [3]) (.build 48 #[(2,a 3)]) 48 4 (p [] (.buildSlice 22 1 #[(0,.const (.int .i64 2))]) 22 5 (p (w [5]) (.build 46 #[(0,.const (.int .i64 1)),(2,a 5)]) 46 6 (p (w [6]) (.build 48 #[(2,a 6)]) 48 7 (p [] (.build 65 #[(0,.const (.int .i64 0)),(1,.const (.int .i64 0))]) 65 8 (p [] (.build 65 #[(0,.const (.int .i64 1)),(1,.const (.int .i64 0))]) 65 9 (p (w [8,9]) (.buildSlice 61 2 #[(0,a 8),(1,a 9)]) 61 10 (p (w [10]) (.build 63 #[(0,.const (.int .i64 1)),(1,a 10)]) 63 11 (p (w [11]) (.buildSlice 43 1 #[(0,a 11)]) 43 12 (p [] (.buildSlice 22 1 #[(0,.const (.int .i64 1))]) 22 13 (p (w [13]) (.build 46 #[(0,.const (.int .i64 4)),(1,a 13)]) 46 14 (p (w [12,14]) (.build 48 #[(0,a 12),(2,a 14)]) 48 15 (p (w [4,7,15]) (.buildSlice 26 3 #[(0,a 4),(1,a 7),(2,a 15)]) 26 16 (p (w [16]) (.build 28 #[(0,.const (.int .i64 1)),(1,a 16)]) 28 17 (s [] [] (w [0,17]) (.store 28 (a 0) (a 17)) z)))))))))))))))))),.ret]⟩)=>b);simp only[sh];rfl
theorem E.eW:aX Tryz.prog Tryz.f23=some L.eW:=by kernel_rfl
theorem F.eW:Tryz.prog.funcs[N.eW]? = some Tryz.f23:=Tryz.func23
abbrev N.b8:Nat:=24
def L.b8:LFn:=by apply(fun{b:LFn}(_:b=⟨[t 4],q [k [4] [(4,c 0)],k [5] [(5,c 0)],q [.reg true (.fin [6,7,8,9,10,11,12,13,14,15] [(15,j .lss (g 1 (.un .nilPtr (t 0))) (h (g 0 (.un .nilPtr (t 0)))))] []),u 15 (.reg true (.fin [16,17,18,19,20,21,22,23,24,25,5] [(5,d (i 1 (g 0 (.un .nilPtr (t 0))) (g 1 (.un .nilPtr (t 0)))))] [])) .skip],.reg false (s [26,27,28,29,30,31,32,33] [] [(33,e 1 (.un .nilPtr (t 0))),(31,o (g 1 (.un .nilPtr (t 0))) (c 1))] (.store 3 (a 33) (a 31)) z),k [34,35,36,37,38,39,40,4] [(4,.bin (.div .rem) (o (.bin (.div .rem) (t 5) (t 1)) (t 1)) (t 1))],.ret]⟩)=>b);simp only[sh];rfl
theorem E.b8:aX Tryz.prog Tryz.f24=some L.b8:=by kernel_rfl
theorem F.b8:Tryz.prog.funcs[N.b8]? = some Tryz.f24:=Tryz.func24
abbrev N.aY:Nat:=25
def L.aY.l1:LC:=by apply(fun{b:LC}(_:b=f 0 16 6 [14,15,16] [17,18,6] (j .lss (t 6) (t 1)) (.block 1 (q [k [19,20,7] [(7,.bin (.arith .sub) (t 6) (c 1))],q [.reg false (l [21] [] [(21,t 0)] (.call ⟨.value (.func 24),#[a 21,.const (.int .i64 3)],#[66,3]⟩) 3 22 (.fin [23] [(23,j .eql (t 22) (c 0))] [])),u 23 (.reg false (l [24,25] [] [(24,t 0),(25,t 6)] (x 24 [24,25] [66,3]) 3 26 (.fin [7] [(7,t 26)] []))) .skip],.reg false (l [27,28,29,30,31,32,33] [(27,t 5),(28,t 7),(32,d (i 1 (t 5) (t 7)))] [(33,t 6)] (.buildSlice 22 1 #[(0,a 33)]) 22 34 (p (w [32,34]) (.call ⟨.builtin .append,#[a 32,a 34],#[22,22]⟩) 22 35 (s [36] [] [(36,i 1 (t 27) (t 28)),(35,t 35)] (.store 22 (a 36) (a 35)) z)))])))=>b);simp only[sh];rfl
def L.aY.l3:LC:=by apply(fun{b:LC}(_:b=f 4 51 10 [44,45,46,47,48,49,50,51] [52,53,10] (.ite (j .lss (t 10) (.bin (.arith .sub) (t 9) (c 3))) (j .gtr (t 1) (c 1)) (.con (.bool false))) (.block 5 (q [.reg false (l [54,55,56] [] [(54,t 0),(56,.bin (.arith .sub) (t 1) (c 1))] (x 24 [54,56] [66,3]) 3 57 (.fin [58,11] [(11,o (c 1) (t 57))] [])),q [.reg false (.loud [59,60,61,62,63] [(62,j .leq (t 11) (t 8))] [(63,.gd (j .leq (t 11) (t 8)) true (t 0))] (some (j .leq (t 11) (t 8),true)) [] false (.call ⟨.value (.func 24),#[a 63,.const (.int .i64 2)],#[66,3]⟩) 3 (some 64) true (.fin [65,66] [(66,.ite (t 62) (j .eql (t 64) (c 0)) (.con (.bool false)))] [])),u 66 (k [67,68,69,70,71,11] [(11,.bin .min (o (t 8) (c 1)) (.bin (.arith .sub) (t 1) (c 1)))]) .skip],.reg false (l [72,73,74,75,76,77,78] [(72,t 5),(73,t 8),(77,d (i 1 (t 5) (t 8)))] [(78,t 11)] (.buildSlice 22 1 #[(0,a 78)]) 22 79 (p (w [77,79]) (.call ⟨.builtin .append,#[a 77,a 79],#[22,22]⟩) 22 80 (s [81] [] [(81,i 1 (t 72) (t 73)),(80,t 80)] (.store 22 (a 81) (a 80)) z)))])))=>b);simp only[sh];rfl
def L.aY.l2:LC:=by apply(fun{b:LC}(_:b=f 2 39 8 [37,38,39] [40,41,8] (j .lss (t 8) (t 1)) (.block 3 (q [.reg false (l [42] [] [(42,t 0)] (.call ⟨.value (.func 24),#[a 42,.const (.int .i64 6)],#[66,3]⟩) 3 43 (.fin [9] [(9,t 43)] [])),k [10] [(10,c 0)],v 4 L.aY.l3])))=>b);simp only[sh];rfl
def L.aY:LFn:=by apply(fun{b:LFn}(_:b=⟨[t 4],q [k [4] [(4,.con (.slice none 0 0))],.reg false (l [12] [] [(12,t 1),(12,t 1)] (.makeSlice 40 (a 12) (a 12)) 40 13 (.fin [5] [(5,t 13)] [])),q [k [6] [(6,c 1)],v 0 L.aY.l1],q [k [8] [(8,c 0)],v 2 L.aY.l2],k [82,4] [(4,t 5)],.ret]⟩)=>b);simp only[sh];rfl
theorem E.aY:aX Tryz.prog Tryz.f25=some L.aY:=by kernel_rfl
theorem F.aY:Tryz.prog.funcs[N.aY]? = some Tryz.f25:=Tryz.func25
abbrev N.ee:Nat:=26
def L.ee.l2:LC:=by apply(fun{b:LC}(_:b=f 2 27 8 [24,25,26,27] [28,29,8] (j .lss (t 8) (h (t 7))) (.block 3 (q [k [30,31,32,33,34,35] [(35,j .eql (d (i 1 (t 7) (t 8))) (t 1))],u 35 (q [.reg false (l [36,37] [(36,t 5)] [(37,t 6)] (.buildSlice 22 1 #[(0,a 37)]) 22 38 (p (w [36,38]) (.call ⟨.builtin .append,#[a 36,a 38],#[22,22]⟩) 22 39 (.fin [5] [(5,t 39)] []))),.exit 2]) .skip])))=>b);simp only[sh];rfl
def L.ee.l1:LC:=by apply(fun{b:LC}(_:b=f 0 14 6 [10,11,12,13,14] [15,16,6] (j .lss (t 6) (h (g 1 (t 2)))) (.block 1 (q [k [17,18,19,20,21,22,23,7] [(7,g 2 (e 2 (i 6 (g 1 (t 2)) (t 6))))],k [8] [(8,c 0)],v 2 L.ee.l2])))=>b);simp only[sh];rfl
def L.ee:LFn:=by apply(fun{b:LFn}(_:b=⟨[t 4],q [.reg false (p (w [0]) (.box 28 (a 0)) 0 2 (.fin [4] [(4,.con (.slice none 0 0))] [])),.reg false (p [] (.buildSlice 22 0 #[]) 22 9 (.fin [5] [(5,t 9)] [])),q [k [6] [(6,c 0)],v 0 L.ee.l1],k [40,4] [(4,t 5)],.ret]⟩)=>b);simp only[sh];rfl
theorem E.ee:aX Tryz.prog Tryz.f26=some L.ee:=by kernel_rfl
theorem F.ee:Tryz.prog.funcs[N.ee]? = some Tryz.f26:=Tryz.func26
abbrev N.bN:Nat:=27
def L.bN:LFn:=by apply(fun{b:LFn}(_:b=⟨[t 2],q [k [2] [(2,c 0)],.reg false (s [3,4,5,6,7,8,9,10] [] [(10,e 4 (.un .nilPtr (t 0))),(8,o (g 4 (.un .nilPtr (t 0))) (c 1))] (.store 3 (a 10) (a 8)) z),k [11,12,13,14,15,2] [(2,.bin (.arith .sub) (g 4 (.un .nilPtr (t 0))) (c 1))],.ret]⟩)=>b);simp only[sh];rfl
theorem E.bN:aX Tryz.prog Tryz.f27=some L.bN:=by kernel_rfl
theorem F.bN:Tryz.prog.funcs[N.bN]? = some Tryz.f27:=Tryz.func27
abbrev N.cR:Nat:=28
def L.cR.l2:LC:=by apply(fun{b:LC}(_:b=f 2 47 9 [44,45,46,47] [48,49,9] (j .lss (t 9) (h (t 8))) (.block 3 (q [k [50,51,52,53,54,55,56,57,58,59,60,61,62,63,64,65,66,67,68,69,70,71,72,73,74,75,76,77,78,79,80,81] [(81,.ite (.ite (.ite (j .geq (d (i 1 (t 8) (t 9))) (c 0)) (j .lss (d (i 1 (t 8) (t 9))) (h (t 5))) (.con (.bool false))) (.un .not (d (i 1 (t 5) (d (i 1 (t 8) (t 9)))))) (.con (.bool false))) (j .neq (d (i 1 (t 8) (t 9))) (t 1)) (.con (.bool false)))],u 81 (q [.reg false (s [82,83,84,85,86,87] [] [(87,i 1 (t 5) (d (i 1 (t 8) (t 9))))] (.store 4 (a 87) (.const (.bool true))) z),.reg false (l [88,89,90,91,92] [(88,t 6)] [(92,d (i 1 (t 8) (t 9)))] (.buildSlice 22 1 #[(0,a 92)]) 22 93 (p (w [88,93]) (.call ⟨.builtin .append,#[a 88,a 93],#[22,22]⟩) 22 94 (.fin [6] [(6,t 94)] [])))]) .skip])))=>b);simp only[sh];rfl
def L.cR.l1:LC:=by apply(fun{b:LC}(_:b=f 0 31 7 [28,29,30,31] [32,33,7] (j .lss (t 7) (h (t 6))) (.block 1 (q [.reg true (.fin [34,35,36,37,38,39,40,41,42,43,8] [(8,g 2 (e 2 (i 6 (g 1 (t 2)) (d (i 1 (t 6) (t 7))))))] []),k [9] [(9,c 0)],v 2 L.cR.l2])))=>b);simp only[sh];rfl
def L.cR:LFn:=by apply(fun{b:LFn}(_:b=⟨[t 4],q [.reg false (p (w [0]) (.box 28 (a 0)) 0 2 (.fin [4] [(4,.con (.slice none 0 0))] [])),.reg false (l [10,11,12] [] [(12,h (g 1 (t 2))),(12,h (g 1 (t 2)))] (.makeSlice 73 (a 12) (a 12)) 73 13 (.fin [5] [(5,t 13)] [])),.reg false (p [] (.buildSlice 22 0 #[]) 22 14 (.fin [6] [(6,t 14)] [])),q [k [15,16,17,18,19,20,21,22] [(22,.ite (j .neq (t 1) (c 0)) (j .gtr (h (g 1 (t 2))) (c 0)) (.con (.bool false)))],u 22 (q [.reg false (s [23,24] [] [(24,i 1 (t 5) (c 0))] (.store 4 (a 24) (.const (.bool true))) z),.reg false (l [25] [(25,t 6)] [] (.buildSlice 22 1 #[(0,.const (.int .i64 0))]) 22 26 (p (w [25,26]) (.call ⟨.builtin .append,#[a 25,a 26],#[22,22]⟩) 22 27 (.fin [6] [(6,t 27)] [])))]) .skip],q [k [7] [(7,c 0)],v 0 L.cR.l1],k [95,4] [(4,t 5)],.ret]⟩)=>b);simp only[sh];rfl
theorem E.cR:aX Tryz.prog Tryz.f28=some L.cR:=by kernel_rfl
theorem F.cR:Tryz.prog.funcs[N.cR]? = some Tryz.f28:=Tryz.func28
abbrev N.gC:Nat:=29
def L.gC:LFn:=by apply(fun{b:LFn}(_:b=⟨[t 2],q [.reg false (p (w [0]) (.box 78 (a 0)) 0 1 (.fin [2] [(2,.con (.slice none 0 0))] [])),q [k [3,4] [(4,g 0 (t 1))],.block 0 (q [k [6,5] [(5,j .eql (t 4) (c 16))],u 5 (q [k [2] [(2,.con (.slice none 0 0))],.ret]) (q [k [8,7] [(7,j .eql (t 4) (c 18))],u 7 (q [.reg false (l [9,10,11,12] [] [(10,g 1 (t 1)),(12,g 2 (t 1))] (.buildSlice 22 2 #[(0,a 10),(1,a 12)]) 22 13 (.fin [2] [(2,t 13)] [])),.ret]) .skip])])],.reg false (l [14,15] [] [(15,g 1 (t 1))] (.buildSlice 22 1 #[(0,a 15)]) 22 16 (.fin [2] [(2,t 16)] [])),.ret]⟩)=>b);simp only[sh];rfl
theorem E.gC:aX Tryz.prog Tryz.f29=some L.gC:=by kernel_rfl
theorem F.gC:Tryz.prog.funcs[N.gC]? = some Tryz.f29:=Tryz.func29
abbrev N.a7:Nat:=30
def L.a7.l1:LC:=by apply(fun{b:LC}(_:b=f 1 122 14 [120,121,122] [123,124,14] (j .lss (t 14) (t 13)) (.block 2 (.reg false (l [125,126,127] [(125,t 12)] [(126,t 0),(127,t 1)] (x 55 [126,127] [66,3]) 3 128 (p (w [128]) (.buildSlice 22 1 #[(0,a 128)]) 22 129 (p (w [125,129]) (.call ⟨.builtin .append,#[a 125,a 129],#[22,22]⟩) 22 130 (.fin [12] [(12,t 130)] [])))))))=>b);simp only[sh];rfl
def L.a7:LFn:=by apply(fun{b:LFn}(_:b=⟨[],q [.reg false (l [18] [] [(18,t 0)] (.call ⟨.value (.func 24),#[a 18,.const (.int .i64 20)],#[66,3]⟩) 3 19 (.fin [4] [(4,t 19)] [])),.block 0 (q [k [26,27,25] [(25,j .lss (t 4) (c 12))],u 25 (q [.reg false (p [] (.build 115 #[(0,.const (.int .i64 2)),(1,.const (.int .i64 2)),(2,.const (.int .i64 3)),(3,.const (.int .i64 4)),(4,.const (.int .i64 5)),(5,.const (.int .i64 6)),(6,.const (.int .i64 7)),(7,.const (.int .i64 8)),(8,.const (.int .i64 9)),(9,.const (.int .i64 10)),(10,.const (.int .i64 12)),(11,.const (.int .i64 11))]) 115 28 (p [] (.alloc 115) 0 5 (s [] [] (w [5,28]) (.store 115 (a 5) (a 28)) z))),.reg false (l [29,30] [] [(29,t 0),(30,t 1)] (x 55 [29,30] [66,3]) 3 31 (.fin [6] [(6,t 31)] [])),.reg false (l [32,33] [] [(32,t 0),(33,t 1)] (x 55 [32,33] [66,3]) 3 34 (.fin [7] [(7,t 34)] [])),q [.reg false (l [35] [] [(35,t 0)] (.call ⟨.value (.func 24),#[a 35,.const (.int .i64 3)],#[66,3]⟩) 3 36 (.fin [37] [(37,j .eql (t 36) (c 0))] [])),u 37 (.reg false (l [38,39,40] [(38,t 0),(39,t 1)] [(40,t 0)] (.call ⟨.value (.func 24),#[a 40,.const (.int .i64 40)],#[66,3]⟩) 3 41 (l [42,43] [] [(38,t 38),(39,t 39),(43,.un (.conv .i32) (.bin (.arith .sub) (t 41) (c 8)))] (x 33 [38,39,43] [66,3,21]) 3 44 (.fin [7] [(7,t 44)] [])))) .skip],.reg true (.both (l [45,46,47,48,49,50,52,53] [(45,t 0),(46,t 1),(49,d (.bin (.aidx 12 1) (t 5) (t 4))),(52,t 6),(53,t 7)] [(50,t 0)] (x 27 [50] [66]) 3 51 (p (w [52,53]) (.buildSlice 22 2 #[(0,a 52),(1,a 53)]) 22 54 (.loud [] [] (w [49,51,54]) none [] true (.build 78 #[(0,a 49),(1,a 51),(3,a 54)]) 78 (some 55) true (.loud [] [] (w [45,46,55]) none [] false (x 56 [45,46,55] [66,3,78]) 0 (some 56) false z)))) (l [45,46,47,48,49,50,52,53] [(45,t 0),(46,t 1),(49,d (.bin (.aidx 12 1) (t 5) (t 4))),(50,t 0)] [(52,t 6),(53,t 7)] (.buildSlice 22 2 #[(0,a 52),(1,a 53)]) 22 54 (p (w [50]) (x 27 [50] [66]) 3 51 (.loud [] [] (w [49,51,54]) none [] true (.build 78 #[(0,a 49),(1,a 51),(3,a 54)]) 78 (some 55) true (.loud [] [] (w [45,46,55]) none [] false (x 56 [45,46,55] [66,3,78]) 0 (some 56) false z)))))]) (q [k [58,59,57] [(57,j .eql (t 4) (c 12))],u 57 (q [.reg false (l [60,61] [] [(60,t 0),(61,t 1)] (x 55 [60,61] [66,3]) 3 62 (.fin [8] [(8,t 62)] [])),.reg false (l [63,64] [] [(63,t 0),(64,t 1)] (x 55 [63,64] [66,3]) 3 65 (.fin [9] [(9,t 65)] [])),.reg false (l [66,67,68] [(66,t 0),(67,t 1)] [(68,t 0)] (x 27 [68] [66]) 3 69 (l [70,71] [] [(70,t 8),(71,t 9)] (.buildSlice 22 2 #[(0,a 70),(1,a 71)]) 22 72 (p (w [69,72]) (.build 78 #[(0,.const (.int .i64 13)),(1,a 69),(3,a 72)]) 78 73 (.loud [] [] (w [66,67,73]) none [] false (x 56 [66,67,73] [66,3,78]) 0 (some 74) false z))))]) (q [k [76,77,75] [(75,j .eql (t 4) (c 13))],u 75 (q [.reg false (l [78,79] [] [(78,t 0),(79,t 1)] (x 55 [78,79] [66,3]) 3 80 (.fin [10] [(10,t 80)] [])),.reg false (l [81,82,83] [(81,t 0),(82,t 1)] [(83,t 0)] (.call ⟨.value (.func 24),#[a 83,.const (.int .i64 12)],#[66,3]⟩) 3 84 (l [85] [] [(81,t 81),(82,t 82),(85,.un (.conv .i32) (t 84))] (x 33 [81,82,85] [66,3,21]) 3 86 (.fin [11] [(11,t 86)] []))),q [.reg false (l [87] [] [(87,t 0)] (.call ⟨.value (.func 24),#[a 87,.const (.int .i64 3)],#[66,3]⟩) 3 88 (.fin [89] [(89,j .gtr (t 88) (c 0))] [])),u 89 (.reg false (l [90,91,92] [(90,t 0),(91,t 1)] [(92,t 0)] (.call ⟨.value (.func 24),#[a 92,.const (.int .i64 12)],#[66,3]⟩) 3 93 (l [94,95] [] [(90,t 90),(91,t 91),(95,o (.con (.int .i32 1)) (.un (.conv .i32) (t 93)))] (x 33 [90,91,95] [66,3,21]) 3 96 (.fin [11] [(11,t 96)] [])))) .skip],.reg false (l [97,98,99] [(97,t 0),(98,t 1)] [(99,t 0)] (x 27 [99] [66]) 3 100 (l [101,102] [] [(101,t 10),(102,t 11)] (.buildSlice 22 2 #[(0,a 101),(1,a 102)]) 22 103 (p (w [100,103]) (.build 78 #[(0,.const (.int .i64 14)),(1,a 100),(3,a 103)]) 78 104 (.loud [] [] (w [97,98,104]) none [] false (x 56 [97,98,104] [66,3,78]) 0 (some 105) false z))))]) (q [k [107,108,106] [(106,j .lss (t 4) (c 16))],u 106 (.reg false (.loud [109,110,111,112] [] [(109,t 0),(110,t 1),(112,j .eql (t 4) (c 15))] none [] false (x 57 [109,110,112] [66,3,4]) 0 (some 113) false z)) (q [k [115,116,114] [(114,j .eql (t 4) (c 16))],u 114 (q [.reg false (p [] (.buildSlice 22 0 #[]) 22 117 (.fin [12] [(12,t 117)] [])),.reg false (l [118] [] [(118,t 0)] (.call ⟨.value (.func 24),#[a 118,.const (.int .i64 5)],#[66,3]⟩) 3 119 (.fin [13] [(13,t 119)] [])),q [k [14] [(14,c 0)],v 1 L.a7.l1],.reg false (l [131,132,133] [(131,t 0),(132,t 1)] [(133,t 0)] (x 27 [133] [66]) 3 134 (l [135,136] [(135,t 12)] [(136,t 0)] (.call ⟨.value (.func 24),#[a 136,.const (.int .i64 5)],#[66,3]⟩) 3 137 (l [138] [] [(134,t 134),(135,t 135),(138,.un (.conv .i32) (t 137))] (.build 78 #[(0,.const (.int .i64 17)),(1,a 134),(3,a 135),(4,a 138)]) 78 139 (.loud [] [] (w [131,132,139]) none [] false (x 56 [131,132,139] [66,3,78]) 0 (some 140) false z))))]) (q [k [142,143,141] [(141,j .eql (t 4) (c 17))],u 141 (q [.reg false (l [144,145] [] [(144,t 0),(145,t 1)] (x 55 [144,145] [66,3]) 3 146 (.fin [15] [(15,t 146)] [])),.reg false (l [147,148] [] [(147,t 0),(148,t 1)] (x 55 [147,148] [66,3]) 3 149 (.fin [16] [(16,t 149)] [])),.reg false (l [150] [] [(150,t 0)] (x 27 [150] [66]) 3 151 (.fin [17] [(17,t 151)] [])),.reg false (l [152,153,154,155] [(152,t 0),(153,t 1),(154,t 17)] [(155,t 0)] (x 27 [155] [66]) 3 156 (l [157,158] [] [(157,t 15),(158,t 16)] (.buildSlice 22 2 #[(0,a 157),(1,a 158)]) 22 159 (p (w [154,156,159]) (.build 78 #[(0,.const (.int .i64 18)),(1,a 154),(2,a 156),(3,a 159)]) 78 160 (.loud [] [] (w [152,153,160]) none [] false (x 56 [152,153,160] [66,3,78]) 0 (some 161) false z))))]) (.reg false (l [20,21,22] [(20,t 0),(21,t 1)] [(22,t 0)] (x 34 [22] [66]) 21 23 (.loud [] [] (w [20,21,23]) none [] false (x 33 [20,21,23] [66,3,21]) 3 (some 24) false z)))])])])])])])]⟩)=>b);simp only[sh];rfl
theorem E.a7:aX Tryz.prog Tryz.f30=some L.a7:=by kernel_rfl
theorem F.a7:Tryz.prog.funcs[N.a7]? = some Tryz.f30:=Tryz.func30
abbrev N.dO:Nat:=31
def L.dO:LFn:=by apply(fun{b:LFn}(_:b=⟨[],q [.reg false (p [] (.build 46 #[]) 46 15 (p [] (.alloc 46) 0 6 (s [] [] (w [6,15]) (.store 46 (a 6) (a 15)) z))),q [k [16,17] [(17,h (t 2))],.block 0 (q [k [41,40] [(40,j .eql (t 17) (c 0))],u 40 (q [.reg false (s [42] [] [(42,e 0 (t 6))] (.store 3 (a 42) (.const (.int .i64 4))) z),.reg false (l [43] [] [(43,t 0)] (.call ⟨.value (.func 24),#[a 43,.const (.int .i64 8)],#[66,3]⟩) 3 44 (.fin [7] [(7,t 44)] [])),k [45,46] [(46,j .eql (t 7) (c 0))],u 46 (q [.reg false (s [47] [] [(47,e 0 (t 6))] (.store 3 (a 47) (.const (.int .i64 5))) z),.reg false (l [48] [] [(48,t 0)] (.call ⟨.value (.func 24),#[a 48,.const (.int .i64 200)],#[66,3]⟩) 3 49 (s [50,51] [] [(51,e 3 (t 6)),(50,.un (.conv .i32) (t 49))] (.store 21 (a 51) (a 50)) z))]) (q [k [52,53] [(53,j .gtr (t 7) (c 1))],u 53 (.reg false (l [54,55] [] [(54,t 0),(55,t 1)] (x 55 [54,55] [66,3]) 3 56 (p (w [56]) (.buildSlice 22 1 #[(0,a 56)]) 22 57 (s [58] [] [(58,e 1 (t 6)),(57,t 57)] (.store 22 (a 58) (a 57)) z)))) .skip])]) (q [k [60,59] [(59,j .eql (t 17) (c 1))],u 59 (q [.reg false (s [61] [] [(61,e 0 (t 6))] (.store 3 (a 61) (.const (.int .i64 1))) z),.reg false (s [62,63] [] [(63,e 2 (t 6)),(62,t 2)] (.store 22 (a 63) (a 62)) z)]) (q [k [65,64] [(64,j .eql (t 17) (c 2))],u 64 (q [.reg false (s [66] [] [(66,e 0 (t 6))] (.store 3 (a 66) (.const (.int .i64 2))) z),.reg false (s [67,68] [] [(68,e 2 (t 6)),(67,t 2)] (.store 22 (a 68) (a 67)) z),.reg false (l [69,70] [] [(69,t 0),(70,t 1)] (x 55 [69,70] [66,3]) 3 71 (.fin [8] [(8,t 71)] [])),q [.reg false (l [72] [] [(72,t 0)] (.call ⟨.value (.func 24),#[a 72,.const (.int .i64 2)],#[66,3]⟩) 3 73 (.fin [74] [(74,j .eql (t 73) (c 0))] [])),u 74 (q [.reg false (p [] (.build 23 #[(0,.const (.int .i64 11)),(1,.const (.int .i64 12)),(2,.const (.int .i64 13))]) 23 75 (p [] (.alloc 23) 0 9 (s [] [] (w [9,75]) (.store 23 (a 9) (a 75)) z))),.reg false (l [76,77] [] [(76,t 0),(77,t 1)] (x 55 [76,77] [66,3]) 3 78 (.fin [10] [(10,t 78)] [])),.reg false (l [79] [] [(79,t 0)] (x 27 [79] [66]) 3 80 (.fin [11] [(11,t 80)] [])),.reg false (l [81,82,83] [(81,t 0),(82,t 1)] [(83,t 0)] (.call ⟨.value (.func 24),#[a 83,.const (.int .i64 3)],#[66,3]⟩) 3 84 (l [85,86,87,88,89] [(86,d (.bin (.aidx 3 1) (t 9) (t 84))),(87,t 11)] [(88,t 8),(89,t 10)] (.buildSlice 22 2 #[(0,a 88),(1,a 89)]) 22 90 (p (w [86,87,90]) (.build 78 #[(0,a 86),(1,a 87),(3,a 90)]) 78 91 (.loud [] [] (w [81,82,91]) none [] false (x 56 [81,82,91] [66,3,78]) 0 (some 92) false z)))),k [93,8] [(8,t 11)]]) .skip],.reg false (l [94] [] [(94,t 8)] (.buildSlice 22 1 #[(0,a 94)]) 22 95 (s [96] [] [(96,e 1 (t 6)),(95,t 95)] (.store 22 (a 96) (a 95)) z))]) (q [.reg false (s [18] [] [(18,e 0 (t 6))] (.store 3 (a 18) (.const (.int .i64 3))) z),.reg false (s [19,20] [] [(20,e 2 (t 6)),(19,t 2)] (.store 22 (a 20) (a 19)) z),.reg false (l [21,22] [] [(21,t 0),(22,t 1)] (x 55 [21,22] [66,3]) 3 23 (.fin [12] [(12,t 23)] [])),.reg false (l [24,25] [] [(24,t 0),(25,t 1)] (.call ⟨.value (.func 33),#[a 24,a 25,.const (.int .i32 7)],#[66,3,21]⟩) 3 26 (.fin [13] [(13,t 26)] [])),.reg false (l [27] [] [(27,t 0)] (x 27 [27] [66]) 3 28 (.fin [14] [(14,t 28)] [])),.reg false (l [29,30,31,32,33] [(29,t 0),(30,t 1),(31,t 14)] [(32,t 12),(33,t 13)] (.buildSlice 22 2 #[(0,a 32),(1,a 33)]) 22 34 (p (w [31,34]) (.build 78 #[(0,.const (.int .i64 5)),(1,a 31),(3,a 34)]) 78 35 (.loud [] [] (w [29,30,35]) none [] false (x 56 [29,30,35] [66,3,78]) 0 (some 36) false z))),.reg false (l [37] [] [(37,t 14)] (.buildSlice 22 1 #[(0,a 37)]) 22 38 (s [39] [] [(39,e 1 (t 6)),(38,t 38)] (.store 22 (a 39) (a 38)) z))])])])])],.reg true (.loud [97,98,99,100,101,102,103,104,105] [] [(105,e 2 (i 6 (g 1 (e 2 (.un .nilPtr (t 0)))) (t 1))),(103,.un (.al 4) (t 6))] none [] true (.store 46 (a 105) (a 103)) 0 none false z)]⟩)=>b);simp only[sh];rfl
theorem E.dO:aX Tryz.prog Tryz.f31=some L.dO:=by kernel_rfl
theorem F.dO:Tryz.prog.funcs[N.dO]? = some Tryz.f31:=Tryz.func31
abbrev N.cP:Nat:=32
def L.cP.l1:LC:=by apply(fun{b:LC}(_:b=f 0 15 6 [12,13,14,15] [16,17,6] (j .lss (t 6) (g 0 (t 2))) (.block 1 (.reg false (l [18,19] [(18,t 5)] [(19,t 6)] (.buildSlice 22 1 #[(0,a 19)]) 22 20 (p (w [18,20]) (.call ⟨.builtin .append,#[a 18,a 20],#[22,22]⟩) 22 21 (.fin [5] [(5,t 21)] []))))))=>b);simp only[sh];rfl
def L.cP.l2:LC:=by apply(fun{b:LC}(_:b=f 2 27 8 [24,25,26,27] [28,29,8] (j .lss (t 8) (h (t 7))) (.block 3 (q [k [9] [(9,.con (.bool true))],q [k [30,31,32,33,34,35,36] [(36,j .neq (g 0 (i 4 (t 7) (t 8))) (t 1))],u 36 (q [.reg true (.loud [37,38,39,40,41,42] [] [(37,.un (.al 2) (t 2)),(42,g 0 (i 4 (t 7) (t 8)))] none [] true (x 28 [37,42] [28,3]) 73 (some 43) true (.fin [10] [(10,t 43)] [])),k [44,45,46,47,48,9] [(9,.un .not (d (i 1 (t 10) (t 1))))]]) .skip],k [49] [(49,t 9)],u 49 (.reg false (l [50,51,52,53,54,55] [] [(50,t 5),(55,g 2 (i 4 (t 7) (t 8)))] (.call ⟨.builtin .append,#[a 50,a 55],#[22,22]⟩) 22 56 (.fin [5] [(5,t 56)] []))) .skip])))=>b);simp only[sh];rfl
def L.cP:LFn:=by apply(fun{b:LFn}(_:b=⟨[t 4],q [.reg false (p (w [0]) (.box 28 (a 0)) 0 2 (.fin [4] [(4,.con (.slice none 0 0))] [])),.reg false (p [] (.buildSlice 22 0 #[]) 22 11 (.fin [5] [(5,t 11)] [])),q [k [6] [(6,c 0)],v 0 L.cP.l1],.reg false (l [22] [] [(22,.un (.al 2) (t 2))] (x 58 [22] [28]) 118 23 (.fin [7] [(7,t 23)] [])),q [k [8] [(8,c 0)],v 2 L.cP.l2],k [57,4] [(4,t 5)],.ret]⟩)=>b);simp only[sh];rfl
theorem E.cP:aX Tryz.prog Tryz.f32=some L.cP:=by kernel_rfl
theorem F.cP:Tryz.prog.funcs[N.cP]? = some Tryz.f32:=Tryz.func32
abbrev N.bA:Nat:=33
def L.bA:LFn:=by apply(fun{b:LFn}(_:b=⟨[t 6],q [k [6] [(6,c 0)],.reg false (l [8] [] [(8,t 0)] (x 27 [8] [66]) 3 9 (.fin [7] [(7,t 9)] [])),.reg false (l [10,11,12,13] [(10,t 0),(11,t 1)] [(12,t 7),(13,t 2)] (.build 78 #[(0,.const (.int .i64 1)),(1,a 12),(4,a 13)]) 78 14 (.loud [] [] (w [10,11,14]) none [] false (x 56 [10,11,14] [66,3,78]) 0 (some 15) false z)),k [16,6] [(6,t 7)],.ret]⟩)=>b);simp only[sh];rfl
theorem E.bA:aX Tryz.prog Tryz.f33=some L.bA:=by kernel_rfl
theorem F.bA:Tryz.prog.funcs[N.bA]? = some Tryz.f33:=Tryz.func33
abbrev N.cK:Nat:=34
def L.cK:LFn:=by apply(fun{b:LFn}(_:b=⟨[t 2],q [k [2] [(2,.con (.int .i32 0))],.reg false (l [4] [] [(4,t 0)] (.call ⟨.value (.func 24),#[a 4,.const (.int .i64 1048576)],#[66,3]⟩) 3 5 (.fin [3] [(3,t 5)] [])),q [.reg false (l [6] [] [(6,t 0)] (.call ⟨.value (.func 24),#[a 6,.const (.int .i64 8)],#[66,3]⟩) 3 7 z),.block 0 (q [k [9,8] [(8,j .eql (t 7) (c 0))],u 8 (q [k [10,11,12,2] [(2,.un (.conv .i32) (.bin (.arith .mul) (t 3) (c 4099)))],.ret]) (q [k [14,13] [(13,j .eql (t 7) (c 1))],u 13 (q [.reg false (l [15] [] [(15,t 3)] (.unOp .neg 3 (a 15)) 3 16 (.fin [17,2] [(2,.un (.conv .i32) (t 16))] [])),.ret]) (q [k [19,18] [(18,j .eql (t 7) (c 2))],u 18 (q [k [2] [(2,.con (.int .i32 (-2147483648)))],.ret]) (q [k [21,20] [(20,j .eql (t 7) (c 3))],u 20 (q [k [22,23,24,2] [(2,.un (.conv .i32) (.bin (.div .rem) (t 3) (c 70000)))],.ret]) .skip])])])])],k [25,26,27,28,2] [(2,.un (.conv .i32) (.bin (.arith .sub) (.bin (.div .rem) (t 3) (c 20)) (c 4)))],.ret]⟩)=>b);simp only[sh];rfl
theorem E.cK:aX Tryz.prog Tryz.f34=some L.cK:=by kernel_rfl
theorem F.cK:Tryz.prog.funcs[N.cK]? = some Tryz.f34:=Tryz.func34
end
section
set_option maxRecDepth 100000
abbrev N.bH:Nat:=35
def L.bH.l3:LC:=by apply(fun{b:LC}(_:b=f 4 109 11 [97,98,99,100,101,102,103,104,105,106,107,108,109] [110,111,11] (j .lss (t 11) (h (g 1 (i 2 (g 0 (i 6 (g 1 (t 5)) (t 8))) (t 10))))) (.block 5 (q [k [112,113,114,115,116,117,118,119,120,121,122,123,124,125,126,127] [(127,j .eql (g 0 (i 2 (g 1 (i 2 (g 0 (i 6 (g 1 (t 5)) (t 8))) (t 10))) (t 11))) (t 7))],u 127 (.reg false (s [128,129,130,131,132,133,134,135,136,137,138,139,140,141] [] [(141,e 0 (i 2 (g 1 (i 2 (g 0 (i 6 (g 1 (t 5)) (t 8))) (t 10))) (t 11))),(139,t 9)] (.store 3 (a 141) (a 139)) z)) .skip])))=>b);simp only[sh];rfl
def L.bH.l2:LC:=by apply(fun{b:LC}(_:b=f 2 94 10 [86,87,88,89,90,91,92,93,94] [95,96,10] (j .lss (t 10) (h (g 0 (i 6 (g 1 (t 5)) (t 8))))) (.block 3 (q [k [11] [(11,c 0)],v 4 L.bH.l3])))=>b);simp only[sh];rfl
def L.bH.l1:LC:=by apply(fun{b:LC}(_:b=f 0 45 6 [42,43,44,45] [46,47,6] (j .lss (t 6) (h (t 4))) (.block 1 (q [k [48,49,50,51,52,7] [(7,d (.bin (.aidx 2 1) (i 2 (t 4) (t 6)) (c 0)))],k [53,54,55,56,57,8] [(8,d (.bin (.aidx 2 1) (i 2 (t 4) (t 6)) (c 1)))],k [58,59,60,9] [(9,h (g 1 (t 5)))],.reg false (l [61,62,63] [(62,g 1 (t 5))] [(63,t 8)] (.buildSlice 22 1 #[(0,a 63)]) 22 64 (p (w [64]) (.build 46 #[(0,.const (.int .i64 1)),(2,a 64)]) 46 65 (p (w [65]) (.build 48 #[(2,a 65)]) 48 66 (p (w [66]) (.buildSlice 26 1 #[(0,a 66)]) 26 67 (p (w [62,67]) (.call ⟨.builtin .append,#[a 62,a 67],#[26,26]⟩) 26 68 (s [69] [] [(69,e 1 (t 5)),(68,t 68)] (.store 26 (a 69) (a 68)) z)))))),.reg true (l [70,71,72,73,74,75,76,77,78,79,80,81] [(71,g 1 (t 5)),(72,t 7)] [(79,g 2 (e 2 (i 6 (g 1 (t 5)) (t 7)))),(80,t 8),(81,t 9)] (x 62 [79,80,81] [22,3,3]) 22 82 (.loud [83,84,85] [] [(85,e 2 (e 2 (i 6 (t 71) (t 72)))),(82,t 82)] none [] true (.store 22 (a 85) (a 82)) 0 none false z)),k [10] [(10,c 0)],v 2 L.bH.l2])))=>b);simp only[sh];rfl
def L.bH.l5:LC:=by apply(fun{b:LC}(_:b=f 8 157 13 [149,150,151,152,153,154,155,156,157] [158,159,13] (j .lss (t 13) (h (g 0 (i 6 (g 1 (t 5)) (t 12))))) (.block 9 (.reg true (l [160,161,162,163,164,165,166,167,168,169,170,171,172,173,174,175,176] [(165,g 0 (i 6 (g 1 (t 5)) (t 12))),(166,t 13)] [(176,g 1 (i 2 (g 0 (i 6 (g 1 (t 5)) (t 12))) (t 13)))] (x 63 [176] [61]) 61 177 (.loud [178,179] [] [(179,e 1 (i 2 (t 165) (t 166))),(177,t 177)] none [] true (.store 61 (a 179) (a 177)) 0 none false z)))))=>b);simp only[sh];rfl
def L.bH.l4:LC:=by apply(fun{b:LC}(_:b=f 6 146 12 [142,143,144,145,146] [147,148,12] (j .lss (t 12) (h (g 1 (t 5)))) (.block 7 (q [k [13] [(13,c 0)],v 8 L.bH.l5])))=>b);simp only[sh];rfl
def L.bH:LFn:=by apply(fun{b:LFn}(_:b=⟨[.un (.al 3) (t 2)],q [.reg false (p (w [0]) (.box 28 (a 0)) 0 1 (p [] (.alloc 84) 0 2 z)),.reg false (l [14] [] [(14,.un (.al 2) (t 1))] (x 59 [14] [28]) 123 15 (.fin [16,3] [(3,.un (.part 0) (t 15))] [])),q [k [17,18] [(18,j .neq (t 3) (c 0))],u 18 (q [.reg false (l [19] [] [(19,t 3)] (.build 84 #[(1,a 19)]) 84 20 (s [] [] (w [2,20]) (.store 84 (a 2) (a 20)) z)),.ret]) .skip],.reg false (l [21] [] [(21,.un (.al 2) (t 1))] (x 15 [21] [28]) 40 22 (p (w [22]) (x 14 [22] [40]) 38 23 (.fin [4] [(4,t 23)] []))),q [.reg false (.loud [24,25,26,27,28,29,30,31,32] [(31,j .gtr (o (h (g 1 (t 1))) (h (t 4))) (c 512))] [(32,.gd (j .gtr (o (h (g 1 (t 1))) (h (t 4))) (c 512)) false (.un (.al 2) (t 1)))] (some (j .gtr (o (h (g 1 (t 1))) (h (t 4))) (c 512),false)) [] false (x 60 [32] [28]) 3 (some 33) true (.fin [34,35,36,37,38] [(38,.ite (t 31) (.con (.bool true)) (j .gtr (o (t 33) (h (t 4))) (c 4096)))] [])),u 38 (q [.reg false (p [] (.build 84 #[(1,.const (.int .i64 2))]) 84 39 (s [] [] (w [2,39]) (.store 84 (a 2) (a 39)) z)),.ret]) .skip],.reg false (l [40] [] [(40,.un (.al 2) (t 1))] (x 61 [40] [28]) 28 41 (p [] (.alloc 28) 0 5 (s [] [] (w [5,41]) (.store 28 (a 5) (a 41)) z))),q [k [6] [(6,c 0)],v 0 L.bH.l1],q [k [12] [(12,c 0)],v 6 L.bH.l4],.reg false (l [180] [] [(180,.un (.al 2) (t 5))] (.build 84 #[(0,a 180)]) 84 181 (s [] [] (w [2,181]) (.store 84 (a 2) (a 181)) z)),.ret]⟩)=>b);simp only[sh];rfl
theorem E.bH:aX Tryz.prog Tryz.f35=some L.bH:=by kernel_rfl
theorem F.bH:Tryz.prog.funcs[N.bH]? = some Tryz.f35:=Tryz.func35
abbrev N.gH:Nat:=36
def R.gH:List E:=[.un .load (.tmp 2),.un .load (.tmp 3),.un .load (.tmp 4)]

def L.kN:LC:=by apply(fun{b:LC}(_:b=.reg false (p (w [0]) (.box 28 (a 0)) 0 1 (p [] (.alloc 34) 0 2 (p [] (.alloc 3) 0 3 (p [] (.alloc 3) 0 4 z)))))=>b);simp only[sh];rfl
theorem E.kN:fL Tryz.prog Tryz.f36.ntmps (jq Tryz.f36) (Fk Tryz.f36) false (yE Tryz.f36)=some L.kN:=by kernel_rfl
def L.iD.l1:LC:=by apply(fun{b:LC}(_:b=q [k [26] [(26,j .lss (t 25) (t 24))],u 26 .skip (.exit 0),.block 1 (q [.reg false (l [27,28] [(28,.un (.al 6) (i 6 (t 23) (t 25)))] [] (.alloc 48) 0 7 (s [] [] (w [7,28]) (.store 48 (a 7) (a 28)) z)),k [29,30,31,32,33,34,35,36,37,5] [(5,o (t 5) (o (h (g 0 (t 7))) (h (g 1 (t 7)))))]]),k [38,25] [(25,o (t 25) (c 1))]])=>b);simp only[sh];rfl
def L.iD:LC:=by apply(fun{b:LC}(_:b=q [.reg false (l [10,11] [] [(11,g 0 (t 1))] (.call ⟨.value (.func 66),#[a 11,.const (.int .i64 0),.const (.int .i64 4)],#[3,3,3]⟩) 4 12 (.loud [] [] (w [12]) none [] false (.call ⟨.value (.func 65),#[a 12,.const (.int .i64 1),.const (.int .i64 0),.const (.int .i64 0)],#[4,34,3,3]⟩) 0 (some 13) false z)),.reg false (.loud [14,15,16,17] [] [(17,j .gtr (h (g 1 (t 1))) (c 0))] none [] false (.call ⟨.value (.func 65),#[a 17,.const (.int .i64 14),.const (.int .i64 0),.const (.int .i64 0)],#[4,34,3,3]⟩) 0 (some 18) false z),k [19,20,21,5] [(5,h (g 1 (t 1)))],q [k [22,23,24,25] [(23,g 1 (t 1)),(24,h (g 1 (t 1))),(25,c 0)],v 0 L.iD.l1],.reg false (.loud [39,40,41,42,43,44,45,46] [] [(46,.ite (j .leq (h (g 1 (t 1))) (c 512)) (j .leq (t 5) (c 4096)) (.con (.bool false)))] none [] false (.call ⟨.value (.func 65),#[a 46,.const (.int .i64 2),.const (.int .i64 0),.const (.int .i64 0)],#[4,34,3,3]⟩) 0 (some 47) false z),.reg false (l [48] [(48,.un (.al 2) (t 1))] [] (.makeMap 133 none) 133 49 (p (w [48,49]) (.build 135 #[(0,a 48),(1,a 49)]) 135 50 (p (w [50]) (.box 135 (a 50)) 132 51 (.fin [8] [(8,t 51)] [])))),.reg false (.loud [52] [] [(52,t 8)] none [] false (x 67 [52] [132]) 0 (some 53) false z),.reg false (.loud [54] [] [(54,t 8)] none [] false (x 68 [54] [132]) 0 (some 55) false z),.reg false (s [] [] (w [2]) (.store 34 (a 2) (.const (.int .i64 0))) (s [] [] (w [3]) (.store 3 (a 3) (.const (.int .i64 0))) (s [] [] (w [4]) (.store 3 (a 4) (.const (.int .i64 0))) z))),.ret])=>b);simp only[sh];rfl
theorem E.iD:fL Tryz.prog Tryz.f36.ntmps (jq Tryz.f36) (Fk Tryz.f36) false (FL Tryz.f36)=some L.iD:=by kernel_rfl
theorem R.wU:Tryz.f36.results.toList.mapM (resE Tryz.prog)=some R.gH:=by kernel_rfl
theorem F.gH:Tryz.prog.funcs[N.gH]? = some Tryz.f36:=Tryz.func36
theorem B.gH:Tryz.f36.body=some (.seq (yE Tryz.f36) (.seq (.region (IB (IJ Tryz.f36)) #[IK Tryz.f36 0,IK Tryz.f36 1] false) (FL Tryz.f36))):=by kernel_rfl
abbrev N.iW:Nat:=37
def L.iW:LFn:=by apply(fun{b:LFn}(_:b=⟨[.un (.al 2) (t 2)],q [.reg false (p (w [0]) (.box 28 (a 0)) 0 1 (p [] (.alloc 28) 0 2 z)),.reg false (l [3,4] [] [(4,g 1 (t 1))] (.call ⟨.value (.func 69),#[a 4,.func 70],#[26,141]⟩) 26 5 (s [6] [] [(6,e 1 (t 1)),(5,t 5)] (.store 26 (a 6) (a 5)) z)),.reg false (s [7] [] [(2,t 2),(7,.un (.al 2) (t 1))] (.store 28 (a 2) (a 7)) z),.ret]⟩)=>b);simp only[sh];rfl
theorem E.iW:aX Tryz.prog Tryz.f37=some L.iW:=by kernel_rfl
theorem F.iW:Tryz.prog.funcs[N.iW]? = some Tryz.f37:=Tryz.func37
abbrev N.cU:Nat:=38
def L.cU:LFn:=by apply(fun{b:LFn}(_:b=⟨[],q [k [5,6,4] [(4,h (t 0))],.reg false (l [7,8,9,10] [(7,t 0),(8,t 4)] [(10,.un (.conv .u64) (t 4))] (x 78 [10] [144]) 3 11 (.loud [12] [] [(7,t 7),(8,t 8),(11,t 11),(12,t 1)] none [] false (.call ⟨.value (.func 77),#[a 7,.const (.int .i64 0),a 8,a 11,a 12],#[61,3,3,3,94]⟩) 0 (some 13) false z))]⟩)=>b);simp only[sh];rfl
theorem E.cU:aX Tryz.prog Tryz.f38=some L.cU:=by kernel_rfl
theorem F.cU:Tryz.prog.funcs[N.cU]? = some Tryz.f38:=Tryz.func38
abbrev N.bS:Nat:=39
def L.bS:LFn:=by apply(fun{b:LFn}(_:b=⟨[t 4],q [.reg false (p (w [0]) (.box 65 (a 0)) 0 2 (p (w [1]) (.box 65 (a 1)) 0 3 (.fin [4] [(4,c 0)] []))),k [5,6,7,8,9,4] [(4,.bin (.arith .sub) (g 0 (t 2)) (g 0 (t 3)))],.ret]⟩)=>b);simp only[sh];rfl
theorem E.bS:aX Tryz.prog Tryz.f39=some L.bS:=by kernel_rfl
theorem F.bS:Tryz.prog.funcs[N.bS]? = some Tryz.f39:=Tryz.func39
abbrev N.bV:Nat:=40
def L.bV.l3:LC:=by apply(fun{b:LC}(_:b=f 4 51 7 [43,44,45,46,47,48,49,50,51] [52,53,7] (j .lss (t 7) (h (g 1 (i 2 (g 0 (t 5)) (t 6))))) (.block 5 (.reg true (l [54,55,56,57,58,59,60,61,62,63,64,68,69,70,71,72,73,74,75,76,77] [(54,t 3),(77,g 1 (i 2 (g 1 (i 2 (g 0 (t 5)) (t 6))) (t 7)))] [(64,g 0 (i 2 (g 1 (i 2 (g 0 (t 5)) (t 6))) (t 7)))] (x 79 [64] [3]) 9 65 (.loud [66,67] [(67,.bin .cat (.bin .cat (t 54) (t 65)) (.con (.string ⟨#[58]⟩)))] (w [77]) none [] true (x 79 [77] [3]) 9 (some 78) true (.fin [79,3] [(3,.bin .cat (t 67) (t 78))] []))))))=>b);simp only[sh];rfl
def L.bV.l2:LC:=by apply(fun{b:LC}(_:b=f 2 30 6 [26,27,28,29,30] [31,32,6] (j .lss (t 6) (h (g 0 (t 5)))) (.block 3 (q [.reg false (l [33,34,35,36,37,38,39,40] [(34,.bin .cat (t 3) (.con (.string ⟨#[112,104,105,32]⟩)))] [(40,g 0 (i 2 (g 0 (t 5)) (t 6)))] (x 79 [40] [3]) 9 41 (.fin [42,3] [(3,.bin .cat (t 34) (t 41))] [])),k [7] [(7,c 0)],v 4 L.bV.l3])))=>b);simp only[sh];rfl
def L.bV.l4:LC:=by apply(fun{b:LC}(_:b=f 6 84 8 [80,81,82,83,84] [85,86,8] (j .lss (t 8) (h (g 1 (t 5)))) (.block 7 (.reg true (l [87,88,89,90,91,92,93,94,97,98,99,100,101,102,105,106,107,108,109,110,113,114,115,116,117,118,121,122,123,124,125,126,127] [(88,.bin .cat (t 3) (.con (.string ⟨#[59]⟩))),(102,g 1 (i 5 (g 1 (t 5)) (t 8))),(110,g 2 (i 5 (g 1 (t 5)) (t 8))),(118,g 3 (i 5 (g 1 (t 5)) (t 8))),(127,.un (.conv .i64) (g 4 (i 5 (g 1 (t 5)) (t 8))))] [(94,g 0 (i 5 (g 1 (t 5)) (t 8)))] (x 79 [94] [3]) 9 95 (l [96] [(96,.bin .cat (t 88) (t 95))] (w [102]) (x 79 [102] [3]) 9 103 (l [104] [(104,.bin .cat (t 96) (t 103))] (w [110]) (x 79 [110] [3]) 9 111 (l [112] [(112,.bin .cat (t 104) (t 111))] (w [118]) (x 80 [118] [22]) 9 119 (.loud [120] [(120,.bin .cat (t 112) (t 119))] (w [127]) none [] true (x 79 [127] [3]) 9 (some 128) true (.fin [129,3] [(3,.bin .cat (t 120) (t 128))] [])))))))))=>b);simp only[sh];rfl
def L.bV.l1:LC:=by apply(fun{b:LC}(_:b=f 0 16 4 [12,13,14,15,16] [17,18,4] (j .lss (t 4) (h (g 1 (t 1)))) (.block 1 (q [.reg false (l [19,20,21,22,23] [(23,.un (.al 6) (i 6 (g 1 (t 1)) (t 4)))] [] (.alloc 48) 0 5 (s [] [] (w [5,23]) (.store 48 (a 5) (a 23)) z)),k [24,25,3] [(3,.bin .cat (t 3) (.con (.string ⟨#[10]⟩)))],q [k [6] [(6,c 0)],v 2 L.bV.l2],q [k [8] [(8,c 0)],v 6 L.bV.l4],.reg true (l [130,131,132,133,134,137,138,139,142,143,144,147,148,149,150] [(131,.bin .cat (t 3) (.con (.string ⟨#[124]⟩))),(139,g 1 (e 2 (t 5))),(144,g 2 (e 2 (t 5))),(150,.un (.conv .i64) (g 3 (e 2 (t 5))))] [(134,g 0 (e 2 (t 5)))] (x 79 [134] [3]) 9 135 (l [136] [(136,.bin .cat (t 131) (t 135))] (w [139]) (x 80 [139] [22]) 9 140 (l [141] [(141,.bin .cat (t 136) (t 140))] (w [144]) (x 80 [144] [22]) 9 145 (.loud [146] [(146,.bin .cat (t 141) (t 145))] (w [150]) none [] true (x 79 [150] [3]) 9 (some 151) true (.fin [152,3] [(3,.bin .cat (t 146) (t 151))] [])))))])))=>b);simp only[sh];rfl
def L.bV:LFn:=by apply(fun{b:LFn}(_:b=⟨[t 2],q [.reg false (p (w [0]) (.box 28 (a 0)) 0 1 (.fin [2] [(2,.con (.string ⟨#[]⟩))] [])),.reg false (l [9,10] [] [(10,g 0 (t 1))] (x 79 [10] [3]) 9 11 (.fin [3] [(3,t 11)] [])),q [k [4] [(4,c 0)],v 0 L.bV.l1],k [153,2] [(2,t 3)],.ret]⟩)=>b);simp only[sh];rfl
theorem E.bV:aX Tryz.prog Tryz.f40=some L.bV:=by kernel_rfl
theorem F.bV:Tryz.prog.funcs[N.bV]? = some Tryz.f40:=Tryz.func40
abbrev N.dU:Nat:=41
def L.dU.l2:LC:=by apply(fun{b:LC}(_:b=f 2 17 6 [14,15,16,17] [18,19,6] (j .lss (t 6) (h (t 0))) (.block 3 (q [.reg false (l [20,21,22] [] [(20,t 0),(21,t 6),(22,t 4)] (x 81 [20,21,22] [40,3,3]) 4 23 (.fin [7] [(7,t 23)] [])),k [24] [(24,t 7)],u 24 (.reg false (l [25,26] [(25,t 5)] [(26,t 6)] (.buildSlice 22 1 #[(0,a 26)]) 22 27 (p (w [25,27]) (.call ⟨.builtin .append,#[a 25,a 27],#[22,22]⟩) 22 28 (.fin [5] [(5,t 28)] [])))) .skip])))=>b);simp only[sh];rfl
def L.dU.l1:LC:=by apply(fun{b:LC}(_:b=f 0 11 4 [8,9,10,11] [12,13,4] (j .lss (t 4) (h (t 0))) (.block 1 (q [k [5] [(5,.con (.slice none 0 0))],q [k [6] [(6,c 0)],v 2 L.dU.l2],.reg false (l [29,30] [(29,t 3)] [(30,t 5)] (.buildSlice 40 1 #[(0,a 30)]) 40 31 (p (w [29,31]) (.call ⟨.builtin .append,#[a 29,a 31],#[40,40]⟩) 40 32 (.fin [3] [(3,t 32)] [])))])))=>b);simp only[sh];rfl
def L.dU:LFn:=by apply(fun{b:LFn}(_:b=⟨[t 2],q [k [2] [(2,.con (.slice none 0 0))],k [3] [(3,.con (.slice none 0 0))],q [k [4] [(4,c 0)],v 0 L.dU.l1],k [33,2] [(2,t 3)],.ret]⟩)=>b);simp only[sh];rfl
theorem E.dU:aX Tryz.prog Tryz.f41=some L.dU:=by kernel_rfl
theorem F.dU:Tryz.prog.funcs[N.dU]? = some Tryz.f41:=Tryz.func41
abbrev N.fJ:Nat:=42
def L.fJ.l1:LC:=by apply(fun{b:LC}(_:b=f 0 11 6 [8,9,10,11] [12,13,6] (j .lss (t 6) (h (t 0))) (.block 1 (q [.reg false (l [14,15,16] [] [(14,t 0),(15,t 1),(16,t 6)] (x 81 [14,15,16] [40,3,3]) 4 17 (.fin [7] [(7,t 17)] [])),k [18] [(18,t 7)],u 18 (.reg false (l [19,20] [(19,t 5)] [(20,t 6)] (.buildSlice 22 1 #[(0,a 20)]) 22 21 (p (w [19,21]) (.call ⟨.builtin .append,#[a 19,a 21],#[22,22]⟩) 22 22 (.fin [5] [(5,t 22)] [])))) .skip])))=>b);simp only[sh];rfl
def L.fJ:LFn:=by apply(fun{b:LFn}(_:b=⟨[t 4],q [k [4] [(4,.con (.slice none 0 0))],k [5] [(5,.con (.slice none 0 0))],q [k [6] [(6,c 0)],v 0 L.fJ.l1],k [23,4] [(4,t 5)],.ret]⟩)=>b);simp only[sh];rfl
theorem E.fJ:aX Tryz.prog Tryz.f42=some L.fJ:=by kernel_rfl
theorem F.fJ:Tryz.prog.funcs[N.fJ]? = some Tryz.f42:=Tryz.func42
abbrev N.fe:Nat:=43
def L.fe.l1:LC:=by apply(fun{b:LC}(_:b=q [k [12] [(12,j .lss (t 11) (t 10))],u 12 .skip (.exit 0),.block 1 (q [k [13,14,15,4,5] [(4,t 11),(5,d (i 1 (t 9) (t 11)))],.reg false (l [16,17,18,19,20] [(16,t 3),(17,t 4)] [(18,t 5),(20,h (t 0))] (x 46 [18,20] [22,3]) 22 21 (s [22] [] [(22,i 1 (t 16) (t 17)),(21,t 21)] (.store 22 (a 22) (a 21)) z))]),k [23,11] [(11,o (t 11) (c 1))]])=>b);simp only[sh];rfl
def L.fe:LFn:=by apply(fun{b:LFn}(_:b=⟨[t 2],q [k [2] [(2,.con (.slice none 0 0))],.reg false (l [6,7] [] [(7,h (t 0)),(7,h (t 0))] (.makeSlice 40 (a 7) (a 7)) 40 8 (.fin [3] [(3,t 8)] [])),q [k [9,10,11] [(9,t 0),(10,h (t 0)),(11,c 0)],v 0 L.fe.l1],k [24,2] [(2,t 3)],.ret]⟩)=>b);simp only[sh];rfl
theorem E.fe:aX Tryz.prog Tryz.f43=some L.fe:=by kernel_rfl
theorem F.fe:Tryz.prog.funcs[N.fe]? = some Tryz.f43:=Tryz.func43
abbrev N.gF:Nat:=44
def L.gF:LFn:=by apply(fun{b:LFn}(_:b=⟨[t 2],q [k [2] [(2,.con (.slice none 0 0))],.reg false (l [6,7] [] [(7,h (t 0)),(7,h (t 0))] (.makeSlice 40 (a 7) (a 7)) 40 8 (p [] (.alloc 40) 0 3 (s [] [] (w [3,8]) (.store 40 (a 3) (a 8)) z))),q [.reg false (l [9] [] [(9,t 0)] (x 45 [9] [40]) 99 10 z),.block 0 (.rangef (t 10) [11,12] (q [k [4] [(4,t 11)],k [5] [(5,t 12)]]) (.block 1 (.reg true (l [13,14,15,16,17,18,19] [(13,d (t 3)),(14,t 5),(18,d (i 1 (d (t 3)) (t 5)))] [(19,t 4)] (.buildSlice 22 1 #[(0,a 19)]) 22 20 (p (w [18,20]) (.call ⟨.builtin .append,#[a 18,a 20],#[22,22]⟩) 22 21 (.loud [22] [] [(22,i 1 (t 13) (t 14)),(21,t 21)] none [] true (.store 22 (a 22) (a 21)) 0 none false z))))))],k [23,2] [(2,d (t 3))],.ret]⟩)=>b);simp only[sh];rfl
theorem E.gF:aX Tryz.prog Tryz.f44=some L.gF:=by kernel_rfl
theorem F.gF:Tryz.prog.funcs[N.gF]? = some Tryz.f44:=Tryz.func44
abbrev N.gA:Nat:=45
def L.gA:LFn:=by apply(fun{b:LFn}(_:b=⟨[t 2],q [.reg false (p (w [0]) (.box 40 (a 0)) 0 1 (.fin [2] [(2,.con .nilFunc)] [])),k [3,2] [(2,.un (.fn 82) (.snoc (.con (.tuple #[])) (t 1)))],.ret]⟩)=>b);simp only[sh];rfl
theorem E.gA:aX Tryz.prog Tryz.f45=some L.gA:=by kernel_rfl
theorem F.gA:Tryz.prog.funcs[N.gA]? = some Tryz.f45:=Tryz.func45
abbrev N.fQ:Nat:=46
def L.fQ.l1:LC:=by apply(fun{b:LC}(_:b=q [k [11] [(11,j .lss (t 10) (t 9))],u 11 .skip (.exit 0),.block 1 (q [k [12,13,7] [(7,d (i 1 (t 8) (t 10)))],k [14,15,16,17,18,19,20] [(20,.ite (j .geq (t 7) (c 0)) (j .lss (t 7) (t 1)) (.con (.bool false)))],u 20 (.reg false (l [21,22] [(21,t 5)] [(22,t 7)] (.buildSlice 22 1 #[(0,a 22)]) 22 23 (p (w [21,23]) (.call ⟨.builtin .append,#[a 21,a 23],#[22,22]⟩) 22 24 (.fin [5] [(5,t 24)] [])))) .skip]),k [25,10] [(10,o (t 10) (c 1))]])=>b);simp only[sh];rfl
def L.fQ:LFn:=by apply(fun{b:LFn}(_:b=⟨[t 4],q [k [4] [(4,.con (.slice none 0 0))],k [5] [(5,.con (.slice none 0 0))],q [k [8,9,10] [(8,t 0),(9,h (t 0)),(10,c 0)],v 0 L.fQ.l1],.reg false (.loud [26] [] [(26,t 5)] none [] false (x 83 [26] [22]) 0 (some 27) false z),.reg false (l [28] [] [(28,t 5)] (x 84 [28] [22]) 22 29 (.fin [4] [(4,t 29)] [])),.ret]⟩)=>b);simp only[sh];rfl
theorem E.fQ:aX Tryz.prog Tryz.f46=some L.fQ:=by kernel_rfl
theorem F.fQ:Tryz.prog.funcs[N.fQ]? = some Tryz.f46:=Tryz.func46
abbrev N.dd:Nat:=55
def L.dd:LFn:=by apply(fun{b:LFn}(_:b=⟨[t 4],q [k [4] [(4,c 0)],.reg false (l [8] [] [(8,t 0)] (x 95 [8] [66]) 92 9 (.fin [7,10,11,5,6] [(5,.un (.ext 0) (t 9)),(6,.un (.ext 1) (t 9))] [])),q [.reg false (.loud [12,13,14,15] [(14,.un .not (t 6))] [(15,.gd (.un .not (t 6)) false (t 0))] (some (.un .not (t 6),false)) [] false (.call ⟨.value (.func 24),#[a 15,.const (.int .i64 9)],#[66,3]⟩) 3 (some 16) true (.fin [17,18] [(18,.ite (t 14) (.con (.bool true)) (j .eql (t 16) (c 0)))] [])),u 18 (q [.reg false (l [19,20,21] [(19,t 0),(20,t 1)] [(21,t 0)] (x 34 [21] [66]) 21 22 (p (w [19,20,22]) (x 33 [19,20,22] [66,3,21]) 3 23 (.fin [4] [(4,t 23)] []))),.ret]) .skip],k [24,4] [(4,t 5)],.ret]⟩)=>b);simp only[sh];rfl
theorem E.dd:aX Tryz.prog Tryz.f55=some L.dd:=by kernel_rfl
theorem F.dd:Tryz.prog.funcs[N.dd]? = some Tryz.f55:=Tryz.func55
abbrev N.dA:Nat:=56
def L.dA:LFn:=by apply(fun{b:LFn}(_:b=⟨[],q [.reg false (p (w [2]) (.box 78 (a 2)) 0 5 z),.reg true (l [7,8,9,10,11,12,13,14,15,16,17,18,19,20,21,22] [(11,g 1 (e 2 (.un .nilPtr (t 0)))),(12,t 1),(21,g 1 (i 6 (g 1 (e 2 (.un .nilPtr (t 0)))) (t 1)))] [(22,.un (.al 5) (t 5))] (.buildSlice 44 1 #[(0,a 22)]) 44 23 (p (w [21,23]) (.call ⟨.builtin .append,#[a 21,a 23],#[44,44]⟩) 44 24 (.loud [25,26] [] [(26,e 1 (i 6 (t 11) (t 12))),(24,t 24)] none [] true (.store 44 (a 26) (a 24)) 0 none false z))),.reg false (l [27] [] [(27,.un (.al 5) (t 5))] (x 29 [27] [78]) 22 28 (.fin [6] [(6,t 28)] [])),.reg false (l [29,30,31,32,33,34] [(29,t 0)] [(33,g 5 (.un .nilPtr (t 0))),(34,t 6)] (.call ⟨.builtin .append,#[a 33,a 34],#[22,22]⟩) 22 35 (s [36,37] [] [(37,e 5 (.un .nilPtr (t 29))),(35,t 35)] (.store 22 (a 37) (a 35)) z))]⟩)=>b);simp only[sh];rfl
theorem E.dA:aX Tryz.prog Tryz.f56=some L.dA:=by kernel_rfl
theorem F.dA:Tryz.prog.funcs[N.dA]? = some Tryz.f56:=Tryz.func56
end
section
set_option maxRecDepth 100000
abbrev N.cW:Nat:=57
def L.cW:LFn:=by apply(fun{b:LFn}(_:b=⟨[],q [.reg false (l [12,13,14] [(12,t 0),(13,t 1)] [(14,t 0)] (.call ⟨.value (.func 24),#[a 14,.const (.int .i64 9)],#[66,3]⟩) 3 15 (l [16] [] [(12,t 12),(13,t 13),(16,.un (.conv .i32) (t 15))] (x 33 [12,13,16] [66,3,21]) 3 17 (.fin [6] [(6,t 17)] []))),q [.reg false (l [18] [] [(18,t 0)] (.call ⟨.value (.func 24),#[a 18,.const (.int .i64 3)],#[66,3]⟩) 3 19 (.fin [20] [(20,j .eql (t 19) (c 0))] [])),u 20 (q [.reg false (l [21,22] [] [(21,t 0),(22,t 1)] (x 55 [21,22] [66,3]) 3 23 (.fin [7] [(7,t 23)] [])),.reg false (l [24,25] [] [(24,t 0),(25,t 1)] (.call ⟨.value (.func 33),#[a 24,a 25,.const (.int .i32 7)],#[66,3,21]⟩) 3 26 (.fin [8] [(8,t 26)] [])),.reg false (l [27] [] [(27,t 0)] (x 27 [27] [66]) 3 28 (.fin [9] [(9,t 28)] [])),.reg false (l [29,30,31,32,33] [(29,t 0),(30,t 1),(31,t 9)] [(32,t 7),(33,t 8)] (.buildSlice 22 2 #[(0,a 32),(1,a 33)]) 22 34 (p (w [31,34]) (.build 78 #[(0,.const (.int .i64 5)),(1,a 31),(3,a 34)]) 78 35 (.loud [] [] (w [29,30,35]) none [] false (x 56 [29,30,35] [66,3,78]) 0 (some 36) false z))),.reg false (l [37] [] [(37,t 0)] (x 27 [37] [66]) 3 38 (.fin [10] [(10,t 38)] [])),.reg false (l [39,40,41,42,43] [(39,t 0),(40,t 1),(41,t 10)] [(42,t 6),(43,t 9)] (.buildSlice 22 2 #[(0,a 42),(1,a 43)]) 22 44 (p (w [41,44]) (.build 78 #[(0,.const (.int .i64 2)),(1,a 41),(3,a 44)]) 78 45 (.loud [] [] (w [39,40,45]) none [] false (x 56 [39,40,45] [66,3,78]) 0 (some 46) false z))),k [47,6] [(6,t 10)]]) .skip],.reg false (l [48] [] [(48,t 0)] (.call ⟨.value (.func 24),#[a 48,.const (.int .i64 4)],#[66,3]⟩) 3 49 (.fin [50,11] [(11,.un (.conv .i32) (t 49))] [])),q [.reg false (l [51] [] [(51,t 0)] (.call ⟨.value (.func 24),#[a 51,.const (.int .i64 12)],#[66,3]⟩) 3 52 (.fin [53] [(53,j .eql (t 52) (c 0))] [])),u 53 (.reg false (l [54] [] [(54,t 0)] (x 34 [54] [66]) 21 55 (.fin [11] [(11,t 55)] []))) .skip],k [56] [(56,t 2)],u 56 (.reg false (l [57,58,59,60,61] [(57,t 0),(58,t 1),(59,t 6)] [(60,t 0),(61,t 1)] (x 55 [60,61] [66,3]) 3 62 (p (w [59,62]) (.buildSlice 22 2 #[(0,a 59),(1,a 62)]) 22 63 (l [64] [] [(63,t 63),(64,t 11)] (.build 78 #[(0,.const (.int .i64 16)),(3,a 63),(4,a 64)]) 78 65 (.loud [] [] (w [57,58,65]) none [] false (x 56 [57,58,65] [66,3,78]) 0 (some 66) false z))))) (.reg false (l [67,68,69] [(67,t 0),(68,t 1)] [(69,t 0)] (x 27 [69] [66]) 3 70 (l [71] [] [(71,t 6)] (.buildSlice 22 1 #[(0,a 71)]) 22 72 (l [73] [] [(70,t 70),(72,t 72),(73,t 11)] (.build 78 #[(0,.const (.int .i64 15)),(1,a 70),(3,a 72),(4,a 73)]) 78 74 (.loud [] [] (w [67,68,74]) none [] false (x 56 [67,68,74] [66,3,78]) 0 (some 75) false z)))))]⟩)=>b);simp only[sh];rfl
theorem E.cW:aX Tryz.prog Tryz.f57=some L.cW:=by kernel_rfl
theorem F.cW:Tryz.prog.funcs[N.cW]? = some Tryz.f57:=Tryz.func57
abbrev N.cj:Nat:=58
def L.cj.l3:LC:=by apply(fun{b:LC}(_:b=f 4 49 8 [41,42,43,44,45,46,47,48,49] [50,51,8] (j .lss (t 8) (h (g 1 (i 2 (g 0 (t 5)) (t 6))))) (.block 5 (.reg true (l [52,53,54,55,56,57,58,59,60,61,62,63] [(53,g 3 (t 7))] [(63,g 1 (i 2 (g 1 (i 2 (g 0 (t 5)) (t 6))) (t 8)))] (.buildSlice 22 1 #[(0,a 63)]) 22 64 (.loud [] [] (w [53,64]) none [] true (.call ⟨.builtin .append,#[a 53,a 64],#[22,22]⟩) 22 (some 65) true (s [66] [] [(66,e 3 (t 7)),(65,t 65)] (.store 22 (a 66) (a 65)) z))))))=>b);simp only[sh];rfl
def L.cj.l2:LC:=by apply(fun{b:LC}(_:b=f 2 27 6 [23,24,25,26,27] [28,29,6] (j .lss (t 6) (h (g 0 (t 5)))) (.block 3 (q [.reg false (l [30,31,32,33,34,35,36,37,38] [(30,t 4),(32,.bin (.arith .sub) (c (-1)) (t 6))] [(38,g 0 (i 2 (g 0 (t 5)) (t 6)))] (.buildSlice 22 1 #[(0,a 38)]) 22 39 (p (w [30,32,39]) (.build 121 #[(0,a 30),(1,a 32),(2,a 39)]) 121 40 (p [] (.alloc 121) 0 7 (s [] [] (w [7,40]) (.store 121 (a 7) (a 40)) z)))),q [k [8] [(8,c 0)],v 4 L.cj.l3],.reg false (l [67,68] [(67,t 3)] [(68,.un (.al 4) (t 7))] (.buildSlice 118 1 #[(0,a 68)]) 118 69 (p (w [67,69]) (.call ⟨.builtin .append,#[a 67,a 69],#[118,118]⟩) 118 70 (.fin [3] [(3,t 70)] [])))])))=>b);simp only[sh];rfl
def L.cj.l4:LC:=by apply(fun{b:LC}(_:b=f 6 75 9 [71,72,73,74,75] [76,77,9] (j .lss (t 9) (h (g 1 (t 5)))) (.block 7 (.reg true (l [78,79,80,81,82,83,84,85,87,88,89,90,91,92] [(78,t 3),(79,t 4),(80,t 9),(92,g 3 (i 5 (g 1 (t 5)) (t 9)))] [(85,.un (.al 5) (i 5 (g 1 (t 5)) (t 9)))] (x 29 [85] [78]) 22 86 (.loud [] [] (w [79,80,86,92]) none [] true (.build 121 #[(0,a 79),(1,a 80),(2,a 86),(3,a 92)]) 121 (some 93) true (p (w [93]) (.buildSlice 118 1 #[(0,a 93)]) 118 94 (p (w [78,94]) (.call ⟨.builtin .append,#[a 78,a 94],#[118,118]⟩) 118 95 (.fin [3] [(3,t 95)] []))))))))=>b);simp only[sh];rfl
def L.cj.l1:LC:=by apply(fun{b:LC}(_:b=f 0 15 4 [11,12,13,14,15] [16,17,4] (j .lss (t 4) (h (g 1 (t 1)))) (.block 1 (q [.reg false (l [18,19,20,21,22] [(22,.un (.al 6) (i 6 (g 1 (t 1)) (t 4)))] [] (.alloc 48) 0 5 (s [] [] (w [5,22]) (.store 48 (a 5) (a 22)) z)),q [k [6] [(6,c 0)],v 2 L.cj.l2],q [k [9] [(9,c 0)],v 6 L.cj.l4],.reg false (l [96,97,98,99,100,101,102,103] [(96,t 3)] [(97,t 4),(100,h (g 1 (t 5))),(103,g 1 (e 2 (t 5)))] (.build 121 #[(0,a 97),(1,a 100),(3,a 103)]) 121 104 (p (w [104]) (.buildSlice 118 1 #[(0,a 104)]) 118 105 (p (w [96,105]) (.call ⟨.builtin .append,#[a 96,a 105],#[118,118]⟩) 118 106 (.fin [3] [(3,t 106)] []))))])))=>b);simp only[sh];rfl
def L.cj:LFn:=by apply(fun{b:LFn}(_:b=⟨[t 2],q [.reg false (p (w [0]) (.box 28 (a 0)) 0 1 (.fin [2] [(2,.con (.slice none 0 0))] [])),.reg false (p [] (.buildSlice 118 0 #[]) 118 10 (.fin [3] [(3,t 10)] [])),q [k [4] [(4,c 0)],v 0 L.cj.l1],k [107,2] [(2,t 3)],.ret]⟩)=>b);simp only[sh];rfl
theorem E.cj:aX Tryz.prog Tryz.f58=some L.cj:=by kernel_rfl
theorem F.cj:Tryz.prog.funcs[N.cj]? = some Tryz.f58:=Tryz.func58
abbrev N.bG:Nat:=59
def L.bG.l1:LC:=by apply(fun{b:LC}(_:b=f 0 42 4 [38,39,40,41,42] [43,44,4] (j .lss (t 4) (h (g 1 (t 1)))) (.block 1 (.reg true (.fin [45,46,47,48,49,50,51,52,53,54,55,56,57,58,59,60,61,3] [(3,o (o (t 3) (h (g 0 (i 6 (g 1 (t 1)) (t 4))))) (h (g 1 (i 6 (g 1 (t 1)) (t 4)))))] []))))=>b);simp only[sh];rfl
def L.bG.l2:LC:=by apply(fun{b:LC}(_:b=f 2 84 8 [80,81,82,83,84] [85,86,8] (j .lss (t 8) (h (g 1 (t 1)))) (.block 3 (q [k [87,88,89,90,91] [(91,.un .not (d (i 1 (t 6) (t 8))))],u 91 (q [.reg false (l [92] [] [(92,t 8)] (.build 123 #[(0,.const (.int .i64 15)),(1,a 92)]) 123 93 (s [] [] (w [2,93]) (.store 123 (a 2) (a 93)) z)),.ret]) .skip])))=>b);simp only[sh];rfl
def L.bG.l3:LC:=by apply(fun{b:LC}(_:b=f 4 98 9 [94,95,96,97,98] [99,100,9] (j .lss (t 9) (h (g 1 (t 1)))) (.block 5 (.reg false (l [101,102,103] [(101,t 7)] [(102,.un (.al 2) (t 1)),(103,t 9)] (x 28 [102,103] [28,3]) 73 104 (p (w [104]) (.buildSlice 74 1 #[(0,a 104)]) 74 105 (p (w [101,105]) (.call ⟨.builtin .append,#[a 101,a 105],#[74,74]⟩) 74 106 (.fin [7] [(7,t 106)] [])))))))=>b);simp only[sh];rfl
def L.bG.l5:LC:=by apply(fun{b:LC}(_:b=f 8 134 15 [130,131,132,133,134] [135,136,15] (j .lss (t 15) (h (g 3 (t 13)))) (.block 9 (q [.reg true (.loud [137,138,139,140,141,142,143,144,145,146,147,148] [] [(137,.un (.al 2) (t 1)),(138,t 11),(139,t 7),(144,d (i 1 (g 3 (t 13)) (t 15))),(146,g 0 (t 13)),(148,g 1 (t 13))] none [] true (x 98 [137,138,139,144,146,148] [28,118,74,3,3,3]) 4 (some 149) true (.fin [150] [(150,.un .not (t 149))] [])),u 150 (q [.reg false (l [151,152,153,154] [] [(152,g 0 (t 13)),(154,g 1 (t 13))] (.build 123 #[(0,.const (.int .i64 13)),(1,a 152),(2,a 154)]) 123 155 (s [] [] (w [2,155]) (.store 123 (a 2) (a 155)) z)),.ret]) .skip])))=>b);simp only[sh];rfl
def L.bG.l6:LC:=by apply(fun{b:LC}(_:b=f 10 184 19 [178,179,180,181,182,183,184] [185,186,19] (.ite (t 18) (j .lss (t 19) (h (t 17))) (.con (.bool false))) (.block 11 (.reg true (.fin [187,188,189,190,191,192,193,194,195,196,18] [(18,j .eql (g 0 (i 2 (t 16) (t 19))) (d (i 1 (t 17) (t 19))))] []))))=>b);simp only[sh];rfl
def L.bG.l7:LC:=by apply(fun{b:LC}(_:b=f 12 207 20 [204,205,206,207] [208,209,20] (j .lss (t 20) (h (t 16))) (.block 13 (q [.reg true (.loud [210,211,212,213,214,215,216,217,218,219,220,221,222,223,224,225,226,227,228,229,230,231,232,233] [] [(210,.un (.al 2) (t 1)),(211,t 11),(212,t 7),(217,g 1 (i 2 (t 16) (t 20))),(222,g 0 (i 2 (t 16) (t 20))),(233,h (g 1 (i 6 (g 1 (t 1)) (g 0 (i 2 (t 16) (t 20))))))] none [] true (x 98 [210,211,212,217,222,233] [28,118,74,3,3,3]) 4 (some 234) true (.fin [235] [(235,.un .not (t 234))] [])),u 235 (q [.reg false (l [236,237,238,239] [] [(237,g 0 (t 13)),(239,g 1 (t 13))] (.build 123 #[(0,.const (.int .i64 13)),(1,a 237),(2,a 239)]) 123 240 (s [] [] (w [2,240]) (.store 123 (a 2) (a 240)) z)),.ret]) .skip])))=>b);simp only[sh];rfl
def L.bG.l4:LC:=by apply(fun{b:LC}(_:b=f 6 114 12 [111,112,113,114] [115,116,12] (j .lss (t 12) (h (t 10))) (.block 7 (q [.reg false (l [117,118,119,120] [(120,.un (.al 4) (i 4 (t 10) (t 12)))] [] (.alloc 121) 0 13 (s [] [] (w [13,120]) (.store 121 (a 13) (a 120)) z)),.reg false (l [121,122,123,124,125,126] [(126,.un (.al 6) (i 6 (g 1 (t 1)) (g 0 (t 13))))] [] (.alloc 48) 0 14 (s [] [] (w [14,126]) (.store 48 (a 14) (a 126)) z)),q [k [127,128,129] [(129,j .geq (g 1 (t 13)) (c 0))],u 129 (q [q [k [15] [(15,c 0)],v 8 L.bG.l5],.exit 7]) .skip],k [156,157,158,159,160,161,162,163,16] [(16,g 1 (i 2 (g 0 (t 14)) (.bin (.arith .sub) (c (-1)) (g 1 (t 13)))))],.reg false (l [164,165,166] [] [(164,.un (.al 2) (t 1)),(166,g 0 (t 13))] (x 26 [164,166] [28,3]) 22 167 (.fin [17] [(17,t 167)] [])),k [168,169,170,171,172,173,174,175,176,177,18] [(18,.ite (j .gtr (g 0 (t 13)) (c 0)) (j .eql (h (t 16)) (h (t 17))) (.con (.bool false)))],q [k [19] [(19,c 0)],v 10 L.bG.l6],q [k [197,198] [(198,.un .not (t 18))],u 198 (q [.reg false (l [199,200,201,202] [] [(200,g 0 (t 13)),(202,g 1 (t 13))] (.build 123 #[(0,.const (.int .i64 16)),(1,a 200),(2,a 202)]) 123 203 (s [] [] (w [2,203]) (.store 123 (a 2) (a 203)) z)),.ret]) .skip],k [20] [(20,c 0)],v 12 L.bG.l7])))=>b);simp only[sh];rfl
def L.bG:LFn:=by apply(fun{b:LFn}(_:b=⟨[.un (.al 3) (t 2)],q [.reg false (p (w [0]) (.box 28 (a 0)) 0 1 (p [] (.alloc 123) 0 2 z)),q [k [21,22,23,24,25,26,27,28] [(28,.ite (j .lss (g 0 (t 1)) (c 0)) (.con (.bool true)) (j .gtr (g 0 (t 1)) (c 4)))],u 28 (q [.reg false (p [] (.build 123 #[(0,.const (.int .i64 1))]) 123 29 (s [] [] (w [2,29]) (.store 123 (a 2) (a 29)) z)),.ret]) .skip],q [k [30,31,32,33] [(33,j .eql (h (g 1 (t 1))) (c 0))],u 33 (q [.reg false (p [] (.build 123 #[(0,.const (.int .i64 14))]) 123 34 (s [] [] (w [2,34]) (.store 123 (a 2) (a 34)) z)),.ret]) .skip],k [35,36,37,3] [(3,h (g 1 (t 1)))],q [k [4] [(4,c 0)],v 0 L.bG.l1],q [k [62,63,64,65,66,67,68,69] [(69,.ite (j .gtr (h (g 1 (t 1))) (c 512)) (.con (.bool true)) (j .gtr (t 3) (c 4096)))],u 69 (q [.reg false (p [] (.build 123 #[(0,.const (.int .i64 2))]) 123 70 (s [] [] (w [2,70]) (.store 123 (a 2) (a 70)) z)),.ret]) .skip],.reg false (l [71] [] [(71,.un (.al 2) (t 1))] (x 96 [71] [28]) 123 72 (p [] (.alloc 123) 0 5 (s [] [] (w [5,72]) (.store 123 (a 5) (a 72)) z))),q [k [73,74,75] [(75,j .neq (g 0 (t 5)) (c 0))],u 75 (q [.reg false (s [76] [] [(2,t 2),(76,.un (.al 3) (t 5))] (.store 123 (a 2) (a 76)) z),.ret]) .skip],.reg false (l [77] [] [(77,.un (.al 2) (t 1))] (.call ⟨.value (.func 28),#[a 77,.const (.int .i64 (-1))],#[28,3]⟩) 73 78 (.fin [6] [(6,t 78)] [])),.reg false (p [] (.buildSlice 74 0 #[]) 74 79 (.fin [7] [(7,t 79)] [])),q [k [8] [(8,c 0)],v 2 L.bG.l2],q [k [9] [(9,c 0)],v 4 L.bG.l3],.reg false (l [107] [] [(107,.un (.al 2) (t 1))] (x 58 [107] [28]) 118 108 (.fin [10] [(10,t 108)] [])),.reg false (l [109] [] [(109,t 10)] (x 97 [109] [118]) 118 110 (.fin [11] [(11,t 110)] [])),q [k [12] [(12,c 0)],v 6 L.bG.l4],.reg false (p [] (.build 123 #[]) 123 241 (s [] [] (w [2,241]) (.store 123 (a 2) (a 241)) z)),.ret]⟩)=>b);simp only[sh];rfl
theorem E.bG:aX Tryz.prog Tryz.f59=some L.bG:=by kernel_rfl
theorem F.bG:Tryz.prog.funcs[N.bG]? = some Tryz.f59:=Tryz.func59
abbrev N.eu:Nat:=60
def L.eu.l1:LC:=by apply(fun{b:LC}(_:b=f 0 9 4 [5,6,7,8,9] [10,11,4] (j .lss (t 4) (h (g 1 (t 1)))) (.block 1 (.reg true (.fin [12,13,14,15,16,17,18,19,20,21,22,23,24,25,26,27,28,29,3] [(3,o (o (o (t 3) (h (g 0 (i 6 (g 1 (t 1)) (t 4))))) (h (g 1 (i 6 (g 1 (t 1)) (t 4))))) (c 1))] []))))=>b);simp only[sh];rfl
def L.eu:LFn:=by apply(fun{b:LFn}(_:b=⟨[t 2],q [.reg false (p (w [0]) (.box 28 (a 0)) 0 1 (.fin [2] [(2,c 0)] [])),k [3] [(3,c 0)],q [k [4] [(4,c 0)],v 0 L.eu.l1],k [30,2] [(2,t 3)],.ret]⟩)=>b);simp only[sh];rfl
theorem E.eu:aX Tryz.prog Tryz.f60=some L.eu:=by kernel_rfl
theorem F.eu:Tryz.prog.funcs[N.eu]? = some Tryz.f60:=Tryz.func60
abbrev N.du:Nat:=61
def L.du.l2:LC:=by apply(fun{b:LC}(_:b=f 2 29 7 [25,26,27,28,29] [30,31,7] (j .lss (t 7) (h (g 0 (t 5)))) (.block 3 (.reg true (l [32,33,34,35,36,37,38,39,41,42,43,44,45,46] [(33,g 0 (t 6)),(39,g 0 (i 2 (g 0 (t 5)) (t 7))),(46,g 1 (i 2 (g 0 (t 5)) (t 7)))] [] (.buildSlice 61 0 #[]) 61 40 (p (w [40,46]) (.call ⟨.builtin .append,#[a 40,a 46],#[61,61]⟩) 61 47 (p (w [39,47]) (.build 63 #[(0,a 39),(1,a 47)]) 63 48 (p (w [48]) (.buildSlice 43 1 #[(0,a 48)]) 43 49 (.loud [] [] (w [33,49]) none [] true (.call ⟨.builtin .append,#[a 33,a 49],#[43,43]⟩) 43 (some 50) true (s [51] [] [(51,e 0 (t 6)),(50,t 50)] (.store 43 (a 51) (a 50)) z)))))))))=>b);simp only[sh];rfl
def L.du.l3:LC:=by apply(fun{b:LC}(_:b=f 4 56 8 [52,53,54,55,56] [57,58,8] (j .lss (t 8) (h (g 1 (t 5)))) (.block 5 (q [.reg false (l [59,60,61,62,63] [(63,.un (.al 5) (i 5 (g 1 (t 5)) (t 8)))] [] (.alloc 78) 0 9 (s [] [] (w [9,63]) (.store 78 (a 9) (a 63)) z)),.reg false (p [] (.buildSlice 22 0 #[]) 22 64 (l [65,66] [] [(64,t 64),(66,g 3 (t 9))] (.call ⟨.builtin .append,#[a 64,a 66],#[22,22]⟩) 22 67 (s [68] [] [(68,e 3 (t 9)),(67,t 67)] (.store 22 (a 68) (a 67)) z))),.reg false (l [69,70,71] [(70,g 1 (t 6))] [(71,.un (.al 5) (t 9))] (.buildSlice 44 1 #[(0,a 71)]) 44 72 (p (w [70,72]) (.call ⟨.builtin .append,#[a 70,a 72],#[44,44]⟩) 44 73 (s [74] [] [(74,e 1 (t 6)),(73,t 73)] (.store 44 (a 74) (a 73)) z)))])))=>b);simp only[sh];rfl
def L.du.l1:LC:=by apply(fun{b:LC}(_:b=f 0 17 4 [13,14,15,16,17] [18,19,4] (j .lss (t 4) (h (g 1 (t 1)))) (.block 1 (q [.reg false (l [20,21,22,23,24] [(24,.un (.al 6) (i 6 (g 1 (t 1)) (t 4)))] [] (.alloc 48) 0 5 (s [] [] (w [5,24]) (.store 48 (a 5) (a 24)) z)),.reg false (p [] (.alloc 48) 0 6 z),q [k [7] [(7,c 0)],v 2 L.du.l2],q [k [8] [(8,c 0)],v 4 L.du.l3],.reg false (s [75,76,77] [] [(77,e 2 (t 6)),(76,.un (.al 4) (e 2 (t 5)))] (.store 46 (a 77) (a 76)) z),.reg false (p [] (.buildSlice 22 0 #[]) 22 78 (l [79,80,81] [] [(78,t 78),(81,g 1 (e 2 (t 5)))] (.call ⟨.builtin .append,#[a 78,a 81],#[22,22]⟩) 22 82 (s [83,84] [] [(84,e 1 (e 2 (t 6))),(82,t 82)] (.store 22 (a 84) (a 82)) z))),.reg false (p [] (.buildSlice 22 0 #[]) 22 85 (l [86,87,88] [] [(85,t 85),(88,g 2 (e 2 (t 5)))] (.call ⟨.builtin .append,#[a 85,a 88],#[22,22]⟩) 22 89 (s [90,91] [] [(91,e 2 (e 2 (t 6))),(89,t 89)] (.store 22 (a 91) (a 89)) z))),.reg false (l [92,93,94] [(93,g 1 (t 3))] [(94,.un (.al 6) (t 6))] (.buildSlice 26 1 #[(0,a 94)]) 26 95 (p (w [93,95]) (.call ⟨.builtin .append,#[a 93,a 95],#[26,26]⟩) 26 96 (s [97] [] [(97,e 1 (t 3)),(96,t 96)] (.store 26 (a 97) (a 96)) z)))])))=>b);simp only[sh];rfl
def L.du:LFn:=by apply(fun{b:LFn}(_:b=⟨[.un (.al 2) (t 2)],q [.reg false (p (w [0]) (.box 28 (a 0)) 0 1 (p [] (.alloc 28) 0 2 z)),.reg false (l [10,11] [] [(11,g 0 (t 1))] (.build 28 #[(0,a 11)]) 28 12 (p [] (.alloc 28) 0 3 (s [] [] (w [3,12]) (.store 28 (a 3) (a 12)) z))),q [k [4] [(4,c 0)],v 0 L.du.l1],.reg false (s [98] [] [(2,t 2),(98,.un (.al 2) (t 3))] (.store 28 (a 2) (a 98)) z),.ret]⟩)=>b);simp only[sh];rfl
theorem E.du:aX Tryz.prog Tryz.f61=some L.du:=by kernel_rfl
theorem F.du:Tryz.prog.funcs[N.du]? = some Tryz.f61:=Tryz.func61
abbrev N.dM:Nat:=62
def L.dM.l1:LC:=by apply(fun{b:LC}(_:b=f 0 12 8 [9,10,11,12] [13,14,8] (j .lss (t 8) (h (t 0))) (.block 1 (q [k [15,16,17,18,19,20] [(20,j .eql (d (i 1 (t 0) (t 8))) (t 1))],u 20 (.reg false (l [21,22] [(21,t 7)] [(22,t 2)] (.buildSlice 22 1 #[(0,a 22)]) 22 23 (p (w [21,23]) (.call ⟨.builtin .append,#[a 21,a 23],#[22,22]⟩) 22 24 (.fin [7] [(7,t 24)] [])))) (.reg false (l [25,26,27,28,29] [(25,t 7)] [(29,d (i 1 (t 0) (t 8)))] (.buildSlice 22 1 #[(0,a 29)]) 22 30 (p (w [25,30]) (.call ⟨.builtin .append,#[a 25,a 30],#[22,22]⟩) 22 31 (.fin [7] [(7,t 31)] []))))])))=>b);simp only[sh];rfl
def L.dM:LFn:=by apply(fun{b:LFn}(_:b=⟨[t 6],q [k [6] [(6,.con (.slice none 0 0))],k [7] [(7,.con (.slice none 0 0))],q [k [8] [(8,c 0)],v 0 L.dM.l1],k [32,6] [(6,t 7)],.ret]⟩)=>b);simp only[sh];rfl
theorem E.dM:aX Tryz.prog Tryz.f62=some L.dM:=by kernel_rfl
theorem F.dM:Tryz.prog.funcs[N.dM]? = some Tryz.f62:=Tryz.func62
abbrev N.cZ:Nat:=63
def L.cZ.l3:LC:=by apply(fun{b:LC}(_:b=f 4 24 8 [21,22,23,24] [25,26,8] (j .lss (t 8) (h (t 0))) (.block 5 (q [.reg true (.fin [27,28,29,30,31,32,33,34,35,36,37] [(37,j .lss (g 0 (i 2 (t 0) (t 8))) (g 0 (i 2 (t 0) (t 6))))] []),u 37 (k [38,39,7] [(7,o (t 7) (c 1))]) .skip])))=>b);simp only[sh];rfl
def L.cZ.l2:LC:=by apply(fun{b:LC}(_:b=f 2 18 6 [15,16,17,18] [19,20,6] (j .lss (t 6) (h (t 0))) (.block 3 (q [k [7] [(7,c 0)],q [k [8] [(8,c 0)],v 4 L.cZ.l3],k [40,41,42] [(42,j .eql (t 7) (t 4))],u 42 (k [43,5] [(5,t 6)]) .skip])))=>b);simp only[sh];rfl
def L.cZ.l1:LC:=by apply(fun{b:LC}(_:b=f 0 12 4 [9,10,11,12] [13,14,4] (j .lss (t 4) (h (t 0))) (.block 1 (q [k [5] [(5,c (-1))],q [k [6] [(6,c 0)],v 2 L.cZ.l2],k [44,45] [(45,j .geq (t 5) (c 0))],u 45 (.reg false (l [46,47,48,49,50] [(46,t 3)] [(50,.un (.al 2) (i 2 (t 0) (t 5)))] (.buildSlice 61 1 #[(0,a 50)]) 61 51 (p (w [46,51]) (.call ⟨.builtin .append,#[a 46,a 51],#[61,61]⟩) 61 52 (.fin [3] [(3,t 52)] [])))) .skip])))=>b);simp only[sh];rfl
def L.cZ:LFn:=by apply(fun{b:LFn}(_:b=⟨[t 2],q [k [2] [(2,.con (.slice none 0 0))],k [3] [(3,.con (.slice none 0 0))],q [k [4] [(4,c 0)],v 0 L.cZ.l1],k [53,2] [(2,t 3)],.ret]⟩)=>b);simp only[sh];rfl
theorem E.cZ:aX Tryz.prog Tryz.f63=some L.cZ:=by kernel_rfl
theorem F.cZ:Tryz.prog.funcs[N.cZ]? = some Tryz.f63:=Tryz.func63
abbrev N.cG:Nat:=64
def L.cG:LFn:=by apply(fun{b:LFn}(_:b=⟨[],q [.reg false (p [] (.call ⟨.builtin .recover,#[],#[]⟩) 20 6 z),.block 0 (q [.reg false (p (w [6]) (.binOp .eql 20 (a 6) (.const .nilIface) 20) 4 8 z),u 8 (.reg false (.fin [3] [] [t 6])) (q [.reg false (p (w [6]) (.typeAssert (a 6) 20 129 true) 0 9 (.fin [10,11] [(10,.un (.ext 1) (t 9)),(11,.un (.ext 0) (t 9))] [])),u 10 (q [.reg false (p [] (.alloc 129) 0 4 (s [] [] (w [4,11]) (.store 129 (a 4) (a 11)) z)),.reg true (s [12,13,14,15,16,17] [(15,g 1 (t 4)),(17,g 2 (t 4))] [(0,t 0),(13,g 0 (t 4))] (.store 34 (a 0) (a 13)) (s [] [] (w [1,15]) (.store 3 (a 1) (a 15)) (.loud [] [] (w [2,17]) none [] true (.store 3 (a 2) (a 17)) 0 none false z)))]) (q [k [5] [(5,t 6)],.reg false (s [7] [] [(7,t 5)] (.panic (a 7)) z)])])])]⟩)=>b);simp only[sh];rfl
theorem F.cG:Tryz.prog.funcs[N.cG]? = some Tryz.f64:=Tryz.func64
theorem Q.cG:Tryz.f64.body=some (.seq (.region (IB (yE Tryz.f64)) #[Jt Tryz.f64 0] false) (IC Tryz.f64)):=by kernel_rfl
theorem E.oT:fL Tryz.prog Tryz.f64.ntmps (jq Tryz.f64) (Fk Tryz.f64) false (IC Tryz.f64)=some L.cG.body.tail:=by kernel_rfl
abbrev N.fI:Nat:=65
def L.fI:LFn:=by apply(fun{b:LFn}(_:b=⟨[],q [k [8,9] [(9,.un .not (t 0))],u 9 (.reg false (l [10,11,12] [] [(10,t 1),(11,t 2),(12,t 3)] (.build 129 #[(0,a 10),(1,a 11),(2,a 12)]) 129 13 (p (w [13]) (.makeInterface 129 (a 13)) 20 14 (s [] [] (w [14]) (.panic (a 14)) z)))) .skip]⟩)=>b);simp only[sh];rfl
theorem E.fI:aX Tryz.prog Tryz.f65=some L.fI:=by kernel_rfl
theorem F.fI:Tryz.prog.funcs[N.fI]? = some Tryz.f65:=Tryz.func65
abbrev N.fu:Nat:=66
def L.fu:LFn:=by apply(fun{b:LFn}(_:b=⟨[t 6],q [k [6] [(6,.con (.bool false))],k [7,8,9,10,11,12,13,14,6] [(6,.ite (j .geq (t 0) (t 1)) (j .leq (t 0) (t 2)) (.con (.bool false)))],.ret]⟩)=>b);simp only[sh];rfl
theorem E.fu:aX Tryz.prog Tryz.f66=some L.fu:=by kernel_rfl
theorem F.fu:Tryz.prog.funcs[N.fu]? = some Tryz.f66:=Tryz.func66
abbrev N.aV:Nat:=67
def L.aV.l2:LC:=by apply(fun{b:LC}(_:b=q [k [29] [(29,j .lss (t 28) (t 27))],u 29 .skip (.exit 2),.block 3 (q [.reg false (l [30,31,32] [(30,t 28),(32,.un (.al 2) (i 2 (t 26) (t 28)))] [] (.alloc 63) 0 5 (s [4] [(4,t 30)] (w [5,32]) (.store 63 (a 5) (a 32)) z)),.reg false (l [33,34,35] [(33,t 0)] [(35,g 0 (t 5))] (.buildSlice 22 1 #[(0,a 35)]) 22 36 (.loud [37,38,39] [] [(33,t 33),(36,t 36),(37,t 2),(39,.bin (.arith .sub) (c (-1)) (t 4))] none [] false (x 99 [33,36,37,39] [132,22,3,3]) 0 (some 40) false z))]),k [41,28] [(28,o (t 28) (c 1))]])=>b);simp only[sh];rfl
def L.aV.l3:LC:=by apply(fun{b:LC}(_:b=q [k [46] [(46,j .lss (t 45) (t 44))],u 46 .skip (.exit 4),.block 5 (q [.reg false (l [47,48,49] [(47,t 45),(49,.un (.al 5) (i 5 (t 43) (t 45)))] [] (.alloc 78) 0 7 (s [6] [(6,t 47)] (w [7,49]) (.store 78 (a 7) (a 49)) z)),.reg false (l [50,51] [] [(51,g 0 (t 7))] (.call ⟨.value (.func 66),#[a 51,.const (.int .i64 1),.const (.int .i64 18)],#[3,3,3]⟩) 4 52 (.loud [53,54] [] [(52,t 52),(53,t 2),(54,t 6)] none [] false (.call ⟨.value (.func 65),#[a 52,.const (.int .i64 10),a 53,a 54],#[4,34,3,3]⟩) 0 (some 55) false z)),.reg false (l [57,58] [] [(58,g 0 (t 7))] (x 100 [58] [3]) 167 59 (.fin [56,60,61,8,9] [(8,.un (.ext 0) (t 59)),(9,.un (.ext 1) (t 59))] [])),.reg false (l [62,63,64,65,66] [] [(64,h (g 3 (t 7))),(65,t 8),(66,t 9)] (x 66 [64,65,66] [3,3,3]) 4 67 (.loud [68,69] [] [(67,t 67),(68,t 2),(69,t 6)] none [] false (.call ⟨.value (.func 65),#[a 67,.const (.int .i64 10),a 68,a 69],#[4,34,3,3]⟩) 0 (some 70) false z)),.reg false (l [71,72] [(71,t 0)] [(72,.un (.al 5) (t 7))] (x 101 [72] [78]) 22 73 (.loud [74,75] [] [(71,t 71),(73,t 73),(74,t 2),(75,t 6)] none [] false (x 99 [71,73,74,75] [132,22,3,3]) 0 (some 76) false z))]),k [77,45] [(45,o (t 45) (c 1))]])=>b);simp only[sh];rfl
def L.aV.l4:LC:=by apply(fun{b:LC}(_:b=q [k [119] [(119,j .lss (t 118) (t 117))],u 119 .skip (.exit 6),.block 7 (q [k [120,121,13] [(13,d (i 1 (t 116) (t 118)))],.reg true (l [122,123,124,125,126,127,128,129,131,132,133,134] [(131,t 2),(134,h (g 1 (t 3)))] [(122,t 13),(129,.bin (.arith .sub) (h (g 1 (e 0 (.un .nilPtr (t 0))))) (c 1))] (.call ⟨.value (.func 66),#[a 122,.const (.int .i64 1),a 129],#[3,3,3]⟩) 4 130 (.loud [] [] (w [130,131,134]) none [] true (.call ⟨.value (.func 65),#[a 130,.const (.int .i64 14),a 131,a 134],#[4,34,3,3]⟩) 0 (some 135) false z))]),k [136,118] [(118,o (t 118) (c 1))]])=>b);simp only[sh];rfl
def L.aV.l1:LC:=by apply(fun{b:LC}(_:b=q [k [21] [(21,j .lss (t 20) (t 19))],u 21 .skip (.exit 0),.block 1 (q [.reg false (l [22,23,24] [(22,t 20),(24,.un (.al 6) (i 6 (t 18) (t 20)))] [] (.alloc 48) 0 3 (s [2] [(2,t 22)] (w [3,24]) (.store 48 (a 3) (a 24)) z)),q [k [25,26,27,28] [(26,g 0 (t 3)),(27,h (g 0 (t 3))),(28,c 0)],v 2 L.aV.l2],q [k [42,43,44,45] [(43,g 1 (t 3)),(44,h (g 1 (t 3))),(45,c 0)],v 4 L.aV.l3],.reg true (.both (l [80,81,82] [(82,g 0 (e 2 (t 3)))] [] (x 102 [] []) 172 79 (.both (.loud [] [] (w [79,82]) none [] true (.lookup 172 (a 79) (a 82) true) 171 (some 83) true (l [78,84,85] [(84,.un (.ext 0) (t 83)),(85,.un (.ext 1) (t 83))] [] (.alloc 170) 0 10 (s [] [] (w [10,84]) (.store 170 (a 10) (a 84)) (.fin [11] [(11,t 85)] [])))) (p [] (.alloc 170) 0 10 (.loud [] [] (w [79,82]) none [] true (.lookup 172 (a 79) (a 82) true) 171 (some 83) true (s [78,84,85] [(85,.un (.ext 1) (t 83))] [(10,t 10),(84,.un (.ext 0) (t 83))] (.store 170 (a 10) (a 84)) (.fin [11] [(11,t 85)] [])))))) (l [80,81,82] [(82,g 0 (e 2 (t 3)))] [] (.alloc 170) 0 10 (p [] (x 102 [] []) 172 79 (.loud [] [] (w [79,82]) none [] true (.lookup 172 (a 79) (a 82) true) 171 (some 83) true (s [78,84,85] [(85,.un (.ext 1) (t 83))] [(10,t 10),(84,.un (.ext 0) (t 83))] (.store 170 (a 10) (a 84)) (.fin [11] [(11,t 85)] [])))))),.reg true (.loud [86,87,88,89,90,91,92,93,94,95,109,110,111,112] [(87,t 11),(109,t 2),(112,h (g 1 (t 3)))] [(91,.gd (t 11) true (h (g 1 (e 2 (t 3))))),(93,.gd (t 11) true (g 0 (t 10))),(95,.gd (t 11) true (g 1 (t 10)))] (some (t 11,true)) [] false (x 66 [91,93,95] [3,3,3]) 4 (some 96) true (.loud [97,98,99,100,101,102,103,104,105,106] [(98,.ite (t 87) (t 96) (.con (.bool false)))] [(102,.gd (.ite (t 87) (t 96) (.con (.bool false))) true (h (g 2 (e 2 (t 3))))),(104,.gd (.ite (t 87) (t 96) (.con (.bool false))) true (g 2 (t 10))),(106,.gd (.ite (t 87) (t 96) (.con (.bool false))) true (g 3 (t 10)))] (some (.ite (t 87) (t 96) (.con (.bool false)),true)) [] false (x 66 [102,104,106] [3,3,3]) 4 (some 107) true (.loud [108] [] [(108,.ite (t 98) (t 107) (.con (.bool false))),(109,t 109),(112,t 112)] none [] true (.call ⟨.value (.func 65),#[a 108,.const (.int .i64 10),a 109,a 112],#[4,34,3,3]⟩) 0 (some 113) false z))),k [114,115,116,117,118] [(116,g 2 (e 2 (t 3))),(117,h (g 2 (e 2 (t 3)))),(118,c 0)],v 6 L.aV.l4]),k [137,20] [(20,o (t 20) (c 1))]])=>b);simp only[sh];rfl
def L.aV:LFn:=by apply(fun{b:LFn}(_:b=⟨[],q [k [14,15,16,17,18,19,20] [(18,g 1 (e 0 (.un .nilPtr (t 0)))),(19,h (g 1 (e 0 (.un .nilPtr (t 0))))),(20,c 0)],v 0 L.aV.l1]⟩)=>b);simp only[sh];rfl
theorem E.aV:aX Tryz.prog Tryz.f67=some L.aV:=by kernel_rfl
theorem F.aV:Tryz.prog.funcs[N.aV]? = some Tryz.f67:=Tryz.func67
end
section
set_option maxRecDepth 100000
abbrev N.aD:Nat:=68
def L.aD.l1:LC:=by apply(fun{b:LC}(_:b=q [k [37] [(37,j .lss (t 36) (t 35))],u 37 .skip (.exit 0),.block 1 (q [k [38,4] [(4,t 36)],.reg false (l [39,40] [] [(39,t 3),(40,t 4)] (x 104 [39,40] [22,3]) 4 41 (.loud [42] [] [(41,t 41),(42,t 4)] none [] false (.call ⟨.value (.func 65),#[a 41,.const (.int .i64 15),a 42,.const (.int .i64 0)],#[4,34,3,3]⟩) 0 (some 43) false z))]),k [44,36] [(36,o (t 36) (c 1))]])=>b);simp only[sh];rfl
def L.aD.l4:LC:=by apply(fun{b:LC}(_:b=q [k [86] [(86,j .lss (t 85) (t 84))],u 86 .skip (.exit 6),.block 7 (q [.reg false (l [87,88,89] [(87,t 85),(89,.un (.al 2) (i 2 (t 83) (t 85)))] [] (.alloc 65) 0 14 (s [13] [(13,t 87)] (w [14,89]) (.store 65 (a 14) (a 89)) z)),.reg true (.fin [90,91,92,93,94,95,96,97,98,99,100,101,102,12] [(12,.ite (t 12) (j .eql (g 0 (t 14)) (d (i 1 (d (i 1 (t 5) (t 8))) (t 13)))) (.con (.bool false)))] [])]),k [103,85] [(85,o (t 85) (c 1))]])=>b);simp only[sh];rfl
def L.aD.l5:LC:=by apply(fun{b:LC}(_:b=q [k [113] [(113,j .lss (t 112) (t 111))],u 113 .skip (.exit 8),.block 9 (q [.reg false (l [114,115] [(115,.un (.al 2) (i 2 (t 110) (t 112)))] [] (.alloc 65) 0 16 (s [] [] (w [16,115]) (.store 65 (a 16) (a 115)) z)),.reg true (.loud [116,117,118,119,120,121,122,123,124,125,126,127,128,129,130,131,132,133,134] [] [(116,t 7),(118,g 1 (t 16)),(120,g 0 (t 16)),(122,.bin (.arith .sub) (c (-1)) (t 10)),(133,h (g 1 (i 6 (g 1 (e 0 (.un .nilPtr (d (t 1))))) (g 0 (t 16))))),(134,t 8)] none [] true (.call ⟨.value (a 116),#[a 118,a 120,a 122,a 133,a 134],#[3,3,3,3,3]⟩) 0 (some 135) false z)]),k [136,112] [(112,o (t 112) (c 1))]])=>b);simp only[sh];rfl
def L.aD.l3:LC:=by apply(fun{b:LC}(_:b=q [k [65] [(65,j .lss (t 64) (t 63))],u 65 .skip (.exit 4),.block 5 (q [.reg false (l [66,67,68] [(66,t 64),(68,.un (.al 2) (i 2 (t 62) (t 64)))] [] (.alloc 63) 0 11 (s [10] [(10,t 66)] (w [11,68]) (.store 63 (a 11) (a 68)) z)),.reg true (.fin [69,70,71,72,73,74,75,76,77,78,79,80,81,12] [(12,.ite (j .gtr (t 8) (c 0)) (j .eql (h (g 1 (t 11))) (h (d (i 1 (t 5) (t 8))))) (.con (.bool false)))] []),q [k [82,83,84,85] [(83,g 1 (t 11)),(84,h (g 1 (t 11))),(85,c 0)],v 6 L.aD.l4],.reg false (.loud [104,105,106,107] [] [(104,t 12),(105,t 8),(107,.bin (.arith .sub) (c (-1)) (t 10))] none [] false (.call ⟨.value (.func 65),#[a 104,.const (.int .i64 16),a 105,a 107],#[4,34,3,3]⟩) 0 (some 108) false z),k [109,110,111,112] [(110,g 1 (t 11)),(111,h (g 1 (t 11))),(112,c 0)],v 8 L.aD.l5]),k [137,64] [(64,o (t 64) (c 1))]])=>b);simp only[sh];rfl
def L.aD.l7:LC:=by apply(fun{b:LC}(_:b=q [k [150] [(150,j .lss (t 149) (t 148))],u 150 .skip (.exit 12),.block 13 (q [k [151,152,20] [(20,d (i 1 (t 147) (t 149)))],.reg false (.loud [153,154,155,156,157,158] [] [(153,t 7),(154,t 20),(155,t 8),(156,t 17),(157,t 17),(158,t 8)] none [] false (.call ⟨.value (a 153),#[a 154,a 155,a 156,a 157,a 158],#[3,3,3,3,3]⟩) 0 (some 159) false z)]),k [160,149] [(149,o (t 149) (c 1))]])=>b);simp only[sh];rfl
def L.aD.l6:LC:=by apply(fun{b:LC}(_:b=q [k [142] [(142,j .lss (t 141) (t 140))],u 142 .skip (.exit 10),.block 11 (q [.reg false (l [143,144,145] [(143,t 141),(145,.un (.al 5) (i 5 (t 139) (t 141)))] [] (.alloc 78) 0 18 (s [17] [(17,t 143)] (w [18,145]) (.store 78 (a 18) (a 145)) z)),k [146,147,148,149] [(147,g 3 (t 18)),(148,h (g 3 (t 18))),(149,c 0)],v 12 L.aD.l7]),k [161,141] [(141,o (t 141) (c 1))]])=>b);simp only[sh];rfl
def L.aD.l8:LC:=by apply(fun{b:LC}(_:b=q [k [167] [(167,j .lss (t 166) (t 165))],u 167 .skip (.exit 14),.block 15 (q [k [168,169,22] [(22,d (i 1 (t 164) (t 166)))],.reg false (.loud [170,171,172,173,174,175,176,177,178,179] [] [(170,t 7),(171,t 22),(172,t 8),(175,h (g 1 (t 9))),(178,h (g 1 (t 9))),(179,t 8)] none [] false (.call ⟨.value (a 170),#[a 171,a 172,a 175,a 178,a 179],#[3,3,3,3,3]⟩) 0 (some 180) false z)]),k [181,166] [(166,o (t 166) (c 1))]])=>b);simp only[sh];rfl
def L.aD.l2:LC:=by apply(fun{b:LC}(_:b=q [k [57] [(57,j .lss (t 56) (t 55))],u 57 .skip (.exit 2),.block 3 (q [.reg false (l [58,59,60] [(58,t 56),(60,.un (.al 6) (i 6 (t 54) (t 56)))] [] (.alloc 48) 0 9 (s [8] [(8,t 58)] (w [9,60]) (.store 48 (a 9) (a 60)) z)),q [k [61,62,63,64] [(62,g 0 (t 9)),(63,h (g 0 (t 9))),(64,c 0)],v 4 L.aD.l3],q [k [138,139,140,141] [(139,g 1 (t 9)),(140,h (g 1 (t 9))),(141,c 0)],v 10 L.aD.l6],k [162,163,164,165,166] [(164,g 1 (e 2 (t 9))),(165,h (g 1 (e 2 (t 9)))),(166,c 0)],v 14 L.aD.l8]),k [182,56] [(56,o (t 56) (c 1))]])=>b);simp only[sh];rfl
def L.aD:LFn:=by apply(fun{b:LFn}(_:b=⟨[],q [.reg false (p (w [0]) (.box 132 (a 0)) 0 1 z),.reg false (l [23,24,25,26] [] [(26,.un (.al 2) (e 0 (.un .nilPtr (d (t 1)))))] (x 18 [26] [28]) 40 27 (.fin [2] [(2,t 27)] [])),.reg false (l [28] [] [(28,t 2)] (x 103 [28] [40]) 22 29 (.fin [3] [(3,t 29)] [])),q [k [30,31,32,33,34,35,36] [(35,h (g 1 (e 0 (.un .nilPtr (d (t 1)))))),(36,c 0)],v 0 L.aD.l1],.reg false (l [45] [] [(45,t 2)] (x 44 [45] [40]) 40 46 (l [47] [] [(47,t 2)] (x 105 [47] [40]) 22 48 (p [] (.alloc 22) 0 6 (s [5] [(5,t 46)] (w [6,48]) (.store 22 (a 6) (a 48)) z)))),k [49,7] [(7,.un (.fn 106) (.snoc (.snoc (.con (.tuple #[])) (t 1)) (t 6)))],k [50,51,52,53,54,55,56] [(54,g 1 (e 0 (.un .nilPtr (d (t 1))))),(55,h (g 1 (e 0 (.un .nilPtr (d (t 1)))))),(56,c 0)],v 2 L.aD.l2]⟩)=>b);simp only[sh];rfl
theorem E.aD:aX Tryz.prog Tryz.f68=some L.aD:=by kernel_rfl
theorem F.aD:Tryz.prog.funcs[N.aD]? = some Tryz.f68:=Tryz.func68
abbrev N.bP:Nat:=69
def L.bP.l1:LC:=by apply(fun{b:LC}(_:b=q [k [11] [(11,j .lss (t 10) (t 9))],u 11 .skip (.exit 0),.block 1 (q [.reg false (l [12,13] [(13,.un (.al 6) (i 6 (t 8) (t 10)))] [] (.alloc 48) 0 7 (s [] [] (w [7,13]) (.store 48 (a 7) (a 13)) z)),.reg false (l [14,15,16] [(14,t 5)] [(15,t 1),(16,.un (.al 6) (t 7))] (.call ⟨.value (a 15),#[a 16],#[48]⟩) 48 17 (p (w [17]) (.buildSlice 26 1 #[(0,a 17)]) 26 18 (p (w [14,18]) (.call ⟨.builtin .append,#[a 14,a 18],#[26,26]⟩) 26 19 (.fin [5] [(5,t 19)] []))))]),k [20,10] [(10,o (t 10) (c 1))]])=>b);simp only[sh];rfl
def L.bP:LFn:=by apply(fun{b:LFn}(_:b=⟨[t 4],q [k [4] [(4,.con (.slice none 0 0))],k [5] [(5,.con (.slice none 0 0))],q [k [8,9,10] [(8,t 0),(9,h (t 0)),(10,c 0)],v 0 L.bP.l1],k [21,4] [(4,t 5)],.ret]⟩)=>b);simp only[sh];rfl
theorem E.bP:aX Tryz.prog Tryz.f69=some L.bP:=by kernel_rfl
theorem F.bP:Tryz.prog.funcs[N.bP]? = some Tryz.f69:=Tryz.func69
abbrev N.eL:Nat:=70
def L.eL:LFn:=by apply(fun{b:LFn}(_:b=⟨[.un (.al 6) (t 2)],q [.reg false (p (w [0]) (.box 48 (a 0)) 0 1 (p [] (.alloc 48) 0 2 z)),.reg false (l [3,4] [] [(4,g 0 (t 1))] (.call ⟨.value (.func 71),#[a 4,.func 72],#[43,138]⟩) 43 5 (s [6] [] [(6,e 0 (t 1)),(5,t 5)] (.store 43 (a 6) (a 5)) z)),.reg false (l [7,8] [] [(8,g 1 (t 1))] (.call ⟨.value (.func 74),#[a 8,.func 75],#[44,140]⟩) 44 9 (s [10] [] [(10,e 1 (t 1)),(9,t 9)] (.store 44 (a 10) (a 9)) z)),.reg true (l [11,12,13,15,16,17] [(17,g 2 (e 2 (t 1)))] [(13,g 1 (e 2 (t 1)))] (x 76 [13] [22]) 22 14 (.loud [19,20] [(20,e 1 (e 2 (t 1)))] (w [17]) none [] true (x 76 [17] [22]) 22 (some 18) true (s [] [] (w [20,14]) (.store 22 (a 20) (a 14)) (s [21,22] [] [(22,e 2 (e 2 (t 1))),(18,t 18)] (.store 22 (a 22) (a 18)) z)))),.reg false (s [23] [] [(2,t 2),(23,.un (.al 6) (t 1))] (.store 48 (a 2) (a 23)) z),.ret]⟩)=>b);simp only[sh];rfl
theorem E.eL:aX Tryz.prog Tryz.f70=some L.eL:=by kernel_rfl
theorem F.eL:Tryz.prog.funcs[N.eL]? = some Tryz.f70:=Tryz.func70
abbrev N.cH:Nat:=71
def L.cH.l1:LC:=by apply(fun{b:LC}(_:b=q [k [11] [(11,j .lss (t 10) (t 9))],u 11 .skip (.exit 0),.block 1 (q [.reg false (l [12,13] [(13,.un (.al 2) (i 2 (t 8) (t 10)))] [] (.alloc 63) 0 7 (s [] [] (w [7,13]) (.store 63 (a 7) (a 13)) z)),.reg false (l [14,15,16] [(14,t 5)] [(15,t 1),(16,.un (.al 2) (t 7))] (.call ⟨.value (a 15),#[a 16],#[63]⟩) 63 17 (p (w [17]) (.buildSlice 43 1 #[(0,a 17)]) 43 18 (p (w [14,18]) (.call ⟨.builtin .append,#[a 14,a 18],#[43,43]⟩) 43 19 (.fin [5] [(5,t 19)] []))))]),k [20,10] [(10,o (t 10) (c 1))]])=>b);simp only[sh];rfl
def L.cH:LFn:=by apply(fun{b:LFn}(_:b=⟨[t 4],q [k [4] [(4,.con (.slice none 0 0))],k [5] [(5,.con (.slice none 0 0))],q [k [8,9,10] [(8,t 0),(9,h (t 0)),(10,c 0)],v 0 L.cH.l1],k [21,4] [(4,t 5)],.ret]⟩)=>b);simp only[sh];rfl
theorem E.cH:aX Tryz.prog Tryz.f71=some L.cH:=by kernel_rfl
theorem F.cH:Tryz.prog.funcs[N.cH]? = some Tryz.f71:=Tryz.func71
abbrev N.dz:Nat:=72
def L.dz:LFn:=by apply(fun{b:LFn}(_:b=⟨[.un (.al 2) (t 2)],q [.reg false (p (w [0]) (.box 63 (a 0)) 0 1 (p [] (.alloc 63) 0 2 z)),.reg false (l [3,4] [] [(4,g 1 (t 1))] (x 73 [4] [61]) 61 5 (s [6] [] [(6,e 1 (t 1)),(5,t 5)] (.store 61 (a 6) (a 5)) z)),.reg false (s [7] [] [(2,t 2),(7,.un (.al 2) (t 1))] (.store 63 (a 2) (a 7)) z),.ret]⟩)=>b);simp only[sh];rfl
theorem E.dz:aX Tryz.prog Tryz.f72=some L.dz:=by kernel_rfl
theorem F.dz:Tryz.prog.funcs[N.dz]? = some Tryz.f72:=Tryz.func72
abbrev N.dQ:Nat:=73
def L.dQ:LFn:=by apply(fun{b:LFn}(_:b=⟨[t 2],q [k [2] [(2,.con (.slice none 0 0))],q [.reg false (l [3] [] [(3,t 0)] (.binOp .eql 61 (a 3) (.const (.slice none 0 0)) 61) 4 4 z),u 4 (q [k [2] [(2,.con (.slice none 0 0))],.ret]) .skip],.reg false (p [] (.buildSlice 61 0 #[]) 61 5 (l [6] [] [(5,t 5),(6,t 0)] (.call ⟨.builtin .append,#[a 5,a 6],#[61,61]⟩) 61 7 (.fin [2] [(2,t 7)] []))),.ret]⟩)=>b);simp only[sh];rfl
theorem E.dQ:aX Tryz.prog Tryz.f73=some L.dQ:=by kernel_rfl
theorem F.dQ:Tryz.prog.funcs[N.dQ]? = some Tryz.f73:=Tryz.func73
abbrev N.cI:Nat:=74
def L.cI.l1:LC:=by apply(fun{b:LC}(_:b=q [k [11] [(11,j .lss (t 10) (t 9))],u 11 .skip (.exit 0),.block 1 (q [.reg false (l [12,13] [(13,.un (.al 5) (i 5 (t 8) (t 10)))] [] (.alloc 78) 0 7 (s [] [] (w [7,13]) (.store 78 (a 7) (a 13)) z)),.reg false (l [14,15,16] [(14,t 5)] [(15,t 1),(16,.un (.al 5) (t 7))] (.call ⟨.value (a 15),#[a 16],#[78]⟩) 78 17 (p (w [17]) (.buildSlice 44 1 #[(0,a 17)]) 44 18 (p (w [14,18]) (.call ⟨.builtin .append,#[a 14,a 18],#[44,44]⟩) 44 19 (.fin [5] [(5,t 19)] []))))]),k [20,10] [(10,o (t 10) (c 1))]])=>b);simp only[sh];rfl
def L.cI:LFn:=by apply(fun{b:LFn}(_:b=⟨[t 4],q [k [4] [(4,.con (.slice none 0 0))],k [5] [(5,.con (.slice none 0 0))],q [k [8,9,10] [(8,t 0),(9,h (t 0)),(10,c 0)],v 0 L.cI.l1],k [21,4] [(4,t 5)],.ret]⟩)=>b);simp only[sh];rfl
theorem E.cI:aX Tryz.prog Tryz.f74=some L.cI:=by kernel_rfl
theorem F.cI:Tryz.prog.funcs[N.cI]? = some Tryz.f74:=Tryz.func74
abbrev N.dB:Nat:=75
def L.dB:LFn:=by apply(fun{b:LFn}(_:b=⟨[.un (.al 5) (t 2)],q [.reg false (p (w [0]) (.box 78 (a 0)) 0 1 (p [] (.alloc 78) 0 2 z)),.reg false (l [3,4] [] [(4,g 3 (t 1))] (x 76 [4] [22]) 22 5 (s [6] [] [(6,e 3 (t 1)),(5,t 5)] (.store 22 (a 6) (a 5)) z)),.reg false (s [7] [] [(2,t 2),(7,.un (.al 5) (t 1))] (.store 78 (a 2) (a 7)) z),.ret]⟩)=>b);simp only[sh];rfl
theorem E.dB:aX Tryz.prog Tryz.f75=some L.dB:=by kernel_rfl
theorem F.dB:Tryz.prog.funcs[N.dB]? = some Tryz.f75:=Tryz.func75
abbrev N.dD:Nat:=76
def L.dD:LFn:=by apply(fun{b:LFn}(_:b=⟨[t 2],q [k [2] [(2,.con (.slice none 0 0))],q [.reg false (l [3] [] [(3,t 0)] (.binOp .eql 22 (a 3) (.const (.slice none 0 0)) 22) 4 4 z),u 4 (q [k [2] [(2,.con (.slice none 0 0))],.ret]) .skip],.reg false (p [] (.buildSlice 22 0 #[]) 22 5 (l [6] [] [(5,t 5),(6,t 0)] (.call ⟨.builtin .append,#[a 5,a 6],#[22,22]⟩) 22 7 (.fin [2] [(2,t 7)] []))),.ret]⟩)=>b);simp only[sh];rfl
theorem E.dD:aX Tryz.prog Tryz.f76=some L.dD:=by kernel_rfl
theorem F.dD:Tryz.prog.funcs[N.dD]? = some Tryz.f76:=Tryz.func76
abbrev N.aW:Nat:=77
def L.aW.l1:LC:=by apply(fun{b:LC}(_:b=.block 1 (q [k [21,22,23,12] [(12,.bin (.arith .sub) (t 2) (t 1))],q [k [24,25] [(25,j .leq (t 12) (c 12))],u 25 (q [.reg false (.loud [26,27,28,29] [] [(26,t 0),(27,t 1),(28,t 2),(29,t 4)] none [] false (x 108 [26,27,28,29] [61,3,3,94]) 0 (some 30) false z),.ret]) .skip],q [k [31,32] [(32,j .eql (t 3) (c 0))],u 32 (q [.reg false (.loud [33,34,35,36] [] [(33,t 0),(34,t 1),(35,t 2),(36,t 4)] none [] false (x 109 [33,34,35,36] [61,3,3,94]) 0 (some 37) false z),.ret]) .skip],q [k [38,39] [(39,.un .not (t 10))],u 39 (q [.reg false (.loud [40,41,42,43] [] [(40,t 0),(41,t 1),(42,t 2),(43,t 4)] none [] false (x 110 [40,41,42,43] [61,3,3,94]) 0 (some 44) false z),k [45,46,3] [(3,.bin (.arith .sub) (t 3) (c 1))]]) .skip],.reg false (l [48,49,50,51] [] [(48,t 0),(49,t 1),(50,t 2),(51,t 4)] (x 111 [48,49,50,51] [61,3,3,94]) 183 52 (.fin [47,53,54,13,14] [(13,.un (.ext 0) (t 52)),(14,.un (.ext 1) (t 52))] [])),q [k [55,56] [(56,j .eql (t 14) (c 2))],u 56 (q [.reg false (.loud [57,58,59,60] [] [(57,t 0),(58,t 1),(59,t 2),(60,t 4)] none [] false (x 112 [57,58,59,60] [61,3,3,94]) 0 (some 61) false z),k [62,63,64,65,66,67,13] [(13,.bin (.arith .sub) (.bin (.arith .sub) (t 2) (c 1)) (.bin (.arith .sub) (t 13) (t 1)))],k [14] [(14,c 1)]]) .skip],q [k [68,69,70,71,72,73,74,75] [(75,.ite (.ite (t 10) (t 11) (.con (.bool false))) (j .eql (t 14) (c 1)) (.con (.bool false)))],u 75 (q [.reg false (l [76,77,78,79] [] [(76,t 0),(77,t 1),(78,t 2),(79,t 4)] (x 113 [76,77,78,79] [61,3,3,94]) 4 80 z),u 80 .ret .skip]) .skip],q [.reg true (.loud [81,82,83,84,85,86,87,88,89,90,91,92,93] [(83,j .gtr (t 1) (c 0))] [(84,.gd (j .gtr (t 1) (c 0)) true (t 4)),(89,.gd (j .gtr (t 1) (c 0)) true (.un (.al 2) (i 2 (t 0) (.bin (.arith .sub) (t 1) (c 1))))),(93,.gd (j .gtr (t 1) (c 0)) true (.un (.al 2) (i 2 (t 0) (t 13))))] (some (j .gtr (t 1) (c 0),true)) [] false (.call ⟨.value (a 84),#[a 89,a 93],#[65,65]⟩) 3 (some 94) true (.fin [95,96,97] [(97,.ite (t 83) (.un .not (j .lss (t 94) (c 0))) (.con (.bool false)))] [])),u 97 (q [.reg false (l [98,99,100,101,102] [] [(98,t 0),(99,t 1),(100,t 2),(101,t 13),(102,t 4)] (x 114 [98,99,100,101,102] [61,3,3,3,94]) 3 103 (.fin [15] [(15,t 103)] [])),k [104,1] [(1,t 15)],.exit 1]) .skip],.reg false (l [106,107,108,109,110] [] [(106,t 0),(107,t 1),(108,t 2),(109,t 13),(110,t 4)] (x 115 [106,107,108,109,110] [61,3,3,3,94]) 92 111 (.fin [105,112,113,16,17] [(16,.un (.ext 0) (t 111)),(17,.un (.ext 1) (t 111))] [])),k [114,11] [(11,t 17)],k [115,116,117,118,119,120,18,19] [(18,.bin (.arith .sub) (t 16) (t 1)),(19,.bin (.arith .sub) (t 2) (t 16))],k [121,122,20] [(20,.bin (.div .quo) (t 12) (c 8))],k [123,124,125] [(125,j .lss (t 18) (t 19))],u 125 (q [k [126,127,128,10] [(10,j .geq (t 18) (t 20))],.reg false (.loud [129,130,131,132,133] [] [(129,t 0),(130,t 1),(131,t 16),(132,t 3),(133,t 4)] none [] false (x 77 [129,130,131,132,133] [61,3,3,3,94]) 0 (some 134) false z),k [135,136,1] [(1,o (t 16) (c 1))]]) (q [k [137,138,139,10] [(10,j .geq (t 19) (t 20))],.reg false (.loud [140,141,142,143,144,145] [] [(140,t 0),(142,o (t 16) (c 1)),(143,t 2),(144,t 3),(145,t 4)] none [] false (x 77 [140,142,143,144,145] [61,3,3,3,94]) 0 (some 146) false z),k [147,2] [(2,t 16)]])]))=>b);simp only[sh];rfl
def L.aW:LFn:=by apply(fun{b:LFn}(_:b=⟨[],q [k [10] [(10,.con (.bool true))],k [11] [(11,.con (.bool true))],v 0 L.aW.l1]⟩)=>b);simp only[sh];rfl
theorem E.aW:aX Tryz.prog Tryz.f77=some L.aW:=by kernel_rfl
theorem F.aW:Tryz.prog.funcs[N.aW]? = some Tryz.f77:=Tryz.func77
abbrev N.wX:Nat:=78
abbrev N.dF:Nat:=79
def L.dF.l1:LC:=by apply(fun{b:LC}(_:b=q [q [k [12,13,14,15,16] [(16,.ite (t 5) (.con (.bool true)) (j .gtr (t 4) (c 0)))],u 16 .skip (.exit 0)],.block 1 (q [k [17,18,6] [(6,.bin (.div .rem) (t 4) (c 10))],q [k [19,20] [(20,j .lss (t 6) (c 0))],u 20 (k [21,22,6] [(6,.bin (.arith .sub) (c 0) (t 6))]) .skip],.reg false (l [23,24,25] [] [(25,.un (.conv .u8) (o (c 48) (t 6)))] (.buildSlice 191 1 #[(0,a 25)]) 191 26 (p (w [26]) (.convert 191 9 (a 26)) 9 27 (.fin [28,29,3] [(3,.bin .cat (t 27) (t 3))] []))),k [30,31,4] [(4,.bin (.div .quo) (t 4) (c 10))]]),k [5] [(5,.con (.bool false))]])=>b);simp only[sh];rfl
def L.dF:LFn:=by apply(fun{b:LFn}(_:b=⟨[t 2],q [k [2] [(2,.con (.string ⟨#[]⟩))],k [3] [(3,.con (.string ⟨#[]⟩))],k [7,4] [(4,t 0)],q [k [8,9] [(9,j .lss (t 0) (c 0))],u 9 (k [10,11,4] [(4,.bin (.arith .sub) (c 0) (t 0))]) .skip],q [k [5] [(5,.con (.bool true))],v 0 L.dF.l1],q [k [32,33] [(33,j .lss (t 0) (c 0))],u 33 (k [34,35,3] [(3,.bin .cat (.con (.string ⟨#[45]⟩)) (t 3))]) .skip],k [36,37,2] [(2,.bin .cat (t 3) (.con (.string ⟨#[32]⟩)))],.ret]⟩)=>b);simp only[sh];rfl
theorem E.dF:aX Tryz.prog Tryz.f79=some L.dF:=by kernel_rfl
theorem F.dF:Tryz.prog.funcs[N.dF]? = some Tryz.f79:=Tryz.func79
abbrev N.gN:Nat:=80
def L.gN.l1:LC:=by apply(fun{b:LC}(_:b=f 0 8 4 [5,6,7,8] [9,10,4] (j .lss (t 4) (h (t 0))) (.block 1 (.reg false (l [11,12,13,14,15] [(11,t 3)] [(15,d (i 1 (t 0) (t 4)))] (x 79 [15] [3]) 9 16 (.fin [17,3] [(3,.bin .cat (t 11) (t 16))] [])))))=>b);simp only[sh];rfl
def L.gN:LFn:=by apply(fun{b:LFn}(_:b=⟨[t 2],q [k [2] [(2,.con (.string ⟨#[]⟩))],k [3] [(3,.con (.string ⟨#[91]⟩))],q [k [4] [(4,c 0)],v 0 L.gN.l1],k [18,19,2] [(2,.bin .cat (t 3) (.con (.string ⟨#[93]⟩)))],.ret]⟩)=>b);simp only[sh];rfl
theorem E.gN:aX Tryz.prog Tryz.f80=some L.gN:=by kernel_rfl
theorem F.gN:Tryz.prog.funcs[N.gN]? = some Tryz.f80:=Tryz.func80
abbrev N.ey:Nat:=81
def L.ey.l1:LC:=by apply(fun{b:LC}(_:b=f 0 32 7 [26,27,28,29,30,31,32] [33,34,7] (j .lss (t 7) (h (d (i 1 (t 0) (t 1))))) (.block 1 (q [k [35,36,37,38,39,40,41,42,43] [(43,j .eql (d (i 1 (d (i 1 (t 0) (t 1))) (t 7))) (t 2))],u 43 (q [k [6] [(6,.con (.bool true))],.ret]) .skip])))=>b);simp only[sh];rfl
def L.ey:LFn:=by apply(fun{b:LFn}(_:b=⟨[t 6],q [k [6] [(6,.con (.bool false))],q [k [8,9,10,11,12,13,14,15,16,17,18,19,20,21,22,23,24,25] [(25,.ite (.ite (.ite (j .lss (t 1) (c 0)) (.con (.bool true)) (j .geq (t 1) (h (t 0)))) (.con (.bool true)) (j .lss (t 2) (c 0))) (.con (.bool true)) (j .geq (t 2) (h (t 0))))],u 25 (q [k [6] [(6,.con (.bool false))],.ret]) .skip],q [k [7] [(7,c 0)],v 0 L.ey.l1],k [6] [(6,.con (.bool false))],.ret]⟩)=>b);simp only[sh];rfl
theorem E.ey:aX Tryz.prog Tryz.f81=some L.ey:=by kernel_rfl
theorem F.ey:Tryz.prog.funcs[N.ey]? = some Tryz.f81:=Tryz.func81
abbrev N.bX:Nat:=82
def L.bX.l2:LC:=by apply(fun{b:LC}(_:b=q [k [18] [(18,j .lss (t 17) (t 16))],u 18 .skip (.exit 2),.block 3 (q [k [19,20,6] [(6,d (i 1 (t 15) (t 17)))],.reg false (l [21,22,23] [] [(21,t 0),(22,t 3),(23,t 6)] (.call ⟨.value (a 21),#[a 22,a 23],#[3,3]⟩) 4 24 (.fin [25] [(25,.un .not (t 24))] [])),u 25 .ret .skip]),k [26,17] [(17,o (t 17) (c 1))]])=>b);simp only[sh];rfl
def L.bX.l1:LC:=by apply(fun{b:LC}(_:b=q [k [11] [(11,j .lss (t 10) (t 9))],u 11 .skip (.exit 0),.block 1 (q [k [12,13,14,3,4] [(3,t 10),(4,d (i 1 (t 8) (t 10)))],k [15,16,17] [(15,t 4),(16,h (t 4)),(17,c 0)],v 2 L.bX.l2]),k [27,10] [(10,o (t 10) (c 1))]])=>b);simp only[sh];rfl
def L.bX:LFn:=by apply(fun{b:LFn}(_:b=⟨[],q [.reg false (l [7] [] [(7,d (t 1))] (x 43 [7] [40]) 40 8 (.fin [9,10] [(9,h (t 8)),(10,c 0)] [])),v 0 L.bX.l1]⟩)=>b);simp only[sh];rfl
theorem E.bX:aX Tryz.prog Tryz.f82=some L.bX:=by kernel_rfl
theorem F.bX:Tryz.prog.funcs[N.bX]? = some Tryz.f82:=Tryz.func82
abbrev N.dp:Nat:=95
def L.dp:LFn:=by apply(fun{b:LFn}(_:b=⟨[t 2,t 3],q [k [2,3] [(2,c 0),(3,.con (.bool false))],q [k [5,6,7,8,9,10] [(10,j .eql (h (g 5 (.un .nilPtr (t 0)))) (c 0))],u 10 (q [k [2,3] [(2,c 0),(3,.con (.bool false))],.ret]) .skip],.reg false (l [11,12,13,14,15,16] [] [(11,t 0),(16,h (g 5 (.un .nilPtr (t 0))))] (x 24 [11,16] [66,3]) 3 17 (.fin [4] [(4,t 17)] [])),q [.reg false (l [18] [] [(18,t 0)] (.call ⟨.value (.func 24),#[a 18,.const (.int .i64 3)],#[66,3]⟩) 3 19 (.fin [20] [(20,j .eql (t 19) (c 0))] [])),u 20 (k [21,22,23,24,25,26,4] [(4,.bin (.arith .sub) (h (g 5 (.un .nilPtr (t 0)))) (c 1))]) .skip],k [27,28,29,30,31,32,33,2,3] [(2,d (i 1 (g 5 (.un .nilPtr (t 0))) (t 4))),(3,.con (.bool true))],.ret]⟩)=>b);simp only[sh];rfl
theorem E.dp:aX Tryz.prog Tryz.f95=some L.dp:=by kernel_rfl
theorem F.dp:Tryz.prog.funcs[N.dp]? = some Tryz.f95:=Tryz.func95
end
section
set_option maxRecDepth 100000
abbrev N.cm:Nat:=96
def L.cm.l2:LC:=by apply(fun{b:LC}(_:b=f 2 93 10 [89,90,91,92,93] [94,95,10] (j .lss (t 10) (h (g 2 (t 6)))) (.block 3 (q [.reg true (.fin [96,97,98,99,100,101,102,103,104,105,106,107,108,109,110,111] [(111,.ite (j .lss (d (i 1 (g 2 (t 6)) (t 10))) (g 0 (t 1))) (.con (.bool true)) (j .gtr (d (i 1 (g 2 (t 6)) (t 10))) (c 8191)))] []),u 111 (q [.reg false (l [112,113,114,115] [] [(113,g 0 (t 6)),(115,g 1 (t 6))] (.build 123 #[(0,.const (.int .i64 11)),(1,a 113),(2,a 115)]) 123 116 (s [] [] (w [2,116]) (.store 123 (a 2) (a 116)) z)),.ret]) .skip])))=>b);simp only[sh];rfl
def L.cm.l3:LC:=by apply(fun{b:LC}(_:b=f 4 121 11 [117,118,119,120,121] [122,123,11] (j .lss (t 11) (h (g 2 (t 6)))) (.block 5 (q [q [k [124,125,126,127,128,129,130,131] [(131,d (i 1 (t 3) (d (i 1 (g 2 (t 6)) (t 11)))))],u 131 (q [.reg false (l [132,133,134,135] [] [(133,g 0 (t 6)),(135,g 1 (t 6))] (.build 123 #[(0,.const (.int .i64 12)),(1,a 133),(2,a 135)]) 123 136 (s [] [] (w [2,136]) (.store 123 (a 2) (a 136)) z)),.ret]) .skip],.reg false (s [137,138,139,140,141,142,143] [] [(143,i 1 (t 3) (d (i 1 (g 2 (t 6)) (t 11))))] (.store 4 (a 143) (.const (.bool true))) z)])))=>b);simp only[sh];rfl
def L.cm.l4:LC:=by apply(fun{b:LC}(_:b=f 6 152 12 [144,145,146,147,148,149,150,151,152] [153,154,12] (.ite (t 9) (j .lss (t 12) (h (g 2 (e 2 (t 7))))) (.con (.bool false))) (.block 7 (q [.reg true (.fin [155,156,157,158,159,160,161,162,163,164,165,166,167,168,169,170,171,172,173] [(173,.ite (j .lss (d (i 1 (g 2 (e 2 (t 7))) (t 12))) (c 1)) (.con (.bool true)) (j .geq (d (i 1 (g 2 (e 2 (t 7))) (t 12))) (h (g 1 (t 1)))))] []),u 173 (q [.reg false (l [174,175,176,177] [] [(175,g 0 (t 6)),(177,g 1 (t 6))] (.build 123 #[(0,.const (.int .i64 14)),(1,a 175),(2,a 177)]) 123 178 (s [] [] (w [2,178]) (.store 123 (a 2) (a 178)) z)),.ret]) .skip])))=>b);simp only[sh];rfl
def L.cm.l1:LC:=by apply(fun{b:LC}(_:b=f 0 19 5 [16,17,18,19] [20,21,5] (j .lss (t 5) (h (t 4))) (.block 1 (q [.reg false (l [22,23,24,25] [(25,.un (.al 4) (i 4 (t 4) (t 5)))] [] (.alloc 121) 0 6 (s [] [] (w [6,25]) (.store 121 (a 6) (a 25)) z)),.reg false (l [26,27,28,29,30,31] [(31,.un (.al 6) (i 6 (g 1 (t 1)) (g 0 (t 6))))] [] (.alloc 48) 0 7 (s [] [] (w [7,31]) (.store 48 (a 7) (a 31)) z)),q [k [32,33,34,35,36,37,38,39,40,41,42] [(42,.ite (j .geq (g 1 (t 6)) (c 0)) (j .lss (g 1 (t 6)) (h (g 1 (t 7)))) (.con (.bool false)))],u 42 (q [.reg false (l [43,44,45,46,47,48] [(48,.un (.al 5) (i 5 (g 1 (t 7)) (g 1 (t 6))))] [] (.alloc 78) 0 8 (s [] [] (w [8,48]) (.store 78 (a 8) (a 48)) z)),.reg false (.loud [49,50,51,52,53,54,55,56,57,58,59,60,61,62] [(57,.ite (j .lss (g 0 (t 8)) (c 1)) (.con (.bool true)) (j .gtr (g 0 (t 8)) (c 18)))] [(59,.gd (.ite (j .lss (g 0 (t 8)) (c 1)) (.con (.bool true)) (j .gtr (g 0 (t 8)) (c 18))) false (g 0 (t 8))),(62,.gd (.ite (j .lss (g 0 (t 8)) (c 1)) (.con (.bool true)) (j .gtr (g 0 (t 8)) (c 18))) false (h (g 3 (t 8))))] (some (.ite (j .lss (g 0 (t 8)) (c 1)) (.con (.bool true)) (j .gtr (g 0 (t 8)) (c 18)),false)) [] false (x 133 [59,62] [3,3]) 4 (some 63) true (.fin [64,65] [(65,.ite (t 57) (.con (.bool true)) (.un .not (t 63)))] [])),u 65 (q [.reg false (l [66,67,68,69] [] [(67,g 0 (t 6)),(69,g 1 (t 6))] (.build 123 #[(0,.const (.int .i64 10)),(1,a 67),(2,a 69)]) 123 70 (s [] [] (w [2,70]) (.store 123 (a 2) (a 70)) z)),.ret]) .skip]) .skip],k [71,72,73,74,75,76,9] [(9,j .eql (g 1 (t 6)) (h (g 1 (t 7))))],q [.reg false (.loud [77,78,79,80] [(78,t 9)] [(80,.gd (t 9) true (.un (.al 4) (e 2 (t 7))))] (some (t 9,true)) [] false (x 134 [80] [46]) 4 (some 81) true (.fin [82,83] [(83,.ite (t 78) (.un .not (t 81)) (.con (.bool false)))] [])),u 83 (q [.reg false (l [84,85,86,87] [] [(85,g 0 (t 6)),(87,g 1 (t 6))] (.build 123 #[(0,.const (.int .i64 10)),(1,a 85),(2,a 87)]) 123 88 (s [] [] (w [2,88]) (.store 123 (a 2) (a 88)) z)),.ret]) .skip],q [k [10] [(10,c 0)],v 2 L.cm.l2],q [k [11] [(11,c 0)],v 4 L.cm.l3],k [12] [(12,c 0)],v 6 L.cm.l4])))=>b);simp only[sh];rfl
def L.cm:LFn:=by apply(fun{b:LFn}(_:b=⟨[.un (.al 3) (t 2)],q [.reg false (p (w [0]) (.box 28 (a 0)) 0 1 (p [] (.alloc 123) 0 2 z)),.reg false (p [] (.makeSlice 73 (.const (.int .i64 8192)) (.const (.int .i64 8192))) 73 13 (.fin [3] [(3,t 13)] [])),.reg false (l [14] [] [(14,.un (.al 2) (t 1))] (x 58 [14] [28]) 118 15 (.fin [4] [(4,t 15)] [])),q [k [5] [(5,c 0)],v 0 L.cm.l1],.reg false (p [] (.build 123 #[]) 123 179 (s [] [] (w [2,179]) (.store 123 (a 2) (a 179)) z)),.ret]⟩)=>b);simp only[sh];rfl
theorem E.cm:aX Tryz.prog Tryz.f96=some L.cm:=by kernel_rfl
theorem F.cm:Tryz.prog.funcs[N.cm]? = some Tryz.f96:=Tryz.func96
abbrev N.dx:Nat:=97
def L.dx.l1:LC:=by apply(fun{b:LC}(_:b=f 0 10 4 [9,10] [11,12,4] (j .lss (t 4) (c 8192)) (.block 1 (.reg false (s [13,14,15,16] [] [(16,e 0 (i 4 (t 3) (t 4)))] (.store 3 (a 16) (.const (.int .i64 (-1)))) z))))=>b);simp only[sh];rfl
def L.dx.l3:LC:=by apply(fun{b:LC}(_:b=f 4 30 6 [23,24,25,26,27,28,29,30] [31,32,6] (j .lss (t 6) (h (g 2 (i 4 (t 0) (t 5))))) (.block 5 (q [k [33,34,35,36,37,38,39,40,7] [(7,d (i 1 (g 2 (i 4 (t 0) (t 5))) (t 6)))],k [41,42,43,44,45,46] [(46,.ite (j .geq (t 7) (c 0)) (j .lss (t 7) (c 8192)) (.con (.bool false)))],u 46 (.reg false (s [47,48,49,50,51,52,53] [] [(53,i 4 (t 3) (t 7)),(52,.un (.al 4) (i 4 (t 0) (t 5)))] (.store 121 (a 53) (a 52)) z)) .skip])))=>b);simp only[sh];rfl
def L.dx.l2:LC:=by apply(fun{b:LC}(_:b=f 2 20 5 [17,18,19,20] [21,22,5] (j .lss (t 5) (h (t 0))) (.block 3 (q [k [6] [(6,c 0)],v 4 L.dx.l3])))=>b);simp only[sh];rfl
def L.dx:LFn:=by apply(fun{b:LFn}(_:b=⟨[t 2],q [k [2] [(2,.con (.slice none 0 0))],.reg false (p [] (.makeSlice 118 (.const (.int .i64 8192)) (.const (.int .i64 8192))) 118 8 (.fin [3] [(3,t 8)] [])),q [k [4] [(4,c 0)],v 0 L.dx.l1],q [k [5] [(5,c 0)],v 2 L.dx.l2],k [54,2] [(2,t 3)],.ret]⟩)=>b);simp only[sh];rfl
theorem E.dx:aX Tryz.prog Tryz.f97=some L.dx:=by kernel_rfl
theorem F.dx:Tryz.prog.funcs[N.dx]? = some Tryz.f97:=Tryz.func97
abbrev N.fC:Nat:=98
def L.fC:LFn:=by apply(fun{b:LFn}(_:b=⟨[t 12],q [.reg false (p (w [0]) (.box 28 (a 0)) 0 6 (.fin [12] [(12,.con (.bool false))] [])),q [k [14,15,16,17,18,19,20,21] [(21,.ite (j .geq (t 3) (c 0)) (j .lss (t 3) (g 0 (t 6))) (.con (.bool false)))],u 21 (q [k [12] [(12,.con (.bool true))],.ret]) .skip],q [k [22,23,24,25,26,27,28,29,30,31,32,33,34,35] [(35,.ite (.ite (j .lss (t 3) (c 0)) (.con (.bool true)) (j .gtr (t 3) (c 8191))) (.con (.bool true)) (j .lss (g 0 (i 4 (t 1) (t 3))) (c 0)))],u 35 (q [k [12] [(12,.con (.bool false))],.ret]) .skip],.reg false (l [36,37,38,39] [(39,.un (.al 4) (i 4 (t 1) (t 3)))] [] (.alloc 121) 0 13 (s [] [] (w [13,39]) (.store 121 (a 13) (a 39)) z)),q [k [40,41,42,43] [(43,j .eql (g 0 (t 13)) (t 4))],u 43 (q [k [44,45,46,47,48,49,50,51,52,12] [(12,.ite (j .lss (g 1 (t 13)) (c 0)) (.con (.bool true)) (j .lss (g 1 (t 13)) (t 5)))],.ret]) .skip],k [53,54,55,56,57,58,59,60,61,12] [(12,.un .not (d (i 1 (d (i 1 (t 2) (g 0 (t 13)))) (t 4))))],.ret]⟩)=>b);simp only[sh];rfl
theorem E.fC:aX Tryz.prog Tryz.f98=some L.fC:=by kernel_rfl
theorem F.fC:Tryz.prog.funcs[N.fC]? = some Tryz.f98:=Tryz.func98
abbrev N.bK:Nat:=99
def L.bK.l1:LC:=by apply(fun{b:LC}(_:b=q [k [15] [(15,j .lss (t 14) (t 13))],u 15 .skip (.exit 0),.block 1 (q [k [16,17,9] [(9,d (i 1 (t 12) (t 14)))],.reg false (.loud [18,19,20,21] [] [(18,t 0),(19,t 9),(20,t 2),(21,t 3)] none [] false (x 135 [18,19,20,21] [132,3,3,3]) 0 (some 22) false z)]),k [23,14] [(14,o (t 14) (c 1))]])=>b);simp only[sh];rfl
def L.bK.l2:LC:=by apply(fun{b:LC}(_:b=q [k [27] [(27,j .lss (t 26) (t 25))],u 27 .skip (.exit 2),.block 3 (q [k [28,29,11] [(11,d (i 1 (t 24) (t 26)))],.reg false (.loud [30,31,32,33] [] [(30,t 0),(31,t 11),(32,t 2),(33,t 3)] none [] false (x 136 [30,31,32,33] [132,3,3,3]) 0 (some 34) false z)]),k [35,26] [(26,o (t 26) (c 1))]])=>b);simp only[sh];rfl
def L.bK:LFn:=by apply(fun{b:LFn}(_:b=⟨[],q [q [k [12,13,14] [(12,t 1),(13,h (t 1)),(14,c 0)],v 0 L.bK.l1],k [24,25,26] [(24,t 1),(25,h (t 1)),(26,c 0)],v 2 L.bK.l2]⟩)=>b);simp only[sh];rfl
theorem E.bK:aX Tryz.prog Tryz.f99=some L.bK:=by kernel_rfl
theorem F.bK:Tryz.prog.funcs[N.bK]? = some Tryz.f99:=Tryz.func99
abbrev N.eB:Nat:=100
def L.eB:LFn:=by apply(fun{b:LFn}(_:b=⟨[t 2,t 3],q [k [2,3] [(2,c 0),(3,c 0)],q [k [4] [(4,t 0)],.block 0 (q [k [6,5] [(5,j .eql (t 4) (c 1))],u 5 (q [k [2,3] [(2,c 0),(3,c 0)],.ret]) (q [k [8,7] [(7,j .eql (t 4) (c 15))],u 7 (q [k [2,3] [(2,c 1),(3,c 1)],.ret]) (q [k [10,9] [(9,j .eql (t 4) (c 17))],u 9 (q [k [2,3] [(2,c 0),(3,c 4)],.ret]) .skip])])])],k [2,3] [(2,c 2),(3,c 2)],.ret]⟩)=>b);simp only[sh];rfl
theorem E.eB:aX Tryz.prog Tryz.f100=some L.eB:=by kernel_rfl
theorem F.eB:Tryz.prog.funcs[N.eB]? = some Tryz.f100:=Tryz.func100
abbrev N.gB:Nat:=101
def L.gB:LFn:=by apply(fun{b:LFn}(_:b=⟨[t 2],q [.reg false (p (w [0]) (.box 78 (a 0)) 0 1 (.fin [2] [(2,.con (.slice none 0 0))] [])),q [k [3,4] [(4,g 0 (t 1))],.block 0 (q [k [6,5] [(5,j .eql (t 4) (c 16))],u 5 (q [k [2] [(2,.con (.slice none 0 0))],.ret]) (q [k [8,7] [(7,j .eql (t 4) (c 18))],u 7 (q [.reg false (l [9,10,11,12] [] [(10,g 1 (t 1)),(12,g 2 (t 1))] (.buildSlice 22 2 #[(0,a 10),(1,a 12)]) 22 13 (.fin [2] [(2,t 13)] [])),.ret]) .skip])])],.reg false (l [14,15] [] [(15,g 1 (t 1))] (.buildSlice 22 1 #[(0,a 15)]) 22 16 (.fin [2] [(2,t 16)] [])),.ret]⟩)=>b);simp only[sh];rfl
theorem E.gB:aX Tryz.prog Tryz.f101=some L.gB:=by kernel_rfl
theorem F.gB:Tryz.prog.funcs[N.gB]? = some Tryz.f101:=Tryz.func101
abbrev N.fE:Nat:=102
def L.fE:LFn:=by apply(fun{b:LFn}(_:b=⟨[t 0],q [k [0] [(0,.con (.map none))],.reg false (p [] (.makeMap 172 none) 172 1 (p [] (.build 170 #[(0,.const (.int .i64 0)),(1,.const (.int .i64 0)),(2,.const (.int .i64 1)),(3,.const (.int .i64 1))]) 170 2 (s [] [] (w [1,2]) (.insert 172 (a 1) (.const (.int .i64 1)) (a 2)) (p [] (.build 170 #[(0,.const (.int .i64 1)),(1,.const (.int .i64 1)),(2,.const (.int .i64 2)),(3,.const (.int .i64 2))]) 170 3 (s [] [] (w [1,3]) (.insert 172 (a 1) (.const (.int .i64 2)) (a 3)) (p [] (.build 170 #[(0,.const (.int .i64 1)),(1,.const (.int .i64 1)),(2,.const (.int .i64 2)),(3,.const (.int .i64 65))]) 170 4 (s [] [] (w [1,4]) (.insert 172 (a 1) (.const (.int .i64 3)) (a 4)) (p [] (.build 170 #[(0,.const (.int .i64 0)),(1,.const (.int .i64 1)),(2,.const (.int .i64 0)),(3,.const (.int .i64 0))]) 170 5 (s [] [] (w [1,5]) (.insert 172 (a 1) (.const (.int .i64 4)) (a 5)) (p [] (.build 170 #[(0,.const (.int .i64 0)),(1,.const (.int .i64 0)),(2,.const (.int .i64 0)),(3,.const (.int .i64 0))]) 170 6 (s [] [] (w [1,6]) (.insert 172 (a 1) (.const (.int .i64 5)) (a 6)) (.fin [7,0] [(0,t 1)] [])))))))))))),.ret]⟩)=>b);simp only[sh];rfl
theorem E.fE:aX Tryz.prog Tryz.f102=some L.fE:=by kernel_rfl
theorem F.fE:Tryz.prog.funcs[N.fE]? = some Tryz.f102:=Tryz.func102
abbrev N.gE:Nat:=103
def L.gE:LFn:=by apply(fun{b:LFn}(_:b=⟨[t 2],q [k [2] [(2,.con (.slice none 0 0))],q [k [7,8,9] [(9,j .eql (h (t 0)) (c 0))],u 9 (q [k [2] [(2,.con (.slice none 0 0))],.ret]) .skip],.reg false (l [10] [] [(10,t 0)] (x 43 [10] [40]) 40 11 (p [] (.alloc 40) 0 3 (s [] [] (w [3,11]) (.store 40 (a 3) (a 11)) z))),.reg false (l [12,13] [] [(13,h (t 0)),(13,h (t 0))] (.makeSlice 73 (a 13) (a 13)) 73 14 (p [] (.alloc 73) 0 4 (s [] [] (w [4,14]) (.store 73 (a 4) (a 14)) z))),.reg false (p [] (.alloc 22) 0 5 z),.reg false (p [] (.alloc 79) 0 6 z),.reg false (s [15] [] [(6,t 6),(15,.un (.fn 137) (.snoc (.snoc (.snoc (.snoc (.con (.tuple #[])) (t 4)) (t 3)) (t 6)) (t 5)))] (.store 79 (a 6) (a 15)) z),.reg false (.loud [16] [] [(16,d (t 6))] none [] false (.call ⟨.value (a 16),#[.const (.int .i64 0)],#[3]⟩) 0 (some 17) false z),.reg false (.loud [18] [] [(18,d (t 5))] none [] false (x 138 [18] [22]) 0 (some 19) false z),k [20,2] [(2,d (t 5))],.ret]⟩)=>b);simp only[sh];rfl
theorem E.gE:aX Tryz.prog Tryz.f103=some L.gE:=by kernel_rfl
theorem F.gE:Tryz.prog.funcs[N.gE]? = some Tryz.f103:=Tryz.func103
abbrev N.slices_Contains_int:Nat:=104
def L.slices_Contains_int:LFn:=by apply(fun{b:LFn}(_:b=⟨[t 4],q [k [4] [(4,.con (.bool false))],.reg false (l [5,6] [] [(5,t 0),(6,t 1)] (x 139 [5,6] [22,3]) 3 7 (.fin [8,4] [(4,j .geq (t 7) (c 0))] [])),.ret]⟩)=>b);simp only[sh];rfl
theorem E.slices_Contains_int:aX Tryz.prog Tryz.f104=some L.slices_Contains_int:=by kernel_rfl
theorem F.slices_Contains_int:Tryz.prog.funcs[N.slices_Contains_int]? = some Tryz.f104:=Tryz.func104
abbrev N.cw:Nat:=105
def L.cw.l1:LC:=by apply(fun{b:LC}(_:b=q [k [27] [(27,j .lss (t 26) (t 25))],u 27 .skip (.exit 0),.block 1 (q [k [28,6] [(6,t 26)],.reg false (s [29,30,31,32,33] [(31,t 5),(32,t 6)] [(33,i 1 (t 4) (t 6))] (.store 3 (a 33) (.const (.int .i64 (-1)))) (s [34] [] [(34,i 1 (t 31) (t 32))] (.store 3 (a 34) (.const (.int .i64 (-1)))) z))]),k [35,26] [(26,o (t 26) (c 1))]])=>b);simp only[sh];rfl
def L.cw.l2:LC:=by apply(fun{b:LC}(_:b=q [k [39] [(39,j .lss (t 38) (t 37))],u 39 .skip (.exit 2),.block 3 (q [k [40,41,42,7,8] [(7,t 38),(8,d (i 1 (t 36) (t 38)))],.reg false (s [43,44,45,46] [] [(46,i 1 (t 4) (t 8)),(45,t 7)] (.store 3 (a 46) (a 45)) z)]),k [47,38] [(38,o (t 38) (c 1))]])=>b);simp only[sh];rfl
def L.cw.l5:LC:=by apply(fun{b:LC}(_:b=q [k [67] [(67,j .lss (t 66) (t 65))],u 67 .skip (.exit 8),.block 9 (q [k [68,69,15] [(15,d (i 1 (t 64) (t 66)))],q [.reg false (.fin [70,71,72,73,74,75,76,77,78,79,80,81,82,83,84,85] [(85,.ite (j .lss (d (i 1 (t 4) (t 15))) (c 0)) (.con (.bool true)) (.ite (j .neq (t 15) (c 0)) (j .lss (d (i 1 (t 5) (t 15))) (c 0)) (.con (.bool false))))] [.gd (.gd (j .lss (d (i 1 (t 4) (t 15))) (c 0)) false (j .neq (t 15) (c 0))) true (j .lss (d (i 1 (t 5) (t 15))) (c 0))]),u 85 (.exit 9) .skip],q [k [86,87] [(87,j .lss (t 13) (c 0))],u 87 (q [k [88,13] [(13,t 15)],.exit 9]) .skip],.reg false (l [89,90,91,92] [] [(89,t 5),(90,t 4),(91,t 13),(92,t 15)] (x 140 [89,90,91,92] [22,22,3,3]) 3 93 (.fin [13] [(13,t 93)] []))]),k [94,66] [(66,o (t 66) (c 1))]])=>b);simp only[sh];rfl
def L.cw.l4:LC:=by apply(fun{b:LC}(_:b=q [k [58] [(58,j .lss (t 57) (t 56))],u 58 .skip (.exit 6),.block 7 (q [k [59,60,12] [(12,d (i 1 (t 55) (t 57)))],k [13] [(13,c (-1))],q [k [61,62,63,64,65,66] [(64,d (i 1 (t 9) (t 12))),(65,h (d (i 1 (t 9) (t 12)))),(66,c 0)],v 8 L.cw.l5],k [95,96,97,98,99,100] [(100,j .neq (d (i 1 (t 5) (t 12))) (t 13))],u 100 (.reg false (s [101,102,103,104] [] [(104,i 1 (t 5) (t 12)),(103,t 13)] (.store 3 (a 104) (a 103)) (.fin [10] [(10,.con (.bool true))] []))) .skip]),k [105,57] [(57,o (t 57) (c 1))]])=>b);simp only[sh];rfl
def L.cw.l3:LC:=by apply(fun{b:LC}(_:b=q [q [k [50] [(50,t 10)],u 50 .skip (.exit 4)],.block 5 (q [k [10] [(10,.con (.bool false))],k [51,52,53,54,55,56,57] [(55,.bin (.lo 1) (t 3) (.bin .min (c 1) (h (t 3)))),(56,h (.bin (.lo 1) (t 3) (.bin .min (c 1) (h (t 3))))),(57,c 0)],v 6 L.cw.l4])])=>b);simp only[sh];rfl
def L.cw:LFn:=by apply(fun{b:LFn}(_:b=⟨[t 2],q [k [2] [(2,.con (.slice none 0 0))],.reg false (l [16] [] [(16,t 0)] (x 103 [16] [40]) 22 17 (.fin [3] [(3,t 17)] [])),.reg false (l [18,19] [] [(19,h (t 0)),(19,h (t 0))] (.makeSlice 22 (a 19) (a 19)) 22 20 (.fin [4] [(4,t 20)] [])),.reg false (l [21,22] [] [(22,h (t 0)),(22,h (t 0))] (.makeSlice 22 (a 22) (a 22)) 22 23 (.fin [5] [(5,t 23)] [])),q [k [24,25,26] [(25,h (t 0)),(26,c 0)],v 0 L.cw.l1],q [k [36,37,38] [(36,t 3),(37,h (t 3)),(38,c 0)],v 2 L.cw.l2],.reg false (l [48] [] [(48,t 0)] (x 44 [48] [40]) 40 49 (.fin [9] [(9,t 49)] [])),q [k [10] [(10,.con (.bool true))],v 4 L.cw.l3],k [106,2] [(2,t 5)],.ret]⟩)=>b);simp only[sh];rfl
theorem E.cw:aX Tryz.prog Tryz.f105=some L.cw:=by kernel_rfl
theorem F.cw:Tryz.prog.funcs[N.cw]? = some Tryz.f105:=Tryz.func105
abbrev N.aU:Nat:=106
def L.aU:LFn:=by apply(fun{b:LFn}(_:b=⟨[],q [q [k [14,15,16,17,18,19,20,21,22,23,24] [(24,.ite (j .geq (t 0) (c 0)) (j .lss (t 0) (g 0 (e 0 (.un .nilPtr (d (t 5)))))) (.con (.bool false)))],u 24 .ret .skip],.reg false (l [26,27,28,29,30] [] [(29,g 2 (.un .nilPtr (d (t 5)))),(30,t 0)] (.lookup 133 (a 29) (a 30) true) 178 31 (l [25,32,33] [(32,.un (.ext 0) (t 31)),(33,.un (.ext 1) (t 31))] [] (.alloc 177) 0 12 (s [] [] (w [12,32]) (.store 177 (a 12) (a 32)) (.fin [13] [(13,t 33)] [])))),.reg false (.loud [34,35,36,37,38,39,40,41,42,43,44,45,46,47,48,49,50,51,52,53,54,55,56,57,58,59,60] [(35,t 13),(51,.gd (t 13) true (.ite (j .eql (g 0 (t 12)) (t 1)) (.ite (j .lss (g 1 (t 12)) (t 3)) (.con (.bool true)) (j .lss (g 1 (t 12)) (c 0))) (.con (.bool false)))),(56,.gd (.gd (t 13) true (.ite (j .eql (g 0 (t 12)) (t 1)) (.ite (j .lss (g 1 (t 12)) (t 3)) (.con (.bool true)) (j .lss (g 1 (t 12)) (c 0))) (.con (.bool false)))) false (j .neq (g 0 (t 12)) (t 1)))] [(57,.gd (.gd (.gd (t 13) true (.ite (j .eql (g 0 (t 12)) (t 1)) (.ite (j .lss (g 1 (t 12)) (t 3)) (.con (.bool true)) (j .lss (g 1 (t 12)) (c 0))) (.con (.bool false)))) false (j .neq (g 0 (t 12)) (t 1))) true (d (t 6))),(59,.gd (.gd (.gd (t 13) true (.ite (j .eql (g 0 (t 12)) (t 1)) (.ite (j .lss (g 1 (t 12)) (t 3)) (.con (.bool true)) (j .lss (g 1 (t 12)) (c 0))) (.con (.bool false)))) false (j .neq (g 0 (t 12)) (t 1))) true (g 0 (t 12))),(60,.gd (.gd (.gd (t 13) true (.ite (j .eql (g 0 (t 12)) (t 1)) (.ite (j .lss (g 1 (t 12)) (t 3)) (.con (.bool true)) (j .lss (g 1 (t 12)) (c 0))) (.con (.bool false)))) false (j .neq (g 0 (t 12)) (t 1))) true (t 1))] (some (.gd (.gd (t 13) true (.ite (j .eql (g 0 (t 12)) (t 1)) (.ite (j .lss (g 1 (t 12)) (t 3)) (.con (.bool true)) (j .lss (g 1 (t 12)) (c 0))) (.con (.bool false)))) false (j .neq (g 0 (t 12)) (t 1)),true)) [.gd (.gd (t 13) true (j .eql (g 0 (t 12)) (t 1))) true (.ite (j .lss (g 1 (t 12)) (t 3)) (.con (.bool true)) (j .lss (g 1 (t 12)) (c 0))),.gd (.gd (.gd (t 13) true (j .eql (g 0 (t 12)) (t 1))) true (j .lss (g 1 (t 12)) (t 3))) false (j .lss (g 1 (t 12)) (c 0))] false (x 107 [57,59,60] [22,3,3]) 4 (some 61) true (.fin [62,63,64,13] [(13,.ite (t 35) (.ite (t 51) (.con (.bool true)) (.ite (t 56) (t 61) (.con (.bool false)))) (.con (.bool false)))] [.gd (t 51) false (.ite (t 56) (t 61) (.con (.bool false)))])),.reg false (.loud [65,66,67] [] [(65,t 13),(66,t 4),(67,t 2)] none [] false (.call ⟨.value (.func 65),#[a 65,.const (.int .i64 13),a 66,a 67],#[4,34,3,3]⟩) 0 (some 68) false z)]⟩)=>b);simp only[sh];rfl
theorem E.aU:aX Tryz.prog Tryz.f106=some L.aU:=by kernel_rfl
theorem F.aU:Tryz.prog.funcs[N.aU]? = some Tryz.f106:=Tryz.func106
abbrev N.db:Nat:=107
def L.db.l1:LC:=by apply(fun{b:LC}(_:b=q [k [23] [(23,j .lss (t 22) (t 21))],u 23 .skip (.exit 0),.block 1 (q [q [k [24,25,26] [(26,j .eql (t 1) (t 2))],u 26 (q [k [6] [(6,.con (.bool true))],.ret]) .skip],q [.reg false (l [27,28] [] [(27,t 7),(28,t 2)] (.call ⟨.value (a 27),#[a 28],#[3]⟩) 4 29 (.fin [30] [(30,.un .not (t 29))] [])),u 30 (q [k [6] [(6,.con (.bool false))],.ret]) .skip],k [31,32,33,34,2] [(2,d (i 1 (d (t 3)) (t 2)))]]),k [35,22] [(22,o (t 22) (c 1))]])=>b);simp only[sh];rfl
def L.db:LFn:=by apply(fun{b:LFn}(_:b=⟨[t 6],q [.reg false (p (w [0]) (.box 22 (a 0)) 0 3 (.fin [6] [(6,.con (.bool false))] [])),k [8,7] [(7,.un (.fn 141) (.snoc (.con (.tuple #[])) (t 3)))],q [.reg false (l [9,10] [] [(9,t 7),(10,t 1)] (.call ⟨.value (a 9),#[a 10],#[3]⟩) 4 11 (.loud [12,13,14,15] [(13,.un .not (t 11))] [(14,.gd (.un .not (t 11)) false (t 7)),(15,.gd (.un .not (t 11)) false (t 2))] (some (.un .not (t 11),false)) [] false (.call ⟨.value (a 14),#[a 15],#[3]⟩) 4 (some 16) true (.fin [17,18] [(18,.ite (t 13) (.con (.bool true)) (.un .not (t 16)))] []))),u 18 (q [k [6] [(6,.con (.bool false))],.ret]) .skip],q [k [19,20,21,22] [(21,o (h (d (t 3))) (c 1)),(22,c 0)],v 0 L.db.l1],k [6] [(6,.con (.bool false))],.ret]⟩)=>b);simp only[sh];rfl
theorem E.db:aX Tryz.prog Tryz.f107=some L.db:=by kernel_rfl
theorem F.db:Tryz.prog.funcs[N.db]? = some Tryz.f107:=Tryz.func107
abbrev N.aC:Nat:=108
def L.aC.l2:LC:=by apply(fun{b:LC}(_:b=q [q [.reg true (.loud [18,19,20,21,22,23,24,25,26,27,28,29,30,31] [(21,j .gtr (t 9) (t 1))] [(22,.gd (j .gtr (t 9) (t 1)) true (t 3)),(26,.gd (j .gtr (t 9) (t 1)) true (.un (.al 2) (i 2 (t 0) (t 9)))),(31,.gd (j .gtr (t 9) (t 1)) true (.un (.al 2) (i 2 (t 0) (.bin (.arith .sub) (t 9) (c 1)))))] (some (j .gtr (t 9) (t 1),true)) [] false (.call ⟨.value (a 22),#[a 26,a 31],#[65,65]⟩) 3 (some 32) true (.fin [33,34] [(34,.ite (t 21) (j .lss (t 32) (c 0)) (.con (.bool false)))] [])),u 34 .skip (.exit 2)],.block 3 (.reg true (.loud [37,38,39,40,41,42,43,44,45,46,47,48,49,50,51] [(39,t 0),(41,.bin (.arith .sub) (t 9) (c 1)),(50,.un (.al 2) (i 2 (t 0) (t 9)))] [(51,i 2 (t 0) (t 9)),(46,.un (.al 2) (i 2 (t 0) (.bin (.arith .sub) (t 9) (c 1))))] none [] true (.store 65 (a 51) (a 46)) 0 none false (s [52] [] [(52,i 2 (t 39) (t 41)),(50,t 50)] (.store 65 (a 52) (a 50)) z))),k [35,36,9] [(9,.bin (.arith .sub) (t 9) (c 1))]])=>b);simp only[sh];rfl
def L.aC.l1:LC:=by apply(fun{b:LC}(_:b=f 0 14 8 [12,13,14] [15,16,8] (j .lss (t 8) (t 2)) (.block 1 (q [k [17,9] [(9,t 8)],v 2 L.aC.l2])))=>b);simp only[sh];rfl
def L.aC:LFn:=by apply(fun{b:LFn}(_:b=⟨[],q [k [10,11,8] [(8,o (t 1) (c 1))],v 0 L.aC.l1]⟩)=>b);simp only[sh];rfl
theorem E.aC:aX Tryz.prog Tryz.f108=some L.aC:=by kernel_rfl
theorem F.aC:Tryz.prog.funcs[N.aC]? = some Tryz.f108:=Tryz.func108
abbrev N.fw:Nat:=133
def L.fw:LFn:=by apply(fun{b:LFn}(_:b=⟨[t 4],q [k [4] [(4,.con (.bool false))],q [k [5] [(5,t 0)],.block 0 (q [k [7,6] [(6,j .eql (t 5) (c 1))],u 6 (q [k [8,9,4] [(4,j .eql (t 1) (c 0))],.ret]) (q [k [11,10] [(10,j .eql (t 5) (c 15))],u 10 (q [k [12,13,4] [(4,j .eql (t 1) (c 1))],.ret]) (q [k [15,14] [(14,j .eql (t 5) (c 17))],u 14 (q [k [16,17,4] [(4,j .leq (t 1) (c 4))],.ret]) .skip])])])],k [18,19,4] [(4,j .eql (t 1) (c 2))],.ret]⟩)=>b);simp only[sh];rfl
theorem E.fw:aX Tryz.prog Tryz.f133=some L.fw:=by kernel_rfl
theorem F.fw:Tryz.prog.funcs[N.fw]? = some Tryz.f133:=Tryz.func133
abbrev N.ia:Nat:=134
def L.ia:LFn:=by apply(fun{b:LFn}(_:b=⟨[t 2],q [.reg false (p (w [0]) (.box 46 (a 0)) 0 1 (.fin [2] [(2,.con (.bool false))] [])),k [5,6,7,3] [(3,h (g 1 (t 1)))],k [8,9,10,4] [(4,h (g 2 (t 1)))],q [k [11,12] [(12,g 0 (t 1))],.block 0 (q [k [14,13] [(13,j .eql (t 12) (c 1))],u 13 (q [k [15,16,17,18,19,20,2] [(2,.ite (j .eql (t 3) (c 0)) (j .eql (t 4) (c 1)) (.con (.bool false)))],.ret]) (q [k [22,21] [(21,j .eql (t 12) (c 2))],u 21 (q [k [23,24,25,26,27,28,2] [(2,.ite (j .eql (t 3) (c 1)) (j .eql (t 4) (c 2)) (.con (.bool false)))],.ret]) (q [k [30,29] [(29,j .eql (t 12) (c 3))],u 29 (q [k [31,32,33,34,35,36,37,38,39,40,2] [(2,.ite (.ite (j .eql (t 3) (c 1)) (j .geq (t 4) (c 2)) (.con (.bool false))) (j .leq (t 4) (c 65)) (.con (.bool false)))],.ret]) (q [k [42,41] [(41,j .eql (t 12) (c 4))],u 41 (q [k [43,44,45,46,47,48,2] [(2,.ite (j .leq (t 3) (c 1)) (j .eql (t 4) (c 0)) (.con (.bool false)))],.ret]) (q [k [50,49] [(49,j .eql (t 12) (c 5))],u 49 (q [k [51,52,53,54,55,56,2] [(2,.ite (j .eql (t 3) (c 0)) (j .eql (t 4) (c 0)) (.con (.bool false)))],.ret]) .skip])])])])])],k [2] [(2,.con (.bool false))],.ret]⟩)=>b);simp only[sh];rfl
theorem E.ia:aX Tryz.prog Tryz.f134=some L.ia:=by kernel_rfl
theorem F.ia:Tryz.prog.funcs[N.ia]? = some Tryz.f134:=Tryz.func134
abbrev N.di:Nat:=135
def L.di:LFn:=by apply(fun{b:LFn}(_:b=⟨[],.reg false (l [8,9,10,11,12,13] [] [(8,t 1),(13,g 0 (e 0 (.un .nilPtr (t 0))))] (.call ⟨.value (.func 66),#[a 8,a 13,.const (.int .i64 8191)],#[3,3,3]⟩) 4 14 (.loud [15,16] [] [(14,t 14),(15,t 2),(16,t 3)] none [] false (.call ⟨.value (.func 65),#[a 14,.const (.int .i64 11),a 15,a 16],#[4,34,3,3]⟩) 0 (some 17) false z))⟩)=>b);simp only[sh];rfl
theorem E.di:aX Tryz.prog Tryz.f135=some L.di:=by kernel_rfl
theorem F.di:Tryz.prog.funcs[N.di]? = some Tryz.f135:=Tryz.func135
end
section
set_option maxRecDepth 100000
abbrev N.dm:Nat:=136
def L.dm:LFn:=by apply(fun{b:LFn}(_:b=⟨[],q [.reg false (l [11,12,13,14,15] [] [(14,g 2 (.un .nilPtr (t 0))),(15,t 1)] (.lookup 133 (a 14) (a 15) true) 178 16 (l [10,17,18] [(17,.un (.ext 0) (t 16)),(18,.un (.ext 1) (t 16))] [] (.alloc 177) 0 8 (s [] [] (w [8,17]) (.store 177 (a 8) (a 17)) (.fin [9] [(9,t 18)] [])))),.reg false (.loud [19,20,21,22] [] [(20,.un .not (t 9)),(21,t 2),(22,t 3)] none [] false (.call ⟨.value (.func 65),#[a 20,.const (.int .i64 12),a 21,a 22],#[4,34,3,3]⟩) 0 (some 23) false z),.reg false (l [24,25,26,27,28,29,30] [(27,g 2 (.un .nilPtr (t 0))),(28,t 1)] [(29,t 2),(30,t 3)] (.build 177 #[(0,a 29),(1,a 30)]) 177 31 (s [] [] (w [27,28,31]) (.mapUpdate 133 (a 27) (a 28) (a 31)) z))]⟩)=>b);simp only[sh];rfl
theorem E.dm:aX Tryz.prog Tryz.f136=some L.dm:=by kernel_rfl
theorem F.dm:Tryz.prog.funcs[N.dm]? = some Tryz.f136:=Tryz.func136
abbrev N.bY:Nat:=137
def L.bY.l1:LC:=by apply(fun{b:LC}(_:b=q [k [17] [(17,j .lss (t 16) (t 15))],u 17 .skip (.exit 0),.block 1 (q [k [18,19,7] [(7,d (i 1 (t 14) (t 16)))],k [20,21,22,23,24] [(24,.un .not (d (i 1 (d (t 1)) (t 7))))],u 24 (.reg false (.loud [25,26] [] [(25,d (t 3)),(26,t 7)] none [] false (.call ⟨.value (a 25),#[a 26],#[3]⟩) 0 (some 27) false z)) .skip]),k [28,16] [(16,o (t 16) (c 1))]])=>b);simp only[sh];rfl
def L.bY:LFn:=by apply(fun{b:LFn}(_:b=⟨[],q [.reg false (s [8,9,10] [] [(10,i 1 (d (t 1)) (t 0))] (.store 4 (a 10) (.const (.bool true))) z),q [k [11,12,13,14,15,16] [(14,d (i 1 (d (t 2)) (t 0))),(15,h (d (i 1 (d (t 2)) (t 0)))),(16,c 0)],v 0 L.bY.l1],.reg false (l [29,30] [(29,d (t 4))] [(30,t 0)] (.buildSlice 22 1 #[(0,a 30)]) 22 31 (p (w [29,31]) (.call ⟨.builtin .append,#[a 29,a 31],#[22,22]⟩) 22 32 (s [] [] (w [4,32]) (.store 22 (a 4) (a 32)) z)))]⟩)=>b);simp only[sh];rfl
theorem E.bY:aX Tryz.prog Tryz.f137=some L.bY:=by kernel_rfl
theorem F.bY:Tryz.prog.funcs[N.bY]? = some Tryz.f137:=Tryz.func137
abbrev N.slices_Index_int:Nat:=139
def L.slices_Index_int.l1:LC:=by apply(fun{b:LC}(_:b=q [k [9] [(9,j .lss (t 8) (t 7))],u 9 .skip (.exit 0),.block 1 (q [k [10,5] [(5,t 8)],k [11,12,13,14,15,16] [(16,j .eql (t 1) (d (i 1 (t 0) (t 5))))],u 16 (q [k [17,4] [(4,t 5)],.ret]) .skip]),k [18,8] [(8,o (t 8) (c 1))]])=>b);simp only[sh];rfl
def L.slices_Index_int:LFn:=by apply(fun{b:LFn}(_:b=⟨[t 4],q [k [4] [(4,c 0)],q [k [6,7,8] [(7,h (t 0)),(8,c 0)],v 0 L.slices_Index_int.l1],k [4] [(4,c (-1))],.ret]⟩)=>b);simp only[sh];rfl
theorem E.slices_Index_int:aX Tryz.prog Tryz.f139=some L.slices_Index_int:=by kernel_rfl
theorem F.slices_Index_int:Tryz.prog.funcs[N.slices_Index_int]? = some Tryz.f139:=Tryz.func139
abbrev N.dN:Nat:=140
def L.dN.l1:LC:=by apply(fun{b:LC}(_:b=.block 1 (.block 2 (q [.reg true (.fin [10,11,12,13,14,15,16,17,18,9] [(9,j .gtr (d (i 1 (t 1) (t 2))) (d (i 1 (t 1) (t 3))))] []),u 9 (k [19,20,21,22,2] [(2,d (i 1 (t 0) (t 2)))]) (q [.reg true (.fin [24,25,26,27,28,29,30,31,32,23] [(23,j .gtr (d (i 1 (t 1) (t 3))) (d (i 1 (t 1) (t 2))))] []),u 23 (k [33,34,35,36,3] [(3,d (i 1 (t 0) (t 3)))]) (.exit 0)])])))=>b);simp only[sh];rfl
def L.dN:LFn:=by apply(fun{b:LFn}(_:b=⟨[t 8],q [k [8] [(8,c 0)],.skip,v 0 L.dN.l1,k [37,8] [(8,t 2)],.ret]⟩)=>b);simp only[sh];rfl
theorem E.dN:aX Tryz.prog Tryz.f140=some L.dN:=by kernel_rfl
theorem F.dN:Tryz.prog.funcs[N.dN]? = some Tryz.f140:=Tryz.func140
abbrev N.cS:Nat:=141
def L.cS:LFn:=by apply(fun{b:LFn}(_:b=⟨[t 3],q [k [3] [(3,.con (.bool false))],k [4,5,6,7,8,9,10,11,3] [(3,.ite (j .geq (t 0) (c 0)) (j .lss (t 0) (h (d (t 1)))) (.con (.bool false)))],.ret]⟩)=>b);simp only[sh];rfl
theorem E.cS:aX Tryz.prog Tryz.f141=some L.cS:=by kernel_rfl
theorem F.cS:Tryz.prog.funcs[N.cS]? = some Tryz.f141:=Tryz.func141
end
end Go.Proofs.YtbkdlhkoiagbbaaGreat
namespace Go.Proofs
open Go.Shelf
def Tryz.zK:Go.Shelf.Ren:=⟨fun | 125=>78 | 128=>116 | 129=>117 | n=>n,fun | 46=>144 | 3=>3 | 51=>162 | 53=>190 | 4=>4 | 5=>5 | 9=>9 | n=>n,fun | n=>n⟩
theorem Tryz.Ic:Go.Proofs.Lays.n125 Tryz.prog Tryz.zK:={
 mixed:=by kernel_rfl
 f125:=Tryz.func78.trans (congrArg some (by kernel_rfl))
 f128:=Tryz.func116.trans (congrArg some (by kernel_rfl))
 f129:=Tryz.func117.trans (congrArg some (by kernel_rfl))
 t3:=Tryz.underlying3
 a3:=Tryz.isAgg3
 z3:=Tryz.sizeOf3
 v3:=Tryz.zeroValue3
 t4:=Tryz.underlying4
 a4:=Tryz.isAgg4
 z4:=Tryz.sizeOf4
 v4:=Tryz.zeroValue4
 t5:=Tryz.underlying5
 a5:=Tryz.isAgg5
 z5:=Tryz.sizeOf5
 v5:=Tryz.zeroValue5
 t9:=Tryz.underlying9
 a9:=Tryz.isAgg9
 z9:=Tryz.sizeOf9
 v9:=Tryz.zeroValue9
 t46:=Tryz.underlying144
 a46:=Tryz.isAgg144
 z46:=Tryz.sizeOf144
 v46:=Tryz.zeroValue144
 t51:=Tryz.underlying162
 a51:=Tryz.isAgg162
 z51:=Tryz.sizeOf162
 v51:=Tryz.zeroValue162
 t53:=Tryz.underlying190
 a53:=Tryz.isAgg190
 z53:=Tryz.sizeOf190
 v53:=Tryz.zeroValue190 }
theorem Tryz.bits_Len (x:Int) (w:World) (h0:0<=x) (h1:x<=18446744073709551615) :
  Calls Tryz.prog 78 #[.int .u64 x] w fun e w'=>e = .returned (.int .i64 (Lib.bitLen x.toNat))/\w'=w:=Any.bits_Len Tryz.Ic x w h0 h1
def Tryz.zJ:Go.Shelf.Ren:=⟨fun | 189=>83 | 125=>78 | 257=>118 | 128=>116 | 129=>117 | 294=>147 | 295=>148 | 296=>149 | 297=>150 | 298=>151 | 299=>152 | 216=>153 | 300=>154 | 301=>155 | 328=>157 | 329=>143 | 330=>144 | 331=>158 | 332=>159 | 215=>160 | 343=>161 | n=>n,fun | 28=>22 | 3=>3 | 46=>144 | 0=>0 | 51=>162 | 53=>190 | 4=>4 | 183=>183 | 182=>182 | 131=>92 | 5=>5 | 9=>9 | 218=>200 | 222=>204 | 228=>209 | 229=>167 | n=>n,fun | n=>n⟩
theorem Tryz.CO:Go.Proofs.Lays.n189 Tryz.prog Tryz.zJ:={
 mixed:=by kernel_rfl
 f125:=Tryz.func78.trans (congrArg some (by kernel_rfl))
 f128:=Tryz.func116.trans (congrArg some (by kernel_rfl))
 f129:=Tryz.func117.trans (congrArg some (by kernel_rfl))
 f189:=Tryz.func83.trans (congrArg some (by kernel_rfl))
 f215:=Tryz.func160.trans (congrArg some (by kernel_rfl))
 f216:=Tryz.func153.trans (congrArg some (by kernel_rfl))
 f257:=Tryz.func118.trans (congrArg some (by kernel_rfl))
 f294:=Tryz.func147.trans (congrArg some (by kernel_rfl))
 f295:=Tryz.func148.trans (congrArg some (by kernel_rfl))
 f296:=Tryz.func149.trans (congrArg some (by kernel_rfl))
 f297:=Tryz.func150.trans (congrArg some (by kernel_rfl))
 f298:=Tryz.func151.trans (congrArg some (by kernel_rfl))
 f299:=Tryz.func152.trans (congrArg some (by kernel_rfl))
 f300:=Tryz.func154.trans (congrArg some (by kernel_rfl))
 f301:=Tryz.func155.trans (congrArg some (by kernel_rfl))
 f328:=Tryz.func157.trans (congrArg some (by kernel_rfl))
 f329:=Tryz.func143.trans (congrArg some (by kernel_rfl))
 f330:=Tryz.func144.trans (congrArg some (by kernel_rfl))
 f331:=Tryz.func158.trans (congrArg some (by kernel_rfl))
 f332:=Tryz.func159.trans (congrArg some (by kernel_rfl))
 f343:=Tryz.func161.trans (congrArg some (by kernel_rfl))
 t0:=Tryz.underlying0
 a0:=Tryz.isAgg0
 z0:=Tryz.sizeOf0
 v0:=Tryz.zeroValue0
 t3:=Tryz.underlying3
 a3:=Tryz.isAgg3
 z3:=Tryz.sizeOf3
 v3:=Tryz.zeroValue3
 t4:=Tryz.underlying4
 a4:=Tryz.isAgg4
 z4:=Tryz.sizeOf4
 v4:=Tryz.zeroValue4
 t5:=Tryz.underlying5
 a5:=Tryz.isAgg5
 z5:=Tryz.sizeOf5
 v5:=Tryz.zeroValue5
 t9:=Tryz.underlying9
 a9:=Tryz.isAgg9
 z9:=Tryz.sizeOf9
 v9:=Tryz.zeroValue9
 t28:=Tryz.underlying22
 a28:=Tryz.isAgg22
 z28:=Tryz.sizeOf22
 v28:=Tryz.zeroValue22
 t46:=Tryz.underlying144
 a46:=Tryz.isAgg144
 z46:=Tryz.sizeOf144
 v46:=Tryz.zeroValue144
 t51:=Tryz.underlying162
 a51:=Tryz.isAgg162
 z51:=Tryz.sizeOf162
 v51:=Tryz.zeroValue162
 t53:=Tryz.underlying190
 a53:=Tryz.isAgg190
 z53:=Tryz.sizeOf190
 v53:=Tryz.zeroValue190
 t131:=Tryz.underlying92
 a131:=Tryz.isAgg92
 z131:=Tryz.sizeOf92
 v131:=Tryz.zeroValue92
 t182:=Tryz.underlying182
 a182:=Tryz.isAgg182
 z182:=Tryz.sizeOf182
 v182:=Tryz.zeroValue182
 t183:=Tryz.underlying183
 a183:=Tryz.isAgg183
 z183:=Tryz.sizeOf183
 v183:=Tryz.zeroValue183
 t218:=Tryz.underlying200
 a218:=Tryz.isAgg200
 z218:=Tryz.sizeOf200
 v218:=Tryz.zeroValue200
 t222:=Tryz.underlying204
 a222:=Tryz.isAgg204
 z222:=Tryz.sizeOf204
 v222:=Tryz.zeroValue204
 t228:=Tryz.underlying209
 a228:=Tryz.isAgg209
 z228:=Tryz.sizeOf209
 v228:=Tryz.zeroValue209
 t229:=Tryz.underlying167
 a229:=Tryz.isAgg167
 z229:=Tryz.sizeOf167
 v229:=Tryz.zeroValue167 }
open Go.Sort Go.RowKit in
theorem Tryz.slices_Sort_int (blk off cap:Nat) (zs:List Int) (w:World) (hH:Holds (Value.int .i64) w blk off zs.toArray) (hblk:blk<w.heap.size) (hsz:zs.length<4611686018427387904) :
  Calls Tryz.prog 83 #[.slice (some ⟨blk,off,none⟩) zs.length cap] w fun e w'=>e = .returned (.tuple #[])/\∃n os,w'=grow (putRow (Value.int .i64) (Sort.ahead w n) blk off (zs.mergeSort fun x y=>decide (x<=y)).toArray) os:=Any.slices_Sort_int Tryz.CO blk off cap zs w hH hblk hsz
def Tryz.Ai:Go.Shelf.Ren:=⟨fun | 112=>138 | n=>n,fun | 28=>22 | 3=>3 | 4=>4 | 0=>0 | n=>n,fun | n=>n⟩
theorem Tryz.Dg:Go.Proofs.Lays.n112 Tryz.prog Tryz.Ai:={
 mixed:=by kernel_rfl
 f112:=Tryz.func138.trans (congrArg some (by kernel_rfl))
 t0:=Tryz.underlying0
 a0:=Tryz.isAgg0
 z0:=Tryz.sizeOf0
 v0:=Tryz.zeroValue0
 t3:=Tryz.underlying3
 a3:=Tryz.isAgg3
 z3:=Tryz.sizeOf3
 v3:=Tryz.zeroValue3
 t4:=Tryz.underlying4
 a4:=Tryz.isAgg4
 z4:=Tryz.sizeOf4
 v4:=Tryz.zeroValue4
 t28:=Tryz.underlying22
 a28:=Tryz.isAgg22
 z28:=Tryz.sizeOf22
 v28:=Tryz.zeroValue22 }
open Go.RowKit Go.Lib Go.Sort in
/-- slices.Reverse at []int: "Reverse reverses the elements of the slice in place.": THE SLICE's CELLS HOLD 'zs.reverse' BEHIND THE CALL; all else is as it was, but for the count of draws (the exchange 's[i], s[j] = s[j], s[i]' draws its order, once a round). IN THE WORDS OF slices.Sort's CONTRACT: 'Holds': the cells hold zs and none is frozen; 'putRow': the world with those cells holding another array. A slice of length 0 that is not nil is among them ('zs = []'); nil: '.._nil'. (LAID: no walk: one application.) -/
theorem Tryz.slices_Reverse_int (blk off cap:Nat) (zs:List Int) (w:World) (hH:Holds (Value.int .i64) w blk off zs.toArray) (hsz:zs.length<=9223372036854775807) :
  Calls Tryz.prog 138 #[.slice (some ⟨blk,off,none⟩) zs.length cap] w fun e w'=>e = .returned (.tuple #[])/\∃n,w'=putRow (Value.int .i64) (Sort.ahead w n) blk off zs.reverse.toArray:=Any.slices_Reverse_int Tryz.Dg blk off cap zs w hH hsz
open Go.RowKit Go.Lib Go.Sort in
/-- The same at a slice of length 0, a nil one too: nothing is read, nothing written, nothing drawn. (LAID: no walk: one application.) -/
theorem Tryz.slices_Reverse_int_empty (a:Option Addr) (cap:Nat) (w:World) :
  Calls Tryz.prog 138 #[.slice a 0 cap] w fun e w'=>e = .returned (.tuple #[])/\w'=w:=Any.slices_Reverse_int_empty Tryz.Dg a cap w
def Tryz.xd:Go.Shelf.Ren:=⟨fun | 20=>84 | n=>n,fun | 22=>22 | 3=>3 | 4=>4 | 0=>0 | n=>n,fun | n=>n⟩
theorem Tryz.xW:Go.Proofs.Lays2.n20 Tryz.prog Tryz.xd:={
 mixed:=by kernel_rfl
 f20:=Tryz.func84.trans (congrArg some (by kernel_rfl))
 t0:=Tryz.underlying0
 a0:=Tryz.isAgg0
 z0:=Tryz.sizeOf0
 v0:=Tryz.zeroValue0
 t3:=Tryz.underlying3
 a3:=Tryz.isAgg3
 z3:=Tryz.sizeOf3
 v3:=Tryz.zeroValue3
 t4:=Tryz.underlying4
 a4:=Tryz.isAgg4
 z4:=Tryz.sizeOf4
 v4:=Tryz.zeroValue4
 t22:=Tryz.underlying22
 a22:=Tryz.isAgg22
 z22:=Tryz.sizeOf22
 v22:=Tryz.zeroValue22
 i3:=by kernel_rfl }
open Go.RowKit Go.Lib Go.Sort in
/-- slices.Compact at []int: "Compact replaces consecutive runs of equal elements with a single copy. This is like the uniq command found on Unix. Compact modifies the contents of the slice s and returns the modified slice, which may have a smaller length. Compact zeroes the elements between the new length and the original length. The result preserves the nilness of s.": IT RETURNS THE SLICE CUT TO 'Lib.compact zs'; ITS CELLS HOLD 'Lib.compact zs', THEN ZERO VALUES up to the old length; all else is as it was, but for the count of draws. IN THE WORDS OF slices.Sort's CONTRACT ('Holds', 'putRow'): so the everyday 'slices.Sort(xs); xs = slices.Compact(xs)' goes from the one contract to the other. It asks 'zs.length <= cap' (every slice's: the reslicing 's[:k]' looks at it). Length 0, nil: '.._empty'. (LAID: no walk: one application.) -/
theorem Tryz.slices_Compact_int (blk off cap:Nat) (zs:List Int) (w:World) (hH:Holds (Value.int .i64) w blk off zs.toArray) (hsz:zs.length<=9223372036854775807) (hcap:zs.length<=cap) :
  Calls Tryz.prog 84 #[.slice (some ⟨blk,off,none⟩) zs.length cap] w fun e w'=>e = .returned (.slice (some ⟨blk,off,none⟩) (Lib.compact zs).length cap)/\∃q,w'=putRow (Value.int .i64) (Sort.ahead w q) blk off (Lib.compact zs++List.replicate (zs.length-(Lib.compact zs).length) 0).toArray:=Any.slices_Compact_int Tryz.xW blk off cap zs w hH hsz hcap
open Go.RowKit Go.Lib Go.Sort in
/-- The same at a slice of length 0, a nil one too: it comes back as it is. (LAID: no walk: one application.) -/
theorem Tryz.slices_Compact_int_empty (a:Option Addr) (cap:Nat) (w:World) :
  Calls Tryz.prog 84 #[.slice a 0 cap] w fun e w'=>e = .returned (.slice a 0 cap)/\w'=w:=Any.slices_Compact_int_empty Tryz.xW a cap w
open Go.RowKit Go.Sort in
/-- .. and plain. (LAID: no walk: one application.) -/
theorem Tryz.slices_Sort_int_none (p:Option Addr) (cap:Nat) (w:World) :
  Calls Tryz.prog 83 #[.slice p 0 cap] w fun e w'=>e = .returned (.tuple #[])/\w'=w:=Any.slices_Sort_int_none Tryz.CO p cap w
end Go.Proofs
namespace Go.Proofs.YtbkdlhkoiagbbaaGreat
open Go Go.Lft
def I64 (x:Int):Prop:=-9223372036854775808<=x/\x<=9223372036854775807
variable{W:View}
theorem pK{h:Heap}{e:TypeId}{v:Value}{l:List Int}:OwnT W h e v l↔l.length<=140737488355328/\(∀x∈l,I64 x)/\((v = .slice none 0 0/\l=[])\/
  ∃g cap cur,v = .slice (some ⟨g,0,none⟩) l.length cap/\h[g]? = some (.cells cur e (0,0))/\l.length<=cap/\cap<=maxLen/\cur.size=cap/\cur.toList.take l.length=l.map (.int .i64)):=by
 have hn:Rep.n Int=1:=rfl;constructor
 ·rintro⟨hb,xs,⟨hl,hown⟩,hel⟩;rw[hn,MP]at hl;have hel' : ∀(i:Nat) (hi:i<l.length),xs[i]? = some (.int .i64 l[i])/\I64 l[i]:=fun i hi=>by
   obtain⟨h1,h2⟩:=hel i hi;rw[hn,MP]at h1;have:(xs.drop i).take 1=[.int .i64 l[i]]:=h1;have h3:((xs.drop i).take 1)[0]? = some (.int .i64 l[i]):=by rw[this];rfl
   rw[List.getElem?_take,if_pos (by decide),List.getElem?_drop]at h3;exact⟨by simpa using h3,h2⟩
  have hxs:xs=l.map (.int .i64):=by
   refine Oo fun i=>?_;rcases LI i l.length with hi | hi
   ·rw[(hel' i hi).1];simp[hi]
   rw[List.getElem?_eq_none (by omega),List.getElem?_eq_none (by simpa using hi)]
  refine⟨hb,fun x hx=>?_,?_⟩
  ·obtain⟨i,hi,rfl⟩:=LQ hx;exact(hel' i hi).2
  rcases hown with⟨rfl,h0⟩ | ⟨g,cap,cur,rfl,hg,h1,h2,h3,h4⟩
  ·exact .inl ⟨rfl,LO h0⟩
  rw[hn,MP]at h3 h4;exact .inr ⟨g,cap,cur,rfl,hg,h1,h2,h3,by rw[h4,hxs]⟩
 rintro⟨hb,hr,hown⟩;refine⟨hb,l.map (.int .i64),⟨by rw[hn];simp,?_⟩,fun i hi=>?_⟩
 ·rcases hown with⟨rfl,rfl⟩ | ⟨g,cap,cur,rfl,hg,h1,h2,h3,h4⟩
  ·exact .inl ⟨rfl,rfl⟩
  exact .inr ⟨g,cap,cur,rfl,hg,h1,h2,by rw[hn,MP];exact h3,by rw[hn,MP];exact h4⟩
 rw[hn,MP];refine⟨?_,hr _ (MD hi)⟩;refine Oo fun j=>?_;rw[List.getElem?_take];rcases LI j 1 with hj | hj
 ·have:j=0:=by omega
  subst this;simp[hi]
 rw[if_neg (by omega)];simp;omega
theorem sj{w:World}{g cap:Nat}{cur:Array Value}{e:TypeId}{l:List Int}(hg:w.heap[g]? = some (.cells cur e (0,0)))(h1:l.length<=cur.size)(h4:cur.toList.take l.length=l.map (.int .i64)):Go.Sort.Holds (Value.int .i64) w g 0 l.toArray:=by
 intro j hj;simp only[NR]at hj;have hc:cur[j]? = some (.int .i64 l[j]):=by have:=congrArg (fun x:List Value=>x[j]?) h4;simp only[List.getElem?_take,hj,if_true,List.getElem?_map]at this;simpa[hj]using this
 constructor
 ·simp[World.cell?,hg,hc,hj]
 simp[World.frozen?,hg]
variable{h':Heap}
theorem yQ{w:World}{e:TypeId}{v:Value}{g cap:Nat}{cur:Array Value}{l d:List Int}(hv:v = .slice (some ⟨g,0,none⟩) l.length cap)(hg:w.heap[g]? = some (.cells cur e (0,0)))(h1:l.length<=cap)(h2:cap<=maxLen)(h3:cur.size=cap)(hd:d.length=l.length)(hb:l.length<=140737488355328)(hr : ∀x∈d,I64 x)(n:Nat)(os:Array Obj)(hh:h'=(Go.Sort.grow (Go.Sort.putRow (Value.int .i64) (Go.Sort.ahead w n) g 0 d.toArray) os).heap):
  OwnT W h' e v d/\Kept w.heap h' v.ownBlock:=by
 subst hv;have hlt:g<w.heap.size:=(Array.getElem?_eq_some_iff.1 hg).1;have hcur:(Go.Sort.putCells (Value.int .i64) 0 d.toArray cur).toList.take d.length=d.map (.int .i64):=by
  refine Oo fun j=>?_;rw[List.getElem?_take];split
  ·rename_i hj;have hjc:j<cur.size:=by omega
   simp[Go.Sort.putCells,hj,hjc]
  rename_i hj;exact(List.getElem?_eq_none (by simpa using Nat.le_of_not_lt hj)).symm
 have hblk : ∀k,k<w.heap.size->h'[k]? = if g=k then(w.heap[k]?).map (Go.Sort.onCells (Go.Sort.putCells (Value.int .i64) 0 d.toArray)) else w.heap[k]?:=by intro k hk;subst hh;simp only[Go.Sort.grow,Go.Sort.putRow,Go.Sort.mapBlock,Go.Sort.ahead];rw[Array.getElem?_append_left (by simpa using hk),Array.getElem?_modify]
 have hsz:w.heap.size<=h'.size:=by subst hh;simp[Go.Sort.grow,Go.Sort.putRow,Go.Sort.mapBlock,Go.Sort.ahead]
 refine⟨pK.2 ⟨by omega,hr,.inr ⟨g,cap,Go.Sort.putCells (Value.int .i64) 0 d.toArray cur,by rw[hd],?_,by omega,h2,by simp[Go.Sort.putCells,h3],hcur⟩⟩,hsz,fun k hk hne=>?_⟩
 ·rw[hblk g hlt,if_pos rfl,hg];rfl
 rw[hblk k hk,if_neg (fun e=>hne (by simp[Value.ownBlock,e]))]
theorem qq(w:World)(n g:Nat)(d:Array Int)(os:Array Obj):Same w (Go.Sort.grow (Go.Sort.putRow (Value.int .i64) (Go.Sort.ahead w n) g 0 d) os):=
 ⟨rfl,rfl,rfl,by simp[Go.Sort.grow,Go.Sort.putRow,Go.Sort.mapBlock,Go.Sort.ahead],fun b hb=>by
  have hlt:=(Array.getElem?_eq_some_iff.1 hb).1;simp only[Go.Sort.grow,Go.Sort.putRow,Go.Sort.mapBlock,Go.Sort.ahead];rw[Array.getElem?_append_left (by simpa using hlt),Array.getElem?_modify];split
  ·rw[hb];rfl
  exact hb⟩
def om (l:List Int):List Int:=l.mergeSort fun x y=>decide (x<=y)
theorem Ix{h:Heap}{e:TypeId}{v:Value}{l:List Int}(o:OwnT W h e v l):az Tryz.prog N.slices_Sort_int #[v] h (fun _ h'=>OwnT W h' e v (om l)/\Kept h h' v.ownBlock):=by
 rintro w rfl;obtain⟨hb,hr,hown⟩:=pK.1 o;have hlen:(om l).length=l.length:=List.length_mergeSort _;have hr' : ∀x∈om l,I64 x:=fun x hx=>hr x (OM.1 hx);rcases hown with⟨rfl,rfl⟩ | ⟨g,cap,cur,rfl,hg,h1,h2,h3,h4⟩
 ·refine(Tryz.slices_Sort_int_none none 0 w).mono ?_;rintro e' w' ⟨rfl,rfl⟩;exact⟨_,rfl,⟨by simpa[om]using o,Kept.refl _ _⟩,Same.refl _⟩
 refine(Tryz.slices_Sort_int g 0 cap l w (sj (cap:=cap) hg (by omega) h4) (Array.getElem?_eq_some_iff.1 hg).1 (by omega)).mono ?_;rintro e' w' ⟨rfl,n,os,rfl⟩;exact⟨_,rfl,yQ rfl hg h1 h2 h3 hlen hb hr' n os rfl,qq _ _ _ _ _⟩
variable{n:Nat}
theorem EE{h:Heap}{e:TypeId}{g cap:Nat}{l:List Int}(o:OwnT W h e (.slice (some ⟨g,0,none⟩) l.length cap) l)(hn:n<=l.length):OwnT W h e (.slice (some ⟨g,0,none⟩) n cap) (l.take n):=by
 obtain⟨hb,hr,hown⟩:=pK.1 o;have hl:(l.take n).length=n:=by simp;omega
 rcases hown with⟨hv,_⟩ | ⟨g',cap',cur,hv,hg,h1,h2,h3,h4⟩
 ·cases hv
 cases hv;refine pK.2 ⟨by omega,fun x hx=>hr x (NH hx),.inr ⟨g,cap,cur,by rw[hl],hg,by omega,h2,h3,?_⟩⟩;rw[hl,List.map_take,<-h4,M9,MO hn]
theorem tF{l:List Int}:(Lib.compact l).length<=l.length:=by unfold Lib.compact Lib.compactUpTo;rw[L6];exact L9 (N8 _ _) (by simp)
theorem pj{l:List Int}{x:Int}(hx:x∈Lib.compact l):x∈l:=by unfold Lib.compact Lib.compactUpTo at hx;simp only[MR,NP,M7]at hx;obtain⟨i,⟨hi,_⟩,rfl⟩:=hx;simp[hi]
theorem BF{h:Heap}{e:TypeId}{v:Value}{l:List Int}(o:OwnT W h e v l):az Tryz.prog N.slices_Compact_int #[v] h (fun v' h'=>OwnT W h' e v' (Lib.compact l)/\lq h h' v v'):=by
 rintro w rfl;obtain⟨hb,hr,hown⟩:=pK.1 o;have hlen:=tF (l:=l);rcases hown with⟨rfl,rfl⟩ | ⟨g,cap,cur,rfl,hg,h1,h2,h3,h4⟩
 ·refine(Tryz.slices_Compact_int_empty none 0 w).mono ?_;rintro e' w' ⟨rfl,rfl⟩;exact⟨_,rfl,⟨o,Kept.refl _ _,.inl rfl⟩,Same.refl _⟩
 refine(Tryz.slices_Compact_int g 0 cap l w (sj (cap:=cap) hg (by omega) h4) (by omega) h1).mono ?_;rintro e' w' ⟨rfl,n,hw⟩;have hw':w'=Go.Sort.grow (Go.Sort.putRow (Value.int .i64) (Go.Sort.ahead w n) g 0 (Lib.compact l++List.replicate (l.length-(Lib.compact l).length) 0).toArray) #[]:=by rw[hw];simp
 have hdl:(Lib.compact l++List.replicate (l.length-(Lib.compact l).length) 0).length=l.length:=by simp;omega
 have hrd : ∀x∈(Lib.compact l++List.replicate (l.length-(Lib.compact l).length) (0:Int)),I64 x:=fun x hx=>by
  rcases LP.1 hx with hx | hx
  ·exact hr x (pj hx)
  obtain⟨_,rfl⟩:=List.mem_replicate.1 hx;exact⟨by omega,by omega⟩
 obtain⟨o2,k2⟩:=yQ (W:=W) (h':=w'.heap) rfl hg h1 h2 h3 hdl hb hrd n #[] (by rw[hw']);have o3:=EE (n:=(Lib.compact l).length) (by rw[hdl];exact o2) (by simp);rw[List.take_left'  rfl]at o3;exact⟨_,rfl,⟨o3,k2,.inl rfl⟩,by rw[hw'];exact qq _ _ _ _ _⟩
theorem B8{h:Heap}{e:TypeId}{v:Value}{l:List Int}(o:OwnT W h e v l):az Tryz.prog N.slices_Reverse_int #[v] h (fun _ h'=>OwnT W h' e v l.reverse/\Kept h h' v.ownBlock):=by
 rintro w rfl;obtain⟨hb,hr,hown⟩:=pK.1 o;rcases hown with⟨rfl,rfl⟩ | ⟨g,cap,cur,rfl,hg,h1,h2,h3,h4⟩
 ·refine(Tryz.slices_Reverse_int_empty none 0 w).mono ?_;rintro e' w' ⟨rfl,rfl⟩;exact⟨_,rfl,⟨o,Kept.refl _ _⟩,Same.refl _⟩
 refine(Tryz.slices_Reverse_int g 0 cap l w (sj (cap:=cap) hg (by omega) h4) (by omega)).mono ?_;rintro e' w' ⟨rfl,n,hw⟩;have hw':w'=Go.Sort.grow (Go.Sort.putRow (Value.int .i64) (Go.Sort.ahead w n) g 0 l.reverse.toArray) #[]:=by rw[hw];simp
 exact⟨_,rfl,yQ rfl hg h1 h2 h3 (by simp) hb (fun x hx=>hr x (by simpa using hx)) n #[] (by rw[hw']),by rw[hw'];exact qq _ _ _ _ _⟩
def oo (row:List Int) (n:Int) (i:Nat):Bool:=decide (0<=nth row i)&&decide (nth row i<n)
def ln (row:List Int) (n:Int):List Int:=Lib.compact (om (sift (oo row n) (fun i=>nth row i) row.length))
theorem Cx{row:List Int}{n:Int}{vr:Value}{h:Heap}(hr:SlRd (vw h) vr row)(hs:row.length<=1000000):
  az Tryz.prog N.fQ #[vr,.int .i64 n] h (fun v h'=>∃W,Mine nothing h h' W T.int v (ln row n)):=by
 refine aq (args:=[vr,.int .i64 n]) follows F.fQ E.fQ (LD (by kernel_rfl)) fun K hK=>?_;simp[L.fQ,hr.len];refine a6 [0,1,5,8,9,10] (fun(v:Value) k=>[vr,.int .i64 n,v,vr,.int .i64 row.length,.int .i64 k]) (fun v k h1=>Mine nothing h h1 nothing T.int v (sift (oo row n) (fun i=>nth row i) k)) row.length (.slice none 0 0)
  rfl (by omega) rfl (Mine.start (fun _ _ h=>by cases h)) (fun _ _=>rfl) (fun v k h1 hk m=>by simp) ?_ ?_
 ·intro v k h1 hlt m K2 hK2;have hr1:=hr.mono m.old;have hrange:=hr.range hlt;have:=ij (p:=oo row n) (x:=fun i=>nth row i) k;simp(disch:=omega)[hr1.idx1 rfl,hr1.int (View.le_refl _),eV,-Bool.and_eq_true,-Bool.and_eq_false_imp];refine⟨fun he=>?_,fun he=>hK2 v _ _ rfl rfl (by rw[hZ (show oo row n k=false from he)];exact m)⟩;refine m.push El.aS (by simp<;>rfl) (mN hrange.1 hrange.2) (by omega) (by omega) (fun _=>by simp) (fun _=>by simp) fun u v' h3 m'=>hK2 v' _ _ rfl rfl (by rw[jk (show oo row n k=true from he)];exact m')
 intro v h1 m;simp;refine aj (by kernel_rfl) (Ix m.own) ?_;rintro _ h2 ⟨o2,k2⟩;have m2:=m.lQ o2 ⟨k2,.inl rfl⟩;try simp
 refine aj (by kernel_rfl) (BF m2.own) ?_;rintro v3 h3 ⟨o3,k3⟩;have m3:=m2.lQ o3 k3;try simp
 exact hK _ _ ⟨_,m3⟩
def cN (g:Gr):Gr:=rows (fun a=>ln (nth g a) g.length) g.length
def Sm (g:Gr):Prop:=g.length<=1000000/\∀i,i<g.length->(nth g i).length<=1000000
theorem Fo{α:Type}[Rep α]:Rep.rd W (Value.slice none 0 0).cells.toList ([]:List α):=⟨.slice none 0 0,rfl,none,0,rfl,by simp,by simp,.inl rfl⟩
variable{vg:Value}
theorem wQ{g:Gr}{h:Heap}(hg:SlRd (vw h) vg g)(hs:Sm g):
  az Tryz.prog N.fe #[vg] h (fun v h'=>∃W,Mine nothing h h' W T.aS v (cN g)):=by
 refine aq (args:=[vg]) follows F.fe E.fe (LD (by kernel_rfl)) fun K hK=>?_;have hs1:=hs.1;simp[L.fe,hg.len];refine Mine.made (α:=List Int) (V:=nothing) (W:=nothing) (h0:=h) (n:=g.length) (d:=[]) El.dh (View.le_refl _) (fun _ _ h=>by cases h) (Old.nothing _ _) (by simp<;>rfl) (by simp<;>rfl) Fo (by omega) (by omega) fun v h1 m _ _=>?_;refine a6 [0,3,9,10,11] (fun(_:View) k=>[vg,v,vg,.int .i64 g.length,.int .i64 k]) (fun W k h2=>Mine nothing h h2 W T.aS v (rows (fun a=>ln (nth g a) g.length) k++List.replicate (g.length-k) [])) g.length nothing
  rfl (by omega) rfl m (fun _ _=>rfl) (fun v k h1 hk m=>by simp) ?_ ?_
 ·intro W a h2 hlta m K2 hK2;have hg2:=hg.mono m.old;obtain⟨rv,hrv⟩:=hg2.rows;obtain⟨cv,rr⟩:=hrv a hlta;have hl5:(rows (fun a=>ln (nth g a) g.length) a++List.replicate (g.length-a) ([]:List Int)).length=g.length:=by simp;omega
  simp(disch:=omega)[hg2.idx1 rfl,cv _ (View.le_refl _),hg.len];refine aj (by kernel_rfl) (Cx rr (hs.2 a hlta)) ?_;rintro r h3 ⟨W',mr⟩;have m3:=m.ext mr.old;have hr:=mr.fresh.mono (eC W _ _);simp(disch:=omega)[m3.now.idx1 rfl];refine m3.put1 (α:=List Int) (i:=a) (by kernel_rfl) rfl (by simp) (by simp<;>rfl) (by omega) (fy.2 hr) fun h4 m4=>hK2 (grow W h2 h3) _ _ rfl rfl ?_;rw[lS (x:=fun a=>ln (nth g a) g.length) hlta]at m4;exact m4
 intro W h2 m;simp at m;simp;exact hK _ _ ⟨_,m⟩
theorem vv{l:List Int}{x:Int}{v:Value}{h:Heap}{b:Addr}(hl:SlRd (vw h) v l)(hb:ao (vw h) b=some v):
  az Tryz.prog N.cS #[.int .i64 x,.pointer (some b)] h (fun u h'=>u = .bool (decide (0<=x)&&decide (x<l.length))/\h'=h):=by refine aq (args:=[.int .i64 x,.pointer (some b)]) follows F.cS E.cS (LD (by kernel_rfl)) fun K hK=>?_;simp[L.cS,hb,hl.len];exact hK _ _ ⟨rfl,rfl⟩
variable{b:Int}
theorem zc{l:List Int}{a:Int}{v:Value}{h:Heap}(hl:SlRd (vw h) v l):
  az Tryz.prog N.db #[v,.int .i64 a,.int .i64 b] h (fun u h'=>u = .bool (eU l a b)/\(vw h).le (vw h')):=by
 refine aq (args:=[v,.int .i64 a,.int .i64 b]) follows F.db E.db (LD (by kernel_rfl)) fun K hK=>?_;have bl:=hl.bound;simp[L.db];refine j6 (v:=v) (by simp) ?_;have hvc:v.cells = #[v]:=by obtain⟨_,_,rfl,_⟩:=hl;rfl
 rw[hvc];have hle:=bm h (.cells #[v] T.aS);have hl:=hl.mono hle;have hb:ao (vw (h.push (.cells #[v] T.aS))) ⟨h.size,0,none⟩=some v:=by simp[ao,vw]
 generalize h.push (.cells #[v] T.aS)=h1 at hle hl hb;generalize h.size=B at hb;refine j0 (ops:=[.tmp 10]) rfl (by kernel_rfl) (by simpa using vv (x:=a) hl hb) ?_;rintro _ _ ⟨rfl,rfl⟩;cases ha:decide (0<=a)&&decide (a<l.length)with
 | false=>
  have hsp:eU l a b=false:=by simp only[Ov,decide_eq_false_iff_not]at ha;simp[eU];intros;omega
  rw[hsp]at hK;simp[grdP];exact hK _ _ ⟨rfl,hle⟩
 | true=>
  simp only[LK,decide_eq_true_eq]at ha;simp[grdP];refine j0 (ops:=[.tmp 15]) rfl (by kernel_rfl) (by simpa using vv (x:=b) hl hb) ?_;rintro _ _ ⟨rfl,rfl⟩;cases hbb:decide (0<=b)&&decide (b<l.length)with
  | false=>
   have hsp:eU l a b=false:=by simp only[Ov,decide_eq_false_iff_not]at hbb;simp[eU];intros;omega
   rw[hsp]at hK;simp;exact hK _ _ ⟨rfl,hle⟩
  | true=>
   simp only[LK,decide_eq_true_eq]at hbb;have hsp:eU l a b=ou l a (l.length+1) b:=by simp[eU,ha,hbb]
   rw[hsp]at hK;simp(disch:=omega)[hb,hl.len];refine a6 [1,2,3,6,7,21,22] (fun(c:Int) k=>[.int .i64 a,.int .i64 c,.pointer (some ⟨B,0,none⟩),.bool false,.func (.func N.cS) #[] #[.pointer (some ⟨B,0,none⟩)],.int .i64 ((l.length:Int)+1),.int .i64 k])
    (fun c k h2=>h2=_/\ou l a (l.length+1-k) c=ou l a (l.length+1) b) (l.length+1) b
    rfl (by omega) rfl ⟨rfl,rfl⟩ (fun _ _=>rfl) (fun v k h1 hk m=>by simp) ?_ ?_
   ·rintro c k h2 hlt ⟨rfl,hch⟩ K2 hK2;have hfu:l.length+1-k=(l.length-k)+1:=by omega
    rw[hfu,ou]at hch;simp;refine⟨fun he=>hK _ _ ⟨by rw[<-hch,if_pos he.symm],hle⟩,fun he=>?_⟩;rw[if_neg (fun e=>he e.symm)]at hch;refine j0 (ops:=[.tmp 28]) rfl (by kernel_rfl) (by simpa using vv (x:=c) hl hb) ?_;rintro _ _ ⟨rfl,rfl⟩;cases hc:decide (0<=c)&&decide (c<l.length)with
    | false=>simp only[Ov,decide_eq_false_iff_not]at hc;simp;exact hK _ _ ⟨by rw[<-hch,if_pos (by omega)],hle⟩
    | true=>simp only[LK,decide_eq_true_eq]at hc;rw[if_neg (by omega)]at hch;simp(disch:=omega)[hb,hl.idx1 rfl,hl.int (View.le_refl _)];refine hK2 (nth l c.toNat) _ _ rfl rfl ⟨rfl,?_⟩;rw[<-hch];congr 1;omega
   rintro c h2 ⟨rfl,hch⟩;rw[Om,ou]at hch;simp;exact hK _ _ ⟨by rw[<-hch],hle⟩
def kP (idom number:List Int):Nat->Int->Int->Option Int
 | 0,_,_=>none
 | n+1,a,b=>
  if 0<=a/\a<number.length/\a<idom.length/\0<=b/\b<number.length/\b<idom.length then
   if nth number b.toNat<nth number a.toNat then kP idom number n (nth idom a.toNat) b
   else if nth number a.toNat<nth number b.toNat then kP idom number n a (nth idom b.toNat)
   else some a
  else none
variable{number:List Int}
theorem xM{idom:List Int}{vi vn:Value}{h:Heap}{r:Int}(hi:SlRd (vw h) vi idom)(hn:SlRd (vw h) vn number){a:Int}(hc:kP idom number n a b=some r):
  az Tryz.prog N.dN #[vi,vn,.int .i64 a,.int .i64 b] h (fun u h'=>u = .int .i64 r/\h'=h):=by
 refine aq (args:=[vi,vn,.int .i64 a,.int .i64 b]) follows F.dN E.dN (LD (by kernel_rfl)) fun K hK=>?_;simp[L.dN];refine fN [0,1,2,3] (fun m ρ h'=>∃(c d:Int),ρ=[(0,vi),(1,vn),(2,.int .i64 c),(3,.int .i64 d)]/\h'=h/\kP idom number m c d=some r) n ⟨a,b,rfl,rfl,hc⟩ ?_;rintro m ρ h' ⟨c,d,rfl,rfl,hc⟩ K2 hK2;cases m with
 | zero=>cases hc
 | succ m=>
  rw[kP]at hc;split at hc;case isFalse=>cases hc
  rename_i hr;obtain⟨r1,r2,r3,r4,r5,r6⟩:=hr;simp(disch:=omega)[L.dN.l1,hn.idx1 rfl,hn.int (View.le_refl _)];refine⟨fun h1=>?_,fun h1=>?_⟩
  ·rw[if_pos h1]at hc;simp(disch:=omega)[hi.idx1 rfl,hi.int (View.le_refl _)];exact hK2 m _ _ (by omega) ⟨_,_,rfl,rfl,hc⟩
  rw[if_neg (by omega)]at hc;refine⟨fun h2=>?_,fun h2=>?_⟩
  ·rw[if_pos h2]at hc;simp(disch:=omega)[hi.idx1 rfl,hi.int (View.le_refl _)];exact hK2 m _ _ (by omega) ⟨_,_,rfl,rfl,hc⟩
  rw[if_neg (by omega)]at hc;cases hc;exact hK _ _ ⟨rfl,rfl⟩
structure Wo (W:View) (h:Heap) (B:Nat) (vt vl:Value) (s:List Bool × List Int):Prop where
 wle:W.le (vw h)
 box:h[B]? = some (.cells #[vl] T.aS (0,0))
 wB:W B=none
 avt:Av W vt
 avl:Av W vl
 nt:vt.ownBlock≠some B
 nl:vl.ownBlock≠some B
 ne:vl.ownBlock=none\/vl.ownBlock≠vt.ownBlock
 ot:OwnT nothing h T.bool vt s.1
 ol:OwnT nothing h T.int vl s.2
 nn:vt.ownBlock=none\/vt.ownBlock≠vl.ownBlock
theorem Wo.lt{W:View}{h:Heap}{B:Nat}{vt vl:Value}{s:List Bool × List Int}(k:Wo W h B vt vl s):B<h.size:=(Array.getElem?_eq_some_iff.1 k.box).1
theorem Wo.ext {W:View} {h h':Heap} {B:Nat} {vt vl:Value} {s:List Bool × List Int} (k:Wo W h B vt vl s) (hle:(vw h).le (vw h')):Wo W h' B vt vl s:=
 {k with wle:=View.le_trans k.wle hle,box:=hle _ _ k.box,ot:=k.ot.ext hle,ol:=k.ol.ext hle }
variable{vt vl:Value}
theorem Wo.flag{h:Heap}{B:Nat}{s:List Bool × List Int}{t':List Bool}(k:Wo W h B vt vl s)(o:OwnT nothing h' T.bool vt t')(m:lq h h' vt vt):Wo W h' B vt vl (t',s.2):=
 {k with
  wle:=(m.view k.wle k.avt).1
  box:=by rw[m.kept.block B k.lt (fun e=>k.nt e.symm)];exact k.box
  ot:=o
  ol:=k.ol.kept m.kept k.ne }
theorem Wo.BZ{h h'':Heap}{B:Nat}{vl':Value}{s:List Bool × List Int}{l':List Int}(k:Wo W h B vt vl s)(o:OwnT nothing h' T.int vl' l')(m:lq h h' vl vl')(hsz:h''.size=h'.size)(hB:h''[B]? = some (.cells #[vl'] T.aS (0,0)))(hoth : ∀j,j≠B->h''[j]? = h'[j]?):Wo W h'' B vt vl' (s.1,l'):=by
 obtain⟨hw',ha'⟩:=m.view k.wle k.avl;have hlt:=k.lt;have nl':vl'.ownBlock≠some B:=by
  rcases m.at_ with e | e
  ·rw[e];exact k.nl
  rw[e];intro e2;cases e2;omega
 have kep:Kept h' h'' (some B):=⟨by omega,fun j _ hj=>hoth j (fun e=>hj (by rw[e]))⟩;refine⟨fun b x hb=>?_,hB,k.wB,k.avt,ha',k.nt,nl',?_,?_,?_,?_⟩
 ·have hne:b≠B:=fun e=>by rw[e,k.wB]at hb;cases hb
  show h''[b]? = _;rw[hoth b hne];exact hw' b x hb
 ·rcases m.at_ with e | e
  ·rw[e];exact k.ne
  right;rw[e];intro e2;have:=k.ot.lt e2.symm;omega
 ·exact(k.ot.kept m.kept k.nn).kept kep (.inr k.nt)
 ·exact o.kept kep (.inr nl')
 rcases m.at_ with e | e
 ·rw[e];exact k.nn
 right;rw[e];intro e2;have:=k.ot.lt e2;omega
theorem Wo.cell{h:Heap}{B:Nat}{s:List Bool × List Int}(k:Wo W h B vt vl s):ao (vw h) ⟨B,0,none⟩=some vl:=by simp[ao,vw,k.box]
def nx (rows:Gr) (a:Int):List Int:=nth rows a.toNat
theorem A6 {rows:Gr} {vr:Value} {Tp R O:Addr} {B:Nat} (hs:rows.length<=1000000) (hin : ∀i,i<rows.length->∀j,j<(nth rows i).length->0<=nth (nth rows i) j/\nth (nth rows i) j<rows.length) : ∀(n:Nat) {M:Nat} {W:View} {h:Heap} {vt vl:Value} {s:List Bool × List Int} {a:Int},Wo W h B vt vl s->SlRd W vr rows->
  ao W Tp=some vt->ao W R=some vr->ao W O=some (.func (.func N.bY) #[] #[.pointer (some Tp),.pointer (some R),.pointer (some O),.pointer (some ⟨B,0,none⟩)])->0<=a->a<rows.length->s.1.length=rows.length->nth s.1 a.toNat=false->
  dv s.1<=n->s.2.length+dv s.1<=M->M<=1000000->
  az Tryz.prog N.bY #[.int .i64 a,.pointer (some Tp),.pointer (some R),.pointer (some O),.pointer (some ⟨B,0,none⟩)] h (fun _ h'=>∃vl',Wo W h' B vt vl' (jM (nx rows) n a s)/\(jM (nx rows) n a s).2.length+dv (jM (nx rows) n a s).1<=M)
 | 0,M,W,h,vt,vl,s,a,k,hg,hT,hR,hO,h0,h1,hl,hf,hc,hb,hM=>by exfalso;have:=jD (t:=s.1) (i:=a.toNat) (by omega) hf;omega
 | n+1,M,W,h,vt,vl,(t,l),a,k,hg,hT,hR,hO,h0,h1,hl,hf,hc,hb,hM=>by
  obtain⟨i,rfl⟩:=Nr h0;simp only at hl hf hc hb;have hfs:=jD (t:=t) (i:=i) (by omega) (by simpa using hf);refine aq (args:=[.int .i64 i,.pointer (some Tp),.pointer (some R),.pointer (some O),.pointer (some ⟨B,0,none⟩)]) follows F.bY E.bY (LD (by kernel_rfl)) fun K hK=>?_;have hnow:SlRd (vw h) vt t:=k.ot.now (fun _ _ h=>by cases h)
  simp(disch:=omega)[L.bY,ae k.wle hT,hnow.idx1 rfl];refine qA (W:=nothing) (i:=i) (d:=true) (by kernel_rfl) (by simp[show Rep.n Bool=1 from rfl]) (by simp<;>rfl) k.ot (by simpa using by omega) Hb fun h2 o2 m2=>?_;have k2:=k.flag o2 m2;have hg2:=hg.mono k2.wle;obtain⟨rv,hrv⟩:=hg.rows;obtain⟨cv,rr⟩:=hrv i (by omega);have br:=rr.bound;have hov:jM (nx rows) (n+1) i (t,l)=((up (cL (nx rows) n i) (nx rows i).length (t.set i true,l)).1,(up (cL (nx rows) n i) (nx rows i).length (t.set i true,l)).2++[(i:Int)]):=ko;rw[hov]at hK;have hnx:nx rows i=nth rows i:=rfl;rw[hnx]at hK;simp(disch:=omega)[ae k2.wle hR,hg2.idx1 rfl,cv _ k2.wle,rr.len];refine a6 [0,1,2,3,4,14,15,16] (fun(_:Value) j=>[.int .i64 i,.pointer (some Tp),.pointer (some R),.pointer (some O),.pointer (some ⟨B,0,none⟩),rv i,.int .i64 (nth rows i).length,.int .i64 j]) (fun vl j h4=>Wo W h4 B vt vl (up (cL (nx rows) n i) j (t.set i true,l))/\(up (cL (nx rows) n i) j (t.set i true,l)).2.length+dv (up (cL (nx rows) n i) j (t.set i true,l)).1<=M-1) (nth rows i).length vl
   rfl (by omega) rfl ⟨k2,by simp[up];omega⟩ (fun _ _=>rfl) (fun v j h4 hk m=>by simp) ?_ ?_
  ·rintro vl j h4 hltj ⟨k4,hb4⟩ K2 hK2;have hinv:=sf (fun s:List Bool × List Int=>s.1.length=rows.length/\dv s.1<=n) (f:=cL (nx rows) n i) (fun k x hx=>by
    unfold cL;split
    ·exact hx
    exact oA n _ x hx) j (t.set i true,l) ⟨by simpa using hl,by simp only;omega⟩;generalize hx:up (cL (nx rows) n i) j (t.set i true,l)=x at k4 hb4 hinv;obtain⟨e0,e1⟩:=hin i (by omega) j hltj;have hr4:=rr.mono k4.wle;have hnow4:=k4.ot.now (fun _ _ h=>by cases h);simp(disch:=omega)[ae k4.wle hT,hr4.idx1 rfl,hr4.int (View.le_refl _),hnow4.idx1 rfl,hnow4.bool (View.le_refl _),eV];refine⟨fun he=>?_,fun he=>hK2 vl _ _ rfl rfl ?_⟩
   ·simp[ae k4.wle hO];refine j0 (ops:=[.tmp 26]) rfl (by kernel_rfl) (by simpa using A6 hs hin n k4 hg hT hR hO e0 e1 hinv.1 he hinv.2 hb4 (by omega)) ?_;rintro _ h5 ⟨⟨vl',k5⟩,hb5⟩;have hst:up (cL (nx rows) n i) (j+1) (t.set i true,l)=jM (nx rows) n (nth (nth rows i) j) x:=by rw[up,hx,cL,show nx rows i=nth rows i from rfl,he];rfl
    refine hK2 vl' _ _ rfl rfl ?_;rw[hst];exact⟨k5,hb5⟩
   have hst:up (cL (nx rows) n i) (j+1) (t.set i true,l)=x:=by rw[up,hx,cL,show nx rows i=nth rows i from rfl,he];rfl
   rw[hst];exact⟨k4,hb4⟩
  rintro vl h4 ⟨k4,hb4⟩;generalize hx:up (cL (nx rows) n i) (nth rows i).length (t.set i true,l)=x at k4 hb4 hK;simp[k4.cell];refine lg (α:=Int) (W:=nothing) El.aS (by simp<;>rfl) (mN (by omega) (by omega)) fun u h5 hsrc hle5 _=>?_;have k5:=k4.ext hle5;refine bw El.aS (by simp) (by simp) k5.ol hsrc (by simp;omega) (by simp;omega) fun vl' h6 o6 m6=>?_;have hB6:h6[B]? = some (.cells #[vl] T.aS (0,0)):=by rw[m6.kept.block B k5.lt (fun e=>k5.nl e.symm)];exact k5.box
  obtain⟨hcells,hone⟩:=lF o6;refine eR (g:=B) (o:=0) (n:=1) (v:=vl') (by kernel_rfl) (by simp) (by simp) (by rw[hcells];rfl) (by rw[hcells];simpa using hone) hB6 (by simp) fun h7 hsz7 ⟨row,hrow,he⟩ hoth=>hK _ _ ⟨vl',?_,?_⟩
  ·have hrow2:row = #[vl']:=by rw[<-Array.toList_inj,he,hcells];rfl
   rw[hrow2]at hrow;exact k5.BZ o6 m6 hsz7 hrow hoth
  simp;omega
def a8 (g:Gr):List Int:=lj (nx (cN g)) g.length
theorem hC{g:Gr}:(cN g).length=g.length:=by simp[cN]
theorem sC{g:Gr}: ∀i,i<(cN g).length->∀j,j<(nth (cN g) i).length->0<=nth (nth (cN g) i) j/\nth (nth (cN g) i) j<(cN g).length:=by
 intro i hi j hj;rw[hC]at hi;have hm:=bc hj;rw[cN,eQ hi,ln]at hm;have h2:=pj hm;rw[om,OM,kE]at h2;simp only[MR,NP,M7,oo,LK,decide_eq_true_eq]at h2;obtain⟨k,⟨_,h3⟩,h4⟩:=h2;rw[hC];have e:nth (nth (cN g) i) j=nth (nth g i) k:=by rw[cN,eQ hi,ln,h4,om,kE]
 rw[e];exact h3
theorem zR{g:Gr}{h:Heap}(hg:SlRd (vw h) vg g)(hs:Sm g):
  az Tryz.prog N.gE #[vg] h (fun v h'=>(vw h).le (vw h')/\SlRd (fresh h h') v (a8 g)):=by
 refine aq (args:=[vg]) follows F.gE E.gE (LD (by kernel_rfl)) fun K hK=>?_;have hs1:=hs.1;simp[L.gE,hg.len];refine⟨fun h0=>?_,fun h0=>?_⟩
 ·exact hK _ _ ⟨View.le_refl _,⟨none,0,by simp[a8,lj,h0],by simp[a8,lj,h0],by simp[a8,lj,h0],.inl (by simp[a8,lj,h0])⟩⟩
 refine aj (by kernel_rfl) (wQ hg hs) ?_;rintro vr h1 ⟨W1,m1⟩;have hvr:=m1.now;obtain⟨hrc,hro⟩:=lF m1.own;refine se (z:=.slice none 0 0) (by kernel_rfl) rfl (by kernel_rfl) hrc hro (fun _=>by simp) (fun _=>by simp) fun h2 hle2 hsz2 hR2=>?_;refine lx (W:=nothing) (n:=g.length) (d:=false) El.lh (by simp<;>rfl) (by simp<;>rfl) rfl (by omega) (by omega) fun vt h3 o3 m3 hle3 hb3=>?_;obtain⟨htc,hto⟩:=lF o3;refine se (z:=.slice none 0 0) (by kernel_rfl) rfl (by kernel_rfl) htc hto (fun _=>by simp) (fun _=>by simp) fun h4 hle4 hsz4 hT4=>?_;refine eZ (z:=.slice none 0 0) (by kernel_rfl) ?_;refine eZ (z:=.nilFunc) (by kernel_rfl) ?_;have hsz3:h2.size<h3.size:=o3.lt hb3
 have hle6:(vw h4).le (vw ((h4.push (.cells (Value.slice none 0 0).cells T.aS)).push (.cells Value.nilFunc.cells T.zq))):=View.le_trans (bm _ _) (bm _ _);refine eR (g:=h4.size+1) (o:=0) (n:=1) (e:=T.zq) (cur:=#[.nilFunc]) (v:=.func (.func N.bY) #[] #[.pointer (some ⟨h3.size,0,none⟩),.pointer (some ⟨h1.size,0,none⟩),.pointer (some ⟨h4.size+1,0,none⟩),.pointer (some ⟨h4.size,0,none⟩)]) (by kernel_rfl) (by simp) (by simp) rfl (by simp[Value.cells,Value.oneCell']) (by rw[show h4.size+1=(h4.push (.cells (Value.slice none 0 0).cells T.aS)).size by simp];exact Array.getElem?_push_size) (by simp) fun h7 hsz7 ⟨row,hrow,he⟩ hoth=>?_;have hrow2:row = #[.func (.func N.bY) #[] #[.pointer (some ⟨h3.size,0,none⟩),.pointer (some ⟨h1.size,0,none⟩),.pointer (some ⟨h4.size+1,0,none⟩),.pointer (some ⟨h4.size,0,none⟩)]]:=by rw[<-Array.toList_inj,he];rfl
 rw[hrow2]at hrow;have hle7:(vw h4).le (vw h7):=fun b o hb=>by have hlt:=View.lt (View.le_refl (vw h4)) hb;show h7[b]? = _;rw[hoth b (by omega)];exact hle6 b o hb
 have hL7:h7[h4.size]? = some (.cells #[.slice none 0 0] T.aS (0,0)):=by rw[hoth _ (by omega),Array.getElem?_push,if_neg (by simp),Array.getElem?_push_size];rfl
 have hle27:=View.le_trans hle3 (View.le_trans hle4 hle7);have hle17:=View.le_trans hle2 hle27;obtain⟨W,hW⟩ : ∃W:View,W=fun b=>if b=h2.size\/b=h4.size then none else h7[b]?:=⟨_,rfl⟩;have hWle:W.le (vw h7):=by
  intro b o hb;rw[hW]at hb;simp only at hb;split at hb
  ·cases hb
  exact hb
 have hW1:(vw h1).le W:=fun b o hb=>by have hlt:=View.lt (View.le_refl (vw h1)) hb;rw[hW];simp only;rw[if_neg (by omega)];exact hle17 b o hb
 have k7:Wo W h7 h4.size vt (.slice none 0 0) (List.replicate g.length false,[]):=
  ⟨hWle,hL7,by rw[hW];simp,fun b hb=>by rw[hb3]at hb;cases hb;rw[hW];simp,Av.nil _ _ _,by rw[hb3];intro e;simp only[LF]at e;omega,by simp[Value.ownBlock],.inl rfl,
   (o3.ext hle4).ext hle7,OwnT.nil ..,.inr (by rw[hb3];simp[Value.ownBlock])⟩
 have hT:ao W ⟨h3.size,0,none⟩=some vt:=by
  have h5:W h3.size=some (.cells #[vt] T.lh (0,0)):=by rw[hW];simp only;rw[if_neg (by omega)];exact hle7 _ _ hT4
  simp[ao,h5]
 have hR:ao W ⟨h1.size,0,none⟩=some vr:=by
  have h5:W h1.size=some (.cells #[vr] T.dh (0,0)):=by rw[hW];simp only;rw[if_neg (by omega)];exact hle27 _ _ hR2
  simp[ao,h5]
 have hO:ao W ⟨h4.size+1,0,none⟩=some (.func (.func N.bY) #[] #[.pointer (some ⟨h3.size,0,none⟩),.pointer (some ⟨h1.size,0,none⟩),.pointer (some ⟨h4.size+1,0,none⟩),.pointer (some ⟨h4.size,0,none⟩)]):=by
  have h5:W (h4.size+1)=h7[h4.size+1]?:=by rw[hW];simp only;rw[if_neg (by omega)]
  rw[hrow]at h5;simp[ao,h5]
 have hvrW:=hvr.mono hW1;have hlen:g.length≠0:=by simpa using h0
 have hcl:=hC (g:=g);have hfa:dv (List.replicate g.length false)=g.length:=by simp[dv]
 simp[ae hWle hO];refine j0 (ops:=[.const (.int .i64 0)]) (f:=N.bY) (caps:=#[.pointer (some ⟨h3.size,0,none⟩),.pointer (some ⟨h1.size,0,none⟩),.pointer (some ⟨h4.size+1,0,none⟩),.pointer (some ⟨h4.size,0,none⟩)]) (by simp) (by kernel_rfl)
  (by simpa using A6 (by omega) sC g.length (M:=g.length) k7 hvrW hT hR hO (a:=0) (by omega) (by omega) (by simp[hcl]) (by rw[ak (by simp;omega)];simp) (by rw[hfa];exact LG _) (by simp[hfa]) (by omega)) ?_;rintro _ h8 ⟨⟨vl,k8⟩,hb8⟩;have hord:a8 g=(jM (nx (cN g)) g.length 0 (List.replicate g.length false,[])).2.reverse:=by simp[a8,lj,h0]
 rw[hord]at hK;generalize jM (nx (cN g)) g.length 0 (List.replicate g.length false,[])=s at k8 hb8 hK;simp[k8.cell];refine aj (by kernel_rfl) (B8 k8.ol) ?_;rintro _ h9 ⟨o9,k9⟩;have hB9:h9[h4.size]? = some (.cells #[vl] T.aS (0,0)):=by rw[k9.block _ k8.lt (fun e=>k8.nl e.symm)];exact k8.box
 have hc9:ao (vw h9) ⟨h4.size,0,none⟩=some vl:=by simp[ao,vw,hB9]
 have hW9:=k9.view k8.wle k8.avl;have hle9:(vw h).le (vw h9):=View.le_trans (View.le_trans m1.old hW1) hW9;have hav:Av (vw h) vl:=fun b hb=>by
  cases hx:vw h b with
  | none=>rfl
  | some o=>have:=(View.le_trans m1.old hW1) _ _ hx;rw[k8.avl b hb]at this;cases this
 simp[hc9];exact hK _ _ ⟨hle9,o9.fresh (fun _ _ h=>by cases h) hav⟩
def iV (f:Nat->List Int) (n:Nat):List (Int × Int):=(List.range n).flatMap fun a=>(f a).map fun b=>((a:Int),b)
theorem ic{f:Nat->List Int}:iV f (n+1)=iV f n++(f n).map fun b=>((n:Int),b):=by simp[iV,O2]
theorem DT{f:Nat->List Int}{m:Nat}(h:n<=m): ∃t,iV f m=iV f n++t:=by
 induction m with
 | zero=>exact⟨[],by simp[show n=0 by omega]⟩
 | succ m ih=>
  rcases LI n (m+1)with h1 | h1
  ·obtain⟨t,ht⟩:=ih (by omega);exact⟨t++(f m).map fun b=>((m:Int),b),by rw[ic,ht,L5]⟩
  exact⟨[],by simp[show n=m+1 by omega]⟩
theorem Ec{f:Nat->List Int}{a j:Nat}(ha:a<n)(hj:j<(f a).length):(iV f n)[(iV f a).length+j]? = some ((a:Int),nth (f a) j):=by obtain⟨t,ht⟩:=DT (f:=f) (n:=a+1) (m:=n) (by omega);rw[ht,ic,L5,List.getElem?_append_right (by omega),OV,List.getElem?_append_left (by simpa using hj)];simp[ak hj,hj]
def fU (g:Gr):List (Int × Int):=iV (fun a=>nth (cN g) a) g.length
def Ab (e:Int × Int):List Value:=[.int .i64 e.1,.int .i64 e.2]
def yS (g:Gr):List (List Value):=(fU g).map Ab
theorem zQ{h:Heap}:
  az Tryz.prog N.gA #[vg] h (fun v h'=>v = .func (.func N.bX) #[] #[.pointer (some ⟨h.size,0,none⟩)]/\h'=h.push (.cells vg.cells T.dh)):=by refine aq (args:=[vg]) follows F.gA E.gA (LD (by kernel_rfl)) fun K hK=>?_;simp[L.gA];refine j6 rfl ?_;simp;exact hK _ _ ⟨rfl,rfl⟩
theorem tT{g:Gr}{V:View}{p:Addr}(hg:SlRd V vg g)(hp:ao V p=some vg)(hs:Sm g):Iter Tryz.prog N.bX [.pointer (some p)] V (yS g):=by
 intro l J W h hM hV hVl h0 hround;have hW:=(hM true 0).le h0;refine aq (args:=[.func (.yield l) #[] #[],.pointer (some p)]) follows F.bX E.bX (LD (by kernel_rfl)) fun K hK=>?_;simp[L.bX,ae (View.le_trans hV hW) hp];refine aj (by kernel_rfl) (wQ (hg.mono (View.le_trans hV hW)) hs) ?_;rintro vr h1 ⟨W1,m1⟩;have hJ1:=(hM true 0).grown h0 (LG _) m1.old
 have hr1:=m1.fresh.mono (eC W h h1);have hag : ∀b,b<h.size->grow W h h1 b=W b:=fun b hb=>sJ hb;generalize grow W h h1=W2 at hJ1 hr1 hag;have hlen:=hr1.bound
 have hcl:=hC (g:=g);obtain⟨rv,hrv⟩:=hr1.rows;simp[hr1.len];have hall : ∀{a j:Nat},a<(cN g).length->j<(nth (cN g) a).length->(yS g)[(iV (fun a=>nth (cN g) a) a).length+j]? = some [.int .i64 a,.int .i64 (nth (nth (cN g) a) j)]:=by intro a j ha hj;rw[yS,List.getElem?_map,fU,Ec (f:=fun a=>nth (cN g) a) (by omega) hj];rfl
 refine a6 [0,8,9,10] (fun(_:Unit) k=>[.func (.yield l) #[] #[],vr,.int .i64 (cN g).length,.int .i64 k]) (fun _ k h2=>J true (iV (fun a=>nth (cN g) a) k).length W2 h2) (cN g).length ()
  rfl (by omega) rfl hJ1 (fun _ _=>rfl) (fun v k h1 hk m=>by simp) ?_ ?_
 ·intro _ a h2 hlt hJ2 K2 hK2;have hW2:=(hM _ _).le hJ2;obtain⟨cv,rr⟩:=hrv a hlt;have br:=rr.bound;simp(disch:=omega)[hr1.idx1 rfl,cv _ hW2,rr.len];refine a6 [0,8,9,10,3,15,16,17] (fun(_:Unit) j=>[.func (.yield l) #[] #[],vr,.int .i64 (cN g).length,.int .i64 a,.int .i64 a,rv a,.int .i64 (nth (cN g) a).length,.int .i64 j])
   (fun _ j h3=>J true ((iV (fun a=>nth (cN g) a) a).length+j) W2 h3) (nth (cN g) a).length () rfl (by omega) rfl hJ2 (fun _ _=>rfl) (fun v k h1 hk m=>by simp) ?_ ?_
  ·intro _ j h3 hlt3 hJ3 K3 hK3;have hW3:=(hM _ _).le hJ3;simp(disch:=omega)[rr.idx1 rfl,rr.int hW3];refine GA (ops:=[.tmp 22,.tmp 23]) rfl (by simpa using hround _ _ W2 h3 hag (hall hlt hlt3) hJ3) ?_;rintro b h4 ⟨W4,e1,e2,hJ4⟩;cases b with
   | true=>obtain rfl:=e2 rfl;simp[eV];exact hK3 () _ _ rfl rfl hJ4
   | false=>simp[eV];exact hK _ _ ⟨false,_,W4,fun i hi hne=>by rw[e1 i hne,hag i hi],hJ4,fun h=>by cases h⟩
  intro _ h3 hJ3;simp;refine hK2 () _ _ rfl rfl ?_;rw[ic,LH,L6];exact hJ3
 intro _ h2 hJ2;simp;refine hK _ _ ⟨true,_,W2,fun i hi _=>hag i hi,hJ2,fun _=>?_⟩;rw[yS,L6,fU,hcl]
def fO (p:Gr) (e:Int × Int):Gr:=p.set e.2.toNat (nth p e.2.toNat++[e.1])
def cO (g:Gr):Gr:=(fU g).foldl fO (List.replicate g.length [])
theorem tZ{β γ:Type}{f:β->γ->β}{l:List γ}{k:Nat}{x:γ}{b:β}(h:l[k]? = some x):(l.take (k+1)).foldl f b=f ((l.take k).foldl f b) x:=by rw[M0,h,NS];rfl
theorem nd{g:Gr}{e:Int × Int}(h:e∈fU g):(0<=e.1/\e.1<g.length)/\0<=e.2/\e.2<g.length:=by simp only[fU,iV,Oe,M7,MR]at h;obtain⟨a,ha,b,hb,rfl⟩:=h;obtain⟨j,hj,rfl⟩:=LQ hb;have:=sC a (by rw[hC];exact ha) j hj;rw[hC,ak hj]at this;exact⟨⟨by omega,by simp only;omega⟩,this⟩
theorem mh{l:List (Int × Int)}{p:Gr}:(l.foldl fO p).length=p.length:=by
 induction l generalizing p with
 | nil=>rfl
 | cons e l ih=>rw[MU,ih];simp[fO]
theorem AU{l:List (Int × Int)}{p:Gr}{i m:Nat}(hp:(nth p i).length<=m):(nth (l.foldl fO p) i).length<=m+l.length:=by
 induction l generalizing p m with
 | nil=>exact hp
 | cons e l ih=>
  rw[MU];have:=ih (p:=fO p e) (m:=m+1) ?_
  ·simp only[Nl];omega
  unfold fO;rcases LI i p.length with hi | hi
  ·rw[aF hi];split
   ·rename_i h;rw[h];simp;omega
   omega
  rw[cB (by simpa using hi)];simp[default]
theorem xm{row:List Int}{n:Int}:(ln row n).length<=row.length:=by have h1:=ij (p:=oo row n) (x:=fun i=>nth row i) row.length;have h2:(om (sift (oo row n) (fun i=>nth row i) row.length)).length=(sift (oo row n) (fun i=>nth row i) row.length).length:=List.length_mergeSort _;have h3:=tF (l:=om (sift (oo row n) (fun i=>nth row i) row.length));rw[ln];omega
theorem xP{f:Nat->List Int}{m:Nat}(h : ∀a,a<n->(f a).length<=m):(iV f n).length<=n*m:=by
 induction n with
 | zero=>simp[iV]
 | succ n ih=>
  have:=ih fun a ha=>h a (by omega);have:=h n (by omega)
  rw[ic,LH,L6,MX];omega
theorem qm{g:Gr}(hs:Sm g):(fU g).length<=1000000000000:=by
 have h1:=xP (f:=fun a=>nth (cN g) a) (n:=g.length) (m:=1000000) fun a ha=>by have:=hs.2 a ha;rw[cN,eQ ha];exact L9 xm this
 have h2:g.length*1000000<=1000000*1000000:=L7 _ hs.1;rw[fU];omega
theorem vN{g:Gr}{h:Heap}(hg:SlRd (vw h) vg g)(hs:Sm g):
  az Tryz.prog N.gF #[vg] h (fun v h'=>(vw h).le (vw h')/\SlRd (fresh h h') v (cO g)):=by
 refine tN (args:=[vg]) follows F.gF E.gF (LD (by kernel_rfl)) fun K hK=>?_;have hs1:=hs.1;have hel:=qm hs;simp[L.gF,hg.len];refine Gg (n:=g.length) El.dh (by simp<;>rfl) (by simp<;>rfl) rfl (by omega) (by omega) ?_;refine se (z:=.slice none 0 0) (v:=.slice (some ⟨h.size,0,none⟩) g.length g.length) (by kernel_rfl) rfl (by kernel_rfl) rfl rfl (fun _=>by simp) (fun _=>by simp) fun h2 hle2 hsz2 hB2=>?_;have hle02:(vw h).le (vw h2):=View.le_trans (bm _ _) hle2
 have hg2:h2[h.size]? = some (.cells (List.replicate g.length (.slice none 0 0)).toArray T.aS (0,0)):=hle2 _ _ (show(h.push _)[h.size]? = _ by simp);simp at hsz2 hB2;simp;refine aj (by kernel_rfl) zQ ?_;rintro _ _ ⟨rfl,rfl⟩;have hgc:=hg.cells.1;rw[hgc];have hle3:=bm h2 (.cells #[vg] T.dh);generalize hh3:h2.push (.cells #[vg] T.dh)=h3 at hle3;have hsz3:h3.size=h.size+3:=by rw[<-hh3];simp[hsz2]
 obtain⟨W0,hW0⟩ : ∃W:View,W=fun b=>if b=h.size then none else h3[b]?:=⟨_,rfl⟩;have hW0le:W0.le (vw h3):=fun b o hb=>by
  rw[hW0]at hb;simp only at hb;split at hb
  ·cases hb
  exact hb
 have h0W:(vw h).le W0:=fun b o hb=>by have hlt:=View.lt (View.le_refl (vw h)) hb;rw[hW0];simp only;rw[if_neg (by omega)];exact View.le_trans hle02 hle3 b o hb
 have hp3:ao W0 ⟨h2.size,0,none⟩=some vg:=by
  have e:W0 h2.size=some (.cells #[vg] T.dh (0,0)):=by rw[hW0];simp only;rw[if_neg (by omega),<-hh3];simp
  simp[ao,e]
 have hB3:W0 (h.size+1)=some (.cells #[.slice (some ⟨h.size,0,none⟩) g.length g.length] T.dh (0,0)):=by rw[hW0];simp only;rw[if_neg (by omega)];exact hle3 _ _ hB2
 refine uK (enc:=Ab) (all:=fU g) (gf:=N.bX) (caps:=[.pointer (some ⟨h2.size,0,none⟩)]) W0 W0 (fun e k W h'=>e=none/\∃rv,Rw W h' T.aS T.int h.size rv (((fU g).take k).foldl fO (List.replicate g.length [])))
  rfl (by kernel_rfl) (tT (hg.mono h0W) hp3 hs) (fun _=>rfl) (View.le_refl _) (fun e k=>⟨fun⟨_,rv,r⟩=>r.wle,fun⟨a,rv,r⟩ _ h1 h2 _=>⟨a,rv,r.move h1 h2⟩⟩) ⟨rfl,_,Rw.start hW0le (by rw[hW0];simp) (hle3 _ _ hg2)⟩
  (fun x h1=>by simp[Ab,dk];rfl) ?_ ?_ ?_
 ·rintro k e W h1 hag hk ⟨_,rv,r⟩ K2 hK2 _;have he:=nd (MI hk);have hk1:k<(fU g).length:=(List.getElem?_eq_some_iff.1 hk).1;have hst:=tZ (f:=fO) (b:=List.replicate g.length []) hk;have hpl:=mh (l:=(fU g).take k) (p:=List.replicate g.length []);have hrl:=AU (l:=(fU g).take k) (p:=List.replicate g.length []) (i:=e.2.toNat) (m:=0) (by rw[aA (by omega)];simp);rw[MA]at hrl;rw[MM]at hpl;generalize hp:((fU g).take k).foldl fO (List.replicate g.length [])=p at r hst hpl hrl;have hlt:=r.lt;have hB1:h1[h.size+1]? = some (.cells #[.slice (some ⟨h.size,0,none⟩) g.length g.length] T.dh (0,0)):=r.wle _ _ (by rw[hag _ (by omega)];exact hB3);have hlt1:=(Array.getElem?_eq_some_iff.1 hB1).1;obtain⟨H,hH⟩ : ∃H:View,H=fun b=>if b=h.size\/b=h.size+1 then h1[b]? else none:=⟨_,rfl⟩;have hHle:H.le (vw h1):=fun b o hb=>by
   rw[hH]at hb;simp only at hb;split at hb
   ·exact hb
   cases hb
  have c1:ao H ⟨h.size+1,0,none⟩=some (.slice (some ⟨h.size,0,none⟩) g.length g.length):=bW (by rw[hH];simp only;rw[if_pos (by simp)];exact hB1) rfl;have hlen:=r.len;have c2:ao H ⟨h.size,e.2.toNat,none⟩=some (nth rv e.2.toNat):=bW (by rw[hH];simp only;rw[if_pos (by simp)];exact r.blk) (by rw[ak (by omega)];simp);refine bF H hHle ?_;simp(disch:=omega)[c1,c2,Iv];refine lg (α:=Int) (W:=nothing) El.aS (by simp<;>rfl) (mN (by omega) (by omega)) fun u h4 hsrc hle4 _=>⟨View.le_trans hHle hle4,?_⟩;have r4:=r.ext hle4
  have hi:e.2.toNat<p.length:=by omega
  refine bw El.aS (by simp) (by simp) (r4.own _ hi) hsrc (by simp;omega) (by simp;omega) fun v' h5 o5 m5=>?_;have hg5:h5[h.size]? = some (.cells rv.toArray T.aS (0,0)):=by rw[m5.kept.block _ r4.lt (fun e=>r4.ng _ hi e.symm)];exact r4.blk
  obtain⟨hcells,hone⟩:=lF o5;have hH5:H.le (vw h5):=by
   intro b o hb;have hlt4:=View.lt (View.le_trans hHle hle4) hb;have h4b:=View.le_trans hHle hle4 b o hb;show h5[b]? = _;rw[m5.kept.block b hlt4 ?_]
   ·exact h4b
   rw[hH]at hb;simp only at hb;split at hb
   ·rename_i e1;rcases e1 with rfl | rfl
    ·exact fun e=>r4.ng _ hi e.symm
    intro e;have:=r4.av _ hi _ e.symm;rw[hag _ (by omega),hB3]at this;cases this
   cases hb
  refine⟨hH5,?_⟩;refine eR (g:=h.size) (o:=e.2.toNat) (n:=1) (v:=v') (by kernel_rfl) (by simp) (by simp) (by rw[hcells];rfl) (by rw[hcells];simpa using hone) hg5 (by simp;omega) fun h6 hsz6 ⟨row,hrow,hre⟩ hoth=>?_;refine hK2 _ _ ⟨rfl,rv.set e.2.toNat v',?_⟩;rw[hst,fO];have hrow2:row=(rv.set e.2.toNat v').toArray:=by rw[<-Array.toList_inj,hre,hcells,Oi,if_pos (by omega)];simp
  rw[hrow2]at hrow;exact r4.put hi o5 m5 hrow hoth hsz6
 ·rintro W h1 hag ⟨_,rv,r⟩;rw[LV (LG _)]at r;have hB1:h1[h.size+1]? = some (.cells #[.slice (some ⟨h.size,0,none⟩) g.length g.length] T.dh (0,0)):=r.wle _ _ (by rw[hag _ (by omega)];exact hB3);have c1:ao (vw h1) ⟨h.size+1,0,none⟩=some (.slice (some ⟨h.size,0,none⟩) g.length g.length):=bW hB1 rfl;simp[c1];intro h4 hsw;have hWW:(vw h).le W:=fun b o hb=>by rw[hag b (by have:=View.lt (View.le_refl (vw h)) hb;omega)];exact h0W b o hb
  have hfl:=mh (l:=fU g) (p:=List.replicate g.length []);rw[MM]at hfl;have hfr:=r.fresh hWW (by omega);rw[hfl]at hfr;exact⟨_,rfl,hK _ _ ⟨hsw.ext (View.le_trans hWW r.wle),hsw.rd hfr⟩⟩
 rintro e k W h1 hag ⟨hne,_⟩;cases hne
def gh (n:Nat) (order:List Int):List Int:=up (fun i l=>l.set (nth order i).toNat (i:Int)) order.length (List.replicate n (-1))
def bstS (out number:List Int) (n:Nat):List Int->Int->Option Int
 | [],best=>some best
 | a::l,best=>
  if 0<=a/\a<n then
   if nth number a.toNat<0\/(a≠0/\nth out a.toNat<0) then bstS out number n l best
   else if best<0 then bstS out number n l a
   else(kP out number (2*n+2) best a).bind (bstS out number n l)
  else none
def setS (out:List Int) (ch:Bool) (b best:Int):List Int × Bool:=if nth out b.toNat≠best then(out.set b.toNat best,true) else(out,ch)
def qF (number:List Int) (preds:Gr) (n:Nat):List Int->List Int × Bool->Option (List Int × Bool)
 | [],s=>some s
 | b::l,s=>
  if 0<=b/\b<n then(bstS s.1 number n (nth preds b.toNat) (-1)).bind fun best=>qF number preds n l (setS s.1 s.2 b best)
  else none
def mZ (number:List Int) (preds:Gr) (n:Nat) (tail:List Int):Nat->List Int->Option (List Int)
 | 0,_=>none
 | m+1,out=>(qF number preds n tail (out,false)).bind fun s=>if s.2 then mZ number preds n tail m s.1 else some s.1
def xG (g:Gr) (fuel:Nat):Option (List Int):=
 mZ (gh g.length (a8 g)) (cO g) g.length ((a8 g).drop (min 1 (a8 g).length)) fuel (List.replicate g.length (-1))
theorem jv {out number:List Int} {c:Int} : ∀{k:Nat} {x y:Int},kP out number k x y=some c->0<=c/\c<number.length
 | 0,x,y,h=>by cases h
 | k+1,x,y,h=>by
  rw[kP]at h;split at h;case isFalse=>cases h
  rename_i hr;split at h
  ·exact jv h
  split at h
  ·exact jv h
  cases h;omega
theorem BK{out:List Int}: ∀{l:List Int} {best r:Int},(-1<=best/\best<n)->out.length=n->number.length=n->(∀i,i<n->-1<=nth out i/\nth out i<n)->bstS out number n l best=some r->-1<=r/\r<n:=by
 intro l;induction l with
 | nil=>intro best r hb _ _ _ h;simp only[bstS,LF]at h;subst h;exact hb
 | cons a l ih=>
  intro best r hb h1 h2 h3 h;rw[bstS]at h;split at h;case isFalse=>cases h
  rename_i ha;split at h
  ·exact ih hb h1 h2 h3 h
  split at h
  ·exact ih ⟨by omega,by omega⟩ h1 h2 h3 h
  simp only[LU]at h;obtain⟨c,hc,h⟩:=h;refine ih ?_ h1 h2 h3 h;have:=jv hc;omega
structure OvOk (m M:Nat) (s:List Bool × List Int):Prop where
 len:s.1.length=m
 cnt:s.2.length+dv s.1<=M
 rng : ∀x∈s.2,0<=x/\x<m
theorem zt {nx:Int->List Int} {m:Nat} (hnx : ∀a:Int,0<=a->a<m->∀i,i<(nx a).length->0<=nth (nx a) i/\nth (nx a) i<m) : ∀(n M:Nat) (a:Int) (s:List Bool × List Int),0<=a->a<m->nth s.1 a.toNat=false->OvOk m M s->OvOk m M (jM nx n a s)
 | 0,_,_,_,_,_,_,h=>h
 | n+1,M,a,s,h0,h1,hf,h=>by
  rw[ko];have hlen:=h.len;have hfs:=jD (t:=s.1) (i:=a.toNat) (by omega) hf;have hc:=h.cnt;have hup : ∀k,k<=(nx a).length->OvOk m (M-1) (up (cL nx n a) k (s.1.set a.toNat true,s.2)):=by
   intro k;induction k with
   | zero=>exact fun _=>⟨by simpa[up]using hlen,by simp only[up];omega,h.rng⟩
   | succ k ih=>
    intro hk;have:=ih (by omega);rw[up];generalize up (cL nx n a) k (s.1.set a.toNat true,s.2)=z at this;unfold cL;split
    ·exact this
    rename_i hz;obtain⟨e0,e1⟩:=hnx a h0 h1 k (by omega);exact zt hnx n (M-1) _ z e0 e1 (by simpa using hz) this
  have:=hup _ (LG _);exact⟨this.len,by have:=this.cnt;simp;omega,fun x hx=>by
   rcases LP.1 hx with hx | hx
   ·exact this.rng x hx
   simp only[LM]at hx;subst hx;exact⟨h0,h1⟩⟩
theorem xN{nx:Int->List Int}{m:Nat}(hnx : ∀a:Int,0<=a->a<m->∀i,i<(nx a).length->0<=nth (nx a) i/\nth (nx a) i<m):(lj nx m).length<=m/\∀x∈lj nx m,0<=x/\x<m:=by
 unfold lj;split
 ·simp
 rename_i h0;have:=zt hnx m m 0 (List.replicate m false,[]) (by omega) (by omega) (aA (by simp;omega)) ⟨by simp,by simp[dv],by simp⟩;refine⟨?_,fun x hx=>this.rng x (by simpa using hx)⟩;have:=this.cnt;simp;omega
theorem Iz{g:Gr}: ∀a:Int,0<=a->a<(g.length:Int)->∀i,i<(nx (cN g) a).length->0<=nth (nx (cN g) a) i/\nth (nx (cN g) a) i<g.length:=by intro a h0 h1 i hi;have:=sC a.toNat (by rw[hC];omega) i hi;rwa [hC]at this
theorem Ev{g:Gr}{i:Nat}(hi:i<(a8 g).length):0<=nth (a8 g) i/\nth (a8 g) i<g.length:=
 (xN Iz).2 _ (bc hi)
theorem qe{g:Gr}:(a8 g).length<=g.length:=(xN Iz).1
theorem sR{g:Gr}: ∀{l:List (Int × Int)} {p:Gr},(∀e∈l,0<=e.1/\e.1<g.length)->(∀i,∀x∈nth p i,0<=x/\x<g.length)->∀i,∀x∈nth (l.foldl fO p) i,0<=x/\x<g.length:=by
 intro l;induction l with
 | nil=>exact fun _ h=>h
 | cons e l ih=>
  intro p hl hp;rw[MU];refine ih (fun e' he'=>hl e' (LS _ he')) fun i x hx=>?_;unfold fO at hx;rcases LI i p.length with hi | hi
  ·rw[aF hi]at hx;split at hx
   ·rcases LP.1 hx with hx | hx
    ·exact hp _ x hx
    simp only[LM]at hx;subst hx;exact hl e (LR ..)
   exact hp _ x hx
  rw[cB (by simpa using hi)]at hx;cases hx
theorem uX{h:Heap}{v v':Value}(m:lq h h' v v')(hw:W.le (vw h))(ha:Av W v):W.le (vw h'):=(m.view hw ha).1
theorem H0{g:Gr}{h:Heap}{fuel:Nat}{l:List Int}(hg:SlRd (vw h) vg g)(hs:Sm g)(hl:xG g fuel=some l):
  az Tryz.prog N.cw #[vg] h (fun v h'=>∃W,Mine nothing h h' W T.int v l):=by
 refine aq (args:=[vg]) follows F.cw E.cw (LD (by kernel_rfl)) fun K hK=>?_;have hs1:=hs.1;simp[L.cw,hg.len];refine aj (by kernel_rfl) (zR hg hs) ?_;rintro vo h1 ⟨hle1,ho⟩;have hoin:=@Ev g;have holen:=qe (g:=g);rw[xG]at hl;generalize a8 g=order at ho hoin holen hl;refine Mine.made (V:=nothing) (W:=nothing) (h0:=h) (n:=g.length) (d:=(0:Int)) El.aS hle1 (fun _ _ h=>by cases h) (Old.nothing _ _) (by simp<;>rfl) (by simp<;>rfl) ⟨rfl,by omega,by omega⟩ (by omega) (by omega) fun vn h2 mn hle2 hbn=>?_;refine Mine.made (V:=nothing) (W:=nothing) (h0:=h) (n:=g.length) (d:=(0:Int)) El.aS mn.old (fun _ _ h=>by cases h) (Old.nothing _ _) (by simp<;>rfl) (by simp<;>rfl) ⟨rfl,by omega,by omega⟩ (by omega) (by omega) fun vi h3 mi hle3 hbi=>?_;have mn3:=mn.ext' hle3
 have hne:vn.ownBlock≠vi.ownBlock:=by have:=mn.own.lt hbn;rw[hbn,hbi];intro e;simp only[LF]at e;omega
 have hle13:(vw h1).le (vw h3):=View.le_trans hle2 hle3;have av1n:Av (vw h1) vn:=fun b hb=>by rw[hbn]at hb;cases hb;exact View.dH (View.le_refl _) (LG _)
 have av1i:Av (vw h1) vi:=fun b hb=>by rw[hbi]at hb;cases hb;exact View.dH hle2 (LG _)
 refine a6 [0,3,4,5,25,26] (fun(_:Unit) k=>[vg,vo,vn,vi,.int .i64 g.length,.int .i64 k])
  (fun _ k h4=>Mine nothing h h4 nothing T.int vn (rows (fun _=>(-1:Int)) k++List.replicate (g.length-k) 0)/\Mine nothing h h4 nothing T.int vi (rows (fun _=>(-1:Int)) k++List.replicate (g.length-k) 0)/\(vw h1).le (vw h4)) g.length ()
  rfl (by omega) rfl ⟨by simpa using mn3,by simpa using mi,hle13⟩ (fun _ _=>rfl) (fun v k h1 hk m=>by simp) ?_ ?_
 ·rintro _ k h4 hlt ⟨m4n,m4i,hle4⟩ K2 hK2;have hlk:(rows (fun _=>(-1:Int)) k++List.replicate (g.length-k) (0:Int)).length=g.length:=by simp;omega
  simp(disch:=omega)[m4n.now.idx1 rfl,m4i.now.idx1 rfl];refine qA (W:=nothing) (i:=k) (d:=(-1:Int)) (by kernel_rfl) (by simp[show Rep.n Int=1 from rfl]) (by simp<;>rfl) m4n.own (by omega) (mN (by omega) (by omega)) fun h5 o5 mv5=>?_;have m5n:=m4n.lQ o5 mv5;have m5i:=m4i.beside m5n mv5 (.inr (Ne.symm hne));refine qA (W:=nothing) (i:=k) (d:=(-1:Int)) (by kernel_rfl) (by simp[show Rep.n Int=1 from rfl]) (by simp<;>rfl) m5i.own (by omega) (mN (by omega) (by omega)) fun h6 o6 mv6=>?_;have m6i:=m5i.lQ o6 mv6
  have m6n:=m5n.beside m6i mv6 (.inr hne);rw[lS (x:=fun _=>(-1:Int)) hlt]at m6i m6n;exact hK2 () _ _ rfl rfl ⟨m6n,m6i,uX mv6 (uX mv5 hle4 av1n) av1i⟩
 rintro _ h4 ⟨m4n,m4i,hle4⟩;have hrows:rows (fun _=>(-1:Int)) g.length=List.replicate g.length (-1):=by refine MJ (by simp) fun i h1 h2=>?_;simp[rows]
 rw[hrows]at m4n m4i;simp only[Om,List.replicate_zero,Nj]at m4n m4i;have ho1:=ho.mono (iz h h1);simp[ho1.len];refine a6 [0,3,4,5,36,37,38] (fun(_:Unit) k=>[vg,vo,vn,vi,vo,.int .i64 order.length,.int .i64 k])
  (fun _ k h5=>Mine nothing h h5 nothing T.int vn (up (fun i l=>l.set (nth order i).toNat (i:Int)) k (List.replicate g.length (-1)))/\Mine nothing h h5 nothing T.int vi (List.replicate g.length (-1))/\(vw h1).le (vw h5)) order.length ()
  rfl (by omega) rfl ⟨m4n,m4i,hle4⟩ (fun _ _=>rfl) (fun v k h1 hk m=>by simp) ?_ ?_
 ·rintro _ k h5 hlt ⟨m5n,m5i,hle5⟩ K2 hK2;have hlen5:(up (fun i l=>l.set (nth order i).toNat (i:Int)) k (List.replicate g.length (-1))).length=g.length:=by rw[yq List.length (fun _ _=>by simp)];simp
  have ho5:=ho1.mono hle5;obtain⟨e0,e1⟩:=hoin hlt;simp(disch:=omega)[ho5.idx1 rfl,ho5.int (View.le_refl _),m5n.now.idx1 rfl];refine qA (W:=nothing) (i:=(nth order k).toNat) (d:=(k:Int)) (by kernel_rfl) (by simp[show Rep.n Int=1 from rfl]) (by simp<;>rfl) m5n.own (by omega) (mN (by omega) (by omega)) fun h6 o6 mv6=>?_;have m6n:=m5n.lQ o6 mv6
  exact hK2 () _ _ rfl rfl ⟨m6n,m5i.beside m6n mv6 (.inr (Ne.symm hne)),uX mv6 hle5 av1n⟩
 rintro _ h5 ⟨m5n,m5i,hle5⟩;have hnum:up (fun i l=>l.set (nth order i).toNat (i:Int)) order.length (List.replicate g.length (-1))=gh g.length order:=rfl;rw[hnum]at m5n;have hnl:(gh g.length order).length=g.length:=by rw[gh,yq List.length (fun _ _=>by simp)];simp
 simp;refine aj (by kernel_rfl) (vN (hg.mono m5n.old) hs) ?_;rintro vp h6 ⟨hle6,hp⟩;have hpl:(cO g).length=g.length:=by rw[cO,mh];simp
 have hpin : ∀i,∀x∈nth (cO g) i,0<=x/\x<g.length:=sR (fun e he=>(nd he).1) (fun i x hx=>by
  rcases LI i g.length with hi | hi
  ·rw[aA hi]at hx;cases hx
  rw[cB (by simpa using hi)]at hx;cases hx);have m6:=(m5i.ext' hle6).over;have hn6:SlRd (but vi h6) vn (gh g.length order):=(m5n.own.rd (V:=but vi h5) (fun _ _ h=>by cases h) (fun b hb=>by unfold but;rw[if_neg (fun e=>hne (hb.trans e.symm))])).mono (AX hle6)
 have hp6:SlRd (but vi h6) vp (cO g):=hp.mono fun b o hb=>by
  have hb2:=iz _ _ b o hb;unfold but;split
  ·rename_i e;have:=m5i.own.lt e;unfold fresh at hb;rw[if_pos this]at hb;cases hb
  exact hb2
 have ho6:SlRd (but vi h6) vo order:=ho1.mono (View.le_trans (Jj hle5 av1i) (AX hle6));generalize hW:but vi h6=W at m6 hn6 hp6 ho6;generalize gh g.length order=number at hn6 hnl hl;generalize hpr:cO g=preds at hp6 hpl hpin hl;obtain⟨pv,hpv⟩:=hp6.rows;refine fN [3,4,5,9,10] (fun m ρ h7=>∃(out:List Int) (ch:Bool),ρ=[(3,vo),(4,vn),(5,vi),(9,vp),(10,.bool ch)]/\Mine (vw h) h h7 W T.int vi out/\out.length=g.length/\(∀i,i<g.length->-1<=nth out i/\nth out i<g.length)/\
  (ch=true->mZ number preds g.length (order.drop (min 1 order.length)) m out=some l)/\(ch=false->out=l)) fuel
  ⟨_,true,rfl,m6,by simp,fun i hi=>by rw[aA hi];omega,fun _=>hl,fun h=>by cases h⟩ ?_;rintro m ρ h7 ⟨out,ch,rfl,m7,hol,hor,hch1,hch2⟩ K2 hK2;cases ch with
 | false=>simp[L.cw.l3,eV];have:=hch2 rfl;subst this;exact hK _ _ ⟨_,m7.KE⟩
 | true=>
  have hit:=hch1 rfl;cases m with
  | zero=>cases hit
  | succ m=>
   rw[mZ,LU]at hit;obtain⟨⟨out',ch'⟩,hsw,hfin⟩:=hit;simp only at hfin;simp[L.cw.l3,eV];have hmin:(if(order.length:Int)<1 then(order.length:Int) else 1)=((min 1 order.length:Nat):Int):=by split<;>omega
   obtain⟨u,hu,hur⟩:=ho6.drop (n:=min 1 order.length) (by omega) (kd:=.i64);rw[show Rep.n Int=1 from rfl]at hu;have hti : ∀j,j<(order.drop (min 1 order.length)).length->nth (order.drop (min 1 order.length)) j=nth order (min 1 order.length+j):=by intro j hj;rw[ME]at hj;rw[ak (by rw[ME];omega),ak (by omega),N9]
   generalize order.drop (min 1 order.length)=tail at hur hti hsw hfin hK2;simp only[ho6.len,L3,Ju,hmin,hu,hur.len,iT,dk];have hub:=hur.bound;simp;refine a6 [3,4,5,9,10,55,56,57] (fun(s:List Int × Bool) k=>[vo,vn,vi,vp,.bool s.2,u,.int .i64 tail.length,.int .i64 k])
    (fun s k h8=>Mine (vw h) h h8 W T.int vi s.1/\s.1.length=g.length/\(∀i,i<g.length->-1<=nth s.1 i/\nth s.1 i<g.length)/\qF number preds g.length (tail.drop k) s=some (out',ch')) tail.length (out,false)
    rfl (by omega) rfl ⟨m7,hol,hor,by simpa using hsw⟩ (fun _ _=>rfl) (fun v k h1 hk m=>by simp) ?_ ?_
   ·rintro⟨o8,c8⟩ k h8 hlt8 ⟨m8,hol8,hor8,hs8⟩ K3 hK3;simp only at m8 hol8 hor8;rw[MV hlt8,<-ak hlt8,qF]at hs8;split at hs8;case isFalse=>cases hs8
    rename_i hb;rw[LU]at hs8;obtain⟨best,hbest,hs8⟩:=hs8;simp only at hbest hs8;have hb2:=BK (by omega) hol8 hnl hor8 hbest;generalize hbe:nth tail k=b at hb hbest hs8;obtain⟨cv,rr⟩:=hpv b.toNat (by omega);have br:=rr.bound;simp(disch:=omega)[hur.idx1 rfl,hur.int m8.wle,hbe,hp6.idx1 rfl,cv _ m8.wle,rr.len];refine a6 [3,4,5,9,10,55,56,57,12,13,64,65,66] (fun(bst:Int) j=>[vo,vn,vi,vp,.bool c8,u,.int .i64 tail.length,.int .i64 k,.int .i64 b,.int .i64 bst,pv b.toNat,.int .i64 (nth preds b.toNat).length,.int .i64 j])
     (fun bst j h9=>Mine (vw h) h h9 W T.int vi o8/\(-1<=bst/\bst<g.length)/\bstS o8 number g.length ((nth preds b.toNat).drop j) bst=some best) (nth preds b.toNat).length (-1)
     rfl (by omega) rfl ⟨m8,by omega,by simpa using hbest⟩ (fun _ _=>rfl) (fun v k h1 hk m=>by simp) ?_ ?_
    ·rintro bst j h9 hlt9 ⟨m9,hb9,hs9⟩ K4 hK4;rw[MV hlt9,<-ak hlt9,bstS]at hs9;have ha:=hpin _ _ (bc hlt9);rw[if_pos ha]at hs9;have hra:=rr.int m9.wle hlt9;generalize nth (nth preds b.toNat) j=a at hs9 ha hra;have hn9:=hn6.int m9.wle (i:=a.toNat) (by omega);have ho9:=m9.now.int (View.le_refl _) (i:=a.toNat) (by omega);have hi9:=m9.now;by_cases c1:nth number a.toNat<0
     ·rw[if_pos (.inl c1)]at hs9;simp(disch:=omega)[rr.idx1 rfl,hra,hn6.idx1 rfl,hn9,c1,hi9.idx1 rfl,ho9];exact hK4 bst _ _ rfl rfl ⟨m9,hb9,hs9⟩
     by_cases c2:a=0
     ·rw[if_neg (by rintro(h | h);exact c1 h;exact h.1 c2)]at hs9;subst c2;rw[Int.toNat_zero]at hn9 ho9 c1;simp(disch:=omega)[rr.idx1 rfl,hra,hn6.idx1 rfl,hn9,c1,hi9.idx1 rfl,ho9];refine⟨fun c4=>?_,fun c4=>?_⟩
      ·rw[if_pos c4]at hs9;exact hK4 _ _ _ rfl rfl ⟨m9,by omega,hs9⟩
      rw[if_neg (by omega),LU]at hs9;obtain⟨c,hc,hs9⟩:=hs9;have hcr:=jv hc;refine aj (by kernel_rfl) (xM m9.now (hn6.mono m9.wle) hc) ?_;rintro _ _ ⟨rfl,rfl⟩;exact hK4 c _ _ rfl rfl ⟨m9,by omega,hs9⟩
     by_cases c3:nth o8 a.toNat<0
     ·rw[if_pos (.inr ⟨c2,c3⟩)]at hs9;simp(disch:=omega)[rr.idx1 rfl,hra,hn6.idx1 rfl,hn9,c1,c2,hi9.idx1 rfl,ho9,c3];exact hK4 bst _ _ rfl rfl ⟨m9,hb9,hs9⟩
     rw[if_neg (by rintro(h | h);exact c1 h;exact c3 h.2)]at hs9;simp(disch:=omega)[rr.idx1 rfl,hra,hn6.idx1 rfl,hn9,c1,c2,hi9.idx1 rfl,ho9,c3];refine⟨fun c4=>?_,fun c4=>?_⟩
     ·rw[if_pos c4]at hs9;exact hK4 _ _ _ rfl rfl ⟨m9,by omega,hs9⟩
     rw[if_neg (by omega),LU]at hs9;obtain⟨c,hc,hs9⟩:=hs9;have hcr:=jv hc;refine aj (by kernel_rfl) (xM m9.now (hn6.mono m9.wle) hc) ?_;rintro _ _ ⟨rfl,rfl⟩;exact hK4 c _ _ rfl rfl ⟨m9,by omega,hs9⟩
    rintro bst h9 ⟨m9,hb9,hs9⟩;simp only[List.drop_length,bstS,LF]at hs9;subst hs9;simp(disch:=omega)[m9.now.idx1 rfl,m9.now.int (View.le_refl _)];refine⟨fun e=>hK3 (o8,c8) _ _ rfl rfl ⟨m9,hol8,hor8,by rw[setS,if_neg (by simpa using e)]at hs8;exact hs8⟩,fun e=>?_⟩;refine m9.put1 (α:=Int) (i:=b.toNat) (by kernel_rfl) rfl (by simp) (by simp<;>rfl) (by omega) (mN (by omega) (by omega)) fun h10 m10=>hK3 (o8.set b.toNat bst,true) _ _ rfl rfl ⟨m10,by simpa using hol8,fun i hi=>?_,by rw[setS,if_pos e]at hs8;exact hs8⟩;simp only;rw[aF (by omega)];split
    ·exact hb9
    exact hor8 i hi
   rintro⟨o8,c8⟩ h8 ⟨m8,hol8,hor8,hs8⟩;simp only[List.drop_length,qF,LF,ND]at hs8 m8 hol8 hor8;obtain⟨rfl,rfl⟩:=hs8;simp;refine hK2 m _ _ (by omega) ⟨_,_,rfl,m8,hol8,hor8,fun e=>?_,fun e=>?_⟩
   ·rw[if_pos e]at hfin;exact hfin
   rw[if_neg (by simp[e])]at hfin;exact Option.some.inj hfin
abbrev Tr:=Int × Int × Int
def trV (t:Tr):List PanicEntry:=[{ v:=.iface T.gI (.agg #[.int .i64 t.1,.int .i64 t.2.1,.int .i64 t.2.2]),recovered:=false }]
def bU (n a b:Int):Bool:=decide (a<=n)&&decide (n<=b)
theorem kl{n a:Int}{h:Heap}:az Tryz.prog N.fu #[.int .i64 n,.int .i64 a,.int .i64 b] h (fun v h'=>v = .bool (bU n a b)/\h'=h):=by refine aq (args:=[.int .i64 n,.int .i64 a,.int .i64 b]) follows F.fu E.fu (LD (by kernel_rfl)) fun K hK=>?_;simp[L.fu];exact hK _ _ ⟨by by_cases h1:a<=n<;>simp[bU,h1],rfl⟩
theorem iG{ok:Bool}{e p:Int}{h:Heap}:iZ Tryz.prog N.fI #[.bool ok,.int .i64 e,.int .i64 b,.int .i64 p] h (fun v h'=>ok=true/\h'=h) (fun ch h'=>ok=false/\ch=trV (e,b,p)/\h'=h):=by
 refine iP (args:=[.bool ok,.int .i64 e,.int .i64 b,.int .i64 p]) follows F.fI E.fI (LD (by kernel_rfl)) fun K Kp hK hKp=>?_;cases ok with
 | true=>simp[L.fI];exact hK _ _ ⟨rfl,rfl⟩
 | false=>simp[L.fI];refine aE (z:=.agg #[.int .i64 0,.int .i64 0,.int .i64 0]) (places:=[(0,1),(1,1),(2,1)]) (vs:=[(0,.int .i64 e),(1,.int .i64 b),(2,.int .i64 p)]) (cs:=#[.int .i64 e,.int .i64 b,.int .i64 p]) (by kernel_rfl) (by kernel_rfl) (by simp) (by rfl) ?_;refine EY (d:=(Tryz.prog.underlying T.gI).getD .bool) (by kernel_rfl) (by kernel_rfl) rfl ?_;simp;refine EP (t:=T.gI) (v:=.agg #[.int .i64 e,.int .i64 b,.int .i64 p]) rfl ?_;exact⟨.inl rfl,hKp _ _ ⟨rfl,rfl,rfl⟩⟩
def gR (op:Int):Int × Int:=if op=1 then(0,0) else if op=15 then(1,1) else if op=17 then(0,4) else(2,2)
theorem Ah{op:Int}{h:Heap}:az Tryz.prog N.eB #[.int .i64 op] h (fun v h'=>v = .tuple #[.int .i64 (gR op).1,.int .i64 (gR op).2]/\h'=h):=by refine aq (args:=[.int .i64 op]) follows F.eB E.eB (LD (by kernel_rfl)) fun K hK=>?_;simp[L.eB];refine⟨fun h1=>hK _ _ ⟨by simp[gR,h1],rfl⟩,fun h1=>⟨fun h2=>hK _ _ ⟨by simp[gR,h1,h2],rfl⟩,fun h2=>⟨fun h3=>hK _ _ ⟨by simp[gR,h1,h2,h3],rfl⟩,fun h3=>hK _ _ ⟨by simp[gR,h1,h2,h3],rfl⟩⟩⟩⟩
def dc (i:InsD):List Int:=if i.op=16 then[] else if i.op=18 then[i.dst,i.two] else[i.dst]
theorem FY{d:InsD}{v:Value}{h:Heap}(hd:Rd (vw h) v d):az Tryz.prog N.gB #[v] h (fun u h'=>(vw h).le (vw h')/\SlRd (fresh h h') u (dc d)):=by
 refine aq (args:=[v]) follows F.gB E.gB (LD (by kernel_rfl)) fun K hK=>?_;simp[L.gB];refine gm rfl hd fun h1 _ hle1 hsz1 hat=>?_;obtain⟨c0,c1,c2,va,ca⟩:=rJ hat;have r1:=(hat.part InsD.kQ).rng;have r2:=(hat.part InsD.An).rng;simp[c0];refine⟨fun e1=>hK _ _ ⟨hle1,by simpa[dc,e1]using fo⟩,fun e1=>⟨fun e2=>?_,fun e2=>?_⟩⟩
 ·simp[c1,c2];refine lA (X:=nothing) (ds:=[d.dst,d.two]) (vs:=[.int .i64 d.dst,.int .i64 d.two]) rfl El.aS (by simp) ⟨dr.2 ⟨rfl,r1⟩,dr.2 ⟨rfl,r2⟩,trivial⟩ dg rfl (by omega) fun u h2 hle2 hsz2 hu _=>?_;exact hK _ _ ⟨View.le_trans hle1 hle2,by simpa[dc,e2]using hu _ dg (by unfold fresh;rw[if_neg (by omega)])⟩
 simp[c1];refine lA (X:=nothing) (ds:=[d.dst]) (vs:=[.int .i64 d.dst]) rfl El.aS (by simp) ⟨dr.2 ⟨rfl,r1⟩,trivial⟩ dg rfl (by omega) fun u h2 hle2 hsz2 hu _=>?_;exact hK _ _ ⟨View.le_trans hle1 hle2,by simpa[dc,e1,e2]using hu _ dg (by unfold fresh;rw[if_neg (by omega)])⟩
abbrev MW:=Int->Option (Int × Int)
def encW (w:Int × Int):Value:=.agg #[.int .i64 w.1,.int .i64 w.2]
variable{Kb:Nat}
theorem Hu{ps n p:Int}{h:Heap}(h0:ao (vw h) ⟨Kb,0,none⟩=some (.int .i64 ps)):
  iZ Tryz.prog N.di #[.pointer (some ⟨Kb,0,none⟩),.int .i64 n,.int .i64 b,.int .i64 p] h (fun _ h'=>bU n ps 8191=true/\h'=h) (fun ch h'=>bU n ps 8191=false/\ch=trV (11,b,p)/\h'=h):=by
 refine iP (args:=[.pointer (some ⟨Kb,0,none⟩),.int .i64 n,.int .i64 b,.int .i64 p]) follows F.di E.di (LD (by kernel_rfl)) fun K Kp hK hKp=>?_;simp[L.di,h0];refine aj (by kernel_rfl) kl ?_;rintro _ _ ⟨rfl,rfl⟩;refine dZ (by kernel_rfl) iG ?_ ?_
 ·rintro _ _ ⟨e,rfl⟩;exact hK _ _ ⟨e,rfl⟩
 rintro _ _ ⟨e,rfl,rfl⟩;exact⟨.inl rfl,hKp _ _ ⟨e,rfl,rfl⟩⟩
theorem HQ{r:Nat}{m:MW}{n p:Int}{h:Heap}(h2:ao (skip r h) ⟨Kb,2,none⟩=some (.map (some r)))(hm:gX (.int .i64) h r (mapE encW m)):
  iZ Tryz.prog N.dm #[.pointer (some ⟨Kb,0,none⟩),.int .i64 n,.int .i64 b,.int .i64 p] h (fun _ h'=>m n=none/\gX (.int .i64) h' r (mapE encW (putM m n (b,p)))/\Kept h h' (some r))
   (fun ch h'=>m n≠none/\ch=trV (12,b,p)/\Kept h h' (some r)):=by
 refine iP (args:=[.pointer (some ⟨Kb,0,none⟩),.int .i64 n,.int .i64 b,.int .i64 p]) follows F.dm E.dm (LD (by kernel_rfl)) fun K Kp hK hKp=>?_;simp[L.dm,ae cA h2];refine lZ (z:=.agg #[.int .i64 0,.int .i64 0]) U.gn U.int (by kernel_rfl) (by simp<;>rfl) (by simp<;>rfl) mC hm ?_;simp;refine jO (n:=2) (z:=.agg #[.int .i64 0,.int .i64 0]) (v:=((m n).map encW).getD (.agg #[.int .i64 0,.int .i64 0])) (by kernel_rfl) rfl (by kernel_rfl) (by cases m n<;>rfl) (by cases m n<;>simp[encW,Value.oneCell']) (fun _=>by simp) (fun _=>by simp) fun h3 hle3 _ _=>?_;have k3:=Kept.of_le (b:=some r) hle3;have hm3:=hm.ext hle3;have h23:=ae k3.Dc h2;refine dZ (by kernel_rfl) iG ?_ ?_
 ·rintro _ _ ⟨e,rfl⟩;simp[h23];refine aE (z:=.agg #[.int .i64 0,.int .i64 0]) (places:=[(0,1),(1,1)]) (vs:=[(0,.int .i64 b),(1,.int .i64 p)]) (cs:=#[.int .i64 b,.int .i64 p]) (by kernel_rfl) (by kernel_rfl) (by simp) (by rfl) ?_;refine xZ (v:=encW (b,p)) (.inl rfl) U.gn U.int (by simp<;>rfl) (by simp<;>rfl) (by simp<;>rfl) mC hm3 _ qX.1 qX.2 fun h4 hs4 ho4 hm4=>?_;exact hK _ _ ⟨by simpa using e,hm4,k3.trans (Kept.upd hs4 ho4)⟩
 rintro _ _ ⟨e,rfl,rfl⟩;exact⟨.inl rfl,hKp _ _ ⟨(by intro e2;rw[e2]at e;cases e),rfl,k3⟩⟩
def p9 (b p:Int) (m:MW) (n:Int):Except Tr MW:=if(m n).isSome then .error (12,b,p) else .ok (putM m n (b,p))
def allS (ps:Int) (l:List Int) (b p:Int) (m:MW):Except Tr MW:=if l.all (fun n=>bU n ps 8191) then l.foldlM (p9 b p) m else .error (11,b,p)
structure Lk (h:Heap) (Kb r:Nat) (vb:Value) (f:an) (m:MW):Prop where
 c0:ao (skip r h) ⟨Kb,0,none⟩=some (.int .i64 f.params)
 c1:ao (skip r h) ⟨Kb,1,none⟩=some vb
 c2:ao (skip r h) ⟨Kb,2,none⟩=some (.map (some r))
 rb:SlRd (skip r h) vb f.blocks
 map:gX (.int .i64) h r (mapE encW m)
theorem Lk.kept{h h':Heap}{Kb r:Nat}{vb:Value}{f:an}{m m':MW}(k:Lk h Kb r vb f m)(hk:Kept h h' (some r))(hm:gX (.int .i64) h' r (mapE encW m')):Lk h' Kb r vb f m':=
 ⟨ae hk.skip k.c0,ae hk.skip k.c1,ae hk.skip k.c2,k.rb.mono hk.skip,hm⟩
theorem Lk.ext {h h':Heap} {Kb r:Nat} {vb:Value} {f:an} {m:MW} (k:Lk h Kb r vb f m) (hle:(vw h).le (vw h')):Lk h' Kb r vb f m:=
 k.kept (Kept.of_le hle) (k.map.ext hle)
theorem GO{r:Nat}{vb:Value}{f:an}{m:MW}{l:List Int}{p:Int}{h:Heap}(k:Lk h Kb r vb f m)(hl:SlRd (skip r h) vl l):
  iZ Tryz.prog N.bK #[.pointer (some ⟨Kb,0,none⟩),vl,.int .i64 b,.int .i64 p] h (fun _ h'=>∃m',allS f.params l b p m = .ok m'/\Lk h' Kb r vb f m'/\Kept h h' (some r))
   (fun ch h'=>∃t,allS f.params l b p m = .error t/\ch=trV t/\Kept h h' (some r)):=by
 refine iP (args:=[.pointer (some ⟨Kb,0,none⟩),vl,.int .i64 b,.int .i64 p]) follows F.bK E.bK (LD (by kernel_rfl)) fun K Kp hK hKp=>?_;have hlb:=hl.bound;simp[L.bK,hl.len];refine a6 [0,1,2,3,12,13,14] (fun(_:Unit) i=>[.pointer (some ⟨Kb,0,none⟩),vl,.int .i64 b,.int .i64 p,vl,.int .i64 l.length,.int .i64 i]) (fun _ i h1=>h1=h/\∀j,j<i->bU (nth l j) f.params 8191=true) l.length ()
  rfl (by omega) rfl ⟨rfl,fun j hj=>by omega⟩ (fun _ _=>rfl) (fun v i h1 hk m=>by simp) ?_ ?_
 ·rintro _ i _ hlt ⟨rfl,hpre⟩ K2 hK2;simp(disch:=omega)[hl.idx1 rfl,hl.int cA];refine dZ (by kernel_rfl) (Hu (ae cA k.c0)) ?_ ?_
  ·rintro _ _ ⟨e,rfl⟩;refine hK2 () _ _ rfl rfl ⟨rfl,fun j hj=>?_⟩;rcases LI j i with h | h
   ·exact hpre j h
   have:j=i:=by omega
   subst this;exact e
  rintro _ _ ⟨e,rfl,rfl⟩;refine⟨.inl rfl,hKp _ _ ⟨_,?_,rfl,Kept.refl _ _⟩⟩;rw[allS,if_neg];intro ha;rw[M8.1 ha _ (bc hlt)]at e;cases e
 rintro _ h ⟨rfl,hpre⟩;have hall:allS f.params l b p m=l.foldlM (p9 b p) m:=by rw[allS,if_pos];rw[M8];intro x hx;obtain⟨j,hj,rfl⟩:=LQ hx;rw[<-ak hj];exact hpre j hj
 rw[hall]at hK hKp;simp[hl.len];refine a6 [0,2,3,24,25,26] (fun(_:Unit) i=>[.pointer (some ⟨Kb,0,none⟩),.int .i64 b,.int .i64 p,vl,.int .i64 l.length,.int .i64 i]) (fun _ i h1=>∃m',(l.take i).foldlM (p9 b p) m = .ok m'/\Lk h1 Kb r vb f m'/\Kept h h1 (some r)) l.length ()
  rfl (by omega) rfl ⟨m,rfl,k,Kept.refl _ _⟩ (fun _ _=>rfl) (fun v i h1 hk m=>by simp) ?_ ?_
 ·rintro _ i h1 hlt ⟨m1,hm1,k1,kp1⟩ K2 hK2;have hl1:=hl.mono kp1.Dc;have hst:=B1 hlt hm1;simp(disch:=omega)[hl1.idx1 rfl,hl1.int (View.le_refl _)];refine dZ (by kernel_rfl) (HQ k1.c2 k1.map) ?_ ?_
  ·rintro _ h2 ⟨e,hm2,kp2⟩;refine hK2 () _ _ rfl rfl ⟨_,by rw[hst,p9,e];rfl,k1.kept kp2 hm2,kp1.trans kp2⟩
  rintro _ h2 ⟨e,rfl,kp2⟩;refine⟨.inl rfl,hKp _ _ ⟨_,Dn (k:=i+1) (by rw[hst,p9,if_pos (Option.isSome_iff_ne_none.2 e)]),rfl,kp1.trans kp2⟩⟩
 rintro _ h1 ⟨m1,hm1,k1,kp1⟩;rw[MK]at hm1;simp;exact hK _ _ ⟨m1,hm1,k1,kp1⟩
end Go.Proofs.YtbkdlhkoiagbbaaGreat
