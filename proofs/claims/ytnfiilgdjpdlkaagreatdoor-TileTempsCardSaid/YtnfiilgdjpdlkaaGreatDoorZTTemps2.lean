/- A part of the proof: Le, Lf, Lg, Lh, Li, Lj, Lk, Ll, Shelf, Wk, Wl, Wm, Wn, Wo, Wq, Wr, Ws. -/
import Derived.Test.YtnfiilgdjpdlkaaGreatDoorZTTemps1
import Derived.Test.YtnfiilgdjpdlkaaGreatDoorProg
import Derived.KernelRfl
import Derived.Shelf.Small.Bits
import Derived.Shelf.Small.Wraps
import Derived.Shelf.Strconv.Itoa0
import Derived.Shelf.Sort.Plain
import Derived.Shelf.Unicode.Latin
import Derived.Shelf.Unicode.Is16White
import Derived.Shelf.Unicode.IsSpaceAny
import Derived.Shelf.Unicode.Is16Any
import Derived.Shelf.Unicode.Is32Any
import Derived.Shelf.Unicode.ExclAny
import Derived.Shelf.Slices.Turned
import Derived.Shelf.Slices.Reverse
import Derived.Ground.Names2Prog
import Derived.Shelf.Slices.CompactI
import Derived.Shelf.Slices.SearchI
import Derived.Shelf.Slices.Cells
import Derived.Shelf.Slices.In.SortNone
set_option linter.unusedSimpArgs false
set_option linter.unusedVariables false
namespace Go.Proofs.YtnfiilgdjpdlkaaGreatDoor
open Go Go.Lft
section
set_option maxRecDepth 100000
abbrev N.bT:Nat:=46
def L.bT.l1:LC:=by apply(fun{b:LC}(_:b=q [k [18] [(18,j .lss (t 17) (t 16))],u 18 .skip (.exit 0),.block 1 (q [k [19,20,12] [(12,d (i 1 (t 15) (t 17)))],k [21,22,23] [(23,j .eql (t 12) (d (t 4)))],u 23 (.reg false (l [24,25,26] [(24,d (t 5))] [(25,t 0),(26,t 1)] (.build 116 #[(0,a 25),(1,a 26)]) 116 27 (p (w [27]) (.buildSlice 113 1 #[(0,a 27)]) 113 28 (p (w [24,28]) (.call ⟨.builtin .append,#[a 24,a 28],#[113,113]⟩) 113 29 (s [] [] (w [5,29]) (.store 113 (a 5) (a 29)) z))))) .skip]),k [30,17] [(17,o (t 17) (c 1))]])=>b);simp only[sh];rfl
def L.bT.l2:LC:=by apply(fun{b:LC}(_:b=q [k [34] [(34,j .lss (t 33) (t 32))],u 34 .skip (.exit 2),.block 3 (q [k [35,36,14] [(14,d (i 1 (t 31) (t 33)))],k [37,38,39] [(39,j .eql (t 14) (d (t 4)))],u 39 (.reg false (l [40,41,42] [(40,d (t 6))] [(41,t 0),(42,t 1)] (.build 116 #[(0,a 41),(1,a 42)]) 116 43 (p (w [43]) (.buildSlice 113 1 #[(0,a 43)]) 113 44 (p (w [40,44]) (.call ⟨.builtin .append,#[a 40,a 44],#[113,113]⟩) 113 45 (s [] [] (w [6,45]) (.store 113 (a 6) (a 45)) z))))) .skip]),k [46,33] [(33,o (t 33) (c 1))]])=>b);simp only[sh];rfl
def L.bT:LFn:=by apply(fun{b:LFn}(_:b=⟨[],q [q [k [15,16,17] [(15,t 2),(16,h (t 2)),(17,c 0)],v 0 L.bT.l1],k [31,32,33] [(31,t 3),(32,h (t 3)),(33,c 0)],v 2 L.bT.l2]⟩)=>b);simp only[sh];rfl
theorem E.bT:aN Tryz.prog Tryz.f46=some L.bT:=by kernel_rfl
theorem F.bT:Tryz.prog.funcs[N.bT]? = some Tryz.f46:=Tryz.func46
abbrev N.slices_Contains_int:Nat:=47
def L.slices_Contains_int:LFn:=by apply(fun{b:LFn}(_:b=⟨[t 4],q [k [4] [(4,.con (.bool false))],.reg false (l [5,6] [] [(5,t 0),(6,t 1)] (x 73 [5,6] [22,3]) 3 7 (.fin [8,4] [(4,j .geq (t 7) (c 0))] [])),.ret]⟩)=>b);simp only[sh];rfl
theorem E.slices_Contains_int:aN Tryz.prog Tryz.f47=some L.slices_Contains_int:=by kernel_rfl
theorem F.slices_Contains_int:Tryz.prog.funcs[N.slices_Contains_int]? = some Tryz.f47:=Tryz.func47
abbrev N.aX:Nat:=50
def L.aX.l1:LC:=by apply(fun{b:LC}(_:b=f 0 16 6 [14,15,16] [17,18,6] (j .lss (t 6) (t 1)) (.block 1 (q [k [19,20,7] [(7,.bin (.arith .sub) (t 6) (c 1))],q [.reg false (l [21] [] [(21,t 0)] (.call ⟨.value (.func 34),#[a 21,.const (.int .i64 3)],#[87,3]⟩) 3 22 (.fin [23] [(23,j .eql (t 22) (c 0))] [])),u 23 (.reg false (l [24,25] [] [(24,t 0),(25,t 6)] (x 34 [24,25] [87,3]) 3 26 (.fin [7] [(7,t 26)] []))) .skip],.reg false (l [27,28,29,30,31,32,33] [(27,t 5),(28,t 7),(32,d (i 1 (t 5) (t 7)))] [(33,t 6)] (.buildSlice 22 1 #[(0,a 33)]) 22 34 (p (w [32,34]) (.call ⟨.builtin .append,#[a 32,a 34],#[22,22]⟩) 22 35 (s [36] [] [(36,i 1 (t 27) (t 28)),(35,t 35)] (.store 22 (a 36) (a 35)) z)))])))=>b);simp only[sh];rfl
def L.aX.l3:LC:=by apply(fun{b:LC}(_:b=f 4 51 10 [44,45,46,47,48,49,50,51] [52,53,10] (.ite (j .lss (t 10) (.bin (.arith .sub) (t 9) (c 3))) (j .gtr (t 1) (c 1)) (.con (.bool false))) (.block 5 (q [.reg false (l [54,55,56] [] [(54,t 0),(56,.bin (.arith .sub) (t 1) (c 1))] (x 34 [54,56] [87,3]) 3 57 (.fin [58,11] [(11,o (c 1) (t 57))] [])),q [.reg false (.loud [59,60,61,62,63] [(62,j .leq (t 11) (t 8))] [(63,.gd (j .leq (t 11) (t 8)) true (t 0))] (some (j .leq (t 11) (t 8),true)) [] false (.call ⟨.value (.func 34),#[a 63,.const (.int .i64 2)],#[87,3]⟩) 3 (some 64) true (.fin [65,66] [(66,.ite (t 62) (j .eql (t 64) (c 0)) (.con (.bool false)))] [])),u 66 (k [67,68,69,70,71,11] [(11,.bin .min (o (t 8) (c 1)) (.bin (.arith .sub) (t 1) (c 1)))]) .skip],.reg false (l [72,73,74,75,76,77,78] [(72,t 5),(73,t 8),(77,d (i 1 (t 5) (t 8)))] [(78,t 11)] (.buildSlice 22 1 #[(0,a 78)]) 22 79 (p (w [77,79]) (.call ⟨.builtin .append,#[a 77,a 79],#[22,22]⟩) 22 80 (s [81] [] [(81,i 1 (t 72) (t 73)),(80,t 80)] (.store 22 (a 81) (a 80)) z)))])))=>b);simp only[sh];rfl
def L.aX.l2:LC:=by apply(fun{b:LC}(_:b=f 2 39 8 [37,38,39] [40,41,8] (j .lss (t 8) (t 1)) (.block 3 (q [.reg false (l [42] [] [(42,t 0)] (.call ⟨.value (.func 34),#[a 42,.const (.int .i64 6)],#[87,3]⟩) 3 43 (.fin [9] [(9,t 43)] [])),k [10] [(10,c 0)],v 4 L.aX.l3])))=>b);simp only[sh];rfl
def L.aX:LFn:=by apply(fun{b:LFn}(_:b=⟨[t 4],q [k [4] [(4,.con (.slice none 0 0))],.reg false (l [12] [] [(12,t 1),(12,t 1)] (.makeSlice 120 (a 12) (a 12)) 120 13 (.fin [5] [(5,t 13)] [])),q [k [6] [(6,c 1)],v 0 L.aX.l1],q [k [8] [(8,c 0)],v 2 L.aX.l2],k [82,4] [(4,t 5)],.ret]⟩)=>b);simp only[sh];rfl
theorem E.aX:aN Tryz.prog Tryz.f50=some L.aX:=by kernel_rfl
theorem F.aX:Tryz.prog.funcs[N.aX]? = some Tryz.f50:=Tryz.func50
abbrev N.dV:Nat:=51
def L.dV.l2:LC:=by apply(fun{b:LC}(_:b=f 2 27 8 [24,25,26,27] [28,29,8] (j .lss (t 8) (h (t 7))) (.block 3 (q [k [30,31,32,33,34,35] [(35,j .eql (d (i 1 (t 7) (t 8))) (t 1))],u 35 (q [.reg false (l [36,37] [(36,t 5)] [(37,t 6)] (.buildSlice 22 1 #[(0,a 37)]) 22 38 (p (w [36,38]) (.call ⟨.builtin .append,#[a 36,a 38],#[22,22]⟩) 22 39 (.fin [5] [(5,t 39)] []))),.exit 2]) .skip])))=>b);simp only[sh];rfl
def L.dV.l1:LC:=by apply(fun{b:LC}(_:b=f 0 14 6 [10,11,12,13,14] [15,16,6] (j .lss (t 6) (h (g 1 (t 2)))) (.block 1 (q [k [17,18,19,20,21,22,23,7] [(7,g 2 (e 2 (i 6 (g 1 (t 2)) (t 6))))],k [8] [(8,c 0)],v 2 L.dV.l2])))=>b);simp only[sh];rfl
def L.dV:LFn:=by apply(fun{b:LFn}(_:b=⟨[t 4],q [.reg false (p (w [0]) (.box 27 (a 0)) 0 2 (.fin [4] [(4,.con (.slice none 0 0))] [])),.reg false (p [] (.buildSlice 22 0 #[]) 22 9 (.fin [5] [(5,t 9)] [])),q [k [6] [(6,c 0)],v 0 L.dV.l1],k [40,4] [(4,t 5)],.ret]⟩)=>b);simp only[sh];rfl
theorem E.dV:aN Tryz.prog Tryz.f51=some L.dV:=by kernel_rfl
theorem F.dV:Tryz.prog.funcs[N.dV]? = some Tryz.f51:=Tryz.func51
abbrev N.bU:Nat:=52
def L.bU:LFn:=by apply(fun{b:LFn}(_:b=⟨[t 2],q [k [2] [(2,c 0)],.reg false (s [3,4,5,6,7,8,9,10] [] [(10,e 4 (.un .nilPtr (t 0))),(8,o (g 4 (.un .nilPtr (t 0))) (c 1))] (.store 3 (a 10) (a 8)) z),k [11,12,13,14,15,2] [(2,.bin (.arith .sub) (g 4 (.un .nilPtr (t 0))) (c 1))],.ret]⟩)=>b);simp only[sh];rfl
theorem E.bU:aN Tryz.prog Tryz.f52=some L.bU:=by kernel_rfl
theorem F.bU:Tryz.prog.funcs[N.bU]? = some Tryz.f52:=Tryz.func52
abbrev N.da:Nat:=53
def L.da.l2:LC:=by apply(fun{b:LC}(_:b=f 2 47 9 [44,45,46,47] [48,49,9] (j .lss (t 9) (h (t 8))) (.block 3 (q [k [50,51,52,53,54,55,56,57,58,59,60,61,62,63,64,65,66,67,68,69,70,71,72,73,74,75,76,77,78,79,80,81] [(81,.ite (.ite (.ite (j .geq (d (i 1 (t 8) (t 9))) (c 0)) (j .lss (d (i 1 (t 8) (t 9))) (h (t 5))) (.con (.bool false))) (.un .not (d (i 1 (t 5) (d (i 1 (t 8) (t 9)))))) (.con (.bool false))) (j .neq (d (i 1 (t 8) (t 9))) (t 1)) (.con (.bool false)))],u 81 (q [.reg false (s [82,83,84,85,86,87] [] [(87,i 1 (t 5) (d (i 1 (t 8) (t 9))))] (.store 4 (a 87) (.const (.bool true))) z),.reg false (l [88,89,90,91,92] [(88,t 6)] [(92,d (i 1 (t 8) (t 9)))] (.buildSlice 22 1 #[(0,a 92)]) 22 93 (p (w [88,93]) (.call ⟨.builtin .append,#[a 88,a 93],#[22,22]⟩) 22 94 (.fin [6] [(6,t 94)] [])))]) .skip])))=>b);simp only[sh];rfl
def L.da.l1:LC:=by apply(fun{b:LC}(_:b=f 0 31 7 [28,29,30,31] [32,33,7] (j .lss (t 7) (h (t 6))) (.block 1 (q [.reg true (.fin [34,35,36,37,38,39,40,41,42,43,8] [(8,g 2 (e 2 (i 6 (g 1 (t 2)) (d (i 1 (t 6) (t 7))))))] []),k [9] [(9,c 0)],v 2 L.da.l2])))=>b);simp only[sh];rfl
def L.da:LFn:=by apply(fun{b:LFn}(_:b=⟨[t 4],q [.reg false (p (w [0]) (.box 27 (a 0)) 0 2 (.fin [4] [(4,.con (.slice none 0 0))] [])),.reg false (l [10,11,12] [] [(12,h (g 1 (t 2))),(12,h (g 1 (t 2)))] (.makeSlice 123 (a 12) (a 12)) 123 13 (.fin [5] [(5,t 13)] [])),.reg false (p [] (.buildSlice 22 0 #[]) 22 14 (.fin [6] [(6,t 14)] [])),q [k [15,16,17,18,19,20,21,22] [(22,.ite (j .neq (t 1) (c 0)) (j .gtr (h (g 1 (t 2))) (c 0)) (.con (.bool false)))],u 22 (q [.reg false (s [23,24] [] [(24,i 1 (t 5) (c 0))] (.store 4 (a 24) (.const (.bool true))) z),.reg false (l [25] [(25,t 6)] [] (.buildSlice 22 1 #[(0,.const (.int .i64 0))]) 22 26 (p (w [25,26]) (.call ⟨.builtin .append,#[a 25,a 26],#[22,22]⟩) 22 27 (.fin [6] [(6,t 27)] [])))]) .skip],q [k [7] [(7,c 0)],v 0 L.da.l1],k [95,4] [(4,t 5)],.ret]⟩)=>b);simp only[sh];rfl
theorem E.da:aN Tryz.prog Tryz.f53=some L.da:=by kernel_rfl
theorem F.da:Tryz.prog.funcs[N.da]? = some Tryz.f53:=Tryz.func53
abbrev N.fN:Nat:=54
def L.fN:LFn:=by apply(fun{b:LFn}(_:b=⟨[t 2],q [.reg false (p (w [0]) (.box 70 (a 0)) 0 1 (.fin [2] [(2,.con (.slice none 0 0))] [])),q [k [3,4] [(4,g 0 (t 1))],.block 0 (q [k [6,5] [(5,j .eql (t 4) (c 16))],u 5 (q [k [2] [(2,.con (.slice none 0 0))],.ret]) (q [k [8,7] [(7,j .eql (t 4) (c 18))],u 7 (q [.reg false (l [9,10,11,12] [] [(10,g 1 (t 1)),(12,g 2 (t 1))] (.buildSlice 22 2 #[(0,a 10),(1,a 12)]) 22 13 (.fin [2] [(2,t 13)] [])),.ret]) .skip])])],.reg false (l [14,15] [] [(15,g 1 (t 1))] (.buildSlice 22 1 #[(0,a 15)]) 22 16 (.fin [2] [(2,t 16)] [])),.ret]⟩)=>b);simp only[sh];rfl
theorem E.fN:aN Tryz.prog Tryz.f54=some L.fN:=by kernel_rfl
theorem F.fN:Tryz.prog.funcs[N.fN]? = some Tryz.f54:=Tryz.func54
abbrev N.bc:Nat:=55
def L.bc.l1:LC:=by apply(fun{b:LC}(_:b=f 1 122 14 [120,121,122] [123,124,14] (j .lss (t 14) (t 13)) (.block 2 (.reg false (l [125,126,127] [(125,t 12)] [(126,t 0),(127,t 1)] (x 88 [126,127] [87,3]) 3 128 (p (w [128]) (.buildSlice 22 1 #[(0,a 128)]) 22 129 (p (w [125,129]) (.call ⟨.builtin .append,#[a 125,a 129],#[22,22]⟩) 22 130 (.fin [12] [(12,t 130)] [])))))))=>b);simp only[sh];rfl
def L.bc:LFn:=by apply(fun{b:LFn}(_:b=⟨[],q [.reg false (l [18] [] [(18,t 0)] (.call ⟨.value (.func 34),#[a 18,.const (.int .i64 20)],#[87,3]⟩) 3 19 (.fin [4] [(4,t 19)] [])),.block 0 (q [k [26,27,25] [(25,j .lss (t 4) (c 12))],u 25 (q [.reg false (p [] (.build 154 #[(0,.const (.int .i64 2)),(1,.const (.int .i64 2)),(2,.const (.int .i64 3)),(3,.const (.int .i64 4)),(4,.const (.int .i64 5)),(5,.const (.int .i64 6)),(6,.const (.int .i64 7)),(7,.const (.int .i64 8)),(8,.const (.int .i64 9)),(9,.const (.int .i64 10)),(10,.const (.int .i64 12)),(11,.const (.int .i64 11))]) 154 28 (p [] (.alloc 154) 0 5 (s [] [] (w [5,28]) (.store 154 (a 5) (a 28)) z))),.reg false (l [29,30] [] [(29,t 0),(30,t 1)] (x 88 [29,30] [87,3]) 3 31 (.fin [6] [(6,t 31)] [])),.reg false (l [32,33] [] [(32,t 0),(33,t 1)] (x 88 [32,33] [87,3]) 3 34 (.fin [7] [(7,t 34)] [])),q [.reg false (l [35] [] [(35,t 0)] (.call ⟨.value (.func 34),#[a 35,.const (.int .i64 3)],#[87,3]⟩) 3 36 (.fin [37] [(37,j .eql (t 36) (c 0))] [])),u 37 (.reg false (l [38,39,40] [(38,t 0),(39,t 1)] [(40,t 0)] (.call ⟨.value (.func 34),#[a 40,.const (.int .i64 40)],#[87,3]⟩) 3 41 (l [42,43] [] [(38,t 38),(39,t 39),(43,.un (.conv .i32) (.bin (.arith .sub) (t 41) (c 8)))] (x 58 [38,39,43] [87,3,21]) 3 44 (.fin [7] [(7,t 44)] [])))) .skip],.reg true (.both (l [45,46,47,48,49,50,52,53] [(45,t 0),(46,t 1),(49,d (.bin (.aidx 12 1) (t 5) (t 4))),(52,t 6),(53,t 7)] [(50,t 0)] (x 52 [50] [87]) 3 51 (p (w [52,53]) (.buildSlice 22 2 #[(0,a 52),(1,a 53)]) 22 54 (.loud [] [] (w [49,51,54]) none [] true (.build 70 #[(0,a 49),(1,a 51),(3,a 54)]) 70 (some 55) true (.loud [] [] (w [45,46,55]) none [] false (x 89 [45,46,55] [87,3,70]) 0 (some 56) false z)))) (l [45,46,47,48,49,50,52,53] [(45,t 0),(46,t 1),(49,d (.bin (.aidx 12 1) (t 5) (t 4))),(50,t 0)] [(52,t 6),(53,t 7)] (.buildSlice 22 2 #[(0,a 52),(1,a 53)]) 22 54 (p (w [50]) (x 52 [50] [87]) 3 51 (.loud [] [] (w [49,51,54]) none [] true (.build 70 #[(0,a 49),(1,a 51),(3,a 54)]) 70 (some 55) true (.loud [] [] (w [45,46,55]) none [] false (x 89 [45,46,55] [87,3,70]) 0 (some 56) false z)))))]) (q [k [58,59,57] [(57,j .eql (t 4) (c 12))],u 57 (q [.reg false (l [60,61] [] [(60,t 0),(61,t 1)] (x 88 [60,61] [87,3]) 3 62 (.fin [8] [(8,t 62)] [])),.reg false (l [63,64] [] [(63,t 0),(64,t 1)] (x 88 [63,64] [87,3]) 3 65 (.fin [9] [(9,t 65)] [])),.reg false (l [66,67,68] [(66,t 0),(67,t 1)] [(68,t 0)] (x 52 [68] [87]) 3 69 (l [70,71] [] [(70,t 8),(71,t 9)] (.buildSlice 22 2 #[(0,a 70),(1,a 71)]) 22 72 (p (w [69,72]) (.build 70 #[(0,.const (.int .i64 13)),(1,a 69),(3,a 72)]) 70 73 (.loud [] [] (w [66,67,73]) none [] false (x 89 [66,67,73] [87,3,70]) 0 (some 74) false z))))]) (q [k [76,77,75] [(75,j .eql (t 4) (c 13))],u 75 (q [.reg false (l [78,79] [] [(78,t 0),(79,t 1)] (x 88 [78,79] [87,3]) 3 80 (.fin [10] [(10,t 80)] [])),.reg false (l [81,82,83] [(81,t 0),(82,t 1)] [(83,t 0)] (.call ⟨.value (.func 34),#[a 83,.const (.int .i64 12)],#[87,3]⟩) 3 84 (l [85] [] [(81,t 81),(82,t 82),(85,.un (.conv .i32) (t 84))] (x 58 [81,82,85] [87,3,21]) 3 86 (.fin [11] [(11,t 86)] []))),q [.reg false (l [87] [] [(87,t 0)] (.call ⟨.value (.func 34),#[a 87,.const (.int .i64 3)],#[87,3]⟩) 3 88 (.fin [89] [(89,j .gtr (t 88) (c 0))] [])),u 89 (.reg false (l [90,91,92] [(90,t 0),(91,t 1)] [(92,t 0)] (.call ⟨.value (.func 34),#[a 92,.const (.int .i64 12)],#[87,3]⟩) 3 93 (l [94,95] [] [(90,t 90),(91,t 91),(95,o (.con (.int .i32 1)) (.un (.conv .i32) (t 93)))] (x 58 [90,91,95] [87,3,21]) 3 96 (.fin [11] [(11,t 96)] [])))) .skip],.reg false (l [97,98,99] [(97,t 0),(98,t 1)] [(99,t 0)] (x 52 [99] [87]) 3 100 (l [101,102] [] [(101,t 10),(102,t 11)] (.buildSlice 22 2 #[(0,a 101),(1,a 102)]) 22 103 (p (w [100,103]) (.build 70 #[(0,.const (.int .i64 14)),(1,a 100),(3,a 103)]) 70 104 (.loud [] [] (w [97,98,104]) none [] false (x 89 [97,98,104] [87,3,70]) 0 (some 105) false z))))]) (q [k [107,108,106] [(106,j .lss (t 4) (c 16))],u 106 (.reg false (.loud [109,110,111,112] [] [(109,t 0),(110,t 1),(112,j .eql (t 4) (c 15))] none [] false (x 90 [109,110,112] [87,3,4]) 0 (some 113) false z)) (q [k [115,116,114] [(114,j .eql (t 4) (c 16))],u 114 (q [.reg false (p [] (.buildSlice 22 0 #[]) 22 117 (.fin [12] [(12,t 117)] [])),.reg false (l [118] [] [(118,t 0)] (.call ⟨.value (.func 34),#[a 118,.const (.int .i64 5)],#[87,3]⟩) 3 119 (.fin [13] [(13,t 119)] [])),q [k [14] [(14,c 0)],v 1 L.bc.l1],.reg false (l [131,132,133] [(131,t 0),(132,t 1)] [(133,t 0)] (x 52 [133] [87]) 3 134 (l [135,136] [(135,t 12)] [(136,t 0)] (.call ⟨.value (.func 34),#[a 136,.const (.int .i64 5)],#[87,3]⟩) 3 137 (l [138] [] [(134,t 134),(135,t 135),(138,.un (.conv .i32) (t 137))] (.build 70 #[(0,.const (.int .i64 17)),(1,a 134),(3,a 135),(4,a 138)]) 70 139 (.loud [] [] (w [131,132,139]) none [] false (x 89 [131,132,139] [87,3,70]) 0 (some 140) false z))))]) (q [k [142,143,141] [(141,j .eql (t 4) (c 17))],u 141 (q [.reg false (l [144,145] [] [(144,t 0),(145,t 1)] (x 88 [144,145] [87,3]) 3 146 (.fin [15] [(15,t 146)] [])),.reg false (l [147,148] [] [(147,t 0),(148,t 1)] (x 88 [147,148] [87,3]) 3 149 (.fin [16] [(16,t 149)] [])),.reg false (l [150] [] [(150,t 0)] (x 52 [150] [87]) 3 151 (.fin [17] [(17,t 151)] [])),.reg false (l [152,153,154,155] [(152,t 0),(153,t 1),(154,t 17)] [(155,t 0)] (x 52 [155] [87]) 3 156 (l [157,158] [] [(157,t 15),(158,t 16)] (.buildSlice 22 2 #[(0,a 157),(1,a 158)]) 22 159 (p (w [154,156,159]) (.build 70 #[(0,.const (.int .i64 18)),(1,a 154),(2,a 156),(3,a 159)]) 70 160 (.loud [] [] (w [152,153,160]) none [] false (x 89 [152,153,160] [87,3,70]) 0 (some 161) false z))))]) (.reg false (l [20,21,22] [(20,t 0),(21,t 1)] [(22,t 0)] (x 59 [22] [87]) 21 23 (.loud [] [] (w [20,21,23]) none [] false (x 58 [20,21,23] [87,3,21]) 3 (some 24) false z)))])])])])])])]⟩)=>b);simp only[sh];rfl
theorem E.bc:aN Tryz.prog Tryz.f55=some L.bc:=by kernel_rfl
theorem F.bc:Tryz.prog.funcs[N.bc]? = some Tryz.f55:=Tryz.func55
abbrev N.dO:Nat:=56
def L.dO:LFn:=by apply(fun{b:LFn}(_:b=⟨[],q [.reg false (p [] (.build 33 #[]) 33 15 (p [] (.alloc 33) 0 6 (s [] [] (w [6,15]) (.store 33 (a 6) (a 15)) z))),q [k [16,17] [(17,h (t 2))],.block 0 (q [k [41,40] [(40,j .eql (t 17) (c 0))],u 40 (q [.reg false (s [42] [] [(42,e 0 (t 6))] (.store 3 (a 42) (.const (.int .i64 4))) z),.reg false (l [43] [] [(43,t 0)] (.call ⟨.value (.func 34),#[a 43,.const (.int .i64 8)],#[87,3]⟩) 3 44 (.fin [7] [(7,t 44)] [])),k [45,46] [(46,j .eql (t 7) (c 0))],u 46 (q [.reg false (s [47] [] [(47,e 0 (t 6))] (.store 3 (a 47) (.const (.int .i64 5))) z),.reg false (l [48] [] [(48,t 0)] (.call ⟨.value (.func 34),#[a 48,.const (.int .i64 200)],#[87,3]⟩) 3 49 (s [50,51] [] [(51,e 3 (t 6)),(50,.un (.conv .i32) (t 49))] (.store 21 (a 51) (a 50)) z))]) (q [k [52,53] [(53,j .gtr (t 7) (c 1))],u 53 (.reg false (l [54,55] [] [(54,t 0),(55,t 1)] (x 88 [54,55] [87,3]) 3 56 (p (w [56]) (.buildSlice 22 1 #[(0,a 56)]) 22 57 (s [58] [] [(58,e 1 (t 6)),(57,t 57)] (.store 22 (a 58) (a 57)) z)))) .skip])]) (q [k [60,59] [(59,j .eql (t 17) (c 1))],u 59 (q [.reg false (s [61] [] [(61,e 0 (t 6))] (.store 3 (a 61) (.const (.int .i64 1))) z),.reg false (s [62,63] [] [(63,e 2 (t 6)),(62,t 2)] (.store 22 (a 63) (a 62)) z)]) (q [k [65,64] [(64,j .eql (t 17) (c 2))],u 64 (q [.reg false (s [66] [] [(66,e 0 (t 6))] (.store 3 (a 66) (.const (.int .i64 2))) z),.reg false (s [67,68] [] [(68,e 2 (t 6)),(67,t 2)] (.store 22 (a 68) (a 67)) z),.reg false (l [69,70] [] [(69,t 0),(70,t 1)] (x 88 [69,70] [87,3]) 3 71 (.fin [8] [(8,t 71)] [])),q [.reg false (l [72] [] [(72,t 0)] (.call ⟨.value (.func 34),#[a 72,.const (.int .i64 2)],#[87,3]⟩) 3 73 (.fin [74] [(74,j .eql (t 73) (c 0))] [])),u 74 (q [.reg false (p [] (.build 23 #[(0,.const (.int .i64 11)),(1,.const (.int .i64 12)),(2,.const (.int .i64 13))]) 23 75 (p [] (.alloc 23) 0 9 (s [] [] (w [9,75]) (.store 23 (a 9) (a 75)) z))),.reg false (l [76,77] [] [(76,t 0),(77,t 1)] (x 88 [76,77] [87,3]) 3 78 (.fin [10] [(10,t 78)] [])),.reg false (l [79] [] [(79,t 0)] (x 52 [79] [87]) 3 80 (.fin [11] [(11,t 80)] [])),.reg false (l [81,82,83] [(81,t 0),(82,t 1)] [(83,t 0)] (.call ⟨.value (.func 34),#[a 83,.const (.int .i64 3)],#[87,3]⟩) 3 84 (l [85,86,87,88,89] [(86,d (.bin (.aidx 3 1) (t 9) (t 84))),(87,t 11)] [(88,t 8),(89,t 10)] (.buildSlice 22 2 #[(0,a 88),(1,a 89)]) 22 90 (p (w [86,87,90]) (.build 70 #[(0,a 86),(1,a 87),(3,a 90)]) 70 91 (.loud [] [] (w [81,82,91]) none [] false (x 89 [81,82,91] [87,3,70]) 0 (some 92) false z)))),k [93,8] [(8,t 11)]]) .skip],.reg false (l [94] [] [(94,t 8)] (.buildSlice 22 1 #[(0,a 94)]) 22 95 (s [96] [] [(96,e 1 (t 6)),(95,t 95)] (.store 22 (a 96) (a 95)) z))]) (q [.reg false (s [18] [] [(18,e 0 (t 6))] (.store 3 (a 18) (.const (.int .i64 3))) z),.reg false (s [19,20] [] [(20,e 2 (t 6)),(19,t 2)] (.store 22 (a 20) (a 19)) z),.reg false (l [21,22] [] [(21,t 0),(22,t 1)] (x 88 [21,22] [87,3]) 3 23 (.fin [12] [(12,t 23)] [])),.reg false (l [24,25] [] [(24,t 0),(25,t 1)] (.call ⟨.value (.func 58),#[a 24,a 25,.const (.int .i32 7)],#[87,3,21]⟩) 3 26 (.fin [13] [(13,t 26)] [])),.reg false (l [27] [] [(27,t 0)] (x 52 [27] [87]) 3 28 (.fin [14] [(14,t 28)] [])),.reg false (l [29,30,31,32,33] [(29,t 0),(30,t 1),(31,t 14)] [(32,t 12),(33,t 13)] (.buildSlice 22 2 #[(0,a 32),(1,a 33)]) 22 34 (p (w [31,34]) (.build 70 #[(0,.const (.int .i64 5)),(1,a 31),(3,a 34)]) 70 35 (.loud [] [] (w [29,30,35]) none [] false (x 89 [29,30,35] [87,3,70]) 0 (some 36) false z))),.reg false (l [37] [] [(37,t 14)] (.buildSlice 22 1 #[(0,a 37)]) 22 38 (s [39] [] [(39,e 1 (t 6)),(38,t 38)] (.store 22 (a 39) (a 38)) z))])])])])],.reg true (.loud [97,98,99,100,101,102,103,104,105] [] [(105,e 2 (i 6 (g 1 (e 2 (.un .nilPtr (t 0)))) (t 1))),(103,.un (.au 4) (t 6))] none [] true (.store 33 (a 105) (a 103)) 0 none false z)]⟩)=>b);simp only[sh];rfl
theorem E.dO:aN Tryz.prog Tryz.f56=some L.dO:=by kernel_rfl
theorem F.dO:Tryz.prog.funcs[N.dO]? = some Tryz.f56:=Tryz.func56
abbrev N.cT:Nat:=57
def L.cT.l1:LC:=by apply(fun{b:LC}(_:b=f 0 15 6 [12,13,14,15] [16,17,6] (j .lss (t 6) (g 0 (t 2))) (.block 1 (.reg false (l [18,19] [(18,t 5)] [(19,t 6)] (.buildSlice 22 1 #[(0,a 19)]) 22 20 (p (w [18,20]) (.call ⟨.builtin .append,#[a 18,a 20],#[22,22]⟩) 22 21 (.fin [5] [(5,t 21)] []))))))=>b);simp only[sh];rfl
def L.cT.l2:LC:=by apply(fun{b:LC}(_:b=f 2 27 8 [24,25,26,27] [28,29,8] (j .lss (t 8) (h (t 7))) (.block 3 (q [k [9] [(9,.con (.bool true))],q [k [30,31,32,33,34,35,36] [(36,j .neq (g 0 (i 4 (t 7) (t 8))) (t 1))],u 36 (q [.reg true (.loud [37,38,39,40,41,42] [] [(37,.un (.au 2) (t 2)),(42,g 0 (i 4 (t 7) (t 8)))] none [] true (x 53 [37,42] [27,3]) 123 (some 43) true (.fin [10] [(10,t 43)] [])),k [44,45,46,47,48,9] [(9,.un .not (d (i 1 (t 10) (t 1))))]]) .skip],k [49] [(49,t 9)],u 49 (.reg false (l [50,51,52,53,54,55] [] [(50,t 5),(55,g 2 (i 4 (t 7) (t 8)))] (.call ⟨.builtin .append,#[a 50,a 55],#[22,22]⟩) 22 56 (.fin [5] [(5,t 56)] []))) .skip])))=>b);simp only[sh];rfl
def L.cT:LFn:=by apply(fun{b:LFn}(_:b=⟨[t 4],q [.reg false (p (w [0]) (.box 27 (a 0)) 0 2 (.fin [4] [(4,.con (.slice none 0 0))] [])),.reg false (p [] (.buildSlice 22 0 #[]) 22 11 (.fin [5] [(5,t 11)] [])),q [k [6] [(6,c 0)],v 0 L.cT.l1],.reg false (l [22] [] [(22,.un (.au 2) (t 2))] (x 91 [22] [27]) 157 23 (.fin [7] [(7,t 23)] [])),q [k [8] [(8,c 0)],v 2 L.cT.l2],k [57,4] [(4,t 5)],.ret]⟩)=>b);simp only[sh];rfl
theorem E.cT:aN Tryz.prog Tryz.f57=some L.cT:=by kernel_rfl
theorem F.cT:Tryz.prog.funcs[N.cT]? = some Tryz.f57:=Tryz.func57
abbrev N.bK:Nat:=58
def L.bK:LFn:=by apply(fun{b:LFn}(_:b=⟨[t 6],q [k [6] [(6,c 0)],.reg false (l [8] [] [(8,t 0)] (x 52 [8] [87]) 3 9 (.fin [7] [(7,t 9)] [])),.reg false (l [10,11,12,13] [(10,t 0),(11,t 1)] [(12,t 7),(13,t 2)] (.build 70 #[(0,.const (.int .i64 1)),(1,a 12),(4,a 13)]) 70 14 (.loud [] [] (w [10,11,14]) none [] false (x 89 [10,11,14] [87,3,70]) 0 (some 15) false z)),k [16,6] [(6,t 7)],.ret]⟩)=>b);simp only[sh];rfl
theorem E.bK:aN Tryz.prog Tryz.f58=some L.bK:=by kernel_rfl
theorem F.bK:Tryz.prog.funcs[N.bK]? = some Tryz.f58:=Tryz.func58
abbrev N.cW:Nat:=59
def L.cW:LFn:=by apply(fun{b:LFn}(_:b=⟨[t 2],q [k [2] [(2,.con (.int .i32 0))],.reg false (l [4] [] [(4,t 0)] (.call ⟨.value (.func 34),#[a 4,.const (.int .i64 1048576)],#[87,3]⟩) 3 5 (.fin [3] [(3,t 5)] [])),q [.reg false (l [6] [] [(6,t 0)] (.call ⟨.value (.func 34),#[a 6,.const (.int .i64 8)],#[87,3]⟩) 3 7 z),.block 0 (q [k [9,8] [(8,j .eql (t 7) (c 0))],u 8 (q [k [10,11,12,2] [(2,.un (.conv .i32) (.bin (.arith .mul) (t 3) (c 4099)))],.ret]) (q [k [14,13] [(13,j .eql (t 7) (c 1))],u 13 (q [.reg false (l [15] [] [(15,t 3)] (.unOp .neg 3 (a 15)) 3 16 (.fin [17,2] [(2,.un (.conv .i32) (t 16))] [])),.ret]) (q [k [19,18] [(18,j .eql (t 7) (c 2))],u 18 (q [k [2] [(2,.con (.int .i32 (-2147483648)))],.ret]) (q [k [21,20] [(20,j .eql (t 7) (c 3))],u 20 (q [k [22,23,24,2] [(2,.un (.conv .i32) (.bin (.div .rem) (t 3) (c 70000)))],.ret]) .skip])])])])],k [25,26,27,28,2] [(2,.un (.conv .i32) (.bin (.arith .sub) (.bin (.div .rem) (t 3) (c 20)) (c 4)))],.ret]⟩)=>b);simp only[sh];rfl
theorem E.cW:aN Tryz.prog Tryz.f59=some L.cW:=by kernel_rfl
theorem F.cW:Tryz.prog.funcs[N.cW]? = some Tryz.f59:=Tryz.func59
end
section
set_option maxRecDepth 100000
abbrev N.eF:Nat:=63
def L.eF:LFn:=by apply(fun{b:LFn}(_:b=⟨[.un (.au 8) (t 4),t 5],q [.reg false (p (w [0]) (.box 97 (a 0)) 0 2 (p [] (.alloc 101) 0 4 (.fin [5] [(5,.con (.bool false))] []))),.reg false (l [12,13] [(13,.un (.au 4) (e 7 (t 2)))] [] (.alloc 33) 0 6 (s [] [] (w [6,13]) (.store 33 (a 6) (a 13)) z)),.reg false (l [14,15] [] [(15,g 2 (t 6))] (x 99 [15] [22]) 22 16 (.fin [7] [(7,t 16)] [])),.block 0 (q [k [18,19,20,21,22,23,24,17] [(17,.ite (j .eql (t 1) (c 0)) (j .eql (g 0 (t 6)) (c 1)) (.con (.bool false)))],u 17 (q [.reg false (l [25] [] [(25,t 7)] (.build 38 #[(0,.const (.int .i64 1)),(3,a 25)]) 38 26 (p (w [26]) (.build 101 #[(3,a 26)]) 101 27 (s [] [] (w [4,27]) (.store 101 (a 4) (a 27)) (.fin [5] [(5,.con (.bool true))] [])))),.ret]) (q [k [29,30,31,32,33,34,35,28] [(28,.ite (j .eql (t 1) (c 0)) (j .eql (g 0 (t 6)) (c 4)) (.con (.bool false)))],u 28 (q [.reg false (p [] (.build 38 #[(0,.const (.int .i64 7)),(1,.const (.int .i64 (-1)))]) 38 36 (p [] (.alloc 38) 0 8 (s [] [] (w [8,36]) (.store 38 (a 8) (a 36)) z))),q [k [37,38,39,40] [(40,j .gtr (h (g 1 (t 6))) (c 0))],u 40 (.reg false (s [41,42,43,44,45] [] [(45,e 1 (t 8)),(44,d (i 1 (g 1 (t 6)) (c 0)))] (.store 3 (a 45) (a 44)) z)) .skip],.reg true (l [46,47,49] [(49,.un (.au 5) (t 8))] [(47,g 1 (t 6))] (x 99 [47] [22]) 22 48 (.loud [] [] (w [48,49]) none [] true (.build 101 #[(0,a 48),(3,a 49)]) 101 (some 50) true (s [] [] (w [4,50]) (.store 101 (a 4) (a 50)) (.fin [5] [(5,.con (.bool true))] [])))),.ret]) (q [k [52,53,54,55,56,57,58,51] [(51,.ite (j .eql (t 1) (c 0)) (j .eql (g 0 (t 6)) (c 5)) (.con (.bool false)))],u 51 (q [.reg false (l [59,60] [] [(60,g 3 (t 6))] (.build 38 #[(0,.const (.int .i64 8)),(4,a 60)]) 38 61 (p (w [61]) (.build 101 #[(3,a 61)]) 101 62 (s [] [] (w [4,62]) (.store 101 (a 4) (a 62)) (.fin [5] [(5,.con (.bool true))] [])))),.ret]) (q [k [64,65,66,67,68,69,70,63] [(63,.ite (j .eql (t 1) (c 33)) (j .eql (g 0 (t 6)) (c 2)) (.con (.bool false)))],u 63 (q [.reg true (.both (l [71,72,74,75,76,77,78] [(77,d (i 1 (g 1 (t 6)) (c 0))),(78,t 7)] [(72,g 1 (t 6))] (x 99 [72] [22]) 22 73 (p (w [77,78]) (.build 38 #[(0,.const (.int .i64 2)),(1,a 77),(3,a 78)]) 38 79 (.loud [] [] (w [73,79]) none [] true (.build 101 #[(0,a 73),(3,a 79)]) 101 (some 80) true (s [] [] (w [4,80]) (.store 101 (a 4) (a 80)) (.fin [5] [(5,.con (.bool true))] []))))) (l [71,72,74,75,76,77,78] [(72,g 1 (t 6))] [(77,d (i 1 (g 1 (t 6)) (c 0))),(78,t 7)] (.build 38 #[(0,.const (.int .i64 2)),(1,a 77),(3,a 78)]) 38 79 (p (w [72]) (x 99 [72] [22]) 22 73 (.loud [] [] (w [73,79]) none [] true (.build 101 #[(0,a 73),(3,a 79)]) 101 (some 80) true (s [] [] (w [4,80]) (.store 101 (a 4) (a 80)) (.fin [5] [(5,.con (.bool true))] [])))))),.ret]) (q [.reg false (l [82] [] [(82,t 1)] (.call ⟨.value (.func 42),#[a 82,.const (.int .i64 34),.const (.int .i64 36)],#[3,3,3]⟩) 4 83 (.fin [84,85,86,87,88,81] [(81,.ite (t 83) (j .eql (g 0 (t 6)) (c 2)) (.con (.bool false)))] [])),u 81 (q [k [89,90,9] [(9,.bin (.arith .sub) (t 1) (c 34))],.reg true (.both (.loud [92,93,94,95,96,97,98] [] [(92,.un (.au 13) (t 2)),(96,d (i 1 (g 1 (t 6)) (c 0))),(98,o (c 11) (t 9))] none [] true (x 100 [92,96,98] [97,3,3]) 163 (some 99) true (l [91,100,101] [(100,.un (.ext 0) (t 99)),(101,.un (.ext 1) (t 99))] [] (.alloc 70) 0 10 (s [] [] (w [10,100]) (.store 70 (a 10) (a 100)) (.fin [11] [(11,t 101)] [])))) (l [92,93,94,95,96,97,98] [(92,.un (.au 13) (t 2)),(96,d (i 1 (g 1 (t 6)) (c 0))),(98,o (c 11) (t 9))] [] (.alloc 70) 0 10 (.loud [] [] (w [92,96,98]) none [] true (x 100 [92,96,98] [97,3,3]) 163 (some 99) true (s [91,100,101] [(101,.un (.ext 1) (t 99))] [(10,t 10),(100,.un (.ext 0) (t 99))] (.store 70 (a 10) (a 100)) (.fin [11] [(11,t 101)] []))))),q [k [102,103] [(103,.un .not (t 11))],u 103 (q [.reg false (p [] (.build 101 #[]) 101 104 (s [] [] (w [4,104]) (.store 101 (a 4) (a 104)) (.fin [5] [(5,.con (.bool false))] []))),.ret]) .skip],.reg true (.both (l [105,106,108,109,111,112,113,114,115,116,117,118,119,120,121] [(109,g 1 (t 6)),(112,o (c 3) (t 9)),(116,d (i 1 (g 3 (t 10)) (c 0))),(120,d (i 1 (g 3 (t 10)) (c 1))),(121,t 7)] [(106,g 3 (t 10))] (x 99 [106] [22]) 22 107 (.both (p (w [109]) (x 99 [109] [22]) 22 110 (p (w [112,116,120,121]) (.build 38 #[(0,a 112),(1,a 116),(2,a 120),(3,a 121)]) 38 122 (.loud [] [] (w [107,110,122]) none [] true (.build 101 #[(0,a 107),(1,a 110),(3,a 122)]) 101 (some 123) true (s [] [] (w [4,123]) (.store 101 (a 4) (a 123)) (.fin [5] [(5,.con (.bool true))] []))))) (p (w [112,116,120,121]) (.build 38 #[(0,a 112),(1,a 116),(2,a 120),(3,a 121)]) 38 122 (p (w [109]) (x 99 [109] [22]) 22 110 (.loud [] [] (w [107,110,122]) none [] true (.build 101 #[(0,a 107),(1,a 110),(3,a 122)]) 101 (some 123) true (s [] [] (w [4,123]) (.store 101 (a 4) (a 123)) (.fin [5] [(5,.con (.bool true))] []))))))) (l [105,106,108,109,111,112,113,114,115,116,117,118,119,120,121] [(106,g 3 (t 10)),(109,g 1 (t 6))] [(112,o (c 3) (t 9)),(116,d (i 1 (g 3 (t 10)) (c 0))),(120,d (i 1 (g 3 (t 10)) (c 1))),(121,t 7)] (.build 38 #[(0,a 112),(1,a 116),(2,a 120),(3,a 121)]) 38 122 (p (w [106]) (x 99 [106] [22]) 22 107 (p (w [109]) (x 99 [109] [22]) 22 110 (.loud [] [] (w [107,110,122]) none [] true (.build 101 #[(0,a 107),(1,a 110),(3,a 122)]) 101 (some 123) true (s [] [] (w [4,123]) (.store 101 (a 4) (a 123)) (.fin [5] [(5,.con (.bool true))] []))))))),.ret]) (q [k [125,126,127,128,129,130,131,124] [(124,.ite (j .eql (t 1) (c 37)) (j .eql (g 0 (t 6)) (c 3)) (.con (.bool false)))],u 124 (q [.reg true (.both (l [132,133,135,136,137,138,139] [(138,d (i 1 (g 1 (t 6)) (c 0))),(139,t 7)] [(133,g 1 (t 6))] (x 99 [133] [22]) 22 134 (p (w [138,139]) (.build 38 #[(0,.const (.int .i64 6)),(1,a 138),(3,a 139)]) 38 140 (.loud [] [] (w [134,140]) none [] true (.build 101 #[(0,a 134),(3,a 140)]) 101 (some 141) true (s [] [] (w [4,141]) (.store 101 (a 4) (a 141)) (.fin [5] [(5,.con (.bool true))] []))))) (l [132,133,135,136,137,138,139] [(133,g 1 (t 6))] [(138,d (i 1 (g 1 (t 6)) (c 0))),(139,t 7)] (.build 38 #[(0,.const (.int .i64 6)),(1,a 138),(3,a 139)]) 38 140 (p (w [133]) (x 99 [133] [22]) 22 134 (.loud [] [] (w [134,140]) none [] true (.build 101 #[(0,a 134),(3,a 140)]) 101 (some 141) true (s [] [] (w [4,141]) (.store 101 (a 4) (a 141)) (.fin [5] [(5,.con (.bool true))] [])))))),.ret]) .skip])])])])])]),.reg false (p [] (.build 101 #[]) 101 142 (s [] [] (w [4,142]) (.store 101 (a 4) (a 142)) (.fin [5] [(5,.con (.bool false))] []))),.ret]⟩)=>b);simp only[sh];rfl
theorem E.eF:aN Tryz.prog Tryz.f63=some L.eF:=by kernel_rfl
theorem F.eF:Tryz.prog.funcs[N.eF]? = some Tryz.f63:=Tryz.func63
end
section
set_option maxRecDepth 100000
abbrev N.bj:Nat:=64
def L.bj.l1:LC:=by apply(fun{b:LC}(_:b=q [q [k [21,22] [(22,j .leq (d (t 7)) (c 14))],u 22 .skip (.exit 0)],.block 1 (.reg false (.loud [25,26,27,28,29,30] [] [(25,d (t 6)),(26,d (t 7)),(29,.bin (.arith .sub) (o (c 3) (d (t 7))) (c 2)),(30,.un (.fn 106) (.snoc (.snoc (.con (.tuple #[])) (t 7)) (t 3)))] none [] false (.call ⟨.value (a 25),#[a 26,a 29,a 30],#[3,3,136]⟩) 0 (some 31) false z)),q [k [32] [(32,d (t 7))],.reg false (p [] (.alloc 3) 0 7 (s [] [] (w [7,32]) (.store 3 (a 7) (a 32)) z))],.reg false (s [23,24] [] [(7,t 7),(24,o (d (t 7)) (c 1))] (.store 3 (a 7) (a 24)) z)])=>b);simp only[sh];rfl
def L.bj.l2:LC:=by apply(fun{b:LC}(_:b=q [k [43] [(43,j .lss (t 42) (t 41))],u 43 .skip (.exit 2),.block 3 (q [k [44,45,46,9,10] [(9,t 42),(10,d (i 1 (t 40) (t 42)))],.reg false (.loud [47,48,49,50,51,52] [] [(47,t 8),(48,t 10),(50,o (c 19) (t 9)),(52,o (c 20) (t 9))] none [] false (.call ⟨.value (a 47),#[a 48,a 50,a 52,.const (.int .i64 0),.const (.int .i64 31),.const (.int .i64 1)],#[3,3,3,3,3,3]⟩) 0 (some 53) false z)]),k [54,42] [(42,o (t 42) (c 1))]])=>b);simp only[sh];rfl
def L.bj:LFn:=by apply(fun{b:LFn}(_:b=⟨[t 2],q [.reg false (p (w [0]) (.box 97 (a 0)) 0 1 (.fin [2] [(2,.con (.map none))] [])),.reg false (l [11,12] [(12,.un (.au 5) (e 2 (t 1)))] [] (.alloc 70) 0 3 (s [] [] (w [3,12]) (.store 70 (a 3) (a 12)) z)),.reg false (p [] (.alloc 136) 0 4 (s [] [] (w [4]) (.store 136 (a 4) (.func 101)) z)),.reg false (p [] (.makeMap 138 none) 138 13 (p [] (.alloc 138) 0 5 (s [] [] (w [5,13]) (.store 138 (a 5) (a 13)) z))),.reg false (l [14] [(14,.un (.fn 102) (.snoc (.snoc (.snoc (.snoc (.con (.tuple #[])) (t 1)) (t 3)) (t 5)) (t 4)))] [] (.alloc 171) 0 6 (s [] [] (w [6,14]) (.store 171 (a 6) (a 14)) z)),.reg false (.loud [15,16] [] [(15,d (t 6)),(16,.un (.fn 103) (.snoc (.con (.tuple #[])) (t 3)))] none [] false (.call ⟨.value (a 15),#[.const (.int .i64 1),.const (.int .i64 1),a 16],#[3,3,136]⟩) 0 (some 17) false z),.reg false (.loud [18,19] [] [(18,d (t 6)),(19,.un (.fn 105) (.snoc (.con (.tuple #[])) (t 3)))] none [] false (.call ⟨.value (a 18),#[.const (.int .i64 1),.const (.int .i64 2),a 19],#[3,3,136]⟩) 0 (some 20) false z),q [.reg false (p [] (.alloc 3) 0 7 (s [] [] (w [7]) (.store 3 (a 7) (.const (.int .i64 2))) z)),v 0 L.bj.l1],k [33,8] [(8,.un (.fn 107) (.snoc (.snoc (.snoc (.con (.tuple #[])) (t 6)) (t 1)) (t 3)))],.reg false (.loud [34] [] [(34,t 8)] none [] false (.call ⟨.value (a 34),#[.const (.int .i64 2),.const (.int .i64 16),.const (.int .i64 18),.const (.int .i64 (-128)),.const (.int .i64 127),.const (.int .i64 1)],#[3,3,3,3,3,3]⟩) 0 (some 35) false z),.reg false (.loud [36] [] [(36,t 8)] none [] false (.call ⟨.value (a 36),#[.const (.int .i64 3),.const (.int .i64 17),.const (.int .i64 18),.const (.int .i64 (-127)),.const (.int .i64 128),.const (.int .i64 (-1))],#[3,3,3,3,3,3]⟩) 0 (some 37) false z),.reg false (.loud [38] [] [(38,t 8)] none [] false (.call ⟨.value (a 38),#[.const (.int .i64 5),.const (.int .i64 18),.const (.int .i64 19),.const (.int .i64 (-128)),.const (.int .i64 127),.const (.int .i64 1)],#[3,3,3,3,3,3]⟩) 0 (some 39) false z),q [.reg false (p [] (.buildSlice 22 3 #[(0,.const (.int .i64 8)),(1,.const (.int .i64 9)),(2,.const (.int .i64 10))]) 22 40 (.fin [41,42] [(41,h (t 40)),(42,c 0)] [])),v 2 L.bj.l2],.reg false (.loud [55,56] [] [(55,d (t 6)),(56,.un (.fn 110) (.snoc (.snoc (.snoc (.con (.tuple #[])) (t 1)) (t 3)) (t 4)))] none [] false (.call ⟨.value (a 55),#[.const (.int .i64 2),.const (.int .i64 22),a 56],#[3,3,136]⟩) 0 (some 57) false z),.reg false (.loud [58,59] [] [(58,.un (.au 13) (t 1)),(59,d (t 6))] none [] false (.call ⟨.value (.func 111),#[a 58,a 59,.const (.int .i64 23),.const (.int .i64 15),.const (.int .i64 24),.const (.int .i64 25)],#[97,171,3,3,3,3]⟩) 0 (some 60) false z),.reg false (.loud [61,62] [] [(61,.un (.au 13) (t 1)),(62,d (t 6))] none [] false (.call ⟨.value (.func 111),#[a 61,a 62,.const (.int .i64 27),.const (.int .i64 16),.const (.int .i64 26),.const (.int .i64 27)],#[97,171,3,3,3,3]⟩) 0 (some 63) false z),.reg false (.loud [64,65] [] [(64,d (t 6)),(65,.un (.fn 112) (.snoc (.con (.tuple #[])) (t 3)))] none [] false (.call ⟨.value (a 64),#[.const (.int .i64 17),.const (.int .i64 31),a 65],#[3,3,136]⟩) 0 (some 66) false z),.reg false (.loud [67,68] [] [(67,d (t 6)),(68,.un (.fn 113) (.snoc (.con (.tuple #[])) (t 3)))] none [] false (.call ⟨.value (a 67),#[.const (.int .i64 18),.const (.int .i64 32),a 68],#[3,3,136]⟩) 0 (some 69) false z),k [70,2] [(2,d (t 5))],.ret]⟩)=>b);simp only[sh];rfl
theorem E.bj:aN Tryz.prog Tryz.f64=some L.bj:=by kernel_rfl
theorem F.bj:Tryz.prog.funcs[N.bj]? = some Tryz.f64:=Tryz.func64
abbrev N.cR:Nat:=67
def L.cR:LFn:=by apply(fun{b:LFn}(_:b=⟨[],q [.reg false (p [] (.call ⟨.builtin .recover,#[],#[]⟩) 20 6 z),.block 0 (q [.reg false (p (w [6]) (.binOp .eql 20 (a 6) (.const .nilIface) 20) 4 8 z),u 8 (.reg false (.fin [3] [] [t 6])) (q [.reg false (p (w [6]) (.typeAssert (a 6) 20 144 true) 0 9 (.fin [10,11] [(10,.un (.ext 1) (t 9)),(11,.un (.ext 0) (t 9))] [])),u 10 (q [.reg false (p [] (.alloc 144) 0 4 (s [] [] (w [4,11]) (.store 144 (a 4) (a 11)) z)),.reg true (s [12,13,14,15,16,17] [(15,g 1 (t 4)),(17,g 2 (t 4))] [(0,t 0),(13,g 0 (t 4))] (.store 57 (a 0) (a 13)) (s [] [] (w [1,15]) (.store 3 (a 1) (a 15)) (.loud [] [] (w [2,17]) none [] true (.store 3 (a 2) (a 17)) 0 none false z)))]) (q [k [5] [(5,t 6)],.reg false (s [7] [] [(7,t 5)] (.panic (a 7)) z)])])])]⟩)=>b);simp only[sh];rfl
theorem F.cR:Tryz.prog.funcs[N.cR]? = some Tryz.f67:=Tryz.func67
theorem Q.cR:Tryz.f67.body=some (.seq (.region (G6 (xD Tryz.f67)) #[IC Tryz.f67 0] false) (Hu Tryz.f67)):=by kernel_rfl
theorem E.nX:ey Tryz.prog Tryz.f67.ntmps (iU Tryz.f67) (EX Tryz.f67) false (Hu Tryz.f67)=some L.cR.body.tail:=by kernel_rfl
abbrev N.fw:Nat:=68
def L.fw:LFn:=by apply(fun{b:LFn}(_:b=⟨[],q [k [8,9] [(9,.un .not (t 0))],u 9 (.reg false (l [10,11,12] [] [(10,t 1),(11,t 2),(12,t 3)] (.build 144 #[(0,a 10),(1,a 11),(2,a 12)]) 144 13 (p (w [13]) (.makeInterface 144 (a 13)) 20 14 (s [] [] (w [14]) (.panic (a 14)) z)))) .skip]⟩)=>b);simp only[sh];rfl
theorem E.fw:aN Tryz.prog Tryz.f68=some L.fw:=by kernel_rfl
theorem F.fw:Tryz.prog.funcs[N.fw]? = some Tryz.f68:=Tryz.func68
abbrev N.fh:Nat:=69
def L.fh:LFn:=by apply(fun{b:LFn}(_:b=⟨[t 6],q [k [6] [(6,.con (.bool false))],k [7,8,9,10,11,12,13,14,6] [(6,.ite (j .geq (t 0) (t 1)) (j .leq (t 0) (t 2)) (.con (.bool false)))],.ret]⟩)=>b);simp only[sh];rfl
theorem E.fh:aN Tryz.prog Tryz.f69=some L.fh:=by kernel_rfl
theorem F.fh:Tryz.prog.funcs[N.fh]? = some Tryz.f69:=Tryz.func69
abbrev N.aR:Nat:=70
def L.aR.l2:LC:=by apply(fun{b:LC}(_:b=q [k [29] [(29,j .lss (t 28) (t 27))],u 29 .skip (.exit 2),.block 3 (q [.reg false (l [30,31,32] [(30,t 28),(32,.un (.au 2) (i 2 (t 26) (t 28)))] [] (.alloc 93) 0 5 (s [4] [(4,t 30)] (w [5,32]) (.store 93 (a 5) (a 32)) z)),.reg false (l [33,34,35] [(33,t 0)] [(35,g 0 (t 5))] (.buildSlice 22 1 #[(0,a 35)]) 22 36 (.loud [37,38,39] [] [(33,t 33),(36,t 36),(37,t 2),(39,.bin (.arith .sub) (c (-1)) (t 4))] none [] false (x 115 [33,36,37,39] [146,22,3,3]) 0 (some 40) false z))]),k [41,28] [(28,o (t 28) (c 1))]])=>b);simp only[sh];rfl
def L.aR.l3:LC:=by apply(fun{b:LC}(_:b=q [k [46] [(46,j .lss (t 45) (t 44))],u 46 .skip (.exit 4),.block 5 (q [.reg false (l [47,48,49] [(47,t 45),(49,.un (.au 5) (i 5 (t 43) (t 45)))] [] (.alloc 70) 0 7 (s [6] [(6,t 47)] (w [7,49]) (.store 70 (a 7) (a 49)) z)),.reg false (l [50,51] [] [(51,g 0 (t 7))] (.call ⟨.value (.func 69),#[a 51,.const (.int .i64 1),.const (.int .i64 18)],#[3,3,3]⟩) 4 52 (.loud [53,54] [] [(52,t 52),(53,t 2),(54,t 6)] none [] false (.call ⟨.value (.func 68),#[a 52,.const (.int .i64 10),a 53,a 54],#[4,57,3,3]⟩) 0 (some 55) false z)),.reg false (l [57,58] [] [(58,g 0 (t 7))] (x 116 [58] [3]) 182 59 (.fin [56,60,61,8,9] [(8,.un (.ext 0) (t 59)),(9,.un (.ext 1) (t 59))] [])),.reg false (l [62,63,64,65,66] [] [(64,h (g 3 (t 7))),(65,t 8),(66,t 9)] (x 69 [64,65,66] [3,3,3]) 4 67 (.loud [68,69] [] [(67,t 67),(68,t 2),(69,t 6)] none [] false (.call ⟨.value (.func 68),#[a 67,.const (.int .i64 10),a 68,a 69],#[4,57,3,3]⟩) 0 (some 70) false z)),.reg false (l [71,72] [(71,t 0)] [(72,.un (.au 5) (t 7))] (x 72 [72] [70]) 22 73 (.loud [74,75] [] [(71,t 71),(73,t 73),(74,t 2),(75,t 6)] none [] false (x 115 [71,73,74,75] [146,22,3,3]) 0 (some 76) false z))]),k [77,45] [(45,o (t 45) (c 1))]])=>b);simp only[sh];rfl
def L.aR.l4:LC:=by apply(fun{b:LC}(_:b=q [k [119] [(119,j .lss (t 118) (t 117))],u 119 .skip (.exit 6),.block 7 (q [k [120,121,13] [(13,d (i 1 (t 116) (t 118)))],.reg true (l [122,123,124,125,126,127,128,129,131,132,133,134] [(131,t 2),(134,h (g 1 (t 3)))] [(122,t 13),(129,.bin (.arith .sub) (h (g 1 (e 0 (.un .nilPtr (t 0))))) (c 1))] (.call ⟨.value (.func 69),#[a 122,.const (.int .i64 1),a 129],#[3,3,3]⟩) 4 130 (.loud [] [] (w [130,131,134]) none [] true (.call ⟨.value (.func 68),#[a 130,.const (.int .i64 14),a 131,a 134],#[4,57,3,3]⟩) 0 (some 135) false z))]),k [136,118] [(118,o (t 118) (c 1))]])=>b);simp only[sh];rfl
def L.aR.l1:LC:=by apply(fun{b:LC}(_:b=q [k [21] [(21,j .lss (t 20) (t 19))],u 21 .skip (.exit 0),.block 1 (q [.reg false (l [22,23,24] [(22,t 20),(24,.un (.au 6) (i 6 (t 18) (t 20)))] [] (.alloc 35) 0 3 (s [2] [(2,t 22)] (w [3,24]) (.store 35 (a 3) (a 24)) z)),q [k [25,26,27,28] [(26,g 0 (t 3)),(27,h (g 0 (t 3))),(28,c 0)],v 2 L.aR.l2],q [k [42,43,44,45] [(43,g 1 (t 3)),(44,h (g 1 (t 3))),(45,c 0)],v 4 L.aR.l3],.reg true (.both (l [80,81,82] [(82,g 0 (e 2 (t 3)))] [] (x 117 [] []) 187 79 (.both (.loud [] [] (w [79,82]) none [] true (.lookup 187 (a 79) (a 82) true) 186 (some 83) true (l [78,84,85] [(84,.un (.ext 0) (t 83)),(85,.un (.ext 1) (t 83))] [] (.alloc 185) 0 10 (s [] [] (w [10,84]) (.store 185 (a 10) (a 84)) (.fin [11] [(11,t 85)] [])))) (p [] (.alloc 185) 0 10 (.loud [] [] (w [79,82]) none [] true (.lookup 187 (a 79) (a 82) true) 186 (some 83) true (s [78,84,85] [(85,.un (.ext 1) (t 83))] [(10,t 10),(84,.un (.ext 0) (t 83))] (.store 185 (a 10) (a 84)) (.fin [11] [(11,t 85)] [])))))) (l [80,81,82] [(82,g 0 (e 2 (t 3)))] [] (.alloc 185) 0 10 (p [] (x 117 [] []) 187 79 (.loud [] [] (w [79,82]) none [] true (.lookup 187 (a 79) (a 82) true) 186 (some 83) true (s [78,84,85] [(85,.un (.ext 1) (t 83))] [(10,t 10),(84,.un (.ext 0) (t 83))] (.store 185 (a 10) (a 84)) (.fin [11] [(11,t 85)] [])))))),.reg true (.loud [86,87,88,89,90,91,92,93,94,95,109,110,111,112] [(87,t 11),(109,t 2),(112,h (g 1 (t 3)))] [(91,.gd (t 11) true (h (g 1 (e 2 (t 3))))),(93,.gd (t 11) true (g 0 (t 10))),(95,.gd (t 11) true (g 1 (t 10)))] (some (t 11,true)) [] false (x 69 [91,93,95] [3,3,3]) 4 (some 96) true (.loud [97,98,99,100,101,102,103,104,105,106] [(98,.ite (t 87) (t 96) (.con (.bool false)))] [(102,.gd (.ite (t 87) (t 96) (.con (.bool false))) true (h (g 2 (e 2 (t 3))))),(104,.gd (.ite (t 87) (t 96) (.con (.bool false))) true (g 2 (t 10))),(106,.gd (.ite (t 87) (t 96) (.con (.bool false))) true (g 3 (t 10)))] (some (.ite (t 87) (t 96) (.con (.bool false)),true)) [] false (x 69 [102,104,106] [3,3,3]) 4 (some 107) true (.loud [108] [] [(108,.ite (t 98) (t 107) (.con (.bool false))),(109,t 109),(112,t 112)] none [] true (.call ⟨.value (.func 68),#[a 108,.const (.int .i64 10),a 109,a 112],#[4,57,3,3]⟩) 0 (some 113) false z))),k [114,115,116,117,118] [(116,g 2 (e 2 (t 3))),(117,h (g 2 (e 2 (t 3)))),(118,c 0)],v 6 L.aR.l4]),k [137,20] [(20,o (t 20) (c 1))]])=>b);simp only[sh];rfl
def L.aR:LFn:=by apply(fun{b:LFn}(_:b=⟨[],q [k [14,15,16,17,18,19,20] [(18,g 1 (e 0 (.un .nilPtr (t 0)))),(19,h (g 1 (e 0 (.un .nilPtr (t 0))))),(20,c 0)],v 0 L.aR.l1]⟩)=>b);simp only[sh];rfl
theorem E.aR:aN Tryz.prog Tryz.f70=some L.aR:=by kernel_rfl
theorem F.aR:Tryz.prog.funcs[N.aR]? = some Tryz.f70:=Tryz.func70
abbrev N.aC:Nat:=71
def L.aC.l1:LC:=by apply(fun{b:LC}(_:b=q [k [37] [(37,j .lss (t 36) (t 35))],u 37 .skip (.exit 0),.block 1 (q [k [38,4] [(4,t 36)],.reg false (l [39,40] [] [(39,t 3),(40,t 4)] (x 47 [39,40] [22,3]) 4 41 (.loud [42] [] [(41,t 41),(42,t 4)] none [] false (.call ⟨.value (.func 68),#[a 41,.const (.int .i64 15),a 42,.const (.int .i64 0)],#[4,57,3,3]⟩) 0 (some 43) false z))]),k [44,36] [(36,o (t 36) (c 1))]])=>b);simp only[sh];rfl
def L.aC.l4:LC:=by apply(fun{b:LC}(_:b=q [k [86] [(86,j .lss (t 85) (t 84))],u 86 .skip (.exit 6),.block 7 (q [.reg false (l [87,88,89] [(87,t 85),(89,.un (.au 2) (i 2 (t 83) (t 85)))] [] (.alloc 95) 0 14 (s [13] [(13,t 87)] (w [14,89]) (.store 95 (a 14) (a 89)) z)),.reg true (.fin [90,91,92,93,94,95,96,97,98,99,100,101,102,12] [(12,.ite (t 12) (j .eql (g 0 (t 14)) (d (i 1 (d (i 1 (t 5) (t 8))) (t 13)))) (.con (.bool false)))] [])]),k [103,85] [(85,o (t 85) (c 1))]])=>b);simp only[sh];rfl
def L.aC.l5:LC:=by apply(fun{b:LC}(_:b=q [k [113] [(113,j .lss (t 112) (t 111))],u 113 .skip (.exit 8),.block 9 (q [.reg false (l [114,115] [(115,.un (.au 2) (i 2 (t 110) (t 112)))] [] (.alloc 95) 0 16 (s [] [] (w [16,115]) (.store 95 (a 16) (a 115)) z)),.reg true (.loud [116,117,118,119,120,121,122,123,124,125,126,127,128,129,130,131,132,133,134] [] [(116,t 7),(118,g 1 (t 16)),(120,g 0 (t 16)),(122,.bin (.arith .sub) (c (-1)) (t 10)),(133,h (g 1 (i 6 (g 1 (e 0 (.un .nilPtr (d (t 1))))) (g 0 (t 16))))),(134,t 8)] none [] true (.call ⟨.value (a 116),#[a 118,a 120,a 122,a 133,a 134],#[3,3,3,3,3]⟩) 0 (some 135) false z)]),k [136,112] [(112,o (t 112) (c 1))]])=>b);simp only[sh];rfl
def L.aC.l3:LC:=by apply(fun{b:LC}(_:b=q [k [65] [(65,j .lss (t 64) (t 63))],u 65 .skip (.exit 4),.block 5 (q [.reg false (l [66,67,68] [(66,t 64),(68,.un (.au 2) (i 2 (t 62) (t 64)))] [] (.alloc 93) 0 11 (s [10] [(10,t 66)] (w [11,68]) (.store 93 (a 11) (a 68)) z)),.reg true (.fin [69,70,71,72,73,74,75,76,77,78,79,80,81,12] [(12,.ite (j .gtr (t 8) (c 0)) (j .eql (h (g 1 (t 11))) (h (d (i 1 (t 5) (t 8))))) (.con (.bool false)))] []),q [k [82,83,84,85] [(83,g 1 (t 11)),(84,h (g 1 (t 11))),(85,c 0)],v 6 L.aC.l4],.reg false (.loud [104,105,106,107] [] [(104,t 12),(105,t 8),(107,.bin (.arith .sub) (c (-1)) (t 10))] none [] false (.call ⟨.value (.func 68),#[a 104,.const (.int .i64 16),a 105,a 107],#[4,57,3,3]⟩) 0 (some 108) false z),k [109,110,111,112] [(110,g 1 (t 11)),(111,h (g 1 (t 11))),(112,c 0)],v 8 L.aC.l5]),k [137,64] [(64,o (t 64) (c 1))]])=>b);simp only[sh];rfl
def L.aC.l7:LC:=by apply(fun{b:LC}(_:b=q [k [150] [(150,j .lss (t 149) (t 148))],u 150 .skip (.exit 12),.block 13 (q [k [151,152,20] [(20,d (i 1 (t 147) (t 149)))],.reg false (.loud [153,154,155,156,157,158] [] [(153,t 7),(154,t 20),(155,t 8),(156,t 17),(157,t 17),(158,t 8)] none [] false (.call ⟨.value (a 153),#[a 154,a 155,a 156,a 157,a 158],#[3,3,3,3,3]⟩) 0 (some 159) false z)]),k [160,149] [(149,o (t 149) (c 1))]])=>b);simp only[sh];rfl
def L.aC.l6:LC:=by apply(fun{b:LC}(_:b=q [k [142] [(142,j .lss (t 141) (t 140))],u 142 .skip (.exit 10),.block 11 (q [.reg false (l [143,144,145] [(143,t 141),(145,.un (.au 5) (i 5 (t 139) (t 141)))] [] (.alloc 70) 0 18 (s [17] [(17,t 143)] (w [18,145]) (.store 70 (a 18) (a 145)) z)),k [146,147,148,149] [(147,g 3 (t 18)),(148,h (g 3 (t 18))),(149,c 0)],v 12 L.aC.l7]),k [161,141] [(141,o (t 141) (c 1))]])=>b);simp only[sh];rfl
def L.aC.l8:LC:=by apply(fun{b:LC}(_:b=q [k [167] [(167,j .lss (t 166) (t 165))],u 167 .skip (.exit 14),.block 15 (q [k [168,169,22] [(22,d (i 1 (t 164) (t 166)))],.reg false (.loud [170,171,172,173,174,175,176,177,178,179] [] [(170,t 7),(171,t 22),(172,t 8),(175,h (g 1 (t 9))),(178,h (g 1 (t 9))),(179,t 8)] none [] false (.call ⟨.value (a 170),#[a 171,a 172,a 175,a 178,a 179],#[3,3,3,3,3]⟩) 0 (some 180) false z)]),k [181,166] [(166,o (t 166) (c 1))]])=>b);simp only[sh];rfl
def L.aC.l2:LC:=by apply(fun{b:LC}(_:b=q [k [57] [(57,j .lss (t 56) (t 55))],u 57 .skip (.exit 2),.block 3 (q [.reg false (l [58,59,60] [(58,t 56),(60,.un (.au 6) (i 6 (t 54) (t 56)))] [] (.alloc 35) 0 9 (s [8] [(8,t 58)] (w [9,60]) (.store 35 (a 9) (a 60)) z)),q [k [61,62,63,64] [(62,g 0 (t 9)),(63,h (g 0 (t 9))),(64,c 0)],v 4 L.aC.l3],q [k [138,139,140,141] [(139,g 1 (t 9)),(140,h (g 1 (t 9))),(141,c 0)],v 10 L.aC.l6],k [162,163,164,165,166] [(164,g 1 (e 2 (t 9))),(165,h (g 1 (e 2 (t 9)))),(166,c 0)],v 14 L.aC.l8]),k [182,56] [(56,o (t 56) (c 1))]])=>b);simp only[sh];rfl
def L.aC:LFn:=by apply(fun{b:LFn}(_:b=⟨[],q [.reg false (p (w [0]) (.box 146 (a 0)) 0 1 z),.reg false (l [23,24,25,26] [] [(26,.un (.au 2) (e 0 (.un .nilPtr (d (t 1)))))] (x 118 [26] [27]) 120 27 (.fin [2] [(2,t 27)] [])),.reg false (l [28] [] [(28,t 2)] (x 119 [28] [120]) 22 29 (.fin [3] [(3,t 29)] [])),q [k [30,31,32,33,34,35,36] [(35,h (g 1 (e 0 (.un .nilPtr (d (t 1)))))),(36,c 0)],v 0 L.aC.l1],.reg false (l [45] [] [(45,t 2)] (x 120 [45] [120]) 120 46 (l [47] [] [(47,t 2)] (x 121 [47] [120]) 22 48 (p [] (.alloc 22) 0 6 (s [5] [(5,t 46)] (w [6,48]) (.store 22 (a 6) (a 48)) z)))),k [49,7] [(7,.un (.fn 122) (.snoc (.snoc (.con (.tuple #[])) (t 1)) (t 6)))],k [50,51,52,53,54,55,56] [(54,g 1 (e 0 (.un .nilPtr (d (t 1))))),(55,h (g 1 (e 0 (.un .nilPtr (d (t 1)))))),(56,c 0)],v 2 L.aC.l2]⟩)=>b);simp only[sh];rfl
theorem E.aC:aN Tryz.prog Tryz.f71=some L.aC:=by kernel_rfl
theorem F.aC:Tryz.prog.funcs[N.aC]? = some Tryz.f71:=Tryz.func71
abbrev N.fL:Nat:=72
def L.fL:LFn:=by apply(fun{b:LFn}(_:b=⟨[t 2],q [.reg false (p (w [0]) (.box 70 (a 0)) 0 1 (.fin [2] [(2,.con (.slice none 0 0))] [])),q [k [3,4] [(4,g 0 (t 1))],.block 0 (q [k [6,5] [(5,j .eql (t 4) (c 16))],u 5 (q [k [2] [(2,.con (.slice none 0 0))],.ret]) (q [k [8,7] [(7,j .eql (t 4) (c 18))],u 7 (q [.reg false (l [9,10,11,12] [] [(10,g 1 (t 1)),(12,g 2 (t 1))] (.buildSlice 22 2 #[(0,a 10),(1,a 12)]) 22 13 (.fin [2] [(2,t 13)] [])),.ret]) .skip])])],.reg false (l [14,15] [] [(15,g 1 (t 1))] (.buildSlice 22 1 #[(0,a 15)]) 22 16 (.fin [2] [(2,t 16)] [])),.ret]⟩)=>b);simp only[sh];rfl
theorem E.fL:aN Tryz.prog Tryz.f72=some L.fL:=by kernel_rfl
theorem F.fL:Tryz.prog.funcs[N.fL]? = some Tryz.f72:=Tryz.func72
abbrev N.slices_Index_int:Nat:=73
def L.slices_Index_int.l1:LC:=by apply(fun{b:LC}(_:b=q [k [9] [(9,j .lss (t 8) (t 7))],u 9 .skip (.exit 0),.block 1 (q [k [10,5] [(5,t 8)],k [11,12,13,14,15,16] [(16,j .eql (t 1) (d (i 1 (t 0) (t 5))))],u 16 (q [k [17,4] [(4,t 5)],.ret]) .skip]),k [18,8] [(8,o (t 8) (c 1))]])=>b);simp only[sh];rfl
def L.slices_Index_int:LFn:=by apply(fun{b:LFn}(_:b=⟨[t 4],q [k [4] [(4,c 0)],q [k [6,7,8] [(7,h (t 0)),(8,c 0)],v 0 L.slices_Index_int.l1],k [4] [(4,c (-1))],.ret]⟩)=>b);simp only[sh];rfl
theorem E.slices_Index_int:aN Tryz.prog Tryz.f73=some L.slices_Index_int:=by kernel_rfl
theorem F.slices_Index_int:Tryz.prog.funcs[N.slices_Index_int]? = some Tryz.f73:=Tryz.func73
abbrev N.dr:Nat:=88
def L.dr:LFn:=by apply(fun{b:LFn}(_:b=⟨[t 4],q [k [4] [(4,c 0)],.reg false (l [8] [] [(8,t 0)] (x 124 [8] [87]) 167 9 (.fin [7,10,11,5,6] [(5,.un (.ext 0) (t 9)),(6,.un (.ext 1) (t 9))] [])),q [.reg false (.loud [12,13,14,15] [(14,.un .not (t 6))] [(15,.gd (.un .not (t 6)) false (t 0))] (some (.un .not (t 6),false)) [] false (.call ⟨.value (.func 34),#[a 15,.const (.int .i64 9)],#[87,3]⟩) 3 (some 16) true (.fin [17,18] [(18,.ite (t 14) (.con (.bool true)) (j .eql (t 16) (c 0)))] [])),u 18 (q [.reg false (l [19,20,21] [(19,t 0),(20,t 1)] [(21,t 0)] (x 59 [21] [87]) 21 22 (p (w [19,20,22]) (x 58 [19,20,22] [87,3,21]) 3 23 (.fin [4] [(4,t 23)] []))),.ret]) .skip],k [24,4] [(4,t 5)],.ret]⟩)=>b);simp only[sh];rfl
theorem E.dr:aN Tryz.prog Tryz.f88=some L.dr:=by kernel_rfl
theorem F.dr:Tryz.prog.funcs[N.dr]? = some Tryz.f88:=Tryz.func88
abbrev N.dC:Nat:=89
def L.dC:LFn:=by apply(fun{b:LFn}(_:b=⟨[],q [.reg false (p (w [2]) (.box 70 (a 2)) 0 5 z),.reg true (l [7,8,9,10,11,12,13,14,15,16,17,18,19,20,21,22] [(11,g 1 (e 2 (.un .nilPtr (t 0)))),(12,t 1),(21,g 1 (i 6 (g 1 (e 2 (.un .nilPtr (t 0)))) (t 1)))] [(22,.un (.au 5) (t 5))] (.buildSlice 31 1 #[(0,a 22)]) 31 23 (p (w [21,23]) (.call ⟨.builtin .append,#[a 21,a 23],#[31,31]⟩) 31 24 (.loud [25,26] [] [(26,e 1 (i 6 (t 11) (t 12))),(24,t 24)] none [] true (.store 31 (a 26) (a 24)) 0 none false z))),.reg false (l [27] [] [(27,.un (.au 5) (t 5))] (x 54 [27] [70]) 22 28 (.fin [6] [(6,t 28)] [])),.reg false (l [29,30,31,32,33,34] [(29,t 0)] [(33,g 5 (.un .nilPtr (t 0))),(34,t 6)] (.call ⟨.builtin .append,#[a 33,a 34],#[22,22]⟩) 22 35 (s [36,37] [] [(37,e 5 (.un .nilPtr (t 29))),(35,t 35)] (.store 22 (a 37) (a 35)) z))]⟩)=>b);simp only[sh];rfl
theorem E.dC:aN Tryz.prog Tryz.f89=some L.dC:=by kernel_rfl
theorem F.dC:Tryz.prog.funcs[N.dC]? = some Tryz.f89:=Tryz.func89
abbrev N.dg:Nat:=90
def L.dg:LFn:=by apply(fun{b:LFn}(_:b=⟨[],q [.reg false (l [12,13,14] [(12,t 0),(13,t 1)] [(14,t 0)] (.call ⟨.value (.func 34),#[a 14,.const (.int .i64 9)],#[87,3]⟩) 3 15 (l [16] [] [(12,t 12),(13,t 13),(16,.un (.conv .i32) (t 15))] (x 58 [12,13,16] [87,3,21]) 3 17 (.fin [6] [(6,t 17)] []))),q [.reg false (l [18] [] [(18,t 0)] (.call ⟨.value (.func 34),#[a 18,.const (.int .i64 3)],#[87,3]⟩) 3 19 (.fin [20] [(20,j .eql (t 19) (c 0))] [])),u 20 (q [.reg false (l [21,22] [] [(21,t 0),(22,t 1)] (x 88 [21,22] [87,3]) 3 23 (.fin [7] [(7,t 23)] [])),.reg false (l [24,25] [] [(24,t 0),(25,t 1)] (.call ⟨.value (.func 58),#[a 24,a 25,.const (.int .i32 7)],#[87,3,21]⟩) 3 26 (.fin [8] [(8,t 26)] [])),.reg false (l [27] [] [(27,t 0)] (x 52 [27] [87]) 3 28 (.fin [9] [(9,t 28)] [])),.reg false (l [29,30,31,32,33] [(29,t 0),(30,t 1),(31,t 9)] [(32,t 7),(33,t 8)] (.buildSlice 22 2 #[(0,a 32),(1,a 33)]) 22 34 (p (w [31,34]) (.build 70 #[(0,.const (.int .i64 5)),(1,a 31),(3,a 34)]) 70 35 (.loud [] [] (w [29,30,35]) none [] false (x 89 [29,30,35] [87,3,70]) 0 (some 36) false z))),.reg false (l [37] [] [(37,t 0)] (x 52 [37] [87]) 3 38 (.fin [10] [(10,t 38)] [])),.reg false (l [39,40,41,42,43] [(39,t 0),(40,t 1),(41,t 10)] [(42,t 6),(43,t 9)] (.buildSlice 22 2 #[(0,a 42),(1,a 43)]) 22 44 (p (w [41,44]) (.build 70 #[(0,.const (.int .i64 2)),(1,a 41),(3,a 44)]) 70 45 (.loud [] [] (w [39,40,45]) none [] false (x 89 [39,40,45] [87,3,70]) 0 (some 46) false z))),k [47,6] [(6,t 10)]]) .skip],.reg false (l [48] [] [(48,t 0)] (.call ⟨.value (.func 34),#[a 48,.const (.int .i64 4)],#[87,3]⟩) 3 49 (.fin [50,11] [(11,.un (.conv .i32) (t 49))] [])),q [.reg false (l [51] [] [(51,t 0)] (.call ⟨.value (.func 34),#[a 51,.const (.int .i64 12)],#[87,3]⟩) 3 52 (.fin [53] [(53,j .eql (t 52) (c 0))] [])),u 53 (.reg false (l [54] [] [(54,t 0)] (x 59 [54] [87]) 21 55 (.fin [11] [(11,t 55)] []))) .skip],k [56] [(56,t 2)],u 56 (.reg false (l [57,58,59,60,61] [(57,t 0),(58,t 1),(59,t 6)] [(60,t 0),(61,t 1)] (x 88 [60,61] [87,3]) 3 62 (p (w [59,62]) (.buildSlice 22 2 #[(0,a 59),(1,a 62)]) 22 63 (l [64] [] [(63,t 63),(64,t 11)] (.build 70 #[(0,.const (.int .i64 16)),(3,a 63),(4,a 64)]) 70 65 (.loud [] [] (w [57,58,65]) none [] false (x 89 [57,58,65] [87,3,70]) 0 (some 66) false z))))) (.reg false (l [67,68,69] [(67,t 0),(68,t 1)] [(69,t 0)] (x 52 [69] [87]) 3 70 (l [71] [] [(71,t 6)] (.buildSlice 22 1 #[(0,a 71)]) 22 72 (l [73] [] [(70,t 70),(72,t 72),(73,t 11)] (.build 70 #[(0,.const (.int .i64 15)),(1,a 70),(3,a 72),(4,a 73)]) 70 74 (.loud [] [] (w [67,68,74]) none [] false (x 89 [67,68,74] [87,3,70]) 0 (some 75) false z)))))]⟩)=>b);simp only[sh];rfl
theorem E.dg:aN Tryz.prog Tryz.f90=some L.dg:=by kernel_rfl
theorem F.dg:Tryz.prog.funcs[N.dg]? = some Tryz.f90:=Tryz.func90
end
section
set_option maxRecDepth 100000
abbrev N.cD:Nat:=91
def L.cD.l3:LC:=by apply(fun{b:LC}(_:b=f 4 49 8 [41,42,43,44,45,46,47,48,49] [50,51,8] (j .lss (t 8) (h (g 1 (i 2 (g 0 (t 5)) (t 6))))) (.block 5 (.reg true (l [52,53,54,55,56,57,58,59,60,61,62,63] [(53,g 3 (t 7))] [(63,g 1 (i 2 (g 1 (i 2 (g 0 (t 5)) (t 6))) (t 8)))] (.buildSlice 22 1 #[(0,a 63)]) 22 64 (.loud [] [] (w [53,64]) none [] true (.call ⟨.builtin .append,#[a 53,a 64],#[22,22]⟩) 22 (some 65) true (s [66] [] [(66,e 3 (t 7)),(65,t 65)] (.store 22 (a 66) (a 65)) z))))))=>b);simp only[sh];rfl
def L.cD.l2:LC:=by apply(fun{b:LC}(_:b=f 2 27 6 [23,24,25,26,27] [28,29,6] (j .lss (t 6) (h (g 0 (t 5)))) (.block 3 (q [.reg false (l [30,31,32,33,34,35,36,37,38] [(30,t 4),(32,.bin (.arith .sub) (c (-1)) (t 6))] [(38,g 0 (i 2 (g 0 (t 5)) (t 6)))] (.buildSlice 22 1 #[(0,a 38)]) 22 39 (p (w [30,32,39]) (.build 160 #[(0,a 30),(1,a 32),(2,a 39)]) 160 40 (p [] (.alloc 160) 0 7 (s [] [] (w [7,40]) (.store 160 (a 7) (a 40)) z)))),q [k [8] [(8,c 0)],v 4 L.cD.l3],.reg false (l [67,68] [(67,t 3)] [(68,.un (.au 4) (t 7))] (.buildSlice 157 1 #[(0,a 68)]) 157 69 (p (w [67,69]) (.call ⟨.builtin .append,#[a 67,a 69],#[157,157]⟩) 157 70 (.fin [3] [(3,t 70)] [])))])))=>b);simp only[sh];rfl
def L.cD.l4:LC:=by apply(fun{b:LC}(_:b=f 6 75 9 [71,72,73,74,75] [76,77,9] (j .lss (t 9) (h (g 1 (t 5)))) (.block 7 (.reg true (l [78,79,80,81,82,83,84,85,87,88,89,90,91,92] [(78,t 3),(79,t 4),(80,t 9),(92,g 3 (i 5 (g 1 (t 5)) (t 9)))] [(85,.un (.au 5) (i 5 (g 1 (t 5)) (t 9)))] (x 54 [85] [70]) 22 86 (.loud [] [] (w [79,80,86,92]) none [] true (.build 160 #[(0,a 79),(1,a 80),(2,a 86),(3,a 92)]) 160 (some 93) true (p (w [93]) (.buildSlice 157 1 #[(0,a 93)]) 157 94 (p (w [78,94]) (.call ⟨.builtin .append,#[a 78,a 94],#[157,157]⟩) 157 95 (.fin [3] [(3,t 95)] []))))))))=>b);simp only[sh];rfl
def L.cD.l1:LC:=by apply(fun{b:LC}(_:b=f 0 15 4 [11,12,13,14,15] [16,17,4] (j .lss (t 4) (h (g 1 (t 1)))) (.block 1 (q [.reg false (l [18,19,20,21,22] [(22,.un (.au 6) (i 6 (g 1 (t 1)) (t 4)))] [] (.alloc 35) 0 5 (s [] [] (w [5,22]) (.store 35 (a 5) (a 22)) z)),q [k [6] [(6,c 0)],v 2 L.cD.l2],q [k [9] [(9,c 0)],v 6 L.cD.l4],.reg false (l [96,97,98,99,100,101,102,103] [(96,t 3)] [(97,t 4),(100,h (g 1 (t 5))),(103,g 1 (e 2 (t 5)))] (.build 160 #[(0,a 97),(1,a 100),(3,a 103)]) 160 104 (p (w [104]) (.buildSlice 157 1 #[(0,a 104)]) 157 105 (p (w [96,105]) (.call ⟨.builtin .append,#[a 96,a 105],#[157,157]⟩) 157 106 (.fin [3] [(3,t 106)] []))))])))=>b);simp only[sh];rfl
def L.cD:LFn:=by apply(fun{b:LFn}(_:b=⟨[t 2],q [.reg false (p (w [0]) (.box 27 (a 0)) 0 1 (.fin [2] [(2,.con (.slice none 0 0))] [])),.reg false (p [] (.buildSlice 157 0 #[]) 157 10 (.fin [3] [(3,t 10)] [])),q [k [4] [(4,c 0)],v 0 L.cD.l1],k [107,2] [(2,t 3)],.ret]⟩)=>b);simp only[sh];rfl
theorem E.cD:aN Tryz.prog Tryz.f91=some L.cD:=by kernel_rfl
theorem F.cD:Tryz.prog.funcs[N.cD]? = some Tryz.f91:=Tryz.func91
abbrev N.dF:Nat:=99
def L.dF:LFn:=by apply(fun{b:LFn}(_:b=⟨[t 2],q [k [2] [(2,.con (.slice none 0 0))],q [.reg false (l [3] [] [(3,t 0)] (.binOp .eql 22 (a 3) (.const (.slice none 0 0)) 22) 4 4 z),u 4 (q [k [2] [(2,.con (.slice none 0 0))],.ret]) .skip],.reg false (p [] (.buildSlice 22 0 #[]) 22 5 (l [6] [] [(5,t 5),(6,t 0)] (.call ⟨.builtin .append,#[a 5,a 6],#[22,22]⟩) 22 7 (.fin [2] [(2,t 7)] []))),.ret]⟩)=>b);simp only[sh];rfl
theorem E.dF:aN Tryz.prog Tryz.f99=some L.dF:=by kernel_rfl
theorem F.dF:Tryz.prog.funcs[N.dF]? = some Tryz.f99:=Tryz.func99
abbrev N.dP:Nat:=100
def L.dP:LFn:=by apply(fun{b:LFn}(_:b=⟨[.un (.au 5) (t 6),t 7],q [.reg false (p (w [0]) (.box 97 (a 0)) 0 3 (p [] (.alloc 70) 0 6 (.fin [7] [(7,.con (.bool false))] []))),.reg false (l [11,12] [] [(11,.un (.au 13) (t 3)),(12,t 1)] (x 129 [11,12] [97,3]) 163 13 (l [10,14,15] [(14,.un (.ext 0) (t 13)),(15,.un (.ext 1) (t 13))] [] (.alloc 70) 0 8 (s [] [] (w [8,14]) (.store 70 (a 8) (a 14)) (.fin [9] [(9,t 15)] [])))),.reg true (.loud [16,17,18,19,20,21,22,23,24,25,26,27] [(16,.un (.au 5) (t 8)),(24,.ite (t 9) (j .eql (g 0 (t 8)) (t 2)) (.con (.bool false)))] [(26,.gd (.ite (t 9) (j .eql (g 0 (t 8)) (t 2)) (.con (.bool false))) true (.un (.au 2) (e 0 (t 3)))),(27,.gd (.ite (t 9) (j .eql (g 0 (t 8)) (t 2)) (.con (.bool false))) true (t 1))] (some (.ite (t 9) (j .eql (g 0 (t 8)) (t 2)) (.con (.bool false)),true)) [] false (x 28 [26,27] [27,3]) 4 (some 28) true (.loud [29] [(29,.ite (t 24) (t 28) (.con (.bool false)))] (w [6,16]) none [] true (.store 70 (a 6) (a 16)) 0 none false (.fin [7] [(7,t 29)] []))),.ret]⟩)=>b);simp only[sh];rfl
theorem E.dP:aN Tryz.prog Tryz.f100=some L.dP:=by kernel_rfl
theorem F.dP:Tryz.prog.funcs[N.dP]? = some Tryz.f100:=Tryz.func100
abbrev N.aT:Nat:=101
def L.aT:LFn:=by apply(fun{b:LFn}(_:b=⟨[.un (.au 8) (t 0),t 1],q [.reg false (p [] (.alloc 101) 0 0 (.fin [1] [(1,.con (.bool false))] [])),.reg false (p [] (.build 101 #[]) 101 2 (s [] [] (w [0,2]) (.store 101 (a 0) (a 2)) (.fin [1] [(1,.con (.bool false))] []))),.ret]⟩)=>b);simp only[sh];rfl
theorem E.aT:aN Tryz.prog Tryz.f101=some L.aT:=by kernel_rfl
theorem F.aT:Tryz.prog.funcs[N.aT]? = some Tryz.f101:=Tryz.func101
abbrev N.aZ:Nat:=102
def L.aZ:LFn:=by apply(fun{b:LFn}(_:b=⟨[],q [k [10,11,12,13,14,15,16,17,18] [(18,.ite (.un .not (g 11 (t 3))) (j .eql (g 0 (t 4)) (t 0)) (.con (.bool false)))],u 18 (.reg false (s [19,20,21] [] [(19,d (t 5)),(20,t 1),(21,t 2)] (.mapUpdate 138 (a 19) (a 20) (a 21)) z)) (q [.reg false (l [22,23] [] [(22,d (t 5)),(23,t 1)] (.lookup 138 (a 22) (a 23) false) 136 24 (p (w [24]) (.binOp .eql 136 (a 24) (.const .nilFunc) 136) 4 25 z)),u 25 (.reg false (s [26,27,28] [] [(26,d (t 5)),(27,t 1),(28,d (t 6))] (.mapUpdate 138 (a 26) (a 27) (a 28)) z)) .skip])]⟩)=>b);simp only[sh];rfl
theorem E.aZ:aN Tryz.prog Tryz.f102=some L.aZ:=by kernel_rfl
theorem F.aZ:Tryz.prog.funcs[N.aZ]? = some Tryz.f102:=Tryz.func102
abbrev N.cz:Nat:=103
def L.cz:LFn:=by apply(fun{b:LFn}(_:b=⟨[.un (.au 8) (t 1),t 2],q [.reg false (p [] (.alloc 101) 0 1 (.fin [2] [(2,.con (.bool false))] [])),.reg false (l [6,7,8,9] [] [(7,g 1 (t 0)),(9,g 4 (t 0))] (.build 80 #[(0,.const (.int .i64 3)),(1,a 7),(6,a 9)]) 80 10 (p (w [10]) (.call ⟨.value (.func 104),#[a 10,.const (.slice none 0 0),.const (.slice none 0 0)],#[80,22,22]⟩) 102 11 (l [5,12,13] [(12,.un (.ext 0) (t 11)),(13,.un (.ext 1) (t 11))] [] (.alloc 101) 0 3 (s [] [] (w [3,12]) (.store 101 (a 3) (a 12)) (.fin [4] [] [t 13]))))),.reg true (l [14,15,16,17] [(14,.un (.au 8) (t 3))] [(17,.un (.conv .i64) (g 4 (t 0)))] (.call ⟨.value (.func 42),#[a 17,.const (.int .i64 (-32768)),.const (.int .i64 32767)],#[3,3,3]⟩) 4 18 (.loud [] [] (w [1,14]) none [] true (.store 101 (a 1) (a 14)) 0 none false (.fin [2] [(2,t 18)] []))),.ret]⟩)=>b);simp only[sh];rfl
theorem E.cz:aN Tryz.prog Tryz.f103=some L.cz:=by kernel_rfl
theorem F.cz:Tryz.prog.funcs[N.cz]? = some Tryz.f103:=Tryz.func103
abbrev N.gk:Nat:=104
def L.gk:LFn:=by apply(fun{b:LFn}(_:b=⟨[.un (.au 8) (t 6),t 7],q [.reg false (p (w [0]) (.box 80 (a 0)) 0 3 (p [] (.alloc 101) 0 6 (.fin [7] [(7,.con (.bool false))] []))),.reg false (l [8,9,10] [(8,t 1),(9,t 2)] [(10,.un (.au 8) (t 3))] (.buildSlice 36 1 #[(0,a 10)]) 36 11 (p (w [8,9,11]) (.build 101 #[(0,a 8),(1,a 9),(2,a 11)]) 101 12 (s [] [] (w [6,12]) (.store 101 (a 6) (a 12)) (.fin [7] [(7,.con (.bool true))] [])))),.ret]⟩)=>b);simp only[sh];rfl
theorem E.gk:aN Tryz.prog Tryz.f104=some L.gk:=by kernel_rfl
theorem F.gk:Tryz.prog.funcs[N.gk]? = some Tryz.f104:=Tryz.func104
abbrev N.cy:Nat:=105
def L.cy:LFn:=by apply(fun{b:LFn}(_:b=⟨[.un (.au 8) (t 1),t 2],q [.reg false (p [] (.alloc 101) 0 1 (.fin [2] [(2,.con (.bool false))] [])),.reg false (l [3,4,5,6] [] [(4,g 1 (t 0)),(6,g 4 (t 0))] (.build 80 #[(0,.const (.int .i64 4)),(1,a 4),(6,a 6)]) 80 7 (p (w [7]) (.call ⟨.value (.func 104),#[a 7,.const (.slice none 0 0),.const (.slice none 0 0)],#[80,22,22]⟩) 102 8 (s [9,10] [(10,.un (.ext 1) (t 8))] [(1,t 1),(9,.un (.ext 0) (t 8))] (.store 101 (a 1) (a 9)) (.fin [2] [(2,t 10)] [])))),.ret]⟩)=>b);simp only[sh];rfl
theorem E.cy:aN Tryz.prog Tryz.f105=some L.cy:=by kernel_rfl
theorem F.cy:Tryz.prog.funcs[N.cy]? = some Tryz.f105:=Tryz.func105
abbrev N.cH:Nat:=106
def L.cH:LFn:=by apply(fun{b:LFn}(_:b=⟨[.un (.au 8) (t 2),t 3],q [.reg false (p [] (.alloc 101) 0 2 (.fin [3] [(3,.con (.bool false))] [])),.reg true (.both (l [4,5,6,7,8,9,10,11,12,13,14,15,16,18,19] [(19,g 3 (t 1))] [(6,.bin (.arith .sub) (o (c 5) (d (t 0))) (c 2)),(8,g 1 (t 1)),(12,d (i 1 (g 3 (t 1)) (c 0))),(16,d (i 1 (g 3 (t 1)) (c 1)))] (.build 80 #[(0,a 6),(1,a 8),(3,a 12),(4,a 16)]) 80 17 (p (w [19]) (x 99 [19] [22]) 22 20 (.loud [] [] (w [17,20]) none [] true (.call ⟨.value (.func 104),#[a 17,a 20,.const (.slice none 0 0)],#[80,22,22]⟩) 102 (some 21) true (s [22,23] [(23,.un (.ext 1) (t 21))] [(2,t 2),(22,.un (.ext 0) (t 21))] (.store 101 (a 2) (a 22)) (.fin [3] [(3,t 23)] []))))) (l [4,5,6,7,8,9,10,11,12,13,14,15,16,18,19] [(6,.bin (.arith .sub) (o (c 5) (d (t 0))) (c 2)),(8,g 1 (t 1)),(12,d (i 1 (g 3 (t 1)) (c 0))),(16,d (i 1 (g 3 (t 1)) (c 1)))] [(19,g 3 (t 1))] (x 99 [19] [22]) 22 20 (p (w [6,8,12,16]) (.build 80 #[(0,a 6),(1,a 8),(3,a 12),(4,a 16)]) 80 17 (.loud [] [] (w [17,20]) none [] true (.call ⟨.value (.func 104),#[a 17,a 20,.const (.slice none 0 0)],#[80,22,22]⟩) 102 (some 21) true (s [22,23] [(23,.un (.ext 1) (t 21))] [(2,t 2),(22,.un (.ext 0) (t 21))] (.store 101 (a 2) (a 22)) (.fin [3] [(3,t 23)] [])))))),.ret]⟩)=>b);simp only[sh];rfl
theorem E.cH:aN Tryz.prog Tryz.f106=some L.cH:=by kernel_rfl
theorem F.cH:Tryz.prog.funcs[N.cH]? = some Tryz.f106:=Tryz.func106
abbrev N.bP:Nat:=107
def L.bP:LFn:=by apply(fun{b:LFn}(_:b=⟨[],q [.reg false (p (w [2]) (.box 3 (a 2)) 0 11 (p (w [3]) (.box 3 (a 3)) 0 12 (p (w [4]) (.box 3 (a 4)) 0 13 (p (w [5]) (.box 3 (a 5)) 0 14 z)))),.reg false (.loud [15,16,17,18] [] [(15,d (t 6)),(16,t 0),(17,t 1),(18,.un (.fn 108) (.snoc (.snoc (.snoc (.snoc (.snoc (.snoc (.con (.tuple #[])) (t 7)) (t 8)) (t 12)) (t 13)) (t 11)) (t 14)))] none [] false (.call ⟨.value (a 15),#[a 16,a 17,a 18],#[3,3,136]⟩) 0 (some 19) false z)]⟩)=>b);simp only[sh];rfl
theorem E.bP:aN Tryz.prog Tryz.f107=some L.bP:=by kernel_rfl
theorem F.bP:Tryz.prog.funcs[N.bP]? = some Tryz.f107:=Tryz.func107
end
section
set_option maxRecDepth 100000
abbrev N.bG:Nat:=108
def L.bG:LFn:=by apply(fun{b:LFn}(_:b=⟨[.un (.au 8) (t 6),t 7],q [.reg false (p [] (.alloc 101) 0 6 (.fin [7] [(7,.con (.bool false))] [])),.reg true (.loud [13,14,15,16,17,18,19] [] [(13,.un (.au 13) (t 0)),(17,d (i 1 (g 3 (t 1)) (c 1))),(18,d (t 2)),(19,d (t 3))] none [] true (x 109 [13,17,18,19] [97,3,3,3]) 167 (some 20) true (.fin [12,21,22,8,9] [(8,.un (.ext 0) (t 20)),(9,.un (.ext 1) (t 20))] [])),.reg true (.both (l [24,25,26,27,28,29,30,31,32,33,34,36,37,38,39,41,42,43,44] [(39,d (i 1 (g 3 (t 1)) (c 0))),(44,d (i 1 (g 3 (t 1)) (c 1)))] [(24,d (t 4)),(26,g 1 (t 1)),(30,d (i 1 (g 3 (t 1)) (c 0))),(34,.un (.conv .i32) (.bin (.arith .mul) (d (t 5)) (t 8)))] (.build 80 #[(0,a 24),(1,a 26),(3,a 30),(6,a 34)]) 80 35 (.both (p (w [39]) (.buildSlice 22 1 #[(0,a 39)]) 22 40 (.both (p (w [44]) (.buildSlice 22 1 #[(0,a 44)]) 22 45 (.both (.loud [] [] (w [35,40,45]) none [] true (x 104 [35,40,45] [80,22,22]) 102 (some 46) true (l [23,47,48] [(47,.un (.ext 0) (t 46)),(48,.un (.ext 1) (t 46))] [] (.alloc 101) 0 10 (s [] [] (w [10,47]) (.store 101 (a 10) (a 47)) (.fin [11] [] [t 48])))) (p [] (.alloc 101) 0 10 (.loud [] [] (w [35,40,45]) none [] true (x 104 [35,40,45] [80,22,22]) 102 (some 46) true (s [23,47,48] [(48,.un (.ext 1) (t 46))] [(10,t 10),(47,.un (.ext 0) (t 46))] (.store 101 (a 10) (a 47)) (.fin [11] [] [t 48])))))) (p [] (.alloc 101) 0 10 (p (w [44]) (.buildSlice 22 1 #[(0,a 44)]) 22 45 (.loud [] [] (w [35,40,45]) none [] true (x 104 [35,40,45] [80,22,22]) 102 (some 46) true (s [23,47,48] [(48,.un (.ext 1) (t 46))] [(10,t 10),(47,.un (.ext 0) (t 46))] (.store 101 (a 10) (a 47)) (.fin [11] [] [t 48]))))))) (.both (p (w [44]) (.buildSlice 22 1 #[(0,a 44)]) 22 45 (.both (p (w [39]) (.buildSlice 22 1 #[(0,a 39)]) 22 40 (.both (.loud [] [] (w [35,40,45]) none [] true (x 104 [35,40,45] [80,22,22]) 102 (some 46) true (l [23,47,48] [(47,.un (.ext 0) (t 46)),(48,.un (.ext 1) (t 46))] [] (.alloc 101) 0 10 (s [] [] (w [10,47]) (.store 101 (a 10) (a 47)) (.fin [11] [] [t 48])))) (p [] (.alloc 101) 0 10 (.loud [] [] (w [35,40,45]) none [] true (x 104 [35,40,45] [80,22,22]) 102 (some 46) true (s [23,47,48] [(48,.un (.ext 1) (t 46))] [(10,t 10),(47,.un (.ext 0) (t 46))] (.store 101 (a 10) (a 47)) (.fin [11] [] [t 48])))))) (p [] (.alloc 101) 0 10 (p (w [39]) (.buildSlice 22 1 #[(0,a 39)]) 22 40 (.loud [] [] (w [35,40,45]) none [] true (x 104 [35,40,45] [80,22,22]) 102 (some 46) true (s [23,47,48] [(48,.un (.ext 1) (t 46))] [(10,t 10),(47,.un (.ext 0) (t 46))] (.store 101 (a 10) (a 47)) (.fin [11] [] [t 48]))))))) (p [] (.alloc 101) 0 10 (.both (p (w [39]) (.buildSlice 22 1 #[(0,a 39)]) 22 40 (p (w [44]) (.buildSlice 22 1 #[(0,a 44)]) 22 45 (.loud [] [] (w [35,40,45]) none [] true (x 104 [35,40,45] [80,22,22]) 102 (some 46) true (s [23,47,48] [(48,.un (.ext 1) (t 46))] [(10,t 10),(47,.un (.ext 0) (t 46))] (.store 101 (a 10) (a 47)) (.fin [11] [] [t 48]))))) (p (w [44]) (.buildSlice 22 1 #[(0,a 44)]) 22 45 (p (w [39]) (.buildSlice 22 1 #[(0,a 39)]) 22 40 (.loud [] [] (w [35,40,45]) none [] true (x 104 [35,40,45] [80,22,22]) 102 (some 46) true (s [23,47,48] [(48,.un (.ext 1) (t 46))] [(10,t 10),(47,.un (.ext 0) (t 46))] (.store 101 (a 10) (a 47)) (.fin [11] [] [t 48])))))))))) (.both (l [24,25,26,27,28,29,30,31,32,33,34,36,37,38,39,41,42,43,44] [(24,d (t 4)),(26,g 1 (t 1)),(30,d (i 1 (g 3 (t 1)) (c 0))),(34,.un (.conv .i32) (.bin (.arith .mul) (d (t 5)) (t 8))),(44,d (i 1 (g 3 (t 1)) (c 1)))] [(39,d (i 1 (g 3 (t 1)) (c 0)))] (.buildSlice 22 1 #[(0,a 39)]) 22 40 (.both (p (w [24,26,30,34]) (.build 80 #[(0,a 24),(1,a 26),(3,a 30),(6,a 34)]) 80 35 (.both (p (w [44]) (.buildSlice 22 1 #[(0,a 44)]) 22 45 (.both (.loud [] [] (w [35,40,45]) none [] true (x 104 [35,40,45] [80,22,22]) 102 (some 46) true (l [23,47,48] [(47,.un (.ext 0) (t 46)),(48,.un (.ext 1) (t 46))] [] (.alloc 101) 0 10 (s [] [] (w [10,47]) (.store 101 (a 10) (a 47)) (.fin [11] [] [t 48])))) (p [] (.alloc 101) 0 10 (.loud [] [] (w [35,40,45]) none [] true (x 104 [35,40,45] [80,22,22]) 102 (some 46) true (s [23,47,48] [(48,.un (.ext 1) (t 46))] [(10,t 10),(47,.un (.ext 0) (t 46))] (.store 101 (a 10) (a 47)) (.fin [11] [] [t 48])))))) (p [] (.alloc 101) 0 10 (p (w [44]) (.buildSlice 22 1 #[(0,a 44)]) 22 45 (.loud [] [] (w [35,40,45]) none [] true (x 104 [35,40,45] [80,22,22]) 102 (some 46) true (s [23,47,48] [(48,.un (.ext 1) (t 46))] [(10,t 10),(47,.un (.ext 0) (t 46))] (.store 101 (a 10) (a 47)) (.fin [11] [] [t 48]))))))) (.both (p (w [44]) (.buildSlice 22 1 #[(0,a 44)]) 22 45 (.both (p (w [24,26,30,34]) (.build 80 #[(0,a 24),(1,a 26),(3,a 30),(6,a 34)]) 80 35 (.both (.loud [] [] (w [35,40,45]) none [] true (x 104 [35,40,45] [80,22,22]) 102 (some 46) true (l [23,47,48] [(47,.un (.ext 0) (t 46)),(48,.un (.ext 1) (t 46))] [] (.alloc 101) 0 10 (s [] [] (w [10,47]) (.store 101 (a 10) (a 47)) (.fin [11] [] [t 48])))) (p [] (.alloc 101) 0 10 (.loud [] [] (w [35,40,45]) none [] true (x 104 [35,40,45] [80,22,22]) 102 (some 46) true (s [23,47,48] [(48,.un (.ext 1) (t 46))] [(10,t 10),(47,.un (.ext 0) (t 46))] (.store 101 (a 10) (a 47)) (.fin [11] [] [t 48])))))) (p [] (.alloc 101) 0 10 (p (w [24,26,30,34]) (.build 80 #[(0,a 24),(1,a 26),(3,a 30),(6,a 34)]) 80 35 (.loud [] [] (w [35,40,45]) none [] true (x 104 [35,40,45] [80,22,22]) 102 (some 46) true (s [23,47,48] [(48,.un (.ext 1) (t 46))] [(10,t 10),(47,.un (.ext 0) (t 46))] (.store 101 (a 10) (a 47)) (.fin [11] [] [t 48]))))))) (p [] (.alloc 101) 0 10 (.both (p (w [24,26,30,34]) (.build 80 #[(0,a 24),(1,a 26),(3,a 30),(6,a 34)]) 80 35 (p (w [44]) (.buildSlice 22 1 #[(0,a 44)]) 22 45 (.loud [] [] (w [35,40,45]) none [] true (x 104 [35,40,45] [80,22,22]) 102 (some 46) true (s [23,47,48] [(48,.un (.ext 1) (t 46))] [(10,t 10),(47,.un (.ext 0) (t 46))] (.store 101 (a 10) (a 47)) (.fin [11] [] [t 48]))))) (p (w [44]) (.buildSlice 22 1 #[(0,a 44)]) 22 45 (p (w [24,26,30,34]) (.build 80 #[(0,a 24),(1,a 26),(3,a 30),(6,a 34)]) 80 35 (.loud [] [] (w [35,40,45]) none [] true (x 104 [35,40,45] [80,22,22]) 102 (some 46) true (s [23,47,48] [(48,.un (.ext 1) (t 46))] [(10,t 10),(47,.un (.ext 0) (t 46))] (.store 101 (a 10) (a 47)) (.fin [11] [] [t 48])))))))))) (.both (l [24,25,26,27,28,29,30,31,32,33,34,36,37,38,39,41,42,43,44] [(24,d (t 4)),(26,g 1 (t 1)),(30,d (i 1 (g 3 (t 1)) (c 0))),(34,.un (.conv .i32) (.bin (.arith .mul) (d (t 5)) (t 8))),(39,d (i 1 (g 3 (t 1)) (c 0)))] [(44,d (i 1 (g 3 (t 1)) (c 1)))] (.buildSlice 22 1 #[(0,a 44)]) 22 45 (.both (p (w [24,26,30,34]) (.build 80 #[(0,a 24),(1,a 26),(3,a 30),(6,a 34)]) 80 35 (.both (p (w [39]) (.buildSlice 22 1 #[(0,a 39)]) 22 40 (.both (.loud [] [] (w [35,40,45]) none [] true (x 104 [35,40,45] [80,22,22]) 102 (some 46) true (l [23,47,48] [(47,.un (.ext 0) (t 46)),(48,.un (.ext 1) (t 46))] [] (.alloc 101) 0 10 (s [] [] (w [10,47]) (.store 101 (a 10) (a 47)) (.fin [11] [] [t 48])))) (p [] (.alloc 101) 0 10 (.loud [] [] (w [35,40,45]) none [] true (x 104 [35,40,45] [80,22,22]) 102 (some 46) true (s [23,47,48] [(48,.un (.ext 1) (t 46))] [(10,t 10),(47,.un (.ext 0) (t 46))] (.store 101 (a 10) (a 47)) (.fin [11] [] [t 48])))))) (p [] (.alloc 101) 0 10 (p (w [39]) (.buildSlice 22 1 #[(0,a 39)]) 22 40 (.loud [] [] (w [35,40,45]) none [] true (x 104 [35,40,45] [80,22,22]) 102 (some 46) true (s [23,47,48] [(48,.un (.ext 1) (t 46))] [(10,t 10),(47,.un (.ext 0) (t 46))] (.store 101 (a 10) (a 47)) (.fin [11] [] [t 48]))))))) (.both (p (w [39]) (.buildSlice 22 1 #[(0,a 39)]) 22 40 (.both (p (w [24,26,30,34]) (.build 80 #[(0,a 24),(1,a 26),(3,a 30),(6,a 34)]) 80 35 (.both (.loud [] [] (w [35,40,45]) none [] true (x 104 [35,40,45] [80,22,22]) 102 (some 46) true (l [23,47,48] [(47,.un (.ext 0) (t 46)),(48,.un (.ext 1) (t 46))] [] (.alloc 101) 0 10 (s [] [] (w [10,47]) (.store 101 (a 10) (a 47)) (.fin [11] [] [t 48])))) (p [] (.alloc 101) 0 10 (.loud [] [] (w [35,40,45]) none [] true (x 104 [35,40,45] [80,22,22]) 102 (some 46) true (s [23,47,48] [(48,.un (.ext 1) (t 46))] [(10,t 10),(47,.un (.ext 0) (t 46))] (.store 101 (a 10) (a 47)) (.fin [11] [] [t 48])))))) (p [] (.alloc 101) 0 10 (p (w [24,26,30,34]) (.build 80 #[(0,a 24),(1,a 26),(3,a 30),(6,a 34)]) 80 35 (.loud [] [] (w [35,40,45]) none [] true (x 104 [35,40,45] [80,22,22]) 102 (some 46) true (s [23,47,48] [(48,.un (.ext 1) (t 46))] [(10,t 10),(47,.un (.ext 0) (t 46))] (.store 101 (a 10) (a 47)) (.fin [11] [] [t 48]))))))) (p [] (.alloc 101) 0 10 (.both (p (w [24,26,30,34]) (.build 80 #[(0,a 24),(1,a 26),(3,a 30),(6,a 34)]) 80 35 (p (w [39]) (.buildSlice 22 1 #[(0,a 39)]) 22 40 (.loud [] [] (w [35,40,45]) none [] true (x 104 [35,40,45] [80,22,22]) 102 (some 46) true (s [23,47,48] [(48,.un (.ext 1) (t 46))] [(10,t 10),(47,.un (.ext 0) (t 46))] (.store 101 (a 10) (a 47)) (.fin [11] [] [t 48]))))) (p (w [39]) (.buildSlice 22 1 #[(0,a 39)]) 22 40 (p (w [24,26,30,34]) (.build 80 #[(0,a 24),(1,a 26),(3,a 30),(6,a 34)]) 80 35 (.loud [] [] (w [35,40,45]) none [] true (x 104 [35,40,45] [80,22,22]) 102 (some 46) true (s [23,47,48] [(48,.un (.ext 1) (t 46))] [(10,t 10),(47,.un (.ext 0) (t 46))] (.store 101 (a 10) (a 47)) (.fin [11] [] [t 48])))))))))) (l [24,25,26,27,28,29,30,31,32,33,34,36,37,38,39,41,42,43,44] [(24,d (t 4)),(26,g 1 (t 1)),(30,d (i 1 (g 3 (t 1)) (c 0))),(34,.un (.conv .i32) (.bin (.arith .mul) (d (t 5)) (t 8))),(39,d (i 1 (g 3 (t 1)) (c 0))),(44,d (i 1 (g 3 (t 1)) (c 1)))] [] (.alloc 101) 0 10 (.both (p (w [24,26,30,34]) (.build 80 #[(0,a 24),(1,a 26),(3,a 30),(6,a 34)]) 80 35 (.both (p (w [39]) (.buildSlice 22 1 #[(0,a 39)]) 22 40 (p (w [44]) (.buildSlice 22 1 #[(0,a 44)]) 22 45 (.loud [] [] (w [35,40,45]) none [] true (x 104 [35,40,45] [80,22,22]) 102 (some 46) true (s [23,47,48] [(48,.un (.ext 1) (t 46))] [(10,t 10),(47,.un (.ext 0) (t 46))] (.store 101 (a 10) (a 47)) (.fin [11] [] [t 48]))))) (p (w [44]) (.buildSlice 22 1 #[(0,a 44)]) 22 45 (p (w [39]) (.buildSlice 22 1 #[(0,a 39)]) 22 40 (.loud [] [] (w [35,40,45]) none [] true (x 104 [35,40,45] [80,22,22]) 102 (some 46) true (s [23,47,48] [(48,.un (.ext 1) (t 46))] [(10,t 10),(47,.un (.ext 0) (t 46))] (.store 101 (a 10) (a 47)) (.fin [11] [] [t 48]))))))) (.both (p (w [39]) (.buildSlice 22 1 #[(0,a 39)]) 22 40 (.both (p (w [24,26,30,34]) (.build 80 #[(0,a 24),(1,a 26),(3,a 30),(6,a 34)]) 80 35 (p (w [44]) (.buildSlice 22 1 #[(0,a 44)]) 22 45 (.loud [] [] (w [35,40,45]) none [] true (x 104 [35,40,45] [80,22,22]) 102 (some 46) true (s [23,47,48] [(48,.un (.ext 1) (t 46))] [(10,t 10),(47,.un (.ext 0) (t 46))] (.store 101 (a 10) (a 47)) (.fin [11] [] [t 48]))))) (p (w [44]) (.buildSlice 22 1 #[(0,a 44)]) 22 45 (p (w [24,26,30,34]) (.build 80 #[(0,a 24),(1,a 26),(3,a 30),(6,a 34)]) 80 35 (.loud [] [] (w [35,40,45]) none [] true (x 104 [35,40,45] [80,22,22]) 102 (some 46) true (s [23,47,48] [(48,.un (.ext 1) (t 46))] [(10,t 10),(47,.un (.ext 0) (t 46))] (.store 101 (a 10) (a 47)) (.fin [11] [] [t 48]))))))) (p (w [44]) (.buildSlice 22 1 #[(0,a 44)]) 22 45 (.both (p (w [24,26,30,34]) (.build 80 #[(0,a 24),(1,a 26),(3,a 30),(6,a 34)]) 80 35 (p (w [39]) (.buildSlice 22 1 #[(0,a 39)]) 22 40 (.loud [] [] (w [35,40,45]) none [] true (x 104 [35,40,45] [80,22,22]) 102 (some 46) true (s [23,47,48] [(48,.un (.ext 1) (t 46))] [(10,t 10),(47,.un (.ext 0) (t 46))] (.store 101 (a 10) (a 47)) (.fin [11] [] [t 48]))))) (p (w [39]) (.buildSlice 22 1 #[(0,a 39)]) 22 40 (p (w [24,26,30,34]) (.build 80 #[(0,a 24),(1,a 26),(3,a 30),(6,a 34)]) 80 35 (.loud [] [] (w [35,40,45]) none [] true (x 104 [35,40,45] [80,22,22]) 102 (some 46) true (s [23,47,48] [(48,.un (.ext 1) (t 46))] [(10,t 10),(47,.un (.ext 0) (t 46))] (.store 101 (a 10) (a 47)) (.fin [11] [] [t 48]))))))))))))),.reg false (s [49,50] [(50,t 9)] [(6,t 6),(49,.un (.au 8) (t 10))] (.store 101 (a 6) (a 49)) (.fin [7] [(7,t 50)] [])),.ret]⟩)=>b);simp only[sh];rfl
theorem E.bG:aN Tryz.prog Tryz.f108=some L.bG:=by kernel_rfl
theorem F.bG:Tryz.prog.funcs[N.bG]? = some Tryz.f108:=Tryz.func108
abbrev N.df:Nat:=109
def L.df:LFn:=by apply(fun{b:LFn}(_:b=⟨[t 8,t 9],q [.reg false (p (w [0]) (.box 97 (a 0)) 0 4 (.fin [8,9] [(8,c 0),(9,.con (.bool false))] [])),.reg false (l [13,14] [] [(13,.un (.au 13) (t 4)),(14,t 1)] (.call ⟨.value (.func 100),#[a 13,a 14,.const (.int .i64 1)],#[97,3,3]⟩) 163 15 (l [12,16,17] [(16,.un (.ext 0) (t 15)),(17,.un (.ext 1) (t 15))] [] (.alloc 70) 0 10 (s [] [] (w [10,16]) (.store 70 (a 10) (a 16)) (.fin [11] [(11,t 17)] [])))),.reg true (.loud [18,19,20,21,22,23,24,25,26,27] [(20,.un (.conv .i64) (g 4 (t 10))),(22,t 11)] [(25,.gd (t 11) true (.un (.conv .i64) (g 4 (t 10)))),(26,.gd (t 11) true (t 2)),(27,.gd (t 11) true (t 3))] (some (t 11,true)) [] false (x 42 [25,26,27] [3,3,3]) 4 (some 28) true (.fin [29,8,9] [(8,t 20),(9,.ite (t 22) (t 28) (.con (.bool false)))] [])),.ret]⟩)=>b);simp only[sh];rfl
theorem E.df:aN Tryz.prog Tryz.f109=some L.df:=by kernel_rfl
theorem F.df:Tryz.prog.funcs[N.df]? = some Tryz.f109:=Tryz.func109
abbrev N.cB:Nat:=110
def L.cB:LFn:=by apply(fun{b:LFn}(_:b=⟨[.un (.au 8) (t 3),t 4],q [.reg false (p [] (.alloc 101) 0 3 (.fin [4] [(4,.con (.bool false))] [])),.reg false (l [8] [] [(8,.un (.au 13) (t 0))] (.makeFunc (.func 100) #[a 8] #[]) 170 9 (.fin [5] [(5,t 9)] [])),.reg false (l [11,12,13,14,15] [] [(11,t 5),(15,d (i 1 (g 3 (t 1)) (c 0)))] (.call ⟨.value (a 11),#[a 15,.const (.int .i64 4)],#[3,3]⟩) 163 16 (l [10,17,18] [(17,.un (.ext 0) (t 16)),(18,.un (.ext 1) (t 16))] [] (.alloc 70) 0 6 (s [] [] (w [6,17]) (.store 70 (a 6) (a 17)) (.fin [7] [(7,t 18)] [])))),q [k [19,20] [(20,.un .not (t 7))],u 20 (q [.reg false (l [21] [] [(21,d (t 2))] (.call ⟨.value (a 21),#[],#[]⟩) 102 22 (s [23,24] [(24,.un (.ext 1) (t 22))] [(3,t 3),(23,.un (.ext 0) (t 22))] (.store 101 (a 3) (a 23)) (.fin [4] [(4,t 24)] []))),.ret]) .skip],.reg true (.both (l [25,26,27,28,29,30,31,32,33,34,35,36,37,38,40,41,42,43,44,45,46,47,48,49,50,51,53,54,55,56] [(43,d (i 1 (g 3 (t 6)) (c 0))),(47,d (i 1 (g 3 (t 6)) (c 1))),(51,d (i 1 (g 3 (t 1)) (c 1))),(56,d (i 1 (g 3 (t 1)) (c 0)))] [(26,g 1 (t 1)),(30,d (i 1 (g 3 (t 6)) (c 0))),(34,d (i 1 (g 3 (t 6)) (c 1))),(38,d (i 1 (g 3 (t 1)) (c 1)))] (.build 80 #[(0,.const (.int .i64 23)),(1,a 26),(3,a 30),(4,a 34),(5,a 38)]) 80 39 (.both (p (w [43,47,51]) (.buildSlice 22 3 #[(0,a 43),(1,a 47),(2,a 51)]) 22 52 (p (w [56]) (.buildSlice 22 1 #[(0,a 56)]) 22 57 (.loud [] [] (w [39,52,57]) none [] true (x 104 [39,52,57] [80,22,22]) 102 (some 58) true (s [59,60] [(60,.un (.ext 1) (t 58))] [(3,t 3),(59,.un (.ext 0) (t 58))] (.store 101 (a 3) (a 59)) (.fin [4] [(4,t 60)] []))))) (p (w [56]) (.buildSlice 22 1 #[(0,a 56)]) 22 57 (p (w [43,47,51]) (.buildSlice 22 3 #[(0,a 43),(1,a 47),(2,a 51)]) 22 52 (.loud [] [] (w [39,52,57]) none [] true (x 104 [39,52,57] [80,22,22]) 102 (some 58) true (s [59,60] [(60,.un (.ext 1) (t 58))] [(3,t 3),(59,.un (.ext 0) (t 58))] (.store 101 (a 3) (a 59)) (.fin [4] [(4,t 60)] []))))))) (.both (l [25,26,27,28,29,30,31,32,33,34,35,36,37,38,40,41,42,43,44,45,46,47,48,49,50,51,53,54,55,56] [(26,g 1 (t 1)),(30,d (i 1 (g 3 (t 6)) (c 0))),(34,d (i 1 (g 3 (t 6)) (c 1))),(38,d (i 1 (g 3 (t 1)) (c 1))),(56,d (i 1 (g 3 (t 1)) (c 0)))] [(43,d (i 1 (g 3 (t 6)) (c 0))),(47,d (i 1 (g 3 (t 6)) (c 1))),(51,d (i 1 (g 3 (t 1)) (c 1)))] (.buildSlice 22 3 #[(0,a 43),(1,a 47),(2,a 51)]) 22 52 (.both (p (w [26,30,34,38]) (.build 80 #[(0,.const (.int .i64 23)),(1,a 26),(3,a 30),(4,a 34),(5,a 38)]) 80 39 (p (w [56]) (.buildSlice 22 1 #[(0,a 56)]) 22 57 (.loud [] [] (w [39,52,57]) none [] true (x 104 [39,52,57] [80,22,22]) 102 (some 58) true (s [59,60] [(60,.un (.ext 1) (t 58))] [(3,t 3),(59,.un (.ext 0) (t 58))] (.store 101 (a 3) (a 59)) (.fin [4] [(4,t 60)] []))))) (p (w [56]) (.buildSlice 22 1 #[(0,a 56)]) 22 57 (p (w [26,30,34,38]) (.build 80 #[(0,.const (.int .i64 23)),(1,a 26),(3,a 30),(4,a 34),(5,a 38)]) 80 39 (.loud [] [] (w [39,52,57]) none [] true (x 104 [39,52,57] [80,22,22]) 102 (some 58) true (s [59,60] [(60,.un (.ext 1) (t 58))] [(3,t 3),(59,.un (.ext 0) (t 58))] (.store 101 (a 3) (a 59)) (.fin [4] [(4,t 60)] []))))))) (l [25,26,27,28,29,30,31,32,33,34,35,36,37,38,40,41,42,43,44,45,46,47,48,49,50,51,53,54,55,56] [(26,g 1 (t 1)),(30,d (i 1 (g 3 (t 6)) (c 0))),(34,d (i 1 (g 3 (t 6)) (c 1))),(38,d (i 1 (g 3 (t 1)) (c 1))),(43,d (i 1 (g 3 (t 6)) (c 0))),(47,d (i 1 (g 3 (t 6)) (c 1))),(51,d (i 1 (g 3 (t 1)) (c 1)))] [(56,d (i 1 (g 3 (t 1)) (c 0)))] (.buildSlice 22 1 #[(0,a 56)]) 22 57 (.both (p (w [26,30,34,38]) (.build 80 #[(0,.const (.int .i64 23)),(1,a 26),(3,a 30),(4,a 34),(5,a 38)]) 80 39 (p (w [43,47,51]) (.buildSlice 22 3 #[(0,a 43),(1,a 47),(2,a 51)]) 22 52 (.loud [] [] (w [39,52,57]) none [] true (x 104 [39,52,57] [80,22,22]) 102 (some 58) true (s [59,60] [(60,.un (.ext 1) (t 58))] [(3,t 3),(59,.un (.ext 0) (t 58))] (.store 101 (a 3) (a 59)) (.fin [4] [(4,t 60)] []))))) (p (w [43,47,51]) (.buildSlice 22 3 #[(0,a 43),(1,a 47),(2,a 51)]) 22 52 (p (w [26,30,34,38]) (.build 80 #[(0,.const (.int .i64 23)),(1,a 26),(3,a 30),(4,a 34),(5,a 38)]) 80 39 (.loud [] [] (w [39,52,57]) none [] true (x 104 [39,52,57] [80,22,22]) 102 (some 58) true (s [59,60] [(60,.un (.ext 1) (t 58))] [(3,t 3),(59,.un (.ext 0) (t 58))] (.store 101 (a 3) (a 59)) (.fin [4] [(4,t 60)] []))))))))),.ret]⟩)=>b);simp only[sh];rfl
theorem E.cB:aN Tryz.prog Tryz.f110=some L.cB:=by kernel_rfl
theorem F.cB:Tryz.prog.funcs[N.cB]? = some Tryz.f110:=Tryz.func110
abbrev N.dG:Nat:=111
def L.dG:LFn:=by apply(fun{b:LFn}(_:b=⟨[],q [.reg false (p (w [0]) (.box 97 (a 0)) 0 6 (p (w [3]) (.box 3 (a 3)) 0 9 (p (w [4]) (.box 3 (a 4)) 0 10 (p (w [5]) (.box 3 (a 5)) 0 11 z)))),.reg false (l [15,16] [(16,.un (.au 5) (e 2 (t 6)))] [] (.alloc 70) 0 12 (s [] [] (w [12,16]) (.store 70 (a 12) (a 16)) z)),.reg false (l [17] [(17,.un (.fn 130) (.snoc (.snoc (.snoc (.con (.tuple #[])) (t 9)) (t 12)) (t 10)))] [] (.alloc 199) 0 13 (s [] [] (w [13,17]) (.store 199 (a 13) (a 17)) z)),.reg false (l [18] [(18,.un (.fn 131) (.snoc (.con (.tuple #[])) (t 12)))] [] (.alloc 200) 0 14 (s [] [] (w [14,18]) (.store 200 (a 14) (a 18)) z)),.reg false (.loud [19,20,21,22] [] [(19,t 1),(20,d (t 9)),(21,t 2),(22,.un (.fn 132) (.snoc (.snoc (.snoc (.snoc (.con (.tuple #[])) (t 13)) (t 10)) (t 12)) (t 14)))] none [] false (.call ⟨.value (a 19),#[a 20,a 21,a 22],#[3,3,136]⟩) 0 (some 23) false z),.reg false (.loud [24,25,26,27,28] [] [(24,t 1),(25,d (t 9)),(27,o (t 2) (c 1)),(28,.un (.fn 133) (.snoc (.snoc (.snoc (.snoc (.snoc (.con (.tuple #[])) (t 6)) (t 12)) (t 13)) (t 10)) (t 14)))] none [] false (.call ⟨.value (a 24),#[a 25,a 27,a 28],#[3,3,136]⟩) 0 (some 29) false z),.reg false (.loud [30,31,32,33,34] [] [(30,t 1),(31,d (t 9)),(33,o (t 2) (c 2)),(34,.un (.fn 134) (.snoc (.snoc (.snoc (.snoc (.snoc (.con (.tuple #[])) (t 6)) (t 12)) (t 13)) (t 11)) (t 14)))] none [] false (.call ⟨.value (a 30),#[a 31,a 33,a 34],#[3,3,136]⟩) 0 (some 35) false z),.reg false (.loud [36,37,38,39,40] [] [(36,t 1),(37,d (t 9)),(39,o (t 2) (c 3)),(40,.un (.fn 135) (.snoc (.snoc (.snoc (.snoc (.snoc (.con (.tuple #[])) (t 6)) (t 12)) (t 14)) (t 13)) (t 11)))] none [] false (.call ⟨.value (a 36),#[a 37,a 39,a 40],#[3,3,136]⟩) 0 (some 41) false z)]⟩)=>b);simp only[sh];rfl
theorem E.dG:aN Tryz.prog Tryz.f111=some L.dG:=by kernel_rfl
theorem F.dG:Tryz.prog.funcs[N.dG]? = some Tryz.f111:=Tryz.func111
abbrev N.cI:Nat:=112
def L.cI:LFn:=by apply(fun{b:LFn}(_:b=⟨[.un (.au 8) (t 1),t 2],q [.reg false (p [] (.alloc 101) 0 1 (.fin [2] [(2,.con (.bool false))] [])),.reg true (l [3,4,5,6,7,8,11,12] [(4,g 1 (t 0)),(6,g 4 (t 0)),(12,g 3 (t 0))] [(8,g 3 (t 0))] (x 99 [8] [22]) 22 9 (.both (p (w [4,6,9]) (.build 80 #[(0,.const (.int .i64 28)),(1,a 4),(6,a 6),(7,a 9)]) 80 10 (p (w [12]) (x 99 [12] [22]) 22 13 (.loud [] [] (w [10,13]) none [] true (.call ⟨.value (.func 104),#[a 10,a 13,.const (.slice none 0 0)],#[80,22,22]⟩) 102 (some 14) true (s [15,16] [(16,.un (.ext 1) (t 14))] [(1,t 1),(15,.un (.ext 0) (t 14))] (.store 101 (a 1) (a 15)) (.fin [2] [(2,t 16)] []))))) (p (w [12]) (x 99 [12] [22]) 22 13 (p (w [4,6,9]) (.build 80 #[(0,.const (.int .i64 28)),(1,a 4),(6,a 6),(7,a 9)]) 80 10 (.loud [] [] (w [10,13]) none [] true (.call ⟨.value (.func 104),#[a 10,a 13,.const (.slice none 0 0)],#[80,22,22]⟩) 102 (some 14) true (s [15,16] [(16,.un (.ext 1) (t 14))] [(1,t 1),(15,.un (.ext 0) (t 14))] (.store 101 (a 1) (a 15)) (.fin [2] [(2,t 16)] []))))))),.ret]⟩)=>b);simp only[sh];rfl
theorem E.cI:aN Tryz.prog Tryz.f112=some L.cI:=by kernel_rfl
theorem F.cI:Tryz.prog.funcs[N.cI]? = some Tryz.f112:=Tryz.func112
abbrev N.cA:Nat:=113
def L.cA:LFn:=by apply(fun{b:LFn}(_:b=⟨[.un (.au 8) (t 1),t 2],q [.reg false (p [] (.alloc 101) 0 1 (.fin [2] [(2,.con (.bool false))] [])),.reg true (.both (l [3,4,5,6,7,8,9,10,11,12,13,14,16,17] [(17,g 3 (t 0))] [(4,g 1 (t 0)),(6,g 2 (t 0)),(10,d (i 1 (g 3 (t 0)) (c 0))),(14,d (i 1 (g 3 (t 0)) (c 1)))] (.build 80 #[(0,.const (.int .i64 29)),(1,a 4),(2,a 6),(3,a 10),(4,a 14)]) 80 15 (p (w [17]) (x 99 [17] [22]) 22 18 (.loud [] [] (w [15,18]) none [] true (.call ⟨.value (.func 104),#[a 15,a 18,.const (.slice none 0 0)],#[80,22,22]⟩) 102 (some 19) true (s [20,21] [(21,.un (.ext 1) (t 19))] [(1,t 1),(20,.un (.ext 0) (t 19))] (.store 101 (a 1) (a 20)) (.fin [2] [(2,t 21)] []))))) (l [3,4,5,6,7,8,9,10,11,12,13,14,16,17] [(4,g 1 (t 0)),(6,g 2 (t 0)),(10,d (i 1 (g 3 (t 0)) (c 0))),(14,d (i 1 (g 3 (t 0)) (c 1)))] [(17,g 3 (t 0))] (x 99 [17] [22]) 22 18 (p (w [4,6,10,14]) (.build 80 #[(0,.const (.int .i64 29)),(1,a 4),(2,a 6),(3,a 10),(4,a 14)]) 80 15 (.loud [] [] (w [15,18]) none [] true (.call ⟨.value (.func 104),#[a 15,a 18,.const (.slice none 0 0)],#[80,22,22]⟩) 102 (some 19) true (s [20,21] [(21,.un (.ext 1) (t 19))] [(1,t 1),(20,.un (.ext 0) (t 19))] (.store 101 (a 1) (a 20)) (.fin [2] [(2,t 21)] [])))))),.ret]⟩)=>b);simp only[sh];rfl
theorem E.cA:aN Tryz.prog Tryz.f113=some L.cA:=by kernel_rfl
theorem F.cA:Tryz.prog.funcs[N.cA]? = some Tryz.f113:=Tryz.func113
abbrev N.bR:Nat:=115
def L.bR.l1:LC:=by apply(fun{b:LC}(_:b=q [k [15] [(15,j .lss (t 14) (t 13))],u 15 .skip (.exit 0),.block 1 (q [k [16,17,9] [(9,d (i 1 (t 12) (t 14)))],.reg false (.loud [18,19,20,21] [] [(18,t 0),(19,t 9),(20,t 2),(21,t 3)] none [] false (x 138 [18,19,20,21] [146,3,3,3]) 0 (some 22) false z)]),k [23,14] [(14,o (t 14) (c 1))]])=>b);simp only[sh];rfl
def L.bR.l2:LC:=by apply(fun{b:LC}(_:b=q [k [27] [(27,j .lss (t 26) (t 25))],u 27 .skip (.exit 2),.block 3 (q [k [28,29,11] [(11,d (i 1 (t 24) (t 26)))],.reg false (.loud [30,31,32,33] [] [(30,t 0),(31,t 11),(32,t 2),(33,t 3)] none [] false (x 139 [30,31,32,33] [146,3,3,3]) 0 (some 34) false z)]),k [35,26] [(26,o (t 26) (c 1))]])=>b);simp only[sh];rfl
def L.bR:LFn:=by apply(fun{b:LFn}(_:b=⟨[],q [q [k [12,13,14] [(12,t 1),(13,h (t 1)),(14,c 0)],v 0 L.bR.l1],k [24,25,26] [(24,t 1),(25,h (t 1)),(26,c 0)],v 2 L.bR.l2]⟩)=>b);simp only[sh];rfl
theorem E.bR:aN Tryz.prog Tryz.f115=some L.bR:=by kernel_rfl
theorem F.bR:Tryz.prog.funcs[N.bR]? = some Tryz.f115:=Tryz.func115
abbrev N.eh:Nat:=116
def L.eh:LFn:=by apply(fun{b:LFn}(_:b=⟨[t 2,t 3],q [k [2,3] [(2,c 0),(3,c 0)],q [k [4] [(4,t 0)],.block 0 (q [k [6,5] [(5,j .eql (t 4) (c 1))],u 5 (q [k [2,3] [(2,c 0),(3,c 0)],.ret]) (q [k [8,7] [(7,j .eql (t 4) (c 15))],u 7 (q [k [2,3] [(2,c 1),(3,c 1)],.ret]) (q [k [10,9] [(9,j .eql (t 4) (c 17))],u 9 (q [k [2,3] [(2,c 0),(3,c 4)],.ret]) .skip])])])],k [2,3] [(2,c 2),(3,c 2)],.ret]⟩)=>b);simp only[sh];rfl
theorem E.eh:aN Tryz.prog Tryz.f116=some L.eh:=by kernel_rfl
theorem F.eh:Tryz.prog.funcs[N.eh]? = some Tryz.f116:=Tryz.func116
abbrev N.fl:Nat:=117
def L.fl:LFn:=by apply(fun{b:LFn}(_:b=⟨[t 0],q [k [0] [(0,.con (.map none))],.reg false (p [] (.makeMap 187 none) 187 1 (p [] (.build 185 #[(0,.const (.int .i64 0)),(1,.const (.int .i64 0)),(2,.const (.int .i64 1)),(3,.const (.int .i64 1))]) 185 2 (s [] [] (w [1,2]) (.insert 187 (a 1) (.const (.int .i64 1)) (a 2)) (p [] (.build 185 #[(0,.const (.int .i64 1)),(1,.const (.int .i64 1)),(2,.const (.int .i64 2)),(3,.const (.int .i64 2))]) 185 3 (s [] [] (w [1,3]) (.insert 187 (a 1) (.const (.int .i64 2)) (a 3)) (p [] (.build 185 #[(0,.const (.int .i64 1)),(1,.const (.int .i64 1)),(2,.const (.int .i64 2)),(3,.const (.int .i64 65))]) 185 4 (s [] [] (w [1,4]) (.insert 187 (a 1) (.const (.int .i64 3)) (a 4)) (p [] (.build 185 #[(0,.const (.int .i64 0)),(1,.const (.int .i64 1)),(2,.const (.int .i64 0)),(3,.const (.int .i64 0))]) 185 5 (s [] [] (w [1,5]) (.insert 187 (a 1) (.const (.int .i64 4)) (a 5)) (p [] (.build 185 #[(0,.const (.int .i64 0)),(1,.const (.int .i64 0)),(2,.const (.int .i64 0)),(3,.const (.int .i64 0))]) 185 6 (s [] [] (w [1,6]) (.insert 187 (a 1) (.const (.int .i64 5)) (a 6)) (.fin [7,0] [(0,t 1)] [])))))))))))),.ret]⟩)=>b);simp only[sh];rfl
theorem E.fl:aN Tryz.prog Tryz.f117=some L.fl:=by kernel_rfl
theorem F.fl:Tryz.prog.funcs[N.fl]? = some Tryz.f117:=Tryz.func117
abbrev N.gU:Nat:=118
def L.gU.l1:LC:=by apply(fun{b:LC}(_:b=q [k [14] [(14,j .lss (t 13) (t 12))],u 14 .skip (.exit 0),.block 1 (q [.reg false (l [15,16,17] [(15,t 13),(17,.un (.au 6) (i 6 (t 11) (t 13)))] [] (.alloc 35) 0 5 (s [4] [(4,t 15)] (w [5,17]) (.store 35 (a 5) (a 17)) z)),.reg false (l [18,19,20,21,22,23,24,25] [(18,t 3),(19,t 4)] [(22,g 2 (e 2 (t 5))),(25,h (g 1 (t 1)))] (x 140 [22,25] [22,3]) 22 26 (s [27] [] [(27,i 1 (t 18) (t 19)),(26,t 26)] (.store 22 (a 27) (a 26)) z))]),k [28,13] [(13,o (t 13) (c 1))]])=>b);simp only[sh];rfl
def L.gU:LFn:=by apply(fun{b:LFn}(_:b=⟨[t 2],q [.reg false (p (w [0]) (.box 27 (a 0)) 0 1 (.fin [2] [(2,.con (.slice none 0 0))] [])),.reg false (l [6,7,8] [] [(8,h (g 1 (t 1))),(8,h (g 1 (t 1)))] (.makeSlice 120 (a 8) (a 8)) 120 9 (.fin [3] [(3,t 9)] [])),q [k [10,11,12,13] [(11,g 1 (t 1)),(12,h (g 1 (t 1))),(13,c 0)],v 0 L.gU.l1],k [29,2] [(2,t 3)],.ret]⟩)=>b);simp only[sh];rfl
theorem E.gU:aN Tryz.prog Tryz.f118=some L.gU:=by kernel_rfl
theorem F.gU:Tryz.prog.funcs[N.gU]? = some Tryz.f118:=Tryz.func118
abbrev N.fI:Nat:=119
def L.fI:LFn:=by apply(fun{b:LFn}(_:b=⟨[t 2],q [k [2] [(2,.con (.slice none 0 0))],q [k [7,8,9] [(9,j .eql (h (t 0)) (c 0))],u 9 (q [k [2] [(2,.con (.slice none 0 0))],.ret]) .skip],.reg false (l [10] [] [(10,t 0)] (x 141 [10] [120]) 120 11 (p [] (.alloc 120) 0 3 (s [] [] (w [3,11]) (.store 120 (a 3) (a 11)) z))),.reg false (l [12,13] [] [(13,h (t 0)),(13,h (t 0))] (.makeSlice 123 (a 13) (a 13)) 123 14 (p [] (.alloc 123) 0 4 (s [] [] (w [4,14]) (.store 123 (a 4) (a 14)) z))),.reg false (p [] (.alloc 22) 0 5 z),.reg false (p [] (.alloc 127) 0 6 z),.reg false (s [15] [] [(6,t 6),(15,.un (.fn 142) (.snoc (.snoc (.snoc (.snoc (.con (.tuple #[])) (t 4)) (t 3)) (t 6)) (t 5)))] (.store 127 (a 6) (a 15)) z),.reg false (.loud [16] [] [(16,d (t 6))] none [] false (.call ⟨.value (a 16),#[.const (.int .i64 0)],#[3]⟩) 0 (some 17) false z),.reg false (.loud [18] [] [(18,d (t 5))] none [] false (x 143 [18] [22]) 0 (some 19) false z),k [20,2] [(2,d (t 5))],.ret]⟩)=>b);simp only[sh];rfl
theorem E.fI:aN Tryz.prog Tryz.f119=some L.fI:=by kernel_rfl
theorem F.fI:Tryz.prog.funcs[N.fI]? = some Tryz.f119:=Tryz.func119
abbrev N.fQ:Nat:=120
def L.fQ:LFn:=by apply(fun{b:LFn}(_:b=⟨[t 2],q [k [2] [(2,.con (.slice none 0 0))],.reg false (l [6,7] [] [(7,h (t 0)),(7,h (t 0))] (.makeSlice 120 (a 7) (a 7)) 120 8 (p [] (.alloc 120) 0 3 (s [] [] (w [3,8]) (.store 120 (a 3) (a 8)) z))),q [.reg false (l [9] [] [(9,t 0)] (x 144 [9] [120]) 216 10 z),.block 0 (.rangef (t 10) [11,12] (q [k [4] [(4,t 11)],k [5] [(5,t 12)]]) (.block 1 (.reg true (l [13,14,15,16,17,18,19] [(13,d (t 3)),(14,t 5),(18,d (i 1 (d (t 3)) (t 5)))] [(19,t 4)] (.buildSlice 22 1 #[(0,a 19)]) 22 20 (p (w [18,20]) (.call ⟨.builtin .append,#[a 18,a 20],#[22,22]⟩) 22 21 (.loud [22] [] [(22,i 1 (t 13) (t 14)),(21,t 21)] none [] true (.store 22 (a 22) (a 21)) 0 none false z))))))],k [23,2] [(2,d (t 3))],.ret]⟩)=>b);simp only[sh];rfl
theorem E.fQ:aN Tryz.prog Tryz.f120=some L.fQ:=by kernel_rfl
theorem F.fQ:Tryz.prog.funcs[N.fQ]? = some Tryz.f120:=Tryz.func120
end
section
set_option maxRecDepth 100000
abbrev N.cK:Nat:=121
def L.cK.l1:LC:=by apply(fun{b:LC}(_:b=q [k [27] [(27,j .lss (t 26) (t 25))],u 27 .skip (.exit 0),.block 1 (q [k [28,6] [(6,t 26)],.reg false (s [29,30,31,32,33] [(31,t 5),(32,t 6)] [(33,i 1 (t 4) (t 6))] (.store 3 (a 33) (.const (.int .i64 (-1)))) (s [34] [] [(34,i 1 (t 31) (t 32))] (.store 3 (a 34) (.const (.int .i64 (-1)))) z))]),k [35,26] [(26,o (t 26) (c 1))]])=>b);simp only[sh];rfl
def L.cK.l2:LC:=by apply(fun{b:LC}(_:b=q [k [39] [(39,j .lss (t 38) (t 37))],u 39 .skip (.exit 2),.block 3 (q [k [40,41,42,7,8] [(7,t 38),(8,d (i 1 (t 36) (t 38)))],.reg false (s [43,44,45,46] [] [(46,i 1 (t 4) (t 8)),(45,t 7)] (.store 3 (a 46) (a 45)) z)]),k [47,38] [(38,o (t 38) (c 1))]])=>b);simp only[sh];rfl
def L.cK.l5:LC:=by apply(fun{b:LC}(_:b=q [k [67] [(67,j .lss (t 66) (t 65))],u 67 .skip (.exit 8),.block 9 (q [k [68,69,15] [(15,d (i 1 (t 64) (t 66)))],q [.reg false (.fin [70,71,72,73,74,75,76,77,78,79,80,81,82,83,84,85] [(85,.ite (j .lss (d (i 1 (t 4) (t 15))) (c 0)) (.con (.bool true)) (.ite (j .neq (t 15) (c 0)) (j .lss (d (i 1 (t 5) (t 15))) (c 0)) (.con (.bool false))))] [.gd (.gd (j .lss (d (i 1 (t 4) (t 15))) (c 0)) false (j .neq (t 15) (c 0))) true (j .lss (d (i 1 (t 5) (t 15))) (c 0))]),u 85 (.exit 9) .skip],q [k [86,87] [(87,j .lss (t 13) (c 0))],u 87 (q [k [88,13] [(13,t 15)],.exit 9]) .skip],.reg false (l [89,90,91,92] [] [(89,t 5),(90,t 4),(91,t 13),(92,t 15)] (x 145 [89,90,91,92] [22,22,3,3]) 3 93 (.fin [13] [(13,t 93)] []))]),k [94,66] [(66,o (t 66) (c 1))]])=>b);simp only[sh];rfl
def L.cK.l4:LC:=by apply(fun{b:LC}(_:b=q [k [58] [(58,j .lss (t 57) (t 56))],u 58 .skip (.exit 6),.block 7 (q [k [59,60,12] [(12,d (i 1 (t 55) (t 57)))],k [13] [(13,c (-1))],q [k [61,62,63,64,65,66] [(64,d (i 1 (t 9) (t 12))),(65,h (d (i 1 (t 9) (t 12)))),(66,c 0)],v 8 L.cK.l5],k [95,96,97,98,99,100] [(100,j .neq (d (i 1 (t 5) (t 12))) (t 13))],u 100 (.reg false (s [101,102,103,104] [] [(104,i 1 (t 5) (t 12)),(103,t 13)] (.store 3 (a 104) (a 103)) (.fin [10] [(10,.con (.bool true))] []))) .skip]),k [105,57] [(57,o (t 57) (c 1))]])=>b);simp only[sh];rfl
def L.cK.l3:LC:=by apply(fun{b:LC}(_:b=q [q [k [50] [(50,t 10)],u 50 .skip (.exit 4)],.block 5 (q [k [10] [(10,.con (.bool false))],k [51,52,53,54,55,56,57] [(55,.bin (.lo 1) (t 3) (.bin .min (c 1) (h (t 3)))),(56,h (.bin (.lo 1) (t 3) (.bin .min (c 1) (h (t 3))))),(57,c 0)],v 6 L.cK.l4])])=>b);simp only[sh];rfl
def L.cK:LFn:=by apply(fun{b:LFn}(_:b=⟨[t 2],q [k [2] [(2,.con (.slice none 0 0))],.reg false (l [16] [] [(16,t 0)] (x 119 [16] [120]) 22 17 (.fin [3] [(3,t 17)] [])),.reg false (l [18,19] [] [(19,h (t 0)),(19,h (t 0))] (.makeSlice 22 (a 19) (a 19)) 22 20 (.fin [4] [(4,t 20)] [])),.reg false (l [21,22] [] [(22,h (t 0)),(22,h (t 0))] (.makeSlice 22 (a 22) (a 22)) 22 23 (.fin [5] [(5,t 23)] [])),q [k [24,25,26] [(25,h (t 0)),(26,c 0)],v 0 L.cK.l1],q [k [36,37,38] [(36,t 3),(37,h (t 3)),(38,c 0)],v 2 L.cK.l2],.reg false (l [48] [] [(48,t 0)] (x 120 [48] [120]) 120 49 (.fin [9] [(9,t 49)] [])),q [k [10] [(10,.con (.bool true))],v 4 L.cK.l3],k [106,2] [(2,t 5)],.ret]⟩)=>b);simp only[sh];rfl
theorem E.cK:aN Tryz.prog Tryz.f121=some L.cK:=by kernel_rfl
theorem F.cK:Tryz.prog.funcs[N.cK]? = some Tryz.f121:=Tryz.func121
abbrev N.aQ:Nat:=122
def L.aQ:LFn:=by apply(fun{b:LFn}(_:b=⟨[],q [q [k [14,15,16,17,18,19,20,21,22,23,24] [(24,.ite (j .geq (t 0) (c 0)) (j .lss (t 0) (g 0 (e 0 (.un .nilPtr (d (t 5)))))) (.con (.bool false)))],u 24 .ret .skip],.reg false (l [26,27,28,29,30] [] [(29,g 2 (.un .nilPtr (d (t 5)))),(30,t 0)] (.lookup 147 (a 29) (a 30) true) 192 31 (l [25,32,33] [(32,.un (.ext 0) (t 31)),(33,.un (.ext 1) (t 31))] [] (.alloc 116) 0 12 (s [] [] (w [12,32]) (.store 116 (a 12) (a 32)) (.fin [13] [(13,t 33)] [])))),.reg false (.loud [34,35,36,37,38,39,40,41,42,43,44,45,46,47,48,49,50,51,52,53,54,55,56,57,58,59,60] [(35,t 13),(51,.gd (t 13) true (.ite (j .eql (g 0 (t 12)) (t 1)) (.ite (j .lss (g 1 (t 12)) (t 3)) (.con (.bool true)) (j .lss (g 1 (t 12)) (c 0))) (.con (.bool false)))),(56,.gd (.gd (t 13) true (.ite (j .eql (g 0 (t 12)) (t 1)) (.ite (j .lss (g 1 (t 12)) (t 3)) (.con (.bool true)) (j .lss (g 1 (t 12)) (c 0))) (.con (.bool false)))) false (j .neq (g 0 (t 12)) (t 1)))] [(57,.gd (.gd (.gd (t 13) true (.ite (j .eql (g 0 (t 12)) (t 1)) (.ite (j .lss (g 1 (t 12)) (t 3)) (.con (.bool true)) (j .lss (g 1 (t 12)) (c 0))) (.con (.bool false)))) false (j .neq (g 0 (t 12)) (t 1))) true (d (t 6))),(59,.gd (.gd (.gd (t 13) true (.ite (j .eql (g 0 (t 12)) (t 1)) (.ite (j .lss (g 1 (t 12)) (t 3)) (.con (.bool true)) (j .lss (g 1 (t 12)) (c 0))) (.con (.bool false)))) false (j .neq (g 0 (t 12)) (t 1))) true (g 0 (t 12))),(60,.gd (.gd (.gd (t 13) true (.ite (j .eql (g 0 (t 12)) (t 1)) (.ite (j .lss (g 1 (t 12)) (t 3)) (.con (.bool true)) (j .lss (g 1 (t 12)) (c 0))) (.con (.bool false)))) false (j .neq (g 0 (t 12)) (t 1))) true (t 1))] (some (.gd (.gd (t 13) true (.ite (j .eql (g 0 (t 12)) (t 1)) (.ite (j .lss (g 1 (t 12)) (t 3)) (.con (.bool true)) (j .lss (g 1 (t 12)) (c 0))) (.con (.bool false)))) false (j .neq (g 0 (t 12)) (t 1)),true)) [.gd (.gd (t 13) true (j .eql (g 0 (t 12)) (t 1))) true (.ite (j .lss (g 1 (t 12)) (t 3)) (.con (.bool true)) (j .lss (g 1 (t 12)) (c 0))),.gd (.gd (.gd (t 13) true (j .eql (g 0 (t 12)) (t 1))) true (j .lss (g 1 (t 12)) (t 3))) false (j .lss (g 1 (t 12)) (c 0))] false (x 123 [57,59,60] [22,3,3]) 4 (some 61) true (.fin [62,63,64,13] [(13,.ite (t 35) (.ite (t 51) (.con (.bool true)) (.ite (t 56) (t 61) (.con (.bool false)))) (.con (.bool false)))] [.gd (t 51) false (.ite (t 56) (t 61) (.con (.bool false)))])),.reg false (.loud [65,66,67] [] [(65,t 13),(66,t 4),(67,t 2)] none [] false (.call ⟨.value (.func 68),#[a 65,.const (.int .i64 13),a 66,a 67],#[4,57,3,3]⟩) 0 (some 68) false z)]⟩)=>b);simp only[sh];rfl
theorem E.aQ:aN Tryz.prog Tryz.f122=some L.aQ:=by kernel_rfl
theorem F.aQ:Tryz.prog.funcs[N.aQ]? = some Tryz.f122:=Tryz.func122
abbrev N.dk:Nat:=123
def L.dk.l1:LC:=by apply(fun{b:LC}(_:b=q [k [23] [(23,j .lss (t 22) (t 21))],u 23 .skip (.exit 0),.block 1 (q [q [k [24,25,26] [(26,j .eql (t 1) (t 2))],u 26 (q [k [6] [(6,.con (.bool true))],.ret]) .skip],q [.reg false (l [27,28] [] [(27,t 7),(28,t 2)] (.call ⟨.value (a 27),#[a 28],#[3]⟩) 4 29 (.fin [30] [(30,.un .not (t 29))] [])),u 30 (q [k [6] [(6,.con (.bool false))],.ret]) .skip],k [31,32,33,34,2] [(2,d (i 1 (d (t 3)) (t 2)))]]),k [35,22] [(22,o (t 22) (c 1))]])=>b);simp only[sh];rfl
def L.dk:LFn:=by apply(fun{b:LFn}(_:b=⟨[t 6],q [.reg false (p (w [0]) (.box 22 (a 0)) 0 3 (.fin [6] [(6,.con (.bool false))] [])),k [8,7] [(7,.un (.fn 146) (.snoc (.con (.tuple #[])) (t 3)))],q [.reg false (l [9,10] [] [(9,t 7),(10,t 1)] (.call ⟨.value (a 9),#[a 10],#[3]⟩) 4 11 (.loud [12,13,14,15] [(13,.un .not (t 11))] [(14,.gd (.un .not (t 11)) false (t 7)),(15,.gd (.un .not (t 11)) false (t 2))] (some (.un .not (t 11),false)) [] false (.call ⟨.value (a 14),#[a 15],#[3]⟩) 4 (some 16) true (.fin [17,18] [(18,.ite (t 13) (.con (.bool true)) (.un .not (t 16)))] []))),u 18 (q [k [6] [(6,.con (.bool false))],.ret]) .skip],q [k [19,20,21,22] [(21,o (h (d (t 3))) (c 1)),(22,c 0)],v 0 L.dk.l1],k [6] [(6,.con (.bool false))],.ret]⟩)=>b);simp only[sh];rfl
theorem E.dk:aN Tryz.prog Tryz.f123=some L.dk:=by kernel_rfl
theorem F.dk:Tryz.prog.funcs[N.dk]? = some Tryz.f123:=Tryz.func123
abbrev N.dv:Nat:=124
def L.dv:LFn:=by apply(fun{b:LFn}(_:b=⟨[t 2,t 3],q [k [2,3] [(2,c 0),(3,.con (.bool false))],q [k [5,6,7,8,9,10] [(10,j .eql (h (g 5 (.un .nilPtr (t 0)))) (c 0))],u 10 (q [k [2,3] [(2,c 0),(3,.con (.bool false))],.ret]) .skip],.reg false (l [11,12,13,14,15,16] [] [(11,t 0),(16,h (g 5 (.un .nilPtr (t 0))))] (x 34 [11,16] [87,3]) 3 17 (.fin [4] [(4,t 17)] [])),q [.reg false (l [18] [] [(18,t 0)] (.call ⟨.value (.func 34),#[a 18,.const (.int .i64 3)],#[87,3]⟩) 3 19 (.fin [20] [(20,j .eql (t 19) (c 0))] [])),u 20 (k [21,22,23,24,25,26,4] [(4,.bin (.arith .sub) (h (g 5 (.un .nilPtr (t 0)))) (c 1))]) .skip],k [27,28,29,30,31,32,33,2,3] [(2,d (i 1 (g 5 (.un .nilPtr (t 0))) (t 4))),(3,.con (.bool true))],.ret]⟩)=>b);simp only[sh];rfl
theorem E.dv:aN Tryz.prog Tryz.f124=some L.dv:=by kernel_rfl
theorem F.dv:Tryz.prog.funcs[N.dv]? = some Tryz.f124:=Tryz.func124
abbrev N.cV:Nat:=129
def L.cV.l2:LC:=by apply(fun{b:LC}(_:b=q [k [22] [(22,j .lss (t 21) (t 20))],u 22 .skip (.exit 2),.block 3 (q [.reg false (l [23,24] [(24,.un (.au 5) (i 5 (t 19) (t 21)))] [] (.alloc 70) 0 9 (s [] [] (w [9,24]) (.store 70 (a 9) (a 24)) z)),k [25,26,27,28,29,30,31,32,33] [(33,.ite (j .neq (g 0 (t 9)) (c 16)) (j .eql (g 1 (t 9)) (t 1)) (.con (.bool false)))],u 33 (q [.reg false (s [34] [] [(4,t 4),(34,.un (.au 5) (t 9))] (.store 70 (a 4) (a 34)) (.fin [5] [(5,.con (.bool true))] [])),.ret]) .skip]),k [35,21] [(21,o (t 21) (c 1))]])=>b);simp only[sh];rfl
def L.cV.l1:LC:=by apply(fun{b:LC}(_:b=q [k [15] [(15,j .lss (t 14) (t 13))],u 15 .skip (.exit 0),.block 1 (q [.reg false (l [16,17] [(17,.un (.au 6) (i 6 (t 12) (t 14)))] [] (.alloc 35) 0 7 (s [] [] (w [7,17]) (.store 35 (a 7) (a 17)) z)),k [18,19,20,21] [(19,g 1 (t 7)),(20,h (g 1 (t 7))),(21,c 0)],v 2 L.cV.l2]),k [36,14] [(14,o (t 14) (c 1))]])=>b);simp only[sh];rfl
def L.cV:LFn:=by apply(fun{b:LFn}(_:b=⟨[.un (.au 5) (t 4),t 5],q [.reg false (p (w [0]) (.box 97 (a 0)) 0 2 (p [] (.alloc 70) 0 4 (.fin [5] [(5,.con (.bool false))] []))),q [k [10,11,12,13,14] [(12,g 1 (e 0 (t 2))),(13,h (g 1 (e 0 (t 2)))),(14,c 0)],v 0 L.cV.l1],.reg false (p [] (.build 70 #[]) 70 37 (s [] [] (w [4,37]) (.store 70 (a 4) (a 37)) (.fin [5] [(5,.con (.bool false))] []))),.ret]⟩)=>b);simp only[sh];rfl
theorem E.cV:aN Tryz.prog Tryz.f129=some L.cV:=by kernel_rfl
theorem F.cV:Tryz.prog.funcs[N.cV]? = some Tryz.f129:=Tryz.func129
abbrev N.bY:Nat:=130
def L.bY:LFn:=by apply(fun{b:LFn}(_:b=⟨[.un (.au 8) (t 5)],q [.reg false (p (w [0]) (.box 80 (a 0)) 0 4 (p [] (.alloc 80) 0 5 z)),.block 0 (q [k [12,13,11] [(11,j .eql (d (t 1)) (c 15))],u 11 (.reg false (s [14,15,16] [] [(16,e 1 (t 4)),(15,g 1 (t 2))] (.store 3 (a 16) (a 15)) z)) (q [k [18,19,20,21,17] [(17,j .eql (g 0 (t 4)) (d (t 3)))],u 17 (.reg false (s [22,23,24,25,26] [] [(26,e 4 (t 4)),(25,d (i 1 (g 3 (t 2)) (c 1)))] (.store 3 (a 26) (a 25)) z)) (.reg false (s [6,7,8,9,10] [] [(10,e 5 (t 4)),(9,d (i 1 (g 3 (t 2)) (c 1)))] (.store 3 (a 10) (a 9)) z))])]),.reg false (s [27] [] [(5,t 5),(27,.un (.au 8) (t 4))] (.store 80 (a 5) (a 27)) z),.ret]⟩)=>b);simp only[sh];rfl
theorem E.bY:aN Tryz.prog Tryz.f130=some L.bY:=by kernel_rfl
theorem F.bY:Tryz.prog.funcs[N.bY]? = some Tryz.f130:=Tryz.func130
abbrev N.bZ:Nat:=131
def L.bZ:LFn:=by apply(fun{b:LFn}(_:b=⟨[t 3],q [k [3] [(3,.con (.slice none 0 0))],.reg false (l [4,5,6,7] [] [(4,t 0),(7,.bin (.lo 1) (g 3 (t 1)) (c 1))] (.call ⟨.builtin .append,#[a 4,a 7],#[22,22]⟩) 22 8 (.fin [3] [(3,t 8)] [])),.ret]⟩)=>b);simp only[sh];rfl
theorem E.bZ:aN Tryz.prog Tryz.f131=some L.bZ:=by kernel_rfl
theorem F.bZ:Tryz.prog.funcs[N.bZ]? = some Tryz.f131:=Tryz.func131
abbrev N.cf:Nat:=132
def L.cf:LFn:=by apply(fun{b:LFn}(_:b=⟨[.un (.au 8) (t 4),t 5],q [.reg false (p [] (.alloc 101) 0 4 (.fin [5] [(5,.con (.bool false))] [])),.reg true (.both (l [9,10,11,12,13,14,15,16,19,20,21,22,23] [(9,d (t 0)),(19,d (t 3)),(23,d (i 1 (g 3 (t 2)) (c 0)))] [(10,d (t 1)),(14,d (i 1 (g 3 (t 2)) (c 0))),(16,g 4 (t 2))] (.build 80 #[(0,a 10),(3,a 14),(6,a 16)]) 80 17 (.both (p (w [9,17]) (.call ⟨.value (a 9),#[a 17],#[80]⟩) 80 18 (.both (p (w [23]) (.buildSlice 22 1 #[(0,a 23)]) 22 24 (.both (.loud [] [] (w [19,24]) none [] true (.call ⟨.value (a 19),#[a 24],#[22]⟩) 22 (some 25) true (.both (p (w [18,25]) (.call ⟨.value (.func 104),#[a 18,a 25,.const (.slice none 0 0)],#[80,22,22]⟩) 102 26 (l [8,27,28] [(27,.un (.ext 0) (t 26)),(28,.un (.ext 1) (t 26))] [] (.alloc 101) 0 6 (s [] [] (w [6,27]) (.store 101 (a 6) (a 27)) (.fin [7] [] [t 28])))) (p [] (.alloc 101) 0 6 (p (w [18,25]) (.call ⟨.value (.func 104),#[a 18,a 25,.const (.slice none 0 0)],#[80,22,22]⟩) 102 26 (s [8,27,28] [(28,.un (.ext 1) (t 26))] [(6,t 6),(27,.un (.ext 0) (t 26))] (.store 101 (a 6) (a 27)) (.fin [7] [] [t 28])))))) (p [] (.alloc 101) 0 6 (.loud [] [] (w [19,24]) none [] true (.call ⟨.value (a 19),#[a 24],#[22]⟩) 22 (some 25) true (p (w [18,25]) (.call ⟨.value (.func 104),#[a 18,a 25,.const (.slice none 0 0)],#[80,22,22]⟩) 102 26 (s [8,27,28] [(28,.un (.ext 1) (t 26))] [(6,t 6),(27,.un (.ext 0) (t 26))] (.store 101 (a 6) (a 27)) (.fin [7] [] [t 28]))))))) (p [] (.alloc 101) 0 6 (p (w [23]) (.buildSlice 22 1 #[(0,a 23)]) 22 24 (.loud [] [] (w [19,24]) none [] true (.call ⟨.value (a 19),#[a 24],#[22]⟩) 22 (some 25) true (p (w [18,25]) (.call ⟨.value (.func 104),#[a 18,a 25,.const (.slice none 0 0)],#[80,22,22]⟩) 102 26 (s [8,27,28] [(28,.un (.ext 1) (t 26))] [(6,t 6),(27,.un (.ext 0) (t 26))] (.store 101 (a 6) (a 27)) (.fin [7] [] [t 28])))))))) (.both (p (w [23]) (.buildSlice 22 1 #[(0,a 23)]) 22 24 (.both (p (w [9,17]) (.call ⟨.value (a 9),#[a 17],#[80]⟩) 80 18 (.both (.loud [] [] (w [19,24]) none [] true (.call ⟨.value (a 19),#[a 24],#[22]⟩) 22 (some 25) true (.both (p (w [18,25]) (.call ⟨.value (.func 104),#[a 18,a 25,.const (.slice none 0 0)],#[80,22,22]⟩) 102 26 (l [8,27,28] [(27,.un (.ext 0) (t 26)),(28,.un (.ext 1) (t 26))] [] (.alloc 101) 0 6 (s [] [] (w [6,27]) (.store 101 (a 6) (a 27)) (.fin [7] [] [t 28])))) (p [] (.alloc 101) 0 6 (p (w [18,25]) (.call ⟨.value (.func 104),#[a 18,a 25,.const (.slice none 0 0)],#[80,22,22]⟩) 102 26 (s [8,27,28] [(28,.un (.ext 1) (t 26))] [(6,t 6),(27,.un (.ext 0) (t 26))] (.store 101 (a 6) (a 27)) (.fin [7] [] [t 28])))))) (p [] (.alloc 101) 0 6 (.loud [] [] (w [19,24]) none [] true (.call ⟨.value (a 19),#[a 24],#[22]⟩) 22 (some 25) true (p (w [18,25]) (.call ⟨.value (.func 104),#[a 18,a 25,.const (.slice none 0 0)],#[80,22,22]⟩) 102 26 (s [8,27,28] [(28,.un (.ext 1) (t 26))] [(6,t 6),(27,.un (.ext 0) (t 26))] (.store 101 (a 6) (a 27)) (.fin [7] [] [t 28]))))))) (p [] (.alloc 101) 0 6 (p (w [9,17]) (.call ⟨.value (a 9),#[a 17],#[80]⟩) 80 18 (.loud [] [] (w [19,24]) none [] true (.call ⟨.value (a 19),#[a 24],#[22]⟩) 22 (some 25) true (p (w [18,25]) (.call ⟨.value (.func 104),#[a 18,a 25,.const (.slice none 0 0)],#[80,22,22]⟩) 102 26 (s [8,27,28] [(28,.un (.ext 1) (t 26))] [(6,t 6),(27,.un (.ext 0) (t 26))] (.store 101 (a 6) (a 27)) (.fin [7] [] [t 28])))))))) (p [] (.alloc 101) 0 6 (.both (p (w [9,17]) (.call ⟨.value (a 9),#[a 17],#[80]⟩) 80 18 (p (w [23]) (.buildSlice 22 1 #[(0,a 23)]) 22 24 (.loud [] [] (w [19,24]) none [] true (.call ⟨.value (a 19),#[a 24],#[22]⟩) 22 (some 25) true (p (w [18,25]) (.call ⟨.value (.func 104),#[a 18,a 25,.const (.slice none 0 0)],#[80,22,22]⟩) 102 26 (s [8,27,28] [(28,.un (.ext 1) (t 26))] [(6,t 6),(27,.un (.ext 0) (t 26))] (.store 101 (a 6) (a 27)) (.fin [7] [] [t 28])))))) (p (w [23]) (.buildSlice 22 1 #[(0,a 23)]) 22 24 (p (w [9,17]) (.call ⟨.value (a 9),#[a 17],#[80]⟩) 80 18 (.loud [] [] (w [19,24]) none [] true (.call ⟨.value (a 19),#[a 24],#[22]⟩) 22 (some 25) true (p (w [18,25]) (.call ⟨.value (.func 104),#[a 18,a 25,.const (.slice none 0 0)],#[80,22,22]⟩) 102 26 (s [8,27,28] [(28,.un (.ext 1) (t 26))] [(6,t 6),(27,.un (.ext 0) (t 26))] (.store 101 (a 6) (a 27)) (.fin [7] [] [t 28]))))))))))) (.both (l [9,10,11,12,13,14,15,16,19,20,21,22,23] [(9,d (t 0)),(10,d (t 1)),(14,d (i 1 (g 3 (t 2)) (c 0))),(16,g 4 (t 2)),(19,d (t 3))] [(23,d (i 1 (g 3 (t 2)) (c 0)))] (.buildSlice 22 1 #[(0,a 23)]) 22 24 (.both (p (w [10,14,16]) (.build 80 #[(0,a 10),(3,a 14),(6,a 16)]) 80 17 (.both (p (w [9,17]) (.call ⟨.value (a 9),#[a 17],#[80]⟩) 80 18 (.both (.loud [] [] (w [19,24]) none [] true (.call ⟨.value (a 19),#[a 24],#[22]⟩) 22 (some 25) true (.both (p (w [18,25]) (.call ⟨.value (.func 104),#[a 18,a 25,.const (.slice none 0 0)],#[80,22,22]⟩) 102 26 (l [8,27,28] [(27,.un (.ext 0) (t 26)),(28,.un (.ext 1) (t 26))] [] (.alloc 101) 0 6 (s [] [] (w [6,27]) (.store 101 (a 6) (a 27)) (.fin [7] [] [t 28])))) (p [] (.alloc 101) 0 6 (p (w [18,25]) (.call ⟨.value (.func 104),#[a 18,a 25,.const (.slice none 0 0)],#[80,22,22]⟩) 102 26 (s [8,27,28] [(28,.un (.ext 1) (t 26))] [(6,t 6),(27,.un (.ext 0) (t 26))] (.store 101 (a 6) (a 27)) (.fin [7] [] [t 28])))))) (p [] (.alloc 101) 0 6 (.loud [] [] (w [19,24]) none [] true (.call ⟨.value (a 19),#[a 24],#[22]⟩) 22 (some 25) true (p (w [18,25]) (.call ⟨.value (.func 104),#[a 18,a 25,.const (.slice none 0 0)],#[80,22,22]⟩) 102 26 (s [8,27,28] [(28,.un (.ext 1) (t 26))] [(6,t 6),(27,.un (.ext 0) (t 26))] (.store 101 (a 6) (a 27)) (.fin [7] [] [t 28]))))))) (p [] (.alloc 101) 0 6 (p (w [9,17]) (.call ⟨.value (a 9),#[a 17],#[80]⟩) 80 18 (.loud [] [] (w [19,24]) none [] true (.call ⟨.value (a 19),#[a 24],#[22]⟩) 22 (some 25) true (p (w [18,25]) (.call ⟨.value (.func 104),#[a 18,a 25,.const (.slice none 0 0)],#[80,22,22]⟩) 102 26 (s [8,27,28] [(28,.un (.ext 1) (t 26))] [(6,t 6),(27,.un (.ext 0) (t 26))] (.store 101 (a 6) (a 27)) (.fin [7] [] [t 28])))))))) (p [] (.alloc 101) 0 6 (p (w [10,14,16]) (.build 80 #[(0,a 10),(3,a 14),(6,a 16)]) 80 17 (p (w [9,17]) (.call ⟨.value (a 9),#[a 17],#[80]⟩) 80 18 (.loud [] [] (w [19,24]) none [] true (.call ⟨.value (a 19),#[a 24],#[22]⟩) 22 (some 25) true (p (w [18,25]) (.call ⟨.value (.func 104),#[a 18,a 25,.const (.slice none 0 0)],#[80,22,22]⟩) 102 26 (s [8,27,28] [(28,.un (.ext 1) (t 26))] [(6,t 6),(27,.un (.ext 0) (t 26))] (.store 101 (a 6) (a 27)) (.fin [7] [] [t 28]))))))))) (l [9,10,11,12,13,14,15,16,19,20,21,22,23] [(9,d (t 0)),(10,d (t 1)),(14,d (i 1 (g 3 (t 2)) (c 0))),(16,g 4 (t 2)),(19,d (t 3)),(23,d (i 1 (g 3 (t 2)) (c 0)))] [] (.alloc 101) 0 6 (.both (p (w [10,14,16]) (.build 80 #[(0,a 10),(3,a 14),(6,a 16)]) 80 17 (.both (p (w [9,17]) (.call ⟨.value (a 9),#[a 17],#[80]⟩) 80 18 (p (w [23]) (.buildSlice 22 1 #[(0,a 23)]) 22 24 (.loud [] [] (w [19,24]) none [] true (.call ⟨.value (a 19),#[a 24],#[22]⟩) 22 (some 25) true (p (w [18,25]) (.call ⟨.value (.func 104),#[a 18,a 25,.const (.slice none 0 0)],#[80,22,22]⟩) 102 26 (s [8,27,28] [(28,.un (.ext 1) (t 26))] [(6,t 6),(27,.un (.ext 0) (t 26))] (.store 101 (a 6) (a 27)) (.fin [7] [] [t 28])))))) (p (w [23]) (.buildSlice 22 1 #[(0,a 23)]) 22 24 (p (w [9,17]) (.call ⟨.value (a 9),#[a 17],#[80]⟩) 80 18 (.loud [] [] (w [19,24]) none [] true (.call ⟨.value (a 19),#[a 24],#[22]⟩) 22 (some 25) true (p (w [18,25]) (.call ⟨.value (.func 104),#[a 18,a 25,.const (.slice none 0 0)],#[80,22,22]⟩) 102 26 (s [8,27,28] [(28,.un (.ext 1) (t 26))] [(6,t 6),(27,.un (.ext 0) (t 26))] (.store 101 (a 6) (a 27)) (.fin [7] [] [t 28])))))))) (p (w [23]) (.buildSlice 22 1 #[(0,a 23)]) 22 24 (p (w [10,14,16]) (.build 80 #[(0,a 10),(3,a 14),(6,a 16)]) 80 17 (p (w [9,17]) (.call ⟨.value (a 9),#[a 17],#[80]⟩) 80 18 (.loud [] [] (w [19,24]) none [] true (.call ⟨.value (a 19),#[a 24],#[22]⟩) 22 (some 25) true (p (w [18,25]) (.call ⟨.value (.func 104),#[a 18,a 25,.const (.slice none 0 0)],#[80,22,22]⟩) 102 26 (s [8,27,28] [(28,.un (.ext 1) (t 26))] [(6,t 6),(27,.un (.ext 0) (t 26))] (.store 101 (a 6) (a 27)) (.fin [7] [] [t 28]))))))))))),.reg true (l [29,30,31,32] [(29,.un (.au 8) (t 6))] [(32,.un (.conv .i64) (g 4 (t 2)))] (.call ⟨.value (.func 42),#[a 32,.const (.int .i64 0),.const (.int .i64 255)],#[3,3,3]⟩) 4 33 (.loud [] [] (w [4,29]) none [] true (.store 101 (a 4) (a 29)) 0 none false (.fin [5] [(5,t 33)] []))),.ret]⟩)=>b);simp only[sh];rfl
theorem E.cf:aN Tryz.prog Tryz.f132=some L.cf:=by kernel_rfl
theorem F.cf:Tryz.prog.funcs[N.cf]? = some Tryz.f132:=Tryz.func132
end
section
set_option maxRecDepth 100000
abbrev N.eA:Nat:=133
theorem F.eA:Tryz.prog.funcs[N.eA]? = some Tryz.f133:=Tryz.func133
end
section
set_option maxRecDepth 100000
abbrev N.bX:Nat:=134
def L.bX:LFn:=by apply(fun{b:LFn}(_:b=⟨[.un (.au 8) (t 5),t 6],q [.reg false (p [] (.alloc 101) 0 5 (.fin [6] [(6,.con (.bool false))] [])),.reg true (.both (.loud [10,11,12,13,14] [] [(10,.un (.au 13) (t 0)),(14,d (i 1 (g 3 (t 1)) (c 0)))] none [] true (.call ⟨.value (.func 100),#[a 10,a 14,.const (.int .i64 2)],#[97,3,3]⟩) 163 (some 15) true (l [9,16,17] [(16,.un (.ext 0) (t 15)),(17,.un (.ext 1) (t 15))] [] (.alloc 70) 0 7 (s [] [] (w [7,16]) (.store 70 (a 7) (a 16)) (.fin [8] [(8,t 17)] [])))) (l [10,11,12,13,14] [(10,.un (.au 13) (t 0)),(14,d (i 1 (g 3 (t 1)) (c 0)))] [] (.alloc 70) 0 7 (.loud [] [] (w [10,14]) none [] true (.call ⟨.value (.func 100),#[a 10,a 14,.const (.int .i64 2)],#[97,3,3]⟩) 163 (some 15) true (s [9,16,17] [(17,.un (.ext 1) (t 15))] [(7,t 7),(16,.un (.ext 0) (t 15))] (.store 70 (a 7) (a 16)) (.fin [8] [(8,t 17)] []))))),q [k [18,19,20,21,22,23,24] [(24,.ite (.un .not (t 8)) (.con (.bool true)) (j .neq (g 4 (t 1)) (.con (.int .i32 0))))],u 24 (q [.reg false (p [] (.build 101 #[]) 101 25 (s [] [] (w [5,25]) (.store 101 (a 5) (a 25)) (.fin [6] [(6,.con (.bool false))] []))),.ret]) .skip],.reg true (.both (l [26,27,28,29,30,31,32,33,34,35,38,39,40,41,42,43,44,45,46,49,50,51,52] [(26,d (t 2)),(38,d (t 4)),(42,d (i 1 (g 3 (t 7)) (c 0))),(46,d (i 1 (g 3 (t 7)) (c 1))),(52,d (i 1 (g 3 (t 1)) (c 0)))] [(27,d (t 3)),(31,d (i 1 (g 3 (t 7)) (c 0))),(35,d (i 1 (g 3 (t 7)) (c 1)))] (.build 80 #[(0,a 27),(3,a 31),(4,a 35)]) 80 36 (.both (p (w [26,36]) (.call ⟨.value (a 26),#[a 36],#[80]⟩) 80 37 (.both (p (w [42,46]) (.buildSlice 22 2 #[(0,a 42),(1,a 46)]) 22 47 (.both (p (w [38,47]) (.call ⟨.value (a 38),#[a 47],#[22]⟩) 22 48 (p (w [52]) (.buildSlice 22 1 #[(0,a 52)]) 22 53 (.loud [] [] (w [37,48,53]) none [] true (x 104 [37,48,53] [80,22,22]) 102 (some 54) true (s [55,56] [(56,.un (.ext 1) (t 54))] [(5,t 5),(55,.un (.ext 0) (t 54))] (.store 101 (a 5) (a 55)) (.fin [6] [(6,t 56)] []))))) (p (w [52]) (.buildSlice 22 1 #[(0,a 52)]) 22 53 (p (w [38,47]) (.call ⟨.value (a 38),#[a 47],#[22]⟩) 22 48 (.loud [] [] (w [37,48,53]) none [] true (x 104 [37,48,53] [80,22,22]) 102 (some 54) true (s [55,56] [(56,.un (.ext 1) (t 54))] [(5,t 5),(55,.un (.ext 0) (t 54))] (.store 101 (a 5) (a 55)) (.fin [6] [(6,t 56)] []))))))) (p (w [52]) (.buildSlice 22 1 #[(0,a 52)]) 22 53 (p (w [42,46]) (.buildSlice 22 2 #[(0,a 42),(1,a 46)]) 22 47 (p (w [38,47]) (.call ⟨.value (a 38),#[a 47],#[22]⟩) 22 48 (.loud [] [] (w [37,48,53]) none [] true (x 104 [37,48,53] [80,22,22]) 102 (some 54) true (s [55,56] [(56,.un (.ext 1) (t 54))] [(5,t 5),(55,.un (.ext 0) (t 54))] (.store 101 (a 5) (a 55)) (.fin [6] [(6,t 56)] [])))))))) (.both (p (w [42,46]) (.buildSlice 22 2 #[(0,a 42),(1,a 46)]) 22 47 (.both (p (w [26,36]) (.call ⟨.value (a 26),#[a 36],#[80]⟩) 80 37 (.both (p (w [38,47]) (.call ⟨.value (a 38),#[a 47],#[22]⟩) 22 48 (p (w [52]) (.buildSlice 22 1 #[(0,a 52)]) 22 53 (.loud [] [] (w [37,48,53]) none [] true (x 104 [37,48,53] [80,22,22]) 102 (some 54) true (s [55,56] [(56,.un (.ext 1) (t 54))] [(5,t 5),(55,.un (.ext 0) (t 54))] (.store 101 (a 5) (a 55)) (.fin [6] [(6,t 56)] []))))) (p (w [52]) (.buildSlice 22 1 #[(0,a 52)]) 22 53 (p (w [38,47]) (.call ⟨.value (a 38),#[a 47],#[22]⟩) 22 48 (.loud [] [] (w [37,48,53]) none [] true (x 104 [37,48,53] [80,22,22]) 102 (some 54) true (s [55,56] [(56,.un (.ext 1) (t 54))] [(5,t 5),(55,.un (.ext 0) (t 54))] (.store 101 (a 5) (a 55)) (.fin [6] [(6,t 56)] []))))))) (p (w [52]) (.buildSlice 22 1 #[(0,a 52)]) 22 53 (p (w [26,36]) (.call ⟨.value (a 26),#[a 36],#[80]⟩) 80 37 (p (w [38,47]) (.call ⟨.value (a 38),#[a 47],#[22]⟩) 22 48 (.loud [] [] (w [37,48,53]) none [] true (x 104 [37,48,53] [80,22,22]) 102 (some 54) true (s [55,56] [(56,.un (.ext 1) (t 54))] [(5,t 5),(55,.un (.ext 0) (t 54))] (.store 101 (a 5) (a 55)) (.fin [6] [(6,t 56)] [])))))))) (p (w [52]) (.buildSlice 22 1 #[(0,a 52)]) 22 53 (.both (p (w [26,36]) (.call ⟨.value (a 26),#[a 36],#[80]⟩) 80 37 (p (w [42,46]) (.buildSlice 22 2 #[(0,a 42),(1,a 46)]) 22 47 (p (w [38,47]) (.call ⟨.value (a 38),#[a 47],#[22]⟩) 22 48 (.loud [] [] (w [37,48,53]) none [] true (x 104 [37,48,53] [80,22,22]) 102 (some 54) true (s [55,56] [(56,.un (.ext 1) (t 54))] [(5,t 5),(55,.un (.ext 0) (t 54))] (.store 101 (a 5) (a 55)) (.fin [6] [(6,t 56)] [])))))) (p (w [42,46]) (.buildSlice 22 2 #[(0,a 42),(1,a 46)]) 22 47 (p (w [26,36]) (.call ⟨.value (a 26),#[a 36],#[80]⟩) 80 37 (p (w [38,47]) (.call ⟨.value (a 38),#[a 47],#[22]⟩) 22 48 (.loud [] [] (w [37,48,53]) none [] true (x 104 [37,48,53] [80,22,22]) 102 (some 54) true (s [55,56] [(56,.un (.ext 1) (t 54))] [(5,t 5),(55,.un (.ext 0) (t 54))] (.store 101 (a 5) (a 55)) (.fin [6] [(6,t 56)] []))))))))))) (.both (l [26,27,28,29,30,31,32,33,34,35,38,39,40,41,42,43,44,45,46,49,50,51,52] [(26,d (t 2)),(27,d (t 3)),(31,d (i 1 (g 3 (t 7)) (c 0))),(35,d (i 1 (g 3 (t 7)) (c 1))),(38,d (t 4)),(52,d (i 1 (g 3 (t 1)) (c 0)))] [(42,d (i 1 (g 3 (t 7)) (c 0))),(46,d (i 1 (g 3 (t 7)) (c 1)))] (.buildSlice 22 2 #[(0,a 42),(1,a 46)]) 22 47 (.both (p (w [27,31,35]) (.build 80 #[(0,a 27),(3,a 31),(4,a 35)]) 80 36 (.both (p (w [26,36]) (.call ⟨.value (a 26),#[a 36],#[80]⟩) 80 37 (.both (p (w [38,47]) (.call ⟨.value (a 38),#[a 47],#[22]⟩) 22 48 (p (w [52]) (.buildSlice 22 1 #[(0,a 52)]) 22 53 (.loud [] [] (w [37,48,53]) none [] true (x 104 [37,48,53] [80,22,22]) 102 (some 54) true (s [55,56] [(56,.un (.ext 1) (t 54))] [(5,t 5),(55,.un (.ext 0) (t 54))] (.store 101 (a 5) (a 55)) (.fin [6] [(6,t 56)] []))))) (p (w [52]) (.buildSlice 22 1 #[(0,a 52)]) 22 53 (p (w [38,47]) (.call ⟨.value (a 38),#[a 47],#[22]⟩) 22 48 (.loud [] [] (w [37,48,53]) none [] true (x 104 [37,48,53] [80,22,22]) 102 (some 54) true (s [55,56] [(56,.un (.ext 1) (t 54))] [(5,t 5),(55,.un (.ext 0) (t 54))] (.store 101 (a 5) (a 55)) (.fin [6] [(6,t 56)] []))))))) (p (w [52]) (.buildSlice 22 1 #[(0,a 52)]) 22 53 (p (w [26,36]) (.call ⟨.value (a 26),#[a 36],#[80]⟩) 80 37 (p (w [38,47]) (.call ⟨.value (a 38),#[a 47],#[22]⟩) 22 48 (.loud [] [] (w [37,48,53]) none [] true (x 104 [37,48,53] [80,22,22]) 102 (some 54) true (s [55,56] [(56,.un (.ext 1) (t 54))] [(5,t 5),(55,.un (.ext 0) (t 54))] (.store 101 (a 5) (a 55)) (.fin [6] [(6,t 56)] [])))))))) (p (w [52]) (.buildSlice 22 1 #[(0,a 52)]) 22 53 (p (w [27,31,35]) (.build 80 #[(0,a 27),(3,a 31),(4,a 35)]) 80 36 (p (w [26,36]) (.call ⟨.value (a 26),#[a 36],#[80]⟩) 80 37 (p (w [38,47]) (.call ⟨.value (a 38),#[a 47],#[22]⟩) 22 48 (.loud [] [] (w [37,48,53]) none [] true (x 104 [37,48,53] [80,22,22]) 102 (some 54) true (s [55,56] [(56,.un (.ext 1) (t 54))] [(5,t 5),(55,.un (.ext 0) (t 54))] (.store 101 (a 5) (a 55)) (.fin [6] [(6,t 56)] []))))))))) (l [26,27,28,29,30,31,32,33,34,35,38,39,40,41,42,43,44,45,46,49,50,51,52] [(26,d (t 2)),(27,d (t 3)),(31,d (i 1 (g 3 (t 7)) (c 0))),(35,d (i 1 (g 3 (t 7)) (c 1))),(38,d (t 4)),(42,d (i 1 (g 3 (t 7)) (c 0))),(46,d (i 1 (g 3 (t 7)) (c 1)))] [(52,d (i 1 (g 3 (t 1)) (c 0)))] (.buildSlice 22 1 #[(0,a 52)]) 22 53 (.both (p (w [27,31,35]) (.build 80 #[(0,a 27),(3,a 31),(4,a 35)]) 80 36 (.both (p (w [26,36]) (.call ⟨.value (a 26),#[a 36],#[80]⟩) 80 37 (p (w [42,46]) (.buildSlice 22 2 #[(0,a 42),(1,a 46)]) 22 47 (p (w [38,47]) (.call ⟨.value (a 38),#[a 47],#[22]⟩) 22 48 (.loud [] [] (w [37,48,53]) none [] true (x 104 [37,48,53] [80,22,22]) 102 (some 54) true (s [55,56] [(56,.un (.ext 1) (t 54))] [(5,t 5),(55,.un (.ext 0) (t 54))] (.store 101 (a 5) (a 55)) (.fin [6] [(6,t 56)] [])))))) (p (w [42,46]) (.buildSlice 22 2 #[(0,a 42),(1,a 46)]) 22 47 (p (w [26,36]) (.call ⟨.value (a 26),#[a 36],#[80]⟩) 80 37 (p (w [38,47]) (.call ⟨.value (a 38),#[a 47],#[22]⟩) 22 48 (.loud [] [] (w [37,48,53]) none [] true (x 104 [37,48,53] [80,22,22]) 102 (some 54) true (s [55,56] [(56,.un (.ext 1) (t 54))] [(5,t 5),(55,.un (.ext 0) (t 54))] (.store 101 (a 5) (a 55)) (.fin [6] [(6,t 56)] [])))))))) (p (w [42,46]) (.buildSlice 22 2 #[(0,a 42),(1,a 46)]) 22 47 (p (w [27,31,35]) (.build 80 #[(0,a 27),(3,a 31),(4,a 35)]) 80 36 (p (w [26,36]) (.call ⟨.value (a 26),#[a 36],#[80]⟩) 80 37 (p (w [38,47]) (.call ⟨.value (a 38),#[a 47],#[22]⟩) 22 48 (.loud [] [] (w [37,48,53]) none [] true (x 104 [37,48,53] [80,22,22]) 102 (some 54) true (s [55,56] [(56,.un (.ext 1) (t 54))] [(5,t 5),(55,.un (.ext 0) (t 54))] (.store 101 (a 5) (a 55)) (.fin [6] [(6,t 56)] []))))))))))),.ret]⟩)=>b);simp only[sh];rfl
theorem E.bX:aN Tryz.prog Tryz.f134=some L.bX:=by kernel_rfl
theorem F.bX:Tryz.prog.funcs[N.bX]? = some Tryz.f134:=Tryz.func134
abbrev N.bV:Nat:=135
def L.bV:LFn:=by apply(fun{b:LFn}(_:b=⟨[.un (.au 8) (t 5),t 6],q [.reg false (p [] (.alloc 101) 0 5 (.fin [6] [(6,.con (.bool false))] [])),.reg true (.both (l [10,11,12,13,15,16,17,18,19] [(15,d (t 2)),(19,d (i 1 (g 3 (t 1)) (c 0)))] [(11,g 12 (t 0)),(13,g 4 (t 1))] (.build 80 #[(0,.const (.int .i64 4)),(1,a 11),(6,a 13)]) 80 14 (.both (p (w [19]) (.buildSlice 22 1 #[(0,a 19)]) 22 20 (.both (p (w [15,20]) (.call ⟨.value (a 15),#[a 20],#[22]⟩) 22 21 (.both (.loud [] [] (w [14,21]) none [] true (.call ⟨.value (.func 104),#[a 14,a 21,.const (.slice none 0 0)],#[80,22,22]⟩) 102 (some 22) true (l [9,23,24] [(23,.un (.ext 0) (t 22)),(24,.un (.ext 1) (t 22))] [] (.alloc 101) 0 7 (s [] [] (w [7,23]) (.store 101 (a 7) (a 23)) (.fin [8] [] [t 24])))) (p [] (.alloc 101) 0 7 (.loud [] [] (w [14,21]) none [] true (.call ⟨.value (.func 104),#[a 14,a 21,.const (.slice none 0 0)],#[80,22,22]⟩) 102 (some 22) true (s [9,23,24] [(24,.un (.ext 1) (t 22))] [(7,t 7),(23,.un (.ext 0) (t 22))] (.store 101 (a 7) (a 23)) (.fin [8] [] [t 24])))))) (p [] (.alloc 101) 0 7 (p (w [15,20]) (.call ⟨.value (a 15),#[a 20],#[22]⟩) 22 21 (.loud [] [] (w [14,21]) none [] true (.call ⟨.value (.func 104),#[a 14,a 21,.const (.slice none 0 0)],#[80,22,22]⟩) 102 (some 22) true (s [9,23,24] [(24,.un (.ext 1) (t 22))] [(7,t 7),(23,.un (.ext 0) (t 22))] (.store 101 (a 7) (a 23)) (.fin [8] [] [t 24]))))))) (p [] (.alloc 101) 0 7 (p (w [19]) (.buildSlice 22 1 #[(0,a 19)]) 22 20 (p (w [15,20]) (.call ⟨.value (a 15),#[a 20],#[22]⟩) 22 21 (.loud [] [] (w [14,21]) none [] true (.call ⟨.value (.func 104),#[a 14,a 21,.const (.slice none 0 0)],#[80,22,22]⟩) 102 (some 22) true (s [9,23,24] [(24,.un (.ext 1) (t 22))] [(7,t 7),(23,.un (.ext 0) (t 22))] (.store 101 (a 7) (a 23)) (.fin [8] [] [t 24])))))))) (.both (l [10,11,12,13,15,16,17,18,19] [(11,g 12 (t 0)),(13,g 4 (t 1)),(15,d (t 2))] [(19,d (i 1 (g 3 (t 1)) (c 0)))] (.buildSlice 22 1 #[(0,a 19)]) 22 20 (.both (p (w [11,13]) (.build 80 #[(0,.const (.int .i64 4)),(1,a 11),(6,a 13)]) 80 14 (.both (p (w [15,20]) (.call ⟨.value (a 15),#[a 20],#[22]⟩) 22 21 (.both (.loud [] [] (w [14,21]) none [] true (.call ⟨.value (.func 104),#[a 14,a 21,.const (.slice none 0 0)],#[80,22,22]⟩) 102 (some 22) true (l [9,23,24] [(23,.un (.ext 0) (t 22)),(24,.un (.ext 1) (t 22))] [] (.alloc 101) 0 7 (s [] [] (w [7,23]) (.store 101 (a 7) (a 23)) (.fin [8] [] [t 24])))) (p [] (.alloc 101) 0 7 (.loud [] [] (w [14,21]) none [] true (.call ⟨.value (.func 104),#[a 14,a 21,.const (.slice none 0 0)],#[80,22,22]⟩) 102 (some 22) true (s [9,23,24] [(24,.un (.ext 1) (t 22))] [(7,t 7),(23,.un (.ext 0) (t 22))] (.store 101 (a 7) (a 23)) (.fin [8] [] [t 24])))))) (p [] (.alloc 101) 0 7 (p (w [15,20]) (.call ⟨.value (a 15),#[a 20],#[22]⟩) 22 21 (.loud [] [] (w [14,21]) none [] true (.call ⟨.value (.func 104),#[a 14,a 21,.const (.slice none 0 0)],#[80,22,22]⟩) 102 (some 22) true (s [9,23,24] [(24,.un (.ext 1) (t 22))] [(7,t 7),(23,.un (.ext 0) (t 22))] (.store 101 (a 7) (a 23)) (.fin [8] [] [t 24]))))))) (.both (p (w [15,20]) (.call ⟨.value (a 15),#[a 20],#[22]⟩) 22 21 (.both (p (w [11,13]) (.build 80 #[(0,.const (.int .i64 4)),(1,a 11),(6,a 13)]) 80 14 (.both (.loud [] [] (w [14,21]) none [] true (.call ⟨.value (.func 104),#[a 14,a 21,.const (.slice none 0 0)],#[80,22,22]⟩) 102 (some 22) true (l [9,23,24] [(23,.un (.ext 0) (t 22)),(24,.un (.ext 1) (t 22))] [] (.alloc 101) 0 7 (s [] [] (w [7,23]) (.store 101 (a 7) (a 23)) (.fin [8] [] [t 24])))) (p [] (.alloc 101) 0 7 (.loud [] [] (w [14,21]) none [] true (.call ⟨.value (.func 104),#[a 14,a 21,.const (.slice none 0 0)],#[80,22,22]⟩) 102 (some 22) true (s [9,23,24] [(24,.un (.ext 1) (t 22))] [(7,t 7),(23,.un (.ext 0) (t 22))] (.store 101 (a 7) (a 23)) (.fin [8] [] [t 24])))))) (p [] (.alloc 101) 0 7 (p (w [11,13]) (.build 80 #[(0,.const (.int .i64 4)),(1,a 11),(6,a 13)]) 80 14 (.loud [] [] (w [14,21]) none [] true (.call ⟨.value (.func 104),#[a 14,a 21,.const (.slice none 0 0)],#[80,22,22]⟩) 102 (some 22) true (s [9,23,24] [(24,.un (.ext 1) (t 22))] [(7,t 7),(23,.un (.ext 0) (t 22))] (.store 101 (a 7) (a 23)) (.fin [8] [] [t 24]))))))) (p [] (.alloc 101) 0 7 (.both (p (w [11,13]) (.build 80 #[(0,.const (.int .i64 4)),(1,a 11),(6,a 13)]) 80 14 (p (w [15,20]) (.call ⟨.value (a 15),#[a 20],#[22]⟩) 22 21 (.loud [] [] (w [14,21]) none [] true (.call ⟨.value (.func 104),#[a 14,a 21,.const (.slice none 0 0)],#[80,22,22]⟩) 102 (some 22) true (s [9,23,24] [(24,.un (.ext 1) (t 22))] [(7,t 7),(23,.un (.ext 0) (t 22))] (.store 101 (a 7) (a 23)) (.fin [8] [] [t 24]))))) (p (w [15,20]) (.call ⟨.value (a 15),#[a 20],#[22]⟩) 22 21 (p (w [11,13]) (.build 80 #[(0,.const (.int .i64 4)),(1,a 11),(6,a 13)]) 80 14 (.loud [] [] (w [14,21]) none [] true (.call ⟨.value (.func 104),#[a 14,a 21,.const (.slice none 0 0)],#[80,22,22]⟩) 102 (some 22) true (s [9,23,24] [(24,.un (.ext 1) (t 22))] [(7,t 7),(23,.un (.ext 0) (t 22))] (.store 101 (a 7) (a 23)) (.fin [8] [] [t 24])))))))))) (l [10,11,12,13,15,16,17,18,19] [(11,g 12 (t 0)),(13,g 4 (t 1)),(15,d (t 2)),(19,d (i 1 (g 3 (t 1)) (c 0)))] [] (.alloc 101) 0 7 (.both (p (w [11,13]) (.build 80 #[(0,.const (.int .i64 4)),(1,a 11),(6,a 13)]) 80 14 (p (w [19]) (.buildSlice 22 1 #[(0,a 19)]) 22 20 (p (w [15,20]) (.call ⟨.value (a 15),#[a 20],#[22]⟩) 22 21 (.loud [] [] (w [14,21]) none [] true (.call ⟨.value (.func 104),#[a 14,a 21,.const (.slice none 0 0)],#[80,22,22]⟩) 102 (some 22) true (s [9,23,24] [(24,.un (.ext 1) (t 22))] [(7,t 7),(23,.un (.ext 0) (t 22))] (.store 101 (a 7) (a 23)) (.fin [8] [] [t 24])))))) (p (w [19]) (.buildSlice 22 1 #[(0,a 19)]) 22 20 (.both (p (w [11,13]) (.build 80 #[(0,.const (.int .i64 4)),(1,a 11),(6,a 13)]) 80 14 (p (w [15,20]) (.call ⟨.value (a 15),#[a 20],#[22]⟩) 22 21 (.loud [] [] (w [14,21]) none [] true (.call ⟨.value (.func 104),#[a 14,a 21,.const (.slice none 0 0)],#[80,22,22]⟩) 102 (some 22) true (s [9,23,24] [(24,.un (.ext 1) (t 22))] [(7,t 7),(23,.un (.ext 0) (t 22))] (.store 101 (a 7) (a 23)) (.fin [8] [] [t 24]))))) (p (w [15,20]) (.call ⟨.value (a 15),#[a 20],#[22]⟩) 22 21 (p (w [11,13]) (.build 80 #[(0,.const (.int .i64 4)),(1,a 11),(6,a 13)]) 80 14 (.loud [] [] (w [14,21]) none [] true (.call ⟨.value (.func 104),#[a 14,a 21,.const (.slice none 0 0)],#[80,22,22]⟩) 102 (some 22) true (s [9,23,24] [(24,.un (.ext 1) (t 22))] [(7,t 7),(23,.un (.ext 0) (t 22))] (.store 101 (a 7) (a 23)) (.fin [8] [] [t 24]))))))))))),.reg true (l [25,26,27,28,29,30,31,32,33,34] [(26,g 2 (t 7)),(27,d (t 3))] [(28,d (t 4)),(32,d (i 1 (g 3 (t 1)) (c 0))),(34,g 12 (t 0))] (.build 80 #[(0,a 28),(3,a 32),(4,a 34)]) 80 35 (p (w [27,35]) (.call ⟨.value (a 27),#[a 35],#[80]⟩) 80 36 (p (w [36]) (.buildSlice 36 1 #[(0,a 36)]) 36 37 (.loud [] [] (w [26,37]) none [] true (.call ⟨.builtin .append,#[a 26,a 37],#[36,36]⟩) 36 (some 38) true (s [39] [] [(39,e 2 (t 7)),(38,t 38)] (.store 36 (a 39) (a 38)) z))))),.reg false (s [40] [] [(5,t 5),(40,.un (.au 8) (t 7))] (.store 101 (a 5) (a 40)) (.fin [6] [(6,.con (.bool true))] [])),.ret]⟩)=>b);simp only[sh];rfl
theorem E.bV:aN Tryz.prog Tryz.f135=some L.bV:=by kernel_rfl
theorem F.bV:Tryz.prog.funcs[N.bV]? = some Tryz.f135:=Tryz.func135
abbrev N.du:Nat:=138
def L.du:LFn:=by apply(fun{b:LFn}(_:b=⟨[],.reg false (l [8,9,10,11,12,13] [] [(8,t 1),(13,g 0 (e 0 (.un .nilPtr (t 0))))] (.call ⟨.value (.func 69),#[a 8,a 13,.const (.int .i64 8191)],#[3,3,3]⟩) 4 14 (.loud [15,16] [] [(14,t 14),(15,t 2),(16,t 3)] none [] false (.call ⟨.value (.func 68),#[a 14,.const (.int .i64 11),a 15,a 16],#[4,57,3,3]⟩) 0 (some 17) false z))⟩)=>b);simp only[sh];rfl
theorem E.du:aN Tryz.prog Tryz.f138=some L.du:=by kernel_rfl
theorem F.du:Tryz.prog.funcs[N.du]? = some Tryz.f138:=Tryz.func138
abbrev N.dx:Nat:=139
def L.dx:LFn:=by apply(fun{b:LFn}(_:b=⟨[],q [.reg false (l [11,12,13,14,15] [] [(14,g 2 (.un .nilPtr (t 0))),(15,t 1)] (.lookup 147 (a 14) (a 15) true) 192 16 (l [10,17,18] [(17,.un (.ext 0) (t 16)),(18,.un (.ext 1) (t 16))] [] (.alloc 116) 0 8 (s [] [] (w [8,17]) (.store 116 (a 8) (a 17)) (.fin [9] [(9,t 18)] [])))),.reg false (.loud [19,20,21,22] [] [(20,.un .not (t 9)),(21,t 2),(22,t 3)] none [] false (.call ⟨.value (.func 68),#[a 20,.const (.int .i64 12),a 21,a 22],#[4,57,3,3]⟩) 0 (some 23) false z),.reg false (l [24,25,26,27,28,29,30] [(27,g 2 (.un .nilPtr (t 0))),(28,t 1)] [(29,t 2),(30,t 3)] (.build 116 #[(0,a 29),(1,a 30)]) 116 31 (s [] [] (w [27,28,31]) (.mapUpdate 147 (a 27) (a 28) (a 31)) z))]⟩)=>b);simp only[sh];rfl
theorem E.dx:aN Tryz.prog Tryz.f139=some L.dx:=by kernel_rfl
theorem F.dx:Tryz.prog.funcs[N.dx]? = some Tryz.f139:=Tryz.func139
abbrev N.fA:Nat:=140
def L.fA.l1:LC:=by apply(fun{b:LC}(_:b=q [k [11] [(11,j .lss (t 10) (t 9))],u 11 .skip (.exit 0),.block 1 (q [k [12,13,7] [(7,d (i 1 (t 8) (t 10)))],k [14,15,16,17,18,19,20] [(20,.ite (j .geq (t 7) (c 0)) (j .lss (t 7) (t 1)) (.con (.bool false)))],u 20 (.reg false (l [21,22] [(21,t 5)] [(22,t 7)] (.buildSlice 22 1 #[(0,a 22)]) 22 23 (p (w [21,23]) (.call ⟨.builtin .append,#[a 21,a 23],#[22,22]⟩) 22 24 (.fin [5] [(5,t 24)] [])))) .skip]),k [25,10] [(10,o (t 10) (c 1))]])=>b);simp only[sh];rfl
def L.fA:LFn:=by apply(fun{b:LFn}(_:b=⟨[t 4],q [k [4] [(4,.con (.slice none 0 0))],k [5] [(5,.con (.slice none 0 0))],q [k [8,9,10] [(8,t 0),(9,h (t 0)),(10,c 0)],v 0 L.fA.l1],.reg false (.loud [26] [] [(26,t 5)] none [] false (x 148 [26] [22]) 0 (some 27) false z),.reg false (l [28] [] [(28,t 5)] (x 149 [28] [22]) 22 29 (.fin [4] [(4,t 29)] [])),.ret]⟩)=>b);simp only[sh];rfl
theorem E.fA:aN Tryz.prog Tryz.f140=some L.fA:=by kernel_rfl
theorem F.fA:Tryz.prog.funcs[N.fA]? = some Tryz.f140:=Tryz.func140
abbrev N.eK:Nat:=141
def L.eK.l1:LC:=by apply(fun{b:LC}(_:b=q [k [12] [(12,j .lss (t 11) (t 10))],u 12 .skip (.exit 0),.block 1 (q [k [13,14,15,4,5] [(4,t 11),(5,d (i 1 (t 9) (t 11)))],.reg false (l [16,17,18,19,20] [(16,t 3),(17,t 4)] [(18,t 5),(20,h (t 0))] (x 140 [18,20] [22,3]) 22 21 (s [22] [] [(22,i 1 (t 16) (t 17)),(21,t 21)] (.store 22 (a 22) (a 21)) z))]),k [23,11] [(11,o (t 11) (c 1))]])=>b);simp only[sh];rfl
def L.eK:LFn:=by apply(fun{b:LFn}(_:b=⟨[t 2],q [k [2] [(2,.con (.slice none 0 0))],.reg false (l [6,7] [] [(7,h (t 0)),(7,h (t 0))] (.makeSlice 120 (a 7) (a 7)) 120 8 (.fin [3] [(3,t 8)] [])),q [k [9,10,11] [(9,t 0),(10,h (t 0)),(11,c 0)],v 0 L.eK.l1],k [24,2] [(2,t 3)],.ret]⟩)=>b);simp only[sh];rfl
theorem E.eK:aN Tryz.prog Tryz.f141=some L.eK:=by kernel_rfl
theorem F.eK:Tryz.prog.funcs[N.eK]? = some Tryz.f141:=Tryz.func141
abbrev N.cn:Nat:=142
def L.cn.l1:LC:=by apply(fun{b:LC}(_:b=q [k [17] [(17,j .lss (t 16) (t 15))],u 17 .skip (.exit 0),.block 1 (q [k [18,19,7] [(7,d (i 1 (t 14) (t 16)))],k [20,21,22,23,24] [(24,.un .not (d (i 1 (d (t 1)) (t 7))))],u 24 (.reg false (.loud [25,26] [] [(25,d (t 3)),(26,t 7)] none [] false (.call ⟨.value (a 25),#[a 26],#[3]⟩) 0 (some 27) false z)) .skip]),k [28,16] [(16,o (t 16) (c 1))]])=>b);simp only[sh];rfl
def L.cn:LFn:=by apply(fun{b:LFn}(_:b=⟨[],q [.reg false (s [8,9,10] [] [(10,i 1 (d (t 1)) (t 0))] (.store 4 (a 10) (.const (.bool true))) z),q [k [11,12,13,14,15,16] [(14,d (i 1 (d (t 2)) (t 0))),(15,h (d (i 1 (d (t 2)) (t 0)))),(16,c 0)],v 0 L.cn.l1],.reg false (l [29,30] [(29,d (t 4))] [(30,t 0)] (.buildSlice 22 1 #[(0,a 30)]) 22 31 (p (w [29,31]) (.call ⟨.builtin .append,#[a 29,a 31],#[22,22]⟩) 22 32 (s [] [] (w [4,32]) (.store 22 (a 4) (a 32)) z)))]⟩)=>b);simp only[sh];rfl
theorem E.cn:aN Tryz.prog Tryz.f142=some L.cn:=by kernel_rfl
theorem F.cn:Tryz.prog.funcs[N.cn]? = some Tryz.f142:=Tryz.func142
abbrev N.fV:Nat:=144
def L.fV:LFn:=by apply(fun{b:LFn}(_:b=⟨[t 2],q [.reg false (p (w [0]) (.box 120 (a 0)) 0 1 (.fin [2] [(2,.con .nilFunc)] [])),k [3,2] [(2,.un (.fn 150) (.snoc (.con (.tuple #[])) (t 1)))],.ret]⟩)=>b);simp only[sh];rfl
theorem E.fV:aN Tryz.prog Tryz.f144=some L.fV:=by kernel_rfl
theorem F.fV:Tryz.prog.funcs[N.fV]? = some Tryz.f144:=Tryz.func144
abbrev N.dN:Nat:=145
def L.dN.l1:LC:=by apply(fun{b:LC}(_:b=.block 1 (.block 2 (q [.reg true (.fin [10,11,12,13,14,15,16,17,18,9] [(9,j .gtr (d (i 1 (t 1) (t 2))) (d (i 1 (t 1) (t 3))))] []),u 9 (k [19,20,21,22,2] [(2,d (i 1 (t 0) (t 2)))]) (q [.reg true (.fin [24,25,26,27,28,29,30,31,32,23] [(23,j .gtr (d (i 1 (t 1) (t 3))) (d (i 1 (t 1) (t 2))))] []),u 23 (k [33,34,35,36,3] [(3,d (i 1 (t 0) (t 3)))]) (.exit 0)])])))=>b);simp only[sh];rfl
def L.dN:LFn:=by apply(fun{b:LFn}(_:b=⟨[t 8],q [k [8] [(8,c 0)],.skip,v 0 L.dN.l1,k [37,8] [(8,t 2)],.ret]⟩)=>b);simp only[sh];rfl
theorem E.dN:aN Tryz.prog Tryz.f145=some L.dN:=by kernel_rfl
theorem F.dN:Tryz.prog.funcs[N.dN]? = some Tryz.f145:=Tryz.func145
abbrev N.cZ:Nat:=146
def L.cZ:LFn:=by apply(fun{b:LFn}(_:b=⟨[t 3],q [k [3] [(3,.con (.bool false))],k [4,5,6,7,8,9,10,11,3] [(3,.ite (j .geq (t 0) (c 0)) (j .lss (t 0) (h (d (t 1)))) (.con (.bool false)))],.ret]⟩)=>b);simp only[sh];rfl
theorem E.cZ:aN Tryz.prog Tryz.f146=some L.cZ:=by kernel_rfl
theorem F.cZ:Tryz.prog.funcs[N.cZ]? = some Tryz.f146:=Tryz.func146
abbrev N.cL:Nat:=150
def L.cL.l2:LC:=by apply(fun{b:LC}(_:b=q [k [18] [(18,j .lss (t 17) (t 16))],u 18 .skip (.exit 2),.block 3 (q [k [19,20,6] [(6,d (i 1 (t 15) (t 17)))],.reg false (l [21,22,23] [] [(21,t 0),(22,t 3),(23,t 6)] (.call ⟨.value (a 21),#[a 22,a 23],#[3,3]⟩) 4 24 (.fin [25] [(25,.un .not (t 24))] [])),u 25 .ret .skip]),k [26,17] [(17,o (t 17) (c 1))]])=>b);simp only[sh];rfl
def L.cL.l1:LC:=by apply(fun{b:LC}(_:b=q [k [11] [(11,j .lss (t 10) (t 9))],u 11 .skip (.exit 0),.block 1 (q [k [12,13,14,3,4] [(3,t 10),(4,d (i 1 (t 8) (t 10)))],k [15,16,17] [(15,t 4),(16,h (t 4)),(17,c 0)],v 2 L.cL.l2]),k [27,10] [(10,o (t 10) (c 1))]])=>b);simp only[sh];rfl
def L.cL:LFn:=by apply(fun{b:LFn}(_:b=⟨[],q [.reg false (l [7] [] [(7,d (t 1))] (x 141 [7] [120]) 120 8 (.fin [9,10] [(9,h (t 8)),(10,c 0)] [])),v 0 L.cL.l1]⟩)=>b);simp only[sh];rfl
theorem E.cL:aN Tryz.prog Tryz.f150=some L.cL:=by kernel_rfl
theorem F.cL:Tryz.prog.funcs[N.cL]? = some Tryz.f150:=Tryz.func150
end
end Go.Proofs.YtnfiilgdjpdlkaaGreatDoor
namespace Go.Proofs
open Go.Shelf
def Tryz.zB:Go.Shelf.Ren:=⟨fun | 189=>148 | 125=>152 | 257=>151 | 128=>162 | 129=>163 | 294=>153 | 295=>154 | 296=>155 | 297=>156 | 298=>157 | 299=>158 | 216=>159 | 300=>160 | 301=>161 | 328=>164 | 329=>165 | 330=>166 | 331=>167 | 332=>168 | 215=>169 | 343=>170 | n=>n,fun | 28=>22 | 3=>3 | 46=>76 | 0=>0 | 51=>151 | 53=>74 | 4=>4 | 183=>225 | 182=>224 | 131=>167 | 5=>5 | 9=>9 | 218=>231 | 222=>235 | 228=>237 | 229=>182 | n=>n,fun | n=>n⟩
theorem Tryz.BN:Go.Proofs.Lays.n189 Tryz.prog Tryz.zB:={
 mixed:=by kernel_rfl
 f125:=Tryz.func152.trans (congrArg some (by kernel_rfl))
 f128:=Tryz.func162.trans (congrArg some (by kernel_rfl))
 f129:=Tryz.func163.trans (congrArg some (by kernel_rfl))
 f189:=Tryz.func148.trans (congrArg some (by kernel_rfl))
 f215:=Tryz.func169.trans (congrArg some (by kernel_rfl))
 f216:=Tryz.func159.trans (congrArg some (by kernel_rfl))
 f257:=Tryz.func151.trans (congrArg some (by kernel_rfl))
 f294:=Tryz.func153.trans (congrArg some (by kernel_rfl))
 f295:=Tryz.func154.trans (congrArg some (by kernel_rfl))
 f296:=Tryz.func155.trans (congrArg some (by kernel_rfl))
 f297:=Tryz.func156.trans (congrArg some (by kernel_rfl))
 f298:=Tryz.func157.trans (congrArg some (by kernel_rfl))
 f299:=Tryz.func158.trans (congrArg some (by kernel_rfl))
 f300:=Tryz.func160.trans (congrArg some (by kernel_rfl))
 f301:=Tryz.func161.trans (congrArg some (by kernel_rfl))
 f328:=Tryz.func164.trans (congrArg some (by kernel_rfl))
 f329:=Tryz.func165.trans (congrArg some (by kernel_rfl))
 f330:=Tryz.func166.trans (congrArg some (by kernel_rfl))
 f331:=Tryz.func167.trans (congrArg some (by kernel_rfl))
 f332:=Tryz.func168.trans (congrArg some (by kernel_rfl))
 f343:=Tryz.func170.trans (congrArg some (by kernel_rfl))
 t0:=Tryz.underlying0
 a0:=Tryz.isAgg0
 z0:=Tryz.sizeOf0
 v0:=Tryz.zeroValue0
 t3:=Tryz.underlying3
 a3:=Tryz.isAgg3
 z3:=Tryz.sizeOf3
 v3:=Tryz.zeroValue3
 t4:=Tryz.underlying4
 a4:=Tryz.isAgg4
 z4:=Tryz.sizeOf4
 v4:=Tryz.zeroValue4
 t5:=Tryz.underlying5
 a5:=Tryz.isAgg5
 z5:=Tryz.sizeOf5
 v5:=Tryz.zeroValue5
 t9:=Tryz.underlying9
 a9:=Tryz.isAgg9
 z9:=Tryz.sizeOf9
 v9:=Tryz.zeroValue9
 t28:=Tryz.underlying22
 a28:=Tryz.isAgg22
 z28:=Tryz.sizeOf22
 v28:=Tryz.zeroValue22
 t46:=Tryz.underlying76
 a46:=Tryz.isAgg76
 z46:=Tryz.sizeOf76
 v46:=Tryz.zeroValue76
 t51:=Tryz.underlying151
 a51:=Tryz.isAgg151
 z51:=Tryz.sizeOf151
 v51:=Tryz.zeroValue151
 t53:=Tryz.underlying74
 a53:=Tryz.isAgg74
 z53:=Tryz.sizeOf74
 v53:=Tryz.zeroValue74
 t131:=Tryz.underlying167
 a131:=Tryz.isAgg167
 z131:=Tryz.sizeOf167
 v131:=Tryz.zeroValue167
 t182:=Tryz.underlying224
 a182:=Tryz.isAgg224
 z182:=Tryz.sizeOf224
 v182:=Tryz.zeroValue224
 t183:=Tryz.underlying225
 a183:=Tryz.isAgg225
 z183:=Tryz.sizeOf225
 v183:=Tryz.zeroValue225
 t218:=Tryz.underlying231
 a218:=Tryz.isAgg231
 z218:=Tryz.sizeOf231
 v218:=Tryz.zeroValue231
 t222:=Tryz.underlying235
 a222:=Tryz.isAgg235
 z222:=Tryz.sizeOf235
 v222:=Tryz.zeroValue235
 t228:=Tryz.underlying237
 a228:=Tryz.isAgg237
 z228:=Tryz.sizeOf237
 v228:=Tryz.zeroValue237
 t229:=Tryz.underlying182
 a229:=Tryz.isAgg182
 z229:=Tryz.sizeOf182
 v229:=Tryz.zeroValue182 }
open Go.Sort Go.RowKit in
theorem Tryz.slices_Sort_int (blk off cap:Nat) (zs:List Int) (w:World) (hH:Holds (Value.int .i64) w blk off zs.toArray) (hblk:blk<w.heap.size) (hsz:zs.length<4611686018427387904) :
  Calls Tryz.prog 148 #[.slice (some ⟨blk,off,none⟩) zs.length cap] w fun e w'=>e = .returned (.tuple #[])/\∃n os,w'=grow (putRow (Value.int .i64) (Sort.ahead w n) blk off (zs.mergeSort fun x y=>decide (x<=y)).toArray) os:=Any.slices_Sort_int Tryz.BN blk off cap zs w hH hblk hsz
def Tryz.y8:Go.Shelf.Ren:=⟨fun | 112=>143 | n=>n,fun | 28=>22 | 3=>3 | 4=>4 | 0=>0 | n=>n,fun | n=>n⟩
theorem Tryz.Bs:Go.Proofs.Lays.n112 Tryz.prog Tryz.y8:={
 mixed:=by kernel_rfl
 f112:=Tryz.func143.trans (congrArg some (by kernel_rfl))
 t0:=Tryz.underlying0
 a0:=Tryz.isAgg0
 z0:=Tryz.sizeOf0
 v0:=Tryz.zeroValue0
 t3:=Tryz.underlying3
 a3:=Tryz.isAgg3
 z3:=Tryz.sizeOf3
 v3:=Tryz.zeroValue3
 t4:=Tryz.underlying4
 a4:=Tryz.isAgg4
 z4:=Tryz.sizeOf4
 v4:=Tryz.zeroValue4
 t28:=Tryz.underlying22
 a28:=Tryz.isAgg22
 z28:=Tryz.sizeOf22
 v28:=Tryz.zeroValue22 }
open Go.RowKit Go.Lib Go.Sort in
/-- slices.Reverse at []int: "Reverse reverses the elements of the slice in place.": THE SLICE's CELLS HOLD 'zs.reverse' BEHIND THE CALL; all else is as it was, but for the count of draws (the exchange 's[i], s[j] = s[j], s[i]' draws its order, once a round). IN THE WORDS OF slices.Sort's CONTRACT: 'Holds': the cells hold zs and none is frozen; 'putRow': the world with those cells holding another array. A slice of length 0 that is not nil is among them ('zs = []'); nil: '.._nil'. (LAID: no walk: one application.) -/
theorem Tryz.slices_Reverse_int (blk off cap:Nat) (zs:List Int) (w:World) (hH:Holds (Value.int .i64) w blk off zs.toArray) (hsz:zs.length<=9223372036854775807) :
  Calls Tryz.prog 143 #[.slice (some ⟨blk,off,none⟩) zs.length cap] w fun e w'=>e = .returned (.tuple #[])/\∃n,w'=putRow (Value.int .i64) (Sort.ahead w n) blk off zs.reverse.toArray:=Any.slices_Reverse_int Tryz.Bs blk off cap zs w hH hsz
open Go.RowKit Go.Lib Go.Sort in
/-- The same at a slice of length 0, a nil one too: nothing is read, nothing written, nothing drawn. (LAID: no walk: one application.) -/
theorem Tryz.slices_Reverse_int_empty (a:Option Addr) (cap:Nat) (w:World) :
  Calls Tryz.prog 143 #[.slice a 0 cap] w fun e w'=>e = .returned (.tuple #[])/\w'=w:=Any.slices_Reverse_int_empty Tryz.Bs a cap w
def Tryz.vH:Go.Shelf.Ren:=⟨fun | 20=>149 | n=>n,fun | 22=>22 | 3=>3 | 4=>4 | 0=>0 | n=>n,fun | n=>n⟩
theorem Tryz.xl:Go.Proofs.Lays2.n20 Tryz.prog Tryz.vH:={
 mixed:=by kernel_rfl
 f20:=Tryz.func149.trans (congrArg some (by kernel_rfl))
 t0:=Tryz.underlying0
 a0:=Tryz.isAgg0
 z0:=Tryz.sizeOf0
 v0:=Tryz.zeroValue0
 t3:=Tryz.underlying3
 a3:=Tryz.isAgg3
 z3:=Tryz.sizeOf3
 v3:=Tryz.zeroValue3
 t4:=Tryz.underlying4
 a4:=Tryz.isAgg4
 z4:=Tryz.sizeOf4
 v4:=Tryz.zeroValue4
 t22:=Tryz.underlying22
 a22:=Tryz.isAgg22
 z22:=Tryz.sizeOf22
 v22:=Tryz.zeroValue22
 i3:=by kernel_rfl }
open Go.RowKit Go.Lib Go.Sort in
/-- slices.Compact at []int: "Compact replaces consecutive runs of equal elements with a single copy. This is like the uniq command found on Unix. Compact modifies the contents of the slice s and returns the modified slice, which may have a smaller length. Compact zeroes the elements between the new length and the original length. The result preserves the nilness of s.": IT RETURNS THE SLICE CUT TO 'Lib.compact zs'; ITS CELLS HOLD 'Lib.compact zs', THEN ZERO VALUES up to the old length; all else is as it was, but for the count of draws. IN THE WORDS OF slices.Sort's CONTRACT ('Holds', 'putRow'): so the everyday 'slices.Sort(xs); xs = slices.Compact(xs)' goes from the one contract to the other. It asks 'zs.length <= cap' (every slice's: the reslicing 's[:k]' looks at it). Length 0, nil: '.._empty'. (LAID: no walk: one application.) -/
theorem Tryz.slices_Compact_int (blk off cap:Nat) (zs:List Int) (w:World) (hH:Holds (Value.int .i64) w blk off zs.toArray) (hsz:zs.length<=9223372036854775807) (hcap:zs.length<=cap) :
  Calls Tryz.prog 149 #[.slice (some ⟨blk,off,none⟩) zs.length cap] w fun e w'=>e = .returned (.slice (some ⟨blk,off,none⟩) (Lib.compact zs).length cap)/\∃q,w'=putRow (Value.int .i64) (Sort.ahead w q) blk off (Lib.compact zs++List.replicate (zs.length-(Lib.compact zs).length) 0).toArray:=Any.slices_Compact_int Tryz.xl blk off cap zs w hH hsz hcap
open Go.RowKit Go.Lib Go.Sort in
/-- The same at a slice of length 0, a nil one too: it comes back as it is. (LAID: no walk: one application.) -/
theorem Tryz.slices_Compact_int_empty (a:Option Addr) (cap:Nat) (w:World) :
  Calls Tryz.prog 149 #[.slice a 0 cap] w fun e w'=>e = .returned (.slice a 0 cap)/\w'=w:=Any.slices_Compact_int_empty Tryz.xl a cap w
open Go.RowKit Go.Sort in
/-- .. and plain. (LAID: no walk: one application.) -/
theorem Tryz.slices_Sort_int_none (p:Option Addr) (cap:Nat) (w:World) :
  Calls Tryz.prog 148 #[.slice p 0 cap] w fun e w'=>e = .returned (.tuple #[])/\w'=w:=Any.slices_Sort_int_none Tryz.BN p cap w
end Go.Proofs
namespace Go.Proofs.YtnfiilgdjpdlkaaGreatDoor
open Go Go.Lft
def I64 (x:Int):Prop:=-9223372036854775808<=x/\x<=9223372036854775807
variable{W:View}
theorem oM{h:Heap}{e:TypeId}{v:Value}{l:List Int}:OwnT W h e v l↔l.length<=140737488355328/\(∀x∈l,I64 x)/\((v = .slice none 0 0/\l=[])\/
  ∃g cap cur,v = .slice (some ⟨g,0,none⟩) l.length cap/\h[g]? = some (.cells cur e (0,0))/\l.length<=cap/\cap<=maxLen/\cur.size=cap/\cur.toList.take l.length=l.map (.int .i64)):=by
 have hn:Rep.n Int=1:=rfl;constructor
 ·rintro⟨hb,xs,⟨hl,hown⟩,hel⟩;rw[hn,Lq]at hl;have hel' : ∀(i:Nat) (hi:i<l.length),xs[i]? = some (.int .i64 l[i])/\I64 l[i]:=fun i hi=>by
   obtain⟨h1,h2⟩:=hel i hi;rw[hn,Lq]at h1;have:(xs.drop i).take 1=[.int .i64 l[i]]:=h1;have h3:((xs.drop i).take 1)[0]? = some (.int .i64 l[i]):=by rw[this];rfl
   rw[LH,if_pos (by decide),MI]at h3;exact⟨by simpa using h3,h2⟩
  have hxs:xs=l.map (.int .i64):=by
   refine Nj fun i=>?_;rcases KB i l.length with hi | hi
   ·rw[(hel' i hi).1];simp[hi]
   rw[K8 (by omega),K8 (by simpa using hi)]
  refine⟨hb,fun x hx=>?_,?_⟩
  ·obtain⟨i,hi,rfl⟩:=KV hx;exact(hel' i hi).2
  rcases hown with⟨rfl,h0⟩ | ⟨g,cap,cur,rfl,hg,h1,h2,h3,h4⟩
  ·exact .inl ⟨rfl,KN h0⟩
  rw[hn,Lq]at h3 h4;exact .inr ⟨g,cap,cur,rfl,hg,h1,h2,h3,by rw[h4,hxs]⟩
 rintro⟨hb,hr,hown⟩;refine⟨hb,l.map (.int .i64),⟨by rw[hn];simp,?_⟩,fun i hi=>?_⟩
 ·rcases hown with⟨rfl,rfl⟩ | ⟨g,cap,cur,rfl,hg,h1,h2,h3,h4⟩
  ·exact .inl ⟨rfl,rfl⟩
  exact .inr ⟨g,cap,cur,rfl,hg,h1,h2,by rw[hn,Lq];exact h3,by rw[hn,Lq];exact h4⟩
 rw[hn,Lq];refine⟨?_,hr _ (Ly hi)⟩;refine Nj fun j=>?_;rw[LH];rcases KB j 1 with hj | hj
 ·have:j=0:=by omega
  subst this;simp[hi]
 rw[if_neg (by omega)];simp;omega
theorem rY{w:World}{g cap:Nat}{cur:Array Value}{e:TypeId}{l:List Int}(hg:w.heap[g]? = some (.cells cur e (0,0)))(h1:l.length<=cur.size)(h4:cur.toList.take l.length=l.map (.int .i64)):Go.Sort.Holds (Value.int .i64) w g 0 l.toArray:=by
 intro j hj;simp only[L6]at hj;have hc:cur[j]? = some (.int .i64 l[j]):=by have:=congrArg (fun x:List Value=>x[j]?) h4;simp only[LH,hj,if_true,L8]at this;simpa[hj]using this
 constructor
 ·simp[World.cell?,hg,hc,hj]
 simp[World.frozen?,hg]
theorem xv{w:World}{h':Heap}{e:TypeId}{v:Value}{g cap:Nat}{cur:Array Value}{l d:List Int}(hv:v = .slice (some ⟨g,0,none⟩) l.length cap)(hg:w.heap[g]? = some (.cells cur e (0,0)))(h1:l.length<=cap)(h2:cap<=maxLen)(h3:cur.size=cap)(hd:d.length=l.length)(hb:l.length<=140737488355328)(hr : ∀x∈d,I64 x)(n:Nat)(os:Array Obj)(hh:h'=(Go.Sort.grow (Go.Sort.putRow (Value.int .i64) (Go.Sort.ahead w n) g 0 d.toArray) os).heap):
  OwnT W h' e v d/\Kept w.heap h' v.ownBlock:=by
 subst hv;have hlt:g<w.heap.size:=(KC.1 hg).1;have hcur:(Go.Sort.putCells (Value.int .i64) 0 d.toArray cur).toList.take d.length=d.map (.int .i64):=by
  refine Nj fun j=>?_;rw[LH];split
  ·rename_i hj;have hjc:j<cur.size:=by omega
   simp[Go.Sort.putCells,hj,hjc]
  rename_i hj;exact(K8 (by simpa using Nat.le_of_not_lt hj)).symm
 have hblk : ∀k,k<w.heap.size->h'[k]? = if g=k then(w.heap[k]?).map (Go.Sort.onCells (Go.Sort.putCells (Value.int .i64) 0 d.toArray)) else w.heap[k]?:=by intro k hk;subst hh;simp only[Go.Sort.grow,Go.Sort.putRow,Go.Sort.mapBlock,Go.Sort.ahead];rw[NK (by simpa using hk),Np]
 have hsz:w.heap.size<=h'.size:=by subst hh;simp[Go.Sort.grow,Go.Sort.putRow,Go.Sort.mapBlock,Go.Sort.ahead]
 refine⟨oM.2 ⟨by omega,hr,.inr ⟨g,cap,Go.Sort.putCells (Value.int .i64) 0 d.toArray cur,by rw[hd],?_,by omega,h2,by simp[Go.Sort.putCells,h3],hcur⟩⟩,hsz,fun k hk hne=>?_⟩
 ·rw[hblk g hlt,if_pos rfl,hg];rfl
 rw[hblk k hk,if_neg (fun e=>hne (by simp[Value.ownBlock,e]))]
theorem qe(w:World)(n g:Nat)(d:Array Int)(os:Array Obj):Same w (Go.Sort.grow (Go.Sort.putRow (Value.int .i64) (Go.Sort.ahead w n) g 0 d) os):=
 ⟨rfl,rfl,rfl,by simp[Go.Sort.grow,Go.Sort.putRow,Go.Sort.mapBlock,Go.Sort.ahead],fun b hb=>by
  have hlt:=(KC.1 hb).1;simp only[Go.Sort.grow,Go.Sort.putRow,Go.Sort.mapBlock,Go.Sort.ahead];rw[NK (by simpa using hlt),Np];split
  ·rw[hb];rfl
  exact hb⟩
def nQ (l:List Int):List Int:=l.mergeSort fun x y=>decide (x<=y)
theorem GQ{h:Heap}{e:TypeId}{v:Value}{l:List Int}(o:OwnT W h e v l):aw Tryz.prog N.slices_Sort_int #[v] h (fun _ h'=>OwnT W h' e v (nQ l)/\Kept h h' v.ownBlock):=by
 rintro w rfl;obtain⟨hb,hr,hown⟩:=oM.1 o;have hlen:(nQ l).length=l.length:=List.length_mergeSort _;have hr' : ∀x∈nQ l,I64 x:=fun x hx=>hr x (NL.1 hx);rcases hown with⟨rfl,rfl⟩ | ⟨g,cap,cur,rfl,hg,h1,h2,h3,h4⟩
 ·refine(Tryz.slices_Sort_int_none none 0 w).mono ?_;rintro e' w' ⟨rfl,rfl⟩;exact⟨_,rfl,⟨by simpa[nQ]using o,Kept.refl _ _⟩,Same.refl _⟩
 refine(Tryz.slices_Sort_int g 0 cap l w (rY (cap:=cap) hg (by omega) h4) (KC.1 hg).1 (by omega)).mono ?_;rintro e' w' ⟨rfl,n,os,rfl⟩;exact⟨_,rfl,xv rfl hg h1 h2 h3 hlen hb hr' n os rfl,qe _ _ _ _ _⟩
variable{n:Nat}
theorem Fg{h:Heap}{e:TypeId}{g cap:Nat}{l:List Int}(o:OwnT W h e (.slice (some ⟨g,0,none⟩) l.length cap) l)(hn:n<=l.length):OwnT W h e (.slice (some ⟨g,0,none⟩) n cap) (l.take n):=by
 obtain⟨hb,hr,hown⟩:=oM.1 o;have hl:(l.take n).length=n:=by simp;omega
 rcases hown with⟨hv,_⟩ | ⟨g',cap',cur,hv,hg,h1,h2,h3,h4⟩
 ·cases hv
 cases hv;refine oM.2 ⟨by omega,fun x hx=>hr x (List.mem_of_mem_take hx),.inr ⟨g,cap,cur,by rw[hl],hg,by omega,h2,h3,?_⟩⟩;rw[hl,List.map_take,<-h4,LN,LO hn]
theorem sL{l:List Int}:(Lib.compact l).length<=l.length:=by unfold Lib.compact Lib.compactUpTo;rw[LR];exact KU (List.length_filter_le _ _) (by simp)
theorem n7{l:List Int}{x:Int}(hx:x∈Lib.compact l):x∈l:=by unfold Lib.compact Lib.compactUpTo at hx;simp only[LF,ML,LQ]at hx;obtain⟨i,⟨hi,_⟩,rfl⟩:=hx;simp[hi]
theorem A6{h:Heap}{e:TypeId}{v:Value}{l:List Int}(o:OwnT W h e v l):aw Tryz.prog N.slices_Compact_int #[v] h (fun v' h'=>OwnT W h' e v' (Lib.compact l)/\kD h h' v v'):=by
 rintro w rfl;obtain⟨hb,hr,hown⟩:=oM.1 o;have hlen:=sL (l:=l);rcases hown with⟨rfl,rfl⟩ | ⟨g,cap,cur,rfl,hg,h1,h2,h3,h4⟩
 ·refine(Tryz.slices_Compact_int_empty none 0 w).mono ?_;rintro e' w' ⟨rfl,rfl⟩;exact⟨_,rfl,⟨o,Kept.refl _ _,.inl rfl⟩,Same.refl _⟩
 refine(Tryz.slices_Compact_int g 0 cap l w (rY (cap:=cap) hg (by omega) h4) (by omega) h1).mono ?_;rintro e' w' ⟨rfl,n,hw⟩;have hw':w'=Go.Sort.grow (Go.Sort.putRow (Value.int .i64) (Go.Sort.ahead w n) g 0 (Lib.compact l++List.replicate (l.length-(Lib.compact l).length) 0).toArray) #[]:=by rw[hw];simp
 have hdl:(Lib.compact l++List.replicate (l.length-(Lib.compact l).length) 0).length=l.length:=by simp;omega
 have hrd : ∀x∈(Lib.compact l++List.replicate (l.length-(Lib.compact l).length) (0:Int)),I64 x:=fun x hx=>by
  rcases KD.1 hx with hx | hx
  ·exact hr x (n7 hx)
  obtain⟨_,rfl⟩:=List.mem_replicate.1 hx;exact⟨by omega,by omega⟩
 obtain⟨o2,k2⟩:=xv (W:=W) (h':=w'.heap) rfl hg h1 h2 h3 hdl hb hrd n #[] (by rw[hw']);have o3:=Fg (n:=(Lib.compact l).length) (by rw[hdl];exact o2) (by simp);rw[List.take_left'  rfl]at o3;exact⟨_,rfl,⟨o3,k2,.inl rfl⟩,by rw[hw'];exact qe _ _ _ _ _⟩
theorem A9{h:Heap}{e:TypeId}{v:Value}{l:List Int}(o:OwnT W h e v l):aw Tryz.prog N.slices_Reverse_int #[v] h (fun _ h'=>OwnT W h' e v l.reverse/\Kept h h' v.ownBlock):=by
 rintro w rfl;obtain⟨hb,hr,hown⟩:=oM.1 o;rcases hown with⟨rfl,rfl⟩ | ⟨g,cap,cur,rfl,hg,h1,h2,h3,h4⟩
 ·refine(Tryz.slices_Reverse_int_empty none 0 w).mono ?_;rintro e' w' ⟨rfl,rfl⟩;exact⟨_,rfl,⟨o,Kept.refl _ _⟩,Same.refl _⟩
 refine(Tryz.slices_Reverse_int g 0 cap l w (rY (cap:=cap) hg (by omega) h4) (by omega)).mono ?_;rintro e' w' ⟨rfl,n,hw⟩;have hw':w'=Go.Sort.grow (Go.Sort.putRow (Value.int .i64) (Go.Sort.ahead w n) g 0 l.reverse.toArray) #[]:=by rw[hw];simp
 exact⟨_,rfl,xv rfl hg h1 h2 h3 (by simp) hb (fun x hx=>hr x (by simpa using hx)) n #[] (by rw[hw']),by rw[hw'];exact qe _ _ _ _ _⟩
def om (row:List Int) (n:Int) (i:Nat):Bool:=decide (0<=nth row i)&&decide (nth row i<n)
def kK (row:List Int) (n:Int):List Int:=Lib.compact (nQ (sift (om row n) (fun i=>nth row i) row.length))
theorem Bv{row:List Int}{n:Int}{vr:Value}{h:Heap}(hr:SlRd (vw h) vr row)(hs:row.length<=1000000):
  aw Tryz.prog N.fA #[vr,.int .i64 n] h (fun v h'=>∃W,Mine nothing h h' W T.int v (kK row n)):=by
 refine ao (args:=[vr,.int .i64 n]) follows F.fA E.fA (Kw (by kernel_rfl)) fun K hK=>?_;simp[L.fA,hr.len];refine aJ [0,1,5,8,9,10] (fun(v:Value) k=>[vr,.int .i64 n,v,vr,.int .i64 row.length,.int .i64 k]) (fun v k h1=>Mine nothing h h1 nothing T.int v (sift (om row n) (fun i=>nth row i) k)) row.length (.slice none 0 0)
  rfl (by omega) rfl (Mine.start (fun _ _ h=>by cases h)) (fun _ _=>rfl) (fun v k h1 hk m=>by simp) ?_ ?_
 ·intro v k h1 hlt m K2 hK2;have hr1:=hr.mono m.old;have hrange:=hr.range hlt;have:=oe (p:=om row n) (x:=fun i=>nth row i) k;simp(disch:=omega)[hr1.idx1 rfl,hr1.int (View.le_refl _),j0,-Bool.and_eq_true,-Bool.and_eq_false_imp];refine⟨fun he=>?_,fun he=>hK2 v _ _ rfl rfl (by rw[ll (show om row n k=false from he)];exact m)⟩;refine m.push El.aP (by simp<;>rfl) (nY hrange.1 hrange.2) (by omega) (by omega) (fun _=>by simp) (fun _=>by simp) fun u v' h3 m'=>hK2 v' _ _ rfl rfl (by rw[mJ (show om row n k=true from he)];exact m')
 intro v h1 m;simp;refine af (by kernel_rfl) (GQ m.own) ?_;rintro _ h2 ⟨o2,k2⟩;have m2:=m.jo o2 ⟨k2,.inl rfl⟩;try simp
 refine af (by kernel_rfl) (A6 m2.own) ?_;rintro v3 h3 ⟨o3,k3⟩;have m3:=m2.jo o3 k3;try simp
 exact hK _ _ ⟨_,m3⟩
def dB (g:Gr):Gr:=rows (fun a=>kK (nth g a) g.length) g.length
def Sm (g:Gr):Prop:=g.length<=1000000/\∀i,i<g.length->(nth g i).length<=1000000
theorem Ff{α:Type}[Rep α]:Rep.rd W (Value.slice none 0 0).cells.toList ([]:List α):=⟨.slice none 0 0,rfl,none,0,rfl,by simp,by simp,.inl rfl⟩
variable{vg:Value}
theorem yS{g:Gr}{h:Heap}(hg:SlRd (vw h) vg g)(hs:Sm g):
  aw Tryz.prog N.eK #[vg] h (fun v h'=>∃W,Mine nothing h h' W T.aP v (dB g)):=by
 refine ao (args:=[vg]) follows F.eK E.eK (Kw (by kernel_rfl)) fun K hK=>?_;have hs1:=hs.1;simp[L.eK,hg.len];refine Mine.made (α:=List Int) (V:=nothing) (W:=nothing) (h0:=h) (n:=g.length) (d:=[]) El.jy (View.le_refl _) (fun _ _ h=>by cases h) (Old.nothing _ _) (by simp<;>rfl) (by simp<;>rfl) Ff (by omega) (by omega) fun v h1 m _ _=>?_;refine aJ [0,3,9,10,11] (fun(_:View) k=>[vg,v,vg,.int .i64 g.length,.int .i64 k]) (fun W k h2=>Mine nothing h h2 W T.aP v (rows (fun a=>kK (nth g a) g.length) k++List.replicate (g.length-k) [])) g.length nothing
  rfl (by omega) rfl m (fun _ _=>rfl) (fun v k h1 hk m=>by simp) ?_ ?_
 ·intro W a h2 hlta m K2 hK2;have hg2:=hg.mono m.old;obtain⟨rv,hrv⟩:=hg2.rows;obtain⟨cv,rr⟩:=hrv a hlta;have hl5:(rows (fun a=>kK (nth g a) g.length) a++List.replicate (g.length-a) ([]:List Int)).length=g.length:=by simp;omega
  simp(disch:=omega)[hg2.idx1 rfl,cv _ (View.le_refl _),hg.len];refine af (by kernel_rfl) (Bv rr (hs.2 a hlta)) ?_;rintro r h3 ⟨W',mr⟩;have m3:=m.ext mr.old;have hr:=mr.fresh.mono (jj W _ _);simp(disch:=omega)[m3.now.idx1 rfl];refine m3.put1 (α:=List Int) (i:=a) (by kernel_rfl) rfl (by simp) (by simp<;>rfl) (by omega) (eE.2 hr) fun h4 m4=>hK2 (grow W h2 h3) _ _ rfl rfl ?_;rw[vk (x:=fun a=>kK (nth g a) g.length) hlta]at m4;exact m4
 intro W h2 m;simp at m;simp;exact hK _ _ ⟨_,m⟩
theorem uC{l:List Int}{x:Int}{v:Value}{h:Heap}{b:Addr}(hl:SlRd (vw h) v l)(hb:aj (vw h) b=some v):
  aw Tryz.prog N.cZ #[.int .i64 x,.pointer (some b)] h (fun u h'=>u = .bool (decide (0<=x)&&decide (x<l.length))/\h'=h):=by refine ao (args:=[.int .i64 x,.pointer (some b)]) follows F.cZ E.cZ (Kw (by kernel_rfl)) fun K hK=>?_;simp[L.cZ,hb,hl.len];exact hK _ _ ⟨rfl,rfl⟩
theorem xO{l:List Int}{a b:Int}{v:Value}{h:Heap}(hl:SlRd (vw h) v l):
  aw Tryz.prog N.dk #[v,.int .i64 a,.int .i64 b] h (fun u h'=>u = .bool (eB l a b)/\(vw h).le (vw h')):=by
 refine ao (args:=[v,.int .i64 a,.int .i64 b]) follows F.dk E.dk (Kw (by kernel_rfl)) fun K hK=>?_;have bl:=hl.bound;simp[L.dk];refine dy (v:=v) (by simp) ?_;have hvc:v.cells = #[v]:=by obtain⟨_,_,rfl,_⟩:=hl;rfl
 rw[hvc];have hle:=bM h (.cells #[v] T.aP);have hl:=hl.mono hle;have hb:aj (vw (h.push (.cells #[v] T.aP))) ⟨h.size,0,none⟩=some v:=by simp[aj,vw]
 generalize h.push (.cells #[v] T.aP)=h1 at hle hl hb;generalize h.size=B at hb;refine bI (ops:=[.tmp 10]) rfl (by kernel_rfl) (by simpa using uC (x:=a) hl hb) ?_;rintro _ _ ⟨rfl,rfl⟩;cases ha:decide (0<=a)&&decide (a<l.length)with
 | false=>
  have hsp:eB l a b=false:=by simp only[Nq,decide_eq_false_iff_not]at ha;simp[eB];intros;omega
  rw[hsp]at hK;simp[grdP];exact hK _ _ ⟨rfl,hle⟩
 | true=>
  simp only[KE,decide_eq_true_eq]at ha;simp[grdP];refine bI (ops:=[.tmp 15]) rfl (by kernel_rfl) (by simpa using uC (x:=b) hl hb) ?_;rintro _ _ ⟨rfl,rfl⟩;cases hbb:decide (0<=b)&&decide (b<l.length)with
  | false=>
   have hsp:eB l a b=false:=by simp only[Nq,decide_eq_false_iff_not]at hbb;simp[eB];intros;omega
   rw[hsp]at hK;simp;exact hK _ _ ⟨rfl,hle⟩
  | true=>
   simp only[KE,decide_eq_true_eq]at hbb;have hsp:eB l a b=nV l a (l.length+1) b:=by simp[eB,ha,hbb]
   rw[hsp]at hK;simp(disch:=omega)[hb,hl.len];refine aJ [1,2,3,6,7,21,22] (fun(c:Int) k=>[.int .i64 a,.int .i64 c,.pointer (some ⟨B,0,none⟩),.bool false,.func (.func N.cZ) #[] #[.pointer (some ⟨B,0,none⟩)],.int .i64 ((l.length:Int)+1),.int .i64 k])
    (fun c k h2=>h2=_/\nV l a (l.length+1-k) c=nV l a (l.length+1) b) (l.length+1) b
    rfl (by omega) rfl ⟨rfl,rfl⟩ (fun _ _=>rfl) (fun v k h1 hk m=>by simp) ?_ ?_
   ·rintro c k h2 hlt ⟨rfl,hch⟩ K2 hK2;have hfu:l.length+1-k=(l.length-k)+1:=by omega
    rw[hfu,nV]at hch;simp;refine⟨fun he=>hK _ _ ⟨by rw[<-hch,if_pos he.symm],hle⟩,fun he=>?_⟩;rw[if_neg (fun e=>he e.symm)]at hch;refine bI (ops:=[.tmp 28]) rfl (by kernel_rfl) (by simpa using uC (x:=c) hl hb) ?_;rintro _ _ ⟨rfl,rfl⟩;cases hc:decide (0<=c)&&decide (c<l.length)with
    | false=>simp only[Nq,decide_eq_false_iff_not]at hc;simp;exact hK _ _ ⟨by rw[<-hch,if_pos (by omega)],hle⟩
    | true=>simp only[KE,decide_eq_true_eq]at hc;rw[if_neg (by omega)]at hch;simp(disch:=omega)[hb,hl.idx1 rfl,hl.int (View.le_refl _)];refine hK2 (nth l c.toNat) _ _ rfl rfl ⟨rfl,?_⟩;rw[<-hch];congr 1;omega
   rintro c h2 ⟨rfl,hch⟩;rw[NB,nV]at hch;simp;exact hK _ _ ⟨by rw[<-hch],hle⟩
def kg (idom number:List Int):Nat->Int->Int->Option Int
 | 0,_,_=>none
 | n+1,a,b=>
  if 0<=a/\a<number.length/\a<idom.length/\0<=b/\b<number.length/\b<idom.length then
   if nth number b.toNat<nth number a.toNat then kg idom number n (nth idom a.toNat) b
   else if nth number a.toNat<nth number b.toNat then kg idom number n a (nth idom b.toNat)
   else some a
  else none
variable{number:List Int}
theorem xj{idom:List Int}{vi vn:Value}{h:Heap}{r:Int}(hi:SlRd (vw h) vi idom)(hn:SlRd (vw h) vn number){a b:Int}(hc:kg idom number n a b=some r):
  aw Tryz.prog N.dN #[vi,vn,.int .i64 a,.int .i64 b] h (fun u h'=>u = .int .i64 r/\h'=h):=by
 refine ao (args:=[vi,vn,.int .i64 a,.int .i64 b]) follows F.dN E.dN (Kw (by kernel_rfl)) fun K hK=>?_;simp[L.dN];refine iV [0,1,2,3] (fun m ρ h'=>∃(c d:Int),ρ=[(0,vi),(1,vn),(2,.int .i64 c),(3,.int .i64 d)]/\h'=h/\kg idom number m c d=some r) n ⟨a,b,rfl,rfl,hc⟩ ?_;rintro m ρ h' ⟨c,d,rfl,rfl,hc⟩ K2 hK2;cases m with
 | zero=>cases hc
 | succ m=>
  rw[kg]at hc;split at hc;case isFalse=>cases hc
  rename_i hr;obtain⟨r1,r2,r3,r4,r5,r6⟩:=hr;simp(disch:=omega)[L.dN.l1,hn.idx1 rfl,hn.int (View.le_refl _)];refine⟨fun h1=>?_,fun h1=>?_⟩
  ·rw[if_pos h1]at hc;simp(disch:=omega)[hi.idx1 rfl,hi.int (View.le_refl _)];exact hK2 m _ _ (by omega) ⟨_,_,rfl,rfl,hc⟩
  rw[if_neg (by omega)]at hc;refine⟨fun h2=>?_,fun h2=>?_⟩
  ·rw[if_pos h2]at hc;simp(disch:=omega)[hi.idx1 rfl,hi.int (View.le_refl _)];exact hK2 m _ _ (by omega) ⟨_,_,rfl,rfl,hc⟩
  rw[if_neg (by omega)]at hc;cases hc;exact hK _ _ ⟨rfl,rfl⟩
structure Wo (W:View) (h:Heap) (B:Nat) (vt vl:Value) (s:List Bool × List Int):Prop where
 wle:W.le (vw h)
 box:h[B]? = some (.cells #[vl] T.aP (0,0))
 wB:W B=none
 avt:Av W vt
 avl:Av W vl
 nt:vt.ownBlock≠some B
 nl:vl.ownBlock≠some B
 ne:vl.ownBlock=none\/vl.ownBlock≠vt.ownBlock
 ot:OwnT nothing h T.bool vt s.1
 ol:OwnT nothing h T.int vl s.2
 nn:vt.ownBlock=none\/vt.ownBlock≠vl.ownBlock
theorem Wo.lt{W:View}{h:Heap}{B:Nat}{vt vl:Value}{s:List Bool × List Int}(k:Wo W h B vt vl s):B<h.size:=(KC.1 k.box).1
theorem Wo.ext {W:View} {h h':Heap} {B:Nat} {vt vl:Value} {s:List Bool × List Int} (k:Wo W h B vt vl s) (hle:(vw h).le (vw h')):Wo W h' B vt vl s:=
 {k with wle:=View.le_trans k.wle hle,box:=hle _ _ k.box,ot:=k.ot.ext hle,ol:=k.ol.ext hle }
variable{vt vl:Value}
theorem Wo.flag{h h':Heap}{B:Nat}{s:List Bool × List Int}{t':List Bool}(k:Wo W h B vt vl s)(o:OwnT nothing h' T.bool vt t')(m:kD h h' vt vt):Wo W h' B vt vl (t',s.2):=
 {k with
  wle:=(m.view k.wle k.avt).1
  box:=by rw[m.kept.block B k.lt (fun e=>k.nt e.symm)];exact k.box
  ot:=o
  ol:=k.ol.kept m.kept k.ne }
theorem Wo.Ix{h h' h'':Heap}{B:Nat}{vl':Value}{s:List Bool × List Int}{l':List Int}(k:Wo W h B vt vl s)(o:OwnT nothing h' T.int vl' l')(m:kD h h' vl vl')(hsz:h''.size=h'.size)(hB:h''[B]? = some (.cells #[vl'] T.aP (0,0)))(hoth : ∀j,j≠B->h''[j]? = h'[j]?):Wo W h'' B vt vl' (s.1,l'):=by
 obtain⟨hw',ha'⟩:=m.view k.wle k.avl;have hlt:=k.lt;have nl':vl'.ownBlock≠some B:=by
  rcases m.at_ with e | e
  ·rw[e];exact k.nl
  rw[e];intro e2;cases e2;omega
 have kep:Kept h' h'' (some B):=⟨by omega,fun j _ hj=>hoth j (fun e=>hj (by rw[e]))⟩;refine⟨fun b x hb=>?_,hB,k.wB,k.avt,ha',k.nt,nl',?_,?_,?_,?_⟩
 ·have hne:b≠B:=fun e=>by rw[e,k.wB]at hb;cases hb
  show h''[b]? = _;rw[hoth b hne];exact hw' b x hb
 ·rcases m.at_ with e | e
  ·rw[e];exact k.ne
  right;rw[e];intro e2;have:=k.ot.lt e2.symm;omega
 ·exact(k.ot.kept m.kept k.nn).kept kep (.inr k.nt)
 ·exact o.kept kep (.inr nl')
 rcases m.at_ with e | e
 ·rw[e];exact k.nn
 right;rw[e];intro e2;have:=k.ot.lt e2;omega
theorem Wo.cell{h:Heap}{B:Nat}{s:List Bool × List Int}(k:Wo W h B vt vl s):aj (vw h) ⟨B,0,none⟩=some vl:=by simp[aj,vw,k.box]
def nx (rows:Gr) (a:Int):List Int:=nth rows a.toNat
theorem yM {rows:Gr} {vr:Value} {Tp R O:Addr} {B:Nat} (hs:rows.length<=1000000) (hin : ∀i,i<rows.length->∀j,j<(nth rows i).length->0<=nth (nth rows i) j/\nth (nth rows i) j<rows.length) : ∀(n:Nat) {M:Nat} {W:View} {h:Heap} {vt vl:Value} {s:List Bool × List Int} {a:Int},Wo W h B vt vl s->SlRd W vr rows->
  aj W Tp=some vt->aj W R=some vr->aj W O=some (.func (.func N.cn) #[] #[.pointer (some Tp),.pointer (some R),.pointer (some O),.pointer (some ⟨B,0,none⟩)])->0<=a->a<rows.length->s.1.length=rows.length->nth s.1 a.toNat=false->
  dA s.1<=n->s.2.length+dA s.1<=M->M<=1000000->
  aw Tryz.prog N.cn #[.int .i64 a,.pointer (some Tp),.pointer (some R),.pointer (some O),.pointer (some ⟨B,0,none⟩)] h (fun _ h'=>∃vl',Wo W h' B vt vl' (jq (nx rows) n a s)/\(jq (nx rows) n a s).2.length+dA (jq (nx rows) n a s).1<=M)
 | 0,M,W,h,vt,vl,s,a,k,hg,hT,hR,hO,h0,h1,hl,hf,hc,hb,hM=>by exfalso;have:=jg (t:=s.1) (i:=a.toNat) (by omega) hf;omega
 | n+1,M,W,h,vt,vl,(t,l),a,k,hg,hT,hR,hO,h0,h1,hl,hf,hc,hb,hM=>by
  obtain⟨i,rfl⟩:=Nf h0;simp only at hl hf hc hb;have hfs:=jg (t:=t) (i:=i) (by omega) (by simpa using hf);refine ao (args:=[.int .i64 i,.pointer (some Tp),.pointer (some R),.pointer (some O),.pointer (some ⟨B,0,none⟩)]) follows F.cn E.cn (Kw (by kernel_rfl)) fun K hK=>?_;have hnow:SlRd (vw h) vt t:=k.ot.now (fun _ _ h=>by cases h)
  simp(disch:=omega)[L.cn,ae k.wle hT,hnow.idx1 rfl];refine rm (W:=nothing) (i:=i) (d:=true) (by kernel_rfl) (by simp[show Rep.n Bool=1 from rfl]) (by simp<;>rfl) k.ot (by simpa using by omega) Iw fun h2 o2 m2=>?_;have k2:=k.flag o2 m2;have hg2:=hg.mono k2.wle;obtain⟨rv,hrv⟩:=hg.rows;obtain⟨cv,rr⟩:=hrv i (by omega);have br:=rr.bound;have hov:jq (nx rows) (n+1) i (t,l)=((up (cU (nx rows) n i) (nx rows i).length (t.set i true,l)).1,(up (cU (nx rows) n i) (nx rows i).length (t.set i true,l)).2++[(i:Int)]):=jO;rw[hov]at hK;have hnx:nx rows i=nth rows i:=rfl;rw[hnx]at hK;simp(disch:=omega)[ae k2.wle hR,hg2.idx1 rfl,cv _ k2.wle,rr.len];refine aJ [0,1,2,3,4,14,15,16] (fun(_:Value) j=>[.int .i64 i,.pointer (some Tp),.pointer (some R),.pointer (some O),.pointer (some ⟨B,0,none⟩),rv i,.int .i64 (nth rows i).length,.int .i64 j]) (fun vl j h4=>Wo W h4 B vt vl (up (cU (nx rows) n i) j (t.set i true,l))/\(up (cU (nx rows) n i) j (t.set i true,l)).2.length+dA (up (cU (nx rows) n i) j (t.set i true,l)).1<=M-1) (nth rows i).length vl
   rfl (by omega) rfl ⟨k2,by simp[up];omega⟩ (fun _ _=>rfl) (fun v j h4 hk m=>by simp) ?_ ?_
  ·rintro vl j h4 hltj ⟨k4,hb4⟩ K2 hK2;have hinv:=rM (fun s:List Bool × List Int=>s.1.length=rows.length/\dA s.1<=n) (f:=cU (nx rows) n i) (fun k x hx=>by
    unfold cU;split
    ·exact hx
    exact oz n _ x hx) j (t.set i true,l) ⟨by simpa using hl,by simp only;omega⟩;generalize hx:up (cU (nx rows) n i) j (t.set i true,l)=x at k4 hb4 hinv;obtain⟨e0,e1⟩:=hin i (by omega) j hltj;have hr4:=rr.mono k4.wle;have hnow4:=k4.ot.now (fun _ _ h=>by cases h);simp(disch:=omega)[ae k4.wle hT,hr4.idx1 rfl,hr4.int (View.le_refl _),hnow4.idx1 rfl,hnow4.bool (View.le_refl _),j0];refine⟨fun he=>?_,fun he=>hK2 vl _ _ rfl rfl ?_⟩
   ·simp[ae k4.wle hO];refine bI (ops:=[.tmp 26]) rfl (by kernel_rfl) (by simpa using yM hs hin n k4 hg hT hR hO e0 e1 hinv.1 he hinv.2 hb4 (by omega)) ?_;rintro _ h5 ⟨⟨vl',k5⟩,hb5⟩;have hst:up (cU (nx rows) n i) (j+1) (t.set i true,l)=jq (nx rows) n (nth (nth rows i) j) x:=by rw[up,hx,cU,show nx rows i=nth rows i from rfl,he];rfl
    refine hK2 vl' _ _ rfl rfl ?_;rw[hst];exact⟨k5,hb5⟩
   have hst:up (cU (nx rows) n i) (j+1) (t.set i true,l)=x:=by rw[up,hx,cU,show nx rows i=nth rows i from rfl,he];rfl
   rw[hst];exact⟨k4,hb4⟩
  rintro vl h4 ⟨k4,hb4⟩;generalize hx:up (cU (nx rows) n i) (nth rows i).length (t.set i true,l)=x at k4 hb4 hK;simp[k4.cell];refine mb (α:=Int) (W:=nothing) El.aP (by simp<;>rfl) (nY (by omega) (by omega)) fun u h5 hsrc hle5 _=>?_;have k5:=k4.ext hle5;refine eu El.aP (by simp) (by simp) k5.ol hsrc (by simp;omega) (by simp;omega) fun vl' h6 o6 m6=>?_;have hB6:h6[B]? = some (.cells #[vl] T.aP (0,0)):=by rw[m6.kept.block B k5.lt (fun e=>k5.nl e.symm)];exact k5.box
  obtain⟨hcells,hone⟩:=kQ o6;refine eX (g:=B) (o:=0) (n:=1) (v:=vl') (by kernel_rfl) (by simp) (by simp) (by rw[hcells];rfl) (by rw[hcells];simpa using hone) hB6 (by simp) fun h7 hsz7 ⟨row,hrow,he⟩ hoth=>hK _ _ ⟨vl',?_,?_⟩
  ·have hrow2:row = #[vl']:=by rw[<-Array.toList_inj,he,hcells];rfl
   rw[hrow2]at hrow;exact k5.Ix o6 m6 hsz7 hrow hoth
  simp;omega
def bf (g:Gr):List Int:=kH (nx (dB g)) g.length
theorem ig{g:Gr}:(dB g).length=g.length:=by simp[dB]
theorem rT{g:Gr}: ∀i,i<(dB g).length->∀j,j<(nth (dB g) i).length->0<=nth (nth (dB g) i) j/\nth (nth (dB g) i) j<(dB g).length:=by
 intro i hi j hj;rw[ig]at hi;have hm:=cj hj;rw[dB,gm hi,kK]at hm;have h2:=n7 hm;rw[nQ,NL,oH]at h2;simp only[LF,ML,LQ,om,KE,decide_eq_true_eq]at h2;obtain⟨k,⟨_,h3⟩,h4⟩:=h2;rw[ig];have e:nth (nth (dB g) i) j=nth (nth g i) k:=by rw[dB,gm hi,kK,h4,nQ,oH]
 rw[e];exact h3
theorem zK{g:Gr}{h:Heap}(hg:SlRd (vw h) vg g)(hs:Sm g):
  aw Tryz.prog N.fI #[vg] h (fun v h'=>(vw h).le (vw h')/\SlRd (fresh h h') v (bf g)):=by
 refine ao (args:=[vg]) follows F.fI E.fI (Kw (by kernel_rfl)) fun K hK=>?_;have hs1:=hs.1;simp[L.fI,hg.len];refine⟨fun h0=>?_,fun h0=>?_⟩
 ·exact hK _ _ ⟨View.le_refl _,⟨none,0,by simp[bf,kH,h0],by simp[bf,kH,h0],by simp[bf,kH,h0],.inl (by simp[bf,kH,h0])⟩⟩
 refine af (by kernel_rfl) (yS hg hs) ?_;rintro vr h1 ⟨W1,m1⟩;have hvr:=m1.now;obtain⟨hrc,hro⟩:=kQ m1.own;refine rV (z:=.slice none 0 0) (by kernel_rfl) rfl (by kernel_rfl) hrc hro (fun _=>by simp) (fun _=>by simp) fun h2 hle2 hsz2 hR2=>?_;refine mV (W:=nothing) (n:=g.length) (d:=false) El.nu (by simp<;>rfl) (by simp<;>rfl) rfl (by omega) (by omega) fun vt h3 o3 m3 hle3 hb3=>?_;obtain⟨htc,hto⟩:=kQ o3;refine rV (z:=.slice none 0 0) (by kernel_rfl) rfl (by kernel_rfl) htc hto (fun _=>by simp) (fun _=>by simp) fun h4 hle4 hsz4 hT4=>?_;refine dS (z:=.slice none 0 0) (by kernel_rfl) ?_;refine dS (z:=.nilFunc) (by kernel_rfl) ?_;have hsz3:h2.size<h3.size:=o3.lt hb3
 have hle6:(vw h4).le (vw ((h4.push (.cells (Value.slice none 0 0).cells T.aP)).push (.cells Value.nilFunc.cells T.yB))):=View.le_trans (bM _ _) (bM _ _);refine eX (g:=h4.size+1) (o:=0) (n:=1) (e:=T.yB) (cur:=#[.nilFunc]) (v:=.func (.func N.cn) #[] #[.pointer (some ⟨h3.size,0,none⟩),.pointer (some ⟨h1.size,0,none⟩),.pointer (some ⟨h4.size+1,0,none⟩),.pointer (some ⟨h4.size,0,none⟩)]) (by kernel_rfl) (by simp) (by simp) rfl (by simp[Value.cells,Value.oneCell']) (by rw[show h4.size+1=(h4.push (.cells (Value.slice none 0 0).cells T.aP)).size by simp];exact M6) (by simp) fun h7 hsz7 ⟨row,hrow,he⟩ hoth=>?_;have hrow2:row = #[.func (.func N.cn) #[] #[.pointer (some ⟨h3.size,0,none⟩),.pointer (some ⟨h1.size,0,none⟩),.pointer (some ⟨h4.size+1,0,none⟩),.pointer (some ⟨h4.size,0,none⟩)]]:=by rw[<-Array.toList_inj,he];rfl
 rw[hrow2]at hrow;have hle7:(vw h4).le (vw h7):=fun b o hb=>by have hlt:=View.lt (View.le_refl (vw h4)) hb;show h7[b]? = _;rw[hoth b (by omega)];exact hle6 b o hb
 have hL7:h7[h4.size]? = some (.cells #[.slice none 0 0] T.aP (0,0)):=by rw[hoth _ (by omega),Array.getElem?_push,if_neg (by simp),M6];rfl
 have hle27:=View.le_trans hle3 (View.le_trans hle4 hle7);have hle17:=View.le_trans hle2 hle27;obtain⟨W,hW⟩ : ∃W:View,W=fun b=>if b=h2.size\/b=h4.size then none else h7[b]?:=⟨_,rfl⟩;have hWle:W.le (vw h7):=by
  intro b o hb;rw[hW]at hb;simp only at hb;split at hb
  ·cases hb
  exact hb
 have hW1:(vw h1).le W:=fun b o hb=>by have hlt:=View.lt (View.le_refl (vw h1)) hb;rw[hW];simp only;rw[if_neg (by omega)];exact hle17 b o hb
 have k7:Wo W h7 h4.size vt (.slice none 0 0) (List.replicate g.length false,[]):=
  ⟨hWle,hL7,by rw[hW];simp,fun b hb=>by rw[hb3]at hb;cases hb;rw[hW];simp,Av.nil _ _ _,by rw[hb3];intro e;simp only[Kx]at e;omega,by simp[Value.ownBlock],.inl rfl,
   (o3.ext hle4).ext hle7,OwnT.nil ..,.inr (by rw[hb3];simp[Value.ownBlock])⟩
 have hT:aj W ⟨h3.size,0,none⟩=some vt:=by
  have h5:W h3.size=some (.cells #[vt] T.nu (0,0)):=by rw[hW];simp only;rw[if_neg (by omega)];exact hle7 _ _ hT4
  simp[aj,h5]
 have hR:aj W ⟨h1.size,0,none⟩=some vr:=by
  have h5:W h1.size=some (.cells #[vr] T.jy (0,0)):=by rw[hW];simp only;rw[if_neg (by omega)];exact hle27 _ _ hR2
  simp[aj,h5]
 have hO:aj W ⟨h4.size+1,0,none⟩=some (.func (.func N.cn) #[] #[.pointer (some ⟨h3.size,0,none⟩),.pointer (some ⟨h1.size,0,none⟩),.pointer (some ⟨h4.size+1,0,none⟩),.pointer (some ⟨h4.size,0,none⟩)]):=by
  have h5:W (h4.size+1)=h7[h4.size+1]?:=by rw[hW];simp only;rw[if_neg (by omega)]
  rw[hrow]at h5;simp[aj,h5]
 have hvrW:=hvr.mono hW1;have hlen:g.length≠0:=by simpa using h0
 have hcl:=ig (g:=g);have hfa:dA (List.replicate g.length false)=g.length:=by simp[dA]
 simp[ae hWle hO];refine bI (ops:=[.const (.int .i64 0)]) (f:=N.cn) (caps:=#[.pointer (some ⟨h3.size,0,none⟩),.pointer (some ⟨h1.size,0,none⟩),.pointer (some ⟨h4.size+1,0,none⟩),.pointer (some ⟨h4.size,0,none⟩)]) (by simp) (by kernel_rfl)
  (by simpa using yM (by omega) rT g.length (M:=g.length) k7 hvrW hT hR hO (a:=0) (by omega) (by omega) (by simp[hcl]) (by rw[az (by simp;omega)];simp) (by rw[hfa];exact Kz _) (by simp[hfa]) (by omega)) ?_;rintro _ h8 ⟨⟨vl,k8⟩,hb8⟩;have hord:bf g=(jq (nx (dB g)) g.length 0 (List.replicate g.length false,[])).2.reverse:=by simp[bf,kH,h0]
 rw[hord]at hK;generalize jq (nx (dB g)) g.length 0 (List.replicate g.length false,[])=s at k8 hb8 hK;simp[k8.cell];refine af (by kernel_rfl) (A9 k8.ol) ?_;rintro _ h9 ⟨o9,k9⟩;have hB9:h9[h4.size]? = some (.cells #[vl] T.aP (0,0)):=by rw[k9.block _ k8.lt (fun e=>k8.nl e.symm)];exact k8.box
 have hc9:aj (vw h9) ⟨h4.size,0,none⟩=some vl:=by simp[aj,vw,hB9]
 have hW9:=k9.view k8.wle k8.avl;have hle9:(vw h).le (vw h9):=View.le_trans (View.le_trans m1.old hW1) hW9;have hav:Av (vw h) vl:=fun b hb=>by
  cases hx:vw h b with
  | none=>rfl
  | some o=>have:=(View.le_trans m1.old hW1) _ _ hx;rw[k8.avl b hb]at this;cases this
 simp[hc9];exact hK _ _ ⟨hle9,o9.fresh (fun _ _ h=>by cases h) hav⟩
def jN (f:Nat->List Int) (n:Nat):List (Int × Int):=(List.range n).flatMap fun a=>(f a).map fun b=>((a:Int),b)
theorem jl{f:Nat->List Int}:jN f (n+1)=jN f n++(f n).map fun b=>((n:Int),b):=by simp[jN,MM]
theorem Di{f:Nat->List Int}{m:Nat}(h:n<=m): ∃t,jN f m=jN f n++t:=by
 induction m with
 | zero=>exact⟨[],by simp[show n=0 by omega]⟩
 | succ m ih=>
  rcases KB n (m+1)with h1 | h1
  ·obtain⟨t,ht⟩:=ih (by omega);exact⟨t++(f m).map fun b=>((m:Int),b),by rw[jl,ht,KL]⟩
  exact⟨[],by simp[show n=m+1 by omega]⟩
theorem C9{f:Nat->List Int}{a j:Nat}(ha:a<n)(hj:j<(f a).length):(jN f n)[(jN f a).length+j]? = some ((a:Int),nth (f a) j):=by obtain⟨t,ht⟩:=Di (f:=f) (n:=a+1) (m:=n) (by omega);rw[ht,jl,KL,List.getElem?_append_right (by omega),NX,NO (by simpa using hj)];simp[az hj,hj]
def iQ (g:Gr):List (Int × Int):=jN (fun a=>nth (dB g) a) g.length
def E5 (e:Int × Int):List Value:=[.int .i64 e.1,.int .i64 e.2]
def xB (g:Gr):List (List Value):=(iQ g).map E5
theorem DJ{h:Heap}:
  aw Tryz.prog N.fV #[vg] h (fun v h'=>v = .func (.func N.cL) #[] #[.pointer (some ⟨h.size,0,none⟩)]/\h'=h.push (.cells vg.cells T.jy)):=by refine ao (args:=[vg]) follows F.fV E.fV (Kw (by kernel_rfl)) fun K hK=>?_;simp[L.fV];refine dy rfl ?_;simp;exact hK _ _ ⟨rfl,rfl⟩
theorem zm{g:Gr}{V:View}{p:Addr}(hg:SlRd V vg g)(hp:aj V p=some vg)(hs:Sm g):Iter Tryz.prog N.cL [.pointer (some p)] V (xB g):=by
 intro l J W h hM hV hVl h0 hround;have hW:=(hM true 0).le h0;refine ao (args:=[.func (.yield l) #[] #[],.pointer (some p)]) follows F.cL E.cL (Kw (by kernel_rfl)) fun K hK=>?_;simp[L.cL,ae (View.le_trans hV hW) hp];refine af (by kernel_rfl) (yS (hg.mono (View.le_trans hV hW)) hs) ?_;rintro vr h1 ⟨W1,m1⟩;have hJ1:=(hM true 0).grown h0 (Kz _) m1.old
 have hr1:=m1.fresh.mono (jj W h h1);have hag : ∀b,b<h.size->grow W h h1 b=W b:=fun b hb=>ir hb;generalize grow W h h1=W2 at hJ1 hr1 hag;have hlen:=hr1.bound
 have hcl:=ig (g:=g);obtain⟨rv,hrv⟩:=hr1.rows;simp[hr1.len];have hall : ∀{a j:Nat},a<(dB g).length->j<(nth (dB g) a).length->(xB g)[(jN (fun a=>nth (dB g) a) a).length+j]? = some [.int .i64 a,.int .i64 (nth (nth (dB g) a) j)]:=by intro a j ha hj;rw[xB,L8,iQ,C9 (f:=fun a=>nth (dB g) a) (by omega) hj];rfl
 refine aJ [0,8,9,10] (fun(_:Unit) k=>[.func (.yield l) #[] #[],vr,.int .i64 (dB g).length,.int .i64 k]) (fun _ k h2=>J true (jN (fun a=>nth (dB g) a) k).length W2 h2) (dB g).length ()
  rfl (by omega) rfl hJ1 (fun _ _=>rfl) (fun v k h1 hk m=>by simp) ?_ ?_
 ·intro _ a h2 hlt hJ2 K2 hK2;have hW2:=(hM _ _).le hJ2;obtain⟨cv,rr⟩:=hrv a hlt;have br:=rr.bound;simp(disch:=omega)[hr1.idx1 rfl,cv _ hW2,rr.len];refine aJ [0,8,9,10,3,15,16,17] (fun(_:Unit) j=>[.func (.yield l) #[] #[],vr,.int .i64 (dB g).length,.int .i64 a,.int .i64 a,rv a,.int .i64 (nth (dB g) a).length,.int .i64 j])
   (fun _ j h3=>J true ((jN (fun a=>nth (dB g) a) a).length+j) W2 h3) (nth (dB g) a).length () rfl (by omega) rfl hJ2 (fun _ _=>rfl) (fun v k h1 hk m=>by simp) ?_ ?_
  ·intro _ j h3 hlt3 hJ3 K3 hK3;have hW3:=(hM _ _).le hJ3;simp(disch:=omega)[rr.idx1 rfl,rr.int hW3];refine DT (ops:=[.tmp 22,.tmp 23]) rfl (by simpa using hround _ _ W2 h3 hag (hall hlt hlt3) hJ3) ?_;rintro b h4 ⟨W4,e1,e2,hJ4⟩;cases b with
   | true=>obtain rfl:=e2 rfl;simp[j0];exact hK3 () _ _ rfl rfl hJ4
   | false=>simp[j0];exact hK _ _ ⟨false,_,W4,fun i hi hne=>by rw[e1 i hne,hag i hi],hJ4,fun h=>by cases h⟩
  intro _ h3 hJ3;simp;refine hK2 () _ _ rfl rfl ?_;rw[jl,KK,LR];exact hJ3
 intro _ h2 hJ2;simp;refine hK _ _ ⟨true,_,W2,fun i hi _=>hag i hi,hJ2,fun _=>?_⟩;rw[xB,LR,iQ,hcl]
def fB (p:Gr) (e:Int × Int):Gr:=p.set e.2.toNat (nth p e.2.toNat++[e.1])
def dE (g:Gr):Gr:=(iQ g).foldl fB (List.replicate g.length [])
theorem s9{β γ:Type}{f:β->γ->β}{l:List γ}{k:Nat}{x:γ}{b:β}(h:l[k]? = some x):(l.take (k+1)).foldl f b=f ((l.take k).foldl f b) x:=by rw[NT,h,MA];rfl
theorem oP{g:Gr}{e:Int × Int}(h:e∈iQ g):(0<=e.1/\e.1<g.length)/\0<=e.2/\e.2<g.length:=by simp only[iQ,jN,List.mem_flatMap,LQ,LF]at h;obtain⟨a,ha,b,hb,rfl⟩:=h;obtain⟨j,hj,rfl⟩:=KV hb;have:=rT a (by rw[ig];exact ha) j hj;rw[ig,az hj]at this;exact⟨⟨by omega,by simp only;omega⟩,this⟩
theorem nr{l:List (Int × Int)}{p:Gr}:(l.foldl fB p).length=p.length:=by
 induction l generalizing p with
 | nil=>rfl
 | cons e l ih=>rw[K1,ih];simp[fB]
theorem zY{l:List (Int × Int)}{p:Gr}{i m:Nat}(hp:(nth p i).length<=m):(nth (l.foldl fB p) i).length<=m+l.length:=by
 induction l generalizing p m with
 | nil=>exact hp
 | cons e l ih=>
  rw[K1];have:=ih (p:=fB p e) (m:=m+1) ?_
  ·simp only[Lw];omega
  unfold fB;rcases KB i p.length with hi | hi
  ·rw[bn hi];split
   ·rename_i h;rw[h];simp;omega
   omega
  rw[de (by simpa using hi)];simp[default]
theorem wy{row:List Int}{n:Int}:(kK row n).length<=row.length:=by have h1:=oe (p:=om row n) (x:=fun i=>nth row i) row.length;have h2:(nQ (sift (om row n) (fun i=>nth row i) row.length)).length=(sift (om row n) (fun i=>nth row i) row.length).length:=List.length_mergeSort _;have h3:=sL (l:=nQ (sift (om row n) (fun i=>nth row i) row.length));rw[kK];omega
theorem Dj{f:Nat->List Int}{m:Nat}(h : ∀a,a<n->(f a).length<=m):(jN f n).length<=n*m:=by
 induction n with
 | zero=>simp[jN]
 | succ n ih=>
  have:=ih fun a ha=>h a (by omega);have:=h n (by omega)
  rw[jl,KK,LR,Lv];omega
theorem Ah{g:Gr}(hs:Sm g):(iQ g).length<=1000000000000:=by
 have h1:=Dj (f:=fun a=>nth (dB g) a) (n:=g.length) (m:=1000000) fun a ha=>by have:=hs.2 a ha;rw[dB,gm ha];exact KU wy this
 have h2:g.length*1000000<=1000000*1000000:=KX _ hs.1;rw[iQ];omega
theorem yK{g:Gr}{h:Heap}(hg:SlRd (vw h) vg g)(hs:Sm g):
  aw Tryz.prog N.fQ #[vg] h (fun v h'=>(vw h).le (vw h')/\SlRd (fresh h h') v (dE g)):=by
 refine y9 (args:=[vg]) follows F.fQ E.fQ (Kw (by kernel_rfl)) fun K hK=>?_;have hs1:=hs.1;have hel:=Ah hs;simp[L.fQ,hg.len];refine Ee (n:=g.length) El.jy (by simp<;>rfl) (by simp<;>rfl) rfl (by omega) (by omega) ?_;refine rV (z:=.slice none 0 0) (v:=.slice (some ⟨h.size,0,none⟩) g.length g.length) (by kernel_rfl) rfl (by kernel_rfl) rfl rfl (fun _=>by simp) (fun _=>by simp) fun h2 hle2 hsz2 hB2=>?_;have hle02:(vw h).le (vw h2):=View.le_trans (bM _ _) hle2
 have hg2:h2[h.size]? = some (.cells (List.replicate g.length (.slice none 0 0)).toArray T.aP (0,0)):=hle2 _ _ (show(h.push _)[h.size]? = _ by simp);simp at hsz2 hB2;simp;refine af (by kernel_rfl) DJ ?_;rintro _ _ ⟨rfl,rfl⟩;have hgc:=hg.cells.1;rw[hgc];have hle3:=bM h2 (.cells #[vg] T.jy);generalize hh3:h2.push (.cells #[vg] T.jy)=h3 at hle3;have hsz3:h3.size=h.size+3:=by rw[<-hh3];simp[hsz2]
 obtain⟨W0,hW0⟩ : ∃W:View,W=fun b=>if b=h.size then none else h3[b]?:=⟨_,rfl⟩;have hW0le:W0.le (vw h3):=fun b o hb=>by
  rw[hW0]at hb;simp only at hb;split at hb
  ·cases hb
  exact hb
 have h0W:(vw h).le W0:=fun b o hb=>by have hlt:=View.lt (View.le_refl (vw h)) hb;rw[hW0];simp only;rw[if_neg (by omega)];exact View.le_trans hle02 hle3 b o hb
 have hp3:aj W0 ⟨h2.size,0,none⟩=some vg:=by
  have e:W0 h2.size=some (.cells #[vg] T.jy (0,0)):=by rw[hW0];simp only;rw[if_neg (by omega),<-hh3];simp
  simp[aj,e]
 have hB3:W0 (h.size+1)=some (.cells #[.slice (some ⟨h.size,0,none⟩) g.length g.length] T.jy (0,0)):=by rw[hW0];simp only;rw[if_neg (by omega)];exact hle3 _ _ hB2
 refine Ad (enc:=E5) (all:=iQ g) (gf:=N.cL) (caps:=[.pointer (some ⟨h2.size,0,none⟩)]) W0 W0 (fun e k W h'=>e=none/\∃rv,Rw W h' T.aP T.int h.size rv (((iQ g).take k).foldl fB (List.replicate g.length [])))
  rfl (by kernel_rfl) (zm (hg.mono h0W) hp3 hs) (fun _=>rfl) (View.le_refl _) (fun e k=>⟨fun⟨_,rv,r⟩=>r.wle,fun⟨a,rv,r⟩ _ h1 h2 _=>⟨a,rv,r.move h1 h2⟩⟩) ⟨rfl,_,Rw.start hW0le (by rw[hW0];simp) (hle3 _ _ hg2)⟩
  (fun x h1=>by simp[E5,dD];rfl) ?_ ?_ ?_
 ·rintro k e W h1 hag hk ⟨_,rv,r⟩ K2 hK2 _;have he:=oP (Lm hk);have hk1:k<(iQ g).length:=(MY.1 hk).1;have hst:=s9 (f:=fB) (b:=List.replicate g.length []) hk;have hpl:=nr (l:=(iQ g).take k) (p:=List.replicate g.length []);have hrl:=zY (l:=(iQ g).take k) (p:=List.replicate g.length []) (i:=e.2.toNat) (m:=0) (by rw[aB (by omega)];simp);rw[Lp]at hrl;rw[Ls]at hpl;generalize hp:((iQ g).take k).foldl fB (List.replicate g.length [])=p at r hst hpl hrl;have hlt:=r.lt;have hB1:h1[h.size+1]? = some (.cells #[.slice (some ⟨h.size,0,none⟩) g.length g.length] T.jy (0,0)):=r.wle _ _ (by rw[hag _ (by omega)];exact hB3);have hlt1:=(KC.1 hB1).1;obtain⟨H,hH⟩ : ∃H:View,H=fun b=>if b=h.size\/b=h.size+1 then h1[b]? else none:=⟨_,rfl⟩;have hHle:H.le (vw h1):=fun b o hb=>by
   rw[hH]at hb;simp only at hb;split at hb
   ·exact hb
   cases hb
  have c1:aj H ⟨h.size+1,0,none⟩=some (.slice (some ⟨h.size,0,none⟩) g.length g.length):=dc (by rw[hH];simp only;rw[if_pos (by simp)];exact hB1) rfl;have hlen:=r.len;have c2:aj H ⟨h.size,e.2.toNat,none⟩=some (nth rv e.2.toNat):=dc (by rw[hH];simp only;rw[if_pos (by simp)];exact r.blk) (by rw[az (by omega)];simp);refine aS H hHle ?_;simp(disch:=omega)[c1,c2,Gv];refine mb (α:=Int) (W:=nothing) El.aP (by simp<;>rfl) (nY (by omega) (by omega)) fun u h4 hsrc hle4 _=>⟨View.le_trans hHle hle4,?_⟩;have r4:=r.ext hle4
  have hi:e.2.toNat<p.length:=by omega
  refine eu El.aP (by simp) (by simp) (r4.own _ hi) hsrc (by simp;omega) (by simp;omega) fun v' h5 o5 m5=>?_;have hg5:h5[h.size]? = some (.cells rv.toArray T.aP (0,0)):=by rw[m5.kept.block _ r4.lt (fun e=>r4.ng _ hi e.symm)];exact r4.blk
  obtain⟨hcells,hone⟩:=kQ o5;have hH5:H.le (vw h5):=by
   intro b o hb;have hlt4:=View.lt (View.le_trans hHle hle4) hb;have h4b:=View.le_trans hHle hle4 b o hb;show h5[b]? = _;rw[m5.kept.block b hlt4 ?_]
   ·exact h4b
   rw[hH]at hb;simp only at hb;split at hb
   ·rename_i e1;rcases e1 with rfl | rfl
    ·exact fun e=>r4.ng _ hi e.symm
    intro e;have:=r4.av _ hi _ e.symm;rw[hag _ (by omega),hB3]at this;cases this
   cases hb
  refine⟨hH5,?_⟩;refine eX (g:=h.size) (o:=e.2.toNat) (n:=1) (v:=v') (by kernel_rfl) (by simp) (by simp) (by rw[hcells];rfl) (by rw[hcells];simpa using hone) hg5 (by simp;omega) fun h6 hsz6 ⟨row,hrow,hre⟩ hoth=>?_;refine hK2 _ _ ⟨rfl,rv.set e.2.toNat v',?_⟩;rw[hst,fB];have hrow2:row=(rv.set e.2.toNat v').toArray:=by rw[<-Array.toList_inj,hre,hcells,Nh,if_pos (by omega)];simp
  rw[hrow2]at hrow;exact r4.put hi o5 m5 hrow hoth hsz6
 ·rintro W h1 hag ⟨_,rv,r⟩;rw[KG (Kz _)]at r;have hB1:h1[h.size+1]? = some (.cells #[.slice (some ⟨h.size,0,none⟩) g.length g.length] T.jy (0,0)):=r.wle _ _ (by rw[hag _ (by omega)];exact hB3);have c1:aj (vw h1) ⟨h.size+1,0,none⟩=some (.slice (some ⟨h.size,0,none⟩) g.length g.length):=dc hB1 rfl;simp[c1];intro h4 hsw;have hWW:(vw h).le W:=fun b o hb=>by rw[hag b (by have:=View.lt (View.le_refl (vw h)) hb;omega)];exact h0W b o hb
  have hfl:=nr (l:=iQ g) (p:=List.replicate g.length []);rw[Ls]at hfl;have hfr:=r.fresh hWW (by omega);rw[hfl]at hfr;exact⟨_,rfl,hK _ _ ⟨hsw.ext (View.le_trans hWW r.wle),hsw.rd hfr⟩⟩
 rintro e k W h1 hag ⟨hne,_⟩;cases hne
def fK (n:Nat) (order:List Int):List Int:=up (fun i l=>l.set (nth order i).toNat (i:Int)) order.length (List.replicate n (-1))
def bstS (out number:List Int) (n:Nat):List Int->Int->Option Int
 | [],best=>some best
 | a::l,best=>
  if 0<=a/\a<n then
   if nth number a.toNat<0\/(a≠0/\nth out a.toNat<0) then bstS out number n l best
   else if best<0 then bstS out number n l a
   else(kg out number (2*n+2) best a).bind (bstS out number n l)
  else none
def setS (out:List Int) (ch:Bool) (b best:Int):List Int × Bool:=if nth out b.toNat≠best then(out.set b.toNat best,true) else(out,ch)
def qf (number:List Int) (preds:Gr) (n:Nat):List Int->List Int × Bool->Option (List Int × Bool)
 | [],s=>some s
 | b::l,s=>
  if 0<=b/\b<n then(bstS s.1 number n (nth preds b.toNat) (-1)).bind fun best=>qf number preds n l (setS s.1 s.2 b best)
  else none
def mq (number:List Int) (preds:Gr) (n:Nat) (tail:List Int):Nat->List Int->Option (List Int)
 | 0,_=>none
 | m+1,out=>(qf number preds n tail (out,false)).bind fun s=>if s.2 then mq number preds n tail m s.1 else some s.1
def vY (g:Gr) (fuel:Nat):Option (List Int):=
 mq (fK g.length (bf g)) (dE g) g.length ((bf g).drop (min 1 (bf g).length)) fuel (List.replicate g.length (-1))
theorem iS {out number:List Int} {c:Int} : ∀{k:Nat} {x y:Int},kg out number k x y=some c->0<=c/\c<number.length
 | 0,x,y,h=>by cases h
 | k+1,x,y,h=>by
  rw[kg]at h;split at h;case isFalse=>cases h
  rename_i hr;split at h
  ·exact iS h
  split at h
  ·exact iS h
  cases h;omega
theorem AQ{out:List Int}: ∀{l:List Int} {best r:Int},(-1<=best/\best<n)->out.length=n->number.length=n->(∀i,i<n->-1<=nth out i/\nth out i<n)->bstS out number n l best=some r->-1<=r/\r<n:=by
 intro l;induction l with
 | nil=>intro best r hb _ _ _ h;simp only[bstS,Kx]at h;subst h;exact hb
 | cons a l ih=>
  intro best r hb h1 h2 h3 h;rw[bstS]at h;split at h;case isFalse=>cases h
  rename_i ha;split at h
  ·exact ih hb h1 h2 h3 h
  split at h
  ·exact ih ⟨by omega,by omega⟩ h1 h2 h3 h
  simp only[KH]at h;obtain⟨c,hc,h⟩:=h;refine ih ?_ h1 h2 h3 h;have:=iS hc;omega
structure OvOk (m M:Nat) (s:List Bool × List Int):Prop where
 len:s.1.length=m
 cnt:s.2.length+dA s.1<=M
 rng : ∀x∈s.2,0<=x/\x<m
theorem Ac {nx:Int->List Int} {m:Nat} (hnx : ∀a:Int,0<=a->a<m->∀i,i<(nx a).length->0<=nth (nx a) i/\nth (nx a) i<m) : ∀(n M:Nat) (a:Int) (s:List Bool × List Int),0<=a->a<m->nth s.1 a.toNat=false->OvOk m M s->OvOk m M (jq nx n a s)
 | 0,_,_,_,_,_,_,h=>h
 | n+1,M,a,s,h0,h1,hf,h=>by
  rw[jO];have hlen:=h.len;have hfs:=jg (t:=s.1) (i:=a.toNat) (by omega) hf;have hc:=h.cnt;have hup : ∀k,k<=(nx a).length->OvOk m (M-1) (up (cU nx n a) k (s.1.set a.toNat true,s.2)):=by
   intro k;induction k with
   | zero=>exact fun _=>⟨by simpa[up]using hlen,by simp only[up];omega,h.rng⟩
   | succ k ih=>
    intro hk;have:=ih (by omega);rw[up];generalize up (cU nx n a) k (s.1.set a.toNat true,s.2)=z at this;unfold cU;split
    ·exact this
    rename_i hz;obtain⟨e0,e1⟩:=hnx a h0 h1 k (by omega);exact Ac hnx n (M-1) _ z e0 e1 (by simpa using hz) this
  have:=hup _ (Kz _);exact⟨this.len,by have:=this.cnt;simp;omega,fun x hx=>by
   rcases KD.1 hx with hx | hx
   ·exact this.rng x hx
   simp only[KF]at hx;subst hx;exact⟨h0,h1⟩⟩
theorem wE{nx:Int->List Int}{m:Nat}(hnx : ∀a:Int,0<=a->a<m->∀i,i<(nx a).length->0<=nth (nx a) i/\nth (nx a) i<m):(kH nx m).length<=m/\∀x∈kH nx m,0<=x/\x<m:=by
 unfold kH;split
 ·simp
 rename_i h0;have:=Ac hnx m m 0 (List.replicate m false,[]) (by omega) (by omega) (aB (by simp;omega)) ⟨by simp,by simp[dA],by simp⟩;refine⟨?_,fun x hx=>this.rng x (by simpa using hx)⟩;have:=this.cnt;simp;omega
theorem Hq{g:Gr}: ∀a:Int,0<=a->a<(g.length:Int)->∀i,i<(nx (dB g) a).length->0<=nth (nx (dB g) a) i/\nth (nx (dB g) a) i<g.length:=by intro a h0 h1 i hi;have:=rT a.toNat (by rw[ig];omega) i hi;rwa [ig]at this
theorem Cw{g:Gr}{i:Nat}(hi:i<(bf g).length):0<=nth (bf g) i/\nth (bf g) i<g.length:=
 (wE Hq).2 _ (cj hi)
theorem pI{g:Gr}:(bf g).length<=g.length:=(wE Hq).1
theorem rG{g:Gr}: ∀{l:List (Int × Int)} {p:Gr},(∀e∈l,0<=e.1/\e.1<g.length)->(∀i,∀x∈nth p i,0<=x/\x<g.length)->∀i,∀x∈nth (l.foldl fB p) i,0<=x/\x<g.length:=by
 intro l;induction l with
 | nil=>exact fun _ h=>h
 | cons e l ih=>
  intro p hl hp;rw[K1];refine ih (fun e' he'=>hl e' (KJ _ he')) fun i x hx=>?_;unfold fB at hx;rcases KB i p.length with hi | hi
  ·rw[bn hi]at hx;split at hx
   ·rcases KD.1 hx with hx | hx
    ·exact hp _ x hx
    simp only[KF]at hx;subst hx;exact hl e (KI ..)
   exact hp _ x hx
  rw[de (by simpa using hi)]at hx;cases hx
end Go.Proofs.YtnfiilgdjpdlkaaGreatDoor
