/- A part of the proof: Li, Lj, Lk, Ll, Shelf, Wk, Wl, Wm, Wn, Wo, Wq, Wr, Ws, Wt, Ha, Hb, Hc, Pa, Pb, Pd, Pc, Pe, Pf. -/
import Derived.Test.YtnfiilgdjpdlkaaGreatDoorZTMany1
import Derived.Test.YtnfiilgdjpdlkaaGreatDoorProg
import Derived.KernelRfl
import Derived.Shelf.Small.Bits
import Derived.Shelf.Small.Wraps
import Derived.Shelf.Strconv.Itoa0
import Derived.Shelf.Sort.Plain
import Derived.Shelf.Slices.Turned
import Derived.Shelf.Slices.Reverse
import Derived.Ground.Names2Prog
import Derived.Shelf.Slices.CompactI
import Derived.Shelf.Slices.SearchI
import Derived.Shelf.Slices.Cells
import Derived.Shelf.Slices.In.SortNone
set_option linter.unusedSimpArgs false
set_option linter.unusedVariables false
namespace Go.Proofs.YtnfiilgdjpdlkaaGreatDoor
open Go Go.Lft
section
set_option maxRecDepth 100000
abbrev N.aN:Nat:=108
def L.aN:LFn:=by apply(fun{b:LFn}(_:b=⟨[.un (.ak 8) (t 6),t 7],q [.reg false (p [] (.alloc 101) 0 6 (.fin [7] [(7,.con (.bool false))] [])),.reg true (.loud [13,14,15,16,17,18,19] [] [(13,.un (.ak 13) (t 0)),(17,d (i 1 (g 3 (t 1)) (c 1))),(18,d (t 2)),(19,d (t 3))] none [] true (x 109 [13,17,18,19] [97,3,3,3]) 167 (some 20) true (.fin [12,21,22,8,9] [(8,.un (.ext 0) (t 20)),(9,.un (.ext 1) (t 20))] [])),.reg true (.both (l [24,25,26,27,28,29,30,31,32,33,34,36,37,38,39,41,42,43,44] [(39,d (i 1 (g 3 (t 1)) (c 0))),(44,d (i 1 (g 3 (t 1)) (c 1)))] [(24,d (t 4)),(26,g 1 (t 1)),(30,d (i 1 (g 3 (t 1)) (c 0))),(34,.un (.conv .i32) (.bin (.arith .mul) (d (t 5)) (t 8)))] (.build 80 #[(0,a 24),(1,a 26),(3,a 30),(6,a 34)]) 80 35 (.both (p (w [39]) (.buildSlice 22 1 #[(0,a 39)]) 22 40 (.both (p (w [44]) (.buildSlice 22 1 #[(0,a 44)]) 22 45 (.both (.loud [] [] (w [35,40,45]) none [] true (x 104 [35,40,45] [80,22,22]) 102 (some 46) true (l [23,47,48] [(47,.un (.ext 0) (t 46)),(48,.un (.ext 1) (t 46))] [] (.alloc 101) 0 10 (s [] [] (w [10,47]) (.store 101 (a 10) (a 47)) (.fin [11] [] [t 48])))) (p [] (.alloc 101) 0 10 (.loud [] [] (w [35,40,45]) none [] true (x 104 [35,40,45] [80,22,22]) 102 (some 46) true (s [23,47,48] [(48,.un (.ext 1) (t 46))] [(10,t 10),(47,.un (.ext 0) (t 46))] (.store 101 (a 10) (a 47)) (.fin [11] [] [t 48])))))) (p [] (.alloc 101) 0 10 (p (w [44]) (.buildSlice 22 1 #[(0,a 44)]) 22 45 (.loud [] [] (w [35,40,45]) none [] true (x 104 [35,40,45] [80,22,22]) 102 (some 46) true (s [23,47,48] [(48,.un (.ext 1) (t 46))] [(10,t 10),(47,.un (.ext 0) (t 46))] (.store 101 (a 10) (a 47)) (.fin [11] [] [t 48]))))))) (.both (p (w [44]) (.buildSlice 22 1 #[(0,a 44)]) 22 45 (.both (p (w [39]) (.buildSlice 22 1 #[(0,a 39)]) 22 40 (.both (.loud [] [] (w [35,40,45]) none [] true (x 104 [35,40,45] [80,22,22]) 102 (some 46) true (l [23,47,48] [(47,.un (.ext 0) (t 46)),(48,.un (.ext 1) (t 46))] [] (.alloc 101) 0 10 (s [] [] (w [10,47]) (.store 101 (a 10) (a 47)) (.fin [11] [] [t 48])))) (p [] (.alloc 101) 0 10 (.loud [] [] (w [35,40,45]) none [] true (x 104 [35,40,45] [80,22,22]) 102 (some 46) true (s [23,47,48] [(48,.un (.ext 1) (t 46))] [(10,t 10),(47,.un (.ext 0) (t 46))] (.store 101 (a 10) (a 47)) (.fin [11] [] [t 48])))))) (p [] (.alloc 101) 0 10 (p (w [39]) (.buildSlice 22 1 #[(0,a 39)]) 22 40 (.loud [] [] (w [35,40,45]) none [] true (x 104 [35,40,45] [80,22,22]) 102 (some 46) true (s [23,47,48] [(48,.un (.ext 1) (t 46))] [(10,t 10),(47,.un (.ext 0) (t 46))] (.store 101 (a 10) (a 47)) (.fin [11] [] [t 48]))))))) (p [] (.alloc 101) 0 10 (.both (p (w [39]) (.buildSlice 22 1 #[(0,a 39)]) 22 40 (p (w [44]) (.buildSlice 22 1 #[(0,a 44)]) 22 45 (.loud [] [] (w [35,40,45]) none [] true (x 104 [35,40,45] [80,22,22]) 102 (some 46) true (s [23,47,48] [(48,.un (.ext 1) (t 46))] [(10,t 10),(47,.un (.ext 0) (t 46))] (.store 101 (a 10) (a 47)) (.fin [11] [] [t 48]))))) (p (w [44]) (.buildSlice 22 1 #[(0,a 44)]) 22 45 (p (w [39]) (.buildSlice 22 1 #[(0,a 39)]) 22 40 (.loud [] [] (w [35,40,45]) none [] true (x 104 [35,40,45] [80,22,22]) 102 (some 46) true (s [23,47,48] [(48,.un (.ext 1) (t 46))] [(10,t 10),(47,.un (.ext 0) (t 46))] (.store 101 (a 10) (a 47)) (.fin [11] [] [t 48])))))))))) (.both (l [24,25,26,27,28,29,30,31,32,33,34,36,37,38,39,41,42,43,44] [(24,d (t 4)),(26,g 1 (t 1)),(30,d (i 1 (g 3 (t 1)) (c 0))),(34,.un (.conv .i32) (.bin (.arith .mul) (d (t 5)) (t 8))),(44,d (i 1 (g 3 (t 1)) (c 1)))] [(39,d (i 1 (g 3 (t 1)) (c 0)))] (.buildSlice 22 1 #[(0,a 39)]) 22 40 (.both (p (w [24,26,30,34]) (.build 80 #[(0,a 24),(1,a 26),(3,a 30),(6,a 34)]) 80 35 (.both (p (w [44]) (.buildSlice 22 1 #[(0,a 44)]) 22 45 (.both (.loud [] [] (w [35,40,45]) none [] true (x 104 [35,40,45] [80,22,22]) 102 (some 46) true (l [23,47,48] [(47,.un (.ext 0) (t 46)),(48,.un (.ext 1) (t 46))] [] (.alloc 101) 0 10 (s [] [] (w [10,47]) (.store 101 (a 10) (a 47)) (.fin [11] [] [t 48])))) (p [] (.alloc 101) 0 10 (.loud [] [] (w [35,40,45]) none [] true (x 104 [35,40,45] [80,22,22]) 102 (some 46) true (s [23,47,48] [(48,.un (.ext 1) (t 46))] [(10,t 10),(47,.un (.ext 0) (t 46))] (.store 101 (a 10) (a 47)) (.fin [11] [] [t 48])))))) (p [] (.alloc 101) 0 10 (p (w [44]) (.buildSlice 22 1 #[(0,a 44)]) 22 45 (.loud [] [] (w [35,40,45]) none [] true (x 104 [35,40,45] [80,22,22]) 102 (some 46) true (s [23,47,48] [(48,.un (.ext 1) (t 46))] [(10,t 10),(47,.un (.ext 0) (t 46))] (.store 101 (a 10) (a 47)) (.fin [11] [] [t 48]))))))) (.both (p (w [44]) (.buildSlice 22 1 #[(0,a 44)]) 22 45 (.both (p (w [24,26,30,34]) (.build 80 #[(0,a 24),(1,a 26),(3,a 30),(6,a 34)]) 80 35 (.both (.loud [] [] (w [35,40,45]) none [] true (x 104 [35,40,45] [80,22,22]) 102 (some 46) true (l [23,47,48] [(47,.un (.ext 0) (t 46)),(48,.un (.ext 1) (t 46))] [] (.alloc 101) 0 10 (s [] [] (w [10,47]) (.store 101 (a 10) (a 47)) (.fin [11] [] [t 48])))) (p [] (.alloc 101) 0 10 (.loud [] [] (w [35,40,45]) none [] true (x 104 [35,40,45] [80,22,22]) 102 (some 46) true (s [23,47,48] [(48,.un (.ext 1) (t 46))] [(10,t 10),(47,.un (.ext 0) (t 46))] (.store 101 (a 10) (a 47)) (.fin [11] [] [t 48])))))) (p [] (.alloc 101) 0 10 (p (w [24,26,30,34]) (.build 80 #[(0,a 24),(1,a 26),(3,a 30),(6,a 34)]) 80 35 (.loud [] [] (w [35,40,45]) none [] true (x 104 [35,40,45] [80,22,22]) 102 (some 46) true (s [23,47,48] [(48,.un (.ext 1) (t 46))] [(10,t 10),(47,.un (.ext 0) (t 46))] (.store 101 (a 10) (a 47)) (.fin [11] [] [t 48]))))))) (p [] (.alloc 101) 0 10 (.both (p (w [24,26,30,34]) (.build 80 #[(0,a 24),(1,a 26),(3,a 30),(6,a 34)]) 80 35 (p (w [44]) (.buildSlice 22 1 #[(0,a 44)]) 22 45 (.loud [] [] (w [35,40,45]) none [] true (x 104 [35,40,45] [80,22,22]) 102 (some 46) true (s [23,47,48] [(48,.un (.ext 1) (t 46))] [(10,t 10),(47,.un (.ext 0) (t 46))] (.store 101 (a 10) (a 47)) (.fin [11] [] [t 48]))))) (p (w [44]) (.buildSlice 22 1 #[(0,a 44)]) 22 45 (p (w [24,26,30,34]) (.build 80 #[(0,a 24),(1,a 26),(3,a 30),(6,a 34)]) 80 35 (.loud [] [] (w [35,40,45]) none [] true (x 104 [35,40,45] [80,22,22]) 102 (some 46) true (s [23,47,48] [(48,.un (.ext 1) (t 46))] [(10,t 10),(47,.un (.ext 0) (t 46))] (.store 101 (a 10) (a 47)) (.fin [11] [] [t 48])))))))))) (.both (l [24,25,26,27,28,29,30,31,32,33,34,36,37,38,39,41,42,43,44] [(24,d (t 4)),(26,g 1 (t 1)),(30,d (i 1 (g 3 (t 1)) (c 0))),(34,.un (.conv .i32) (.bin (.arith .mul) (d (t 5)) (t 8))),(39,d (i 1 (g 3 (t 1)) (c 0)))] [(44,d (i 1 (g 3 (t 1)) (c 1)))] (.buildSlice 22 1 #[(0,a 44)]) 22 45 (.both (p (w [24,26,30,34]) (.build 80 #[(0,a 24),(1,a 26),(3,a 30),(6,a 34)]) 80 35 (.both (p (w [39]) (.buildSlice 22 1 #[(0,a 39)]) 22 40 (.both (.loud [] [] (w [35,40,45]) none [] true (x 104 [35,40,45] [80,22,22]) 102 (some 46) true (l [23,47,48] [(47,.un (.ext 0) (t 46)),(48,.un (.ext 1) (t 46))] [] (.alloc 101) 0 10 (s [] [] (w [10,47]) (.store 101 (a 10) (a 47)) (.fin [11] [] [t 48])))) (p [] (.alloc 101) 0 10 (.loud [] [] (w [35,40,45]) none [] true (x 104 [35,40,45] [80,22,22]) 102 (some 46) true (s [23,47,48] [(48,.un (.ext 1) (t 46))] [(10,t 10),(47,.un (.ext 0) (t 46))] (.store 101 (a 10) (a 47)) (.fin [11] [] [t 48])))))) (p [] (.alloc 101) 0 10 (p (w [39]) (.buildSlice 22 1 #[(0,a 39)]) 22 40 (.loud [] [] (w [35,40,45]) none [] true (x 104 [35,40,45] [80,22,22]) 102 (some 46) true (s [23,47,48] [(48,.un (.ext 1) (t 46))] [(10,t 10),(47,.un (.ext 0) (t 46))] (.store 101 (a 10) (a 47)) (.fin [11] [] [t 48]))))))) (.both (p (w [39]) (.buildSlice 22 1 #[(0,a 39)]) 22 40 (.both (p (w [24,26,30,34]) (.build 80 #[(0,a 24),(1,a 26),(3,a 30),(6,a 34)]) 80 35 (.both (.loud [] [] (w [35,40,45]) none [] true (x 104 [35,40,45] [80,22,22]) 102 (some 46) true (l [23,47,48] [(47,.un (.ext 0) (t 46)),(48,.un (.ext 1) (t 46))] [] (.alloc 101) 0 10 (s [] [] (w [10,47]) (.store 101 (a 10) (a 47)) (.fin [11] [] [t 48])))) (p [] (.alloc 101) 0 10 (.loud [] [] (w [35,40,45]) none [] true (x 104 [35,40,45] [80,22,22]) 102 (some 46) true (s [23,47,48] [(48,.un (.ext 1) (t 46))] [(10,t 10),(47,.un (.ext 0) (t 46))] (.store 101 (a 10) (a 47)) (.fin [11] [] [t 48])))))) (p [] (.alloc 101) 0 10 (p (w [24,26,30,34]) (.build 80 #[(0,a 24),(1,a 26),(3,a 30),(6,a 34)]) 80 35 (.loud [] [] (w [35,40,45]) none [] true (x 104 [35,40,45] [80,22,22]) 102 (some 46) true (s [23,47,48] [(48,.un (.ext 1) (t 46))] [(10,t 10),(47,.un (.ext 0) (t 46))] (.store 101 (a 10) (a 47)) (.fin [11] [] [t 48]))))))) (p [] (.alloc 101) 0 10 (.both (p (w [24,26,30,34]) (.build 80 #[(0,a 24),(1,a 26),(3,a 30),(6,a 34)]) 80 35 (p (w [39]) (.buildSlice 22 1 #[(0,a 39)]) 22 40 (.loud [] [] (w [35,40,45]) none [] true (x 104 [35,40,45] [80,22,22]) 102 (some 46) true (s [23,47,48] [(48,.un (.ext 1) (t 46))] [(10,t 10),(47,.un (.ext 0) (t 46))] (.store 101 (a 10) (a 47)) (.fin [11] [] [t 48]))))) (p (w [39]) (.buildSlice 22 1 #[(0,a 39)]) 22 40 (p (w [24,26,30,34]) (.build 80 #[(0,a 24),(1,a 26),(3,a 30),(6,a 34)]) 80 35 (.loud [] [] (w [35,40,45]) none [] true (x 104 [35,40,45] [80,22,22]) 102 (some 46) true (s [23,47,48] [(48,.un (.ext 1) (t 46))] [(10,t 10),(47,.un (.ext 0) (t 46))] (.store 101 (a 10) (a 47)) (.fin [11] [] [t 48])))))))))) (l [24,25,26,27,28,29,30,31,32,33,34,36,37,38,39,41,42,43,44] [(24,d (t 4)),(26,g 1 (t 1)),(30,d (i 1 (g 3 (t 1)) (c 0))),(34,.un (.conv .i32) (.bin (.arith .mul) (d (t 5)) (t 8))),(39,d (i 1 (g 3 (t 1)) (c 0))),(44,d (i 1 (g 3 (t 1)) (c 1)))] [] (.alloc 101) 0 10 (.both (p (w [24,26,30,34]) (.build 80 #[(0,a 24),(1,a 26),(3,a 30),(6,a 34)]) 80 35 (.both (p (w [39]) (.buildSlice 22 1 #[(0,a 39)]) 22 40 (p (w [44]) (.buildSlice 22 1 #[(0,a 44)]) 22 45 (.loud [] [] (w [35,40,45]) none [] true (x 104 [35,40,45] [80,22,22]) 102 (some 46) true (s [23,47,48] [(48,.un (.ext 1) (t 46))] [(10,t 10),(47,.un (.ext 0) (t 46))] (.store 101 (a 10) (a 47)) (.fin [11] [] [t 48]))))) (p (w [44]) (.buildSlice 22 1 #[(0,a 44)]) 22 45 (p (w [39]) (.buildSlice 22 1 #[(0,a 39)]) 22 40 (.loud [] [] (w [35,40,45]) none [] true (x 104 [35,40,45] [80,22,22]) 102 (some 46) true (s [23,47,48] [(48,.un (.ext 1) (t 46))] [(10,t 10),(47,.un (.ext 0) (t 46))] (.store 101 (a 10) (a 47)) (.fin [11] [] [t 48]))))))) (.both (p (w [39]) (.buildSlice 22 1 #[(0,a 39)]) 22 40 (.both (p (w [24,26,30,34]) (.build 80 #[(0,a 24),(1,a 26),(3,a 30),(6,a 34)]) 80 35 (p (w [44]) (.buildSlice 22 1 #[(0,a 44)]) 22 45 (.loud [] [] (w [35,40,45]) none [] true (x 104 [35,40,45] [80,22,22]) 102 (some 46) true (s [23,47,48] [(48,.un (.ext 1) (t 46))] [(10,t 10),(47,.un (.ext 0) (t 46))] (.store 101 (a 10) (a 47)) (.fin [11] [] [t 48]))))) (p (w [44]) (.buildSlice 22 1 #[(0,a 44)]) 22 45 (p (w [24,26,30,34]) (.build 80 #[(0,a 24),(1,a 26),(3,a 30),(6,a 34)]) 80 35 (.loud [] [] (w [35,40,45]) none [] true (x 104 [35,40,45] [80,22,22]) 102 (some 46) true (s [23,47,48] [(48,.un (.ext 1) (t 46))] [(10,t 10),(47,.un (.ext 0) (t 46))] (.store 101 (a 10) (a 47)) (.fin [11] [] [t 48]))))))) (p (w [44]) (.buildSlice 22 1 #[(0,a 44)]) 22 45 (.both (p (w [24,26,30,34]) (.build 80 #[(0,a 24),(1,a 26),(3,a 30),(6,a 34)]) 80 35 (p (w [39]) (.buildSlice 22 1 #[(0,a 39)]) 22 40 (.loud [] [] (w [35,40,45]) none [] true (x 104 [35,40,45] [80,22,22]) 102 (some 46) true (s [23,47,48] [(48,.un (.ext 1) (t 46))] [(10,t 10),(47,.un (.ext 0) (t 46))] (.store 101 (a 10) (a 47)) (.fin [11] [] [t 48]))))) (p (w [39]) (.buildSlice 22 1 #[(0,a 39)]) 22 40 (p (w [24,26,30,34]) (.build 80 #[(0,a 24),(1,a 26),(3,a 30),(6,a 34)]) 80 35 (.loud [] [] (w [35,40,45]) none [] true (x 104 [35,40,45] [80,22,22]) 102 (some 46) true (s [23,47,48] [(48,.un (.ext 1) (t 46))] [(10,t 10),(47,.un (.ext 0) (t 46))] (.store 101 (a 10) (a 47)) (.fin [11] [] [t 48]))))))))))))),.reg false (s [49,50] [(50,t 9)] [(6,t 6),(49,.un (.ak 8) (t 10))] (.store 101 (a 6) (a 49)) (.fin [7] [(7,t 50)] [])),.ret]⟩)=>b);simp only[sh];rfl
theorem E.aN:aJ Tryz.prog Tryz.f108=some L.aN:=by kernel_rfl
theorem F.aN:Tryz.prog.funcs[N.aN]? = some Tryz.f108:=Tryz.func108
abbrev N.bU:Nat:=109
def L.bU:LFn:=by apply(fun{b:LFn}(_:b=⟨[t 8,t 9],q [.reg false (p (w [0]) (.box 97 (a 0)) 0 4 (.fin [8,9] [(8,c 0),(9,.con (.bool false))] [])),.reg false (l [13,14] [] [(13,.un (.ak 13) (t 4)),(14,t 1)] (.call ⟨.value (.func 100),#[a 13,a 14,.const (.int .i64 1)],#[97,3,3]⟩) 163 15 (l [12,16,17] [(16,.un (.ext 0) (t 15)),(17,.un (.ext 1) (t 15))] [] (.alloc 70) 0 10 (s [] [] (w [10,16]) (.store 70 (a 10) (a 16)) (.fin [11] [(11,t 17)] [])))),.reg true (.loud [18,19,20,21,22,23,24,25,26,27] [(20,.un (.conv .i64) (g 4 (t 10))),(22,t 11)] [(25,.gd (t 11) true (.un (.conv .i64) (g 4 (t 10)))),(26,.gd (t 11) true (t 2)),(27,.gd (t 11) true (t 3))] (some (t 11,true)) [] false (x 42 [25,26,27] [3,3,3]) 4 (some 28) true (.fin [29,8,9] [(8,t 20),(9,.ite (t 22) (t 28) (.con (.bool false)))] [])),.ret]⟩)=>b);simp only[sh];rfl
theorem E.bU:aJ Tryz.prog Tryz.f109=some L.bU:=by kernel_rfl
theorem F.bU:Tryz.prog.funcs[N.bU]? = some Tryz.f109:=Tryz.func109
abbrev N.bg:Nat:=110
def L.bg:LFn:=by apply(fun{b:LFn}(_:b=⟨[.un (.ak 8) (t 3),t 4],q [.reg false (p [] (.alloc 101) 0 3 (.fin [4] [(4,.con (.bool false))] [])),.reg false (l [8] [] [(8,.un (.ak 13) (t 0))] (.makeFunc (.func 100) #[a 8] #[]) 170 9 (.fin [5] [(5,t 9)] [])),.reg false (l [11,12,13,14,15] [] [(11,t 5),(15,d (i 1 (g 3 (t 1)) (c 0)))] (.call ⟨.value (a 11),#[a 15,.const (.int .i64 4)],#[3,3]⟩) 163 16 (l [10,17,18] [(17,.un (.ext 0) (t 16)),(18,.un (.ext 1) (t 16))] [] (.alloc 70) 0 6 (s [] [] (w [6,17]) (.store 70 (a 6) (a 17)) (.fin [7] [(7,t 18)] [])))),q [k [19,20] [(20,.un .not (t 7))],u 20 (q [.reg false (l [21] [] [(21,d (t 2))] (.call ⟨.value (a 21),#[],#[]⟩) 102 22 (s [23,24] [(24,.un (.ext 1) (t 22))] [(3,t 3),(23,.un (.ext 0) (t 22))] (.store 101 (a 3) (a 23)) (.fin [4] [(4,t 24)] []))),.ret]) .skip],.reg true (.both (l [25,26,27,28,29,30,31,32,33,34,35,36,37,38,40,41,42,43,44,45,46,47,48,49,50,51,53,54,55,56] [(43,d (i 1 (g 3 (t 6)) (c 0))),(47,d (i 1 (g 3 (t 6)) (c 1))),(51,d (i 1 (g 3 (t 1)) (c 1))),(56,d (i 1 (g 3 (t 1)) (c 0)))] [(26,g 1 (t 1)),(30,d (i 1 (g 3 (t 6)) (c 0))),(34,d (i 1 (g 3 (t 6)) (c 1))),(38,d (i 1 (g 3 (t 1)) (c 1)))] (.build 80 #[(0,.const (.int .i64 23)),(1,a 26),(3,a 30),(4,a 34),(5,a 38)]) 80 39 (.both (p (w [43,47,51]) (.buildSlice 22 3 #[(0,a 43),(1,a 47),(2,a 51)]) 22 52 (p (w [56]) (.buildSlice 22 1 #[(0,a 56)]) 22 57 (.loud [] [] (w [39,52,57]) none [] true (x 104 [39,52,57] [80,22,22]) 102 (some 58) true (s [59,60] [(60,.un (.ext 1) (t 58))] [(3,t 3),(59,.un (.ext 0) (t 58))] (.store 101 (a 3) (a 59)) (.fin [4] [(4,t 60)] []))))) (p (w [56]) (.buildSlice 22 1 #[(0,a 56)]) 22 57 (p (w [43,47,51]) (.buildSlice 22 3 #[(0,a 43),(1,a 47),(2,a 51)]) 22 52 (.loud [] [] (w [39,52,57]) none [] true (x 104 [39,52,57] [80,22,22]) 102 (some 58) true (s [59,60] [(60,.un (.ext 1) (t 58))] [(3,t 3),(59,.un (.ext 0) (t 58))] (.store 101 (a 3) (a 59)) (.fin [4] [(4,t 60)] []))))))) (.both (l [25,26,27,28,29,30,31,32,33,34,35,36,37,38,40,41,42,43,44,45,46,47,48,49,50,51,53,54,55,56] [(26,g 1 (t 1)),(30,d (i 1 (g 3 (t 6)) (c 0))),(34,d (i 1 (g 3 (t 6)) (c 1))),(38,d (i 1 (g 3 (t 1)) (c 1))),(56,d (i 1 (g 3 (t 1)) (c 0)))] [(43,d (i 1 (g 3 (t 6)) (c 0))),(47,d (i 1 (g 3 (t 6)) (c 1))),(51,d (i 1 (g 3 (t 1)) (c 1)))] (.buildSlice 22 3 #[(0,a 43),(1,a 47),(2,a 51)]) 22 52 (.both (p (w [26,30,34,38]) (.build 80 #[(0,.const (.int .i64 23)),(1,a 26),(3,a 30),(4,a 34),(5,a 38)]) 80 39 (p (w [56]) (.buildSlice 22 1 #[(0,a 56)]) 22 57 (.loud [] [] (w [39,52,57]) none [] true (x 104 [39,52,57] [80,22,22]) 102 (some 58) true (s [59,60] [(60,.un (.ext 1) (t 58))] [(3,t 3),(59,.un (.ext 0) (t 58))] (.store 101 (a 3) (a 59)) (.fin [4] [(4,t 60)] []))))) (p (w [56]) (.buildSlice 22 1 #[(0,a 56)]) 22 57 (p (w [26,30,34,38]) (.build 80 #[(0,.const (.int .i64 23)),(1,a 26),(3,a 30),(4,a 34),(5,a 38)]) 80 39 (.loud [] [] (w [39,52,57]) none [] true (x 104 [39,52,57] [80,22,22]) 102 (some 58) true (s [59,60] [(60,.un (.ext 1) (t 58))] [(3,t 3),(59,.un (.ext 0) (t 58))] (.store 101 (a 3) (a 59)) (.fin [4] [(4,t 60)] []))))))) (l [25,26,27,28,29,30,31,32,33,34,35,36,37,38,40,41,42,43,44,45,46,47,48,49,50,51,53,54,55,56] [(26,g 1 (t 1)),(30,d (i 1 (g 3 (t 6)) (c 0))),(34,d (i 1 (g 3 (t 6)) (c 1))),(38,d (i 1 (g 3 (t 1)) (c 1))),(43,d (i 1 (g 3 (t 6)) (c 0))),(47,d (i 1 (g 3 (t 6)) (c 1))),(51,d (i 1 (g 3 (t 1)) (c 1)))] [(56,d (i 1 (g 3 (t 1)) (c 0)))] (.buildSlice 22 1 #[(0,a 56)]) 22 57 (.both (p (w [26,30,34,38]) (.build 80 #[(0,.const (.int .i64 23)),(1,a 26),(3,a 30),(4,a 34),(5,a 38)]) 80 39 (p (w [43,47,51]) (.buildSlice 22 3 #[(0,a 43),(1,a 47),(2,a 51)]) 22 52 (.loud [] [] (w [39,52,57]) none [] true (x 104 [39,52,57] [80,22,22]) 102 (some 58) true (s [59,60] [(60,.un (.ext 1) (t 58))] [(3,t 3),(59,.un (.ext 0) (t 58))] (.store 101 (a 3) (a 59)) (.fin [4] [(4,t 60)] []))))) (p (w [43,47,51]) (.buildSlice 22 3 #[(0,a 43),(1,a 47),(2,a 51)]) 22 52 (p (w [26,30,34,38]) (.build 80 #[(0,.const (.int .i64 23)),(1,a 26),(3,a 30),(4,a 34),(5,a 38)]) 80 39 (.loud [] [] (w [39,52,57]) none [] true (x 104 [39,52,57] [80,22,22]) 102 (some 58) true (s [59,60] [(60,.un (.ext 1) (t 58))] [(3,t 3),(59,.un (.ext 0) (t 58))] (.store 101 (a 3) (a 59)) (.fin [4] [(4,t 60)] []))))))))),.ret]⟩)=>b);simp only[sh];rfl
theorem E.bg:aJ Tryz.prog Tryz.f110=some L.bg:=by kernel_rfl
theorem F.bg:Tryz.prog.funcs[N.bg]? = some Tryz.f110:=Tryz.func110
abbrev N.cw:Nat:=111
def L.cw:LFn:=by apply(fun{b:LFn}(_:b=⟨[],q [.reg false (p (w [0]) (.box 97 (a 0)) 0 6 (p (w [3]) (.box 3 (a 3)) 0 9 (p (w [4]) (.box 3 (a 4)) 0 10 (p (w [5]) (.box 3 (a 5)) 0 11 z)))),.reg false (l [15,16] [(16,.un (.ak 5) (e 2 (t 6)))] [] (.alloc 70) 0 12 (s [] [] (w [12,16]) (.store 70 (a 12) (a 16)) z)),.reg false (l [17] [(17,.un (.fn 130) (.snoc (.snoc (.snoc (.con (.tuple #[])) (t 9)) (t 12)) (t 10)))] [] (.alloc 199) 0 13 (s [] [] (w [13,17]) (.store 199 (a 13) (a 17)) z)),.reg false (l [18] [(18,.un (.fn 131) (.snoc (.con (.tuple #[])) (t 12)))] [] (.alloc 200) 0 14 (s [] [] (w [14,18]) (.store 200 (a 14) (a 18)) z)),.reg false (.loud [19,20,21,22] [] [(19,t 1),(20,d (t 9)),(21,t 2),(22,.un (.fn 132) (.snoc (.snoc (.snoc (.snoc (.con (.tuple #[])) (t 13)) (t 10)) (t 12)) (t 14)))] none [] false (.call ⟨.value (a 19),#[a 20,a 21,a 22],#[3,3,136]⟩) 0 (some 23) false z),.reg false (.loud [24,25,26,27,28] [] [(24,t 1),(25,d (t 9)),(27,o (t 2) (c 1)),(28,.un (.fn 133) (.snoc (.snoc (.snoc (.snoc (.snoc (.con (.tuple #[])) (t 6)) (t 12)) (t 13)) (t 10)) (t 14)))] none [] false (.call ⟨.value (a 24),#[a 25,a 27,a 28],#[3,3,136]⟩) 0 (some 29) false z),.reg false (.loud [30,31,32,33,34] [] [(30,t 1),(31,d (t 9)),(33,o (t 2) (c 2)),(34,.un (.fn 134) (.snoc (.snoc (.snoc (.snoc (.snoc (.con (.tuple #[])) (t 6)) (t 12)) (t 13)) (t 11)) (t 14)))] none [] false (.call ⟨.value (a 30),#[a 31,a 33,a 34],#[3,3,136]⟩) 0 (some 35) false z),.reg false (.loud [36,37,38,39,40] [] [(36,t 1),(37,d (t 9)),(39,o (t 2) (c 3)),(40,.un (.fn 135) (.snoc (.snoc (.snoc (.snoc (.snoc (.con (.tuple #[])) (t 6)) (t 12)) (t 14)) (t 13)) (t 11)))] none [] false (.call ⟨.value (a 36),#[a 37,a 39,a 40],#[3,3,136]⟩) 0 (some 41) false z)]⟩)=>b);simp only[sh];rfl
theorem E.cw:aJ Tryz.prog Tryz.f111=some L.cw:=by kernel_rfl
theorem F.cw:Tryz.prog.funcs[N.cw]? = some Tryz.f111:=Tryz.func111
abbrev N.bs:Nat:=112
def L.bs:LFn:=by apply(fun{b:LFn}(_:b=⟨[.un (.ak 8) (t 1),t 2],q [.reg false (p [] (.alloc 101) 0 1 (.fin [2] [(2,.con (.bool false))] [])),.reg true (l [3,4,5,6,7,8,11,12] [(4,g 1 (t 0)),(6,g 4 (t 0)),(12,g 3 (t 0))] [(8,g 3 (t 0))] (x 99 [8] [22]) 22 9 (.both (p (w [4,6,9]) (.build 80 #[(0,.const (.int .i64 28)),(1,a 4),(6,a 6),(7,a 9)]) 80 10 (p (w [12]) (x 99 [12] [22]) 22 13 (.loud [] [] (w [10,13]) none [] true (.call ⟨.value (.func 104),#[a 10,a 13,.const (.slice none 0 0)],#[80,22,22]⟩) 102 (some 14) true (s [15,16] [(16,.un (.ext 1) (t 14))] [(1,t 1),(15,.un (.ext 0) (t 14))] (.store 101 (a 1) (a 15)) (.fin [2] [(2,t 16)] []))))) (p (w [12]) (x 99 [12] [22]) 22 13 (p (w [4,6,9]) (.build 80 #[(0,.const (.int .i64 28)),(1,a 4),(6,a 6),(7,a 9)]) 80 10 (.loud [] [] (w [10,13]) none [] true (.call ⟨.value (.func 104),#[a 10,a 13,.const (.slice none 0 0)],#[80,22,22]⟩) 102 (some 14) true (s [15,16] [(16,.un (.ext 1) (t 14))] [(1,t 1),(15,.un (.ext 0) (t 14))] (.store 101 (a 1) (a 15)) (.fin [2] [(2,t 16)] []))))))),.ret]⟩)=>b);simp only[sh];rfl
theorem E.bs:aJ Tryz.prog Tryz.f112=some L.bs:=by kernel_rfl
theorem F.bs:Tryz.prog.funcs[N.bs]? = some Tryz.f112:=Tryz.func112
abbrev N.bc:Nat:=113
def L.bc:LFn:=by apply(fun{b:LFn}(_:b=⟨[.un (.ak 8) (t 1),t 2],q [.reg false (p [] (.alloc 101) 0 1 (.fin [2] [(2,.con (.bool false))] [])),.reg true (.both (l [3,4,5,6,7,8,9,10,11,12,13,14,16,17] [(17,g 3 (t 0))] [(4,g 1 (t 0)),(6,g 2 (t 0)),(10,d (i 1 (g 3 (t 0)) (c 0))),(14,d (i 1 (g 3 (t 0)) (c 1)))] (.build 80 #[(0,.const (.int .i64 29)),(1,a 4),(2,a 6),(3,a 10),(4,a 14)]) 80 15 (p (w [17]) (x 99 [17] [22]) 22 18 (.loud [] [] (w [15,18]) none [] true (.call ⟨.value (.func 104),#[a 15,a 18,.const (.slice none 0 0)],#[80,22,22]⟩) 102 (some 19) true (s [20,21] [(21,.un (.ext 1) (t 19))] [(1,t 1),(20,.un (.ext 0) (t 19))] (.store 101 (a 1) (a 20)) (.fin [2] [(2,t 21)] []))))) (l [3,4,5,6,7,8,9,10,11,12,13,14,16,17] [(4,g 1 (t 0)),(6,g 2 (t 0)),(10,d (i 1 (g 3 (t 0)) (c 0))),(14,d (i 1 (g 3 (t 0)) (c 1)))] [(17,g 3 (t 0))] (x 99 [17] [22]) 22 18 (p (w [4,6,10,14]) (.build 80 #[(0,.const (.int .i64 29)),(1,a 4),(2,a 6),(3,a 10),(4,a 14)]) 80 15 (.loud [] [] (w [15,18]) none [] true (.call ⟨.value (.func 104),#[a 15,a 18,.const (.slice none 0 0)],#[80,22,22]⟩) 102 (some 19) true (s [20,21] [(21,.un (.ext 1) (t 19))] [(1,t 1),(20,.un (.ext 0) (t 19))] (.store 101 (a 1) (a 20)) (.fin [2] [(2,t 21)] [])))))),.ret]⟩)=>b);simp only[sh];rfl
theorem E.bc:aJ Tryz.prog Tryz.f113=some L.bc:=by kernel_rfl
theorem F.bc:Tryz.prog.funcs[N.bc]? = some Tryz.f113:=Tryz.func113
abbrev N.aR:Nat:=115
def L.aR.l1:LC:=by apply(fun{b:LC}(_:b=q [k [15] [(15,j .lss (t 14) (t 13))],u 15 .skip (.exit 0),.block 1 (q [k [16,17,9] [(9,d (i 1 (t 12) (t 14)))],.reg false (.loud [18,19,20,21] [] [(18,t 0),(19,t 9),(20,t 2),(21,t 3)] none [] false (x 138 [18,19,20,21] [146,3,3,3]) 0 (some 22) false z)]),k [23,14] [(14,o (t 14) (c 1))]])=>b);simp only[sh];rfl
def L.aR.l2:LC:=by apply(fun{b:LC}(_:b=q [k [27] [(27,j .lss (t 26) (t 25))],u 27 .skip (.exit 2),.block 3 (q [k [28,29,11] [(11,d (i 1 (t 24) (t 26)))],.reg false (.loud [30,31,32,33] [] [(30,t 0),(31,t 11),(32,t 2),(33,t 3)] none [] false (x 139 [30,31,32,33] [146,3,3,3]) 0 (some 34) false z)]),k [35,26] [(26,o (t 26) (c 1))]])=>b);simp only[sh];rfl
def L.aR:LFn:=by apply(fun{b:LFn}(_:b=⟨[],q [q [k [12,13,14] [(12,t 1),(13,h (t 1)),(14,c 0)],v 0 L.aR.l1],k [24,25,26] [(24,t 1),(25,h (t 1)),(26,c 0)],v 2 L.aR.l2]⟩)=>b);simp only[sh];rfl
theorem E.aR:aJ Tryz.prog Tryz.f115=some L.aR:=by kernel_rfl
theorem F.aR:Tryz.prog.funcs[N.aR]? = some Tryz.f115:=Tryz.func115
abbrev N.cV:Nat:=116
def L.cV:LFn:=by apply(fun{b:LFn}(_:b=⟨[t 2,t 3],q [k [2,3] [(2,c 0),(3,c 0)],q [k [4] [(4,t 0)],.block 0 (q [k [6,5] [(5,j .eql (t 4) (c 1))],u 5 (q [k [2,3] [(2,c 0),(3,c 0)],.ret]) (q [k [8,7] [(7,j .eql (t 4) (c 15))],u 7 (q [k [2,3] [(2,c 1),(3,c 1)],.ret]) (q [k [10,9] [(9,j .eql (t 4) (c 17))],u 9 (q [k [2,3] [(2,c 0),(3,c 4)],.ret]) .skip])])])],k [2,3] [(2,c 2),(3,c 2)],.ret]⟩)=>b);simp only[sh];rfl
theorem E.cV:aJ Tryz.prog Tryz.f116=some L.cV:=by kernel_rfl
theorem F.cV:Tryz.prog.funcs[N.cV]? = some Tryz.f116:=Tryz.func116
abbrev N.dn:Nat:=117
def L.dn:LFn:=by apply(fun{b:LFn}(_:b=⟨[t 0],q [k [0] [(0,.con (.map none))],.reg false (p [] (.makeMap 187 none) 187 1 (p [] (.build 185 #[(0,.const (.int .i64 0)),(1,.const (.int .i64 0)),(2,.const (.int .i64 1)),(3,.const (.int .i64 1))]) 185 2 (s [] [] (w [1,2]) (.insert 187 (a 1) (.const (.int .i64 1)) (a 2)) (p [] (.build 185 #[(0,.const (.int .i64 1)),(1,.const (.int .i64 1)),(2,.const (.int .i64 2)),(3,.const (.int .i64 2))]) 185 3 (s [] [] (w [1,3]) (.insert 187 (a 1) (.const (.int .i64 2)) (a 3)) (p [] (.build 185 #[(0,.const (.int .i64 1)),(1,.const (.int .i64 1)),(2,.const (.int .i64 2)),(3,.const (.int .i64 65))]) 185 4 (s [] [] (w [1,4]) (.insert 187 (a 1) (.const (.int .i64 3)) (a 4)) (p [] (.build 185 #[(0,.const (.int .i64 0)),(1,.const (.int .i64 1)),(2,.const (.int .i64 0)),(3,.const (.int .i64 0))]) 185 5 (s [] [] (w [1,5]) (.insert 187 (a 1) (.const (.int .i64 4)) (a 5)) (p [] (.build 185 #[(0,.const (.int .i64 0)),(1,.const (.int .i64 0)),(2,.const (.int .i64 0)),(3,.const (.int .i64 0))]) 185 6 (s [] [] (w [1,6]) (.insert 187 (a 1) (.const (.int .i64 5)) (a 6)) (.fin [7,0] [(0,t 1)] [])))))))))))),.ret]⟩)=>b);simp only[sh];rfl
theorem E.dn:aJ Tryz.prog Tryz.f117=some L.dn:=by kernel_rfl
theorem F.dn:Tryz.prog.funcs[N.dn]? = some Tryz.f117:=Tryz.func117
abbrev N.eQ:Nat:=118
def L.eQ.l1:LC:=by apply(fun{b:LC}(_:b=q [k [14] [(14,j .lss (t 13) (t 12))],u 14 .skip (.exit 0),.block 1 (q [.reg false (l [15,16,17] [(15,t 13),(17,.un (.ak 6) (i 6 (t 11) (t 13)))] [] (.alloc 35) 0 5 (s [4] [(4,t 15)] (w [5,17]) (.store 35 (a 5) (a 17)) z)),.reg false (l [18,19,20,21,22,23,24,25] [(18,t 3),(19,t 4)] [(22,g 2 (e 2 (t 5))),(25,h (g 1 (t 1)))] (x 140 [22,25] [22,3]) 22 26 (s [27] [] [(27,i 1 (t 18) (t 19)),(26,t 26)] (.store 22 (a 27) (a 26)) z))]),k [28,13] [(13,o (t 13) (c 1))]])=>b);simp only[sh];rfl
def L.eQ:LFn:=by apply(fun{b:LFn}(_:b=⟨[t 2],q [.reg false (p (w [0]) (.box 27 (a 0)) 0 1 (.fin [2] [(2,.con (.slice none 0 0))] [])),.reg false (l [6,7,8] [] [(8,h (g 1 (t 1))),(8,h (g 1 (t 1)))] (.makeSlice 120 (a 8) (a 8)) 120 9 (.fin [3] [(3,t 9)] [])),q [k [10,11,12,13] [(11,g 1 (t 1)),(12,h (g 1 (t 1))),(13,c 0)],v 0 L.eQ.l1],k [29,2] [(2,t 3)],.ret]⟩)=>b);simp only[sh];rfl
theorem E.eQ:aJ Tryz.prog Tryz.f118=some L.eQ:=by kernel_rfl
theorem F.eQ:Tryz.prog.funcs[N.eQ]? = some Tryz.f118:=Tryz.func118
abbrev N.dD:Nat:=119
def L.dD:LFn:=by apply(fun{b:LFn}(_:b=⟨[t 2],q [k [2] [(2,.con (.slice none 0 0))],q [k [7,8,9] [(9,j .eql (h (t 0)) (c 0))],u 9 (q [k [2] [(2,.con (.slice none 0 0))],.ret]) .skip],.reg false (l [10] [] [(10,t 0)] (x 141 [10] [120]) 120 11 (p [] (.alloc 120) 0 3 (s [] [] (w [3,11]) (.store 120 (a 3) (a 11)) z))),.reg false (l [12,13] [] [(13,h (t 0)),(13,h (t 0))] (.makeSlice 123 (a 13) (a 13)) 123 14 (p [] (.alloc 123) 0 4 (s [] [] (w [4,14]) (.store 123 (a 4) (a 14)) z))),.reg false (p [] (.alloc 22) 0 5 z),.reg false (p [] (.alloc 127) 0 6 z),.reg false (s [15] [] [(6,t 6),(15,.un (.fn 142) (.snoc (.snoc (.snoc (.snoc (.con (.tuple #[])) (t 4)) (t 3)) (t 6)) (t 5)))] (.store 127 (a 6) (a 15)) z),.reg false (.loud [16] [] [(16,d (t 6))] none [] false (.call ⟨.value (a 16),#[.const (.int .i64 0)],#[3]⟩) 0 (some 17) false z),.reg false (.loud [18] [] [(18,d (t 5))] none [] false (x 143 [18] [22]) 0 (some 19) false z),k [20,2] [(2,d (t 5))],.ret]⟩)=>b);simp only[sh];rfl
theorem E.dD:aJ Tryz.prog Tryz.f119=some L.dD:=by kernel_rfl
theorem F.dD:Tryz.prog.funcs[N.dD]? = some Tryz.f119:=Tryz.func119
abbrev N.dK:Nat:=120
def L.dK:LFn:=by apply(fun{b:LFn}(_:b=⟨[t 2],q [k [2] [(2,.con (.slice none 0 0))],.reg false (l [6,7] [] [(7,h (t 0)),(7,h (t 0))] (.makeSlice 120 (a 7) (a 7)) 120 8 (p [] (.alloc 120) 0 3 (s [] [] (w [3,8]) (.store 120 (a 3) (a 8)) z))),q [.reg false (l [9] [] [(9,t 0)] (x 144 [9] [120]) 216 10 z),.block 0 (.rangef (t 10) [11,12] (q [k [4] [(4,t 11)],k [5] [(5,t 12)]]) (.block 1 (.reg true (l [13,14,15,16,17,18,19] [(13,d (t 3)),(14,t 5),(18,d (i 1 (d (t 3)) (t 5)))] [(19,t 4)] (.buildSlice 22 1 #[(0,a 19)]) 22 20 (p (w [18,20]) (.call ⟨.builtin .append,#[a 18,a 20],#[22,22]⟩) 22 21 (.loud [22] [] [(22,i 1 (t 13) (t 14)),(21,t 21)] none [] true (.store 22 (a 22) (a 21)) 0 none false z))))))],k [23,2] [(2,d (t 3))],.ret]⟩)=>b);simp only[sh];rfl
theorem E.dK:aJ Tryz.prog Tryz.f120=some L.dK:=by kernel_rfl
theorem F.dK:Tryz.prog.funcs[N.dK]? = some Tryz.f120:=Tryz.func120
end
section
set_option maxRecDepth 100000
abbrev N.bz:Nat:=121
def L.bz.l1:LC:=by apply(fun{b:LC}(_:b=q [k [27] [(27,j .lss (t 26) (t 25))],u 27 .skip (.exit 0),.block 1 (q [k [28,6] [(6,t 26)],.reg false (s [29,30,31,32,33] [(31,t 5),(32,t 6)] [(33,i 1 (t 4) (t 6))] (.store 3 (a 33) (.const (.int .i64 (-1)))) (s [34] [] [(34,i 1 (t 31) (t 32))] (.store 3 (a 34) (.const (.int .i64 (-1)))) z))]),k [35,26] [(26,o (t 26) (c 1))]])=>b);simp only[sh];rfl
def L.bz.l2:LC:=by apply(fun{b:LC}(_:b=q [k [39] [(39,j .lss (t 38) (t 37))],u 39 .skip (.exit 2),.block 3 (q [k [40,41,42,7,8] [(7,t 38),(8,d (i 1 (t 36) (t 38)))],.reg false (s [43,44,45,46] [] [(46,i 1 (t 4) (t 8)),(45,t 7)] (.store 3 (a 46) (a 45)) z)]),k [47,38] [(38,o (t 38) (c 1))]])=>b);simp only[sh];rfl
def L.bz.l5:LC:=by apply(fun{b:LC}(_:b=q [k [67] [(67,j .lss (t 66) (t 65))],u 67 .skip (.exit 8),.block 9 (q [k [68,69,15] [(15,d (i 1 (t 64) (t 66)))],q [.reg false (.fin [70,71,72,73,74,75,76,77,78,79,80,81,82,83,84,85] [(85,.ite (j .lss (d (i 1 (t 4) (t 15))) (c 0)) (.con (.bool true)) (.ite (j .neq (t 15) (c 0)) (j .lss (d (i 1 (t 5) (t 15))) (c 0)) (.con (.bool false))))] [.gd (.gd (j .lss (d (i 1 (t 4) (t 15))) (c 0)) false (j .neq (t 15) (c 0))) true (j .lss (d (i 1 (t 5) (t 15))) (c 0))]),u 85 (.exit 9) .skip],q [k [86,87] [(87,j .lss (t 13) (c 0))],u 87 (q [k [88,13] [(13,t 15)],.exit 9]) .skip],.reg false (l [89,90,91,92] [] [(89,t 5),(90,t 4),(91,t 13),(92,t 15)] (x 145 [89,90,91,92] [22,22,3,3]) 3 93 (.fin [13] [(13,t 93)] []))]),k [94,66] [(66,o (t 66) (c 1))]])=>b);simp only[sh];rfl
def L.bz.l4:LC:=by apply(fun{b:LC}(_:b=q [k [58] [(58,j .lss (t 57) (t 56))],u 58 .skip (.exit 6),.block 7 (q [k [59,60,12] [(12,d (i 1 (t 55) (t 57)))],k [13] [(13,c (-1))],q [k [61,62,63,64,65,66] [(64,d (i 1 (t 9) (t 12))),(65,h (d (i 1 (t 9) (t 12)))),(66,c 0)],v 8 L.bz.l5],k [95,96,97,98,99,100] [(100,j .neq (d (i 1 (t 5) (t 12))) (t 13))],u 100 (.reg false (s [101,102,103,104] [] [(104,i 1 (t 5) (t 12)),(103,t 13)] (.store 3 (a 104) (a 103)) (.fin [10] [(10,.con (.bool true))] []))) .skip]),k [105,57] [(57,o (t 57) (c 1))]])=>b);simp only[sh];rfl
def L.bz.l3:LC:=by apply(fun{b:LC}(_:b=q [q [k [50] [(50,t 10)],u 50 .skip (.exit 4)],.block 5 (q [k [10] [(10,.con (.bool false))],k [51,52,53,54,55,56,57] [(55,.bin (.lo 1) (t 3) (.bin .min (c 1) (h (t 3)))),(56,h (.bin (.lo 1) (t 3) (.bin .min (c 1) (h (t 3))))),(57,c 0)],v 6 L.bz.l4])])=>b);simp only[sh];rfl
def L.bz:LFn:=by apply(fun{b:LFn}(_:b=⟨[t 2],q [k [2] [(2,.con (.slice none 0 0))],.reg false (l [16] [] [(16,t 0)] (x 119 [16] [120]) 22 17 (.fin [3] [(3,t 17)] [])),.reg false (l [18,19] [] [(19,h (t 0)),(19,h (t 0))] (.makeSlice 22 (a 19) (a 19)) 22 20 (.fin [4] [(4,t 20)] [])),.reg false (l [21,22] [] [(22,h (t 0)),(22,h (t 0))] (.makeSlice 22 (a 22) (a 22)) 22 23 (.fin [5] [(5,t 23)] [])),q [k [24,25,26] [(25,h (t 0)),(26,c 0)],v 0 L.bz.l1],q [k [36,37,38] [(36,t 3),(37,h (t 3)),(38,c 0)],v 2 L.bz.l2],.reg false (l [48] [] [(48,t 0)] (x 120 [48] [120]) 120 49 (.fin [9] [(9,t 49)] [])),q [k [10] [(10,.con (.bool true))],v 4 L.bz.l3],k [106,2] [(2,t 5)],.ret]⟩)=>b);simp only[sh];rfl
theorem E.bz:aJ Tryz.prog Tryz.f121=some L.bz:=by kernel_rfl
theorem F.bz:Tryz.prog.funcs[N.bz]? = some Tryz.f121:=Tryz.func121
abbrev N.au:Nat:=122
def L.au:LFn:=by apply(fun{b:LFn}(_:b=⟨[],q [q [k [14,15,16,17,18,19,20,21,22,23,24] [(24,.ite (j .geq (t 0) (c 0)) (j .lss (t 0) (g 0 (e 0 (.un .nilPtr (d (t 5)))))) (.con (.bool false)))],u 24 .ret .skip],.reg false (l [26,27,28,29,30] [] [(29,g 2 (.un .nilPtr (d (t 5)))),(30,t 0)] (.lookup 147 (a 29) (a 30) true) 192 31 (l [25,32,33] [(32,.un (.ext 0) (t 31)),(33,.un (.ext 1) (t 31))] [] (.alloc 116) 0 12 (s [] [] (w [12,32]) (.store 116 (a 12) (a 32)) (.fin [13] [(13,t 33)] [])))),.reg false (.loud [34,35,36,37,38,39,40,41,42,43,44,45,46,47,48,49,50,51,52,53,54,55,56,57,58,59,60] [(35,t 13),(51,.gd (t 13) true (.ite (j .eql (g 0 (t 12)) (t 1)) (.ite (j .lss (g 1 (t 12)) (t 3)) (.con (.bool true)) (j .lss (g 1 (t 12)) (c 0))) (.con (.bool false)))),(56,.gd (.gd (t 13) true (.ite (j .eql (g 0 (t 12)) (t 1)) (.ite (j .lss (g 1 (t 12)) (t 3)) (.con (.bool true)) (j .lss (g 1 (t 12)) (c 0))) (.con (.bool false)))) false (j .neq (g 0 (t 12)) (t 1)))] [(57,.gd (.gd (.gd (t 13) true (.ite (j .eql (g 0 (t 12)) (t 1)) (.ite (j .lss (g 1 (t 12)) (t 3)) (.con (.bool true)) (j .lss (g 1 (t 12)) (c 0))) (.con (.bool false)))) false (j .neq (g 0 (t 12)) (t 1))) true (d (t 6))),(59,.gd (.gd (.gd (t 13) true (.ite (j .eql (g 0 (t 12)) (t 1)) (.ite (j .lss (g 1 (t 12)) (t 3)) (.con (.bool true)) (j .lss (g 1 (t 12)) (c 0))) (.con (.bool false)))) false (j .neq (g 0 (t 12)) (t 1))) true (g 0 (t 12))),(60,.gd (.gd (.gd (t 13) true (.ite (j .eql (g 0 (t 12)) (t 1)) (.ite (j .lss (g 1 (t 12)) (t 3)) (.con (.bool true)) (j .lss (g 1 (t 12)) (c 0))) (.con (.bool false)))) false (j .neq (g 0 (t 12)) (t 1))) true (t 1))] (some (.gd (.gd (t 13) true (.ite (j .eql (g 0 (t 12)) (t 1)) (.ite (j .lss (g 1 (t 12)) (t 3)) (.con (.bool true)) (j .lss (g 1 (t 12)) (c 0))) (.con (.bool false)))) false (j .neq (g 0 (t 12)) (t 1)),true)) [.gd (.gd (t 13) true (j .eql (g 0 (t 12)) (t 1))) true (.ite (j .lss (g 1 (t 12)) (t 3)) (.con (.bool true)) (j .lss (g 1 (t 12)) (c 0))),.gd (.gd (.gd (t 13) true (j .eql (g 0 (t 12)) (t 1))) true (j .lss (g 1 (t 12)) (t 3))) false (j .lss (g 1 (t 12)) (c 0))] false (x 123 [57,59,60] [22,3,3]) 4 (some 61) true (.fin [62,63,64,13] [(13,.ite (t 35) (.ite (t 51) (.con (.bool true)) (.ite (t 56) (t 61) (.con (.bool false)))) (.con (.bool false)))] [.gd (t 51) false (.ite (t 56) (t 61) (.con (.bool false)))])),.reg false (.loud [65,66,67] [] [(65,t 13),(66,t 4),(67,t 2)] none [] false (.call ⟨.value (.func 68),#[a 65,.const (.int .i64 13),a 66,a 67],#[4,57,3,3]⟩) 0 (some 68) false z)]⟩)=>b);simp only[sh];rfl
theorem E.au:aJ Tryz.prog Tryz.f122=some L.au:=by kernel_rfl
theorem F.au:Tryz.prog.funcs[N.au]? = some Tryz.f122:=Tryz.func122
abbrev N.bW:Nat:=123
def L.bW.l1:LC:=by apply(fun{b:LC}(_:b=q [k [23] [(23,j .lss (t 22) (t 21))],u 23 .skip (.exit 0),.block 1 (q [q [k [24,25,26] [(26,j .eql (t 1) (t 2))],u 26 (q [k [6] [(6,.con (.bool true))],.ret]) .skip],q [.reg false (l [27,28] [] [(27,t 7),(28,t 2)] (.call ⟨.value (a 27),#[a 28],#[3]⟩) 4 29 (.fin [30] [(30,.un .not (t 29))] [])),u 30 (q [k [6] [(6,.con (.bool false))],.ret]) .skip],k [31,32,33,34,2] [(2,d (i 1 (d (t 3)) (t 2)))]]),k [35,22] [(22,o (t 22) (c 1))]])=>b);simp only[sh];rfl
def L.bW:LFn:=by apply(fun{b:LFn}(_:b=⟨[t 6],q [.reg false (p (w [0]) (.box 22 (a 0)) 0 3 (.fin [6] [(6,.con (.bool false))] [])),k [8,7] [(7,.un (.fn 146) (.snoc (.con (.tuple #[])) (t 3)))],q [.reg false (l [9,10] [] [(9,t 7),(10,t 1)] (.call ⟨.value (a 9),#[a 10],#[3]⟩) 4 11 (.loud [12,13,14,15] [(13,.un .not (t 11))] [(14,.gd (.un .not (t 11)) false (t 7)),(15,.gd (.un .not (t 11)) false (t 2))] (some (.un .not (t 11),false)) [] false (.call ⟨.value (a 14),#[a 15],#[3]⟩) 4 (some 16) true (.fin [17,18] [(18,.ite (t 13) (.con (.bool true)) (.un .not (t 16)))] []))),u 18 (q [k [6] [(6,.con (.bool false))],.ret]) .skip],q [k [19,20,21,22] [(21,o (h (d (t 3))) (c 1)),(22,c 0)],v 0 L.bW.l1],k [6] [(6,.con (.bool false))],.ret]⟩)=>b);simp only[sh];rfl
theorem E.bW:aJ Tryz.prog Tryz.f123=some L.bW:=by kernel_rfl
theorem F.bW:Tryz.prog.funcs[N.bW]? = some Tryz.f123:=Tryz.func123
abbrev N.bN:Nat:=129
def L.bN.l2:LC:=by apply(fun{b:LC}(_:b=q [k [22] [(22,j .lss (t 21) (t 20))],u 22 .skip (.exit 2),.block 3 (q [.reg false (l [23,24] [(24,.un (.ak 5) (i 5 (t 19) (t 21)))] [] (.alloc 70) 0 9 (s [] [] (w [9,24]) (.store 70 (a 9) (a 24)) z)),k [25,26,27,28,29,30,31,32,33] [(33,.ite (j .neq (g 0 (t 9)) (c 16)) (j .eql (g 1 (t 9)) (t 1)) (.con (.bool false)))],u 33 (q [.reg false (s [34] [] [(4,t 4),(34,.un (.ak 5) (t 9))] (.store 70 (a 4) (a 34)) (.fin [5] [(5,.con (.bool true))] [])),.ret]) .skip]),k [35,21] [(21,o (t 21) (c 1))]])=>b);simp only[sh];rfl
def L.bN.l1:LC:=by apply(fun{b:LC}(_:b=q [k [15] [(15,j .lss (t 14) (t 13))],u 15 .skip (.exit 0),.block 1 (q [.reg false (l [16,17] [(17,.un (.ak 6) (i 6 (t 12) (t 14)))] [] (.alloc 35) 0 7 (s [] [] (w [7,17]) (.store 35 (a 7) (a 17)) z)),k [18,19,20,21] [(19,g 1 (t 7)),(20,h (g 1 (t 7))),(21,c 0)],v 2 L.bN.l2]),k [36,14] [(14,o (t 14) (c 1))]])=>b);simp only[sh];rfl
def L.bN:LFn:=by apply(fun{b:LFn}(_:b=⟨[.un (.ak 5) (t 4),t 5],q [.reg false (p (w [0]) (.box 97 (a 0)) 0 2 (p [] (.alloc 70) 0 4 (.fin [5] [(5,.con (.bool false))] []))),q [k [10,11,12,13,14] [(12,g 1 (e 0 (t 2))),(13,h (g 1 (e 0 (t 2)))),(14,c 0)],v 0 L.bN.l1],.reg false (p [] (.build 70 #[]) 70 37 (s [] [] (w [4,37]) (.store 70 (a 4) (a 37)) (.fin [5] [(5,.con (.bool false))] []))),.ret]⟩)=>b);simp only[sh];rfl
theorem E.bN:aJ Tryz.prog Tryz.f129=some L.bN:=by kernel_rfl
theorem F.bN:Tryz.prog.funcs[N.bN]? = some Tryz.f129:=Tryz.func129
abbrev N.gW:Nat:=130
abbrev N.iq:Nat:=131
abbrev N.im:Nat:=132
end
section
set_option maxRecDepth 100000
abbrev N.ik:Nat:=133
end
section
set_option maxRecDepth 100000
abbrev N.iu:Nat:=134
abbrev N.ie:Nat:=135
abbrev N.bY:Nat:=138
def L.bY:LFn:=by apply(fun{b:LFn}(_:b=⟨[],.reg false (l [8,9,10,11,12,13] [] [(8,t 1),(13,g 0 (e 0 (.un .nilPtr (t 0))))] (.call ⟨.value (.func 69),#[a 8,a 13,.const (.int .i64 8191)],#[3,3,3]⟩) 4 14 (.loud [15,16] [] [(14,t 14),(15,t 2),(16,t 3)] none [] false (.call ⟨.value (.func 68),#[a 14,.const (.int .i64 11),a 15,a 16],#[4,57,3,3]⟩) 0 (some 17) false z))⟩)=>b);simp only[sh];rfl
theorem E.bY:aJ Tryz.prog Tryz.f138=some L.bY:=by kernel_rfl
theorem F.bY:Tryz.prog.funcs[N.bY]? = some Tryz.f138:=Tryz.func138
abbrev N.bZ:Nat:=139
def L.bZ:LFn:=by apply(fun{b:LFn}(_:b=⟨[],q [.reg false (l [11,12,13,14,15] [] [(14,g 2 (.un .nilPtr (t 0))),(15,t 1)] (.lookup 147 (a 14) (a 15) true) 192 16 (l [10,17,18] [(17,.un (.ext 0) (t 16)),(18,.un (.ext 1) (t 16))] [] (.alloc 116) 0 8 (s [] [] (w [8,17]) (.store 116 (a 8) (a 17)) (.fin [9] [(9,t 18)] [])))),.reg false (.loud [19,20,21,22] [] [(20,.un .not (t 9)),(21,t 2),(22,t 3)] none [] false (.call ⟨.value (.func 68),#[a 20,.const (.int .i64 12),a 21,a 22],#[4,57,3,3]⟩) 0 (some 23) false z),.reg false (l [24,25,26,27,28,29,30] [(27,g 2 (.un .nilPtr (t 0))),(28,t 1)] [(29,t 2),(30,t 3)] (.build 116 #[(0,a 29),(1,a 30)]) 116 31 (s [] [] (w [27,28,31]) (.mapUpdate 147 (a 27) (a 28) (a 31)) z))]⟩)=>b);simp only[sh];rfl
theorem E.bZ:aJ Tryz.prog Tryz.f139=some L.bZ:=by kernel_rfl
theorem F.bZ:Tryz.prog.funcs[N.bZ]? = some Tryz.f139:=Tryz.func139
abbrev N.dx:Nat:=140
def L.dx.l1:LC:=by apply(fun{b:LC}(_:b=q [k [11] [(11,j .lss (t 10) (t 9))],u 11 .skip (.exit 0),.block 1 (q [k [12,13,7] [(7,d (i 1 (t 8) (t 10)))],k [14,15,16,17,18,19,20] [(20,.ite (j .geq (t 7) (c 0)) (j .lss (t 7) (t 1)) (.con (.bool false)))],u 20 (.reg false (l [21,22] [(21,t 5)] [(22,t 7)] (.buildSlice 22 1 #[(0,a 22)]) 22 23 (p (w [21,23]) (.call ⟨.builtin .append,#[a 21,a 23],#[22,22]⟩) 22 24 (.fin [5] [(5,t 24)] [])))) .skip]),k [25,10] [(10,o (t 10) (c 1))]])=>b);simp only[sh];rfl
def L.dx:LFn:=by apply(fun{b:LFn}(_:b=⟨[t 4],q [k [4] [(4,.con (.slice none 0 0))],k [5] [(5,.con (.slice none 0 0))],q [k [8,9,10] [(8,t 0),(9,h (t 0)),(10,c 0)],v 0 L.dx.l1],.reg false (.loud [26] [] [(26,t 5)] none [] false (x 148 [26] [22]) 0 (some 27) false z),.reg false (l [28] [] [(28,t 5)] (x 149 [28] [22]) 22 29 (.fin [4] [(4,t 29)] [])),.ret]⟩)=>b);simp only[sh];rfl
theorem E.dx:aJ Tryz.prog Tryz.f140=some L.dx:=by kernel_rfl
theorem F.dx:Tryz.prog.funcs[N.dx]? = some Tryz.f140:=Tryz.func140
abbrev N.de:Nat:=141
def L.de.l1:LC:=by apply(fun{b:LC}(_:b=q [k [12] [(12,j .lss (t 11) (t 10))],u 12 .skip (.exit 0),.block 1 (q [k [13,14,15,4,5] [(4,t 11),(5,d (i 1 (t 9) (t 11)))],.reg false (l [16,17,18,19,20] [(16,t 3),(17,t 4)] [(18,t 5),(20,h (t 0))] (x 140 [18,20] [22,3]) 22 21 (s [22] [] [(22,i 1 (t 16) (t 17)),(21,t 21)] (.store 22 (a 22) (a 21)) z))]),k [23,11] [(11,o (t 11) (c 1))]])=>b);simp only[sh];rfl
def L.de:LFn:=by apply(fun{b:LFn}(_:b=⟨[t 2],q [k [2] [(2,.con (.slice none 0 0))],.reg false (l [6,7] [] [(7,h (t 0)),(7,h (t 0))] (.makeSlice 120 (a 7) (a 7)) 120 8 (.fin [3] [(3,t 8)] [])),q [k [9,10,11] [(9,t 0),(10,h (t 0)),(11,c 0)],v 0 L.de.l1],k [24,2] [(2,t 3)],.ret]⟩)=>b);simp only[sh];rfl
theorem E.de:aJ Tryz.prog Tryz.f141=some L.de:=by kernel_rfl
theorem F.de:Tryz.prog.funcs[N.de]? = some Tryz.f141:=Tryz.func141
abbrev N.aX:Nat:=142
def L.aX.l1:LC:=by apply(fun{b:LC}(_:b=q [k [17] [(17,j .lss (t 16) (t 15))],u 17 .skip (.exit 0),.block 1 (q [k [18,19,7] [(7,d (i 1 (t 14) (t 16)))],k [20,21,22,23,24] [(24,.un .not (d (i 1 (d (t 1)) (t 7))))],u 24 (.reg false (.loud [25,26] [] [(25,d (t 3)),(26,t 7)] none [] false (.call ⟨.value (a 25),#[a 26],#[3]⟩) 0 (some 27) false z)) .skip]),k [28,16] [(16,o (t 16) (c 1))]])=>b);simp only[sh];rfl
def L.aX:LFn:=by apply(fun{b:LFn}(_:b=⟨[],q [.reg false (s [8,9,10] [] [(10,i 1 (d (t 1)) (t 0))] (.store 4 (a 10) (.const (.bool true))) z),q [k [11,12,13,14,15,16] [(14,d (i 1 (d (t 2)) (t 0))),(15,h (d (i 1 (d (t 2)) (t 0)))),(16,c 0)],v 0 L.aX.l1],.reg false (l [29,30] [(29,d (t 4))] [(30,t 0)] (.buildSlice 22 1 #[(0,a 30)]) 22 31 (p (w [29,31]) (.call ⟨.builtin .append,#[a 29,a 31],#[22,22]⟩) 22 32 (s [] [] (w [4,32]) (.store 22 (a 4) (a 32)) z)))]⟩)=>b);simp only[sh];rfl
theorem E.aX:aJ Tryz.prog Tryz.f142=some L.aX:=by kernel_rfl
theorem F.aX:Tryz.prog.funcs[N.aX]? = some Tryz.f142:=Tryz.func142
abbrev N.dP:Nat:=144
def L.dP:LFn:=by apply(fun{b:LFn}(_:b=⟨[t 2],q [.reg false (p (w [0]) (.box 120 (a 0)) 0 1 (.fin [2] [(2,.con .nilFunc)] [])),k [3,2] [(2,.un (.fn 150) (.snoc (.con (.tuple #[])) (t 1)))],.ret]⟩)=>b);simp only[sh];rfl
theorem E.dP:aJ Tryz.prog Tryz.f144=some L.dP:=by kernel_rfl
theorem F.dP:Tryz.prog.funcs[N.dP]? = some Tryz.f144:=Tryz.func144
abbrev N.cB:Nat:=145
def L.cB.l1:LC:=by apply(fun{b:LC}(_:b=.block 1 (.block 2 (q [.reg true (.fin [10,11,12,13,14,15,16,17,18,9] [(9,j .gtr (d (i 1 (t 1) (t 2))) (d (i 1 (t 1) (t 3))))] []),u 9 (k [19,20,21,22,2] [(2,d (i 1 (t 0) (t 2)))]) (q [.reg true (.fin [24,25,26,27,28,29,30,31,32,23] [(23,j .gtr (d (i 1 (t 1) (t 3))) (d (i 1 (t 1) (t 2))))] []),u 23 (k [33,34,35,36,3] [(3,d (i 1 (t 0) (t 3)))]) (.exit 0)])])))=>b);simp only[sh];rfl
def L.cB:LFn:=by apply(fun{b:LFn}(_:b=⟨[t 8],q [k [8] [(8,c 0)],.skip,v 0 L.cB.l1,k [37,8] [(8,t 2)],.ret]⟩)=>b);simp only[sh];rfl
theorem E.cB:aJ Tryz.prog Tryz.f145=some L.cB:=by kernel_rfl
theorem F.cB:Tryz.prog.funcs[N.cB]? = some Tryz.f145:=Tryz.func145
abbrev N.bQ:Nat:=146
def L.bQ:LFn:=by apply(fun{b:LFn}(_:b=⟨[t 3],q [k [3] [(3,.con (.bool false))],k [4,5,6,7,8,9,10,11,3] [(3,.ite (j .geq (t 0) (c 0)) (j .lss (t 0) (h (d (t 1)))) (.con (.bool false)))],.ret]⟩)=>b);simp only[sh];rfl
theorem E.bQ:aJ Tryz.prog Tryz.f146=some L.bQ:=by kernel_rfl
theorem F.bQ:Tryz.prog.funcs[N.bQ]? = some Tryz.f146:=Tryz.func146
abbrev N.bw:Nat:=150
def L.bw.l2:LC:=by apply(fun{b:LC}(_:b=q [k [18] [(18,j .lss (t 17) (t 16))],u 18 .skip (.exit 2),.block 3 (q [k [19,20,6] [(6,d (i 1 (t 15) (t 17)))],.reg false (l [21,22,23] [] [(21,t 0),(22,t 3),(23,t 6)] (.call ⟨.value (a 21),#[a 22,a 23],#[3,3]⟩) 4 24 (.fin [25] [(25,.un .not (t 24))] [])),u 25 .ret .skip]),k [26,17] [(17,o (t 17) (c 1))]])=>b);simp only[sh];rfl
def L.bw.l1:LC:=by apply(fun{b:LC}(_:b=q [k [11] [(11,j .lss (t 10) (t 9))],u 11 .skip (.exit 0),.block 1 (q [k [12,13,14,3,4] [(3,t 10),(4,d (i 1 (t 8) (t 10)))],k [15,16,17] [(15,t 4),(16,h (t 4)),(17,c 0)],v 2 L.bw.l2]),k [27,10] [(10,o (t 10) (c 1))]])=>b);simp only[sh];rfl
def L.bw:LFn:=by apply(fun{b:LFn}(_:b=⟨[],q [.reg false (l [7] [] [(7,d (t 1))] (x 141 [7] [120]) 120 8 (.fin [9,10] [(9,h (t 8)),(10,c 0)] [])),v 0 L.bw.l1]⟩)=>b);simp only[sh];rfl
theorem E.bw:aJ Tryz.prog Tryz.f150=some L.bw:=by kernel_rfl
theorem F.bw:Tryz.prog.funcs[N.bw]? = some Tryz.f150:=Tryz.func150
end
end Go.Proofs.YtnfiilgdjpdlkaaGreatDoor
namespace Go.Proofs
open Go.Shelf
def Tryz.sM:Go.Shelf.Ren:=⟨fun | 189=>148 | 125=>152 | 257=>151 | 128=>162 | 129=>163 | 294=>153 | 295=>154 | 296=>155 | 297=>156 | 298=>157 | 299=>158 | 216=>159 | 300=>160 | 301=>161 | 328=>164 | 329=>165 | 330=>166 | 331=>167 | 332=>168 | 215=>169 | 343=>170 | n=>n,fun | 28=>22 | 3=>3 | 46=>76 | 0=>0 | 51=>151 | 53=>74 | 4=>4 | 183=>225 | 182=>224 | 131=>167 | 5=>5 | 9=>9 | 218=>231 | 222=>235 | 228=>237 | 229=>182 | n=>n,fun | n=>n⟩
theorem Tryz.wR:Go.Proofs.Lays.n189 Tryz.prog Tryz.sM:={
 mixed:=by kernel_rfl
 f125:=Tryz.func152.trans (congrArg some (by kernel_rfl))
 f128:=Tryz.func162.trans (congrArg some (by kernel_rfl))
 f129:=Tryz.func163.trans (congrArg some (by kernel_rfl))
 f189:=Tryz.func148.trans (congrArg some (by kernel_rfl))
 f215:=Tryz.func169.trans (congrArg some (by kernel_rfl))
 f216:=Tryz.func159.trans (congrArg some (by kernel_rfl))
 f257:=Tryz.func151.trans (congrArg some (by kernel_rfl))
 f294:=Tryz.func153.trans (congrArg some (by kernel_rfl))
 f295:=Tryz.func154.trans (congrArg some (by kernel_rfl))
 f296:=Tryz.func155.trans (congrArg some (by kernel_rfl))
 f297:=Tryz.func156.trans (congrArg some (by kernel_rfl))
 f298:=Tryz.func157.trans (congrArg some (by kernel_rfl))
 f299:=Tryz.func158.trans (congrArg some (by kernel_rfl))
 f300:=Tryz.func160.trans (congrArg some (by kernel_rfl))
 f301:=Tryz.func161.trans (congrArg some (by kernel_rfl))
 f328:=Tryz.func164.trans (congrArg some (by kernel_rfl))
 f329:=Tryz.func165.trans (congrArg some (by kernel_rfl))
 f330:=Tryz.func166.trans (congrArg some (by kernel_rfl))
 f331:=Tryz.func167.trans (congrArg some (by kernel_rfl))
 f332:=Tryz.func168.trans (congrArg some (by kernel_rfl))
 f343:=Tryz.func170.trans (congrArg some (by kernel_rfl))
 t0:=Tryz.underlying0
 a0:=Tryz.isAgg0
 z0:=Tryz.sizeOf0
 v0:=Tryz.zeroValue0
 t3:=Tryz.underlying3
 a3:=Tryz.isAgg3
 z3:=Tryz.sizeOf3
 v3:=Tryz.zeroValue3
 t4:=Tryz.underlying4
 a4:=Tryz.isAgg4
 z4:=Tryz.sizeOf4
 v4:=Tryz.zeroValue4
 t5:=Tryz.underlying5
 a5:=Tryz.isAgg5
 z5:=Tryz.sizeOf5
 v5:=Tryz.zeroValue5
 t9:=Tryz.underlying9
 a9:=Tryz.isAgg9
 z9:=Tryz.sizeOf9
 v9:=Tryz.zeroValue9
 t28:=Tryz.underlying22
 a28:=Tryz.isAgg22
 z28:=Tryz.sizeOf22
 v28:=Tryz.zeroValue22
 t46:=Tryz.underlying76
 a46:=Tryz.isAgg76
 z46:=Tryz.sizeOf76
 v46:=Tryz.zeroValue76
 t51:=Tryz.underlying151
 a51:=Tryz.isAgg151
 z51:=Tryz.sizeOf151
 v51:=Tryz.zeroValue151
 t53:=Tryz.underlying74
 a53:=Tryz.isAgg74
 z53:=Tryz.sizeOf74
 v53:=Tryz.zeroValue74
 t131:=Tryz.underlying167
 a131:=Tryz.isAgg167
 z131:=Tryz.sizeOf167
 v131:=Tryz.zeroValue167
 t182:=Tryz.underlying224
 a182:=Tryz.isAgg224
 z182:=Tryz.sizeOf224
 v182:=Tryz.zeroValue224
 t183:=Tryz.underlying225
 a183:=Tryz.isAgg225
 z183:=Tryz.sizeOf225
 v183:=Tryz.zeroValue225
 t218:=Tryz.underlying231
 a218:=Tryz.isAgg231
 z218:=Tryz.sizeOf231
 v218:=Tryz.zeroValue231
 t222:=Tryz.underlying235
 a222:=Tryz.isAgg235
 z222:=Tryz.sizeOf235
 v222:=Tryz.zeroValue235
 t228:=Tryz.underlying237
 a228:=Tryz.isAgg237
 z228:=Tryz.sizeOf237
 v228:=Tryz.zeroValue237
 t229:=Tryz.underlying182
 a229:=Tryz.isAgg182
 z229:=Tryz.sizeOf182
 v229:=Tryz.zeroValue182 }
open Go.Sort Go.RowKit in
theorem Tryz.slices_Sort_int (blk off cap:Nat) (zs:List Int) (w:World) (hH:Holds (Value.int .i64) w blk off zs.toArray) (hblk:blk<w.heap.size) (hsz:zs.length<4611686018427387904) :
  Calls Tryz.prog 148 #[.slice (some ⟨blk,off,none⟩) zs.length cap] w fun e w'=>e = .returned (.tuple #[])/\∃n os,w'=grow (putRow (Value.int .i64) (Sort.ahead w n) blk off (zs.mergeSort fun x y=>decide (x<=y)).toArray) os:=Any.slices_Sort_int Tryz.wR blk off cap zs w hH hblk hsz
def Tryz.sJ:Go.Shelf.Ren:=⟨fun | 112=>143 | n=>n,fun | 28=>22 | 3=>3 | 4=>4 | 0=>0 | n=>n,fun | n=>n⟩
theorem Tryz.wD:Go.Proofs.Lays.n112 Tryz.prog Tryz.sJ:={
 mixed:=by kernel_rfl
 f112:=Tryz.func143.trans (congrArg some (by kernel_rfl))
 t0:=Tryz.underlying0
 a0:=Tryz.isAgg0
 z0:=Tryz.sizeOf0
 v0:=Tryz.zeroValue0
 t3:=Tryz.underlying3
 a3:=Tryz.isAgg3
 z3:=Tryz.sizeOf3
 v3:=Tryz.zeroValue3
 t4:=Tryz.underlying4
 a4:=Tryz.isAgg4
 z4:=Tryz.sizeOf4
 v4:=Tryz.zeroValue4
 t28:=Tryz.underlying22
 a28:=Tryz.isAgg22
 z28:=Tryz.sizeOf22
 v28:=Tryz.zeroValue22 }
open Go.RowKit Go.Lib Go.Sort in
/-- slices.Reverse at []int: "Reverse reverses the elements of the slice in place.": THE SLICE's CELLS HOLD 'zs.reverse' BEHIND THE CALL; all else is as it was, but for the count of draws (the exchange 's[i], s[j] = s[j], s[i]' draws its order, once a round). IN THE WORDS OF slices.Sort's CONTRACT: 'Holds': the cells hold zs and none is frozen; 'putRow': the world with those cells holding another array. A slice of length 0 that is not nil is among them ('zs = []'); nil: '.._nil'. (LAID: no walk: one application.) -/
theorem Tryz.slices_Reverse_int (blk off cap:Nat) (zs:List Int) (w:World) (hH:Holds (Value.int .i64) w blk off zs.toArray) (hsz:zs.length<=9223372036854775807) :
  Calls Tryz.prog 143 #[.slice (some ⟨blk,off,none⟩) zs.length cap] w fun e w'=>e = .returned (.tuple #[])/\∃n,w'=putRow (Value.int .i64) (Sort.ahead w n) blk off zs.reverse.toArray:=Any.slices_Reverse_int Tryz.wD blk off cap zs w hH hsz
open Go.RowKit Go.Lib Go.Sort in
/-- The same at a slice of length 0, a nil one too: nothing is read, nothing written, nothing drawn. (LAID: no walk: one application.) -/
theorem Tryz.slices_Reverse_int_empty (a:Option Addr) (cap:Nat) (w:World) :
  Calls Tryz.prog 143 #[.slice a 0 cap] w fun e w'=>e = .returned (.tuple #[])/\w'=w:=Any.slices_Reverse_int_empty Tryz.wD a cap w
def Tryz.pO:Go.Shelf.Ren:=⟨fun | 20=>149 | n=>n,fun | 22=>22 | 3=>3 | 4=>4 | 0=>0 | n=>n,fun | n=>n⟩
theorem Tryz.qd:Go.Proofs.Lays2.n20 Tryz.prog Tryz.pO:={
 mixed:=by kernel_rfl
 f20:=Tryz.func149.trans (congrArg some (by kernel_rfl))
 t0:=Tryz.underlying0
 a0:=Tryz.isAgg0
 z0:=Tryz.sizeOf0
 v0:=Tryz.zeroValue0
 t3:=Tryz.underlying3
 a3:=Tryz.isAgg3
 z3:=Tryz.sizeOf3
 v3:=Tryz.zeroValue3
 t4:=Tryz.underlying4
 a4:=Tryz.isAgg4
 z4:=Tryz.sizeOf4
 v4:=Tryz.zeroValue4
 t22:=Tryz.underlying22
 a22:=Tryz.isAgg22
 z22:=Tryz.sizeOf22
 v22:=Tryz.zeroValue22
 i3:=by kernel_rfl }
open Go.RowKit Go.Lib Go.Sort in
/-- slices.Compact at []int: "Compact replaces consecutive runs of equal elements with a single copy. This is like the uniq command found on Unix. Compact modifies the contents of the slice s and returns the modified slice, which may have a smaller length. Compact zeroes the elements between the new length and the original length. The result preserves the nilness of s.": IT RETURNS THE SLICE CUT TO 'Lib.compact zs'; ITS CELLS HOLD 'Lib.compact zs', THEN ZERO VALUES up to the old length; all else is as it was, but for the count of draws. IN THE WORDS OF slices.Sort's CONTRACT ('Holds', 'putRow'): so the everyday 'slices.Sort(xs); xs = slices.Compact(xs)' goes from the one contract to the other. It asks 'zs.length <= cap' (every slice's: the reslicing 's[:k]' looks at it). Length 0, nil: '.._empty'. (LAID: no walk: one application.) -/
theorem Tryz.slices_Compact_int (blk off cap:Nat) (zs:List Int) (w:World) (hH:Holds (Value.int .i64) w blk off zs.toArray) (hsz:zs.length<=9223372036854775807) (hcap:zs.length<=cap) :
  Calls Tryz.prog 149 #[.slice (some ⟨blk,off,none⟩) zs.length cap] w fun e w'=>e = .returned (.slice (some ⟨blk,off,none⟩) (Lib.compact zs).length cap)/\∃q,w'=putRow (Value.int .i64) (Sort.ahead w q) blk off (Lib.compact zs++List.replicate (zs.length-(Lib.compact zs).length) 0).toArray:=Any.slices_Compact_int Tryz.qd blk off cap zs w hH hsz hcap
open Go.RowKit Go.Lib Go.Sort in
/-- The same at a slice of length 0, a nil one too: it comes back as it is. (LAID: no walk: one application.) -/
theorem Tryz.slices_Compact_int_empty (a:Option Addr) (cap:Nat) (w:World) :
  Calls Tryz.prog 149 #[.slice a 0 cap] w fun e w'=>e = .returned (.slice a 0 cap)/\w'=w:=Any.slices_Compact_int_empty Tryz.qd a cap w
open Go.RowKit Go.Sort in
/-- .. and plain. (LAID: no walk: one application.) -/
theorem Tryz.slices_Sort_int_none (p:Option Addr) (cap:Nat) (w:World) :
  Calls Tryz.prog 148 #[.slice p 0 cap] w fun e w'=>e = .returned (.tuple #[])/\w'=w:=Any.slices_Sort_int_none Tryz.wR p cap w
end Go.Proofs
namespace Go.Proofs.YtnfiilgdjpdlkaaGreatDoor
open Go Go.Lft
def I64 (x:Int):Prop:=-9223372036854775808<=x/\x<=9223372036854775807
variable{W:View}
theorem kE{h:Heap}{e:TypeId}{v:Value}{l:List Int}:OwnT W h e v l↔l.length<=140737488355328/\(∀x∈l,I64 x)/\((v = .slice none 0 0/\l=[])\/
  ∃g cap cur,v = .slice (some ⟨g,0,none⟩) l.length cap/\h[g]? = some (.cells cur e (0,0))/\l.length<=cap/\cap<=maxLen/\cur.size=cap/\cur.toList.take l.length=l.map (.int .i64)):=by
 have hn:Rep.n Int=1:=rfl;constructor
 ·rintro⟨hb,xs,⟨hl,hown⟩,hel⟩;rw[hn,Ea]at hl;have hel' : ∀(i:Nat) (hi:i<l.length),xs[i]? = some (.int .i64 l[i])/\I64 l[i]:=fun i hi=>by
   obtain⟨h1,h2⟩:=hel i hi;rw[hn,Ea]at h1;have:(xs.drop i).take 1=[.int .i64 l[i]]:=h1;have h3:((xs.drop i).take 1)[0]? = some (.int .i64 l[i]):=by rw[this];rfl
   rw[Es,if_pos (by decide),Ff]at h3;exact⟨by simpa using h3,h2⟩
  have hxs:xs=l.map (.int .i64):=by
   refine FY fun i=>?_;rcases DA i l.length with hi | hi
   ·rw[(hel' i hi).1];simp[hi]
   rw[D1 (by omega),D1 (by simpa using hi)]
  refine⟨hb,fun x hx=>?_,?_⟩
  ·obtain⟨i,hi,rfl⟩:=DO hx;exact(hel' i hi).2
  rcases hown with⟨rfl,h0⟩ | ⟨g,cap,cur,rfl,hg,h1,h2,h3,h4⟩
  ·exact .inl ⟨rfl,DR h0⟩
  rw[hn,Ea]at h3 h4;exact .inr ⟨g,cap,cur,rfl,hg,h1,h2,h3,by rw[h4,hxs]⟩
 rintro⟨hb,hr,hown⟩;refine⟨hb,l.map (.int .i64),⟨by rw[hn];simp,?_⟩,fun i hi=>?_⟩
 ·rcases hown with⟨rfl,rfl⟩ | ⟨g,cap,cur,rfl,hg,h1,h2,h3,h4⟩
  ·exact .inl ⟨rfl,rfl⟩
  exact .inr ⟨g,cap,cur,rfl,hg,h1,h2,by rw[hn,Ea];exact h3,by rw[hn,Ea];exact h4⟩
 rw[hn,Ea];refine⟨?_,hr _ (Ez hi)⟩;refine FY fun j=>?_;rw[Es];rcases DA j 1 with hj | hj
 ·have:j=0:=by omega
  subst this;simp[hi]
 rw[if_neg (by omega)];simp;omega
theorem nj{w:World}{g cap:Nat}{cur:Array Value}{e:TypeId}{l:List Int}(hg:w.heap[g]? = some (.cells cur e (0,0)))(h1:l.length<=cur.size)(h4:cur.toList.take l.length=l.map (.int .i64)):Go.Sort.Holds (Value.int .i64) w g 0 l.toArray:=by
 intro j hj;simp only[EI]at hj;have hc:cur[j]? = some (.int .i64 l[j]):=by have:=congrArg (fun x:List Value=>x[j]?) h4;simp only[Es,hj,if_true,EW]at this;simpa[hj]using this
 constructor
 ·simp[World.cell?,hg,hc,hj]
 simp[World.frozen?,hg]
variable{h':Heap}
theorem ru{w:World}{e:TypeId}{v:Value}{g cap:Nat}{cur:Array Value}{l d:List Int}(hv:v = .slice (some ⟨g,0,none⟩) l.length cap)(hg:w.heap[g]? = some (.cells cur e (0,0)))(h1:l.length<=cap)(h2:cap<=maxLen)(h3:cur.size=cap)(hd:d.length=l.length)(hb:l.length<=140737488355328)(hr : ∀x∈d,I64 x)(n:Nat)(os:Array Obj)(hh:h'=(Go.Sort.grow (Go.Sort.putRow (Value.int .i64) (Go.Sort.ahead w n) g 0 d.toArray) os).heap):
  OwnT W h' e v d/\Kept w.heap h' v.ownBlock:=by
 subst hv;have hlt:g<w.heap.size:=(Dx.1 hg).1;have hcur:(Go.Sort.putCells (Value.int .i64) 0 d.toArray cur).toList.take d.length=d.map (.int .i64):=by
  refine FY fun j=>?_;rw[Es];split
  ·rename_i hj;have hjc:j<cur.size:=by omega
   simp[Go.Sort.putCells,hj,hjc]
  rename_i hj;exact(D1 (by simpa using Nat.le_of_not_lt hj)).symm
 have hblk : ∀k,k<w.heap.size->h'[k]? = if g=k then(w.heap[k]?).map (Go.Sort.onCells (Go.Sort.putCells (Value.int .i64) 0 d.toArray)) else w.heap[k]?:=by intro k hk;subst hh;simp only[Go.Sort.grow,Go.Sort.putRow,Go.Sort.mapBlock,Go.Sort.ahead];rw[FO (by simpa using hk),Fx]
 have hsz:w.heap.size<=h'.size:=by subst hh;simp[Go.Sort.grow,Go.Sort.putRow,Go.Sort.mapBlock,Go.Sort.ahead]
 refine⟨kE.2 ⟨by omega,hr,.inr ⟨g,cap,Go.Sort.putCells (Value.int .i64) 0 d.toArray cur,by rw[hd],?_,by omega,h2,by simp[Go.Sort.putCells,h3],hcur⟩⟩,hsz,fun k hk hne=>?_⟩
 ·rw[hblk g hlt,if_pos rfl,hg];rfl
 rw[hblk k hk,if_neg (fun e=>hne (by simp[Value.ownBlock,e]))]
theorem lJ(w:World)(n g:Nat)(d:Array Int)(os:Array Obj):Same w (Go.Sort.grow (Go.Sort.putRow (Value.int .i64) (Go.Sort.ahead w n) g 0 d) os):=
 ⟨rfl,rfl,rfl,by simp[Go.Sort.grow,Go.Sort.putRow,Go.Sort.mapBlock,Go.Sort.ahead],fun b hb=>by
  have hlt:=(Dx.1 hb).1;simp only[Go.Sort.grow,Go.Sort.putRow,Go.Sort.mapBlock,Go.Sort.ahead];rw[FO (by simpa using hlt),Fx];split
  ·rw[hb];rfl
  exact hb⟩
def kr (l:List Int):List Int:=l.mergeSort fun x y=>decide (x<=y)
theorem Am{h:Heap}{e:TypeId}{v:Value}{l:List Int}(o:OwnT W h e v l):aj Tryz.prog N.slices_Sort_int #[v] h (fun _ h'=>OwnT W h' e v (kr l)/\Kept h h' v.ownBlock):=by
 rintro w rfl;obtain⟨hb,hr,hown⟩:=kE.1 o;have hlen:(kr l).length=l.length:=List.length_mergeSort _;have hr' : ∀x∈kr l,I64 x:=fun x hx=>hr x (FQ.1 hx);rcases hown with⟨rfl,rfl⟩ | ⟨g,cap,cur,rfl,hg,h1,h2,h3,h4⟩
 ·refine(Tryz.slices_Sort_int_none none 0 w).mono ?_;rintro e' w' ⟨rfl,rfl⟩;exact⟨_,rfl,⟨by simpa[kr]using o,Kept.refl _ _⟩,Same.refl _⟩
 refine(Tryz.slices_Sort_int g 0 cap l w (nj (cap:=cap) hg (by omega) h4) (Dx.1 hg).1 (by omega)).mono ?_;rintro e' w' ⟨rfl,n,os,rfl⟩;exact⟨_,rfl,ru rfl hg h1 h2 h3 hlen hb hr' n os rfl,lJ _ _ _ _ _⟩
variable{n:Nat}
theorem yp{h:Heap}{e:TypeId}{g cap:Nat}{l:List Int}(o:OwnT W h e (.slice (some ⟨g,0,none⟩) l.length cap) l)(hn:n<=l.length):OwnT W h e (.slice (some ⟨g,0,none⟩) n cap) (l.take n):=by
 obtain⟨hb,hr,hown⟩:=kE.1 o;have hl:(l.take n).length=n:=by simp;omega
 rcases hown with⟨hv,_⟩ | ⟨g',cap',cur,hv,hg,h1,h2,h3,h4⟩
 ·cases hv
 cases hv;refine kE.2 ⟨by omega,fun x hx=>hr x (List.mem_of_mem_take hx),.inr ⟨g,cap,cur,by rw[hl],hg,by omega,h2,h3,?_⟩⟩;rw[hl,List.map_take,<-h4,Ev,Ew hn]
theorem nX{l:List Int}:(Lib.compact l).length<=l.length:=by unfold Lib.compact Lib.compactUpTo;rw[ES];exact DW (List.length_filter_le _ _) (by simp)
theorem kg{l:List Int}{x:Int}(hx:x∈Lib.compact l):x∈l:=by unfold Lib.compact Lib.compactUpTo at hx;simp only[Ex,EP,EC]at hx;obtain⟨i,⟨hi,_⟩,rfl⟩:=hx;simp[hi]
theorem uh{h:Heap}{e:TypeId}{v:Value}{l:List Int}(o:OwnT W h e v l):aj Tryz.prog N.slices_Compact_int #[v] h (fun v' h'=>OwnT W h' e v' (Lib.compact l)/\ic h h' v v'):=by
 rintro w rfl;obtain⟨hb,hr,hown⟩:=kE.1 o;have hlen:=nX (l:=l);rcases hown with⟨rfl,rfl⟩ | ⟨g,cap,cur,rfl,hg,h1,h2,h3,h4⟩
 ·refine(Tryz.slices_Compact_int_empty none 0 w).mono ?_;rintro e' w' ⟨rfl,rfl⟩;exact⟨_,rfl,⟨o,Kept.refl _ _,.inl rfl⟩,Same.refl _⟩
 refine(Tryz.slices_Compact_int g 0 cap l w (nj (cap:=cap) hg (by omega) h4) (by omega) h1).mono ?_;rintro e' w' ⟨rfl,n,hw⟩;have hw':w'=Go.Sort.grow (Go.Sort.putRow (Value.int .i64) (Go.Sort.ahead w n) g 0 (Lib.compact l++List.replicate (l.length-(Lib.compact l).length) 0).toArray) #[]:=by rw[hw];simp
 have hdl:(Lib.compact l++List.replicate (l.length-(Lib.compact l).length) 0).length=l.length:=by simp;omega
 have hrd : ∀x∈(Lib.compact l++List.replicate (l.length-(Lib.compact l).length) (0:Int)),I64 x:=fun x hx=>by
  rcases DE.1 hx with hx | hx
  ·exact hr x (kg hx)
  obtain⟨_,rfl⟩:=List.mem_replicate.1 hx;exact⟨by omega,by omega⟩
 obtain⟨o2,k2⟩:=ru (W:=W) (h':=w'.heap) rfl hg h1 h2 h3 hdl hb hrd n #[] (by rw[hw']);have o3:=yp (n:=(Lib.compact l).length) (by rw[hdl];exact o2) (by simp);rw[List.take_left'  rfl]at o3;exact⟨_,rfl,⟨o3,k2,.inl rfl⟩,by rw[hw'];exact lJ _ _ _ _ _⟩
theorem uF{h:Heap}{e:TypeId}{v:Value}{l:List Int}(o:OwnT W h e v l):aj Tryz.prog N.slices_Reverse_int #[v] h (fun _ h'=>OwnT W h' e v l.reverse/\Kept h h' v.ownBlock):=by
 rintro w rfl;obtain⟨hb,hr,hown⟩:=kE.1 o;rcases hown with⟨rfl,rfl⟩ | ⟨g,cap,cur,rfl,hg,h1,h2,h3,h4⟩
 ·refine(Tryz.slices_Reverse_int_empty none 0 w).mono ?_;rintro e' w' ⟨rfl,rfl⟩;exact⟨_,rfl,⟨o,Kept.refl _ _⟩,Same.refl _⟩
 refine(Tryz.slices_Reverse_int g 0 cap l w (nj (cap:=cap) hg (by omega) h4) (by omega)).mono ?_;rintro e' w' ⟨rfl,n,hw⟩;have hw':w'=Go.Sort.grow (Go.Sort.putRow (Value.int .i64) (Go.Sort.ahead w n) g 0 l.reverse.toArray) #[]:=by rw[hw];simp
 exact⟨_,rfl,ru rfl hg h1 h2 h3 (by simp) hb (fun x hx=>hr x (by simpa using hx)) n #[] (by rw[hw']),by rw[hw'];exact lJ _ _ _ _ _⟩
def jN (row:List Int) (n:Int) (i:Nat):Bool:=decide (0<=nth row i)&&decide (nth row i<n)
def gI (row:List Int) (n:Int):List Int:=Lib.compact (kr (sift (jN row n) (fun i=>nth row i) row.length))
variable{row:List Int}
theorem wJ{n:Int}{vr:Value}{h:Heap}(hr:SlRd (vw h) vr row)(hs:row.length<=1000000):
  aj Tryz.prog N.dx #[vr,.int .i64 n] h (fun v h'=>∃W,Mine nothing h h' W T.int v (gI row n)):=by
 refine ah (args:=[vr,.int .i64 n]) follows F.dx E.dx (Dv (by kernel_rfl)) fun K hK=>?_;simp[L.dx,hr.len];refine ao [0,1,5,8,9,10] (fun(v:Value) k=>[vr,.int .i64 n,v,vr,.int .i64 row.length,.int .i64 k]) (fun v k h1=>Mine nothing h h1 nothing T.int v (sift (jN row n) (fun i=>nth row i) k)) row.length (.slice none 0 0)
  rfl (by omega) rfl (Mine.start (fun _ _ h=>by cases h)) (fun _ _=>rfl) (fun v k h1 hk m=>by simp) ?_ ?_
 ·intro v k h1 hlt m K2 hK2;have hr1:=hr.mono m.old;have hrange:=hr.range hlt;have:=rU (p:=jN row n) (x:=fun i=>nth row i) k;simp(disch:=omega)[hr1.idx1 rfl,hr1.int (View.le_refl _),fU,-Bool.and_eq_true,-Bool.and_eq_false_imp];refine⟨fun he=>?_,fun he=>hK2 v _ _ rfl rfl (by rw[lG (show jN row n k=false from he)];exact m)⟩;refine m.push El.ck (by simp<;>rfl) (lX hrange.1 hrange.2) (by omega) (by omega) (fun _=>by simp) (fun _=>by simp) fun u v' h3 m'=>hK2 v' _ _ rfl rfl (by rw[mY (show jN row n k=true from he)];exact m')
 intro v h1 m;simp;refine af (by kernel_rfl) (Am m.own) ?_;rintro _ h2 ⟨o2,k2⟩;have m2:=m.jE o2 ⟨k2,.inl rfl⟩;try simp
 refine af (by kernel_rfl) (uh m2.own) ?_;rintro v3 h3 ⟨o3,k3⟩;have m3:=m2.jE o3 k3;try simp
 exact hK _ _ ⟨_,m3⟩
def cm (g:Gr):Gr:=rows (fun a=>gI (nth g a) g.length) g.length
def Sm (g:Gr):Prop:=g.length<=1000000/\∀i,i<g.length->(nth g i).length<=1000000
theorem yl{α:Type}[Rep α]:Rep.rd W (Value.slice none 0 0).cells.toList ([]:List α):=⟨.slice none 0 0,rfl,none,0,rfl,by simp,by simp,.inl rfl⟩
variable{vg:Value}
theorem ti{g:Gr}{h:Heap}(hg:SlRd (vw h) vg g)(hs:Sm g):
  aj Tryz.prog N.de #[vg] h (fun v h'=>∃W,Mine nothing h h' W T.ck v (cm g)):=by
 refine ah (args:=[vg]) follows F.de E.de (Dv (by kernel_rfl)) fun K hK=>?_;have hs1:=hs.1;simp[L.de,hg.len];refine Mine.made (α:=List Int) (V:=nothing) (W:=nothing) (h0:=h) (n:=g.length) (d:=[]) El.fZ (View.le_refl _) (fun _ _ h=>by cases h) (Old.nothing _ _) (by simp<;>rfl) (by simp<;>rfl) yl (by omega) (by omega) fun v h1 m _ _=>?_;refine ao [0,3,9,10,11] (fun(_:View) k=>[vg,v,vg,.int .i64 g.length,.int .i64 k]) (fun W k h2=>Mine nothing h h2 W T.ck v (rows (fun a=>gI (nth g a) g.length) k++List.replicate (g.length-k) [])) g.length nothing
  rfl (by omega) rfl m (fun _ _=>rfl) (fun v k h1 hk m=>by simp) ?_ ?_
 ·intro W a h2 hlta m K2 hK2;have hg2:=hg.mono m.old;obtain⟨rv,hrv⟩:=hg2.rows;obtain⟨cv,rr⟩:=hrv a hlta;have hl5:(rows (fun a=>gI (nth g a) g.length) a++List.replicate (g.length-a) ([]:List Int)).length=g.length:=by simp;omega
  simp(disch:=omega)[hg2.idx1 rfl,cv _ (View.le_refl _),hg.len];refine af (by kernel_rfl) (wJ rr (hs.2 a hlta)) ?_;rintro r h3 ⟨W',mr⟩;have m3:=m.ext mr.old;have hr:=mr.fresh.mono (lM W _ _);simp(disch:=omega)[m3.now.idx1 rfl];refine m3.put1 (α:=List Int) (i:=a) (by kernel_rfl) rfl (by simp) (by simp<;>rfl) (by omega) (dG.2 hr) fun h4 m4=>hK2 (grow W h2 h3) _ _ rfl rfl ?_;rw[mf (x:=fun a=>gI (nth g a) g.length) hlta]at m4;exact m4
 intro W h2 m;simp at m;simp;exact hK _ _ ⟨_,m⟩
theorem oJ{l:List Int}{x:Int}{v:Value}{h:Heap}{b:Addr}(hl:SlRd (vw h) v l)(hb:ag (vw h) b=some v):
  aj Tryz.prog N.bQ #[.int .i64 x,.pointer (some b)] h (fun u h'=>u = .bool (decide (0<=x)&&decide (x<l.length))/\h'=h):=by refine ah (args:=[.int .i64 x,.pointer (some b)]) follows F.bQ E.bQ (Dv (by kernel_rfl)) fun K hK=>?_;simp[L.bQ,hb,hl.len];exact hK _ _ ⟨rfl,rfl⟩
variable{b:Int}
theorem qV{l:List Int}{a:Int}{v:Value}{h:Heap}(hl:SlRd (vw h) v l):
  aj Tryz.prog N.bW #[v,.int .i64 a,.int .i64 b] h (fun u h'=>u = .bool (cY l a b)/\(vw h).le (vw h')):=by
 refine ah (args:=[v,.int .i64 a,.int .i64 b]) follows F.bW E.bW (Dv (by kernel_rfl)) fun K hK=>?_;have bl:=hl.bound;simp[L.bW];refine cS (v:=v) (by simp) ?_;have hvc:v.cells = #[v]:=by obtain⟨_,_,rfl,_⟩:=hl;rfl
 rw[hvc];have hle:=bG h (.cells #[v] T.ck);have hl:=hl.mono hle;have hb:ag (vw (h.push (.cells #[v] T.ck))) ⟨h.size,0,none⟩=some v:=by simp[ag,vw]
 generalize h.push (.cells #[v] T.ck)=h1 at hle hl hb;generalize h.size=B at hb;refine bL (ops:=[.tmp 10]) rfl (by kernel_rfl) (by simpa using oJ (x:=a) hl hb) ?_;rintro _ _ ⟨rfl,rfl⟩;cases ha:decide (0<=a)&&decide (a<l.length)with
 | false=>
  have hsp:cY l a b=false:=by simp only[Fy,decide_eq_false_iff_not]at ha;simp[cY];intros;omega
  rw[hsp]at hK;simp[grdP];exact hK _ _ ⟨rfl,hle⟩
 | true=>
  simp only[DC,decide_eq_true_eq]at ha;simp[grdP];refine bL (ops:=[.tmp 15]) rfl (by kernel_rfl) (by simpa using oJ (x:=b) hl hb) ?_;rintro _ _ ⟨rfl,rfl⟩;cases hbb:decide (0<=b)&&decide (b<l.length)with
  | false=>
   have hsp:cY l a b=false:=by simp only[Fy,decide_eq_false_iff_not]at hbb;simp[cY];intros;omega
   rw[hsp]at hK;simp;exact hK _ _ ⟨rfl,hle⟩
  | true=>
   simp only[DC,decide_eq_true_eq]at hbb;have hsp:cY l a b=jP l a (l.length+1) b:=by simp[cY,ha,hbb]
   rw[hsp]at hK;simp(disch:=omega)[hb,hl.len];refine ao [1,2,3,6,7,21,22] (fun(c:Int) k=>[.int .i64 a,.int .i64 c,.pointer (some ⟨B,0,none⟩),.bool false,.func (.func N.bQ) #[] #[.pointer (some ⟨B,0,none⟩)],.int .i64 ((l.length:Int)+1),.int .i64 k])
    (fun c k h2=>h2=_/\jP l a (l.length+1-k) c=jP l a (l.length+1) b) (l.length+1) b
    rfl (by omega) rfl ⟨rfl,rfl⟩ (fun _ _=>rfl) (fun v k h1 hk m=>by simp) ?_ ?_
   ·rintro c k h2 hlt ⟨rfl,hch⟩ K2 hK2;have hfu:l.length+1-k=(l.length-k)+1:=by omega
    rw[hfu,jP]at hch;simp;refine⟨fun he=>hK _ _ ⟨by rw[<-hch,if_pos he.symm],hle⟩,fun he=>?_⟩;rw[if_neg (fun e=>he e.symm)]at hch;refine bL (ops:=[.tmp 28]) rfl (by kernel_rfl) (by simpa using oJ (x:=c) hl hb) ?_;rintro _ _ ⟨rfl,rfl⟩;cases hc:decide (0<=c)&&decide (c<l.length)with
    | false=>simp only[Fy,decide_eq_false_iff_not]at hc;simp;exact hK _ _ ⟨by rw[<-hch,if_pos (by omega)],hle⟩
    | true=>simp only[DC,decide_eq_true_eq]at hc;rw[if_neg (by omega)]at hch;simp(disch:=omega)[hb,hl.idx1 rfl,hl.int (View.le_refl _)];refine hK2 (nth l c.toNat) _ _ rfl rfl ⟨rfl,?_⟩;rw[<-hch];congr 1;omega
   rintro c h2 ⟨rfl,hch⟩;rw[F6,jP]at hch;simp;exact hK _ _ ⟨by rw[<-hch],hle⟩
def gu (idom number:List Int):Nat->Int->Int->Option Int
 | 0,_,_=>none
 | n+1,a,b=>
  if 0<=a/\a<number.length/\a<idom.length/\0<=b/\b<number.length/\b<idom.length then
   if nth number b.toNat<nth number a.toNat then gu idom number n (nth idom a.toNat) b
   else if nth number a.toNat<nth number b.toNat then gu idom number n a (nth idom b.toNat)
   else some a
  else none
variable{number:List Int}
theorem qo{idom:List Int}{vi vn:Value}{h:Heap}{r:Int}(hi:SlRd (vw h) vi idom)(hn:SlRd (vw h) vn number){a:Int}(hc:gu idom number n a b=some r):
  aj Tryz.prog N.cB #[vi,vn,.int .i64 a,.int .i64 b] h (fun u h'=>u = .int .i64 r/\h'=h):=by
 refine ah (args:=[vi,vn,.int .i64 a,.int .i64 b]) follows F.cB E.cB (Dv (by kernel_rfl)) fun K hK=>?_;simp[L.cB];refine je [0,1,2,3] (fun m ρ h'=>∃(c d:Int),ρ=[(0,vi),(1,vn),(2,.int .i64 c),(3,.int .i64 d)]/\h'=h/\gu idom number m c d=some r) n ⟨a,b,rfl,rfl,hc⟩ ?_;rintro m ρ h' ⟨c,d,rfl,rfl,hc⟩ K2 hK2;cases m with
 | zero=>cases hc
 | succ m=>
  rw[gu]at hc;split at hc;case isFalse=>cases hc
  rename_i hr;obtain⟨r1,r2,r3,r4,r5,r6⟩:=hr;simp(disch:=omega)[L.cB.l1,hn.idx1 rfl,hn.int (View.le_refl _)];refine⟨fun h1=>?_,fun h1=>?_⟩
  ·rw[if_pos h1]at hc;simp(disch:=omega)[hi.idx1 rfl,hi.int (View.le_refl _)];exact hK2 m _ _ (by omega) ⟨_,_,rfl,rfl,hc⟩
  rw[if_neg (by omega)]at hc;refine⟨fun h2=>?_,fun h2=>?_⟩
  ·rw[if_pos h2]at hc;simp(disch:=omega)[hi.idx1 rfl,hi.int (View.le_refl _)];exact hK2 m _ _ (by omega) ⟨_,_,rfl,rfl,hc⟩
  rw[if_neg (by omega)]at hc;cases hc;exact hK _ _ ⟨rfl,rfl⟩
structure Wo (W:View) (h:Heap) (B:Nat) (vt vl:Value) (s:List Bool × List Int):Prop where
 wle:W.le (vw h)
 box:h[B]? = some (.cells #[vl] T.ck (0,0))
 wB:W B=none
 avt:Av W vt
 avl:Av W vl
 nt:vt.ownBlock≠some B
 nl:vl.ownBlock≠some B
 ne:vl.ownBlock=none\/vl.ownBlock≠vt.ownBlock
 ot:OwnT nothing h T.bool vt s.1
 ol:OwnT nothing h T.int vl s.2
 nn:vt.ownBlock=none\/vt.ownBlock≠vl.ownBlock
theorem Wo.lt{W:View}{h:Heap}{B:Nat}{vt vl:Value}{s:List Bool × List Int}(k:Wo W h B vt vl s):B<h.size:=(Dx.1 k.box).1
theorem Wo.ext {W:View} {h h':Heap} {B:Nat} {vt vl:Value} {s:List Bool × List Int} (k:Wo W h B vt vl s) (hle:(vw h).le (vw h')):Wo W h' B vt vl s:=
 {k with wle:=View.le_trans k.wle hle,box:=hle _ _ k.box,ot:=k.ot.ext hle,ol:=k.ol.ext hle }
variable{vt vl:Value}
theorem Wo.flag{h:Heap}{B:Nat}{s:List Bool × List Int}{t':List Bool}(k:Wo W h B vt vl s)(o:OwnT nothing h' T.bool vt t')(m:ic h h' vt vt):Wo W h' B vt vl (t',s.2):=
 {k with
  wle:=(m.view k.wle k.avt).1
  box:=by rw[m.kept.block B k.lt (fun e=>k.nt e.symm)];exact k.box
  ot:=o
  ol:=k.ol.kept m.kept k.ne }
theorem Wo.BM{h h'':Heap}{B:Nat}{vl':Value}{s:List Bool × List Int}{l':List Int}(k:Wo W h B vt vl s)(o:OwnT nothing h' T.int vl' l')(m:ic h h' vl vl')(hsz:h''.size=h'.size)(hB:h''[B]? = some (.cells #[vl'] T.ck (0,0)))(hoth : ∀j,j≠B->h''[j]? = h'[j]?):Wo W h'' B vt vl' (s.1,l'):=by
 obtain⟨hw',ha'⟩:=m.view k.wle k.avl;have hlt:=k.lt;have nl':vl'.ownBlock≠some B:=by
  rcases m.at_ with e | e
  ·rw[e];exact k.nl
  rw[e];intro e2;cases e2;omega
 have kep:Kept h' h'' (some B):=⟨by omega,fun j _ hj=>hoth j (fun e=>hj (by rw[e]))⟩;refine⟨fun b x hb=>?_,hB,k.wB,k.avt,ha',k.nt,nl',?_,?_,?_,?_⟩
 ·have hne:b≠B:=fun e=>by rw[e,k.wB]at hb;cases hb
  show h''[b]? = _;rw[hoth b hne];exact hw' b x hb
 ·rcases m.at_ with e | e
  ·rw[e];exact k.ne
  right;rw[e];intro e2;have:=k.ot.lt e2.symm;omega
 ·exact(k.ot.kept m.kept k.nn).kept kep (.inr k.nt)
 ·exact o.kept kep (.inr nl')
 rcases m.at_ with e | e
 ·rw[e];exact k.nn
 right;rw[e];intro e2;have:=k.ot.lt e2;omega
theorem Wo.cell{h:Heap}{B:Nat}{s:List Bool × List Int}(k:Wo W h B vt vl s):ag (vw h) ⟨B,0,none⟩=some vl:=by simp[ag,vw,k.box]
def nx (rows:Gr) (a:Int):List Int:=nth rows a.toNat
theorem sK {rows:Gr} {vr:Value} {Tp R O:Addr} {B:Nat} (hs:rows.length<=1000000) (hin : ∀i,i<rows.length->∀j,j<(nth rows i).length->0<=nth (nth rows i) j/\nth (nth rows i) j<rows.length) : ∀(n:Nat) {M:Nat} {W:View} {h:Heap} {vt vl:Value} {s:List Bool × List Int} {a:Int},Wo W h B vt vl s->SlRd W vr rows->
  ag W Tp=some vt->ag W R=some vr->ag W O=some (.func (.func N.aX) #[] #[.pointer (some Tp),.pointer (some R),.pointer (some O),.pointer (some ⟨B,0,none⟩)])->0<=a->a<rows.length->s.1.length=rows.length->nth s.1 a.toNat=false->
  cr s.1<=n->s.2.length+cr s.1<=M->M<=1000000->
  aj Tryz.prog N.aX #[.int .i64 a,.pointer (some Tp),.pointer (some R),.pointer (some O),.pointer (some ⟨B,0,none⟩)] h (fun _ h'=>∃vl',Wo W h' B vt vl' (fB (nx rows) n a s)/\(fB (nx rows) n a s).2.length+cr (fB (nx rows) n a s).1<=M)
 | 0,M,W,h,vt,vl,s,a,k,hg,hT,hR,hO,h0,h1,hl,hf,hc,hb,hM=>by exfalso;have:=fq (t:=s.1) (i:=a.toNat) (by omega) hf;omega
 | n+1,M,W,h,vt,vl,(t,l),a,k,hg,hT,hR,hO,h0,h1,hl,hf,hc,hb,hM=>by
  obtain⟨i,rfl⟩:=Fj h0;simp only at hl hf hc hb;have hfs:=fq (t:=t) (i:=i) (by omega) (by simpa using hf);refine ah (args:=[.int .i64 i,.pointer (some Tp),.pointer (some R),.pointer (some O),.pointer (some ⟨B,0,none⟩)]) follows F.aX E.aX (Dv (by kernel_rfl)) fun K hK=>?_;have hnow:SlRd (vw h) vt t:=k.ot.now (fun _ _ h=>by cases h)
  simp(disch:=omega)[L.aX,ab k.wle hT,hnow.idx1 rfl];refine pb (W:=nothing) (i:=i) (d:=true) (by kernel_rfl) (by simp[show Rep.n Bool=1 from rfl]) (by simp<;>rfl) k.ot (by simpa using by omega) CY fun h2 o2 m2=>?_;have k2:=k.flag o2 m2;have hg2:=hg.mono k2.wle;obtain⟨rv,hrv⟩:=hg.rows;obtain⟨cv,rr⟩:=hrv i (by omega);have br:=rr.bound;have hov:fB (nx rows) (n+1) i (t,l)=((up (bM (nx rows) n i) (nx rows i).length (t.set i true,l)).1,(up (bM (nx rows) n i) (nx rows i).length (t.set i true,l)).2++[(i:Int)]):=fV;rw[hov]at hK;have hnx:nx rows i=nth rows i:=rfl;rw[hnx]at hK;simp(disch:=omega)[ab k2.wle hR,hg2.idx1 rfl,cv _ k2.wle,rr.len];refine ao [0,1,2,3,4,14,15,16] (fun(_:Value) j=>[.int .i64 i,.pointer (some Tp),.pointer (some R),.pointer (some O),.pointer (some ⟨B,0,none⟩),rv i,.int .i64 (nth rows i).length,.int .i64 j]) (fun vl j h4=>Wo W h4 B vt vl (up (bM (nx rows) n i) j (t.set i true,l))/\(up (bM (nx rows) n i) j (t.set i true,l)).2.length+cr (up (bM (nx rows) n i) j (t.set i true,l)).1<=M-1) (nth rows i).length vl
   rfl (by omega) rfl ⟨k2,by simp[up];omega⟩ (fun _ _=>rfl) (fun v j h4 hk m=>by simp) ?_ ?_
  ·rintro vl j h4 hltj ⟨k4,hb4⟩ K2 hK2;have hinv:=yb (fun s:List Bool × List Int=>s.1.length=rows.length/\cr s.1<=n) (f:=bM (nx rows) n i) (fun k x hx=>by
    unfold bM;split
    ·exact hx
    exact kc n _ x hx) j (t.set i true,l) ⟨by simpa using hl,by simp only;omega⟩;generalize hx:up (bM (nx rows) n i) j (t.set i true,l)=x at k4 hb4 hinv;obtain⟨e0,e1⟩:=hin i (by omega) j hltj;have hr4:=rr.mono k4.wle;have hnow4:=k4.ot.now (fun _ _ h=>by cases h);simp(disch:=omega)[ab k4.wle hT,hr4.idx1 rfl,hr4.int (View.le_refl _),hnow4.idx1 rfl,hnow4.bool (View.le_refl _),fU];refine⟨fun he=>?_,fun he=>hK2 vl _ _ rfl rfl ?_⟩
   ·simp[ab k4.wle hO];refine bL (ops:=[.tmp 26]) rfl (by kernel_rfl) (by simpa using sK hs hin n k4 hg hT hR hO e0 e1 hinv.1 he hinv.2 hb4 (by omega)) ?_;rintro _ h5 ⟨⟨vl',k5⟩,hb5⟩;have hst:up (bM (nx rows) n i) (j+1) (t.set i true,l)=fB (nx rows) n (nth (nth rows i) j) x:=by rw[up,hx,bM,show nx rows i=nth rows i from rfl,he];rfl
    refine hK2 vl' _ _ rfl rfl ?_;rw[hst];exact⟨k5,hb5⟩
   have hst:up (bM (nx rows) n i) (j+1) (t.set i true,l)=x:=by rw[up,hx,bM,show nx rows i=nth rows i from rfl,he];rfl
   rw[hst];exact⟨k4,hb4⟩
  rintro vl h4 ⟨k4,hb4⟩;generalize hx:up (bM (nx rows) n i) (nth rows i).length (t.set i true,l)=x at k4 hb4 hK;simp[k4.cell];refine rF (α:=Int) (W:=nothing) El.ck (by simp<;>rfl) (lX (by omega) (by omega)) fun u h5 hsrc hle5 _=>?_;have k5:=k4.ext hle5;refine fY El.ck (by simp) (by simp) k5.ol hsrc (by simp;omega) (by simp;omega) fun vl' h6 o6 m6=>?_;have hB6:h6[B]? = some (.cells #[vl] T.ck (0,0)):=by rw[m6.kept.block B k5.lt (fun e=>k5.nl e.symm)];exact k5.box
  obtain⟨hcells,hone⟩:=gN o6;refine dk (g:=B) (o:=0) (n:=1) (v:=vl') (by kernel_rfl) (by simp) (by simp) (by rw[hcells];rfl) (by rw[hcells];simpa using hone) hB6 (by simp) fun h7 hsz7 ⟨row,hrow,he⟩ hoth=>hK _ _ ⟨vl',?_,?_⟩
  ·have hrow2:row = #[vl']:=by rw[<-Array.toList_inj,he,hcells];rfl
   rw[hrow2]at hrow;exact k5.BM o6 m6 hsz7 hrow hoth
  simp;omega
def aC (g:Gr):List Int:=gG (nx (cm g)) g.length
theorem eO{g:Gr}:(cm g).length=g.length:=by simp[cm]
theorem nh{g:Gr}: ∀i,i<(cm g).length->∀j,j<(nth (cm g) i).length->0<=nth (nth (cm g) i) j/\nth (nth (cm g) i) j<(cm g).length:=by
 intro i hi j hj;rw[eO]at hi;have hm:=bT hj;rw[cm,eu hi,gI]at hm;have h2:=kg hm;rw[kr,FQ,kM]at h2;simp only[Ex,EP,EC,jN,DC,decide_eq_true_eq]at h2;obtain⟨k,⟨_,h3⟩,h4⟩:=h2;rw[eO];have e:nth (nth (cm g) i) j=nth (nth g i) k:=by rw[cm,eu hi,gI,h4,kr,kM]
 rw[e];exact h3
theorem tG{g:Gr}{h:Heap}(hg:SlRd (vw h) vg g)(hs:Sm g):
  aj Tryz.prog N.dD #[vg] h (fun v h'=>(vw h).le (vw h')/\SlRd (fresh h h') v (aC g)):=by
 refine ah (args:=[vg]) follows F.dD E.dD (Dv (by kernel_rfl)) fun K hK=>?_;have hs1:=hs.1;simp[L.dD,hg.len];refine⟨fun h0=>?_,fun h0=>?_⟩
 ·exact hK _ _ ⟨View.le_refl _,⟨none,0,by simp[aC,gG,h0],by simp[aC,gG,h0],by simp[aC,gG,h0],.inl (by simp[aC,gG,h0])⟩⟩
 refine af (by kernel_rfl) (ti hg hs) ?_;rintro vr h1 ⟨W1,m1⟩;have hvr:=m1.now;obtain⟨hrc,hro⟩:=gN m1.own;refine mW (z:=.slice none 0 0) (by kernel_rfl) rfl (by kernel_rfl) hrc hro (fun _=>by simp) (fun _=>by simp) fun h2 hle2 hsz2 hR2=>?_;refine qZ (W:=nothing) (n:=g.length) (d:=false) El.rG (by simp<;>rfl) (by simp<;>rfl) rfl (by omega) (by omega) fun vt h3 o3 m3 hle3 hb3=>?_;obtain⟨htc,hto⟩:=gN o3;refine mW (z:=.slice none 0 0) (by kernel_rfl) rfl (by kernel_rfl) htc hto (fun _=>by simp) (fun _=>by simp) fun h4 hle4 hsz4 hT4=>?_;refine dF (z:=.slice none 0 0) (by kernel_rfl) ?_;refine dF (z:=.nilFunc) (by kernel_rfl) ?_;have hsz3:h2.size<h3.size:=o3.lt hb3
 have hle6:(vw h4).le (vw ((h4.push (.cells (Value.slice none 0 0).cells T.ck)).push (.cells Value.nilFunc.cells T.sn))):=View.le_trans (bG _ _) (bG _ _);refine dk (g:=h4.size+1) (o:=0) (n:=1) (e:=T.sn) (cur:=#[.nilFunc]) (v:=.func (.func N.aX) #[] #[.pointer (some ⟨h3.size,0,none⟩),.pointer (some ⟨h1.size,0,none⟩),.pointer (some ⟨h4.size+1,0,none⟩),.pointer (some ⟨h4.size,0,none⟩)]) (by kernel_rfl) (by simp) (by simp) rfl (by simp[Value.cells,Value.oneCell']) (by rw[show h4.size+1=(h4.push (.cells (Value.slice none 0 0).cells T.ck)).size by simp];exact E8) (by simp) fun h7 hsz7 ⟨row,hrow,he⟩ hoth=>?_;have hrow2:row = #[.func (.func N.aX) #[] #[.pointer (some ⟨h3.size,0,none⟩),.pointer (some ⟨h1.size,0,none⟩),.pointer (some ⟨h4.size+1,0,none⟩),.pointer (some ⟨h4.size,0,none⟩)]]:=by rw[<-Array.toList_inj,he];rfl
 rw[hrow2]at hrow;have hle7:(vw h4).le (vw h7):=fun b o hb=>by have hlt:=View.lt (View.le_refl (vw h4)) hb;show h7[b]? = _;rw[hoth b (by omega)];exact hle6 b o hb
 have hL7:h7[h4.size]? = some (.cells #[.slice none 0 0] T.ck (0,0)):=by rw[hoth _ (by omega),Array.getElem?_push,if_neg (by simp),E8];rfl
 have hle27:=View.le_trans hle3 (View.le_trans hle4 hle7);have hle17:=View.le_trans hle2 hle27;obtain⟨W,hW⟩ : ∃W:View,W=fun b=>if b=h2.size\/b=h4.size then none else h7[b]?:=⟨_,rfl⟩;have hWle:W.le (vw h7):=by
  intro b o hb;rw[hW]at hb;simp only at hb;split at hb
  ·cases hb
  exact hb
 have hW1:(vw h1).le W:=fun b o hb=>by have hlt:=View.lt (View.le_refl (vw h1)) hb;rw[hW];simp only;rw[if_neg (by omega)];exact hle17 b o hb
 have k7:Wo W h7 h4.size vt (.slice none 0 0) (List.replicate g.length false,[]):=
  ⟨hWle,hL7,by rw[hW];simp,fun b hb=>by rw[hb3]at hb;cases hb;rw[hW];simp,Av.nil _ _ _,by rw[hb3];intro e;simp only[o0]at e;omega,by simp[Value.ownBlock],.inl rfl,
   (o3.ext hle4).ext hle7,OwnT.nil ..,.inr (by rw[hb3];simp[Value.ownBlock])⟩
 have hT:ag W ⟨h3.size,0,none⟩=some vt:=by
  have h5:W h3.size=some (.cells #[vt] T.rG (0,0)):=by rw[hW];simp only;rw[if_neg (by omega)];exact hle7 _ _ hT4
  simp[ag,h5]
 have hR:ag W ⟨h1.size,0,none⟩=some vr:=by
  have h5:W h1.size=some (.cells #[vr] T.fZ (0,0)):=by rw[hW];simp only;rw[if_neg (by omega)];exact hle27 _ _ hR2
  simp[ag,h5]
 have hO:ag W ⟨h4.size+1,0,none⟩=some (.func (.func N.aX) #[] #[.pointer (some ⟨h3.size,0,none⟩),.pointer (some ⟨h1.size,0,none⟩),.pointer (some ⟨h4.size+1,0,none⟩),.pointer (some ⟨h4.size,0,none⟩)]):=by
  have h5:W (h4.size+1)=h7[h4.size+1]?:=by rw[hW];simp only;rw[if_neg (by omega)]
  rw[hrow]at h5;simp[ag,h5]
 have hvrW:=hvr.mono hW1;have hlen:g.length≠0:=by simpa using h0
 have hcl:=eO (g:=g);have hfa:cr (List.replicate g.length false)=g.length:=by simp[cr]
 simp[ab hWle hO];refine bL (ops:=[.const (.int .i64 0)]) (f:=N.aX) (caps:=#[.pointer (some ⟨h3.size,0,none⟩),.pointer (some ⟨h1.size,0,none⟩),.pointer (some ⟨h4.size+1,0,none⟩),.pointer (some ⟨h4.size,0,none⟩)]) (by simp) (by kernel_rfl)
  (by simpa using sK (by omega) nh g.length (M:=g.length) k7 hvrW hT hR hO (a:=0) (by omega) (by omega) (by simp[hcl]) (by rw[aq (by simp;omega)];simp) (by rw[hfa];exact Dy _) (by simp[hfa]) (by omega)) ?_;rintro _ h8 ⟨⟨vl,k8⟩,hb8⟩;have hord:aC g=(fB (nx (cm g)) g.length 0 (List.replicate g.length false,[])).2.reverse:=by simp[aC,gG,h0]
 rw[hord]at hK;generalize fB (nx (cm g)) g.length 0 (List.replicate g.length false,[])=s at k8 hb8 hK;simp[k8.cell];refine af (by kernel_rfl) (uF k8.ol) ?_;rintro _ h9 ⟨o9,k9⟩;have hB9:h9[h4.size]? = some (.cells #[vl] T.ck (0,0)):=by rw[k9.block _ k8.lt (fun e=>k8.nl e.symm)];exact k8.box
 have hc9:ag (vw h9) ⟨h4.size,0,none⟩=some vl:=by simp[ag,vw,hB9]
 have hW9:=k9.view k8.wle k8.avl;have hle9:(vw h).le (vw h9):=View.le_trans (View.le_trans m1.old hW1) hW9;have hav:Av (vw h) vl:=fun b hb=>by
  cases hx:vw h b with
  | none=>rfl
  | some o=>have:=(View.le_trans m1.old hW1) _ _ hx;rw[k8.avl b hb]at this;cases this
 simp[hc9];exact hK _ _ ⟨hle9,o9.fresh (fun _ _ h=>by cases h) hav⟩
def fR (f:Nat->List Int) (n:Nat):List (Int × Int):=(List.range n).flatMap fun a=>(f a).map fun b=>((a:Int),b)
theorem fo{f:Nat->List Int}:fR f (n+1)=fR f n++(f n).map fun b=>((n:Int),b):=by simp[fR,ER]
theorem xg{f:Nat->List Int}{m:Nat}(h:n<=m): ∃t,fR f m=fR f n++t:=by
 induction m with
 | zero=>exact⟨[],by simp[show n=0 by omega]⟩
 | succ m ih=>
  rcases DA n (m+1)with h1 | h1
  ·obtain⟨t,ht⟩:=ih (by omega);exact⟨t++(f m).map fun b=>((m:Int),b),by rw[fo,ht,DG]⟩
  exact⟨[],by simp[show n=m+1 by omega]⟩
theorem xZ{f:Nat->List Int}{a j:Nat}(ha:a<n)(hj:j<(f a).length):(fR f n)[(fR f a).length+j]? = some ((a:Int),nth (f a) j):=by obtain⟨t,ht⟩:=xg (f:=f) (n:=a+1) (m:=n) (by omega);rw[ht,fo,DG,List.getElem?_append_right (by omega),F5,FU (by simpa using hj)];simp[aq hj,hj]
def e9 (g:Gr):List (Int × Int):=fR (fun a=>nth (cm g) a) g.length
def yG (e:Int × Int):List Value:=[.int .i64 e.1,.int .i64 e.2]
def qP (g:Gr):List (List Value):=(e9 g).map yG
theorem yI{h:Heap}:
  aj Tryz.prog N.dP #[vg] h (fun v h'=>v = .func (.func N.bw) #[] #[.pointer (some ⟨h.size,0,none⟩)]/\h'=h.push (.cells vg.cells T.fZ)):=by refine ah (args:=[vg]) follows F.dP E.dP (Dv (by kernel_rfl)) fun K hK=>?_;simp[L.dP];refine cS rfl ?_;simp;exact hK _ _ ⟨rfl,rfl⟩
theorem tO{g:Gr}{V:View}{p:Addr}(hg:SlRd V vg g)(hp:ag V p=some vg)(hs:Sm g):Iter Tryz.prog N.bw [.pointer (some p)] V (qP g):=by
 intro l J W h hM hV hVl h0 hround;have hW:=(hM true 0).le h0;refine ah (args:=[.func (.yield l) #[] #[],.pointer (some p)]) follows F.bw E.bw (Dv (by kernel_rfl)) fun K hK=>?_;simp[L.bw,ab (View.le_trans hV hW) hp];refine af (by kernel_rfl) (ti (hg.mono (View.le_trans hV hW)) hs) ?_;rintro vr h1 ⟨W1,m1⟩;have hJ1:=(hM true 0).grown h0 (Dy _) m1.old
 have hr1:=m1.fresh.mono (lM W h h1);have hag : ∀b,b<h.size->grow W h h1 b=W b:=fun b hb=>eS hb;generalize grow W h h1=W2 at hJ1 hr1 hag;have hlen:=hr1.bound
 have hcl:=eO (g:=g);obtain⟨rv,hrv⟩:=hr1.rows;simp[hr1.len];have hall : ∀{a j:Nat},a<(cm g).length->j<(nth (cm g) a).length->(qP g)[(fR (fun a=>nth (cm g) a) a).length+j]? = some [.int .i64 a,.int .i64 (nth (nth (cm g) a) j)]:=by intro a j ha hj;rw[qP,EW,e9,xZ (f:=fun a=>nth (cm g) a) (by omega) hj];rfl
 refine ao [0,8,9,10] (fun(_:Unit) k=>[.func (.yield l) #[] #[],vr,.int .i64 (cm g).length,.int .i64 k]) (fun _ k h2=>J true (fR (fun a=>nth (cm g) a) k).length W2 h2) (cm g).length ()
  rfl (by omega) rfl hJ1 (fun _ _=>rfl) (fun v k h1 hk m=>by simp) ?_ ?_
 ·intro _ a h2 hlt hJ2 K2 hK2;have hW2:=(hM _ _).le hJ2;obtain⟨cv,rr⟩:=hrv a hlt;have br:=rr.bound;simp(disch:=omega)[hr1.idx1 rfl,cv _ hW2,rr.len];refine ao [0,8,9,10,3,15,16,17] (fun(_:Unit) j=>[.func (.yield l) #[] #[],vr,.int .i64 (cm g).length,.int .i64 a,.int .i64 a,rv a,.int .i64 (nth (cm g) a).length,.int .i64 j])
   (fun _ j h3=>J true ((fR (fun a=>nth (cm g) a) a).length+j) W2 h3) (nth (cm g) a).length () rfl (by omega) rfl hJ2 (fun _ _=>rfl) (fun v k h1 hk m=>by simp) ?_ ?_
  ·intro _ j h3 hlt3 hJ3 K3 hK3;have hW3:=(hM _ _).le hJ3;simp(disch:=omega)[rr.idx1 rfl,rr.int hW3];refine yR (ops:=[.tmp 22,.tmp 23]) rfl (by simpa using hround _ _ W2 h3 hag (hall hlt hlt3) hJ3) ?_;rintro b h4 ⟨W4,e1,e2,hJ4⟩;cases b with
   | true=>obtain rfl:=e2 rfl;simp[fU];exact hK3 () _ _ rfl rfl hJ4
   | false=>simp[fU];exact hK _ _ ⟨false,_,W4,fun i hi hne=>by rw[e1 i hne,hag i hi],hJ4,fun h=>by cases h⟩
  intro _ h3 hJ3;simp;refine hK2 () _ _ rfl rfl ?_;rw[fo,DT,ES];exact hJ3
 intro _ h2 hJ2;simp;refine hK _ _ ⟨true,_,W2,fun i hi _=>hag i hi,hJ2,fun _=>?_⟩;rw[qP,ES,e9,hcl]
def dy (p:Gr) (e:Int × Int):Gr:=p.set e.2.toNat (nth p e.2.toNat++[e.1])
def cy (g:Gr):Gr:=(e9 g).foldl dy (List.replicate g.length [])
theorem n6{β γ:Type}{f:β->γ->β}{l:List γ}{k:Nat}{x:γ}{b:β}(h:l[k]? = some x):(l.take (k+1)).foldl f b=f ((l.take k).foldl f b) x:=by rw[List.take_add_one,h,EX];rfl
theorem kC{g:Gr}{e:Int × Int}(h:e∈e9 g):(0<=e.1/\e.1<g.length)/\0<=e.2/\e.2<g.length:=by simp only[e9,fR,List.mem_flatMap,EC,Ex]at h;obtain⟨a,ha,b,hb,rfl⟩:=h;obtain⟨j,hj,rfl⟩:=DO hb;have:=nh a (by rw[eO];exact ha) j hj;rw[eO,aq hj]at this;exact⟨⟨by omega,by simp only;omega⟩,this⟩
theorem jk{l:List (Int × Int)}{p:Gr}:(l.foldl dy p).length=p.length:=by
 induction l generalizing p with
 | nil=>rfl
 | cons e l ih=>rw[DS,ih];simp[dy]
theorem sN{l:List (Int × Int)}{p:Gr}{i m:Nat}(hp:(nth p i).length<=m):(nth (l.foldl dy p) i).length<=m+l.length:=by
 induction l generalizing p m with
 | nil=>exact hp
 | cons e l ih=>
  rw[DS];have:=ih (p:=dy p e) (m:=m+1) ?_
  ·simp only[Ek];omega
  unfold dy;rcases DA i p.length with hi | hi
  ·rw[cg hi];split
   ·rename_i h;rw[h];simp;omega
   omega
  rw[fF (by simpa using hi)];simp[default]
theorem qa{n:Int}:(gI row n).length<=row.length:=by have h1:=rU (p:=jN row n) (x:=fun i=>nth row i) row.length;have h2:(kr (sift (jN row n) (fun i=>nth row i) row.length)).length=(sift (jN row n) (fun i=>nth row i) row.length).length:=List.length_mergeSort _;have h3:=nX (l:=kr (sift (jN row n) (fun i=>nth row i) row.length));rw[gI];omega
theorem xl{f:Nat->List Int}{m:Nat}(h : ∀a,a<n->(f a).length<=m):(fR f n).length<=n*m:=by
 induction n with
 | zero=>simp[fR]
 | succ n ih=>
  have:=ih fun a ha=>h a (by omega);have:=h n (by omega)
  rw[fo,DT,ES,D9];omega
theorem vk{g:Gr}(hs:Sm g):(e9 g).length<=1000000000000:=by
 have h1:=xl (f:=fun a=>nth (cm g) a) (n:=g.length) (m:=1000000) fun a ha=>by have:=hs.2 a ha;rw[cm,eu ha];exact DW qa this
 have h2:g.length*1000000<=1000000*1000000:=DP _ hs.1;rw[e9];omega
theorem ta{g:Gr}{h:Heap}(hg:SlRd (vw h) vg g)(hs:Sm g):
  aj Tryz.prog N.dK #[vg] h (fun v h'=>(vw h).le (vw h')/\SlRd (fresh h h') v (cy g)):=by
 refine sE (args:=[vg]) follows F.dK E.dK (Dv (by kernel_rfl)) fun K hK=>?_;have hs1:=hs.1;have hel:=vk hs;simp[L.dK,hg.len];refine yL (n:=g.length) El.fZ (by simp<;>rfl) (by simp<;>rfl) rfl (by omega) (by omega) ?_;refine mW (z:=.slice none 0 0) (v:=.slice (some ⟨h.size,0,none⟩) g.length g.length) (by kernel_rfl) rfl (by kernel_rfl) rfl rfl (fun _=>by simp) (fun _=>by simp) fun h2 hle2 hsz2 hB2=>?_;have hle02:(vw h).le (vw h2):=View.le_trans (bG _ _) hle2
 have hg2:h2[h.size]? = some (.cells (List.replicate g.length (.slice none 0 0)).toArray T.ck (0,0)):=hle2 _ _ (show(h.push _)[h.size]? = _ by simp);simp at hsz2 hB2;simp;refine af (by kernel_rfl) yI ?_;rintro _ _ ⟨rfl,rfl⟩;have hgc:=hg.cells.1;rw[hgc];have hle3:=bG h2 (.cells #[vg] T.fZ);generalize hh3:h2.push (.cells #[vg] T.fZ)=h3 at hle3;have hsz3:h3.size=h.size+3:=by rw[<-hh3];simp[hsz2]
 obtain⟨W0,hW0⟩ : ∃W:View,W=fun b=>if b=h.size then none else h3[b]?:=⟨_,rfl⟩;have hW0le:W0.le (vw h3):=fun b o hb=>by
  rw[hW0]at hb;simp only at hb;split at hb
  ·cases hb
  exact hb
 have h0W:(vw h).le W0:=fun b o hb=>by have hlt:=View.lt (View.le_refl (vw h)) hb;rw[hW0];simp only;rw[if_neg (by omega)];exact View.le_trans hle02 hle3 b o hb
 have hp3:ag W0 ⟨h2.size,0,none⟩=some vg:=by
  have e:W0 h2.size=some (.cells #[vg] T.fZ (0,0)):=by rw[hW0];simp only;rw[if_neg (by omega),<-hh3];simp
  simp[ag,e]
 have hB3:W0 (h.size+1)=some (.cells #[.slice (some ⟨h.size,0,none⟩) g.length g.length] T.fZ (0,0)):=by rw[hW0];simp only;rw[if_neg (by omega)];exact hle3 _ _ hB2
 refine uK (enc:=yG) (all:=e9 g) (gf:=N.bw) (caps:=[.pointer (some ⟨h2.size,0,none⟩)]) W0 W0 (fun e k W h'=>e=none/\∃rv,Rw W h' T.ck T.int h.size rv (((e9 g).take k).foldl dy (List.replicate g.length [])))
  rfl (by kernel_rfl) (tO (hg.mono h0W) hp3 hs) (fun _=>rfl) (View.le_refl _) (fun e k=>⟨fun⟨_,rv,r⟩=>r.wle,fun⟨a,rv,r⟩ _ h1 h2 _=>⟨a,rv,r.move h1 h2⟩⟩) ⟨rfl,_,Rw.start hW0le (by rw[hW0];simp) (hle3 _ _ hg2)⟩
  (fun x h1=>by simp[yG,cG];rfl) ?_ ?_ ?_
 ·rintro k e W h1 hag hk ⟨_,rv,r⟩ K2 hK2 _;have he:=kC (DY hk);have hk1:k<(e9 g).length:=(E3.1 hk).1;have hst:=n6 (f:=dy) (b:=List.replicate g.length []) hk;have hpl:=jk (l:=(e9 g).take k) (p:=List.replicate g.length []);have hrl:=sN (l:=(e9 g).take k) (p:=List.replicate g.length []) (i:=e.2.toNat) (m:=0) (by rw[aB (by omega)];simp);rw[Ef]at hrl;rw[D2]at hpl;generalize hp:((e9 g).take k).foldl dy (List.replicate g.length [])=p at r hst hpl hrl;have hlt:=r.lt;have hB1:h1[h.size+1]? = some (.cells #[.slice (some ⟨h.size,0,none⟩) g.length g.length] T.fZ (0,0)):=r.wle _ _ (by rw[hag _ (by omega)];exact hB3);have hlt1:=(Dx.1 hB1).1;obtain⟨H,hH⟩ : ∃H:View,H=fun b=>if b=h.size\/b=h.size+1 then h1[b]? else none:=⟨_,rfl⟩;have hHle:H.le (vw h1):=fun b o hb=>by
   rw[hH]at hb;simp only at hb;split at hb
   ·exact hb
   cases hb
  have c1:ag H ⟨h.size+1,0,none⟩=some (.slice (some ⟨h.size,0,none⟩) g.length g.length):=bS (by rw[hH];simp only;rw[if_pos (by simp)];exact hB1) rfl;have hlen:=r.len;have c2:ag H ⟨h.size,e.2.toNat,none⟩=some (nth rv e.2.toNat):=bS (by rw[hH];simp only;rw[if_pos (by simp)];exact r.blk) (by rw[aq (by omega)];simp);refine bR H hHle ?_;simp(disch:=omega)[c1,c2,Aw];refine rF (α:=Int) (W:=nothing) El.ck (by simp<;>rfl) (lX (by omega) (by omega)) fun u h4 hsrc hle4 _=>⟨View.le_trans hHle hle4,?_⟩;have r4:=r.ext hle4
  have hi:e.2.toNat<p.length:=by omega
  refine fY El.ck (by simp) (by simp) (r4.own _ hi) hsrc (by simp;omega) (by simp;omega) fun v' h5 o5 m5=>?_;have hg5:h5[h.size]? = some (.cells rv.toArray T.ck (0,0)):=by rw[m5.kept.block _ r4.lt (fun e=>r4.ng _ hi e.symm)];exact r4.blk
  obtain⟨hcells,hone⟩:=gN o5;have hH5:H.le (vw h5):=by
   intro b o hb;have hlt4:=View.lt (View.le_trans hHle hle4) hb;have h4b:=View.le_trans hHle hle4 b o hb;show h5[b]? = _;rw[m5.kept.block b hlt4 ?_]
   ·exact h4b
   rw[hH]at hb;simp only at hb;split at hb
   ·rename_i e1;rcases e1 with rfl | rfl
    ·exact fun e=>r4.ng _ hi e.symm
    intro e;have:=r4.av _ hi _ e.symm;rw[hag _ (by omega),hB3]at this;cases this
   cases hb
  refine⟨hH5,?_⟩;refine dk (g:=h.size) (o:=e.2.toNat) (n:=1) (v:=v') (by kernel_rfl) (by simp) (by simp) (by rw[hcells];rfl) (by rw[hcells];simpa using hone) hg5 (by simp;omega) fun h6 hsz6 ⟨row,hrow,hre⟩ hoth=>?_;refine hK2 _ _ ⟨rfl,rv.set e.2.toNat v',?_⟩;rw[hst,dy];have hrow2:row=(rv.set e.2.toNat v').toArray:=by rw[<-Array.toList_inj,hre,hcells,Fl,if_pos (by omega)];simp
  rw[hrow2]at hrow;exact r4.put hi o5 m5 hrow hoth hsz6
 ·rintro W h1 hag ⟨_,rv,r⟩;rw[DH (Dy _)]at r;have hB1:h1[h.size+1]? = some (.cells #[.slice (some ⟨h.size,0,none⟩) g.length g.length] T.fZ (0,0)):=r.wle _ _ (by rw[hag _ (by omega)];exact hB3);have c1:ag (vw h1) ⟨h.size+1,0,none⟩=some (.slice (some ⟨h.size,0,none⟩) g.length g.length):=bS hB1 rfl;simp[c1];intro h4 hsw;have hWW:(vw h).le W:=fun b o hb=>by rw[hag b (by have:=View.lt (View.le_refl (vw h)) hb;omega)];exact h0W b o hb
  have hfl:=jk (l:=e9 g) (p:=List.replicate g.length []);rw[D2]at hfl;have hfr:=r.fresh hWW (by omega);rw[hfl]at hfr;exact⟨_,rfl,hK _ _ ⟨hsw.ext (View.le_trans hWW r.wle),hsw.rd hfr⟩⟩
 rintro e k W h1 hag ⟨hne,_⟩;cases hne
def dR (n:Nat) (order:List Int):List Int:=up (fun i l=>l.set (nth order i).toNat (i:Int)) order.length (List.replicate n (-1))
def bstS (out number:List Int) (n:Nat):List Int->Int->Option Int
 | [],best=>some best
 | a::l,best=>
  if 0<=a/\a<n then
   if nth number a.toNat<0\/(a≠0/\nth out a.toNat<0) then bstS out number n l best
   else if best<0 then bstS out number n l a
   else(gu out number (2*n+2) best a).bind (bstS out number n l)
  else none
def setS (out:List Int) (ch:Bool) (b best:Int):List Int × Bool:=if nth out b.toNat≠best then(out.set b.toNat best,true) else(out,ch)
def lz (number:List Int) (preds:Gr) (n:Nat):List Int->List Int × Bool->Option (List Int × Bool)
 | [],s=>some s
 | b::l,s=>
  if 0<=b/\b<n then(bstS s.1 number n (nth preds b.toNat) (-1)).bind fun best=>lz number preds n l (setS s.1 s.2 b best)
  else none
def ja (number:List Int) (preds:Gr) (n:Nat) (tail:List Int):Nat->List Int->Option (List Int)
 | 0,_=>none
 | m+1,out=>(lz number preds n tail (out,false)).bind fun s=>if s.2 then ja number preds n tail m s.1 else some s.1
def pT (g:Gr) (fuel:Nat):Option (List Int):=
 ja (dR g.length (aC g)) (cy g) g.length ((aC g).drop (min 1 (aC g).length)) fuel (List.replicate g.length (-1))
theorem ff {out number:List Int} {c:Int} : ∀{k:Nat} {x y:Int},gu out number k x y=some c->0<=c/\c<number.length
 | 0,x,y,h=>by cases h
 | k+1,x,y,h=>by
  rw[gu]at h;split at h;case isFalse=>cases h
  rename_i hr;split at h
  ·exact ff h
  split at h
  ·exact ff h
  cases h;omega
theorem uk{out:List Int}: ∀{l:List Int} {best r:Int},(-1<=best/\best<n)->out.length=n->number.length=n->(∀i,i<n->-1<=nth out i/\nth out i<n)->bstS out number n l best=some r->-1<=r/\r<n:=by
 intro l;induction l with
 | nil=>intro best r hb _ _ _ h;simp only[bstS,o0]at h;subst h;exact hb
 | cons a l ih=>
  intro best r hb h1 h2 h3 h;rw[bstS]at h;split at h;case isFalse=>cases h
  rename_i ha;split at h
  ·exact ih hb h1 h2 h3 h
  split at h
  ·exact ih ⟨by omega,by omega⟩ h1 h2 h3 h
  simp only[DD]at h;obtain⟨c,hc,h⟩:=h;refine ih ?_ h1 h2 h3 h;have:=ff hc;omega
structure OvOk (m M:Nat) (s:List Bool × List Int):Prop where
 len:s.1.length=m
 cnt:s.2.length+cr s.1<=M
 rng : ∀x∈s.2,0<=x/\x<m
theorem sS {nx:Int->List Int} {m:Nat} (hnx : ∀a:Int,0<=a->a<m->∀i,i<(nx a).length->0<=nth (nx a) i/\nth (nx a) i<m) : ∀(n M:Nat) (a:Int) (s:List Bool × List Int),0<=a->a<m->nth s.1 a.toNat=false->OvOk m M s->OvOk m M (fB nx n a s)
 | 0,_,_,_,_,_,_,h=>h
 | n+1,M,a,s,h0,h1,hf,h=>by
  rw[fV];have hlen:=h.len;have hfs:=fq (t:=s.1) (i:=a.toNat) (by omega) hf;have hc:=h.cnt;have hup : ∀k,k<=(nx a).length->OvOk m (M-1) (up (bM nx n a) k (s.1.set a.toNat true,s.2)):=by
   intro k;induction k with
   | zero=>exact fun _=>⟨by simpa[up]using hlen,by simp only[up];omega,h.rng⟩
   | succ k ih=>
    intro hk;have:=ih (by omega);rw[up];generalize up (bM nx n a) k (s.1.set a.toNat true,s.2)=z at this;unfold bM;split
    ·exact this
    rename_i hz;obtain⟨e0,e1⟩:=hnx a h0 h1 k (by omega);exact sS hnx n (M-1) _ z e0 e1 (by simpa using hz) this
  have:=hup _ (Dy _);exact⟨this.len,by have:=this.cnt;simp;omega,fun x hx=>by
   rcases DE.1 hx with hx | hx
   ·exact this.rng x hx
   simp only[DF]at hx;subst hx;exact⟨h0,h1⟩⟩
theorem qm{nx:Int->List Int}{m:Nat}(hnx : ∀a:Int,0<=a->a<m->∀i,i<(nx a).length->0<=nth (nx a) i/\nth (nx a) i<m):(gG nx m).length<=m/\∀x∈gG nx m,0<=x/\x<m:=by
 unfold gG;split
 ·simp
 rename_i h0;have:=sS hnx m m 0 (List.replicate m false,[]) (by omega) (by omega) (aB (by simp;omega)) ⟨by simp,by simp[cr],by simp⟩;refine⟨?_,fun x hx=>this.rng x (by simpa using hx)⟩;have:=this.cnt;simp;omega
theorem AD{g:Gr}: ∀a:Int,0<=a->a<(g.length:Int)->∀i,i<(nx (cm g) a).length->0<=nth (nx (cm g) a) i/\nth (nx (cm g) a) i<g.length:=by intro a h0 h1 i hi;have:=nh a.toNat (by rw[eO];omega) i hi;rwa [eO]at this
theorem xV{g:Gr}{i:Nat}(hi:i<(aC g).length):0<=nth (aC g) i/\nth (aC g) i<g.length:=
 (qm AD).2 _ (bT hi)
theorem lH{g:Gr}:(aC g).length<=g.length:=(qm AD).1
theorem mS{g:Gr}: ∀{l:List (Int × Int)} {p:Gr},(∀e∈l,0<=e.1/\e.1<g.length)->(∀i,∀x∈nth p i,0<=x/\x<g.length)->∀i,∀x∈nth (l.foldl dy p) i,0<=x/\x<g.length:=by
 intro l;induction l with
 | nil=>exact fun _ h=>h
 | cons e l ih=>
  intro p hl hp;rw[DS];refine ih (fun e' he'=>hl e' (DB _ he')) fun i x hx=>?_;unfold dy at hx;rcases DA i p.length with hi | hi
  ·rw[cg hi]at hx;split at hx
   ·rcases DE.1 hx with hx | hx
    ·exact hp _ x hx
    simp only[DF]at hx;subst hx;exact hl e (Dz ..)
   exact hp _ x hx
  rw[fF (by simpa using hi)]at hx;cases hx
theorem o7{h:Heap}{v v':Value}(m:ic h h' v v')(hw:W.le (vw h))(ha:Av W v):W.le (vw h'):=(m.view hw ha).1
theorem zH{g:Gr}{h:Heap}{fuel:Nat}{l:List Int}(hg:SlRd (vw h) vg g)(hs:Sm g)(hl:pT g fuel=some l):
  aj Tryz.prog N.bz #[vg] h (fun v h'=>∃W,Mine nothing h h' W T.int v l):=by
 refine ah (args:=[vg]) follows F.bz E.bz (Dv (by kernel_rfl)) fun K hK=>?_;have hs1:=hs.1;simp[L.bz,hg.len];refine af (by kernel_rfl) (tG hg hs) ?_;rintro vo h1 ⟨hle1,ho⟩;have hoin:=@xV g;have holen:=lH (g:=g);rw[pT]at hl;generalize aC g=order at ho hoin holen hl;refine Mine.made (V:=nothing) (W:=nothing) (h0:=h) (n:=g.length) (d:=(0:Int)) El.ck hle1 (fun _ _ h=>by cases h) (Old.nothing _ _) (by simp<;>rfl) (by simp<;>rfl) ⟨rfl,by omega,by omega⟩ (by omega) (by omega) fun vn h2 mn hle2 hbn=>?_;refine Mine.made (V:=nothing) (W:=nothing) (h0:=h) (n:=g.length) (d:=(0:Int)) El.ck mn.old (fun _ _ h=>by cases h) (Old.nothing _ _) (by simp<;>rfl) (by simp<;>rfl) ⟨rfl,by omega,by omega⟩ (by omega) (by omega) fun vi h3 mi hle3 hbi=>?_;have mn3:=mn.ext' hle3
 have hne:vn.ownBlock≠vi.ownBlock:=by have:=mn.own.lt hbn;rw[hbn,hbi];intro e;simp only[o0]at e;omega
 have hle13:(vw h1).le (vw h3):=View.le_trans hle2 hle3;have av1n:Av (vw h1) vn:=fun b hb=>by rw[hbn]at hb;cases hb;exact View.cJ (View.le_refl _) (Dy _)
 have av1i:Av (vw h1) vi:=fun b hb=>by rw[hbi]at hb;cases hb;exact View.cJ hle2 (Dy _)
 refine ao [0,3,4,5,25,26] (fun(_:Unit) k=>[vg,vo,vn,vi,.int .i64 g.length,.int .i64 k])
  (fun _ k h4=>Mine nothing h h4 nothing T.int vn (rows (fun _=>(-1:Int)) k++List.replicate (g.length-k) 0)/\Mine nothing h h4 nothing T.int vi (rows (fun _=>(-1:Int)) k++List.replicate (g.length-k) 0)/\(vw h1).le (vw h4)) g.length ()
  rfl (by omega) rfl ⟨by simpa using mn3,by simpa using mi,hle13⟩ (fun _ _=>rfl) (fun v k h1 hk m=>by simp) ?_ ?_
 ·rintro _ k h4 hlt ⟨m4n,m4i,hle4⟩ K2 hK2;have hlk:(rows (fun _=>(-1:Int)) k++List.replicate (g.length-k) (0:Int)).length=g.length:=by simp;omega
  simp(disch:=omega)[m4n.now.idx1 rfl,m4i.now.idx1 rfl];refine pb (W:=nothing) (i:=k) (d:=(-1:Int)) (by kernel_rfl) (by simp[show Rep.n Int=1 from rfl]) (by simp<;>rfl) m4n.own (by omega) (lX (by omega) (by omega)) fun h5 o5 mv5=>?_;have m5n:=m4n.jE o5 mv5;have m5i:=m4i.beside m5n mv5 (.inr (Ne.symm hne));refine pb (W:=nothing) (i:=k) (d:=(-1:Int)) (by kernel_rfl) (by simp[show Rep.n Int=1 from rfl]) (by simp<;>rfl) m5i.own (by omega) (lX (by omega) (by omega)) fun h6 o6 mv6=>?_;have m6i:=m5i.jE o6 mv6
  have m6n:=m5n.beside m6i mv6 (.inr hne);rw[mf (x:=fun _=>(-1:Int)) hlt]at m6i m6n;exact hK2 () _ _ rfl rfl ⟨m6n,m6i,o7 mv6 (o7 mv5 hle4 av1n) av1i⟩
 rintro _ h4 ⟨m4n,m4i,hle4⟩;have hrows:rows (fun _=>(-1:Int)) g.length=List.replicate g.length (-1):=by refine EA (by simp) fun i h1 h2=>?_;simp[rows]
 rw[hrows]at m4n m4i;simp only[F6,List.replicate_zero,EF]at m4n m4i;have ho1:=ho.mono (ij h h1);simp[ho1.len];refine ao [0,3,4,5,36,37,38] (fun(_:Unit) k=>[vg,vo,vn,vi,vo,.int .i64 order.length,.int .i64 k])
  (fun _ k h5=>Mine nothing h h5 nothing T.int vn (up (fun i l=>l.set (nth order i).toNat (i:Int)) k (List.replicate g.length (-1)))/\Mine nothing h h5 nothing T.int vi (List.replicate g.length (-1))/\(vw h1).le (vw h5)) order.length ()
  rfl (by omega) rfl ⟨m4n,m4i,hle4⟩ (fun _ _=>rfl) (fun v k h1 hk m=>by simp) ?_ ?_
 ·rintro _ k h5 hlt ⟨m5n,m5i,hle5⟩ K2 hK2;have hlen5:(up (fun i l=>l.set (nth order i).toNat (i:Int)) k (List.replicate g.length (-1))).length=g.length:=by rw[ry List.length (fun _ _=>by simp)];simp
  have ho5:=ho1.mono hle5;obtain⟨e0,e1⟩:=hoin hlt;simp(disch:=omega)[ho5.idx1 rfl,ho5.int (View.le_refl _),m5n.now.idx1 rfl];refine pb (W:=nothing) (i:=(nth order k).toNat) (d:=(k:Int)) (by kernel_rfl) (by simp[show Rep.n Int=1 from rfl]) (by simp<;>rfl) m5n.own (by omega) (lX (by omega) (by omega)) fun h6 o6 mv6=>?_;have m6n:=m5n.jE o6 mv6
  exact hK2 () _ _ rfl rfl ⟨m6n,m5i.beside m6n mv6 (.inr (Ne.symm hne)),o7 mv6 hle5 av1n⟩
 rintro _ h5 ⟨m5n,m5i,hle5⟩;have hnum:up (fun i l=>l.set (nth order i).toNat (i:Int)) order.length (List.replicate g.length (-1))=dR g.length order:=rfl;rw[hnum]at m5n;have hnl:(dR g.length order).length=g.length:=by rw[dR,ry List.length (fun _ _=>by simp)];simp
 simp;refine af (by kernel_rfl) (ta (hg.mono m5n.old) hs) ?_;rintro vp h6 ⟨hle6,hp⟩;have hpl:(cy g).length=g.length:=by rw[cy,jk];simp
 have hpin : ∀i,∀x∈nth (cy g) i,0<=x/\x<g.length:=mS (fun e he=>(kC he).1) (fun i x hx=>by
  rcases DA i g.length with hi | hi
  ·rw[aB hi]at hx;cases hx
  rw[fF (by simpa using hi)]at hx;cases hx);have m6:=(m5i.ext' hle6).over;have hn6:SlRd (but vi h6) vn (dR g.length order):=(m5n.own.rd (V:=but vi h5) (fun _ _ h=>by cases h) (fun b hb=>by unfold but;rw[if_neg (fun e=>hne (hb.trans e.symm))])).mono (tC hle6)
 have hp6:SlRd (but vi h6) vp (cy g):=hp.mono fun b o hb=>by
  have hb2:=ij _ _ b o hb;unfold but;split
  ·rename_i e;have:=m5i.own.lt e;unfold fresh at hb;rw[if_pos this]at hb;cases hb
  exact hb2
 have ho6:SlRd (but vi h6) vo order:=ho1.mono (View.le_trans (A0 hle5 av1i) (tC hle6));generalize hW:but vi h6=W at m6 hn6 hp6 ho6;generalize dR g.length order=number at hn6 hnl hl;generalize hpr:cy g=preds at hp6 hpl hpin hl;obtain⟨pv,hpv⟩:=hp6.rows;refine je [3,4,5,9,10] (fun m ρ h7=>∃(out:List Int) (ch:Bool),ρ=[(3,vo),(4,vn),(5,vi),(9,vp),(10,.bool ch)]/\Mine (vw h) h h7 W T.int vi out/\out.length=g.length/\(∀i,i<g.length->-1<=nth out i/\nth out i<g.length)/\
  (ch=true->ja number preds g.length (order.drop (min 1 order.length)) m out=some l)/\(ch=false->out=l)) fuel
  ⟨_,true,rfl,m6,by simp,fun i hi=>by rw[aB hi];omega,fun _=>hl,fun h=>by cases h⟩ ?_;rintro m ρ h7 ⟨out,ch,rfl,m7,hol,hor,hch1,hch2⟩ K2 hK2;cases ch with
 | false=>simp[L.bz.l3,fU];have:=hch2 rfl;subst this;exact hK _ _ ⟨_,m7.CG⟩
 | true=>
  have hit:=hch1 rfl;cases m with
  | zero=>cases hit
  | succ m=>
   rw[ja,DD]at hit;obtain⟨⟨out',ch'⟩,hsw,hfin⟩:=hit;simp only at hfin;simp[L.bz.l3,fU];have hmin:(if(order.length:Int)<1 then(order.length:Int) else 1)=((min 1 order.length:Nat):Int):=by split<;>omega
   obtain⟨u,hu,hur⟩:=ho6.drop (n:=min 1 order.length) (by omega) (kd:=.i64);rw[show Rep.n Int=1 from rfl]at hu;have hti : ∀j,j<(order.drop (min 1 order.length)).length->nth (order.drop (min 1 order.length)) j=nth order (min 1 order.length+j):=by intro j hj;rw[DV]at hj;rw[aq (by rw[DV];omega),aq (by omega),Fm]
   generalize order.drop (min 1 order.length)=tail at hur hti hsw hfin hK2;simp only[ho6.len,D0,A7,hmin,hu,hur.len,kl,cG];have hub:=hur.bound;simp;refine ao [3,4,5,9,10,55,56,57] (fun(s:List Int × Bool) k=>[vo,vn,vi,vp,.bool s.2,u,.int .i64 tail.length,.int .i64 k])
    (fun s k h8=>Mine (vw h) h h8 W T.int vi s.1/\s.1.length=g.length/\(∀i,i<g.length->-1<=nth s.1 i/\nth s.1 i<g.length)/\lz number preds g.length (tail.drop k) s=some (out',ch')) tail.length (out,false)
    rfl (by omega) rfl ⟨m7,hol,hor,by simpa using hsw⟩ (fun _ _=>rfl) (fun v k h1 hk m=>by simp) ?_ ?_
   ·rintro⟨o8,c8⟩ k h8 hlt8 ⟨m8,hol8,hor8,hs8⟩ K3 hK3;simp only at m8 hol8 hor8;rw[DU hlt8,<-aq hlt8,lz]at hs8;split at hs8;case isFalse=>cases hs8
    rename_i hb;rw[DD]at hs8;obtain⟨best,hbest,hs8⟩:=hs8;simp only at hbest hs8;have hb2:=uk (by omega) hol8 hnl hor8 hbest;generalize hbe:nth tail k=b at hb hbest hs8;obtain⟨cv,rr⟩:=hpv b.toNat (by omega);have br:=rr.bound;simp(disch:=omega)[hur.idx1 rfl,hur.int m8.wle,hbe,hp6.idx1 rfl,cv _ m8.wle,rr.len];refine ao [3,4,5,9,10,55,56,57,12,13,64,65,66] (fun(bst:Int) j=>[vo,vn,vi,vp,.bool c8,u,.int .i64 tail.length,.int .i64 k,.int .i64 b,.int .i64 bst,pv b.toNat,.int .i64 (nth preds b.toNat).length,.int .i64 j])
     (fun bst j h9=>Mine (vw h) h h9 W T.int vi o8/\(-1<=bst/\bst<g.length)/\bstS o8 number g.length ((nth preds b.toNat).drop j) bst=some best) (nth preds b.toNat).length (-1)
     rfl (by omega) rfl ⟨m8,by omega,by simpa using hbest⟩ (fun _ _=>rfl) (fun v k h1 hk m=>by simp) ?_ ?_
    ·rintro bst j h9 hlt9 ⟨m9,hb9,hs9⟩ K4 hK4;rw[DU hlt9,<-aq hlt9,bstS]at hs9;have ha:=hpin _ _ (bT hlt9);rw[if_pos ha]at hs9;have hra:=rr.int m9.wle hlt9;generalize nth (nth preds b.toNat) j=a at hs9 ha hra;have hn9:=hn6.int m9.wle (i:=a.toNat) (by omega);have ho9:=m9.now.int (View.le_refl _) (i:=a.toNat) (by omega);have hi9:=m9.now;by_cases c1:nth number a.toNat<0
     ·rw[if_pos (.inl c1)]at hs9;simp(disch:=omega)[rr.idx1 rfl,hra,hn6.idx1 rfl,hn9,c1,hi9.idx1 rfl,ho9];exact hK4 bst _ _ rfl rfl ⟨m9,hb9,hs9⟩
     by_cases c2:a=0
     ·rw[if_neg (by rintro(h | h);exact c1 h;exact h.1 c2)]at hs9;subst c2;rw[Int.toNat_zero]at hn9 ho9 c1;simp(disch:=omega)[rr.idx1 rfl,hra,hn6.idx1 rfl,hn9,c1,hi9.idx1 rfl,ho9];refine⟨fun c4=>?_,fun c4=>?_⟩
      ·rw[if_pos c4]at hs9;exact hK4 _ _ _ rfl rfl ⟨m9,by omega,hs9⟩
      rw[if_neg (by omega),DD]at hs9;obtain⟨c,hc,hs9⟩:=hs9;have hcr:=ff hc;refine af (by kernel_rfl) (qo m9.now (hn6.mono m9.wle) hc) ?_;rintro _ _ ⟨rfl,rfl⟩;exact hK4 c _ _ rfl rfl ⟨m9,by omega,hs9⟩
     by_cases c3:nth o8 a.toNat<0
     ·rw[if_pos (.inr ⟨c2,c3⟩)]at hs9;simp(disch:=omega)[rr.idx1 rfl,hra,hn6.idx1 rfl,hn9,c1,c2,hi9.idx1 rfl,ho9,c3];exact hK4 bst _ _ rfl rfl ⟨m9,hb9,hs9⟩
     rw[if_neg (by rintro(h | h);exact c1 h;exact c3 h.2)]at hs9;simp(disch:=omega)[rr.idx1 rfl,hra,hn6.idx1 rfl,hn9,c1,c2,hi9.idx1 rfl,ho9,c3];refine⟨fun c4=>?_,fun c4=>?_⟩
     ·rw[if_pos c4]at hs9;exact hK4 _ _ _ rfl rfl ⟨m9,by omega,hs9⟩
     rw[if_neg (by omega),DD]at hs9;obtain⟨c,hc,hs9⟩:=hs9;have hcr:=ff hc;refine af (by kernel_rfl) (qo m9.now (hn6.mono m9.wle) hc) ?_;rintro _ _ ⟨rfl,rfl⟩;exact hK4 c _ _ rfl rfl ⟨m9,by omega,hs9⟩
    rintro bst h9 ⟨m9,hb9,hs9⟩;simp only[List.drop_length,bstS,o0]at hs9;subst hs9;simp(disch:=omega)[m9.now.idx1 rfl,m9.now.int (View.le_refl _)];refine⟨fun e=>hK3 (o8,c8) _ _ rfl rfl ⟨m9,hol8,hor8,by rw[setS,if_neg (by simpa using e)]at hs8;exact hs8⟩,fun e=>?_⟩;refine m9.put1 (α:=Int) (i:=b.toNat) (by kernel_rfl) rfl (by simp) (by simp<;>rfl) (by omega) (lX (by omega) (by omega)) fun h10 m10=>hK3 (o8.set b.toNat bst,true) _ _ rfl rfl ⟨m10,by simpa using hol8,fun i hi=>?_,by rw[setS,if_pos e]at hs8;exact hs8⟩;simp only;rw[cg (by omega)];split
    ·exact hb9
    exact hor8 i hi
   rintro⟨o8,c8⟩ h8 ⟨m8,hol8,hor8,hs8⟩;simp only[List.drop_length,lz,o0,Ey]at hs8 m8 hol8 hor8;obtain⟨rfl,rfl⟩:=hs8;simp;refine hK2 m _ _ (by omega) ⟨_,_,rfl,m8,hol8,hor8,fun e=>?_,fun e=>?_⟩
   ·rw[if_pos e]at hfin;exact hfin
   rw[if_neg (by simp[e])]at hfin;exact Option.some.inj hfin
abbrev Tr:=Int × Int × Int
def trV (t:Tr):List PanicEntry:=[{ v:=.iface T.dU (.agg #[.int .i64 t.1,.int .i64 t.2.1,.int .i64 t.2.2]),recovered:=false }]
def aV (n a b:Int):Bool:=decide (a<=n)&&decide (n<=b)
theorem gh{n a:Int}{h:Heap}:aj Tryz.prog N.dq #[.int .i64 n,.int .i64 a,.int .i64 b] h (fun v h'=>v = .bool (aV n a b)/\h'=h):=by refine ah (args:=[.int .i64 n,.int .i64 a,.int .i64 b]) follows F.dq E.dq (Dv (by kernel_rfl)) fun K hK=>?_;simp[L.dq];exact hK _ _ ⟨by by_cases h1:a<=n<;>simp[aV,h1],rfl⟩
theorem eG{ok:Bool}{e p:Int}{h:Heap}:eT Tryz.prog N.dv #[.bool ok,.int .i64 e,.int .i64 b,.int .i64 p] h (fun v h'=>ok=true/\h'=h) (fun ch h'=>ok=false/\ch=trV (e,b,p)/\h'=h):=by
 refine eP (args:=[.bool ok,.int .i64 e,.int .i64 b,.int .i64 p]) follows F.dv E.dv (Dv (by kernel_rfl)) fun K Kp hK hKp=>?_;cases ok with
 | true=>simp[L.dv];exact hK _ _ ⟨rfl,rfl⟩
 | false=>simp[L.dv];refine an (z:=.agg #[.int .i64 0,.int .i64 0,.int .i64 0]) (places:=[(0,1),(1,1),(2,1)]) (vs:=[(0,.int .i64 e),(1,.int .i64 b),(2,.int .i64 p)]) (cs:=#[.int .i64 e,.int .i64 b,.int .i64 p]) (by kernel_rfl) (by kernel_rfl) (by simp) (by rfl) ?_;refine zz (d:=(Tryz.prog.underlying T.dU).getD .bool) (by kernel_rfl) (by kernel_rfl) rfl ?_;simp;refine yQ (t:=T.dU) (v:=.agg #[.int .i64 e,.int .i64 b,.int .i64 p]) rfl ?_;exact⟨.inl rfl,hKp _ _ ⟨rfl,rfl,rfl⟩⟩
def ed (op:Int):Int × Int:=if op=1 then(0,0) else if op=15 then(1,1) else if op=17 then(0,4) else(2,2)
theorem tn{op:Int}{h:Heap}:aj Tryz.prog N.cV #[.int .i64 op] h (fun v h'=>v = .tuple #[.int .i64 (ed op).1,.int .i64 (ed op).2]/\h'=h):=by refine ah (args:=[.int .i64 op]) follows F.cV E.cV (Dv (by kernel_rfl)) fun K hK=>?_;simp[L.cV];refine⟨fun h1=>hK _ _ ⟨by simp[ed,h1],rfl⟩,fun h1=>⟨fun h2=>hK _ _ ⟨by simp[ed,h1,h2],rfl⟩,fun h2=>⟨fun h3=>hK _ _ ⟨by simp[ed,h1,h2,h3],rfl⟩,fun h3=>hK _ _ ⟨by simp[ed,h1,h2,h3],rfl⟩⟩⟩⟩
def gH (i:InsD):List Int:=if i.op=16 then[] else if i.op=18 then[i.dst,i.two] else[i.dst]
theorem sA{d:InsD}{v:Value}{h:Heap}(hd:Rd (vw h) v d):aj Tryz.prog N.dE #[v] h (fun u h'=>(vw h).le (vw h')/\SlRd (fresh h h') u (gH d)):=by
 refine ah (args:=[v]) follows F.dE E.dE (Dv (by kernel_rfl)) fun K hK=>?_;simp[L.dE];refine iD rfl hd fun h1 _ hle1 hsz1 hat=>?_;obtain⟨c0,c1,c2,va,ca⟩:=iF hat;have r1:=(hat.part InsD.gK).rng;have r2:=(hat.part InsD.th).rng;simp[c0];refine⟨fun e1=>hK _ _ ⟨hle1,by simpa[gH,e1]using aF⟩,fun e1=>⟨fun e2=>?_,fun e2=>?_⟩⟩
 ·simp[c1,c2];refine mj (X:=nothing) (ds:=[d.dst,d.two]) (vs:=[.int .i64 d.dst,.int .i64 d.two]) rfl El.ck (by simp) ⟨bh.2 ⟨rfl,r1⟩,bh.2 ⟨rfl,r2⟩,trivial⟩ bO rfl (by omega) fun u h2 hle2 hsz2 hu _=>?_;exact hK _ _ ⟨View.le_trans hle1 hle2,by simpa[gH,e2]using hu _ bO (by unfold fresh;rw[if_neg (by omega)])⟩
 simp[c1];refine mj (X:=nothing) (ds:=[d.dst]) (vs:=[.int .i64 d.dst]) rfl El.ck (by simp) ⟨bh.2 ⟨rfl,r1⟩,trivial⟩ bO rfl (by omega) fun u h2 hle2 hsz2 hu _=>?_;exact hK _ _ ⟨View.le_trans hle1 hle2,by simpa[gH,e1,e2]using hu _ bO (by unfold fresh;rw[if_neg (by omega)])⟩
abbrev MW:=Int->Option (Int × Int)
def encW (w:Int × Int):Value:=.agg #[.int .i64 w.1,.int .i64 w.2]
variable{Kb:Nat}
theorem Au{ps n p:Int}{h:Heap}(h0:ag (vw h) ⟨Kb,0,none⟩=some (.int .i64 ps)):
  eT Tryz.prog N.bY #[.pointer (some ⟨Kb,0,none⟩),.int .i64 n,.int .i64 b,.int .i64 p] h (fun _ h'=>aV n ps 8191=true/\h'=h) (fun ch h'=>aV n ps 8191=false/\ch=trV (11,b,p)/\h'=h):=by
 refine eP (args:=[.pointer (some ⟨Kb,0,none⟩),.int .i64 n,.int .i64 b,.int .i64 p]) follows F.bY E.bY (Dv (by kernel_rfl)) fun K Kp hK hKp=>?_;simp[L.bY,h0];refine af (by kernel_rfl) gh ?_;rintro _ _ ⟨rfl,rfl⟩;refine cK (by kernel_rfl) eG ?_ ?_
 ·rintro _ _ ⟨e,rfl⟩;exact hK _ _ ⟨e,rfl⟩
 rintro _ _ ⟨e,rfl,rfl⟩;exact⟨.inl rfl,hKp _ _ ⟨e,rfl,rfl⟩⟩
theorem zJ{r:Nat}{m:MW}{n p:Int}{h:Heap}(h2:ag (skip r h) ⟨Kb,2,none⟩=some (.map (some r)))(hm:cA (.int .i64) h r (mapE encW m)):
  eT Tryz.prog N.bZ #[.pointer (some ⟨Kb,0,none⟩),.int .i64 n,.int .i64 b,.int .i64 p] h (fun _ h'=>m n=none/\cA (.int .i64) h' r (mapE encW (putM m n (b,p)))/\Kept h h' (some r))
   (fun ch h'=>m n≠none/\ch=trV (12,b,p)/\Kept h h' (some r)):=by
 refine eP (args:=[.pointer (some ⟨Kb,0,none⟩),.int .i64 n,.int .i64 b,.int .i64 p]) follows F.bZ E.bZ (Dv (by kernel_rfl)) fun K Kp hK hKp=>?_;simp[L.bZ,ab bK h2];refine iw (z:=.agg #[.int .i64 0,.int .i64 0]) U.dN U.int (by kernel_rfl) (by simp<;>rfl) (by simp<;>rfl) dz hm ?_;simp;refine gp (n:=2) (z:=.agg #[.int .i64 0,.int .i64 0]) (v:=((m n).map encW).getD (.agg #[.int .i64 0,.int .i64 0])) (by kernel_rfl) rfl (by kernel_rfl) (by cases m n<;>rfl) (by cases m n<;>simp[encW,Value.oneCell']) (fun _=>by simp) (fun _=>by simp) fun h3 hle3 _ _=>?_;have k3:=Kept.of_le (b:=some r) hle3;have hm3:=hm.ext hle3;have h23:=ab k3.wM h2;refine cK (by kernel_rfl) eG ?_ ?_
 ·rintro _ _ ⟨e,rfl⟩;simp[h23];refine an (z:=.agg #[.int .i64 0,.int .i64 0]) (places:=[(0,1),(1,1)]) (vs:=[(0,.int .i64 b),(1,.int .i64 p)]) (cs:=#[.int .i64 b,.int .i64 p]) (by kernel_rfl) (by kernel_rfl) (by simp) (by rfl) ?_;refine fX (v:=encW (b,p)) (.inl rfl) U.dN U.int (by simp<;>rfl) (by simp<;>rfl) (by simp<;>rfl) dz hm3 _ fg.1 fg.2 fun h4 hs4 ho4 hm4=>?_;exact hK _ _ ⟨by simpa using e,hm4,k3.trans (Kept.upd hs4 ho4)⟩
 rintro _ _ ⟨e,rfl,rfl⟩;exact⟨.inl rfl,hKp _ _ ⟨(by intro e2;rw[e2]at e;cases e),rfl,k3⟩⟩
def lr (b p:Int) (m:MW) (n:Int):Except Tr MW:=if(m n).isSome then .error (12,b,p) else .ok (putM m n (b,p))
def allS (ps:Int) (l:List Int) (b p:Int) (m:MW):Except Tr MW:=if l.all (fun n=>aV n ps 8191) then l.foldlM (lr b p) m else .error (11,b,p)
structure Lk (h:Heap) (Kb r:Nat) (vb:Value) (f:ae) (m:MW):Prop where
 c0:ag (skip r h) ⟨Kb,0,none⟩=some (.int .i64 f.params)
 c1:ag (skip r h) ⟨Kb,1,none⟩=some vb
 c2:ag (skip r h) ⟨Kb,2,none⟩=some (.map (some r))
 rb:SlRd (skip r h) vb f.blocks
 map:cA (.int .i64) h r (mapE encW m)
theorem Lk.kept{h h':Heap}{Kb r:Nat}{vb:Value}{f:ae}{m m':MW}(k:Lk h Kb r vb f m)(hk:Kept h h' (some r))(hm:cA (.int .i64) h' r (mapE encW m')):Lk h' Kb r vb f m':=
 ⟨ab hk.skip k.c0,ab hk.skip k.c1,ab hk.skip k.c2,k.rb.mono hk.skip,hm⟩
theorem Lk.ext {h h':Heap} {Kb r:Nat} {vb:Value} {f:ae} {m:MW} (k:Lk h Kb r vb f m) (hle:(vw h).le (vw h')):Lk h' Kb r vb f m:=
 k.kept (Kept.of_le hle) (k.map.ext hle)
theorem x6{r:Nat}{vb:Value}{f:ae}{m:MW}{l:List Int}{p:Int}{h:Heap}(k:Lk h Kb r vb f m)(hl:SlRd (skip r h) vl l):
  eT Tryz.prog N.aR #[.pointer (some ⟨Kb,0,none⟩),vl,.int .i64 b,.int .i64 p] h (fun _ h'=>∃m',allS f.params l b p m = .ok m'/\Lk h' Kb r vb f m'/\Kept h h' (some r))
   (fun ch h'=>∃t,allS f.params l b p m = .error t/\ch=trV t/\Kept h h' (some r)):=by
 refine eP (args:=[.pointer (some ⟨Kb,0,none⟩),vl,.int .i64 b,.int .i64 p]) follows F.aR E.aR (Dv (by kernel_rfl)) fun K Kp hK hKp=>?_;have hlb:=hl.bound;simp[L.aR,hl.len];refine ao [0,1,2,3,12,13,14] (fun(_:Unit) i=>[.pointer (some ⟨Kb,0,none⟩),vl,.int .i64 b,.int .i64 p,vl,.int .i64 l.length,.int .i64 i]) (fun _ i h1=>h1=h/\∀j,j<i->aV (nth l j) f.params 8191=true) l.length ()
  rfl (by omega) rfl ⟨rfl,fun j hj=>by omega⟩ (fun _ _=>rfl) (fun v i h1 hk m=>by simp) ?_ ?_
 ·rintro _ i _ hlt ⟨rfl,hpre⟩ K2 hK2;simp(disch:=omega)[hl.idx1 rfl,hl.int bK];refine cK (by kernel_rfl) (Au (ab bK k.c0)) ?_ ?_
  ·rintro _ _ ⟨e,rfl⟩;refine hK2 () _ _ rfl rfl ⟨rfl,fun j hj=>?_⟩;rcases DA j i with h | h
   ·exact hpre j h
   have:j=i:=by omega
   subst this;exact e
  rintro _ _ ⟨e,rfl,rfl⟩;refine⟨.inl rfl,hKp _ _ ⟨_,?_,rfl,Kept.refl _ _⟩⟩;rw[allS,if_neg];intro ha;rw[D3.1 ha _ (bT hlt)]at e;cases e
 rintro _ h ⟨rfl,hpre⟩;have hall:allS f.params l b p m=l.foldlM (lr b p) m:=by rw[allS,if_pos];rw[D3];intro x hx;obtain⟨j,hj,rfl⟩:=DO hx;rw[<-aq hj];exact hpre j hj
 rw[hall]at hK hKp;simp[hl.len];refine ao [0,2,3,24,25,26] (fun(_:Unit) i=>[.pointer (some ⟨Kb,0,none⟩),.int .i64 b,.int .i64 p,vl,.int .i64 l.length,.int .i64 i]) (fun _ i h1=>∃m',(l.take i).foldlM (lr b p) m = .ok m'/\Lk h1 Kb r vb f m'/\Kept h h1 (some r)) l.length ()
  rfl (by omega) rfl ⟨m,rfl,k,Kept.refl _ _⟩ (fun _ _=>rfl) (fun v i h1 hk m=>by simp) ?_ ?_
 ·rintro _ i h1 hlt ⟨m1,hm1,k1,kp1⟩ K2 hK2;have hl1:=hl.mono kp1.wM;have hst:=tZ hlt hm1;simp(disch:=omega)[hl1.idx1 rfl,hl1.int (View.le_refl _)];refine cK (by kernel_rfl) (zJ k1.c2 k1.map) ?_ ?_
  ·rintro _ h2 ⟨e,hm2,kp2⟩;refine hK2 () _ _ rfl rfl ⟨_,by rw[hst,lr,e];rfl,k1.kept kp2 hm2,kp1.trans kp2⟩
  rintro _ h2 ⟨e,rfl,kp2⟩;refine⟨.inl rfl,hKp _ _ ⟨_,xI (k:=i+1) (by rw[hst,lr,if_pos (Option.isSome_iff_ne_none.2 e)]),rfl,kp1.trans kp2⟩⟩
 rintro _ h1 ⟨m1,hm1,k1,kp1⟩;rw[Ep]at hm1;simp;exact hK _ _ ⟨m1,hm1,k1,kp1⟩
abbrev Sh:=Int × Int × Int × Int
def encS (s:Sh):Value:=.agg #[.int .i64 s.1,.int .i64 s.2.1,.int .i64 s.2.2.1,.int .i64 s.2.2.2]
def dV:Int->Option Sh:=putM (putM (putM (putM (putM (fun _=>none) 1 (0,0,1,1)) 2 (1,1,2,2)) 3 (1,1,2,65)) 4 (0,1,0,0)) 5 (0,0,0,0)
theorem kt{po:OP}{ty:TypeId}{us:List (Nat × Value)}{h:Heap}{K:Value->Heap->Prop}{a c d:Int}(hk:K (encS (a,b,c,d)) h):
  Lft.step Tryz.prog (.build T.cz #[(0,.const (.int .i64 a)),(1,.const (.int .i64 b)),(2,.const (.int .i64 c)),(3,.const (.int .i64 d))]) ty us h K:=
 an (z:=.agg #[.int .i64 0,.int .i64 0,.int .i64 0,.int .i64 0]) (places:=[(0,1),(1,1),(2,1),(3,1)]) (vs:=[(0,.int .i64 a),(1,.int .i64 b),(2,.int .i64 c),(3,.int .i64 d)]) (cs:=#[.int .i64 a,.int .i64 b,.int .i64 c,.int .i64 d]) (by kernel_rfl) (by kernel_rfl) (by simp only[List.map_toArray,Et,List.map_nil,qH]) (by rfl) hk
theorem gz{po:OP}{ty:TypeId}{us:List (Nat × Value)}{h:Heap}{K:Value->Heap->Prop}{x y:Operand}{r:Nat}{f:Int->Option Sh}{j:Int}{s:Sh}(hx:asg us x = .map (some r))(hy:asg us y=encS s)(m:cA (.int .i64) h r (mapE encS f))(hk : ∀h':Heap,Kept h h' (some r)->cA (.int .i64) h' r (mapE encS (putM f j s))->K undef h'):Lft.step Tryz.prog (.insert T.cR x (.const (.int .i64 j)) y) ty us h K:=
 fX (v:=encS s) (.inr rfl) U.cR U.int hx rfl hy dz m _ fg.1 fg.2 fun h' hs ho hm=>hk h' (Kept.upd hs ho) hm
theorem qz{h:Heap}:aj Tryz.prog N.dn #[] h (fun v h'=>v = .map (some h.size)/\(vw h).le (vw h')/\cA (.int .i64) h' h.size (mapE encS dV)):=by
 refine ah (args:=[]) follows F.dn E.dn (Dv (by kernel_rfl)) fun K hK=>?_;simp[L.dn];refine gY ?_;have m0:cA (.int .i64) (h.push (.map #[] 0)) h.size (mapE encS fun _=>none):=by rw[kL];exact cA.none (by simp)
 have hle:=bG h (.map #[] 0);generalize h.push (.map #[] 0)=h0 at m0 hle;refine kt (gz (s:=(0,0,1,1)) rfl rfl m0 fun h1 k1 m1=>?_);refine kt (gz (s:=(1,1,2,2)) rfl rfl m1 fun h2 k2 m2=>?_);refine kt (gz (s:=(1,1,2,65)) rfl rfl m2 fun h3 k3 m3=>?_);refine kt (gz (s:=(0,1,0,0)) rfl rfl m3 fun h4 k4 m4=>?_);refine kt (gz (s:=(0,0,0,0)) rfl rfl m4 fun h5 k5 m5=>?_);refine hK _ _ ⟨rfl,fun b o hb=>?_,m5⟩;have hlt:=View.lt (View.le_refl (vw h)) hb;have kk:=(((k1.trans k2).trans k3).trans k4).trans k5;show h5[b]? = _;rw[kk.block b (Fg hlt (cO hle)) (by simp;omega)];exact hle b o hb
def kq (t:cL):Bool:=match dV t.kind with
 | some s=>aV t.args.length s.1 s.2.1&&aV t.to.length s.2.2.1 s.2.2.2
 | none=>false
def insS (ps b:Int) (x:BlkD) (i:Nat) (m:MW):Except Tr MW:=
 if aV (nth x.ins i).op 1 18&&aV (nth x.ins i).args.length (ed (nth x.ins i).op).1 (ed (nth x.ins i).op).2 then allS ps (gH (nth x.ins i)) b i m else .error (10,b,i)
def phiS (ps b:Int) (x:BlkD) (i:Nat) (m:MW):Except Tr MW:=allS ps [(nth x.phis i).dst] b (-1-i) m
def endS (n b:Int) (x:BlkD) (m:MW):Except Tr MW:=
 if kq x.term then(if x.term.to.all (fun t=>aV t 1 (n-1)) then .ok m else .error (14,b,x.ins.length)) else .error (10,b,x.ins.length)
def blkS (f:ae) (b:Nat) (m:MW):Except Tr MW:=
 match upE (phiS f.params b (nth f.blocks b)) (nth f.blocks b).phis.length m with
 | .error t=>.error t
 | .ok m1=>match upE (insS f.params b (nth f.blocks b)) (nth f.blocks b).ins.length m1 with
  | .error t=>.error t
  | .ok m2=>endS f.blocks.length b (nth f.blocks b) m2
def hU (f:ae) (m:MW):Except Tr MW:=upE (blkS f) f.blocks.length m
theorem yE{r:Nat}{vb:Value}{f:ae}{m:MW}{h:Heap}(k:Lk h Kb r vb f m):
  eT Tryz.prog N.az #[.pointer (some ⟨Kb,0,none⟩)] h (fun _ h'=>∃m',hU f m = .ok m'/\Lk h' Kb r vb f m'/\Kept h h' (some r))
   (fun ch h'=>∃t,hU f m = .error t/\ch=trV t/\Kept h h' (some r)):=by
 refine eP (args:=[.pointer (some ⟨Kb,0,none⟩)]) follows F.az E.az (Dv (by kernel_rfl)) fun K Kp hK hKp=>?_;have hbb:=k.rb.bound;simp[L.az,ab bK k.c1,k.rb.len];refine ao [0,18,19,20] (fun(_:Unit) b=>[.pointer (some ⟨Kb,0,none⟩),vb,.int .i64 f.blocks.length,.int .i64 b]) (fun _ b h1=>∃m',upE (blkS f) b m = .ok m'/\Lk h1 Kb r vb f m'/\Kept h h1 (some r)) f.blocks.length ()
  rfl (by omega) rfl ⟨m,rfl,k,Kept.refl _ _⟩ (fun _ _=>rfl) (fun v i h1 hk m=>by simp) ?_ ?_
 ·rintro _ b h1 hltb ⟨m1,hm1,k1,kp1⟩ K2 hK2;have hst:=iY hm1;have her : ∀{t},blkS f b m1 = .error t->hU f m = .error t:=fun e=>q5 hm1 hltb e;obtain⟨u,hu,hur⟩:=k1.rb.wh rfl (N:=6) rfl hltb;rw[blkS]at hst her;have hr1:=k1.map.lt
  generalize hx:nth f.blocks b=x at hst her hur;refine aa fun z hz=>?_;simp(disch:=omega)[k1.rb.idxn (N:=6) rfl,hu _ bK];refine dc (z:=.agg #[.slice none 0 0,.slice none 0 0,.int .i64 0,.slice none 0 0,.slice none 0 0,.int .i32 0]) (by kernel_rfl) rfl (by kernel_rfl) hur (fun _=>by simp) (fun _=>by simp) fun h2 hle2 hsz2 hat=>?_;have k2:=k1.ext hle2;have kp2:=kp1.trans (Kept.of_le hle2);have hat2:=hat (skip r h2) (Kept.of_le hle2).skip (il (by omega));obtain⟨vp,vi,va,vt,bp,bi,bk,ba,bt⟩:=gS hat2;generalize h1.size=B at bp bi bk ba bt;subst hz;refine aa fun z hz=>?_;simp[ab bK bp.1,bp.2.len];have bph:=bp.2.bound
  have bin:=bi.2.bound;have bto:=bt.2.bound;refine ao [0,2,3,18,19,20,26,27,28] (fun(_:Unit) i=>[.pointer (some ⟨Kb,0,none⟩),.int .i64 b,.pointer (some ⟨B,0,none⟩),vb,.int .i64 f.blocks.length,.int .i64 b,vp,.int .i64 x.phis.length,.int .i64 i])
   (fun _ i h3=>∃m',upE (phiS f.params b x) i m1 = .ok m'/\Lk h3 Kb r vb f m'/\Kept h2 h3 (some r)) x.phis.length ()
   rfl (by omega) rfl ⟨m1,rfl,k2,Kept.refl _ _⟩ (fun _ _=>rfl) (fun v i h1 hk m=>by simp) ?_ ?_
  ·rintro _ i h3 hlti ⟨m3,hm3,k3,kp3⟩ K3 hK3;have bp3:=bp.2.mono kp3.skip;obtain⟨u5,hu5,hur5⟩:=bp3.wh rfl (N:=2) rfl hlti;have hr3:=k3.map.lt;have hst3:=iY hm3;have her3 : ∀{t},phiS f.params b x i m3 = .error t->upE (phiS f.params b x) x.phis.length m1 = .error t:=fun e=>q5 hm3 hlti e;rw[phiS]at hst3 her3;refine aa fun y hy=>?_;simp(disch:=omega)[bp3.idxn (N:=2) rfl,hu5 _ bK];refine dc (z:=.agg #[.int .i64 0,.slice none 0 0]) (by kernel_rfl) rfl (by kernel_rfl) hur5 (fun _=>by simp) (fun _=>by simp) fun h4 hle4 hsz4 hat4=>?_;have hat4':=hat4 (skip r h4) (Kept.of_le hle4).skip (il (by omega))
   obtain⟨c0,_⟩:=rI hat4';have rd:=(hat4'.part PhiD.gK).rng;generalize nth x.phis i=q at c0 rd hst3 her3;generalize h3.size=B3 at c0;subst hy;simp[ab bK c0];refine mj (X:=nothing) (ds:=[q.dst]) (vs:=[.int .i64 q.dst]) rfl El.ck (by simp) ⟨bh.2 ⟨rfl,rd⟩,trivial⟩ bO rfl (by omega) fun u6 h5 hle5 hsz5 hu6 _=>?_;have k5:=(k3.ext hle4).ext hle5
   have kp5:=(kp3.trans (Kept.of_le hle4)).trans (Kept.of_le hle5);have hr5:=k5.map.lt;simp(disch:=omega);refine cK (by kernel_rfl) (x6 k5 (hu6 _ bO (il (by omega)))) ?_ ?_
   ·rintro _ h6 ⟨m6,hm6,k6,kp6⟩;exact hK3 () _ _ rfl rfl ⟨m6,by rw[hst3,hm6],k6,kp5.trans kp6⟩
   rintro _ h6 ⟨t,ht,rfl,kp6⟩;exact⟨.inl rfl,hKp _ _ ⟨t,her (by rw[her3 ht]),rfl,(kp2.trans kp5).trans kp6⟩⟩
  rintro _ h3 ⟨m3,hm3,k3,kp3⟩;simp only[hm3]at hst her;simp;subst hz;refine aa fun z hz=>?_;have bi3:=bi.2.mono kp3.skip;have ci3:=ab kp3.wM bi.1;have kp03:=kp2.trans kp3;simp[ci3,bi3.len];refine ao [0,2,3,18,19,20,43,44,45] (fun(_:Unit) i=>[.pointer (some ⟨Kb,0,none⟩),.int .i64 b,.pointer (some ⟨B,0,none⟩),vb,.int .i64 f.blocks.length,.int .i64 b,vi,.int .i64 x.ins.length,.int .i64 i])
   (fun _ i h4=>∃m',upE (insS f.params b x) i m3 = .ok m'/\Lk h4 Kb r vb f m'/\Kept h3 h4 (some r)) x.ins.length ()
   rfl (by omega) rfl ⟨m3,rfl,k3,Kept.refl _ _⟩ (fun _ _=>rfl) (fun v i h1 hk m=>by simp) ?_ ?_
  ·rintro _ i h4 hlti ⟨m4,hm4,k4,kp4⟩ K3 hK3;have bi4:=bi3.mono kp4.skip;obtain⟨u5,hu5,hur5⟩:=bi4.wh rfl (N:=5) rfl hlti;have hr4:=k4.map.lt;have hst4:=iY hm4;have her4 : ∀{t},insS f.params b x i m4 = .error t->upE (insS f.params b x) x.ins.length m3 = .error t:=fun e=>q5 hm4 hlti e;rw[insS]at hst4 her4;refine aa fun y hy=>?_;simp(disch:=omega)[bi4.idxn (N:=5) rfl,hu5 _ bK];refine dc (z:=.agg #[.int .i64 0,.int .i64 0,.int .i64 0,.slice none 0 0,.int .i32 0]) (by kernel_rfl) rfl (by kernel_rfl) hur5 (fun _=>by simp) (fun _=>by simp) fun h5 hle5 hsz5 hat5=>?_;have hat5':=hat5 (skip r h5) (Kept.of_le hle5).skip (il (by omega))
   obtain⟨c0,c1,c2,va5,ca5⟩:=iF hat5';have k5:=k4.ext hle5;have kp5:=kp4.trans (Kept.of_le hle5);have whole : ∃w,Un.ev (vw h5) (.ak 5) (.pointer (some ⟨h4.size,0,none⟩))=some w/\Rd (vw h5) w (nth x.ins i):=by obtain⟨w,w1,w2⟩:=(hat5'.mono bK).ak rfl;exact⟨w,w1,w2⟩
   obtain⟨w,w1,w2⟩:=whole;generalize nth x.ins i=q at c0 c1 c2 ca5 hst4 her4 w2;generalize h4.size=B4 at c0 c1 c2 ca5 w1;subst hy;refine aa fun y hy=>?_;simp[ab bK c0];refine af (by kernel_rfl) gh ?_;rintro _ _ ⟨rfl,rfl⟩;refine cK (by kernel_rfl) eG ?_ ?_;rotate_left
   ·rintro _ _ ⟨e,rfl,rfl⟩;exact⟨.inl rfl,hKp _ _ ⟨_,her (by rw[her4 (by rw[if_neg (by simp[e])])]),rfl,kp03.trans kp5⟩⟩
   rintro _ _ ⟨e1,rfl⟩;subst hy;refine aa fun y hy=>?_;simp[ab bK c0];refine af (by kernel_rfl) tn ?_;rintro _ _ ⟨rfl,rfl⟩;simp;subst hy;refine aa fun y hy=>?_;simp[ab bK ca5.1,ca5.2.len];refine af (by kernel_rfl) gh ?_;rintro _ _ ⟨rfl,rfl⟩;refine cK (by kernel_rfl) eG ?_ ?_;rotate_left
   ·rintro _ _ ⟨e,rfl,rfl⟩;exact⟨.inl rfl,hKp _ _ ⟨_,her (by rw[her4 (by rw[if_neg (by simp[e])])]),rfl,kp03.trans kp5⟩⟩
   rintro _ _ ⟨e2,rfl⟩;subst hy;simp[w1];refine af (by kernel_rfl) (sA w2) ?_;rintro u6 h6 ⟨hle6,hu6⟩;have k6:=k5.ext hle6;have kp6:=kp5.trans (Kept.of_le hle6);rw[if_pos (by simp[e1,e2])]at hst4 her4;have hr5:=k5.map.lt;refine cK (by kernel_rfl) (x6 k6 (hu6.mono fun b o hb=>?_)) ?_ ?_
   ·unfold fresh at hb;unfold Lft.skip;split at hb
    ·cases hb
    rw[if_neg (by omega)];exact hb
   ·rintro _ h7 ⟨m7,hm7,k7,kp7⟩;exact hK3 () _ _ rfl rfl ⟨m7,by rw[hst4,hm7],k7,kp6.trans kp7⟩
   rintro _ h7 ⟨t,ht,rfl,kp7⟩;exact⟨.inl rfl,hKp _ _ ⟨t,her (by rw[her4 ht]),rfl,(kp03.trans kp6).trans kp7⟩⟩
  rintro _ h4 ⟨m4,hm4,k4,kp4⟩;simp only[hm4]at hst her;simp;subst hz;refine aa fun z hz=>?_;have kp24:=kp3.trans kp4;have hr4:=k4.map.lt;have ck4:=ab kp24.skip bk;have hc : ∀{h5:Heap},Kept h4 h5 (some r)->(skip r h4).le (vw h5):=fun hk=>hk.wM;have cellsS : ∀o:Option Sh,((o.map encS).getD (.agg #[.int .i64 0,.int .i64 0,.int .i64 0,.int .i64 0]))=encS (o.getD (0,0,0,0)):=fun o=>by cases o<;>rfl
  have hone : ∀s:Sh,∀c∈(encS s).cells.toList,c.oneCell'=true:=fun s=>by simp[encS,Value.oneCell']
  refine fJ (fun ρ h5=>∃(B5:Nat) (v79 v83:Value) (tl:Env),ρ=[(0,.pointer (some ⟨Kb,0,none⟩)),(2,.int .i64 b),(3,.pointer (some ⟨B,0,none⟩)),(10,.pointer (some ⟨B5,0,none⟩)),(11,.bool (dV x.term.kind).isSome),(18,vb),(19,.int .i64 f.blocks.length),(20,.int .i64 b),(43,vi),
    (44,.int .i64 x.ins.length),(45,.int .i64 x.ins.length),(79,v79),(82,.int .i64 x.term.kind),(83,v83)]++tl/\Lk h5 Kb r vb f m4/\Kept h4 h5 (some r)/\B5≠r/\h5[B5]? = some (.cells (encS ((dV x.term.kind).getD (0,0,0,0))).cells T.cz (0,0))) ?_ ?_
  ·intro K3 hK3;refine bR (skip r h4) bK ?_;simp[ck4];refine⟨?_,?_⟩
   ·refine af (by kernel_rfl) qz ?_;rintro _ h5 ⟨rfl,hle5,hm5⟩;have hs5:=cO hle5;refine⟨hc (Kept.of_le hle5),?_,?_⟩
    ·refine iw (z:=.agg #[.int .i64 0,.int .i64 0,.int .i64 0,.int .i64 0]) U.cR U.int (by kernel_rfl) (by simp<;>rfl) (by simp<;>rfl) dz hm5 ?_;rw[ke,cellsS,FZ];simp;refine gp (n:=4) (v:=encS ((dV x.term.kind).getD (0,0,0,0))) (z:=.agg #[.int .i64 0,.int .i64 0,.int .i64 0,.int .i64 0]) (by kernel_rfl) rfl (by kernel_rfl) rfl (hone _) (fun _=>by simp) (fun _=>by simp) fun h6 hle6 hsz6 hb6=>?_;exact hK3 _ _ ⟨_,_,_,_,rfl,(k4.ext hle5).ext hle6,(Kept.of_le hle5).trans (Kept.of_le hle6),by omega,hb6⟩
    refine dF (z:=.agg #[.int .i64 0,.int .i64 0,.int .i64 0,.int .i64 0]) (by kernel_rfl) ?_;have hle6:=bG h5 (.cells (Value.cells (.agg #[.int .i64 0,.int .i64 0,.int .i64 0,.int .i64 0])) T.cz);have hb6:(h5.push (.cells (Value.cells (.agg #[.int .i64 0,.int .i64 0,.int .i64 0,.int .i64 0])) T.cz))[h5.size]? = some (.cells (Value.cells (.agg #[.int .i64 0,.int .i64 0,.int .i64 0,.int .i64 0])) T.cz (0,0)):=by simp
    have hs6:(h5.push (.cells (Value.cells (.agg #[.int .i64 0,.int .i64 0,.int .i64 0,.int .i64 0])) T.cz)).size=h5.size+1:=by simp
    generalize h5.push (.cells (Value.cells (.agg #[.int .i64 0,.int .i64 0,.int .i64 0,.int .i64 0])) T.cz)=h6 at hle6 hb6 hs6;refine⟨hc ((Kept.of_le hle5).trans (Kept.of_le hle6)),?_⟩;refine iw (z:=.agg #[.int .i64 0,.int .i64 0,.int .i64 0,.int .i64 0]) U.cR U.int (by kernel_rfl) (by simp<;>rfl) (by simp<;>rfl) dz (hm5.ext hle6) ?_;rw[ke,cellsS,FZ];simp;refine dk (g:=h5.size) (o:=0) (n:=4) (v:=encS ((dV x.term.kind).getD (0,0,0,0))) (by kernel_rfl) rfl rfl rfl (hone _) hb6 (by simp) fun h7 hs7 ⟨row,hb7,hrow⟩ ho7=>?_;have hrow2:row=(encS ((dV x.term.kind).getD (0,0,0,0))).cells:=by rw[<-Array.toList_inj,hrow];simp
    rw[hrow2]at hb7;have kp7:Kept h4 h7 (some r):=⟨by omega,fun q hq hne=>by rw[ho7 q (by omega)];exact hle6 _ _ (hle5 _ _ (DJ hq)) |>.trans (DJ hq).symm⟩;exact hK3 _ _ ⟨_,_,_,_,rfl,k4.kept kp7 (((k4.map.ext hle5).ext hle6).same (ho7 r (by omega))),kp7,by omega,hb7⟩
   refine dF (z:=.agg #[.int .i64 0,.int .i64 0,.int .i64 0,.int .i64 0]) (by kernel_rfl) ?_;have hle5:=bG h4 (.cells (Value.cells (.agg #[.int .i64 0,.int .i64 0,.int .i64 0,.int .i64 0])) T.cz);have hb5:(h4.push (.cells (Value.cells (.agg #[.int .i64 0,.int .i64 0,.int .i64 0,.int .i64 0])) T.cz))[h4.size]? = some (.cells (Value.cells (.agg #[.int .i64 0,.int .i64 0,.int .i64 0,.int .i64 0])) T.cz (0,0)):=by simp
   have hs5:(h4.push (.cells (Value.cells (.agg #[.int .i64 0,.int .i64 0,.int .i64 0,.int .i64 0])) T.cz)).size=h4.size+1:=by simp
   generalize h4.push (.cells (Value.cells (.agg #[.int .i64 0,.int .i64 0,.int .i64 0,.int .i64 0])) T.cz)=h5 at hle5 hb5 hs5;refine⟨hc (Kept.of_le hle5),?_⟩;refine af (by kernel_rfl) qz ?_;rintro _ h6 ⟨rfl,hle6,hm6⟩;have hs6:=cO hle6;refine⟨hc ((Kept.of_le hle5).trans (Kept.of_le hle6)),?_⟩;refine iw (z:=.agg #[.int .i64 0,.int .i64 0,.int .i64 0,.int .i64 0]) U.cR U.int (by kernel_rfl) (by simp<;>rfl) (by simp<;>rfl) dz hm6 ?_;rw[ke,cellsS,FZ];simp;refine dk (g:=h4.size) (o:=0) (n:=4) (v:=encS ((dV x.term.kind).getD (0,0,0,0))) (by kernel_rfl) rfl rfl rfl (hone _) (hle6 _ _ hb5) (by simp) fun h7 hs7 ⟨row,hb7,hrow⟩ ho7=>?_;have hrow2:row=(encS ((dV x.term.kind).getD (0,0,0,0))).cells:=by rw[<-Array.toList_inj,hrow];simp
   rw[hrow2]at hb7;have kp7:Kept h4 h7 (some r):=⟨by omega,fun q hq hne=>by rw[ho7 q (by omega)];exact hle6 _ _ (hle5 _ _ (DJ hq)) |>.trans (DJ hq).symm⟩;exact hK3 _ _ ⟨_,_,_,_,rfl,k4.kept kp7 (((k4.map.ext hle5).ext hle6).same (ho7 r (by omega))),kp7,by omega,hb7⟩
  rintro ρ h5 ⟨B5,v79,v83,tl,rfl,k5,kp5,hB5,hb5⟩;subst hz;refine aa fun z hz=>?_;have kp25:=kp24.trans kp5;have ci5:=ab kp25.skip bi.1;have bi5:=bi.2.mono kp25.skip;have ca5:=ab kp25.skip ba.1;have ba5:=ba.2.mono kp25.skip;have ct5:=ab kp25.skip bt.1;have bt5:=bt.2.mono kp25.skip;have hb5':skip r h5 B5=some (.cells (encS ((dV x.term.kind).getD (0,0,0,0))).cells T.cz (0,0)):=by rw[il hB5];exact hb5
  generalize hsh:(dV x.term.kind).getD (0,0,0,0)=s at hb5';have d0:ag (skip r h5) ⟨B5,0,none⟩=some (.int .i64 s.1):=bS hb5' rfl;have d1:ag (skip r h5) ⟨B5,1,none⟩=some (.int .i64 s.2.1):=bS hb5' rfl;have d2:ag (skip r h5) ⟨B5,2,none⟩=some (.int .i64 s.2.2.1):=bS hb5' rfl;have d3:ag (skip r h5) ⟨B5,3,none⟩=some (.int .i64 s.2.2.2):=bS hb5' rfl;have hto:kq x.term=((dV x.term.kind).isSome&&(aV x.term.args.length s.1 s.2.1&&aV x.term.to.length s.2.2.1 s.2.2.2)):=by rw[kq,<-hsh];cases dV x.term.kind<;>rfl
  refine bR (skip r h5) bK ?_;have bad:kq x.term=false->∀ch,ch=trV (10,(b:Int),(x.ins.length:Int))->Kp ch h5:=fun e ch hch=>hKp _ _ ⟨_,her (by rw[endS,if_neg (by simp[e])]),hch,kp03.trans (kp4.trans kp5)⟩;have good:kq x.term=true->∀tl:Env,@LC.wp (ppOf Kp) Tryz.prog z (iX 1 (gy K2 (iX 0 (@kv [] K)))) ([(0,.pointer (some ⟨Kb,0,none⟩)),(2,.int .i64 b),(3,.pointer (some ⟨B,0,none⟩)),(10,.pointer (some ⟨B5,0,none⟩)),(11,.bool true),(18,vb),(19,.int .i64 f.blocks.length),(20,.int .i64 b),(43,vi),
   (44,.int .i64 x.ins.length),(45,.int .i64 x.ins.length),(79,v79),(82,.int .i64 x.term.kind),(83,v83)]++tl) h5:=by
   intro hgood tl;subst hz;have ct5':=ab bK ct5;have cb5:=k5.c1;have hne:0<f.blocks.length:=by omega
   simp[ct5',bt5.len];refine ao [0,2,3,18,19,20,116,117,118] (fun(_:Unit) i=>[.pointer (some ⟨Kb,0,none⟩),.int .i64 b,.pointer (some ⟨B,0,none⟩),vb,.int .i64 f.blocks.length,.int .i64 b,vt,.int .i64 x.term.to.length,.int .i64 i])
    (fun _ i h6=>h6=h5/\∀j,j<i->aV (nth x.term.to j) 1 (f.blocks.length-1)=true) x.term.to.length ()
    rfl (by omega) (by simp[dA,aI,aY]) ⟨rfl,fun j hj=>by omega⟩ (fun _ _=>rfl) (fun v i h1 hk m=>by simp) ?_ ?_
   ·rintro _ i h5 hlti ⟨rfl,hpre⟩ K3 hK3;refine aa fun y hy=>?_;simp(disch:=omega)[bt5.idx1 rfl,bt5.int bK];subst hy;refine bR (skip r h5) bK ?_;simp(disch:=omega)[ci5,bi5.len,cb5,k5.rb.len];refine af (by kernel_rfl) gh ?_;rintro _ _ ⟨rfl,rfl⟩;refine⟨bK,?_⟩;refine cK (by kernel_rfl) eG ?_ ?_
    ·rintro _ _ ⟨e,rfl⟩;refine hK3 () _ _ rfl rfl ⟨rfl,fun j hj=>?_⟩;rcases DA j i with h | h
     ·exact hpre j h
     have:j=i:=by omega
     subst this;exact e
    rintro ch _ ⟨e,hch,rfl⟩;refine⟨.inr fun _=>trivial,hKp _ _ ⟨_,her ?_,hch,kp03.trans (kp4.trans kp5)⟩⟩;rw[endS,if_pos hgood,if_neg];intro ha;rw[D3.1 ha _ (bT hlti)]at e;cases e
   rintro _ h5 ⟨rfl,hpre⟩;simp;refine hK2 () _ _ rfl rfl ⟨m4,?_,k5,kp03.trans (kp4.trans kp5)⟩;rw[hst,endS,if_pos hgood,if_pos];rw[D3];intro y hy;obtain⟨j,hj,rfl⟩:=DO hy;rw[<-aq hj];exact hpre j hj
  cases hso:(dV x.term.kind).isSome with
  | false=>
   simp[ci5,bi5.len,d0,d1,d2,d3,ca5,ba5.len,ct5,bt5.len,aI,aY];refine cK (by kernel_rfl) eG ?_ ?_
   ·rintro _ _ ⟨e,_⟩;cases e
   rintro ch _ ⟨_,hch,rfl⟩;exact⟨.inr fun _=>trivial,bad (by rw[hto,hso];rfl) _ hch⟩
  | true=>
   rw[hso,ET]at hto;simp[ci5,bi5.len,d0,d1,d2,d3,ca5,ba5.len,ct5,bt5.len,aI,aY];refine af (by kernel_rfl) gh ?_;rintro _ _ ⟨rfl,rfl⟩;refine⟨bK,?_⟩;cases hw1:aV x.term.args.length s.1 s.2.1 with
   | false=>
    simp[aI,aY];refine cK (by kernel_rfl) eG ?_ ?_
    ·rintro _ _ ⟨e,_⟩;cases e
    rintro ch _ ⟨_,hch,rfl⟩;exact⟨.inr fun _=>trivial,bad (by rw[hto,hw1];rfl) _ hch⟩
   | true=>
    simp[aI,aY];refine af (by kernel_rfl) gh ?_;rintro _ _ ⟨rfl,rfl⟩;refine⟨bK,?_⟩;refine cK (by kernel_rfl) eG ?_ ?_
    ·rintro _ _ ⟨e,rfl⟩;exact good (by rw[hto,hw1,e];rfl) _
    rintro ch _ ⟨e,hch,rfl⟩;exact⟨.inr fun _=>trivial,bad (by rw[hto,hw1,e];rfl) _ hch⟩
 rintro _ h1 ⟨m1,hm1,k1,kp1⟩;simp;exact hK _ _ ⟨m1,hm1,k1,kp1⟩
theorem lu : ∀{a b:List Int},a.Pairwise (· < ·)->b.Pairwise (· < ·)->(∀x,x∈a↔x∈b)->a=b
 | [],[],_,_,_=>rfl
 | [],y::b,_,_,h=>by have:=(h y).2 (Dz ..);cases this
 | x::a,[],_,_,h=>by have:=(h x).1 (Dz ..);cases this
 | x::a,y::b,ha,hb,h=>by
  obtain⟨a1,a2⟩:=FR.1 ha;obtain⟨b1,b2⟩:=FR.1 hb;have e:x=y:=by
   rcases DL.1 ((h x).1 (Dz ..))with e | h1
   ·exact e
   rcases DL.1 ((h y).2 (Dz ..))with e | h2
   ·exact e.symm
   have:=a1 y h2;have:=b1 x h1;omega
  subst e;rw[lu a2 b2 fun z=>?_];constructor
  ·intro hz;rcases DL.1 ((h z).1 (DB _ hz))with e | h1
   ·have:=a1 z hz;omega
   exact h1
  intro hz;rcases DL.1 ((h z).2 (DB _ hz))with e | h1
  ·have:=b1 z hz;omega
  exact h1
theorem qS(l:List Int):(kr l).Pairwise (·<=·):=by have:=List.pairwise_mergeSort (le:=fun x y:Int=>decide (x<=y)) (fun a b c h1 h2=>by simp at *;omega) (fun a b=>by simp;omega) l;exact this.imp fun h=>by simpa using h
theorem get!_nth{l:List Int}{i:Nat}:l.toArray[i]! = nth l i:=by simp[nth,E1]
theorem oG{l:List Int}(hs:l.Pairwise (·<=·)){i j:Nat}(hij:i<=j)(hj:j<l.length):nth l i<=nth l j:=by
 rw[aq (by omega),aq hj];rcases DA i j with h | h
 ·exact List.pairwise_iff_getElem.1 hs i j (by omega) hj h
 have:i=j:=by omega
 subst this;exact Int.le_refl _
theorem px{l:List Int}(hs:l.Pairwise (·<=·)):(Lib.compact l).Pairwise (· < ·):=by unfold Lib.compact Lib.compactUpTo;rw[List.pairwise_map,List.pairwise_filter];refine(List.pairwise_lt_range (n:=l.length)).imp_of_mem fun{i j} hi hj hij ki kj=>?_;simp only[EC]at hi hj;simp only[Lib.keeps,get!_nth,decide_eq_true_eq]at kj;rw[get!_nth,get!_nth];have h1:=oG hs (i:=i) (j:=j-1) (by omega) (by omega);have h2:=oG hs (i:=j-1) (j:=j) (by omega) hj;rcases kj with h | h<;>omega
theorem nZ{l:List Int}{x:Int}:x∈Lib.compact l↔x∈l:=by
 refine⟨kg,fun hx=>?_⟩;obtain⟨j,hj,rfl⟩:=DO hx;have key : ∀j,j<l.length->nth l j∈Lib.compact l:=by
  intro j;induction j with
  | zero=>intro h;unfold Lib.compact Lib.compactUpTo;refine Ex.2 ⟨0,EP.2 ⟨by simpa using h,by simp[Lib.keeps]⟩,get!_nth⟩
  | succ j ih=>
   intro h;by_cases he:nth l (j+1)=nth l j
   ·rw[he];exact ih (by omega)
   unfold Lib.compact Lib.compactUpTo;refine Ex.2 ⟨j+1,EP.2 ⟨by simpa using h,by simp only[Lib.keeps,get!_nth,decide_eq_true_eq];exact .inr (by simpa using he)⟩,get!_nth⟩
 rw[<-aq hj];exact key j hj
theorem jR{β:Type}{p:Nat->Bool}{x:Nat->β}{y:β}:y∈sift p x n↔∃i,i<n/\p i=true/\x i=y:=by rw[kM];simp[and_assoc]
theorem rB{n:Int}:(gI row n).Pairwise (· < ·):=px (qS _)
theorem nf{n x:Int}:x∈gI row n↔x∈row/\0<=x/\x<n:=by
 rw[gI,nZ,kr,FQ,jR];simp only[jN,DC,decide_eq_true_eq];constructor
 ·rintro⟨i,hi,h,rfl⟩;exact⟨bT hi,h⟩
 rintro⟨h,h1⟩;obtain⟨i,hi,rfl⟩:=DO h;exact⟨i,hi,by rw[aq hi];exact h1,aq hi⟩
theorem eV{g:Gr}{a:Int}:iW g a b=true↔(0<=a/\a<g.length/\0<=b/\b<g.length)/\b∈nth g a.toNat:=by simp[iW]
theorem rV{p:Nat->Bool}:(sift p (fun b=>(b:Int)) n).Pairwise (· < ·):=by rw[kM,List.pairwise_map,List.pairwise_filter];exact List.pairwise_lt_range.imp fun h _ _=>by omega
theorem eA{g:Gr}{a:Int}:b∈gJ g a↔iW g a b=true:=by
 rw[gJ,jR];constructor
 ·rintro⟨i,_,h,rfl⟩;exact h
 intro h;have:=(eV.1 h).1;exact⟨b.toNat,by omega,by rw[DI (by omega)];exact h,DI (by omega)⟩
theorem ma{g:Gr}{a:Int}:(gJ g a).Pairwise (· < ·):=rV
theorem oS{g:Gr}{a:Nat}(ha:a<g.length):nth (cm g) a=gJ g a:=by rw[cm,eu ha];refine lu rB ma fun x=>?_;rw[nf,eA,eV,DN];exact⟨fun⟨h1,h2,h3⟩=>⟨⟨by omega,by omega,h2,h3⟩,h1⟩,fun⟨⟨_,_,h2,h3⟩,h1⟩=>⟨h1,h2,h3⟩⟩
theorem tH{f k:Nat->List Int}(h : ∀a,a<n->f a=k a):fR f n=fR k n:=by
 induction n with
 | zero=>rfl
 | succ n ih=>rw[fo,fo,ih fun a ha=>h a (by omega),h n (by omega)]
theorem xy{g:Gr}:e9 g=fR (fun a=>gJ g a) g.length:=tH fun a ha=>oS ha
theorem yk{l:List (Int × Int)}: ∀{p:Gr} {i:Nat},i<p.length->nth (l.foldl dy p) i=nth p i++(l.filter fun e=>decide (e.2.toNat=i)).map Prod.fst:=by
 induction l with
 | nil=>intro p i _;simp
 | cons e l ih=>
  intro p i hi;rw[DS,ih (by simpa[dy]using hi),dy,cg hi,FA];split
  ·rename_i h;simp[h]
  rename_i h;simp[h]
theorem filter_one{l:List Int}(hs:l.Pairwise (· < ·)):l.filter (fun x=>decide (x=b))=if b∈l then[b] else[]:=by
 induction l with
 | nil=>simp
 | cons x l ih=>
  obtain⟨h1,h2⟩:=FR.1 hs;rw[FA,ih h2];by_cases hx:x=b
  ·subst hx;have:¬x∈l:=fun h=>by have:=h1 x h;omega
   simp[this]
  simp[hx,Ne.symm hx]
theorem zj{f:Nat->List Int}(hf : ∀a,(f a).Pairwise (· < ·))(hp : ∀a,∀x∈f a,0<=x){b:Nat}:((fR f n).filter fun e=>decide (e.2.toNat=b)).map Prod.fst=sift (fun a=>decide ((b:Int)∈f a)) (fun a=>(a:Int)) n:=by
 induction n with
 | zero=>rfl
 | succ n ih=>
  rw[fo,FM,Fa,ih];have e1:((f n).map fun b=>((n:Int),b)).filter (fun e=>decide (e.2.toNat=b))=((f n).filter fun x=>decide (x=(b:Int))).map fun b=>((n:Int),b):=by rw[List.filter_map];congr 1;refine F0 fun x hx=>?_;have:=hp n x hx;simp only[Function.comp,decide_eq_decide];omega
  rw[e1,filter_one (hf n)];by_cases h:(b:Int)∈f n
  ·rw[if_pos h,mY (by simpa using h)];rfl
  rw[if_neg h,lG (by simpa using h)];simp
theorem jS{g:Gr}:(cy g).length=g.length:=by rw[cy,jk];simp
theorem sv{g:Gr}:cy g=np g:=by
 refine qF (by rw[jS,uH]) fun b hb=>?_;rw[jS]at hb;rw[cy,yk (by simpa using hb),aB hb,D7,np,eu hb,xy,zj (fun _=>ma) (fun a x hx=>by have:=(eV.1 (eA.1 hx)).1;omega)];have e:(fun a:Nat=>decide ((b:Int)∈gJ g a))=fun a:Nat=>iW g a b:=by funext a;rw[DQ];simp[eA]
 rw[e]
theorem xF{g:Gr}{a:Int}(hb:0<=b/\b<g.length):a∈nth (cy g) b.toNat↔iW g a b=true:=by
 rw[sv,np,eu (by omega),jR];constructor
 ·rintro⟨i,_,h,rfl⟩;rwa [DI hb.1]at h
 intro h;have:=(eV.1 h).1;exact⟨a.toNat,by omega,by rw[DI (by omega),DI (by omega)];exact h,DI (by omega)⟩
structure Le (x y:List Bool):Prop where
 len:y.length=x.length
 le : ∀i,nth x i=true->nth y i=true
theorem Le.refl(x:List Bool):Le x x:=⟨rfl,fun _ h=>h⟩
theorem Le.trans {x y z:List Bool} (h:Le x y) (k:Le y z):Le x z:=⟨k.len.trans h.len,fun i e=>k.le i (h.le i e)⟩
theorem Le.antisymm{x y:List Bool}(h:Le x y)(k:Le y x):x=y:=by refine qF h.len.symm fun i _=>?_;rw[DQ];exact⟨h.le i,k.le i⟩
theorem Le.cr : ∀{x y:List Bool},Le x y->x=y\/cr y<cr x
 | [],y,h=>.inl (DR h.len).symm
 | a::x,y,h=>by
  match y,h with
  | [],h=>have:=h.len;simp at this
  | b::y,h=>
   have h2:Le x y:=⟨by simpa using h.len,fun i e=>by have:=h.le (i+1);simpa[nth]using this (by simpa[nth]using e)⟩;have h0:a=true->b=true:=fun e=>by have:=h.le 0;simpa[nth]using this (by simpa[nth]using e)
   unfold Go.Proofs.YtnfiilgdjpdlkaaGreatDoor.cr;rcases h2.cr with rfl | h3
   ·cases a<;>cases b<;>simp at h0 ⊢
   unfold Go.Proofs.YtnfiilgdjpdlkaaGreatDoor.cr at h3;cases a<;>cases b<;>simp at h0 ⊢<;>omega
theorem A8{x:List Bool}{i:Nat}{b:Bool}(hb:nth x i=true->b=true):Le x (x.set i b):=by
 refine⟨by simp,fun j hj=>?_⟩;rcases DA j x.length with h | h
 ·rw[cg h];split
  ·rename_i e;subst e;exact hb hj
  exact hj
 rw[fF h]at hj;cases hj
theorem ql {f:Nat->List Bool->List Bool} (hf : ∀k x,Le x (f k x)) (x:List Bool) : ∀n m,n<=m->Le (up f n x) (up f m x)
  | n,0,h=>by
                  obtain rfl:n=0:=by omega
                  exact Le.refl _
  | n,m+1,h=>by
    rcases DA n (m+1)with h1 | h1
    · exact(ql hf x n m (by omega)).trans (hf m _)
    · obtain rfl:n=m+1:=by omega
      exact Le.refl _
theorem AH{f:Nat->List Bool->List Bool}(hf : ∀k x,Le x (f k x)){x:List Bool}(h:up f n x=x): ∀k,k<n->f k x=x:=by
 have key : ∀k,k<=n->up f k x=x:=fun k hk=>by have h1:=ql hf x k n hk;rw[h]at h1;have h2:=ql hf x 0 k (Fi _);exact(h2.antisymm h1).symm
 intro k hk;have h1:=key (k+1) (by omega);rw[up,key k (by omega)]at h1;exact h1
theorem tK {β:Type} {F:β->β} : ∀(n:Nat) (x:β),up (fun _=>F) (n+1) x=up (fun _=>F) n (F x)
 | 0,x=>rfl
 | n+1,x=>by show F (up (fun _=>F) (n+1) x)=F (up (fun _=>F) n (F x));rw[tK n x]
theorem sV {β:Type} {F:β->β} {x:β} (h:F x=x) : ∀n,up (fun _=>F) n x=x
 | 0=>rfl
 | n+1=>by show F (up (fun _=>F) n x)=x;rw[sV h n,h]
theorem yH {F:List Bool->List Bool} (hF : ∀x,Le x (F x)) : ∀(n:Nat) (x:List Bool),cr x<=n->F (up (fun _=>F) n x)=up (fun _=>F) n x
 | 0,x,h=>by
  rcases(hF x).cr with e | e
  ·exact e.symm
  omega
 | n+1,x,h=>by
  rw[tK];rcases(hF x).cr with e | e
  ·rw[<-e,sV e.symm];exact e.symm
  exact yH hF n _ (by omega)
inductive Re (g:Gr) (gone:Int):Nat->Prop
 | root:0<g.length->gone≠0->Re g gone 0
 | step {a b:Nat}:Re g gone a->iW g a b=true->(b:Int)≠gone->Re g gone b
theorem Re.lt{g:Gr}{gone:Int}{b:Nat}(h:Re g gone b):b<g.length:=by
 cases h with
 | root h _=>exact h
 | step _ h _=>have:=(eV.1 h).1;omega
variable{gone:Int}
theorem Re.ne{g:Gr}{b:Nat}(h:Re g gone b):(b:Int)≠gone:=by
 cases h with
 | root _ h=>exact fun e=>h e.symm
 | step _ _ h=>exact h
theorem Re.all{g:Gr}{b:Nat}(h:Re g gone b):Re g (-1) b:=by
 induction h with
 | root h _=>exact .root h (by decide)
 | step _ h _ ih=>exact .step ih h (by omega)
theorem pf{l:List Int}{i:Nat}{x:List Bool}:Le x (n9 gone l i x):=A8 fun h=>by rw[h];rfl
theorem nU{g:Gr}{a:Nat}{x:List Bool}:Le x (outBlock g gone a x):=by
 unfold outBlock;split
 ·exact ql (fun k x=>pf) x 0 _ (Fi _)
 exact Le.refl _
theorem nH{g:Gr}{x:List Bool}:Le x (iV g gone x):=ql (fun k x=>nU) x 0 _ (Fi _)
theorem rM{β:Type}(I:β->Prop){f:Nat->β->β}(hf : ∀k x,k<n->I x->I (f k x)){x:β}(hx:I x):I (up f n x):=by
 have : ∀m,m<=n->I (up f m x):=by
  intro m;induction m with
  | zero=>exact fun _=>hx
  | succ m ih=>exact fun h=>hf _ _ (by omega) (ih (by omega))
 exact this n (Dy _)
theorem qU{g:Gr}{b:Nat}:nth (iZ g gone) b=true↔Re g gone b:=by
 by_cases h0:g.length=0\/gone=0
 ·rw[iZ,if_pos h0];constructor
  ·intro h;rcases DA b g.length with h1 | h1
   ·rw[aB h1]at h;cases h
   rw[fF (by simpa using h1)]at h;cases h
  intro h;exfalso;induction h with
  | root h1 h2=>rcases h0 with h0 | h0;omega;exact h2 h0
  | step _ _ _ ih=>exact ih
 rw[iZ,if_neg h0];have hg:g.length≠0:=fun e=>h0 (.inl e);have hgone:gone≠0:=fun e=>h0 (.inr e)
 have hinit:((List.replicate g.length false).set 0 true).length=g.length:=by simp
 constructor
 ·have hI : ∀x:List Bool,(∀b,nth x b=true->Re g gone b)->∀b,nth (iV g gone x) b=true->Re g gone b:=by
   intro x hx;refine rM (fun x:List Bool=>∀b,nth x b=true->Re g gone b) (fun a x ha hx=>?_) hx;unfold outBlock;split
   ·rename_i hxa;have hra:=hx a hxa;refine rM (fun x:List Bool=>∀b,nth x b=true->Re g gone b) (fun i x hi hx=>?_) hx;intro b hb;have hm:=bT hi;have hed:=eA.1 hm;have hrng:=(eV.1 hed).1;unfold n9 at hb;rcases DA b x.length with h1 | h1
    ·rw[cg h1]at hb;split at hb
     ·rename_i e;rcases(Ed _ _).mp hb with h2 | h2
      ·rw[e]at h2;exact hx b h2
      have eb:(b:Int)=nth (gJ g a) i:=by omega
      exact .step hra (by rw[eb];exact hed) (by rw[eb];simpa using h2)
     exact hx b hb
    rw[fF (by simpa using h1)]at hb;cases hb
   exact hx
  exact rM (fun x:List Bool=>∀b,nth x b=true->Re g gone b) (fun _ x _ hx=>hI x hx) (fun b hb=>by
   rcases DA b g.length with h1 | h1
   ·rw[cg (by simpa using h1)]at hb;split at hb
    ·rename_i e;subst e;exact .root (by omega) hgone
    rw[aB h1]at hb;cases hb
   rw[fF (by simpa using h1)]at hb;cases hb) b
 intro h;have hfix:=yH (F:=iV g gone) (fun x=>nH) g.length ((List.replicate g.length false).set 0 true) (by
  have:=qn (t:=List.replicate g.length false) (i:=0);have h2:cr (List.replicate g.length false)=g.length:=by simp[cr]
  omega);have hle:=ql (f:=fun _=>iV g gone) (fun _ x=>nH) ((List.replicate g.length false).set 0 true) 0 g.length (Fi _);generalize up (fun _=>iV g gone) g.length ((List.replicate g.length false).set 0 true)=x at hfix hle;have hxl:x.length=g.length:=hle.len.trans hinit;induction h with
 | root h1 _=>exact hle.le 0 (by show nth ((List.replicate g.length false).set 0 true) 0=true;rw[cg (by simpa using h1),if_pos rfl])
 | step ha he hb ih=>rename_i a b;have hrng:=(eV.1 he).1;have h1:=AH (fun k x=>nU) hfix a (by omega);rw[outBlock,if_pos ih]at h1;obtain⟨i,hi,e⟩:=DO (eA.2 he);have h2:=AH (fun k x=>pf) h1 i hi;rw[<-aq hi]at e;unfold n9 at h2;rw[e]at h2;have h3:=congrArg (fun l=>nth l b) h2;simp only[DN]at h3;rw[cg (by omega),if_pos rfl]at h3;rw[<-h3];simp[hb]
theorem ko{g:Gr}{a b:Nat}:domC g a b=true↔Re g (-1) a/\Re g (-1) b/\¬Re g a b:=by
 rw[domC];simp only[DC,Ed,Fp,decide_eq_true_eq,qU,EY,ne_eq];constructor
 ·rintro⟨⟨h1,h2⟩,h3⟩;refine⟨h1,h2,?_⟩;rcases h3 with h3 | h3
  ·exact fun h=>h.ne h3.symm
  exact h3
 rintro⟨h1,h2,h3⟩;exact⟨⟨h1,h2⟩,.inr h3⟩
def Bef (l:List Int) (u v:Int):Prop:=∃p q,l=p++u::q/\v∈q
theorem Bef.app{l:List Int}{u v:Int}(h:Bef l u v)(t:List Int):Bef (l++t) u v:=by obtain⟨p,q,rfl,hv⟩:=h;exact⟨p,q++t,by simp,Ei _ hv⟩
theorem Bef.pre{l:List Int}{u v:Int}(h:Bef l u v)(t:List Int):Bef (t++l) u v:=by obtain⟨p,q,rfl,hv⟩:=h;exact⟨t++p,q,by simp,hv⟩
theorem Bef.wA{l t:List Int}{u v:Int}(hu:u∈l)(hv:v∈t):Bef (l++t) u v:=by obtain⟨p,q,rfl⟩:=List.append_of_mem hu;exact⟨p,q++t,by simp,Eh _ hv⟩
theorem Bef.mem{l:List Int}{u v:Int}(h:Bef l u v):u∈l/\v∈l:=by obtain⟨p,q,rfl,hv⟩:=h;exact⟨by simp,by simp[hv]⟩
inductive Adv (nx:Int->List Int) (l:List Int) (u:Int):Int->Prop
 | self:Adv nx l u u
 | step {p q:Int}:Adv nx l u p->q∈nx p->Bef l q p->Adv nx l u q
theorem Adv.app {nx:Int->List Int} {l:List Int} {u v:Int} (h:Adv nx l u v) (t:List Int):Adv nx (l++t) u v:=by
 induction h with
 | self=>exact .self
 | step _ h1 h2 ih=>exact .step ih h1 (h2.app t)
theorem Adv.pre {nx:Int->List Int} {l:List Int} {u v:Int} (h:Adv nx l u v) (t:List Int):Adv nx (t++l) u v:=by
 induction h with
 | self=>exact .self
 | step _ h1 h2 ih=>exact .step ih h1 (h2.pre t)
theorem Adv.trans{nx:Int->List Int}{l:List Int}{u v w:Int}(h:Adv nx l u v)(k:Adv nx l v w):Adv nx l u w:=by
 induction k with
 | self=>exact h
 | step _ h1 h2 ih=>exact .step ih h1 h2
def vis (s:List Bool × List Int) (x:Int):Prop:=nth s.1 x.toNat=true
structure Told (nx:Int->List Int) (m:Nat) (a:Int) (s s':List Bool × List Int) (new:List Int):Prop where
 out:s'.2=s.2++new
 len:s'.1.length=s.1.length
 nodup:new.Nodup
 visd : ∀x,0<=x->(vis s' x↔vis s x\/x∈new)
 fresh : ∀x∈new,¬vis s x/\0<=x/\x<m
 last : ∃t,new=t++[a]
 clos : ∀x∈new,∀y∈nx x,vis s' y
 par : ∀x∈new,x≠a->∃p∈new,x∈nx p/\Bef new x p
 desc : ∀x∈new,Adv nx new a x
 ret : ∀x∈new,∀y∈nx x,y∈new->Bef new y x\/Adv nx new y x
structure Half (nx:Int->List Int) (m:Nat) (a:Int) (k:Nat) (s s':List Bool × List Int) (new:List Int):Prop where
 out:s'.2=s.2++new
 len:s'.1.length=s.1.length
 nodup:new.Nodup
 visd : ∀x,0<=x->(vis s' x↔vis s x\/x=a\/x∈new)
 fresh : ∀x∈new,¬vis s x/\(0<=x/\x<m)/\x≠a
 clos : ∀x∈new,∀y∈nx x,vis s' y
 done : ∀j,j<k->vis s' (nth (nx a) j)
 par : ∀x∈new,x∈nx a\/∃p∈new,x∈nx p/\Bef new x p
 desc : ∀x∈new,∃b∈new,b∈nx a/\Adv nx new b x
 ret : ∀x∈new,∀y∈nx x,y∈new->Bef new y x\/Adv nx new y x
theorem qj {nx:Int->List Int} {m:Nat} (hnx : ∀a:Int,0<=a->a<m->∀y∈nx a,0<=y/\y<m) : ∀(n:Nat) (a:Int) (s:List Bool × List Int),0<=a->a<m->s.1.length=m->nth s.1 a.toNat=false->cr s.1<=n->
  ∃new,Told nx m a s (fB nx n a s) new
 | 0,a,s,h0,h1,hl,hf,hc=>by exfalso;have:=fq (t:=s.1) (i:=a.toNat) (by omega) hf;omega
 | n+1,a,s,h0,h1,hl,hf,hc=>by
  have hfs:=fq (t:=s.1) (i:=a.toNat) (by omega) hf;rw[fV];have half : ∀k,k<=(nx a).length->∃new,Half nx m a k s (up (bM nx n a) k (s.1.set a.toNat true,s.2)) new/\cr (up (bM nx n a) k (s.1.set a.toNat true,s.2)).1<=n:=by
   intro k;induction k with
   | zero=>
    intro _;refine⟨[],⟨by simp[up],by simp[up],by simp,fun x hx=>?_,by simp,by simp,by simp,by simp,by simp,by simp⟩,by simp only[up];omega⟩;unfold vis;show nth (s.1.set a.toNat true) x.toNat=true↔_;rcases DA x.toNat s.1.length with hlt | hge
    ·rw[cg hlt];split
     ·rename_i e;have:x=a:=by omega
      simp[this]
     rename_i e;have:x≠a:=fun h=>e (by rw[h]);simp[this]
    rw[fF (by simpa using hge),fF hge];have:x≠a:=by omega
    simp[this]
   | succ k ih=>
    intro hk;obtain⟨new,H,hcn⟩:=ih (by omega);rw[up];generalize up (bM nx n a) k (s.1.set a.toNat true,s.2)=z at H hcn;have hb:=hnx a h0 h1 (nth (nx a) k) (bT (by omega));have hbm:nth (nx a) k∈nx a:=bT (by omega);have hzl:z.1.length=m:=H.len.trans hl;rw[bM];split
    ·rename_i hv;refine⟨new,{ H with done:=fun j hj=>?_ },hcn⟩;rcases DA j k with h | h
     ·exact H.done j h
     obtain rfl:j=k:=by omega
     exact hv
    rename_i hv;obtain⟨new',T⟩:=qj hnx n (nth (nx a) k) z hb.1 hb.2 hzl (by simpa using hv) hcn;have hkeep:=(kc (nx:=nx) (m:=m) (c:=n) n (nth (nx a) k) z ⟨hzl,hcn⟩).2;generalize fB nx n (nth (nx a) k) z=z' at T hkeep;obtain⟨t,ht⟩:=T.last;have hbn:nth (nx a) k∈new':=by rw[ht];simp
    have up : ∀y,0<=y->vis z y->vis z' y:=fun y hy h=>(T.visd y hy).2 (.inl h);have hnv : ∀x∈new,vis z x:=fun x hx=>(H.visd x (H.fresh x hx).2.1.1).2 (.inr (.inr hx))
    refine⟨new++new',⟨?_,?_,?_,?_,?_,?_,?_,?_,?_,?_⟩,hkeep⟩
    ·rw[T.out,H.out,DG]
    ·rw[T.len,H.len]
    ·exact EH.2 ⟨H.nodup,T.nodup,fun x hx y hy e=>by subst e;exact(T.fresh x hy).1 (hnv x hx)⟩
    ·intro x hx;rw[T.visd x hx,H.visd x hx,DE];constructor
     ·rintro((h | h | h) | h)
      ·exact .inl h
      ·exact .inr (.inl h)
      ·exact .inr (.inr (.inl h))
      exact .inr (.inr (.inr h))
     rintro(h | h | h | h)
     ·exact .inl (.inl h)
     ·exact .inl (.inr (.inl h))
     ·exact .inl (.inr (.inr h))
     exact .inr h
    ·intro x hx;rcases DE.1 hx with hx | hx
     ·exact H.fresh x hx
     obtain⟨g1,g2⟩:=T.fresh x hx;refine⟨fun h=>g1 ((H.visd x g2.1).2 (.inl h)),g2,fun e=>g1 ((H.visd x g2.1).2 (.inr (.inl e)))⟩
    ·intro x hx y hy;rcases DE.1 hx with hx | hx
     ·have hxr:=(H.fresh x hx).2.1;exact up y (hnx x hxr.1 hxr.2 y hy).1 (H.clos x hx y hy)
     exact T.clos x hx y hy
    ·intro j hj;rcases DA j k with h | h
     ·exact up _ (hnx a h0 h1 _ (bT (by omega))).1 (H.done j h)
     obtain rfl:j=k:=by omega
     exact(T.visd _ hb.1).2 (.inr hbn)
    ·intro x hx;rcases DE.1 hx with hx | hx
     ·rcases H.par x hx with h | ⟨p,hp,h2,h3⟩
      ·exact .inl h
      exact .inr ⟨p,Ei _ hp,h2,h3.app _⟩
     by_cases e:x=nth (nx a) k
     ·exact .inl (e▸hbm)
     obtain⟨p,hp,h2,h3⟩:=T.par x hx e;exact .inr ⟨p,Eh _ hp,h2,h3.pre _⟩
    ·intro x hx;rcases DE.1 hx with hx | hx
     ·obtain⟨b,hb,h2,h3⟩:=H.desc x hx;exact⟨b,Ei _ hb,h2,h3.app _⟩
     exact⟨_,Eh _ hbn,hbm,(T.desc x hx).pre _⟩
    intro x hx y hy hyn;rcases DE.1 hx with hx | hx<;>rcases DE.1 hyn with hyn | hyn
    ·exact(H.ret x hx y hy hyn).imp (·.app _) (·.app _)
    ·exact absurd (H.clos x hx y hy) (T.fresh y hyn).1
    ·exact .inl (Bef.wA hyn hx)
    exact(T.ret x hx y hy hyn).imp (·.pre _) (·.pre _)
  obtain⟨new,H,hcn⟩:=half (nx a).length (Dy _);generalize up (bM nx n a) (nx a).length (s.1.set a.toNat true,s.2)=z at H hcn;have hda : ∀y∈nx a,vis z y:=by intro y hy;obtain⟨j,hj,rfl⟩:=DO hy;have:=H.done j hj;rwa [aq hj]at this
  have hadv : ∀x∈new,Adv nx (new++[a]) a x:=by intro x hx;obtain⟨b,hb,h2,h3⟩:=H.desc x hx;exact(Adv.step .self h2 (Bef.wA hb (by simp))).trans (h3.app _)
  refine⟨new++[a],⟨?_,H.len,?_,?_,?_,⟨new,rfl⟩,?_,?_,?_,?_⟩⟩
  ·simp only[H.out,DG]
  ·refine EH.2 ⟨H.nodup,by simp,fun x hx y hy e=>?_⟩;simp only[DF]at hy;exact(H.fresh x hx).2.2 (e.trans hy)
  ·intro x hx;show nth z.1 x.toNat=true↔_;have:=H.visd x hx;unfold vis at this ⊢;rw[this];simp only[DE,DF];constructor
   ·rintro(h | h | h)
    ·exact .inl h
    ·exact .inr (.inr h)
    exact .inr (.inl h)
   rintro(h | h | h)
   ·exact .inl h
   ·exact .inr (.inr h)
   exact .inr (.inl h)
  ·intro x hx;rcases DE.1 hx with hx | hx
   ·exact⟨(H.fresh x hx).1,(H.fresh x hx).2.1⟩
   simp only[DF]at hx;subst hx;exact⟨by unfold vis;rw[hf];simp,h0,h1⟩
  ·intro x hx y hy;rcases DE.1 hx with hx | hx
   ·exact H.clos x hx y hy
   simp only[DF]at hx;subst hx;exact hda y hy
  ·intro x hx hne;rcases DE.1 hx with hx | hx
   ·rcases H.par x hx with h | ⟨p,hp,h2,h3⟩
    ·exact⟨a,by simp,h,Bef.wA hx (by simp)⟩
    exact⟨p,Ei _ hp,h2,h3.app _⟩
   simp only[DF]at hx;exact absurd hx hne
  ·intro x hx;rcases DE.1 hx with hx | hx
   ·exact hadv x hx
   simp only[DF]at hx;subst hx;exact .self
  intro x hx y hy hyn;rcases DE.1 hyn with hn | hn
  ·rcases DE.1 hx with hx | hx
   ·exact(H.ret x hx y hy hn).imp (·.app _) (·.app _)
   simp only[DF]at hx;subst hx;exact .inl (Bef.wA hn (by simp))
  simp only[DF]at hn;subst hn;rcases DE.1 hx with hx | hx
  ·exact .inr (hadv x hx)
  simp only[DF]at hx;subst hx;exact .inr .self
end Go.Proofs.YtnfiilgdjpdlkaaGreatDoor
namespace Go.Proofs.YtnfiilgdjpdlkaaGreatDoor.Chk
inductive Anc (o:Nat->Nat) (x:Nat):Nat->Prop
 | self:Anc o x x
 | up {b:Nat}:b≠0->Anc o x (o b)->Anc o x b
theorem mK{o:Nat->Nat}{x:Nat}:Anc o x 0↔x=0:=by
 constructor
 ·intro h;cases h with
  | self=>rfl
  | up h _=>exact absurd rfl h
 rintro rfl;exact .self
variable{b:Nat}
theorem ju{o:Nat->Nat}{x:Nat}(hb:b≠0):Anc o x b↔x=b\/Anc o x (o b):=by
 constructor
 ·intro h;cases h with
  | self=>exact .inl rfl
  | up _ h=>exact .inr h
 rintro(rfl | h)
 ·exact .self
 exact .up hb h
theorem Anc.trans{o:Nat->Nat}{x y:Nat}(h:Anc o x y)(k:Anc o y b):Anc o x b:=by
 induction k with
 | self=>exact h
 | up hb _ ih=>exact .up hb ih
theorem Anc.total{o:Nat->Nat}{x y:Nat}(h:Anc o x b)(k:Anc o y b):Anc o x y\/Anc o y x:=by
 induction h with
 | self=>exact .inr k
 | up hb h ih=>
  cases k with
  | self=>exact .inl (.up hb h)
  | up _ k=>exact ih k
structure Ch (R:Nat->Prop) (r:Nat->Nat) (E:Nat->Nat->Prop) (f:Nat->Nat) (D:Nat->Nat->Prop):Prop where
 inj : ∀a b,R a->R b->r a=r b->a=b
 R0:R 0
 r0:r 0=0
 hf : ∀x,R x->x≠0->R (f x)/\E (f x) x/\r (f x)<r x
 d1 : ∀d b a,D d b->d≠b->E a b->R a->D d a
 d0 : ∀d,D d 0->d=0
def Ok (Pr:Nat->Prop) (x:Nat):Prop:=x=0\/Pr x
structure Inv (R:Nat->Prop) (r:Nat->Nat) (E:Nat->Nat->Prop) (f:Nat->Nat) (D:Nat->Nat->Prop) (k:Nat) (o:Nat->Nat) (Pr:Nat->Prop):Prop where
 pr : ∀b,Pr b->R b/\b≠0/\Ok Pr (o b)/\r (o b)<r b
 all : ∀b,R b->b≠0->r b<k->Pr b
 fok : ∀b,Pr b->Ok Pr (f b)
 K : ∀b,Pr b->∀x,(∀a,E a b->R a->Ok Pr a->Anc o x a)->Anc o x (o b)
 FP : ∀b,Pr b->∀y,Anc o y (o b)->k<=r y->Anc o y (f b)
 FP2 : ∀b,Pr b->r b<k->Anc o (o b) (f b)
 S : ∀b,Pr b->∀d,D d b->d≠b->Anc o d (o b)
section
variable {R:Nat->Prop} {r:Nat->Nat} {E:Nat->Nat->Prop} {f:Nat->Nat} {D:Nat->Nat->Prop} {k:Nat} {o:Nat->Nat} {Pr:Nat->Prop}
theorem Inv.okR(I:Inv R r E f D k o Pr)(C:Ch R r E f D){x:Nat}(h:Ok Pr x):R x:=by
 rcases h with rfl | h
 ·exact C.R0
 exact(I.pr x h).1
theorem Inv.anc(I:Inv R r E f D k o Pr){x:Nat}(h:Anc o x b):Ok Pr b->Ok Pr x/\(x=b\/r x<r b):=by
 induction h with
 | self=>exact fun hb=>⟨hb,.inl rfl⟩
 | up hb _ ih=>
  intro hok;rcases hok with rfl | hp
  ·exact absurd rfl hb
  obtain⟨_,_,h3,h4⟩:=I.pr _ hp;obtain⟨h5,h6⟩:=ih h3;refine⟨h5,.inr ?_⟩;rcases h6 with rfl | h6
  ·exact h4
  omega
theorem Inv.dom(I:Inv R r E f D k o Pr)(C:Ch R r E f D){d:Nat}(hb:Ok Pr b)(h:D d b):Anc o d b:=by
 by_cases e:d=b
 ·subst e;exact .self
 rcases hb with rfl | hb
 ·exact absurd (C.d0 d h) e
 exact .up (I.pr b hb).2.1 (I.S b hb d h e)
def upd (o:Nat->Nat) (c q:Nat):Nat->Nat:=fun b=>if b=c then q else o b
def add (Pr:Nat->Prop) (c:Nat):Nat->Prop:=fun b=>b=c\/Pr b
theorem fM{c q x:Nat}(h:¬Anc o c b):Anc (upd o c q) x b↔Anc o x b:=by
 constructor
 ·intro k;induction k with
  | self=>exact .self
  | up hb k ih=>
   rename_i b;have hne:b≠c:=fun e=>h (e▸.self);have e:upd o c q b=o b:=by unfold upd;rw[if_neg hne]
   rw[e]at ih k;exact .up hb (ih fun hc=>h (.up hb hc))
 intro k;induction k with
 | self=>exact .self
 | up hb k ih=>
  rename_i b;have hne:b≠c:=fun e=>h (e▸.self);have e:upd o c q b=o b:=by unfold upd;rw[if_neg hne]
  exact .up hb (by rw[e];exact ih fun hc=>h (.up hb hc))
theorem BI{c q x:Nat}(hc:c≠0)(hq:¬Anc o c q):Anc (upd o c q) x c↔x=c\/Anc o x q:=by rw[ju hc,show upd o c q c=q by simp[upd],fM hq]
theorem Inv.Ac(I:Inv R r E f D k o Pr){x y:Nat}(hx:Ok Pr x)(hy:Ok Pr y)(h1:Anc o x y)(h2:Anc o y x):x=y:=by have e1:=(I.anc h1 hy).2;have e2:=(I.anc h2 hx).2;omega
theorem Inv.below(I:Inv R r E f D k o Pr){c q x:Nat}(hpc:Pr c)(hq:¬Anc o c q)(h:Anc o c b):Ok Pr b->(Anc (upd o c q) x b↔(Anc o x b/\Anc o c x)\/Anc o x q):=by
 have hc:=(I.pr c hpc).2.1;induction h with
 | self=>
  intro hb;rw[BI hc hq];constructor
  ·rintro(rfl | h)
   ·exact .inl ⟨.self,.self⟩
   exact .inr h
  rintro(⟨h1,h2⟩ | h)
  ·exact .inl (I.Ac (I.anc h1 hb).1 hb h1 h2)
  exact .inr h
 | up hb h ih=>
  rename_i b;intro hok;have hpb:Pr b:=hok.resolve_left hb;obtain⟨_,_,h3,h4⟩:=I.pr b hpb;have hne:b≠c:=fun e=>by
   subst e;rcases(I.anc h h3).2 with e | e
   ·rw[<-e]at h4;omega
   omega
  have e:upd o c q b=o b:=by unfold upd;rw[if_neg hne]
  rw[ju hb,e,ih h3,ju hb];constructor
  ·rintro(rfl | ⟨h1,h2⟩ | h1)
   ·exact .inl ⟨.inl rfl,.up hb h⟩
   ·exact .inl ⟨.inr h1,h2⟩
   exact .inr h1
  rintro(⟨rfl | h1,h2⟩ | h1)
  ·exact .inl rfl
  ·exact .inr (.inl ⟨h1,h2⟩)
  exact .inr (.inr h1)
structure Turn (R:Nat->Prop) (r:Nat->Nat) (E:Nat->Nat->Prop) (o:Nat->Nat) (Pr:Nat->Prop) (c q:Nat):Prop where
 ok:Ok Pr q
 q : ∀x,Anc o x q↔∀a,E a c->R a->Ok Pr a->Anc o x a
theorem Inv.fc(I:Inv R r E f D k o Pr)(C:Ch R r E f D){c:Nat}(hR:R c)(hc:c≠0)(hk:r c=k):Ok Pr (f c):=by
 obtain⟨h1,_,h3⟩:=C.hf c hR hc;by_cases e:f c=0
 ·exact .inl e
 exact .inr (I.all _ h1 e (by omega))
theorem Turn.lt{c q:Nat}(T:Turn R r E o Pr c q)(I:Inv R r E f D k o Pr)(C:Ch R r E f D)(hR:R c)(hc:c≠0)(hk:r c=k):r q<r c/\Anc o q (f c):=by
 obtain⟨h1,h2,h3⟩:=C.hf c hR hc;have h4:=(T.q q).1 .self (f c) h2 h1 (I.fc C hR hc hk);have:=(I.anc h4 (I.fc C hR hc hk)).2;refine⟨?_,h4⟩;rcases this with e | e
 ·rw[e];exact h3
 omega
theorem Inv.turn(I:Inv R r E f D k o Pr)(C:Ch R r E f D){c q:Nat}(hR:R c)(hc:c≠0)(hk:r c=k)(T:Turn R r E o Pr c q):Inv R r E f D (k+1) (upd o c q) (add Pr c):=by
 obtain⟨f1,f2,f3⟩:=C.hf c hR hc;have hfok:=I.fc C hR hc hk;obtain⟨hlt,hqf⟩:=T.lt I C hR hc hk;have hq:¬Anc o c q:=fun h=>by
  have:=(I.anc h T.ok).2;rcases this with e | e
  ·rw[e]at hlt;omega
  omega
 have hcf:¬Anc o c (f c):=fun h=>by
  have:=(I.anc h hfok).2;rcases this with e | e
  ·rw[<-e]at f3;omega
  omega
 have okm : ∀x,Ok Pr x->Ok (add Pr c) x:=fun x h=>h.imp id .inr;have up_ne : ∀b,b≠c->upd o c q b=o b:=fun b hb=>by unfold upd;rw[if_neg hb]
 have up_c:upd o c q c=q:=by simp[upd]
 have hpc : ∀b,Ok Pr b->Anc o c b->Pr c:=fun b hb h=>((I.anc h hb).1).resolve_left hc;have mono : ∀b,Ok Pr b->∀x,Anc (upd o c q) x b->Anc o x b:=by
  intro b hb x h;by_cases hcb:Anc o c b
  ·have hp:=hpc b hb hcb;rcases(I.below hp hq hcb hb).1 h with⟨h1,_⟩ | h1
   ·exact h1
   exact(Anc.up hc (I.K c hp x ((T.q x).1 h1))).trans hcb
  exact(fM hcb).1 h
 have stay : ∀b,Ok Pr b->∀x,Anc o x b->(Anc o c b->Anc o c x\/Anc o x q)->Anc (upd o c q) x b:=by
  intro b hb x h h2;by_cases hcb:Anc o c b
  ·refine(I.below (hpc b hb hcb) hq hcb hb).2 ?_;rcases h2 hcb with h3 | h3
   ·exact .inl ⟨h,h3⟩
   exact .inr h3
  exact(fM hcb).2 h
 have domc : ∀n b,r b<=n->Ok Pr b->Anc o c b->∀d,D d b->r d<r c->D d c:=by
  intro n;induction n with
  | zero=>
   intro b hb hok hcb d hd hlt;have:=(I.anc hcb hok).2;rcases this with rfl | h
   ·exact hd
   omega
  | succ n ih=>
   intro b hb hok hcb d hd hlt;by_cases e:c=b
   ·subst e;exact hd
   have hb0:b≠0:=fun e0=>by subst e0;exact e (mK.1 hcb)
   have hpb:=hok.resolve_left hb0;have hcb':Anc o c (o b):=((ju hb0).1 hcb).resolve_left e;obtain⟨g1,g2,g3⟩:=C.hf b (I.pr b hpb).1 hb0;have hlb:=(I.anc hcb hok).2;have hdb:d≠b:=fun e2=>by subst e2;omega
   exact ih (f b) (by omega) (I.fok b hpb) (I.FP b hpb c hcb' (by omega)) d (C.d1 d b (f b) hd hdb g2 g1) hlt
 have domq : ∀d,D d c->d≠c->Anc o d q:=by intro d hd hne;refine(T.q d).2 fun a ha hRa hoka=>?_;exact I.dom C hoka (C.d1 d c a hd hne ha hRa)
 refine⟨?_,?_,?_,?_,?_,?_,?_⟩
 ·rintro b (rfl | hb)
  ·rw[up_c];exact⟨hR,hc,okm _ T.ok,hlt⟩
  by_cases e:b=c
  ·subst e;rw[up_c];exact⟨hR,hc,okm _ T.ok,hlt⟩
  rw[up_ne b e];obtain⟨h1,h2,h3,h4⟩:=I.pr b hb;exact⟨h1,h2,okm _ h3,h4⟩
 ·intro b hRb hb0 hlt;by_cases e:r b=k
  ·exact .inl (C.inj b c hRb hR (by omega))
  exact .inr (I.all b hRb hb0 (by omega))
 ·rintro b (rfl | hb)
  ·exact okm _ hfok
  exact okm _ (I.fok b hb)
 ·intro b hb x hx;have hx' : ∀a,E a b->R a->Ok Pr a->Anc o x a:=fun a h1 h2 h3=>mono a h3 x (hx a h1 h2 (okm a h3));by_cases e:b=c
  ·subst e;rw[up_c,fM hq];exact(T.q x).2 hx'
  have hpb:Pr b:=hb.resolve_left e;rw[up_ne b e];obtain⟨h1,h2,h3,h4⟩:=I.pr b hpb;have hxo:=I.K b hpb x hx';refine stay (o b) h3 x hxo fun hco=>?_;rcases Anc.total hxo hco with h5 | h5
  ·obtain⟨g1,g2,g3⟩:=C.hf b h1 h2;have hcf2:=I.FP b hpb c hco (by omega);have hxf:=hx (f b) g2 g1 (okm _ (I.fok b hpb));rcases(I.below (hpc _ h3 hco) hq hcf2 (I.fok b hpb)).1 hxf with⟨_,h6⟩ | h6
   ·exact .inl h6
   exact .inr h6
  exact .inl h5
 ·intro b hb y hy hky;by_cases e:b=c
  ·subst e;rw[up_c,fM hq]at hy;exact(fM hcf).2 (hy.trans hqf)
  have hpb:Pr b:=hb.resolve_left e;rw[up_ne b e]at hy;obtain⟨h1,h2,h3,h4⟩:=I.pr b hpb;have hyf:=I.FP b hpb y (mono _ h3 y hy) (by omega);refine stay (f b) (I.fok b hpb) y hyf fun hcf2=>?_;rcases Anc.total hyf hcf2 with h5 | h5
  ·exfalso;have:=(I.anc h5 (.inr (hpc _ (I.fok b hpb) hcf2))).2;rcases this with e2 | e2
   ·subst e2;omega
   omega
  exact .inl h5
 ·intro b hb hlt;by_cases e:b=c
  ·subst e;rw[up_c];exact(fM hcf).2 hqf
  have hpb:Pr b:=hb.resolve_left e;rw[up_ne b e];obtain⟨h1,h2,h3,h4⟩:=I.pr b hpb;obtain⟨g1,g2,g3⟩:=C.hf b h1 h2;have hbk:r b<k:=by
   rcases DA (r b) k with h | h
   ·exact h
   exact absurd (C.inj b c h1 hR (by omega)) e
  have h5:=I.FP2 b hpb hbk;refine(fM fun hcf2=>?_).2 h5;have:=(I.anc hcf2 (I.fok b hpb)).2;rcases this with e2 | e2
  ·rw[<-e2]at g3;omega
  omega
 intro b hb d hd hne;by_cases e:b=c
 ·subst e;rw[up_c,fM hq];exact domq d hd hne
 have hpb:Pr b:=hb.resolve_left e;rw[up_ne b e];obtain⟨h1,h2,h3,h4⟩:=I.pr b hpb;have hdo:=I.S b hpb d hd hne;refine stay (o b) h3 d hdo fun hco=>?_;rcases Anc.total hdo hco with h5 | h5
 ·have hpcc:=hpc _ h3 hco;rcases(I.anc h5 (.inr hpcc)).2 with e2 | e2
  ·subst e2;exact .inl .self
  exact .inr (domq d (domc (r b) b (Dy _) (.inr hpb) (.up h2 hco) d hd e2) fun e3=>by subst e3;omega)
 exact .inl h5
theorem Inv.again(I:Inv R r E f D k o Pr)(hk : ∀b,R b->r b<k):Inv R r E f D 0 o Pr:=by refine⟨I.pr,fun b hR h0 h=>I.all b hR h0 (hk b hR),I.fok,I.K,fun b hb y hy _=>?_,fun b _ h=>absurd h (by omega),I.S⟩;exact hy.trans (I.FP2 b hb (hk b (I.pr b hb).1))
theorem Inv.start:Inv R r E f D 0 o (fun _=>False):=
 ⟨fun _ h=>h.elim,fun _ _ _ h=>absurd h (by omega),fun _ h=>h.elim,fun _ h=>h.elim,fun _ h=>h.elim,fun _ h=>h.elim,fun _ h=>h.elim⟩
theorem Inv.CE(I:Inv R r E f D k o Pr){c q:Nat}(T:Turn R r E o Pr c q)(hp:Pr c):q=o c\/r q<r (o c):=by have:=I.K c hp q ((T.q q).1 .self);exact(I.anc this (I.pr c hp).2.2.1).2
end
end Go.Proofs.YtnfiilgdjpdlkaaGreatDoor.Chk
namespace Go.Proofs.YtnfiilgdjpdlkaaGreatDoor
open Go Go.Lft Chk
theorem ym{β:Type}{f k:Nat->β->β}{n:Nat}(I:β->Prop)(h : ∀i x,i<n->I x->f i x=k i x)(hI : ∀i x,i<n->I x->I (f i x)){x:β}(hx:I x):up f n x=up k n x:=by
 have key : ∀m,m<=n->up f m x=up k m x/\I (up f m x):=by
  intro m;induction m with
  | zero=>exact fun _=>⟨rfl,hx⟩
  | succ m ih=>intro hm;obtain⟨h1,h2⟩:=ih (by omega);exact⟨by rw[up,up,<-h1,h m _ (by omega) h2],hI _ _ (by omega) h2⟩
 exact(key n (Dy _)).1
theorem nF {nx nx':Int->List Int} {m:Nat} (hnx : ∀a:Int,0<=a->a<m->nx a=nx' a/\∀y∈nx a,0<=y/\y<m) : ∀(n:Nat) (a:Int) (s:List Bool × List Int),0<=a->a<m->fB nx n a s=fB nx' n a s
 | 0,_,_,_,_=>rfl
 | n+1,a,s,h0,h1=>by
  obtain⟨e,hr⟩:=hnx a h0 h1;rw[fV,fV,<-e];have:up (bM nx n a) (nx a).length (s.1.set a.toNat true,s.2)=up (bM nx' n a) (nx a).length (s.1.set a.toNat true,s.2):=by refine ym (fun _=>True) (fun i x hi _=>?_) (fun _ _ _ _=>trivial) trivial;unfold bM;rw[<-e];obtain⟨g0,g1⟩:=hr _ (bT hi);rw[nF hnx n _ x g0 g1]
  rw[this]
theorem qx{g:Gr}{a y:Int}(h:y∈gJ g a):0<=y/\y<g.length:=by have:=(eV.1 (eA.1 h)).1;omega
theorem wI{g:Gr}{a:Int}(h0:0<=a)(h1:a<g.length):nx (cm g) a=gJ g a:=by unfold nx;rw[oS (by omega),DI h0]
theorem yS{g:Gr}:aC g=gG (gJ g) g.length:=by
 unfold aC gG;split
 ·rfl
 rw[nF (m:=g.length) (fun a h0 h1=>⟨wI h0 h1,fun y hy=>qx (by rwa [wI h0 h1]at hy)⟩) _ _ _ (by omega) (by omega)]
structure Ord (g:Gr) (order:List Int):Prop where
 nodup:order.Nodup
 mem : ∀x:Nat,(x:Int)∈order↔Re g (-1) x
 rng : ∀x∈order,0<=x/\x<g.length
 head:order[0]? = some 0
 par : ∀x∈order,x≠0->∃p∈order,iW g p x=true/\order.idxOf p<order.idxOf x
 ret : ∀x∈order,∀y∈order,iW g x y=true->order.idxOf y<=order.idxOf x->∃l,Adv (gJ g) l y x/\∀u v,Bef l u v->order.idxOf v<order.idxOf u
theorem nv{l:List Int}(hn:l.Nodup){u v:Int}(h:Bef l u v):l.reverse.idxOf v<l.reverse.idxOf u:=by
 obtain⟨p,q,rfl,hv⟩:=h;have hu:u∉q:=by have:=(EH.1 hn).2.1;exact(FG.1 this).1
 rw[List.reverse_append,List.reverse_cons,DG];have h1:(q.reverse++([u]++p.reverse)).idxOf v<q.reverse.length:=by rw[List.idxOf_append,if_pos (by simpa using hv)];exact FI (by simpa using hv)
 have h2:(q.reverse++([u]++p.reverse)).idxOf u=q.reverse.length:=by rw[List.idxOf_append,if_neg (by simpa using hu)];simp
 omega
theorem fK{g:Gr}(hg:0<g.length):Ord g (aC g):=by
 have hT:=qj (nx:=gJ g) (m:=g.length) (fun a _ _ y hy=>qx hy) g.length 0 (List.replicate g.length false,[]) (by omega) (by omega) (by simp) (aB (by simpa using hg)) (by simp[cr]);have ho:aC g=(fB (gJ g) g.length 0 (List.replicate g.length false,[])).2.reverse:=by rw[yS,gG,if_neg (by omega)]
 obtain⟨new,T⟩:=hT;have hout:=T.out;simp only[D7]at hout;rw[ho,hout];have hv0 : ∀x:Int,¬vis (List.replicate g.length false,([]:List Int)) x:=by
  intro x h;unfold vis at h;simp only at h;rcases DA x.toNat g.length with h1 | h1
  ·rw[aB h1]at h;cases h
  rw[fF (by simpa using h1)]at h;cases h
 have hvis : ∀x,0<=x->(vis (fB (gJ g) g.length 0 (List.replicate g.length false,[])) x↔x∈new):=fun x hx=>by rw[T.visd x hx];exact⟨fun h=>h.resolve_left (hv0 x),.inr⟩
 obtain⟨t,ht⟩:=T.last;have h0:(0:Int)∈new:=by rw[ht];simp
 have hre : ∀x∈new,Re g (-1) x.toNat:=by
  intro x hx;have:=T.desc x hx;clear hx;induction this with
  | self=>exact .root hg (by decide)
  | step _ h1 h2 ih=>have hpr:=T.fresh _ h2.mem.2;have hqr:=T.fresh _ h2.mem.1;have he:=eA.1 h1;refine .step ih ?_ (by omega);rwa [DI hpr.2.1,DI hqr.2.1]
 refine⟨by simpa[List.Nodup,List.pairwise_reverse,ne_comm]using T.nodup,fun x=>?_,fun x hx=>(T.fresh x (by simpa using hx)).2,?_,?_,?_⟩
 ·rw[List.mem_reverse];constructor
  ·intro h;simpa using hre x h
  intro h;induction h with
  | root _ _=>exact h0
  | step _ he _ ih=>exact(hvis _ (by omega)).1 (T.clos _ ih _ (eA.2 he))
 ·rw[ht,List.reverse_append];rfl
 ·intro x hx hne;obtain⟨p,hp,h1,h2⟩:=T.par x (by simpa using hx) hne;exact⟨p,by simpa using hp,eA.1 h1,nv T.nodup h2⟩
 intro x hx y hy he hle;rcases T.ret x (by simpa using hx) y (eA.2 he) (by simpa using hy)with h | h
 ·have:=nv T.nodup h;omega
 exact⟨new,h,fun u v huv=>nv T.nodup huv⟩
theorem nM{n:Nat}{order:List Int}(hn:order.Nodup)(hr : ∀x∈order,0<=x/\x<(n:Int)){x:Nat}(hx:x<n):nth (dR n order) x=if(x:Int)∈order then(order.idxOf (x:Int):Int) else -1:=by
 have key : ∀k,k<=order.length->(up (fun i l=>l.set (nth order i).toNat (i:Int)) k (List.replicate n (-1))).length=n/\nth (up (fun i l=>l.set (nth order i).toNat (i:Int)) k (List.replicate n (-1))) x=if(x:Int)∈order.take k then(order.idxOf (x:Int):Int) else -1:=by
  intro k;induction k with
  | zero=>intro _;exact⟨by simp[up],by rw[up,aB hx];simp⟩
  | succ k ih=>
   intro hk;obtain⟨h1,h2⟩:=ih (by omega);rw[up];refine⟨by simpa using h1,?_⟩;rw[cg (by omega),DK (by omega),h2];have hmem:order[k]∈order:=Ez _;have hrk:=hr _ hmem;rw[aq (show k<order.length by omega)];by_cases e:order[k].toNat=x
   ·have e2:order[k]=(x:Int):=by omega
    rw[if_pos e,if_pos (by rw[<-e2];exact Eh _ (DF.2 rfl)),<-e2,E9 hn]
   rw[if_neg e];have e2:¬(x:Int)=order[k]:=fun h=>e (by omega);simp only[DE,DF,e2,or_false]
 have:=(key order.length (Dy _)).2;rw[DH (Dy _)]at this;exact this
def st (out:List Int):Nat->Nat:=fun b=>(nth out b).toNat
def pd (out:List Int):Nat->Prop:=fun b=>b<out.length/\0<=nth out b
def rk (g:Gr) (x:Nat):Nat:=(aC g).idxOf (x:Int)
def Eg (g:Gr) (a b:Nat):Prop:=iW g a b=true
def Dm (g:Gr) (d b:Nat):Prop:=domC g d b=true
def Rg (g:Gr) (x:Nat):Prop:=Re g (-1) x
section
variable {g:Gr}
theorem wb{x:Nat}(h:Rg g x):rk g x<(aC g).length:=FI (((fK (FT (Fi _) h.lt)).mem x).2 h)
theorem Rg.pos{x:Nat}(h:Rg g x):0<g.length:=FT (Fi _) h.lt
theorem zW{x:Nat}(h:Rg g x):rk g x<g.length:=Fg (wb h) lH
theorem uJ{a b:Nat}(ha:Rg g a)(hb:Rg g b)(h:rk g a=rk g b):a=b:=by
 have O:=fK ha.pos;have h1:=List.getElem_idxOf (wb ha);have h2:=List.getElem_idxOf (wb hb);have:(a:Int)=(b:Int):=by rw[<-h1,<-h2];congr 1
 omega
theorem om(hg:0<g.length):rk g 0=0:=by
 have O:=fK hg;unfold rk;have hl:0<(aC g).length:=by
  have:=O.head;rcases Fh (aC g).length with h | h
  ·rw[DR h]at this;cases this
  exact h
 have h0:=O.head;rw[Ee hl]at h0;have h1:(aC g)[0]=0:=Option.some.inj h0;have:=E9 O.nodup 0 hl;rw[h1]at this;exact this
theorem mT{x:Nat}(h:Rg g x):nth (dR g.length (aC g)) x=(rk g x:Int):=by have O:=fK h.pos;rw[nM O.nodup O.rng h.lt,if_pos ((O.mem x).2 h)];rfl
theorem uR{x:Nat}(hx:x<g.length)(h:¬Rg g x):nth (dR g.length (aC g)) x=-1:=by have O:=fK (g:=g) (by omega);rw[nM O.nodup O.rng hx,if_neg fun e=>h ((O.mem x).1 e)]
theorem zP(hg:0<g.length): ∃f:Nat->Nat,∀x,Rg g x->x≠0->Rg g (f x)/\Eg g (f x) x/\rk g (f x)<rk g x:=by
 have O:=fK hg;have : ∀x,∃p,Rg g x->x≠0->Rg g p/\Eg g p x/\rk g p<rk g x:=by
  intro x;by_cases h:Rg g x/\x≠0
  ·obtain⟨p,hp,h1,h2⟩:=O.par x ((O.mem x).2 h.1) (by omega);have hr:=O.rng p hp;have e:((p.toNat:Nat):Int)=p:=DI hr.1;refine⟨p.toNat,fun _ _=>⟨(O.mem _).1 (by rw[e];exact hp),by unfold Eg;rw[e];exact h1,by unfold rk;rw[e];exact h2⟩⟩
  exact⟨0,fun h1 h2=>absurd ⟨h1,h2⟩ h⟩
 exact⟨fun x=>(this x).choose,fun x=>(this x).choose_spec⟩
theorem Cm(hg:0<g.length){f:Nat->Nat}(hf : ∀x,Rg g x->x≠0->Rg g (f x)/\Eg g (f x) x/\rk g (f x)<rk g x):Ch (Rg g) (rk g) (Eg g) f (Dm g) where
 inj:=fun a b ha hb h=>uJ ha hb h
 R0:=.root hg (by decide)
 r0:=om hg
 hf:=hf
 d1:=fun d b a hd hne he ha=>by
  obtain⟨h1,h2,h3⟩:=ko.1 hd
  exact ko.2 ⟨h1,ha,fun h=>h3 (.step h he (by omega))⟩
 d0:=fun d hd=>by
  obtain⟨h1,h2,h3⟩:=ko.1 hd
  rcases Fh d with h | h
  ·exact h
  ·exact absurd (.root hg (by omega)) h3
structure Good (g:Gr) (f:Nat->Nat) (k:Nat) (out:List Int):Prop where
 len:out.length=g.length
 rng : ∀b,b<g.length->nth out b=-1\/(0<=nth out b/\nth out b<g.length)
 inv:Inv (Rg g) (rk g) (Eg g) f (Dm g) k (st out) (pd out)
variable {f:Nat->Nat} {k:Nat} {out:List Int}
theorem Good.sw(G:Good g f k out)(C:Ch (Rg g) (rk g) (Eg g) f (Dm g)){x:Nat}(h:Ok (pd out) x):Rg g x/\x<g.length:=⟨G.inv.okR C h,(G.inv.okR C h).lt⟩
theorem jL (G:Good g f k out) (C:Ch (Rg g) (rk g) (Eg g) f (Dm g)) : ∀(fuel a b:Nat),Ok (pd out) a->Ok (pd out) b->rk g a+rk g b<fuel->
  ∃c:Nat,gu out (dR g.length (aC g)) fuel a b=some (c:Int)/\Ok (pd out) c/\∀x,Anc (st out) x c↔Anc (st out) x a/\Anc (st out) x b
 | 0,a,b,_,_,h=>by omega
 | fuel+1,a,b,ha,hb,h=>by
  obtain⟨ra,la⟩:=G.sw C ha;obtain⟨rb,lb⟩:=G.sw C hb;have hg:=ra.pos;have hnl:(dR g.length (aC g)).length=g.length:=by rw[dR,ry List.length (fun _ _=>by simp)];simp
  have hol:=G.len;rw[gu,if_pos (by omega),DN,DN,mT ra,mT rb];have step : ∀a b:Nat,Ok (pd out) a->Ok (pd out) b->rk g b<rk g a->a≠0/\nth out a=((st out a:Nat):Int)/\Ok (pd out) (st out a)/\rk g (st out a)<rk g a/\∀x,Anc (st out) x (st out a)/\Anc (st out) x b↔Anc (st out) x a/\Anc (st out) x b:=by
   intro a b ha hb hlt;have ha0:a≠0:=fun e=>by subst e;rw[om hg]at hlt;omega
   have hpa:=ha.resolve_left ha0;obtain⟨_,_,h3,h4⟩:=G.inv.pr a hpa;refine⟨ha0,(DI hpa.2).symm,h3,h4,fun x=>⟨fun⟨h5,h6⟩=>⟨.up ha0 h5,h6⟩,fun⟨h5,h6⟩=>⟨?_,h6⟩⟩⟩;rcases(ju ha0).1 h5 with rfl | h7
   ·have:=(G.inv.anc h6 hb).2;rcases this with e | e
    ·subst e;omega
    omega
   exact h7
  by_cases h1:rk g b<rk g a
  ·rw[if_pos (by omega)];obtain⟨ha0,e,h3,h4,h5⟩:=step a b ha hb h1;rw[e];obtain⟨c,h6,h7,h8⟩:=jL G C fuel (st out a) b h3 hb (by omega);exact⟨c,h6,h7,fun x=>(h8 x).trans (h5 x)⟩
  rw[if_neg (by omega)];by_cases h2:rk g a<rk g b
  ·rw[if_pos (by omega)];obtain⟨hb0,e,h3,h4,h5⟩:=step b a hb ha h2;rw[e];obtain⟨c,h6,h7,h8⟩:=jL G C fuel a (st out b) ha h3 (by omega);exact⟨c,h6,h7,fun x=>(h8 x).trans (by rw[and_comm,h5 x,and_comm])⟩
  rw[if_neg (by omega)];have e:a=b:=uJ ra rb (by omega);subst e;exact⟨a,rfl,ha,fun x=>by simp⟩
def Bst (out:List Int) (best:Int) (Q:Nat->Prop):Prop:=
 (best=-1/\∀a,¬Q a)\/∃c:Nat,best=(c:Int)/\Ok (pd out) c/\(∃a,Q a)/\∀x,Anc (st out) x c↔∀a,Q a->Anc (st out) x a
def Cons (g:Gr) (out:List Int) (a:Nat):Prop:=Rg g a/\Ok (pd out) a
theorem kY{best:Int}{Q Q':Nat->Prop}(h : ∀a,Q a↔Q' a)(b:Bst out best Q):Bst out best Q':=by have:Q=Q':=funext fun a=>propext (h a);rw[<-this];exact b
theorem ml (G:Good g f k out) (C:Ch (Rg g) (rk g) (Eg g) f (Dm g)) : ∀(l:List Int) (best:Int) (Q:Nat->Prop),Bst out best Q->(∀a∈l,0<=a/\a<(g.length:Int))->
  ∃best',bstS out (dR g.length (aC g)) g.length l best=some best'/\Bst out best' fun a=>Q a\/((a:Int)∈l/\Cons g out a)
 | [],best,Q,hB,_=>⟨best,rfl,kY (fun a=>by simp) hB⟩
 | a::l,best,Q,hB,hl=>by
  obtain⟨h0,h1⟩:=hl a (Dz ..);have hl':=fun x hx=>hl x (DB _ hx);obtain⟨n,rfl⟩:=Fj h0;have hn:n<g.length:=by omega
  have hol:=G.len;rw[bstS,if_pos ⟨h0,h1⟩,DN];have hcons:(nth (dR g.length (aC g)) n<0\/((n:Int)≠0/\nth out n<0))↔¬Cons g out n:=by
   by_cases hr:Rg g n
   ·rw[mT hr];constructor
    ·rintro(h | ⟨h2,h3⟩)
     ·omega
     rintro⟨_,h4 | h4⟩
     ·omega
     have:=h4.2;omega
    intro h;right;refine⟨fun e=>h ⟨hr,.inl (by omega)⟩,?_⟩;rcases Int.lt_or_le (nth out n) 0 with h2 | h2
    ·exact h2
    exact absurd ⟨hr,.inr ⟨by omega,h2⟩⟩ h
   rw[uR hn hr];exact⟨fun _ h=>hr h.1,fun _=>.inl (by omega)⟩
  by_cases hc:Cons g out n
  ·rw[if_neg fun h=>hcons.1 h hc];rcases hB with⟨rfl,hQ⟩ | ⟨c,rfl,hok,hex,hq⟩
   ·rw[if_pos (by decide)];obtain⟨b',h2,h3⟩:=ml G C l n (fun a=>a=n) (.inr ⟨n,rfl,hc.2,⟨n,rfl⟩,fun x=>by simp⟩) hl';refine⟨b',h2,kY (fun a=>?_) h3⟩;constructor
    ·rintro(rfl | ⟨h4,h5⟩)
     ·exact .inr ⟨Dz ..,hc⟩
     exact .inr ⟨DB _ h4,h5⟩
    rintro(h4 | ⟨h4,h5⟩)
    ·exact absurd h4 (hQ a)
    rcases DL.1 h4 with h4 | h4
    ·exact .inl (by omega)
    exact .inr ⟨h4,h5⟩
   rw[if_neg (by omega)];obtain⟨rc,_⟩:=G.sw C hok;obtain⟨d,h2,h3,h4⟩:=jL G C (2*g.length+2) c n hok hc.2 (by have:=zW rc;have:=zW hc.1;omega);rw[h2];simp only[D0];obtain⟨b',h5,h6⟩:=ml G C l d (fun a=>Q a\/a=n) (.inr ⟨d,rfl,h3,⟨n,.inr rfl⟩,fun x=>by
    rw[h4,hq];constructor
    ·rintro⟨h7,h8⟩ a (ha | rfl)
     ·exact h7 a ha
     exact h8
    intro h7;exact⟨fun a ha=>h7 a (.inl ha),h7 n (.inr rfl)⟩⟩) hl';refine⟨b',h5,kY (fun a=>?_) h6⟩;constructor
   ·rintro((h7 | rfl) | ⟨h7,h8⟩)
    ·exact .inl h7
    ·exact .inr ⟨Dz ..,hc⟩
    exact .inr ⟨DB _ h7,h8⟩
   rintro(h7 | ⟨h7,h8⟩)
   ·exact .inl (.inl h7)
   rcases DL.1 h7 with h7 | h7
   ·exact .inl (.inr (by omega))
   exact .inr ⟨h7,h8⟩
  rw[if_pos (hcons.2 hc)];obtain⟨b',h2,h3⟩:=ml G C l best Q hB hl';refine⟨b',h2,kY (fun a=>?_) h3⟩;constructor
  ·rintro(h4 | ⟨h4,h5⟩)
   ·exact .inl h4
   exact .inr ⟨DB _ h4,h5⟩
  rintro(h4 | ⟨h4,h5⟩)
  ·exact .inl h4
  rcases DL.1 h4 with h6 | h6
  ·exact absurd ((show a=n by omega)▸h5) hc
  exact .inr ⟨h6,h5⟩
theorem wZ(G:Good g f k out)(C:Ch (Rg g) (rk g) (Eg g) f (Dm g)){c:Nat}(hR:Rg g c)(hc:c≠0)(hk:rk g c=k):
  ∃q:Nat,bstS out (dR g.length (aC g)) g.length (nth (cy g) c) (-1)=some (q:Int)/\Turn (Rg g) (rk g) (Eg g) (st out) (pd out) c q:=by
 have hlt:=hR.lt;obtain⟨best,h1,h2⟩:=ml G C (nth (cy g) c) (-1) (fun _=>False) (.inl ⟨rfl,fun _ h=>h⟩) (mS (fun e he=>(kC he).1) (fun i x hx=>by
  rcases DA i g.length with hi | hi
  ·rw[aB hi]at hx;cases hx
  rw[fF (by simpa using hi)]at hx;cases hx) c);have hm : ∀a:Nat,(a:Int)∈nth (cy g) c↔Eg g a c:=fun a=>by have:=xF (g:=g) (a:=a) (b:=c) ⟨by omega,by omega⟩;rwa [DN]at this
 obtain⟨f1,f2,f3⟩:=C.hf c hR hc;rcases h2 with⟨_,h3⟩ | ⟨q,rfl,hok,_,hq⟩
 ·exact absurd (.inr ⟨(hm _).2 f2,f1,G.inv.fc C hR hc hk⟩) (h3 (f c))
 refine⟨q,h1,hok,fun x=>?_⟩;rw[hq];constructor
 ·intro h a h4 h5 h6;exact h a (.inr ⟨(hm a).2 h4,h5,h6⟩)
 rintro h a (h4 | ⟨h4,h5,h6⟩)
 ·exact h4.elim
 exact h a ((hm a).1 h4) h5 h6
end
end Go.Proofs.YtnfiilgdjpdlkaaGreatDoor
