/- A part of the proof: Lc, Ld, Le, Lf, Lg, Shelf, Wk, Wl, Wm, Wn, Wo, Wq, Wr, Ws. -/
import Derived.Test.YtfelpjfopgiabaaZQ1
import Derived.Test.YtfelpjfopgiabaaProg
import Derived.KernelRfl
import Derived.Shelf.Small.Bits
import Derived.Shelf.Small.Wraps
import Derived.Shelf.Strconv.Itoa0
import Derived.Shelf.Sort.Plain
import Derived.Shelf.Slices.Turned
import Derived.Shelf.Slices.Reverse
import Derived.Ground.Names2Prog
import Derived.Shelf.Slices.CompactI
import Derived.Shelf.Slices.SearchI
import Derived.Shelf.Slices.Cells
import Derived.Shelf.Slices.In.SortNone
set_option linter.unusedSimpArgs false
set_option linter.unusedVariables false
namespace Go.Proofs.Ytfelpjfopgiabaa
open Go Go.Lft
set_option maxRecDepth 100000
abbrev N.eT:Nat:=18
def R.eT:List E:=[.un .load (.tmp 2),.un .load (.tmp 3),.un .load (.tmp 4)]

def L.jn:LC:=
 (.reg false (.loud [] [] [(0,.tmp 0)] none [] false (.box 24 (.tmp 0)) 0 (some 1) true (.loud [] [] [] none [] false (.alloc 34) 0 (some 2) true (.loud [] [] [] none [] false (.alloc 3) 0 (some 3) true (.loud [] [] [] none [] false (.alloc 3) 0 (some 4) true (.fin [] [] []))))))
theorem E.jn:ee Try.prog Try.f18.ntmps (fJ Try.f18) (CY Try.f18) false (vk Try.f18)=some L.jn:=by kernel_rfl
def L.fO.l1:LC:=
 (.seq (.reg false (.fin [26] [(26,.bin (.cmp .lss) (.tmp 25) (.tmp 24))] [])) (.seq (.cond (.tmp 26) [26] .skip (.exit 0)) (.seq (.block 1 (.seq (.reg false (.loud [27,28] [(28,.un (.al 6) (.bin (.idx 6) (.tmp 23) (.tmp 25)))] [] none [] false (.alloc 51) 0 (some 7) true (.loud [] [] [(7,.tmp 7),(28,.tmp 28)] none [] false (.store 51 (.tmp 7) (.tmp 28)) 0 none false (.fin [] [] [])))) (.reg false (.fin [29,30,31,32,33,34,35,36,37,5] [(5,(.bin (.arith .add) (.tmp 5) (.bin (.arith .add) (.un .len (.un .load (.un (.fld 0) (.tmp 7)))) (.un .len (.un .load (.un (.fld 1) (.tmp 7)))))))] [])))) (.reg false (.fin [38,25] [(25,.bin (.arith .add) (.tmp 25) (.con (.int .i64 1)))] [])))))
def L.fO:LC:=
 (.seq (.reg false (.loud [10,11] [] [(11,.un .load (.un (.fld 0) (.tmp 1)))] none [] false (.call ⟨.value (.func 36),#[.tmp 11,.const (.int .i64 0),.const (.int .i64 4)],#[3,3,3]⟩) 4 (some 12) true (.loud [] [] [(12,.tmp 12)] none [] false (.call ⟨.value (.func 35),#[.tmp 12,.const (.int .i64 1),.const (.int .i64 0),.const (.int .i64 0)],#[4,34,3,3]⟩) 0 (some 13) false (.fin [] [] [])))) (.seq (.reg false (.loud [14,15,16,17] [] [(17,(.bin (.cmp .gtr) (.un .len (.un .load (.un (.fld 1) (.tmp 1)))) (.con (.int .i64 0))))] none [] false (.call ⟨.value (.func 35),#[.tmp 17,.const (.int .i64 14),.const (.int .i64 0),.const (.int .i64 0)],#[4,34,3,3]⟩) 0 (some 18) false (.fin [] [] []))) (.seq (.reg false (.fin [19,20,21,5] [(5,.un .len (.un .load (.un (.fld 1) (.tmp 1))))] [])) (.seq (.seq (.reg false (.fin [22,23,24,25] [(23,.un .load (.un (.fld 1) (.tmp 1))),(24,.un .len (.un .load (.un (.fld 1) (.tmp 1)))),(25,.con (.int .i64 0))] [])) (.block 0 (.loop L.fO.l1))) (.seq (.reg false (.loud [39,40,41,42,43,44,45,46] [] [(46,(.ite (.bin (.cmp .leq) (.un .len (.un .load (.un (.fld 1) (.tmp 1)))) (.con (.int .i64 512))) (.bin (.cmp .leq) (.tmp 5) (.con (.int .i64 4096))) (.con (.bool false))))] none [] false (.call ⟨.value (.func 35),#[.tmp 46,.const (.int .i64 2),.const (.int .i64 0),.const (.int .i64 0)],#[4,34,3,3]⟩) 0 (some 47) false (.fin [] [] []))) (.seq (.reg false (.loud [48] [(48,.un (.al 2) (.tmp 1))] [] none [] false (.makeMap 81 none) 81 (some 49) true (.loud [] [] [(48,.tmp 48),(49,.tmp 49)] none [] false (.build 83 #[(0,.tmp 48),(1,.tmp 49)]) 83 (some 50) true (.loud [] [] [(50,.tmp 50)] none [] false (.box 83 (.tmp 50)) 80 (some 51) true (.fin [8] [(8,.tmp 51)] []))))) (.seq (.reg false (.loud [52] [] [(52,.tmp 8)] none [] false (.call ⟨.value (.func 37),#[.tmp 52],#[80]⟩) 0 (some 53) false (.fin [] [] []))) (.seq (.reg false (.loud [54] [] [(54,.tmp 8)] none [] false (.call ⟨.value (.func 38),#[.tmp 54],#[80]⟩) 0 (some 55) false (.fin [] [] []))) (.seq (.reg false (.loud [] [] [(2,.tmp 2)] none [] false (.store 34 (.tmp 2) (.const (.int .i64 0))) 0 none false (.loud [] [] [(3,.tmp 3)] none [] false (.store 3 (.tmp 3) (.const (.int .i64 0))) 0 none false (.loud [] [] [(4,.tmp 4)] none [] false (.store 3 (.tmp 4) (.const (.int .i64 0))) 0 none false (.fin [] [] []))))) .ret)))))))))
theorem E.fO:ee Try.prog Try.f18.ntmps (fJ Try.f18) (CY Try.f18) false (BU Try.f18)=some L.fO:=by kernel_rfl
theorem R.tB:Try.f18.results.toList.mapM (resE Try.prog)=some R.eT:=by kernel_rfl
theorem F.eT:Try.prog.funcs[N.eT]? = some Try.f18:=Try.func18
theorem B.eT:Try.f18.body=some (.seq (vk Try.f18) (.seq (.region (ET (E1 Try.f18)) #[Ff Try.f18 0,Ff Try.f18 1] false) (BU Try.f18))):=by kernel_rfl
abbrev N.gC:Nat:=19
def L.gC:LFn:=
⟨[.tmp 2],(.seq (.reg false (.loud [] [] [(0,.tmp 0)] none [] false (.box 24 (.tmp 0)) 0 (some 1) true (.fin [2] [(2,.con (.int .i64 0))] []))) (.seq (.reg false (.loud [4,5,6,7] [(7,(.bin .min (.bin .max (.un .load (.un (.fld 0) (.tmp 1))) (.con (.int .i64 0))) (.con (.int .i64 8192))))] [] none [] false (.alloc 3) 0 (some 3) true (.loud [] [] [(3,.tmp 3),(7,.tmp 7)] none [] false (.store 3 (.tmp 3) (.tmp 7)) 0 none false (.fin [] [] [])))) (.seq (.reg false (.loud [8,9] [] [(8,.un (.al 2) (.tmp 1)),(9,.un (.fn 40) (.snoc (.con (.tuple #[])) (.tmp 3)))] none [] false (.call ⟨.value (.func 39),#[.tmp 8,.tmp 9],#[24,85]⟩) 0 (some 10) false (.fin [] [] []))) (.seq (.reg false (.fin [11,2] [(2,.un .load (.tmp 3))] [])) .ret))))⟩
theorem E.gC:bA Try.prog Try.f19=some L.gC:=by kernel_rfl
theorem F.gC:Try.prog.funcs[N.gC]? = some Try.f19:=Try.func19
abbrev N.fI:Nat:=22
def L.fI:LFn:=
⟨[.tmp 2],(.seq (.reg false (.loud [] [] [(0,.tmp 0)] none [] false (.box 24 (.tmp 0)) 0 (some 1) true (.fin [2] [(2,.con (.slice none 0 0))] []))) (.seq (.reg false (.loud [4] [] [(4,.un (.al 2) (.tmp 1))] none [] false (.call ⟨.value (.func 19),#[.tmp 4],#[24]⟩) 3 (some 5) true (.loud [] [] [(5,.tmp 5),(5,.tmp 5)] none [] false (.makeSlice 28 (.tmp 5) (.tmp 5)) 28 (some 6) true (.loud [] [] [] none [] false (.alloc 28) 0 (some 3) true (.loud [] [] [(3,.tmp 3),(6,.tmp 6)] none [] false (.store 28 (.tmp 3) (.tmp 6)) 0 none false (.fin [] [] [])))))) (.seq (.reg false (.loud [7,8] [] [(7,.un (.al 2) (.tmp 1)),(8,.un (.fn 42) (.snoc (.con (.tuple #[])) (.tmp 3)))] none [] false (.call ⟨.value (.func 39),#[.tmp 7,.tmp 8],#[24,85]⟩) 0 (some 9) false (.fin [] [] []))) (.seq (.reg false (.fin [10,2] [(2,.un .load (.tmp 3))] [])) .ret))))⟩
theorem E.fI:bA Try.prog Try.f22=some L.fI:=by kernel_rfl
theorem F.fI:Try.prog.funcs[N.fI]? = some Try.f22:=Try.func22
abbrev N.dr:Nat:=24
def L.dr:LFn:=
⟨[.tmp 4],(.seq (.reg false (.loud [] [] [(0,.tmp 0)] none [] false (.box 24 (.tmp 0)) 0 (some 2) true (.loud [] [] [(1,.tmp 1)] none [] false (.box 3 (.tmp 1)) 0 (some 3) true (.fin [4] [(4,.con (.bool false))] [])))) (.seq (.reg false (.loud [] [] [] none [] false (.alloc 90) 0 (some 5) true (.loud [] [] [] none [] false (.alloc 90) 0 (some 6) true (.fin [] [] [])))) (.seq (.reg false (.loud [8,9] [] [(8,.un (.al 2) (.tmp 2)),(9,(.un (.fn 43) (.snoc (.snoc (.snoc (.con (.tuple #[])) (.tmp 3)) (.tmp 5)) (.tmp 6))))] none [] false (.call ⟨.value (.func 39),#[.tmp 8,.tmp 9],#[24,85]⟩) 0 (some 10) false (.fin [] [] []))) (.seq (.seq (.reg true (.fin [11,12,13,14,15,16,17,18,19,20,21,22,23,24,25,26,27,28,29,30,31,32,33,34,35,36,37,38,39,40,41,42,43,44,45,46,47] [(47,(.ite (.ite (.ite (.ite (.bin (.cmp .neq) (.un .len (.un .load (.tmp 5))) (.con (.int .i64 1))) (.con (.bool true)) (.bin (.cmp .neq) (.un .len (.un .load (.tmp 6))) (.con (.int .i64 1)))) (.con (.bool true)) (.bin (.cmp .lss) (.un .load (.un (.fld 1) (.bin (.idx 2) (.un .load (.tmp 5)) (.con (.int .i64 0))))) (.con (.int .i64 0)))) (.con (.bool true)) (.bin (.cmp .neq) (.un .load (.un (.fld 0) (.bin (.idx 2) (.un .load (.tmp 5)) (.con (.int .i64 0))))) (.un .load (.un (.fld 0) (.bin (.idx 2) (.un .load (.tmp 6)) (.con (.int .i64 0))))))) (.con (.bool true)) (.bin (.cmp .leq) (.un .load (.un (.fld 1) (.bin (.idx 2) (.un .load (.tmp 6)) (.con (.int .i64 0))))) (.un .load (.un (.fld 1) (.bin (.idx 2) (.un .load (.tmp 5)) (.con (.int .i64 0))))))))] [])) (.cond (.tmp 47) [47] (.seq (.reg false (.fin [4] [(4,.con (.bool false))] [])) .ret) .skip)) (.seq (.reg true (.loud [48,49,50,51,52,53,54,55,56,57,58,59,60,61,62] [(62,(.un (.al 5) (.bin (.idx 5) (.un .load (.un (.fld 1) (.bin (.idx 6) (.un .load (.un (.fld 1) (.tmp 2))) (.un .load (.un (.fld 0) (.bin (.idx 2) (.un .load (.tmp 5)) (.con (.int .i64 0)))))))) (.un .load (.un (.fld 1) (.bin (.idx 2) (.un .load (.tmp 5)) (.con (.int .i64 0))))))))] [] none [] false (.alloc 58) 0 (some 7) true (.loud [] [] [(7,.tmp 7),(62,.tmp 62)] none [] true (.store 58 (.tmp 7) (.tmp 62)) 0 none false (.fin [] [] [])))) (.seq (.reg false (.loud [63,64,65,66,67] [(67,.bin (.cmp .eql) (.un .load (.un (.fld 1) (.tmp 7))) (.un .load (.tmp 3)))] [] (some ((.bin (.cmp .eql) (.un .load (.un (.fld 1) (.tmp 7))) (.un .load (.tmp 3))),true)) [] false (.buildSlice 28 6 #[(0,.const (.int .i64 1)),(1,.const (.int .i64 2)),(2,.const (.int .i64 4)),(3,.const (.int .i64 11)),(4,.const (.int .i64 12)),(5,.const (.int .i64 13))]) 28 (some 68) true (.loud [69,70] [] [(68,.tmp 68),(70,.gd (.tmp 67) true (.un .load (.un (.fld 0) (.tmp 7))))] (some ((.tmp 67),true)) [] false (.call ⟨.value (.func 44),#[.tmp 68,.tmp 70],#[28,3]⟩) 4 (some 71) true (.fin [72,4] [(4,.ite (.tmp 67) (.tmp 71) (.con (.bool false)))] [])))) .ret))))))⟩
theorem E.dr:bA Try.prog Try.f24=some L.dr:=by kernel_rfl
theorem F.dr:Try.prog.funcs[N.dr]? = some Try.f24:=Try.func24
abbrev N.eG:Nat:=26
def L.eG:LFn:=
⟨[.tmp 2],(.seq (.reg false (.loud [] [] [(0,.tmp 0)] none [] false (.box 24 (.tmp 0)) 0 (some 1) true (.fin [2] [(2,.con (.bool false))] []))) (.seq (.reg false (.loud [7] [] [(7,.un (.al 2) (.tmp 1))] none [] false (.call ⟨.value (.func 18),#[.tmp 7],#[24]⟩) 35 (some 8) true (.fin [6,9,10,11,3,4,5] [(3,.un (.ext 0) (.tmp 8))] [.un (.ext 2) (.tmp 8),.un (.ext 1) (.tmp 8)]))) (.seq (.reg false (.fin [12,13,2] [(2,.bin (.cmp .eql) (.tmp 3) (.con (.int .i64 0)))] [])) .ret)))⟩
theorem E.eG:bA Try.prog Try.f26=some L.eG:=by kernel_rfl
theorem F.eG:Try.prog.funcs[N.eG]? = some Try.f26:=Try.func26
abbrev N.eH:Nat:=27
def L.eH:LFn:=
⟨[.tmp 2],(.seq (.reg false (.loud [] [] [(0,.tmp 0)] none [] false (.box 58 (.tmp 0)) 0 (some 1) true (.fin [2] [(2,.con (.slice none 0 0))] []))) (.seq (.seq (.reg false (.fin [3,4] [(4,.un .load (.un (.fld 0) (.tmp 1)))] [])) (.block 0 (.seq (.reg false (.fin [6,5] [(5,.bin (.cmp .eql) (.tmp 4) (.con (.int .i64 16)))] [])) (.cond (.tmp 5) [5] (.seq (.reg false (.fin [2] [(2,.con (.slice none 0 0))] [])) .ret) (.seq (.reg false (.fin [8,7] [(7,.bin (.cmp .eql) (.tmp 4) (.con (.int .i64 18)))] [])) (.cond (.tmp 7) [7] (.seq (.reg false (.loud [9,10,11,12] [] [(10,.un .load (.un (.fld 1) (.tmp 1))),(12,.un .load (.un (.fld 2) (.tmp 1)))] none [] false (.buildSlice 28 2 #[(0,.tmp 10),(1,.tmp 12)]) 28 (some 13) true (.fin [2] [(2,.tmp 13)] []))) .ret) .skip)))))) (.seq (.reg false (.loud [14,15] [] [(15,.un .load (.un (.fld 1) (.tmp 1)))] none [] false (.buildSlice 28 1 #[(0,.tmp 15)]) 28 (some 16) true (.fin [2] [(2,.tmp 16)] []))) .ret)))⟩
theorem E.eH:bA Try.prog Try.f27=some L.eH:=by kernel_rfl
theorem F.eH:Try.prog.funcs[N.eH]? = some Try.f27:=Try.func27
abbrev N.bf:Nat:=28
def L.bf.l3:LC:=
 (.seq (.seq (.reg false (.fin [49,50,51,52,53,54,55,56,57] [(57,(.bin (.cmp .lss) (.tmp 9) (.un .len (.un .load (.un (.fld 1) (.bin (.idx 2) (.un .load (.un (.fld 0) (.tmp 7))) (.tmp 8)))))))] [])) (.cond (.tmp 57) [57] .skip (.exit 4))) (.seq (.block 5 (.reg true (.loud [60,61,62,63,64,65,66,67,68,69,70,71,72,73,74,75,76,77,78,79] [(65,(.un .load (.un (.fld 1) (.bin (.idx 2) (.un .load (.un (.fld 0) (.tmp 7))) (.tmp 8))))),(66,.tmp 9)] [(76,(.un .load (.un (.fld 1) (.bin (.idx 2) (.un .load (.un (.fld 1) (.bin (.idx 2) (.un .load (.un (.fld 0) (.tmp 7))) (.tmp 8)))) (.tmp 9))))),(78,.un .load (.un (.fld 0) (.tmp 2))),(79,.tmp 1)] none [] false (.call ⟨.value (.func 46),#[.tmp 76,.tmp 78,.tmp 79],#[3,3,3]⟩) 3 (some 80) true (.loud [81,82] [] [(82,.un (.fld 1) (.bin (.idx 2) (.tmp 65) (.tmp 66))),(80,.tmp 80)] none [] true (.store 3 (.tmp 82) (.tmp 80)) 0 none false (.fin [] [] []))))) (.reg false (.fin [58,59,9] [(9,.bin (.arith .add) (.tmp 9) (.con (.int .i64 1)))] []))))
def L.bf.l2:LC:=
 (.seq (.seq (.reg false (.fin [27,28,29,30,31] [(31,(.bin (.cmp .lss) (.tmp 8) (.un .len (.un .load (.un (.fld 0) (.tmp 7))))))] [])) (.cond (.tmp 31) [31] .skip (.exit 2))) (.seq (.block 3 (.seq (.reg true (.loud [34,35,36,37,38,39,40,41,42,43,44,45] [(35,.un .load (.un (.fld 0) (.tmp 7))),(36,.tmp 8)] [(42,(.un .load (.un (.fld 0) (.bin (.idx 2) (.un .load (.un (.fld 0) (.tmp 7))) (.tmp 8))))),(44,.un .load (.un (.fld 0) (.tmp 2))),(45,.tmp 1)] none [] false (.call ⟨.value (.func 46),#[.tmp 42,.tmp 44,.tmp 45],#[3,3,3]⟩) 3 (some 46) true (.loud [47,48] [] [(48,.un (.fld 0) (.bin (.idx 2) (.tmp 35) (.tmp 36))),(46,.tmp 46)] none [] true (.store 3 (.tmp 48) (.tmp 46)) 0 none false (.fin [] [] [])))) (.seq (.reg false (.fin [9] [(9,.con (.int .i64 0))] [])) (.block 4 (.loop L.bf.l3))))) (.reg false (.fin [32,33,8] [(8,.bin (.arith .add) (.tmp 8) (.con (.int .i64 1)))] []))))
def L.bf.l5:LC:=
 (.seq (.seq (.reg false (.fin [120,121,122,123,124,125,126,127,128] [(128,(.bin (.cmp .lss) (.tmp 11) (.un .len (.un .load (.un (.fld 3) (.bin (.idx 5) (.un .load (.un (.fld 1) (.tmp 7))) (.tmp 10)))))))] [])) (.cond (.tmp 128) [128] .skip (.exit 8))) (.seq (.block 9 (.reg true (.loud [131,132,133,134,135,136,137,138,139,140,141,142,143,144,145,146,147,148,149] [(136,(.un .load (.un (.fld 3) (.bin (.idx 5) (.un .load (.un (.fld 1) (.tmp 7))) (.tmp 10))))),(137,.tmp 11)] [(146,(.un .load (.bin (.idx 1) (.un .load (.un (.fld 3) (.bin (.idx 5) (.un .load (.un (.fld 1) (.tmp 7))) (.tmp 10)))) (.tmp 11)))),(148,.un .load (.un (.fld 0) (.tmp 2))),(149,.tmp 1)] none [] false (.call ⟨.value (.func 46),#[.tmp 146,.tmp 148,.tmp 149],#[3,3,3]⟩) 3 (some 150) true (.loud [151] [] [(151,.bin (.idx 1) (.tmp 136) (.tmp 137)),(150,.tmp 150)] none [] true (.store 3 (.tmp 151) (.tmp 150)) 0 none false (.fin [] [] []))))) (.reg false (.fin [129,130,11] [(11,.bin (.arith .add) (.tmp 11) (.con (.int .i64 1)))] []))))
def L.bf.l4:LC:=
 (.seq (.seq (.reg false (.fin [83,84,85,86,87] [(87,(.bin (.cmp .lss) (.tmp 10) (.un .len (.un .load (.un (.fld 1) (.tmp 7))))))] [])) (.cond (.tmp 87) [87] .skip (.exit 6))) (.seq (.block 7 (.seq (.reg true (.loud [90,91,92,93,94,95,96,97,98,99,100,101] [(91,.un .load (.un (.fld 1) (.tmp 7))),(92,.tmp 10)] [(98,(.un .load (.un (.fld 1) (.bin (.idx 5) (.un .load (.un (.fld 1) (.tmp 7))) (.tmp 10))))),(100,.un .load (.un (.fld 0) (.tmp 2))),(101,.tmp 1)] none [] false (.call ⟨.value (.func 46),#[.tmp 98,.tmp 100,.tmp 101],#[3,3,3]⟩) 3 (some 102) true (.loud [103,104] [] [(104,.un (.fld 1) (.bin (.idx 5) (.tmp 91) (.tmp 92))),(102,.tmp 102)] none [] true (.store 3 (.tmp 104) (.tmp 102)) 0 none false (.fin [] [] [])))) (.seq (.reg true (.loud [105,106,107,108,109,110,111,112,113,114,115,116] [(106,.un .load (.un (.fld 1) (.tmp 7))),(107,.tmp 10)] [(113,(.un .load (.un (.fld 2) (.bin (.idx 5) (.un .load (.un (.fld 1) (.tmp 7))) (.tmp 10))))),(115,.un .load (.un (.fld 0) (.tmp 2))),(116,.tmp 1)] none [] false (.call ⟨.value (.func 46),#[.tmp 113,.tmp 115,.tmp 116],#[3,3,3]⟩) 3 (some 117) true (.loud [118,119] [] [(119,.un (.fld 2) (.bin (.idx 5) (.tmp 106) (.tmp 107))),(117,.tmp 117)] none [] true (.store 3 (.tmp 119) (.tmp 117)) 0 none false (.fin [] [] [])))) (.seq (.reg false (.fin [11] [(11,.con (.int .i64 0))] [])) (.block 8 (.loop L.bf.l5)))))) (.reg false (.fin [88,89,10] [(10,.bin (.arith .add) (.tmp 10) (.con (.int .i64 1)))] []))))
def L.bf.l6:LC:=
 (.seq (.seq (.reg false (.fin [152,153,154,155,156,157] [(157,(.bin (.cmp .lss) (.tmp 12) (.un .len (.un .load (.un (.fld 1) (.un (.fld 2) (.tmp 7)))))))] [])) (.cond (.tmp 157) [157] .skip (.exit 10))) (.seq (.block 11 (.reg true (.loud [160,161,162,163,164,165,166,167,168,169,170,171,172] [(162,.un .load (.un (.fld 1) (.un (.fld 2) (.tmp 7)))),(163,.tmp 12)] [(169,(.un .load (.bin (.idx 1) (.un .load (.un (.fld 1) (.un (.fld 2) (.tmp 7)))) (.tmp 12)))),(171,.un .load (.un (.fld 0) (.tmp 2))),(172,.tmp 1)] none [] false (.call ⟨.value (.func 46),#[.tmp 169,.tmp 171,.tmp 172],#[3,3,3]⟩) 3 (some 173) true (.loud [174] [] [(174,.bin (.idx 1) (.tmp 162) (.tmp 163)),(173,.tmp 173)] none [] true (.store 3 (.tmp 174) (.tmp 173)) 0 none false (.fin [] [] []))))) (.reg false (.fin [158,159,12] [(12,.bin (.arith .add) (.tmp 12) (.con (.int .i64 1)))] []))))
def L.bf.l1:LC:=
 (.seq (.seq (.reg false (.fin [15,16,17,18,19] [(19,(.bin (.cmp .lss) (.tmp 6) (.un .len (.un .load (.un (.fld 1) (.tmp 5))))))] [])) (.cond (.tmp 19) [19] .skip (.exit 0))) (.seq (.block 1 (.seq (.reg false (.loud [22,23,24,25,26] [(26,(.un (.al 6) (.bin (.idx 6) (.un .load (.un (.fld 1) (.tmp 5))) (.tmp 6))))] [] none [] false (.alloc 51) 0 (some 7) true (.loud [] [] [(7,.tmp 7),(26,.tmp 26)] none [] false (.store 51 (.tmp 7) (.tmp 26)) 0 none false (.fin [] [] [])))) (.seq (.seq (.reg false (.fin [8] [(8,.con (.int .i64 0))] [])) (.block 2 (.loop L.bf.l2))) (.seq (.seq (.reg false (.fin [10] [(10,.con (.int .i64 0))] [])) (.block 6 (.loop L.bf.l4))) (.seq (.reg false (.fin [12] [(12,.con (.int .i64 0))] [])) (.block 10 (.loop L.bf.l6))))))) (.reg false (.fin [20,21,6] [(6,.bin (.arith .add) (.tmp 6) (.con (.int .i64 1)))] []))))
def L.bf:LFn:=
⟨[.un (.al 2) (.tmp 4)],(.seq (.reg false (.loud [] [] [(0,.tmp 0)] none [] false (.box 24 (.tmp 0)) 0 (some 2) true (.loud [] [] [] none [] false (.alloc 24) 0 (some 4) true (.fin [] [] [])))) (.seq (.reg false (.loud [13] [] [(13,.un (.al 2) (.tmp 2))] none [] false (.call ⟨.value (.func 15),#[.tmp 13],#[24]⟩) 24 (some 14) true (.loud [] [] [] none [] false (.alloc 24) 0 (some 5) true (.loud [] [] [(5,.tmp 5),(14,.tmp 14)] none [] false (.store 24 (.tmp 5) (.tmp 14)) 0 none false (.fin [] [] []))))) (.seq (.seq (.reg false (.fin [6] [(6,.con (.int .i64 0))] [])) (.block 0 (.loop L.bf.l1))) (.seq (.reg false (.loud [175] [] [(4,.tmp 4),(175,.un (.al 2) (.tmp 5))] none [] false (.store 24 (.tmp 4) (.tmp 175)) 0 none false (.fin [] [] []))) .ret))))⟩
theorem E.bf:bA Try.prog Try.f28=some L.bf:=by kernel_rfl
theorem F.bf:Try.prog.funcs[N.bf]? = some Try.f28:=Try.func28
abbrev N.gB:Nat:=30
def L.gB:LFn:=
⟨[.un (.al 2) (.tmp 6)],(.seq (.reg false (.loud [] [] [(2,.tmp 2)] none [] false (.box 49 (.tmp 2)) 0 (some 5) true (.loud [] [] [] none [] false (.alloc 24) 0 (some 6) true (.fin [] [] [])))) (.seq (.reg false (.loud [7,8,9] [(7,.tmp 0)] [(8,.tmp 1),(9,.un (.al 4) (.tmp 5))] none [] false (.build 51 #[(1,.tmp 8),(2,.tmp 9)]) 51 (some 10) true (.loud [] [] [(10,.tmp 10)] none [] false (.buildSlice 22 1 #[(0,.tmp 10)]) 22 (some 11) true (.loud [] [] [(7,.tmp 7),(11,.tmp 11)] none [] false (.build 24 #[(0,.tmp 7),(1,.tmp 11)]) 24 (some 12) true (.loud [] [] [(6,.tmp 6),(12,.tmp 12)] none [] false (.store 24 (.tmp 6) (.tmp 12)) 0 none false (.fin [] [] [])))))) .ret))⟩
theorem E.gB:bA Try.prog Try.f30=some L.gB:=by kernel_rfl
theorem F.gB:Try.prog.funcs[N.gB]? = some Try.f30:=Try.func30
end Go.Proofs.Ytfelpjfopgiabaa
namespace Go.Proofs.Ytfelpjfopgiabaa
open Go Go.Lft
set_option maxRecDepth 100000
abbrev N.aw:Nat:=32
def L.aw.l1:LC:=
 (.seq (.seq (.reg false (.fin [60,61,62] [(62,.bin (.cmp .lss) (.tmp 6) (.tmp 4))] [])) (.cond (.tmp 62) [62] .skip (.exit 0))) (.seq (.block 1 (.reg true (.loud [65,66,67,68,69,70,71,72,73,74,75,76,77] [] [(77,(.un (.fld 2) (.un (.fld 2) (.bin (.idx 6) (.un .load (.un (.fld 1) (.un (.fld 2) (.un .nilPtr (.tmp 3))))) (.tmp 6))))),(74,.un .load (.bin (.idx 1) (.tmp 5) (.tmp 6)))] none [] true (.store 28 (.tmp 77) (.tmp 74)) 0 none false (.fin [] [] [])))) (.reg false (.fin [63,64,6] [(6,.bin (.arith .add) (.tmp 6) (.con (.int .i64 1)))] []))))
def L.aw.l3:LC:=
 (.seq (.seq (.reg false (.fin [105,106,107,108,109,110] [(110,.bin (.cmp .lss) (.tmp 10) (.un .load (.bin (.idx 1) (.tmp 7) (.tmp 8))))] [])) (.cond (.tmp 110) [110] .skip (.exit 4))) (.seq (.block 5 (.reg true (.loud [113,114,115,116,117,118,119,120,121,122,123,124,125,126,127,128] [(117,(.un .load (.un (.fld 1) (.un (.fld 2) (.un .nilPtr (.tmp 3)))))),(118,.tmp 8),(127,(.un .load (.un (.fld 0) (.bin (.idx 6) (.un .load (.un (.fld 1) (.un (.fld 2) (.un .nilPtr (.tmp 3))))) (.tmp 8)))))] [(128,.tmp 3)] none [] false (.call ⟨.value (.func 53),#[.tmp 128],#[72]⟩) 3 (some 129) true (.loud [] [] [(129,.tmp 129)] none [] false (.build 54 #[(0,.tmp 129)]) 54 (some 130) true (.loud [] [] [(130,.tmp 130)] none [] false (.buildSlice 46 1 #[(0,.tmp 130)]) 46 (some 131) true (.loud [] [] [(127,.tmp 127),(131,.tmp 131)] none [] false (.call ⟨.builtin .append,#[.tmp 127,.tmp 131],#[46,46]⟩) 46 (some 132) true (.loud [133,134] [] [(134,.un (.fld 0) (.bin (.idx 6) (.tmp 117) (.tmp 118))),(132,.tmp 132)] none [] true (.store 46 (.tmp 134) (.tmp 132)) 0 none false (.fin [] [] [])))))))) (.reg false (.fin [111,112,10] [(10,.bin (.arith .add) (.tmp 10) (.con (.int .i64 1)))] []))))
def L.aw.l2:LC:=
 (.seq (.seq (.reg false (.fin [80,81,82] [(82,.bin (.cmp .lss) (.tmp 8) (.tmp 4))] [])) (.cond (.tmp 82) [82] .skip (.exit 2))) (.seq (.block 3 (.seq (.reg false (.loud [85,86,87,88,89] [] [(88,.un (.al 2) (.un (.fld 2) (.un .nilPtr (.tmp 3)))),(89,.tmp 8)] none [] false (.call ⟨.value (.func 51),#[.tmp 88,.tmp 89],#[24,3]⟩) 28 (some 90) true (.fin [9] [(9,.tmp 90)] []))) (.seq (.seq (.reg false (.fin [91,92,93] [(93,.bin (.cmp .gtr) (.un .len (.tmp 9)) (.con (.int .i64 1)))] [])) (.cond (.tmp 93) [93] (.reg false (.loud [94,95,96] [(94,.tmp 7),(95,.tmp 8)] [(96,.tmp 3)] none [] false (.call ⟨.value (.func 33),#[.tmp 96,.const (.int .i64 4)],#[72,3]⟩) 3 (some 97) true (.loud [98] [] [(98,.bin (.idx 1) (.tmp 94) (.tmp 95)),(97,.tmp 97)] none [] false (.store 3 (.tmp 98) (.tmp 97)) 0 none false (.fin [] [] [])))) (.seq (.reg false (.loud [99] [] [(99,.tmp 3)] none [] false (.call ⟨.value (.func 33),#[.tmp 99,.const (.int .i64 6)],#[72,3]⟩) 3 (some 100) true (.fin [101] [(101,.bin (.cmp .eql) (.tmp 100) (.con (.int .i64 0)))] []))) (.cond (.tmp 101) [101] (.reg false (.loud [102,103,104] [] [(104,.bin (.idx 1) (.tmp 7) (.tmp 8))] none [] false (.store 3 (.tmp 104) (.const (.int .i64 1))) 0 none false (.fin [] [] []))) .skip)))) (.seq (.reg false (.fin [10] [(10,.con (.int .i64 0))] [])) (.block 4 (.loop L.aw.l3)))))) (.reg false (.fin [83,84,8] [(8,.bin (.arith .add) (.tmp 8) (.con (.int .i64 1)))] []))))
def L.aw.l6:LC:=
 (.seq (.seq (.reg false (.fin [153,154,155] [(155,.bin (.cmp .lss) (.tmp 16) (.tmp 4))] [])) (.cond (.tmp 155) [155] .skip (.exit 10))) (.seq (.block 11 (.reg false (.loud [158,159,160,161,162,163] [(158,.tmp 15)] [(162,.un (.al 2) (.un (.fld 2) (.un .nilPtr (.tmp 3)))),(163,.tmp 16)] none [] false (.call ⟨.value (.func 48),#[.tmp 162,.tmp 163],#[24,3]⟩) 45 (some 164) true (.loud [] [] [(164,.tmp 164)] none [] false (.buildSlice 95 1 #[(0,.tmp 164)]) 95 (some 165) true (.loud [] [] [(158,.tmp 158),(165,.tmp 165)] none [] false (.call ⟨.builtin .append,#[.tmp 158,.tmp 165],#[95,95]⟩) 95 (some 166) true (.fin [15] [(15,.tmp 166)] [])))))) (.reg false (.fin [156,157,16] [(16,.bin (.arith .add) (.tmp 16) (.con (.int .i64 1)))] []))))
def L.aw.l7:LC:=
 (.seq (.seq (.reg false (.fin [167,168,169] [(169,.bin (.cmp .lss) (.tmp 17) (.tmp 4))] [])) (.cond (.tmp 169) [169] .skip (.exit 12))) (.seq (.block 13 (.reg false (.fin [172,173,174,175,176,177,178,179,180,181,182,183,184,185,186,187,188,189,190,191,192,14] [(14,(.ite (.tmp 14) (.ite (.ite (.bin (.cmp .eql) (.tmp 17) (.tmp 13)) (.con (.bool true)) (.un .load (.bin (.idx 1) (.tmp 11) (.tmp 17)))) (.con (.bool true)) (.un .load (.bin (.idx 1) (.un .load (.bin (.idx 1) (.tmp 15) (.tmp 17))) (.tmp 13)))) (.con (.bool false))))] [(.gd (.gd (.tmp 14) true (.ite (.bin (.cmp .eql) (.tmp 17) (.tmp 13)) (.con (.bool true)) (.un .load (.bin (.idx 1) (.tmp 11) (.tmp 17))))) false (.un .load (.bin (.idx 1) (.un .load (.bin (.idx 1) (.tmp 15) (.tmp 17))) (.tmp 13)))),.gd (.gd (.tmp 14) true (.bin (.cmp .eql) (.tmp 17) (.tmp 13))) false (.un .load (.bin (.idx 1) (.tmp 11) (.tmp 17)))]))) (.reg false (.fin [170,171,17] [(17,.bin (.arith .add) (.tmp 17) (.con (.int .i64 1)))] []))))
def L.aw.l8:LC:=
 (.seq (.seq (.reg false (.fin [202,203,204,205,206,207,208] [(208,(.bin (.cmp .lss) (.tmp 18) (.un .load (.un (.fld 0) (.un (.fld 2) (.un .nilPtr (.tmp 3)))))))] [])) (.cond (.tmp 208) [208] .skip (.exit 14))) (.seq (.block 15 (.reg false (.loud [211,212,213,214,215,216] [(211,.tmp 3),(215,.un .load (.un (.fld 5) (.un .nilPtr (.tmp 3))))] [(216,.tmp 18)] none [] false (.buildSlice 28 1 #[(0,.tmp 216)]) 28 (some 217) true (.loud [] [] [(215,.tmp 215),(217,.tmp 217)] none [] false (.call ⟨.builtin .append,#[.tmp 215,.tmp 217],#[28,28]⟩) 28 (some 218) true (.loud [219,220] [] [(220,.un (.fld 5) (.un .nilPtr (.tmp 211))),(218,.tmp 218)] none [] false (.store 28 (.tmp 220) (.tmp 218)) 0 none false (.fin [] [] [])))))) (.reg false (.fin [209,210,18] [(18,.bin (.arith .add) (.tmp 18) (.con (.int .i64 1)))] []))))
def L.aw.l10:LC:=
 (.seq (.seq (.reg false (.fin [245,246,247,248,249,250,251,252,253,254,255,256] [(256,(.bin (.cmp .lss) (.tmp 20) (.un .len (.un .load (.un (.fld 0) (.bin (.idx 6) (.un .load (.un (.fld 1) (.un (.fld 2) (.un .nilPtr (.tmp 3))))) (.tmp 19)))))))] [])) (.cond (.tmp 256) [256] .skip (.exit 18))) (.seq (.block 19 (.reg true (.loud [259,260,261,262,263,264,265,266,267,268,269,270,271,272,273,274,275,276] [(259,.tmp 3),(263,.un .load (.un (.fld 5) (.un .nilPtr (.tmp 3))))] [(276,(.un .load (.un (.fld 0) (.bin (.idx 2) (.un .load (.un (.fld 0) (.bin (.idx 6) (.un .load (.un (.fld 1) (.un (.fld 2) (.un .nilPtr (.tmp 3))))) (.tmp 19)))) (.tmp 20)))))] none [] false (.buildSlice 28 1 #[(0,.tmp 276)]) 28 (some 277) true (.loud [] [] [(263,.tmp 263),(277,.tmp 277)] none [] true (.call ⟨.builtin .append,#[.tmp 263,.tmp 277],#[28,28]⟩) 28 (some 278) true (.loud [279,280] [] [(280,.un (.fld 5) (.un .nilPtr (.tmp 259))),(278,.tmp 278)] none [] false (.store 28 (.tmp 280) (.tmp 278)) 0 none false (.fin [] [] [])))))) (.reg false (.fin [257,258,20] [(20,.bin (.arith .add) (.tmp 20) (.con (.int .i64 1)))] []))))
def L.aw.l11:LC:=
 (.seq (.seq (.reg false (.fin [281,282,283,284,285,286,287,288,289,290,291,292] [(292,(.bin (.cmp .lss) (.tmp 21) (.un .len (.un .load (.un (.fld 1) (.bin (.idx 6) (.un .load (.un (.fld 1) (.un (.fld 2) (.un .nilPtr (.tmp 3))))) (.tmp 19)))))))] [])) (.cond (.tmp 292) [292] .skip (.exit 20))) (.seq (.block 21 (.seq (.reg false (.loud [295,296,297,298,299,300,301,302,303,304,305,306] [] [(306,(.un (.al 5) (.bin (.idx 5) (.un .load (.un (.fld 1) (.bin (.idx 6) (.un .load (.un (.fld 1) (.un (.fld 2) (.un .nilPtr (.tmp 3))))) (.tmp 19)))) (.tmp 21))))] none [] false (.call ⟨.value (.func 27),#[.tmp 306],#[58]⟩) 28 (some 307) true (.fin [22] [(22,.tmp 307)] []))) (.reg false (.loud [308,309,310,311,312,313] [(308,.tmp 3)] [(312,.un .load (.un (.fld 5) (.un .nilPtr (.tmp 3)))),(313,.tmp 22)] none [] false (.call ⟨.builtin .append,#[.tmp 312,.tmp 313],#[28,28]⟩) 28 (some 314) true (.loud [315,316] [] [(316,.un (.fld 5) (.un .nilPtr (.tmp 308))),(314,.tmp 314)] none [] false (.store 28 (.tmp 316) (.tmp 314)) 0 none false (.fin [] [] [])))))) (.reg false (.fin [293,294,21] [(21,.bin (.arith .add) (.tmp 21) (.con (.int .i64 1)))] []))))
def L.aw.l9:LC:=
 (.seq (.seq (.reg false (.fin [221,222,223] [(223,.bin (.cmp .lss) (.tmp 19) (.tmp 4))] [])) (.cond (.tmp 223) [223] .skip (.exit 16))) (.seq (.block 17 (.seq (.seq (.reg false (.fin [226,227,228,229,230,231,232,233,234,235,236,237,238,239,240,241,242,243,244] [(244,(.ite (.bin (.cmp .neq) (.tmp 19) (.tmp 13)) (.ite (.un .not (.un .load (.bin (.idx 1) (.tmp 11) (.tmp 19)))) (.con (.bool true)) (.un .load (.bin (.idx 1) (.un .load (.bin (.idx 1) (.tmp 15) (.tmp 19))) (.tmp 13)))) (.con (.bool false))))] [(.gd (.gd (.bin (.cmp .neq) (.tmp 19) (.tmp 13)) true (.un .not (.un .load (.bin (.idx 1) (.tmp 11) (.tmp 19))))) false (.un .load (.bin (.idx 1) (.un .load (.bin (.idx 1) (.tmp 15) (.tmp 19))) (.tmp 13))))])) (.cond (.tmp 244) [244] (.exit 17) .skip)) (.seq (.seq (.reg false (.fin [20] [(20,.con (.int .i64 0))] [])) (.block 18 (.loop L.aw.l10))) (.seq (.reg false (.fin [21] [(21,.con (.int .i64 0))] [])) (.block 20 (.loop L.aw.l11)))))) (.reg false (.fin [224,225,19] [(19,.bin (.arith .add) (.tmp 19) (.con (.int .i64 1)))] []))))
def L.aw.l12:LC:=
 (.seq (.seq (.reg false (.fin [319,320,321] [(321,.bin (.cmp .lss) (.tmp 24) (.tmp 23))] [])) (.cond (.tmp 321) [321] .skip (.exit 22))) (.seq (.block 23 (.reg false (.loud [324,325] [] [(324,.tmp 3),(325,.tmp 13)] none [] false (.call ⟨.value (.func 54),#[.tmp 324,.tmp 325],#[72,3]⟩) 0 (some 326) false (.fin [] [] [])))) (.reg false (.fin [322,323,24] [(24,.bin (.arith .add) (.tmp 24) (.con (.int .i64 1)))] []))))
def L.aw.l5:LC:=
 (.seq (.seq (.reg false (.fin [142,143,144] [(144,.bin (.cmp .lss) (.tmp 13) (.tmp 4))] [])) (.cond (.tmp 144) [144] .skip (.exit 8))) (.seq (.block 9 (.seq (.reg false (.fin [147,148,149,150,151,14] [(14,.un .not (.un .load (.bin (.idx 1) (.tmp 11) (.tmp 13))))] [])) (.seq (.reg false (.loud [] [] [] none [] false (.buildSlice 95 0 #[]) 95 (some 152) true (.fin [15] [(15,.tmp 152)] []))) (.seq (.seq (.reg false (.fin [16] [(16,.con (.int .i64 0))] [])) (.block 10 (.loop L.aw.l6))) (.seq (.seq (.reg false (.fin [17] [(17,.con (.int .i64 0))] [])) (.block 12 (.loop L.aw.l7))) (.seq (.seq (.reg false (.fin [193,194] [(194,.un .not (.tmp 14))] [])) (.cond (.tmp 194) [194] (.exit 9) .skip)) (.seq (.reg false (.loud [195,196,197] [] [(197,.bin (.idx 1) (.tmp 11) (.tmp 13))] none [] false (.store 4 (.tmp 197) (.const (.bool true))) 0 none false (.fin [] [] []))) (.seq (.reg false (.loud [198] [(198,.tmp 3)] [] none [] false (.buildSlice 28 0 #[]) 28 (some 199) true (.loud [200,201] [] [(201,.un (.fld 5) (.un .nilPtr (.tmp 198))),(199,.tmp 199)] none [] false (.store 28 (.tmp 201) (.tmp 199)) 0 none false (.fin [] [] [])))) (.seq (.seq (.reg false (.fin [18] [(18,.con (.int .i64 0))] [])) (.block 14 (.loop L.aw.l8))) (.seq (.seq (.reg false (.fin [19] [(19,.con (.int .i64 0))] [])) (.block 16 (.loop L.aw.l9))) (.seq (.reg false (.loud [317] [] [(317,.tmp 3)] none [] false (.call ⟨.value (.func 33),#[.tmp 317,.const (.int .i64 7)],#[72,3]⟩) 3 (some 318) true (.fin [23] [(23,.tmp 318)] []))) (.seq (.seq (.reg false (.fin [24] [(24,.con (.int .i64 0))] [])) (.block 22 (.loop L.aw.l12))) (.reg false (.loud [327,328,329,330,331,332] [] [(327,.tmp 3),(328,.tmp 13),(332,.un .load (.bin (.idx 1) (.tmp 5) (.tmp 13)))] none [] false (.call ⟨.value (.func 55),#[.tmp 327,.tmp 328,.tmp 332],#[72,3,28]⟩) 0 (some 333) false (.fin [] [] []))))))))))))))) (.reg false (.fin [145,146,13] [(13,.bin (.arith .add) (.tmp 13) (.con (.int .i64 1)))] []))))
def L.aw.l4:LC:=
 (.seq (.seq (.reg false (.fin [137,138,139] [(139,.bin (.cmp .lss) (.tmp 12) (.tmp 4))] [])) (.cond (.tmp 139) [139] .skip (.exit 6))) (.seq (.block 7 (.seq (.reg false (.fin [13] [(13,.con (.int .i64 0))] [])) (.block 8 (.loop L.aw.l5)))) (.reg false (.fin [140,141,12] [(12,.bin (.arith .add) (.tmp 12) (.con (.int .i64 1)))] []))))
def L.aw.l15:LC:=
 (.seq (.seq (.reg false (.fin [354,355,356,357] [(357,.bin (.cmp .lss) (.tmp 29) (.un .len (.tmp 26)))] [])) (.cond (.tmp 357) [357] .skip (.exit 28))) (.seq (.block 29 (.seq (.reg true (.loud [360,361,362,363,364,365,366,367] [] [(363,.un (.al 2) (.un (.fld 2) (.un .nilPtr (.tmp 3)))),(367,.un .load (.bin (.idx 1) (.tmp 26) (.tmp 29)))] none [] true (.call ⟨.value (.func 56),#[.tmp 363,.tmp 367],#[24,3]⟩) 28 (some 368) true (.fin [30] [(30,.tmp 368)] []))) (.seq (.seq (.reg false (.fin [369,370,371] [(371,.bin (.cmp .eql) (.un .len (.tmp 30)) (.con (.int .i64 0)))] [])) (.cond (.tmp 371) [371] (.reg true (.loud [372,373,374,375,376,377,378] [(372,.tmp 30),(373,.tmp 3),(377,.un .load (.bin (.idx 1) (.tmp 26) (.tmp 29)))] [(378,.tmp 3)] none [] false (.call ⟨.value (.func 58),#[.tmp 378],#[72]⟩) 21 (some 379) true (.loud [] [] [(373,.tmp 373),(377,.tmp 377),(379,.tmp 379)] none [] true (.call ⟨.value (.func 57),#[.tmp 373,.tmp 377,.tmp 379],#[72,3,21]⟩) 3 (some 380) true (.loud [] [] [(380,.tmp 380)] none [] false (.buildSlice 28 1 #[(0,.tmp 380)]) 28 (some 381) true (.loud [] [] [(372,.tmp 372),(381,.tmp 381)] none [] false (.call ⟨.builtin .append,#[.tmp 372,.tmp 381],#[28,28]⟩) 28 (some 382) true (.fin [30] [(30,.tmp 382)] [])))))) .skip)) (.reg true (.loud [383,384,385,386,387,388,389,390,391] [(383,.tmp 28),(387,.un .load (.bin (.idx 1) (.tmp 26) (.tmp 29))),(388,.tmp 30)] [(389,.tmp 3),(391,.un .len (.tmp 30))] none [] false (.call ⟨.value (.func 33),#[.tmp 389,.tmp 391],#[72,3]⟩) 3 (some 392) true (.loud [393,394] [] [(387,.tmp 387),(394,.un .load (.bin (.idx 1) (.tmp 388) (.tmp 392)))] none [] true (.build 56 #[(0,.tmp 387),(1,.tmp 394)]) 56 (some 395) true (.loud [] [] [(395,.tmp 395)] none [] false (.buildSlice 52 1 #[(0,.tmp 395)]) 52 (some 396) true (.loud [] [] [(383,.tmp 383),(396,.tmp 396)] none [] false (.call ⟨.builtin .append,#[.tmp 383,.tmp 396],#[52,52]⟩) 52 (some 397) true (.fin [28] [(28,.tmp 397)] []))))))))) (.reg false (.fin [358,359,29] [(29,.bin (.arith .add) (.tmp 29) (.con (.int .i64 1)))] []))))
def L.aw.l14:LC:=
 (.seq (.seq (.reg false (.fin [345,346,347,348,349,350] [(350,.bin (.cmp .lss) (.tmp 27) (.un .load (.bin (.idx 1) (.tmp 7) (.tmp 25))))] [])) (.cond (.tmp 350) [350] .skip (.exit 26))) (.seq (.block 27 (.seq (.reg false (.loud [] [] [] none [] false (.buildSlice 52 0 #[]) 52 (some 353) true (.fin [28] [(28,.tmp 353)] []))) (.seq (.seq (.reg false (.fin [29] [(29,.con (.int .i64 0))] [])) (.block 28 (.loop L.aw.l15))) (.reg false (.loud [398,399,400,401,402,403,404,405,406,407,408,409,410] [] [(410,(.un (.fld 1) (.bin (.idx 2) (.un .load (.un (.fld 0) (.bin (.idx 6) (.un .load (.un (.fld 1) (.un (.fld 2) (.un .nilPtr (.tmp 3))))) (.tmp 25)))) (.tmp 27)))),(408,.tmp 28)] none [] false (.store 52 (.tmp 410) (.tmp 408)) 0 none false (.fin [] [] [])))))) (.reg false (.fin [351,352,27] [(27,.bin (.arith .add) (.tmp 27) (.con (.int .i64 1)))] []))))
def L.aw.l13:LC:=
 (.seq (.seq (.reg false (.fin [334,335,336] [(336,.bin (.cmp .lss) (.tmp 25) (.tmp 4))] [])) (.cond (.tmp 336) [336] .skip (.exit 24))) (.seq (.block 25 (.seq (.reg false (.loud [339,340,341,342,343] [] [(342,.un (.al 2) (.un (.fld 2) (.un .nilPtr (.tmp 3)))),(343,.tmp 25)] none [] false (.call ⟨.value (.func 51),#[.tmp 342,.tmp 343],#[24,3]⟩) 28 (some 344) true (.fin [26] [(26,.tmp 344)] []))) (.seq (.reg false (.fin [27] [(27,.con (.int .i64 0))] [])) (.block 26 (.loop L.aw.l14))))) (.reg false (.fin [337,338,25] [(25,.bin (.arith .add) (.tmp 25) (.con (.int .i64 1)))] []))))
def L.aw:LFn:=
⟨[.un (.al 2) (.tmp 2)],(.seq (.reg false (.loud [] [] [] none [] false (.alloc 24) 0 (some 2) true (.fin [] [] []))) (.seq (.reg false (.loud [31] [] [(31,.tmp 0)] none [] false (.build 74 #[(0,.tmp 31)]) 74 (some 32) true (.loud [] [] [(32,.tmp 32)] none [] false (.box 74 (.tmp 32)) 72 (some 33) true (.fin [3] [(3,.tmp 33)] [])))) (.seq (.reg false (.loud [34,35] [(34,.tmp 3)] [(35,.tmp 3)] none [] false (.call ⟨.value (.func 33),#[.tmp 35,.const (.int .i64 5)],#[72,3]⟩) 3 (some 36) true (.loud [37,38,39] [] [(39,.un (.fld 0) (.un (.fld 2) (.un .nilPtr (.tmp 34)))),(36,.tmp 36)] none [] false (.store 3 (.tmp 39) (.tmp 36)) 0 none false (.fin [] [] [])))) (.seq (.reg false (.loud [40,41,42,43,44,45,46,47] [] [(47,.un (.fld 4) (.un .nilPtr (.tmp 3))),(45,(.un .load (.un (.fld 0) (.un (.fld 2) (.un .nilPtr (.tmp 3))))))] none [] false (.store 3 (.tmp 47) (.tmp 45)) 0 none false (.fin [] [] []))) (.seq (.reg false (.loud [48] [] [(48,.tmp 3)] none [] false (.call ⟨.value (.func 33),#[.tmp 48,.const (.int .i64 9)],#[72,3]⟩) 3 (some 49) true (.fin [50,4] [(4,.bin (.arith .add) (.con (.int .i64 1)) (.tmp 49))] []))) (.seq (.reg false (.loud [51,52] [] [(51,.tmp 3),(52,.tmp 4)] none [] false (.call ⟨.value (.func 52),#[.tmp 51,.tmp 52],#[72,3]⟩) 99 (some 53) true (.fin [5] [(5,.tmp 53)] []))) (.seq (.reg false (.loud [54,55] [(54,.tmp 3)] [(55,.tmp 4),(55,.tmp 4)] none [] false (.makeSlice 22 (.tmp 55) (.tmp 55)) 22 (some 56) true (.loud [57,58,59] [] [(59,.un (.fld 1) (.un (.fld 2) (.un .nilPtr (.tmp 54)))),(56,.tmp 56)] none [] false (.store 22 (.tmp 59) (.tmp 56)) 0 none false (.fin [] [] [])))) (.seq (.seq (.reg false (.fin [6] [(6,.con (.int .i64 0))] [])) (.block 0 (.loop L.aw.l1))) (.seq (.reg false (.loud [78] [] [(78,.tmp 4),(78,.tmp 4)] none [] false (.makeSlice 28 (.tmp 78) (.tmp 78)) 28 (some 79) true (.fin [7] [(7,.tmp 79)] []))) (.seq (.seq (.reg false (.fin [8] [(8,.con (.int .i64 1))] [])) (.block 2 (.loop L.aw.l2))) (.seq (.reg false (.loud [135] [] [(135,.tmp 4),(135,.tmp 4)] none [] false (.makeSlice 45 (.tmp 135) (.tmp 135)) 45 (some 136) true (.fin [11] [(11,.tmp 136)] []))) (.seq (.seq (.reg false (.fin [12] [(12,.con (.int .i64 0))] [])) (.block 6 (.loop L.aw.l4))) (.seq (.seq (.reg false (.fin [25] [(25,.con (.int .i64 1))] [])) (.block 24 (.loop L.aw.l13))) (.seq (.reg false (.loud [411,412,413,414] [] [(2,.tmp 2),(414,.un (.al 2) (.un (.fld 2) (.un .nilPtr (.tmp 3))))] none [] false (.store 24 (.tmp 2) (.tmp 414)) 0 none false (.fin [] [] []))) .ret))))))))))))))⟩
theorem E.aw:bA Try.prog Try.f32=some L.aw:=by kernel_rfl
theorem F.aw:Try.prog.funcs[N.aw]? = some Try.f32:=Try.func32
abbrev N.bP:Nat:=33
def L.bP:LFn:=
⟨[.tmp 4],(.seq (.reg false (.fin [4] [(4,.con (.int .i64 0))] [])) (.seq (.reg false (.fin [5] [(5,.con (.int .i64 0))] [])) (.seq (.seq (.reg true (.fin [6,7,8,9,10,11,12,13,14,15] [(15,(.bin (.cmp .lss) (.un .load (.un (.fld 1) (.un .nilPtr (.tmp 0)))) (.un .len (.un .load (.un (.fld 0) (.un .nilPtr (.tmp 0)))))))] [])) (.cond (.tmp 15) [15] (.reg true (.fin [16,17,18,19,20,21,22,23,24,25,5] [(5,(.un .load (.bin (.idx 1) (.un .load (.un (.fld 0) (.un .nilPtr (.tmp 0)))) (.un .load (.un (.fld 1) (.un .nilPtr (.tmp 0)))))))] [])) .skip)) (.seq (.reg false (.loud [26,27,28,29,30,31,32,33] [] [(33,.un (.fld 1) (.un .nilPtr (.tmp 0))),(31,(.bin (.arith .add) (.un .load (.un (.fld 1) (.un .nilPtr (.tmp 0)))) (.con (.int .i64 1))))] none [] false (.store 3 (.tmp 33) (.tmp 31)) 0 none false (.fin [] [] []))) (.seq (.reg false (.fin [34,35,36,37,38,39,40,4] [(4,.bin (.div .rem) (.bin (.arith .add) (.bin (.div .rem) (.tmp 5) (.tmp 1)) (.tmp 1)) (.tmp 1))] [])) .ret)))))⟩
theorem E.bP:bA Try.prog Try.f33=some L.bP:=by kernel_rfl
theorem F.bP:Try.prog.funcs[N.bP]? = some Try.f33:=Try.func33
abbrev N.cc:Nat:=34
def L.cc:LFn:=
⟨[],(.seq (.reg false (.loud [] [] [] none [] false (.call ⟨.builtin .recover,#[],#[]⟩) 20 (some 6) true (.fin [] [] []))) (.block 0 (.seq (.reg false (.loud [] [] [(6,.tmp 6)] none [] false (.binOp .eql 20 (.tmp 6) (.const .nilIface) 20) 4 (some 8) true (.fin [] [] []))) (.cond (.tmp 8) [8] (.reg false (.fin [3] [] [.tmp 6])) (.seq (.reg false (.loud [] [] [(6,.tmp 6)] none [] false (.typeAssert (.tmp 6) 20 77 true) 0 (some 9) true (.fin [10,11] [(10,.un (.ext 1) (.tmp 9)),(11,.un (.ext 0) (.tmp 9))] []))) (.cond (.tmp 10) [10] (.seq (.reg false (.loud [] [] [] none [] false (.alloc 77) 0 (some 4) true (.loud [] [] [(4,.tmp 4),(11,.tmp 11)] none [] false (.store 77 (.tmp 4) (.tmp 11)) 0 none false (.fin [] [] [])))) (.reg true (.loud [12,13,14,15,16,17] [(15,.un .load (.un (.fld 1) (.tmp 4))),(17,.un .load (.un (.fld 2) (.tmp 4)))] [(0,.tmp 0),(13,.un .load (.un (.fld 0) (.tmp 4)))] none [] false (.store 34 (.tmp 0) (.tmp 13)) 0 none false (.loud [] [] [(1,.tmp 1),(15,.tmp 15)] none [] false (.store 3 (.tmp 1) (.tmp 15)) 0 none false (.loud [] [] [(2,.tmp 2),(17,.tmp 17)] none [] true (.store 3 (.tmp 2) (.tmp 17)) 0 none false (.fin [] [] [])))))) (.seq (.reg false (.fin [5] [(5,.tmp 6)] [])) (.reg false (.loud [7] [] [(7,.tmp 5)] none [] false (.panic (.tmp 7)) 0 none false (.fin [] [] []))))))))))⟩
theorem F.cc:Try.prog.funcs[N.cc]? = some Try.f34:=Try.func34
theorem Q.cc:Try.f34.body=some (.seq (.region (ET (vk Try.f34)) #[FG Try.f34 0] false) (E2 Try.f34)):=by kernel_rfl
theorem E.mj:ee Try.prog Try.f34.ntmps (fJ Try.f34) (CY Try.f34) false (E2 Try.f34)=some L.cc.body.tail:=by kernel_rfl
abbrev N.en:Nat:=35
def L.en:LFn:=
⟨[],(.seq (.reg false (.fin [8,9] [(9,.un .not (.tmp 0))] [])) (.cond (.tmp 9) [9] (.reg false (.loud [10,11,12] [] [(10,.tmp 1),(11,.tmp 2),(12,.tmp 3)] none [] false (.build 77 #[(0,.tmp 10),(1,.tmp 11),(2,.tmp 12)]) 77 (some 13) true (.loud [] [] [(13,.tmp 13)] none [] false (.makeInterface 77 (.tmp 13)) 20 (some 14) true (.loud [] [] [(14,.tmp 14)] none [] false (.panic (.tmp 14)) 0 none false (.fin [] [] []))))) .skip))⟩
theorem E.en:bA Try.prog Try.f35=some L.en:=by kernel_rfl
theorem F.en:Try.prog.funcs[N.en]? = some Try.f35:=Try.func35
abbrev N.dS:Nat:=36
def L.dS:LFn:=
⟨[.tmp 6],(.seq (.reg false (.fin [6] [(6,.con (.bool false))] [])) (.seq (.reg false (.fin [7,8,9,10,11,12,13,14,6] [(6,.ite (.bin (.cmp .geq) (.tmp 0) (.tmp 1)) (.bin (.cmp .leq) (.tmp 0) (.tmp 2)) (.con (.bool false)))] [])) .ret))⟩
theorem E.dS:bA Try.prog Try.f36=some L.dS:=by kernel_rfl
theorem F.dS:Try.prog.funcs[N.dS]? = some Try.f36:=Try.func36
abbrev N.aS:Nat:=37
def L.aS.l2:LC:=
 (.seq (.reg false (.fin [29] [(29,.bin (.cmp .lss) (.tmp 28) (.tmp 27))] [])) (.seq (.cond (.tmp 29) [29] .skip (.exit 2)) (.seq (.block 3 (.seq (.reg false (.loud [30,31,32] [(30,.tmp 28),(32,.un (.al 2) (.bin (.idx 2) (.tmp 26) (.tmp 28)))] [] none [] false (.alloc 54) 0 (some 5) true (.loud [4] [(4,.tmp 30)] [(5,.tmp 5),(32,.tmp 32)] none [] false (.store 54 (.tmp 5) (.tmp 32)) 0 none false (.fin [] [] [])))) (.reg false (.loud [33,34,35] [(33,.tmp 0)] [(35,.un .load (.un (.fld 0) (.tmp 5)))] none [] false (.buildSlice 28 1 #[(0,.tmp 35)]) 28 (some 36) true (.loud [37,38,39] [] [(33,.tmp 33),(36,.tmp 36),(37,.tmp 2),(39,.bin (.arith .sub) (.con (.int .i64 (-1))) (.tmp 4))] none [] false (.call ⟨.value (.func 59),#[.tmp 33,.tmp 36,.tmp 37,.tmp 39],#[80,28,3,3]⟩) 0 (some 40) false (.fin [] [] [])))))) (.reg false (.fin [41,28] [(28,.bin (.arith .add) (.tmp 28) (.con (.int .i64 1)))] [])))))
def L.aS.l3:LC:=
 (.seq (.reg false (.fin [46] [(46,.bin (.cmp .lss) (.tmp 45) (.tmp 44))] [])) (.seq (.cond (.tmp 46) [46] .skip (.exit 4)) (.seq (.block 5 (.seq (.reg false (.loud [47,48,49] [(47,.tmp 45),(49,.un (.al 5) (.bin (.idx 5) (.tmp 43) (.tmp 45)))] [] none [] false (.alloc 58) 0 (some 7) true (.loud [6] [(6,.tmp 47)] [(7,.tmp 7),(49,.tmp 49)] none [] false (.store 58 (.tmp 7) (.tmp 49)) 0 none false (.fin [] [] [])))) (.seq (.reg false (.loud [50,51] [] [(51,.un .load (.un (.fld 0) (.tmp 7)))] none [] false (.call ⟨.value (.func 36),#[.tmp 51,.const (.int .i64 1),.const (.int .i64 18)],#[3,3,3]⟩) 4 (some 52) true (.loud [53,54] [] [(52,.tmp 52),(53,.tmp 2),(54,.tmp 6)] none [] false (.call ⟨.value (.func 35),#[.tmp 52,.const (.int .i64 10),.tmp 53,.tmp 54],#[4,34,3,3]⟩) 0 (some 55) false (.fin [] [] [])))) (.seq (.reg false (.loud [57,58] [] [(58,.un .load (.un (.fld 0) (.tmp 7)))] none [] false (.call ⟨.value (.func 60),#[.tmp 58],#[3]⟩) 107 (some 59) true (.fin [56,60,61,8,9] [(8,.un (.ext 0) (.tmp 59)),(9,.un (.ext 1) (.tmp 59))] []))) (.seq (.reg false (.loud [62,63,64,65,66] [] [(64,.un .len (.un .load (.un (.fld 3) (.tmp 7)))),(65,.tmp 8),(66,.tmp 9)] none [] false (.call ⟨.value (.func 36),#[.tmp 64,.tmp 65,.tmp 66],#[3,3,3]⟩) 4 (some 67) true (.loud [68,69] [] [(67,.tmp 67),(68,.tmp 2),(69,.tmp 6)] none [] false (.call ⟨.value (.func 35),#[.tmp 67,.const (.int .i64 10),.tmp 68,.tmp 69],#[4,34,3,3]⟩) 0 (some 70) false (.fin [] [] [])))) (.reg false (.loud [71,72] [(71,.tmp 0)] [(72,.un (.al 5) (.tmp 7))] none [] false (.call ⟨.value (.func 61),#[.tmp 72],#[58]⟩) 28 (some 73) true (.loud [74,75] [] [(71,.tmp 71),(73,.tmp 73),(74,.tmp 2),(75,.tmp 6)] none [] false (.call ⟨.value (.func 59),#[.tmp 71,.tmp 73,.tmp 74,.tmp 75],#[80,28,3,3]⟩) 0 (some 76) false (.fin [] [] []))))))))) (.reg false (.fin [77,45] [(45,.bin (.arith .add) (.tmp 45) (.con (.int .i64 1)))] [])))))
def L.aS.l4:LC:=
 (.seq (.reg false (.fin [119] [(119,.bin (.cmp .lss) (.tmp 118) (.tmp 117))] [])) (.seq (.cond (.tmp 119) [119] .skip (.exit 6)) (.seq (.block 7 (.seq (.reg false (.fin [120,121,13] [(13,.un .load (.bin (.idx 1) (.tmp 116) (.tmp 118)))] [])) (.reg true (.loud [122,123,124,125,126,127,128,129,131,132,133,134] [(131,.tmp 2),(134,.un .len (.un .load (.un (.fld 1) (.tmp 3))))] [(122,.tmp 13),(129,(.bin (.arith .sub) (.un .len (.un .load (.un (.fld 1) (.un (.fld 0) (.un .nilPtr (.tmp 0)))))) (.con (.int .i64 1))))] none [] false (.call ⟨.value (.func 36),#[.tmp 122,.const (.int .i64 1),.tmp 129],#[3,3,3]⟩) 4 (some 130) true (.loud [] [] [(130,.tmp 130),(131,.tmp 131),(134,.tmp 134)] none [] true (.call ⟨.value (.func 35),#[.tmp 130,.const (.int .i64 14),.tmp 131,.tmp 134],#[4,34,3,3]⟩) 0 (some 135) false (.fin [] [] [])))))) (.reg false (.fin [136,118] [(118,.bin (.arith .add) (.tmp 118) (.con (.int .i64 1)))] [])))))
def L.aS.l1:LC:=
 (.seq (.reg false (.fin [21] [(21,.bin (.cmp .lss) (.tmp 20) (.tmp 19))] [])) (.seq (.cond (.tmp 21) [21] .skip (.exit 0)) (.seq (.block 1 (.seq (.reg false (.loud [22,23,24] [(22,.tmp 20),(24,.un (.al 6) (.bin (.idx 6) (.tmp 18) (.tmp 20)))] [] none [] false (.alloc 51) 0 (some 3) true (.loud [2] [(2,.tmp 22)] [(3,.tmp 3),(24,.tmp 24)] none [] false (.store 51 (.tmp 3) (.tmp 24)) 0 none false (.fin [] [] [])))) (.seq (.seq (.reg false (.fin [25,26,27,28] [(26,.un .load (.un (.fld 0) (.tmp 3))),(27,.un .len (.un .load (.un (.fld 0) (.tmp 3)))),(28,.con (.int .i64 0))] [])) (.block 2 (.loop L.aS.l2))) (.seq (.seq (.reg false (.fin [42,43,44,45] [(43,.un .load (.un (.fld 1) (.tmp 3))),(44,.un .len (.un .load (.un (.fld 1) (.tmp 3)))),(45,.con (.int .i64 0))] [])) (.block 4 (.loop L.aS.l3))) (.seq (.reg true (.both (.loud [80,81,82] [(82,.un .load (.un (.fld 0) (.un (.fld 2) (.tmp 3))))] [] none [] false (.call ⟨.value (.func 62),#[],#[]⟩) 112 (some 79) true (.both (.loud [] [] [(79,.tmp 79),(82,.tmp 82)] none [] true (.lookup 112 (.tmp 79) (.tmp 82) true) 111 (some 83) true (.loud [78,84,85] [(84,.un (.ext 0) (.tmp 83)),(85,.un (.ext 1) (.tmp 83))] [] none [] false (.alloc 110) 0 (some 10) true (.loud [] [] [(10,.tmp 10),(84,.tmp 84)] none [] false (.store 110 (.tmp 10) (.tmp 84)) 0 none false (.fin [11] [(11,.tmp 85)] [])))) (.loud [] [] [] none [] false (.alloc 110) 0 (some 10) true (.loud [] [] [(79,.tmp 79),(82,.tmp 82)] none [] true (.lookup 112 (.tmp 79) (.tmp 82) true) 111 (some 83) true (.loud [78,84,85] [(85,.un (.ext 1) (.tmp 83))] [(10,.tmp 10),(84,.un (.ext 0) (.tmp 83))] none [] false (.store 110 (.tmp 10) (.tmp 84)) 0 none false (.fin [11] [(11,.tmp 85)] [])))))) (.loud [80,81,82] [(82,.un .load (.un (.fld 0) (.un (.fld 2) (.tmp 3))))] [] none [] false (.alloc 110) 0 (some 10) true (.loud [] [] [] none [] false (.call ⟨.value (.func 62),#[],#[]⟩) 112 (some 79) true (.loud [] [] [(79,.tmp 79),(82,.tmp 82)] none [] true (.lookup 112 (.tmp 79) (.tmp 82) true) 111 (some 83) true (.loud [78,84,85] [(85,.un (.ext 1) (.tmp 83))] [(10,.tmp 10),(84,.un (.ext 0) (.tmp 83))] none [] false (.store 110 (.tmp 10) (.tmp 84)) 0 none false (.fin [11] [(11,.tmp 85)] []))))))) (.seq (.reg true (.loud [86,87,88,89,90,91,92,93,94,95,109,110,111,112] [(87,.tmp 11),(109,.tmp 2),(112,.un .len (.un .load (.un (.fld 1) (.tmp 3))))] [(91,(.gd (.tmp 11) true (.un .len (.un .load (.un (.fld 1) (.un (.fld 2) (.tmp 3))))))),(93,.gd (.tmp 11) true (.un .load (.un (.fld 0) (.tmp 10)))),(95,.gd (.tmp 11) true (.un .load (.un (.fld 1) (.tmp 10))))] (some ((.tmp 11),true)) [] false (.call ⟨.value (.func 36),#[.tmp 91,.tmp 93,.tmp 95],#[3,3,3]⟩) 4 (some 96) true (.loud [97,98,99,100,101,102,103,104,105,106] [(98,.ite (.tmp 87) (.tmp 96) (.con (.bool false)))] [(102,(.gd (.ite (.tmp 87) (.tmp 96) (.con (.bool false))) true (.un .len (.un .load (.un (.fld 2) (.un (.fld 2) (.tmp 3))))))),(104,.gd (.ite (.tmp 87) (.tmp 96) (.con (.bool false))) true (.un .load (.un (.fld 2) (.tmp 10)))),(106,.gd (.ite (.tmp 87) (.tmp 96) (.con (.bool false))) true (.un .load (.un (.fld 3) (.tmp 10))))] (some ((.ite (.tmp 87) (.tmp 96) (.con (.bool false))),true)) [] false (.call ⟨.value (.func 36),#[.tmp 102,.tmp 104,.tmp 106],#[3,3,3]⟩) 4 (some 107) true (.loud [108] [] [(108,.ite (.tmp 98) (.tmp 107) (.con (.bool false))),(109,.tmp 109),(112,.tmp 112)] none [] true (.call ⟨.value (.func 35),#[.tmp 108,.const (.int .i64 10),.tmp 109,.tmp 112],#[4,34,3,3]⟩) 0 (some 113) false (.fin [] [] []))))) (.seq (.reg false (.fin [114,115,116,117,118] [(116,.un .load (.un (.fld 2) (.un (.fld 2) (.tmp 3)))),(117,(.un .len (.un .load (.un (.fld 2) (.un (.fld 2) (.tmp 3)))))),(118,.con (.int .i64 0))] [])) (.block 6 (.loop L.aS.l4))))))))) (.reg false (.fin [137,20] [(20,.bin (.arith .add) (.tmp 20) (.con (.int .i64 1)))] [])))))
def L.aS:LFn:=
⟨[],(.seq (.reg false (.fin [14,15,16,17,18,19,20] [(18,(.un .load (.un (.fld 1) (.un (.fld 0) (.un .nilPtr (.tmp 0)))))),(19,(.un .len (.un .load (.un (.fld 1) (.un (.fld 0) (.un .nilPtr (.tmp 0))))))),(20,.con (.int .i64 0))] [])) (.block 0 (.loop L.aS.l1)))⟩
theorem E.aS:bA Try.prog Try.f37=some L.aS:=by kernel_rfl
theorem F.aS:Try.prog.funcs[N.aS]? = some Try.f37:=Try.func37
abbrev N.aC:Nat:=38
def L.aC.l1:LC:=
 (.seq (.reg false (.fin [37] [(37,.bin (.cmp .lss) (.tmp 36) (.tmp 35))] [])) (.seq (.cond (.tmp 37) [37] .skip (.exit 0)) (.seq (.block 1 (.seq (.reg false (.fin [38,4] [(4,.tmp 36)] [])) (.reg false (.loud [39,40] [] [(39,.tmp 3),(40,.tmp 4)] none [] false (.call ⟨.value (.func 44),#[.tmp 39,.tmp 40],#[28,3]⟩) 4 (some 41) true (.loud [42] [] [(41,.tmp 41),(42,.tmp 4)] none [] false (.call ⟨.value (.func 35),#[.tmp 41,.const (.int .i64 15),.tmp 42,.const (.int .i64 0)],#[4,34,3,3]⟩) 0 (some 43) false (.fin [] [] [])))))) (.reg false (.fin [44,36] [(36,.bin (.arith .add) (.tmp 36) (.con (.int .i64 1)))] [])))))
def L.aC.l4:LC:=
 (.seq (.reg false (.fin [86] [(86,.bin (.cmp .lss) (.tmp 85) (.tmp 84))] [])) (.seq (.cond (.tmp 86) [86] .skip (.exit 6)) (.seq (.block 7 (.seq (.reg false (.loud [87,88,89] [(87,.tmp 85),(89,.un (.al 2) (.bin (.idx 2) (.tmp 83) (.tmp 85)))] [] none [] false (.alloc 56) 0 (some 14) true (.loud [13] [(13,.tmp 87)] [(14,.tmp 14),(89,.tmp 89)] none [] false (.store 56 (.tmp 14) (.tmp 89)) 0 none false (.fin [] [] [])))) (.reg true (.fin [90,91,92,93,94,95,96,97,98,99,100,101,102,12] [(12,(.ite (.tmp 12) (.bin (.cmp .eql) (.un .load (.un (.fld 0) (.tmp 14))) (.un .load (.bin (.idx 1) (.un .load (.bin (.idx 1) (.tmp 5) (.tmp 8))) (.tmp 13)))) (.con (.bool false))))] [])))) (.reg false (.fin [103,85] [(85,.bin (.arith .add) (.tmp 85) (.con (.int .i64 1)))] [])))))
def L.aC.l5:LC:=
 (.seq (.reg false (.fin [113] [(113,.bin (.cmp .lss) (.tmp 112) (.tmp 111))] [])) (.seq (.cond (.tmp 113) [113] .skip (.exit 8)) (.seq (.block 9 (.seq (.reg false (.loud [114,115] [(115,.un (.al 2) (.bin (.idx 2) (.tmp 110) (.tmp 112)))] [] none [] false (.alloc 56) 0 (some 16) true (.loud [] [] [(16,.tmp 16),(115,.tmp 115)] none [] false (.store 56 (.tmp 16) (.tmp 115)) 0 none false (.fin [] [] [])))) (.reg true (.loud [116,117,118,119,120,121,122,123,124,125,126,127,128,129,130,131,132,133,134] [] [(116,.tmp 7),(118,.un .load (.un (.fld 1) (.tmp 16))),(120,.un .load (.un (.fld 0) (.tmp 16))),(122,.bin (.arith .sub) (.con (.int .i64 (-1))) (.tmp 10)),(133,(.un .len (.un .load (.un (.fld 1) (.bin (.idx 6) (.un .load (.un (.fld 1) (.un (.fld 0) (.un .nilPtr (.un .load (.tmp 1)))))) (.un .load (.un (.fld 0) (.tmp 16)))))))),(134,.tmp 8)] none [] true (.call ⟨.value (.tmp 116),#[.tmp 118,.tmp 120,.tmp 122,.tmp 133,.tmp 134],#[3,3,3,3,3]⟩) 0 (some 135) false (.fin [] [] []))))) (.reg false (.fin [136,112] [(112,.bin (.arith .add) (.tmp 112) (.con (.int .i64 1)))] [])))))
def L.aC.l3:LC:=
 (.seq (.reg false (.fin [65] [(65,.bin (.cmp .lss) (.tmp 64) (.tmp 63))] [])) (.seq (.cond (.tmp 65) [65] .skip (.exit 4)) (.seq (.block 5 (.seq (.reg false (.loud [66,67,68] [(66,.tmp 64),(68,.un (.al 2) (.bin (.idx 2) (.tmp 62) (.tmp 64)))] [] none [] false (.alloc 54) 0 (some 11) true (.loud [10] [(10,.tmp 66)] [(11,.tmp 11),(68,.tmp 68)] none [] false (.store 54 (.tmp 11) (.tmp 68)) 0 none false (.fin [] [] [])))) (.seq (.reg true (.fin [69,70,71,72,73,74,75,76,77,78,79,80,81,12] [(12,(.ite (.bin (.cmp .gtr) (.tmp 8) (.con (.int .i64 0))) (.bin (.cmp .eql) (.un .len (.un .load (.un (.fld 1) (.tmp 11)))) (.un .len (.un .load (.bin (.idx 1) (.tmp 5) (.tmp 8))))) (.con (.bool false))))] [])) (.seq (.seq (.reg false (.fin [82,83,84,85] [(83,.un .load (.un (.fld 1) (.tmp 11))),(84,.un .len (.un .load (.un (.fld 1) (.tmp 11)))),(85,.con (.int .i64 0))] [])) (.block 6 (.loop L.aC.l4))) (.seq (.reg false (.loud [104,105,106,107] [] [(104,.tmp 12),(105,.tmp 8),(107,.bin (.arith .sub) (.con (.int .i64 (-1))) (.tmp 10))] none [] false (.call ⟨.value (.func 35),#[.tmp 104,.const (.int .i64 16),.tmp 105,.tmp 107],#[4,34,3,3]⟩) 0 (some 108) false (.fin [] [] []))) (.seq (.reg false (.fin [109,110,111,112] [(110,.un .load (.un (.fld 1) (.tmp 11))),(111,.un .len (.un .load (.un (.fld 1) (.tmp 11)))),(112,.con (.int .i64 0))] [])) (.block 8 (.loop L.aC.l5)))))))) (.reg false (.fin [137,64] [(64,.bin (.arith .add) (.tmp 64) (.con (.int .i64 1)))] [])))))
def L.aC.l7:LC:=
 (.seq (.reg false (.fin [150] [(150,.bin (.cmp .lss) (.tmp 149) (.tmp 148))] [])) (.seq (.cond (.tmp 150) [150] .skip (.exit 12)) (.seq (.block 13 (.seq (.reg false (.fin [151,152,20] [(20,.un .load (.bin (.idx 1) (.tmp 147) (.tmp 149)))] [])) (.reg false (.loud [153,154,155,156,157,158] [] [(153,.tmp 7),(154,.tmp 20),(155,.tmp 8),(156,.tmp 17),(157,.tmp 17),(158,.tmp 8)] none [] false (.call ⟨.value (.tmp 153),#[.tmp 154,.tmp 155,.tmp 156,.tmp 157,.tmp 158],#[3,3,3,3,3]⟩) 0 (some 159) false (.fin [] [] []))))) (.reg false (.fin [160,149] [(149,.bin (.arith .add) (.tmp 149) (.con (.int .i64 1)))] [])))))
def L.aC.l6:LC:=
 (.seq (.reg false (.fin [142] [(142,.bin (.cmp .lss) (.tmp 141) (.tmp 140))] [])) (.seq (.cond (.tmp 142) [142] .skip (.exit 10)) (.seq (.block 11 (.seq (.reg false (.loud [143,144,145] [(143,.tmp 141),(145,.un (.al 5) (.bin (.idx 5) (.tmp 139) (.tmp 141)))] [] none [] false (.alloc 58) 0 (some 18) true (.loud [17] [(17,.tmp 143)] [(18,.tmp 18),(145,.tmp 145)] none [] false (.store 58 (.tmp 18) (.tmp 145)) 0 none false (.fin [] [] [])))) (.seq (.reg false (.fin [146,147,148,149] [(147,.un .load (.un (.fld 3) (.tmp 18))),(148,.un .len (.un .load (.un (.fld 3) (.tmp 18)))),(149,.con (.int .i64 0))] [])) (.block 12 (.loop L.aC.l7))))) (.reg false (.fin [161,141] [(141,.bin (.arith .add) (.tmp 141) (.con (.int .i64 1)))] [])))))
def L.aC.l8:LC:=
 (.seq (.reg false (.fin [167] [(167,.bin (.cmp .lss) (.tmp 166) (.tmp 165))] [])) (.seq (.cond (.tmp 167) [167] .skip (.exit 14)) (.seq (.block 15 (.seq (.reg false (.fin [168,169,22] [(22,.un .load (.bin (.idx 1) (.tmp 164) (.tmp 166)))] [])) (.reg false (.loud [170,171,172,173,174,175,176,177,178,179] [] [(170,.tmp 7),(171,.tmp 22),(172,.tmp 8),(175,.un .len (.un .load (.un (.fld 1) (.tmp 9)))),(178,.un .len (.un .load (.un (.fld 1) (.tmp 9)))),(179,.tmp 8)] none [] false (.call ⟨.value (.tmp 170),#[.tmp 171,.tmp 172,.tmp 175,.tmp 178,.tmp 179],#[3,3,3,3,3]⟩) 0 (some 180) false (.fin [] [] []))))) (.reg false (.fin [181,166] [(166,.bin (.arith .add) (.tmp 166) (.con (.int .i64 1)))] [])))))
def L.aC.l2:LC:=
 (.seq (.reg false (.fin [57] [(57,.bin (.cmp .lss) (.tmp 56) (.tmp 55))] [])) (.seq (.cond (.tmp 57) [57] .skip (.exit 2)) (.seq (.block 3 (.seq (.reg false (.loud [58,59,60] [(58,.tmp 56),(60,.un (.al 6) (.bin (.idx 6) (.tmp 54) (.tmp 56)))] [] none [] false (.alloc 51) 0 (some 9) true (.loud [8] [(8,.tmp 58)] [(9,.tmp 9),(60,.tmp 60)] none [] false (.store 51 (.tmp 9) (.tmp 60)) 0 none false (.fin [] [] [])))) (.seq (.seq (.reg false (.fin [61,62,63,64] [(62,.un .load (.un (.fld 0) (.tmp 9))),(63,.un .len (.un .load (.un (.fld 0) (.tmp 9)))),(64,.con (.int .i64 0))] [])) (.block 4 (.loop L.aC.l3))) (.seq (.seq (.reg false (.fin [138,139,140,141] [(139,.un .load (.un (.fld 1) (.tmp 9))),(140,.un .len (.un .load (.un (.fld 1) (.tmp 9)))),(141,.con (.int .i64 0))] [])) (.block 10 (.loop L.aC.l6))) (.seq (.reg false (.fin [162,163,164,165,166] [(164,.un .load (.un (.fld 1) (.un (.fld 2) (.tmp 9)))),(165,(.un .len (.un .load (.un (.fld 1) (.un (.fld 2) (.tmp 9)))))),(166,.con (.int .i64 0))] [])) (.block 14 (.loop L.aC.l8))))))) (.reg false (.fin [182,56] [(56,.bin (.arith .add) (.tmp 56) (.con (.int .i64 1)))] [])))))
def L.aC:LFn:=
⟨[],(.seq (.reg false (.loud [] [] [(0,.tmp 0)] none [] false (.box 80 (.tmp 0)) 0 (some 1) true (.fin [] [] []))) (.seq (.reg false (.loud [23,24,25,26] [] [(26,(.un (.al 2) (.un (.fld 0) (.un .nilPtr (.un .load (.tmp 1))))))] none [] false (.call ⟨.value (.func 63),#[.tmp 26],#[24]⟩) 99 (some 27) true (.fin [2] [(2,.tmp 27)] []))) (.seq (.reg false (.loud [28] [] [(28,.tmp 2)] none [] false (.call ⟨.value (.func 64),#[.tmp 28],#[99]⟩) 28 (some 29) true (.fin [3] [(3,.tmp 29)] []))) (.seq (.seq (.reg false (.fin [30,31,32,33,34,35,36] [(35,(.un .len (.un .load (.un (.fld 1) (.un (.fld 0) (.un .nilPtr (.un .load (.tmp 1)))))))),(36,.con (.int .i64 0))] [])) (.block 0 (.loop L.aC.l1))) (.seq (.reg false (.loud [45] [] [(45,.tmp 2)] none [] false (.call ⟨.value (.func 65),#[.tmp 45],#[99]⟩) 99 (some 46) true (.loud [47] [] [(47,.tmp 2)] none [] false (.call ⟨.value (.func 66),#[.tmp 47],#[99]⟩) 28 (some 48) true (.loud [] [] [] none [] false (.alloc 28) 0 (some 6) true (.loud [5] [(5,.tmp 46)] [(6,.tmp 6),(48,.tmp 48)] none [] false (.store 28 (.tmp 6) (.tmp 48)) 0 none false (.fin [] [] [])))))) (.seq (.reg false (.fin [49,7] [(7,(.un (.fn 67) (.snoc (.snoc (.con (.tuple #[])) (.tmp 1)) (.tmp 6))))] [])) (.seq (.reg false (.fin [50,51,52,53,54,55,56] [(54,(.un .load (.un (.fld 1) (.un (.fld 0) (.un .nilPtr (.un .load (.tmp 1))))))),(55,(.un .len (.un .load (.un (.fld 1) (.un (.fld 0) (.un .nilPtr (.un .load (.tmp 1)))))))),(56,.con (.int .i64 0))] [])) (.block 2 (.loop L.aC.l2)))))))))⟩
theorem E.aC:bA Try.prog Try.f38=some L.aC:=by kernel_rfl
theorem F.aC:Try.prog.funcs[N.aC]? = some Try.f38:=Try.func38
abbrev N.bT:Nat:=39
def L.bT.l3:LC:=
 (.seq (.reg false (.fin [33] [(33,.bin (.cmp .lss) (.tmp 32) (.tmp 31))] [])) (.seq (.cond (.tmp 33) [33] .skip (.exit 4)) (.seq (.block 5 (.seq (.reg false (.loud [34,35] [(35,.un (.al 2) (.bin (.idx 2) (.tmp 30) (.tmp 32)))] [] none [] false (.alloc 56) 0 (some 10) true (.loud [] [] [(10,.tmp 10),(35,.tmp 35)] none [] false (.store 56 (.tmp 10) (.tmp 35)) 0 none false (.fin [] [] [])))) (.reg false (.loud [36,37,38] [(36,.tmp 8)] [(38,.un .load (.un (.fld 1) (.tmp 10)))] none [] false (.buildSlice 28 1 #[(0,.tmp 38)]) 28 (some 39) true (.loud [] [] [(36,.tmp 36),(39,.tmp 39)] none [] false (.call ⟨.builtin .append,#[.tmp 36,.tmp 39],#[28,28]⟩) 28 (some 40) true (.fin [8] [(8,.tmp 40)] [])))))) (.reg false (.fin [41,32] [(32,.bin (.arith .add) (.tmp 32) (.con (.int .i64 1)))] [])))))
def L.bT.l2:LC:=
 (.seq (.reg false (.fin [25] [(25,.bin (.cmp .lss) (.tmp 24) (.tmp 23))] [])) (.seq (.cond (.tmp 25) [25] .skip (.exit 2)) (.seq (.block 3 (.seq (.reg false (.loud [26,27,28] [(26,.tmp 24),(28,.un (.al 2) (.bin (.idx 2) (.tmp 22) (.tmp 24)))] [] none [] false (.alloc 54) 0 (some 7) true (.loud [6] [(6,.tmp 26)] [(7,.tmp 7),(28,.tmp 28)] none [] false (.store 54 (.tmp 7) (.tmp 28)) 0 none false (.fin [] [] [])))) (.seq (.reg false (.fin [8] [(8,.con (.slice none 0 0))] [])) (.seq (.seq (.reg false (.fin [29,30,31,32] [(30,.un .load (.un (.fld 1) (.tmp 7))),(31,.un .len (.un .load (.un (.fld 1) (.tmp 7)))),(32,.con (.int .i64 0))] [])) (.block 4 (.loop L.bT.l3))) (.reg false (.loud [42,43,44,45,46,47] [(42,.tmp 1),(43,.tmp 4),(45,.bin (.arith .sub) (.con (.int .i64 (-1))) (.tmp 6))] [(47,.un .load (.un (.fld 0) (.tmp 7)))] none [] false (.buildSlice 28 1 #[(0,.tmp 47)]) 28 (some 48) true (.loud [49] [] [(42,.tmp 42),(43,.tmp 43),(45,.tmp 45),(48,.tmp 48),(49,.tmp 8)] none [] false (.call ⟨.value (.tmp 42),#[.tmp 43,.tmp 45,.tmp 48,.tmp 49],#[3,3,28,28]⟩) 0 (some 50) false (.fin [] [] [])))))))) (.reg false (.fin [51,24] [(24,.bin (.arith .add) (.tmp 24) (.con (.int .i64 1)))] [])))))
def L.bT.l4:LC:=
 (.seq (.reg false (.fin [56] [(56,.bin (.cmp .lss) (.tmp 55) (.tmp 54))] [])) (.seq (.cond (.tmp 56) [56] .skip (.exit 6)) (.seq (.block 7 (.seq (.reg false (.loud [57,58,59] [(57,.tmp 55),(59,.un (.al 5) (.bin (.idx 5) (.tmp 53) (.tmp 55)))] [] none [] false (.alloc 58) 0 (some 12) true (.loud [11] [(11,.tmp 57)] [(12,.tmp 12),(59,.tmp 59)] none [] false (.store 58 (.tmp 12) (.tmp 59)) 0 none false (.fin [] [] [])))) (.reg true (.loud [60,61,62,63,65,66] [(60,.tmp 1),(61,.tmp 4),(62,.tmp 11),(66,.un .load (.un (.fld 3) (.tmp 12)))] [(63,.un (.al 5) (.tmp 12))] none [] false (.call ⟨.value (.func 61),#[.tmp 63],#[58]⟩) 28 (some 64) true (.loud [] [] [(60,.tmp 60),(61,.tmp 61),(62,.tmp 62),(64,.tmp 64),(66,.tmp 66)] none [] true (.call ⟨.value (.tmp 60),#[.tmp 61,.tmp 62,.tmp 64,.tmp 66],#[3,3,28,28]⟩) 0 (some 67) false (.fin [] [] [])))))) (.reg false (.fin [68,55] [(55,.bin (.arith .add) (.tmp 55) (.con (.int .i64 1)))] [])))))
def L.bT.l1:LC:=
 (.seq (.reg false (.fin [17] [(17,.bin (.cmp .lss) (.tmp 16) (.tmp 15))] [])) (.seq (.cond (.tmp 17) [17] .skip (.exit 0)) (.seq (.block 1 (.seq (.reg false (.loud [18,19,20] [(18,.tmp 16),(20,.un (.al 6) (.bin (.idx 6) (.tmp 14) (.tmp 16)))] [] none [] false (.alloc 51) 0 (some 5) true (.loud [4] [(4,.tmp 18)] [(5,.tmp 5),(20,.tmp 20)] none [] false (.store 51 (.tmp 5) (.tmp 20)) 0 none false (.fin [] [] [])))) (.seq (.seq (.reg false (.fin [21,22,23,24] [(22,.un .load (.un (.fld 0) (.tmp 5))),(23,.un .len (.un .load (.un (.fld 0) (.tmp 5)))),(24,.con (.int .i64 0))] [])) (.block 2 (.loop L.bT.l2))) (.seq (.seq (.reg false (.fin [52,53,54,55] [(53,.un .load (.un (.fld 1) (.tmp 5))),(54,.un .len (.un .load (.un (.fld 1) (.tmp 5)))),(55,.con (.int .i64 0))] [])) (.block 6 (.loop L.bT.l4))) (.reg false (.loud [69,70,71,72,73,74,75,76] [] [(69,.tmp 1),(70,.tmp 4),(73,.un .len (.un .load (.un (.fld 1) (.tmp 5)))),(76,.un .load (.un (.fld 1) (.un (.fld 2) (.tmp 5))))] none [] false (.call ⟨.value (.tmp 69),#[.tmp 70,.tmp 73,.const (.slice none 0 0),.tmp 76],#[3,3,28,28]⟩) 0 (some 77) false (.fin [] [] []))))))) (.reg false (.fin [78,16] [(16,.bin (.arith .add) (.tmp 16) (.con (.int .i64 1)))] [])))))
def L.bT:LFn:=
⟨[],(.seq (.reg false (.loud [] [] [(0,.tmp 0)] none [] false (.box 24 (.tmp 0)) 0 (some 2) true (.fin [] [] []))) (.seq (.reg false (.fin [13,14,15,16] [(14,.un .load (.un (.fld 1) (.tmp 2))),(15,.un .len (.un .load (.un (.fld 1) (.tmp 2)))),(16,.con (.int .i64 0))] [])) (.block 0 (.loop L.bT.l1))))⟩
theorem E.bT:bA Try.prog Try.f39=some L.bT:=by kernel_rfl
theorem F.bT:Try.prog.funcs[N.bT]? = some Try.f39:=Try.func39
abbrev N.dH:Nat:=40
def L.dH.l1:LC:=
 (.seq (.reg false (.fin [14] [(14,.bin (.cmp .lss) (.tmp 13) (.tmp 12))] [])) (.seq (.cond (.tmp 14) [14] .skip (.exit 0)) (.seq (.block 1 (.seq (.reg false (.fin [15,16,10] [(10,.un .load (.bin (.idx 1) (.tmp 11) (.tmp 13)))] [])) (.seq (.reg false (.loud [17] [] [(17,.tmp 10)] none [] false (.call ⟨.value (.func 36),#[.tmp 17,.const (.int .i64 0),.const (.int .i64 8191)],#[3,3,3]⟩) 4 (some 18) true (.fin [] [] []))) (.cond (.tmp 18) [18] (.reg false (.loud [19,20,21,22] [] [(4,.tmp 4),(22,.bin .max (.un .load (.tmp 4)) (.bin (.arith .add) (.tmp 10) (.con (.int .i64 1))))] none [] false (.store 3 (.tmp 4) (.tmp 22)) 0 none false (.fin [] [] []))) .skip)))) (.reg false (.fin [23,13] [(13,.bin (.arith .add) (.tmp 13) (.con (.int .i64 1)))] [])))))
def L.dH:LFn:=
⟨[],(.seq (.reg false (.fin [11,12,13] [(11,.tmp 2),(12,.un .len (.tmp 2)),(13,.con (.int .i64 0))] [])) (.block 0 (.loop L.dH.l1)))⟩
theorem E.dH:bA Try.prog Try.f40=some L.dH:=by kernel_rfl
theorem F.dH:Try.prog.funcs[N.dH]? = some Try.f40:=Try.func40
end Go.Proofs.Ytfelpjfopgiabaa
namespace Go.Proofs.Ytfelpjfopgiabaa
open Go Go.Lft
set_option maxRecDepth 100000
abbrev N.bQ:Nat:=41
def L.bQ.l3:LC:=
 (.seq (.seq (.reg false (.fin [41,42,43,44,45,46,47,48,49] [(49,(.bin (.cmp .lss) (.tmp 8) (.un .len (.un .load (.un (.fld 1) (.bin (.idx 2) (.un .load (.un (.fld 0) (.tmp 5))) (.tmp 6)))))))] [])) (.cond (.tmp 49) [49] .skip (.exit 4))) (.seq (.block 5 (.reg true (.loud [52,53,54,55,56,57,58,59,60,61,62,63] [(53,.un .load (.un (.fld 3) (.tmp 7)))] [(63,(.un .load (.un (.fld 1) (.bin (.idx 2) (.un .load (.un (.fld 1) (.bin (.idx 2) (.un .load (.un (.fld 0) (.tmp 5))) (.tmp 6)))) (.tmp 8)))))] none [] false (.buildSlice 28 1 #[(0,.tmp 63)]) 28 (some 64) true (.loud [] [] [(53,.tmp 53),(64,.tmp 64)] none [] true (.call ⟨.builtin .append,#[.tmp 53,.tmp 64],#[28,28]⟩) 28 (some 65) true (.loud [66] [] [(66,.un (.fld 3) (.tmp 7)),(65,.tmp 65)] none [] false (.store 28 (.tmp 66) (.tmp 65)) 0 none false (.fin [] [] [])))))) (.reg false (.fin [50,51,8] [(8,.bin (.arith .add) (.tmp 8) (.con (.int .i64 1)))] []))))
def L.bQ.l2:LC:=
 (.seq (.seq (.reg false (.fin [23,24,25,26,27] [(27,(.bin (.cmp .lss) (.tmp 6) (.un .len (.un .load (.un (.fld 0) (.tmp 5))))))] [])) (.cond (.tmp 27) [27] .skip (.exit 2))) (.seq (.block 3 (.seq (.reg false (.loud [30,31,32,33,34,35,36,37,38] [(30,.tmp 4),(32,.bin (.arith .sub) (.con (.int .i64 (-1))) (.tmp 6))] [(38,(.un .load (.un (.fld 0) (.bin (.idx 2) (.un .load (.un (.fld 0) (.tmp 5))) (.tmp 6)))))] none [] false (.buildSlice 28 1 #[(0,.tmp 38)]) 28 (some 39) true (.loud [] [] [(30,.tmp 30),(32,.tmp 32),(39,.tmp 39)] none [] false (.build 89 #[(0,.tmp 30),(1,.tmp 32),(2,.tmp 39)]) 89 (some 40) true (.loud [] [] [] none [] false (.alloc 89) 0 (some 7) true (.loud [] [] [(7,.tmp 7),(40,.tmp 40)] none [] false (.store 89 (.tmp 7) (.tmp 40)) 0 none false (.fin [] [] [])))))) (.seq (.seq (.reg false (.fin [8] [(8,.con (.int .i64 0))] [])) (.block 4 (.loop L.bQ.l3))) (.reg false (.loud [67,68] [(67,.tmp 3)] [(68,.un (.al 4) (.tmp 7))] none [] false (.buildSlice 86 1 #[(0,.tmp 68)]) 86 (some 69) true (.loud [] [] [(67,.tmp 67),(69,.tmp 69)] none [] false (.call ⟨.builtin .append,#[.tmp 67,.tmp 69],#[86,86]⟩) 86 (some 70) true (.fin [3] [(3,.tmp 70)] []))))))) (.reg false (.fin [28,29,6] [(6,.bin (.arith .add) (.tmp 6) (.con (.int .i64 1)))] []))))
def L.bQ.l4:LC:=
 (.seq (.seq (.reg false (.fin [71,72,73,74,75] [(75,(.bin (.cmp .lss) (.tmp 9) (.un .len (.un .load (.un (.fld 1) (.tmp 5))))))] [])) (.cond (.tmp 75) [75] .skip (.exit 6))) (.seq (.block 7 (.reg true (.loud [78,79,80,81,82,83,84,85,87,88,89,90,91,92] [(78,.tmp 3),(79,.tmp 4),(80,.tmp 9),(92,(.un .load (.un (.fld 3) (.bin (.idx 5) (.un .load (.un (.fld 1) (.tmp 5))) (.tmp 9)))))] [(85,(.un (.al 5) (.bin (.idx 5) (.un .load (.un (.fld 1) (.tmp 5))) (.tmp 9))))] none [] false (.call ⟨.value (.func 27),#[.tmp 85],#[58]⟩) 28 (some 86) true (.loud [] [] [(79,.tmp 79),(80,.tmp 80),(86,.tmp 86),(92,.tmp 92)] none [] true (.build 89 #[(0,.tmp 79),(1,.tmp 80),(2,.tmp 86),(3,.tmp 92)]) 89 (some 93) true (.loud [] [] [(93,.tmp 93)] none [] false (.buildSlice 86 1 #[(0,.tmp 93)]) 86 (some 94) true (.loud [] [] [(78,.tmp 78),(94,.tmp 94)] none [] false (.call ⟨.builtin .append,#[.tmp 78,.tmp 94],#[86,86]⟩) 86 (some 95) true (.fin [3] [(3,.tmp 95)] []))))))) (.reg false (.fin [76,77,9] [(9,.bin (.arith .add) (.tmp 9) (.con (.int .i64 1)))] []))))
def L.bQ.l1:LC:=
 (.seq (.seq (.reg false (.fin [11,12,13,14,15] [(15,(.bin (.cmp .lss) (.tmp 4) (.un .len (.un .load (.un (.fld 1) (.tmp 1))))))] [])) (.cond (.tmp 15) [15] .skip (.exit 0))) (.seq (.block 1 (.seq (.reg false (.loud [18,19,20,21,22] [(22,(.un (.al 6) (.bin (.idx 6) (.un .load (.un (.fld 1) (.tmp 1))) (.tmp 4))))] [] none [] false (.alloc 51) 0 (some 5) true (.loud [] [] [(5,.tmp 5),(22,.tmp 22)] none [] false (.store 51 (.tmp 5) (.tmp 22)) 0 none false (.fin [] [] [])))) (.seq (.seq (.reg false (.fin [6] [(6,.con (.int .i64 0))] [])) (.block 2 (.loop L.bQ.l2))) (.seq (.seq (.reg false (.fin [9] [(9,.con (.int .i64 0))] [])) (.block 6 (.loop L.bQ.l4))) (.reg false (.loud [96,97,98,99,100,101,102,103] [(96,.tmp 3)] [(97,.tmp 4),(100,.un .len (.un .load (.un (.fld 1) (.tmp 5)))),(103,.un .load (.un (.fld 1) (.un (.fld 2) (.tmp 5))))] none [] false (.build 89 #[(0,.tmp 97),(1,.tmp 100),(3,.tmp 103)]) 89 (some 104) true (.loud [] [] [(104,.tmp 104)] none [] false (.buildSlice 86 1 #[(0,.tmp 104)]) 86 (some 105) true (.loud [] [] [(96,.tmp 96),(105,.tmp 105)] none [] false (.call ⟨.builtin .append,#[.tmp 96,.tmp 105],#[86,86]⟩) 86 (some 106) true (.fin [3] [(3,.tmp 106)] []))))))))) (.reg false (.fin [16,17,4] [(4,.bin (.arith .add) (.tmp 4) (.con (.int .i64 1)))] []))))
def L.bQ:LFn:=
⟨[.tmp 2],(.seq (.reg false (.loud [] [] [(0,.tmp 0)] none [] false (.box 24 (.tmp 0)) 0 (some 1) true (.fin [2] [(2,.con (.slice none 0 0))] []))) (.seq (.reg false (.loud [] [] [] none [] false (.buildSlice 86 0 #[]) 86 (some 10) true (.fin [3] [(3,.tmp 10)] []))) (.seq (.seq (.reg false (.fin [4] [(4,.con (.int .i64 0))] [])) (.block 0 (.loop L.bQ.l1))) (.seq (.reg false (.fin [107,2] [(2,.tmp 3)] [])) .ret))))⟩
theorem E.bQ:bA Try.prog Try.f41=some L.bQ:=by kernel_rfl
theorem F.bQ:Try.prog.funcs[N.bQ]? = some Try.f41:=Try.func41
abbrev N.dt:Nat:=42
def L.dt.l1:LC:=
 (.seq (.reg false (.fin [14] [(14,.bin (.cmp .lss) (.tmp 13) (.tmp 12))] [])) (.seq (.cond (.tmp 14) [14] .skip (.exit 0)) (.seq (.block 1 (.seq (.reg false (.fin [15,16,10] [(10,.un .load (.bin (.idx 1) (.tmp 11) (.tmp 13)))] [])) (.seq (.reg false (.loud [17,18,19,20] [] [(17,.tmp 10),(20,.bin (.arith .sub) (.un .len (.un .load (.tmp 4))) (.con (.int .i64 1)))] none [] false (.call ⟨.value (.func 36),#[.tmp 17,.const (.int .i64 0),.tmp 20],#[3,3,3]⟩) 4 (some 21) true (.fin [] [] []))) (.cond (.tmp 21) [21] (.reg false (.loud [22,23,24,25,26,27] [] [(27,.bin (.idx 1) (.un .load (.tmp 4)) (.tmp 10)),(26,(.bin (.arith .add) (.un .load (.bin (.idx 1) (.un .load (.tmp 4)) (.tmp 10))) (.con (.int .i64 1))))] none [] false (.store 3 (.tmp 27) (.tmp 26)) 0 none false (.fin [] [] []))) .skip)))) (.reg false (.fin [28,13] [(13,.bin (.arith .add) (.tmp 13) (.con (.int .i64 1)))] [])))))
def L.dt:LFn:=
⟨[],(.seq (.reg false (.fin [11,12,13] [(11,.tmp 3),(12,.un .len (.tmp 3)),(13,.con (.int .i64 0))] [])) (.block 0 (.loop L.dt.l1)))⟩
theorem E.dt:bA Try.prog Try.f42=some L.dt:=by kernel_rfl
theorem F.dt:Try.prog.funcs[N.dt]? = some Try.f42:=Try.func42
abbrev N.bG:Nat:=43
def L.bG.l1:LC:=
 (.seq (.reg false (.fin [18] [(18,.bin (.cmp .lss) (.tmp 17) (.tmp 16))] [])) (.seq (.cond (.tmp 18) [18] .skip (.exit 0)) (.seq (.block 1 (.seq (.reg false (.fin [19,20,12] [(12,.un .load (.bin (.idx 1) (.tmp 15) (.tmp 17)))] [])) (.seq (.reg false (.fin [21,22,23] [(23,.bin (.cmp .eql) (.tmp 12) (.un .load (.tmp 4)))] [])) (.cond (.tmp 23) [23] (.reg false (.loud [24,25,26] [(24,.un .load (.tmp 5))] [(25,.tmp 0),(26,.tmp 1)] none [] false (.build 92 #[(0,.tmp 25),(1,.tmp 26)]) 92 (some 27) true (.loud [] [] [(27,.tmp 27)] none [] false (.buildSlice 90 1 #[(0,.tmp 27)]) 90 (some 28) true (.loud [] [] [(24,.tmp 24),(28,.tmp 28)] none [] false (.call ⟨.builtin .append,#[.tmp 24,.tmp 28],#[90,90]⟩) 90 (some 29) true (.loud [] [] [(5,.tmp 5),(29,.tmp 29)] none [] false (.store 90 (.tmp 5) (.tmp 29)) 0 none false (.fin [] [] [])))))) .skip)))) (.reg false (.fin [30,17] [(17,.bin (.arith .add) (.tmp 17) (.con (.int .i64 1)))] [])))))
def L.bG.l2:LC:=
 (.seq (.reg false (.fin [34] [(34,.bin (.cmp .lss) (.tmp 33) (.tmp 32))] [])) (.seq (.cond (.tmp 34) [34] .skip (.exit 2)) (.seq (.block 3 (.seq (.reg false (.fin [35,36,14] [(14,.un .load (.bin (.idx 1) (.tmp 31) (.tmp 33)))] [])) (.seq (.reg false (.fin [37,38,39] [(39,.bin (.cmp .eql) (.tmp 14) (.un .load (.tmp 4)))] [])) (.cond (.tmp 39) [39] (.reg false (.loud [40,41,42] [(40,.un .load (.tmp 6))] [(41,.tmp 0),(42,.tmp 1)] none [] false (.build 92 #[(0,.tmp 41),(1,.tmp 42)]) 92 (some 43) true (.loud [] [] [(43,.tmp 43)] none [] false (.buildSlice 90 1 #[(0,.tmp 43)]) 90 (some 44) true (.loud [] [] [(40,.tmp 40),(44,.tmp 44)] none [] false (.call ⟨.builtin .append,#[.tmp 40,.tmp 44],#[90,90]⟩) 90 (some 45) true (.loud [] [] [(6,.tmp 6),(45,.tmp 45)] none [] false (.store 90 (.tmp 6) (.tmp 45)) 0 none false (.fin [] [] [])))))) .skip)))) (.reg false (.fin [46,33] [(33,.bin (.arith .add) (.tmp 33) (.con (.int .i64 1)))] [])))))
def L.bG:LFn:=
⟨[],(.seq (.seq (.reg false (.fin [15,16,17] [(15,.tmp 2),(16,.un .len (.tmp 2)),(17,.con (.int .i64 0))] [])) (.block 0 (.loop L.bG.l1))) (.seq (.reg false (.fin [31,32,33] [(31,.tmp 3),(32,.un .len (.tmp 3)),(33,.con (.int .i64 0))] [])) (.block 2 (.loop L.bG.l2))))⟩
theorem E.bG:bA Try.prog Try.f43=some L.bG:=by kernel_rfl
theorem F.bG:Try.prog.funcs[N.bG]? = some Try.f43:=Try.func43
abbrev N.slices_Contains_int:Nat:=44
def L.slices_Contains_int:LFn:=
⟨[.tmp 4],(.seq (.reg false (.fin [4] [(4,.con (.bool false))] [])) (.seq (.reg false (.loud [5,6] [] [(5,.tmp 0),(6,.tmp 1)] none [] false (.call ⟨.value (.func 69),#[.tmp 5,.tmp 6],#[28,3]⟩) 3 (some 7) true (.fin [8,4] [(4,.bin (.cmp .geq) (.tmp 7) (.con (.int .i64 0)))] []))) .ret))⟩
theorem E.slices_Contains_int:bA Try.prog Try.f44=some L.slices_Contains_int:=by kernel_rfl
theorem F.slices_Contains_int:Try.prog.funcs[N.slices_Contains_int]? = some Try.f44:=Try.func44
abbrev N.eP:Nat:=46
def L.eP:LFn:=
⟨[.tmp 6],(.seq (.reg false (.fin [6] [(6,.con (.int .i64 0))] [])) (.seq (.seq (.reg false (.fin [7,8,9] [(9,.bin (.cmp .lss) (.tmp 0) (.tmp 1))] [])) (.cond (.tmp 9) [9] (.seq (.reg false (.fin [10,6] [(6,.tmp 0)] [])) .ret) .skip)) (.seq (.reg false (.fin [11,12,13,6] [(6,.bin (.arith .add) (.tmp 0) (.tmp 2))] [])) .ret)))⟩
theorem E.eP:bA Try.prog Try.f46=some L.eP:=by kernel_rfl
theorem F.eP:Try.prog.funcs[N.eP]? = some Try.f46:=Try.func46
abbrev N.cm:Nat:=48
def L.cm.l2:LC:=
 (.seq (.seq (.reg false (.fin [44,45,46,47] [(47,.bin (.cmp .lss) (.tmp 9) (.un .len (.tmp 8)))] [])) (.cond (.tmp 47) [47] .skip (.exit 2))) (.seq (.block 3 (.seq (.reg false (.fin [50,51,52,53,54,55,56,57,58,59,60,61,62,63,64,65,66,67,68,69,70,71,72,73,74,75,76,77,78,79,80,81] [(81,(.ite (.ite (.ite (.bin (.cmp .geq) (.un .load (.bin (.idx 1) (.tmp 8) (.tmp 9))) (.con (.int .i64 0))) (.bin (.cmp .lss) (.un .load (.bin (.idx 1) (.tmp 8) (.tmp 9))) (.un .len (.tmp 5))) (.con (.bool false))) (.un .not (.un .load (.bin (.idx 1) (.tmp 5) (.un .load (.bin (.idx 1) (.tmp 8) (.tmp 9)))))) (.con (.bool false))) (.bin (.cmp .neq) (.un .load (.bin (.idx 1) (.tmp 8) (.tmp 9))) (.tmp 1)) (.con (.bool false))))] [])) (.cond (.tmp 81) [81] (.seq (.reg false (.loud [82,83,84,85,86,87] [] [(87,.bin (.idx 1) (.tmp 5) (.un .load (.bin (.idx 1) (.tmp 8) (.tmp 9))))] none [] false (.store 4 (.tmp 87) (.const (.bool true))) 0 none false (.fin [] [] []))) (.reg false (.loud [88,89,90,91,92] [(88,.tmp 6)] [(92,.un .load (.bin (.idx 1) (.tmp 8) (.tmp 9)))] none [] false (.buildSlice 28 1 #[(0,.tmp 92)]) 28 (some 93) true (.loud [] [] [(88,.tmp 88),(93,.tmp 93)] none [] false (.call ⟨.builtin .append,#[.tmp 88,.tmp 93],#[28,28]⟩) 28 (some 94) true (.fin [6] [(6,.tmp 94)] []))))) .skip))) (.reg false (.fin [48,49,9] [(9,.bin (.arith .add) (.tmp 9) (.con (.int .i64 1)))] []))))
def L.cm.l1:LC:=
 (.seq (.seq (.reg false (.fin [28,29,30,31] [(31,.bin (.cmp .lss) (.tmp 7) (.un .len (.tmp 6)))] [])) (.cond (.tmp 31) [31] .skip (.exit 0))) (.seq (.block 1 (.seq (.reg true (.fin [34,35,36,37,38,39,40,41,42,43,8] [(8,(.un .load (.un (.fld 2) (.un (.fld 2) (.bin (.idx 6) (.un .load (.un (.fld 1) (.tmp 2))) (.un .load (.bin (.idx 1) (.tmp 6) (.tmp 7))))))))] [])) (.seq (.reg false (.fin [9] [(9,.con (.int .i64 0))] [])) (.block 2 (.loop L.cm.l2))))) (.reg false (.fin [32,33,7] [(7,.bin (.arith .add) (.tmp 7) (.con (.int .i64 1)))] []))))
def L.cm:LFn:=
⟨[.tmp 4],(.seq (.reg false (.loud [] [] [(0,.tmp 0)] none [] false (.box 24 (.tmp 0)) 0 (some 2) true (.fin [4] [(4,.con (.slice none 0 0))] []))) (.seq (.reg false (.loud [10,11,12] [] [(12,.un .len (.un .load (.un (.fld 1) (.tmp 2)))),(12,.un .len (.un .load (.un (.fld 1) (.tmp 2))))] none [] false (.makeSlice 45 (.tmp 12) (.tmp 12)) 45 (some 13) true (.fin [5] [(5,.tmp 13)] []))) (.seq (.reg false (.loud [] [] [] none [] false (.buildSlice 28 0 #[]) 28 (some 14) true (.fin [6] [(6,.tmp 14)] []))) (.seq (.seq (.reg false (.fin [15,16,17,18,19,20,21,22] [(22,(.ite (.bin (.cmp .neq) (.tmp 1) (.con (.int .i64 0))) (.bin (.cmp .gtr) (.un .len (.un .load (.un (.fld 1) (.tmp 2)))) (.con (.int .i64 0))) (.con (.bool false))))] [])) (.cond (.tmp 22) [22] (.seq (.reg false (.loud [23,24] [] [(24,.bin (.idx 1) (.tmp 5) (.con (.int .i64 0)))] none [] false (.store 4 (.tmp 24) (.const (.bool true))) 0 none false (.fin [] [] []))) (.reg false (.loud [25] [(25,.tmp 6)] [] none [] false (.buildSlice 28 1 #[(0,.const (.int .i64 0))]) 28 (some 26) true (.loud [] [] [(25,.tmp 25),(26,.tmp 26)] none [] false (.call ⟨.builtin .append,#[.tmp 25,.tmp 26],#[28,28]⟩) 28 (some 27) true (.fin [6] [(6,.tmp 27)] []))))) .skip)) (.seq (.seq (.reg false (.fin [7] [(7,.con (.int .i64 0))] [])) (.block 0 (.loop L.cm.l1))) (.seq (.reg false (.fin [95,4] [(4,.tmp 5)] [])) .ret))))))⟩
theorem E.cm:bA Try.prog Try.f48=some L.cm:=by kernel_rfl
theorem F.cm:Try.prog.funcs[N.cm]? = some Try.f48:=Try.func48
abbrev N.df:Nat:=51
def L.df.l2:LC:=
 (.seq (.seq (.reg false (.fin [24,25,26,27] [(27,.bin (.cmp .lss) (.tmp 8) (.un .len (.tmp 7)))] [])) (.cond (.tmp 27) [27] .skip (.exit 2))) (.seq (.block 3 (.seq (.reg false (.fin [30,31,32,33,34,35] [(35,.bin (.cmp .eql) (.un .load (.bin (.idx 1) (.tmp 7) (.tmp 8))) (.tmp 1))] [])) (.cond (.tmp 35) [35] (.seq (.reg false (.loud [36,37] [(36,.tmp 5)] [(37,.tmp 6)] none [] false (.buildSlice 28 1 #[(0,.tmp 37)]) 28 (some 38) true (.loud [] [] [(36,.tmp 36),(38,.tmp 38)] none [] false (.call ⟨.builtin .append,#[.tmp 36,.tmp 38],#[28,28]⟩) 28 (some 39) true (.fin [5] [(5,.tmp 39)] [])))) (.exit 2)) .skip))) (.reg false (.fin [28,29,8] [(8,.bin (.arith .add) (.tmp 8) (.con (.int .i64 1)))] []))))
def L.df.l1:LC:=
 (.seq (.seq (.reg false (.fin [10,11,12,13,14] [(14,(.bin (.cmp .lss) (.tmp 6) (.un .len (.un .load (.un (.fld 1) (.tmp 2))))))] [])) (.cond (.tmp 14) [14] .skip (.exit 0))) (.seq (.block 1 (.seq (.reg false (.fin [17,18,19,20,21,22,23,7] [(7,(.un .load (.un (.fld 2) (.un (.fld 2) (.bin (.idx 6) (.un .load (.un (.fld 1) (.tmp 2))) (.tmp 6))))))] [])) (.seq (.reg false (.fin [8] [(8,.con (.int .i64 0))] [])) (.block 2 (.loop L.df.l2))))) (.reg false (.fin [15,16,6] [(6,.bin (.arith .add) (.tmp 6) (.con (.int .i64 1)))] []))))
def L.df:LFn:=
⟨[.tmp 4],(.seq (.reg false (.loud [] [] [(0,.tmp 0)] none [] false (.box 24 (.tmp 0)) 0 (some 2) true (.fin [4] [(4,.con (.slice none 0 0))] []))) (.seq (.reg false (.loud [] [] [] none [] false (.buildSlice 28 0 #[]) 28 (some 9) true (.fin [5] [(5,.tmp 9)] []))) (.seq (.seq (.reg false (.fin [6] [(6,.con (.int .i64 0))] [])) (.block 0 (.loop L.df.l1))) (.seq (.reg false (.fin [40,4] [(4,.tmp 5)] [])) .ret))))⟩
theorem E.df:bA Try.prog Try.f51=some L.df:=by kernel_rfl
theorem F.df:Try.prog.funcs[N.df]? = some Try.f51:=Try.func51
abbrev N.aU:Nat:=52
def L.aU.l1:LC:=
 (.seq (.seq (.reg false (.fin [14,15,16] [(16,.bin (.cmp .lss) (.tmp 6) (.tmp 1))] [])) (.cond (.tmp 16) [16] .skip (.exit 0))) (.seq (.block 1 (.seq (.reg false (.fin [19,20,7] [(7,.bin (.arith .sub) (.tmp 6) (.con (.int .i64 1)))] [])) (.seq (.seq (.reg false (.loud [21] [] [(21,.tmp 0)] none [] false (.call ⟨.value (.func 33),#[.tmp 21,.const (.int .i64 3)],#[72,3]⟩) 3 (some 22) true (.fin [23] [(23,.bin (.cmp .eql) (.tmp 22) (.con (.int .i64 0)))] []))) (.cond (.tmp 23) [23] (.reg false (.loud [24,25] [] [(24,.tmp 0),(25,.tmp 6)] none [] false (.call ⟨.value (.func 33),#[.tmp 24,.tmp 25],#[72,3]⟩) 3 (some 26) true (.fin [7] [(7,.tmp 26)] []))) .skip)) (.reg false (.loud [27,28,29,30,31,32,33] [(27,.tmp 5),(28,.tmp 7),(32,.un .load (.bin (.idx 1) (.tmp 5) (.tmp 7)))] [(33,.tmp 6)] none [] false (.buildSlice 28 1 #[(0,.tmp 33)]) 28 (some 34) true (.loud [] [] [(32,.tmp 32),(34,.tmp 34)] none [] false (.call ⟨.builtin .append,#[.tmp 32,.tmp 34],#[28,28]⟩) 28 (some 35) true (.loud [36] [] [(36,.bin (.idx 1) (.tmp 27) (.tmp 28)),(35,.tmp 35)] none [] false (.store 28 (.tmp 36) (.tmp 35)) 0 none false (.fin [] [] [])))))))) (.reg false (.fin [17,18,6] [(6,.bin (.arith .add) (.tmp 6) (.con (.int .i64 1)))] []))))
def L.aU.l3:LC:=
 (.seq (.seq (.reg false (.fin [44,45,46,47,48,49,50,51] [(51,(.ite (.bin (.cmp .lss) (.tmp 10) (.bin (.arith .sub) (.tmp 9) (.con (.int .i64 3)))) (.bin (.cmp .gtr) (.tmp 1) (.con (.int .i64 1))) (.con (.bool false))))] [])) (.cond (.tmp 51) [51] .skip (.exit 4))) (.seq (.block 5 (.seq (.reg false (.loud [54,55,56] [] [(54,.tmp 0),(56,.bin (.arith .sub) (.tmp 1) (.con (.int .i64 1)))] none [] false (.call ⟨.value (.func 33),#[.tmp 54,.tmp 56],#[72,3]⟩) 3 (some 57) true (.fin [58,11] [(11,.bin (.arith .add) (.con (.int .i64 1)) (.tmp 57))] []))) (.seq (.seq (.reg false (.loud [59,60,61,62,63] [(62,.bin (.cmp .leq) (.tmp 11) (.tmp 8))] [(63,.gd (.bin (.cmp .leq) (.tmp 11) (.tmp 8)) true (.tmp 0))] (some ((.bin (.cmp .leq) (.tmp 11) (.tmp 8)),true)) [] false (.call ⟨.value (.func 33),#[.tmp 63,.const (.int .i64 2)],#[72,3]⟩) 3 (some 64) true (.fin [65,66] [(66,.ite (.tmp 62) (.bin (.cmp .eql) (.tmp 64) (.con (.int .i64 0))) (.con (.bool false)))] []))) (.cond (.tmp 66) [66] (.reg false (.fin [67,68,69,70,71,11] [(11,.bin .min (.bin (.arith .add) (.tmp 8) (.con (.int .i64 1))) (.bin (.arith .sub) (.tmp 1) (.con (.int .i64 1))))] [])) .skip)) (.reg false (.loud [72,73,74,75,76,77,78] [(72,.tmp 5),(73,.tmp 8),(77,.un .load (.bin (.idx 1) (.tmp 5) (.tmp 8)))] [(78,.tmp 11)] none [] false (.buildSlice 28 1 #[(0,.tmp 78)]) 28 (some 79) true (.loud [] [] [(77,.tmp 77),(79,.tmp 79)] none [] false (.call ⟨.builtin .append,#[.tmp 77,.tmp 79],#[28,28]⟩) 28 (some 80) true (.loud [81] [] [(81,.bin (.idx 1) (.tmp 72) (.tmp 73)),(80,.tmp 80)] none [] false (.store 28 (.tmp 81) (.tmp 80)) 0 none false (.fin [] [] [])))))))) (.reg false (.fin [52,53,10] [(10,.bin (.arith .add) (.tmp 10) (.con (.int .i64 1)))] []))))
def L.aU.l2:LC:=
 (.seq (.seq (.reg false (.fin [37,38,39] [(39,.bin (.cmp .lss) (.tmp 8) (.tmp 1))] [])) (.cond (.tmp 39) [39] .skip (.exit 2))) (.seq (.block 3 (.seq (.reg false (.loud [42] [] [(42,.tmp 0)] none [] false (.call ⟨.value (.func 33),#[.tmp 42,.const (.int .i64 6)],#[72,3]⟩) 3 (some 43) true (.fin [9] [(9,.tmp 43)] []))) (.seq (.reg false (.fin [10] [(10,.con (.int .i64 0))] [])) (.block 4 (.loop L.aU.l3))))) (.reg false (.fin [40,41,8] [(8,.bin (.arith .add) (.tmp 8) (.con (.int .i64 1)))] []))))
def L.aU:LFn:=
⟨[.tmp 4],(.seq (.reg false (.fin [4] [(4,.con (.slice none 0 0))] [])) (.seq (.reg false (.loud [12] [] [(12,.tmp 1),(12,.tmp 1)] none [] false (.makeSlice 99 (.tmp 12) (.tmp 12)) 99 (some 13) true (.fin [5] [(5,.tmp 13)] []))) (.seq (.seq (.reg false (.fin [6] [(6,.con (.int .i64 1))] [])) (.block 0 (.loop L.aU.l1))) (.seq (.seq (.reg false (.fin [8] [(8,.con (.int .i64 0))] [])) (.block 2 (.loop L.aU.l2))) (.seq (.reg false (.fin [82,4] [(4,.tmp 5)] [])) .ret)))))⟩
theorem E.aU:bA Try.prog Try.f52=some L.aU:=by kernel_rfl
theorem F.aU:Try.prog.funcs[N.aU]? = some Try.f52:=Try.func52
abbrev N.bH:Nat:=53
def L.bH:LFn:=
⟨[.tmp 2],(.seq (.reg false (.fin [2] [(2,.con (.int .i64 0))] [])) (.seq (.reg false (.loud [3,4,5,6,7,8,9,10] [] [(10,.un (.fld 4) (.un .nilPtr (.tmp 0))),(8,(.bin (.arith .add) (.un .load (.un (.fld 4) (.un .nilPtr (.tmp 0)))) (.con (.int .i64 1))))] none [] false (.store 3 (.tmp 10) (.tmp 8)) 0 none false (.fin [] [] []))) (.seq (.reg false (.fin [11,12,13,14,15,2] [(2,(.bin (.arith .sub) (.un .load (.un (.fld 4) (.un .nilPtr (.tmp 0)))) (.con (.int .i64 1))))] [])) .ret)))⟩
theorem E.bH:bA Try.prog Try.f53=some L.bH:=by kernel_rfl
theorem F.bH:Try.prog.funcs[N.bH]? = some Try.f53:=Try.func53
abbrev N.a7:Nat:=54
def L.a7.l1:LC:=
 (.seq (.seq (.reg false (.fin [120,121,122] [(122,.bin (.cmp .lss) (.tmp 14) (.tmp 13))] [])) (.cond (.tmp 122) [122] .skip (.exit 1))) (.seq (.block 2 (.reg false (.loud [125,126,127] [(125,.tmp 12)] [(126,.tmp 0),(127,.tmp 1)] none [] false (.call ⟨.value (.func 72),#[.tmp 126,.tmp 127],#[72,3]⟩) 3 (some 128) true (.loud [] [] [(128,.tmp 128)] none [] false (.buildSlice 28 1 #[(0,.tmp 128)]) 28 (some 129) true (.loud [] [] [(125,.tmp 125),(129,.tmp 129)] none [] false (.call ⟨.builtin .append,#[.tmp 125,.tmp 129],#[28,28]⟩) 28 (some 130) true (.fin [12] [(12,.tmp 130)] [])))))) (.reg false (.fin [123,124,14] [(14,.bin (.arith .add) (.tmp 14) (.con (.int .i64 1)))] []))))
def L.a7:LFn:=
⟨[],(.seq (.reg false (.loud [18] [] [(18,.tmp 0)] none [] false (.call ⟨.value (.func 33),#[.tmp 18,.const (.int .i64 20)],#[72,3]⟩) 3 (some 19) true (.fin [4] [(4,.tmp 19)] []))) (.block 0 (.seq (.reg false (.fin [26,27,25] [(25,.bin (.cmp .lss) (.tmp 4) (.con (.int .i64 12)))] [])) (.cond (.tmp 25) [25] (.seq (.reg false (.loud [] [] [] none [] false (.build 121 #[(0,.const (.int .i64 2)),(1,.const (.int .i64 2)),(2,.const (.int .i64 3)),(3,.const (.int .i64 4)),(4,.const (.int .i64 5)),(5,.const (.int .i64 6)),(6,.const (.int .i64 7)),(7,.const (.int .i64 8)),(8,.const (.int .i64 9)),(9,.const (.int .i64 10)),(10,.const (.int .i64 12)),(11,.const (.int .i64 11))]) 121 (some 28) true (.loud [] [] [] none [] false (.alloc 121) 0 (some 5) true (.loud [] [] [(5,.tmp 5),(28,.tmp 28)] none [] false (.store 121 (.tmp 5) (.tmp 28)) 0 none false (.fin [] [] []))))) (.seq (.reg false (.loud [29,30] [] [(29,.tmp 0),(30,.tmp 1)] none [] false (.call ⟨.value (.func 72),#[.tmp 29,.tmp 30],#[72,3]⟩) 3 (some 31) true (.fin [6] [(6,.tmp 31)] []))) (.seq (.reg false (.loud [32,33] [] [(32,.tmp 0),(33,.tmp 1)] none [] false (.call ⟨.value (.func 72),#[.tmp 32,.tmp 33],#[72,3]⟩) 3 (some 34) true (.fin [7] [(7,.tmp 34)] []))) (.seq (.seq (.reg false (.loud [35] [] [(35,.tmp 0)] none [] false (.call ⟨.value (.func 33),#[.tmp 35,.const (.int .i64 3)],#[72,3]⟩) 3 (some 36) true (.fin [37] [(37,.bin (.cmp .eql) (.tmp 36) (.con (.int .i64 0)))] []))) (.cond (.tmp 37) [37] (.reg false (.loud [38,39,40] [(38,.tmp 0),(39,.tmp 1)] [(40,.tmp 0)] none [] false (.call ⟨.value (.func 33),#[.tmp 40,.const (.int .i64 40)],#[72,3]⟩) 3 (some 41) true (.loud [42,43] [] [(38,.tmp 38),(39,.tmp 39),(43,.un (.conv .i32) (.bin (.arith .sub) (.tmp 41) (.con (.int .i64 8))))] none [] false (.call ⟨.value (.func 57),#[.tmp 38,.tmp 39,.tmp 43],#[72,3,21]⟩) 3 (some 44) true (.fin [7] [(7,.tmp 44)] [])))) .skip)) (.reg true (.both (.loud [45,46,47,48,49,50,52,53] [(45,.tmp 0),(46,.tmp 1),(49,.un .load (.bin (.aidx 12 1) (.tmp 5) (.tmp 4))),(52,.tmp 6),(53,.tmp 7)] [(50,.tmp 0)] none [] false (.call ⟨.value (.func 53),#[.tmp 50],#[72]⟩) 3 (some 51) true (.loud [] [] [(52,.tmp 52),(53,.tmp 53)] none [] false (.buildSlice 28 2 #[(0,.tmp 52),(1,.tmp 53)]) 28 (some 54) true (.loud [] [] [(49,.tmp 49),(51,.tmp 51),(54,.tmp 54)] none [] true (.build 58 #[(0,.tmp 49),(1,.tmp 51),(3,.tmp 54)]) 58 (some 55) true (.loud [] [] [(45,.tmp 45),(46,.tmp 46),(55,.tmp 55)] none [] false (.call ⟨.value (.func 73),#[.tmp 45,.tmp 46,.tmp 55],#[72,3,58]⟩) 0 (some 56) false (.fin [] [] []))))) (.loud [45,46,47,48,49,50,52,53] [(45,.tmp 0),(46,.tmp 1),(49,.un .load (.bin (.aidx 12 1) (.tmp 5) (.tmp 4))),(50,.tmp 0)] [(52,.tmp 6),(53,.tmp 7)] none [] false (.buildSlice 28 2 #[(0,.tmp 52),(1,.tmp 53)]) 28 (some 54) true (.loud [] [] [(50,.tmp 50)] none [] false (.call ⟨.value (.func 53),#[.tmp 50],#[72]⟩) 3 (some 51) true (.loud [] [] [(49,.tmp 49),(51,.tmp 51),(54,.tmp 54)] none [] true (.build 58 #[(0,.tmp 49),(1,.tmp 51),(3,.tmp 54)]) 58 (some 55) true (.loud [] [] [(45,.tmp 45),(46,.tmp 46),(55,.tmp 55)] none [] false (.call ⟨.value (.func 73),#[.tmp 45,.tmp 46,.tmp 55],#[72,3,58]⟩) 0 (some 56) false (.fin [] [] []))))))))))) (.seq (.reg false (.fin [58,59,57] [(57,.bin (.cmp .eql) (.tmp 4) (.con (.int .i64 12)))] [])) (.cond (.tmp 57) [57] (.seq (.reg false (.loud [60,61] [] [(60,.tmp 0),(61,.tmp 1)] none [] false (.call ⟨.value (.func 72),#[.tmp 60,.tmp 61],#[72,3]⟩) 3 (some 62) true (.fin [8] [(8,.tmp 62)] []))) (.seq (.reg false (.loud [63,64] [] [(63,.tmp 0),(64,.tmp 1)] none [] false (.call ⟨.value (.func 72),#[.tmp 63,.tmp 64],#[72,3]⟩) 3 (some 65) true (.fin [9] [(9,.tmp 65)] []))) (.reg false (.loud [66,67,68] [(66,.tmp 0),(67,.tmp 1)] [(68,.tmp 0)] none [] false (.call ⟨.value (.func 53),#[.tmp 68],#[72]⟩) 3 (some 69) true (.loud [70,71] [] [(70,.tmp 8),(71,.tmp 9)] none [] false (.buildSlice 28 2 #[(0,.tmp 70),(1,.tmp 71)]) 28 (some 72) true (.loud [] [] [(69,.tmp 69),(72,.tmp 72)] none [] false (.build 58 #[(0,.const (.int .i64 13)),(1,.tmp 69),(3,.tmp 72)]) 58 (some 73) true (.loud [] [] [(66,.tmp 66),(67,.tmp 67),(73,.tmp 73)] none [] false (.call ⟨.value (.func 73),#[.tmp 66,.tmp 67,.tmp 73],#[72,3,58]⟩) 0 (some 74) false (.fin [] [] [])))))))) (.seq (.reg false (.fin [76,77,75] [(75,.bin (.cmp .eql) (.tmp 4) (.con (.int .i64 13)))] [])) (.cond (.tmp 75) [75] (.seq (.reg false (.loud [78,79] [] [(78,.tmp 0),(79,.tmp 1)] none [] false (.call ⟨.value (.func 72),#[.tmp 78,.tmp 79],#[72,3]⟩) 3 (some 80) true (.fin [10] [(10,.tmp 80)] []))) (.seq (.reg false (.loud [81,82,83] [(81,.tmp 0),(82,.tmp 1)] [(83,.tmp 0)] none [] false (.call ⟨.value (.func 33),#[.tmp 83,.const (.int .i64 12)],#[72,3]⟩) 3 (some 84) true (.loud [85] [] [(81,.tmp 81),(82,.tmp 82),(85,.un (.conv .i32) (.tmp 84))] none [] false (.call ⟨.value (.func 57),#[.tmp 81,.tmp 82,.tmp 85],#[72,3,21]⟩) 3 (some 86) true (.fin [11] [(11,.tmp 86)] [])))) (.seq (.seq (.reg false (.loud [87] [] [(87,.tmp 0)] none [] false (.call ⟨.value (.func 33),#[.tmp 87,.const (.int .i64 3)],#[72,3]⟩) 3 (some 88) true (.fin [89] [(89,.bin (.cmp .gtr) (.tmp 88) (.con (.int .i64 0)))] []))) (.cond (.tmp 89) [89] (.reg false (.loud [90,91,92] [(90,.tmp 0),(91,.tmp 1)] [(92,.tmp 0)] none [] false (.call ⟨.value (.func 33),#[.tmp 92,.const (.int .i64 12)],#[72,3]⟩) 3 (some 93) true (.loud [94,95] [] [(90,.tmp 90),(91,.tmp 91),(95,.bin (.arith .add) (.con (.int .i32 1)) (.un (.conv .i32) (.tmp 93)))] none [] false (.call ⟨.value (.func 57),#[.tmp 90,.tmp 91,.tmp 95],#[72,3,21]⟩) 3 (some 96) true (.fin [11] [(11,.tmp 96)] [])))) .skip)) (.reg false (.loud [97,98,99] [(97,.tmp 0),(98,.tmp 1)] [(99,.tmp 0)] none [] false (.call ⟨.value (.func 53),#[.tmp 99],#[72]⟩) 3 (some 100) true (.loud [101,102] [] [(101,.tmp 10),(102,.tmp 11)] none [] false (.buildSlice 28 2 #[(0,.tmp 101),(1,.tmp 102)]) 28 (some 103) true (.loud [] [] [(100,.tmp 100),(103,.tmp 103)] none [] false (.build 58 #[(0,.const (.int .i64 14)),(1,.tmp 100),(3,.tmp 103)]) 58 (some 104) true (.loud [] [] [(97,.tmp 97),(98,.tmp 98),(104,.tmp 104)] none [] false (.call ⟨.value (.func 73),#[.tmp 97,.tmp 98,.tmp 104],#[72,3,58]⟩) 0 (some 105) false (.fin [] [] []))))))))) (.seq (.reg false (.fin [107,108,106] [(106,.bin (.cmp .lss) (.tmp 4) (.con (.int .i64 16)))] [])) (.cond (.tmp 106) [106] (.reg false (.loud [109,110,111,112] [] [(109,.tmp 0),(110,.tmp 1),(112,.bin (.cmp .eql) (.tmp 4) (.con (.int .i64 15)))] none [] false (.call ⟨.value (.func 74),#[.tmp 109,.tmp 110,.tmp 112],#[72,3,4]⟩) 0 (some 113) false (.fin [] [] []))) (.seq (.reg false (.fin [115,116,114] [(114,.bin (.cmp .eql) (.tmp 4) (.con (.int .i64 16)))] [])) (.cond (.tmp 114) [114] (.seq (.reg false (.loud [] [] [] none [] false (.buildSlice 28 0 #[]) 28 (some 117) true (.fin [12] [(12,.tmp 117)] []))) (.seq (.reg false (.loud [118] [] [(118,.tmp 0)] none [] false (.call ⟨.value (.func 33),#[.tmp 118,.const (.int .i64 5)],#[72,3]⟩) 3 (some 119) true (.fin [13] [(13,.tmp 119)] []))) (.seq (.seq (.reg false (.fin [14] [(14,.con (.int .i64 0))] [])) (.block 1 (.loop L.a7.l1))) (.reg false (.loud [131,132,133] [(131,.tmp 0),(132,.tmp 1)] [(133,.tmp 0)] none [] false (.call ⟨.value (.func 53),#[.tmp 133],#[72]⟩) 3 (some 134) true (.loud [135,136] [(135,.tmp 12)] [(136,.tmp 0)] none [] false (.call ⟨.value (.func 33),#[.tmp 136,.const (.int .i64 5)],#[72,3]⟩) 3 (some 137) true (.loud [138] [] [(134,.tmp 134),(135,.tmp 135),(138,.un (.conv .i32) (.tmp 137))] none [] false (.build 58 #[(0,.const (.int .i64 17)),(1,.tmp 134),(3,.tmp 135),(4,.tmp 138)]) 58 (some 139) true (.loud [] [] [(131,.tmp 131),(132,.tmp 132),(139,.tmp 139)] none [] false (.call ⟨.value (.func 73),#[.tmp 131,.tmp 132,.tmp 139],#[72,3,58]⟩) 0 (some 140) false (.fin [] [] []))))))))) (.seq (.reg false (.fin [142,143,141] [(141,.bin (.cmp .eql) (.tmp 4) (.con (.int .i64 17)))] [])) (.cond (.tmp 141) [141] (.seq (.reg false (.loud [144,145] [] [(144,.tmp 0),(145,.tmp 1)] none [] false (.call ⟨.value (.func 72),#[.tmp 144,.tmp 145],#[72,3]⟩) 3 (some 146) true (.fin [15] [(15,.tmp 146)] []))) (.seq (.reg false (.loud [147,148] [] [(147,.tmp 0),(148,.tmp 1)] none [] false (.call ⟨.value (.func 72),#[.tmp 147,.tmp 148],#[72,3]⟩) 3 (some 149) true (.fin [16] [(16,.tmp 149)] []))) (.seq (.reg false (.loud [150] [] [(150,.tmp 0)] none [] false (.call ⟨.value (.func 53),#[.tmp 150],#[72]⟩) 3 (some 151) true (.fin [17] [(17,.tmp 151)] []))) (.reg false (.loud [152,153,154,155] [(152,.tmp 0),(153,.tmp 1),(154,.tmp 17)] [(155,.tmp 0)] none [] false (.call ⟨.value (.func 53),#[.tmp 155],#[72]⟩) 3 (some 156) true (.loud [157,158] [] [(157,.tmp 15),(158,.tmp 16)] none [] false (.buildSlice 28 2 #[(0,.tmp 157),(1,.tmp 158)]) 28 (some 159) true (.loud [] [] [(154,.tmp 154),(156,.tmp 156),(159,.tmp 159)] none [] false (.build 58 #[(0,.const (.int .i64 18)),(1,.tmp 154),(2,.tmp 156),(3,.tmp 159)]) 58 (some 160) true (.loud [] [] [(152,.tmp 152),(153,.tmp 153),(160,.tmp 160)] none [] false (.call ⟨.value (.func 73),#[.tmp 152,.tmp 153,.tmp 160],#[72,3,58]⟩) 0 (some 161) false (.fin [] [] []))))))))) (.reg false (.loud [20,21,22] [(20,.tmp 0),(21,.tmp 1)] [(22,.tmp 0)] none [] false (.call ⟨.value (.func 58),#[.tmp 22],#[72]⟩) 21 (some 23) true (.loud [] [] [(20,.tmp 20),(21,.tmp 21),(23,.tmp 23)] none [] false (.call ⟨.value (.func 57),#[.tmp 20,.tmp 21,.tmp 23],#[72,3,21]⟩) 3 (some 24) false (.fin [] [] []))))))))))))))))))⟩
theorem E.a7:bA Try.prog Try.f54=some L.a7:=by kernel_rfl
theorem F.a7:Try.prog.funcs[N.a7]? = some Try.f54:=Try.func54
end Go.Proofs.Ytfelpjfopgiabaa
namespace Go.Proofs.Ytfelpjfopgiabaa
open Go Go.Lft
set_option maxRecDepth 100000
abbrev N.da:Nat:=55
def L.da:LFn:=
⟨[],(.seq (.reg false (.loud [] [] [] none [] false (.build 49 #[]) 49 (some 15) true (.loud [] [] [] none [] false (.alloc 49) 0 (some 6) true (.loud [] [] [(6,.tmp 6),(15,.tmp 15)] none [] false (.store 49 (.tmp 6) (.tmp 15)) 0 none false (.fin [] [] []))))) (.seq (.seq (.reg false (.fin [16,17] [(17,.un .len (.tmp 2))] [])) (.block 0 (.seq (.reg false (.fin [41,40] [(40,.bin (.cmp .eql) (.tmp 17) (.con (.int .i64 0)))] [])) (.cond (.tmp 40) [40] (.seq (.reg false (.loud [42] [] [(42,.un (.fld 0) (.tmp 6))] none [] false (.store 3 (.tmp 42) (.const (.int .i64 4))) 0 none false (.fin [] [] []))) (.seq (.reg false (.loud [43] [] [(43,.tmp 0)] none [] false (.call ⟨.value (.func 33),#[.tmp 43,.const (.int .i64 8)],#[72,3]⟩) 3 (some 44) true (.fin [7] [(7,.tmp 44)] []))) (.seq (.reg false (.fin [45,46] [(46,.bin (.cmp .eql) (.tmp 7) (.con (.int .i64 0)))] [])) (.cond (.tmp 46) [46] (.seq (.reg false (.loud [47] [] [(47,.un (.fld 0) (.tmp 6))] none [] false (.store 3 (.tmp 47) (.const (.int .i64 5))) 0 none false (.fin [] [] []))) (.reg false (.loud [48] [] [(48,.tmp 0)] none [] false (.call ⟨.value (.func 33),#[.tmp 48,.const (.int .i64 200)],#[72,3]⟩) 3 (some 49) true (.loud [50,51] [] [(51,.un (.fld 3) (.tmp 6)),(50,.un (.conv .i32) (.tmp 49))] none [] false (.store 21 (.tmp 51) (.tmp 50)) 0 none false (.fin [] [] []))))) (.seq (.reg false (.fin [52,53] [(53,.bin (.cmp .gtr) (.tmp 7) (.con (.int .i64 1)))] [])) (.cond (.tmp 53) [53] (.reg false (.loud [54,55] [] [(54,.tmp 0),(55,.tmp 1)] none [] false (.call ⟨.value (.func 72),#[.tmp 54,.tmp 55],#[72,3]⟩) 3 (some 56) true (.loud [] [] [(56,.tmp 56)] none [] false (.buildSlice 28 1 #[(0,.tmp 56)]) 28 (some 57) true (.loud [58] [] [(58,.un (.fld 1) (.tmp 6)),(57,.tmp 57)] none [] false (.store 28 (.tmp 58) (.tmp 57)) 0 none false (.fin [] [] []))))) .skip)))))) (.seq (.reg false (.fin [60,59] [(59,.bin (.cmp .eql) (.tmp 17) (.con (.int .i64 1)))] [])) (.cond (.tmp 59) [59] (.seq (.reg false (.loud [61] [] [(61,.un (.fld 0) (.tmp 6))] none [] false (.store 3 (.tmp 61) (.const (.int .i64 1))) 0 none false (.fin [] [] []))) (.reg false (.loud [62,63] [] [(63,.un (.fld 2) (.tmp 6)),(62,.tmp 2)] none [] false (.store 28 (.tmp 63) (.tmp 62)) 0 none false (.fin [] [] [])))) (.seq (.reg false (.fin [65,64] [(64,.bin (.cmp .eql) (.tmp 17) (.con (.int .i64 2)))] [])) (.cond (.tmp 64) [64] (.seq (.reg false (.loud [66] [] [(66,.un (.fld 0) (.tmp 6))] none [] false (.store 3 (.tmp 66) (.const (.int .i64 2))) 0 none false (.fin [] [] []))) (.seq (.reg false (.loud [67,68] [] [(68,.un (.fld 2) (.tmp 6)),(67,.tmp 2)] none [] false (.store 28 (.tmp 68) (.tmp 67)) 0 none false (.fin [] [] []))) (.seq (.reg false (.loud [69,70] [] [(69,.tmp 0),(70,.tmp 1)] none [] false (.call ⟨.value (.func 72),#[.tmp 69,.tmp 70],#[72,3]⟩) 3 (some 71) true (.fin [8] [(8,.tmp 71)] []))) (.seq (.seq (.reg false (.loud [72] [] [(72,.tmp 0)] none [] false (.call ⟨.value (.func 33),#[.tmp 72,.const (.int .i64 2)],#[72,3]⟩) 3 (some 73) true (.fin [74] [(74,.bin (.cmp .eql) (.tmp 73) (.con (.int .i64 0)))] []))) (.cond (.tmp 74) [74] (.seq (.reg false (.loud [] [] [] none [] false (.build 32 #[(0,.const (.int .i64 11)),(1,.const (.int .i64 12)),(2,.const (.int .i64 13))]) 32 (some 75) true (.loud [] [] [] none [] false (.alloc 32) 0 (some 9) true (.loud [] [] [(9,.tmp 9),(75,.tmp 75)] none [] false (.store 32 (.tmp 9) (.tmp 75)) 0 none false (.fin [] [] []))))) (.seq (.reg false (.loud [76,77] [] [(76,.tmp 0),(77,.tmp 1)] none [] false (.call ⟨.value (.func 72),#[.tmp 76,.tmp 77],#[72,3]⟩) 3 (some 78) true (.fin [10] [(10,.tmp 78)] []))) (.seq (.reg false (.loud [79] [] [(79,.tmp 0)] none [] false (.call ⟨.value (.func 53),#[.tmp 79],#[72]⟩) 3 (some 80) true (.fin [11] [(11,.tmp 80)] []))) (.seq (.reg false (.loud [81,82,83] [(81,.tmp 0),(82,.tmp 1)] [(83,.tmp 0)] none [] false (.call ⟨.value (.func 33),#[.tmp 83,.const (.int .i64 3)],#[72,3]⟩) 3 (some 84) true (.loud [85,86,87,88,89] [(86,.un .load (.bin (.aidx 3 1) (.tmp 9) (.tmp 84))),(87,.tmp 11)] [(88,.tmp 8),(89,.tmp 10)] none [] false (.buildSlice 28 2 #[(0,.tmp 88),(1,.tmp 89)]) 28 (some 90) true (.loud [] [] [(86,.tmp 86),(87,.tmp 87),(90,.tmp 90)] none [] false (.build 58 #[(0,.tmp 86),(1,.tmp 87),(3,.tmp 90)]) 58 (some 91) true (.loud [] [] [(81,.tmp 81),(82,.tmp 82),(91,.tmp 91)] none [] false (.call ⟨.value (.func 73),#[.tmp 81,.tmp 82,.tmp 91],#[72,3,58]⟩) 0 (some 92) false (.fin [] [] [])))))) (.reg false (.fin [93,8] [(8,.tmp 11)] [])))))) .skip)) (.reg false (.loud [94] [] [(94,.tmp 8)] none [] false (.buildSlice 28 1 #[(0,.tmp 94)]) 28 (some 95) true (.loud [96] [] [(96,.un (.fld 1) (.tmp 6)),(95,.tmp 95)] none [] false (.store 28 (.tmp 96) (.tmp 95)) 0 none false (.fin [] [] [])))))))) (.seq (.reg false (.loud [18] [] [(18,.un (.fld 0) (.tmp 6))] none [] false (.store 3 (.tmp 18) (.const (.int .i64 3))) 0 none false (.fin [] [] []))) (.seq (.reg false (.loud [19,20] [] [(20,.un (.fld 2) (.tmp 6)),(19,.tmp 2)] none [] false (.store 28 (.tmp 20) (.tmp 19)) 0 none false (.fin [] [] []))) (.seq (.reg false (.loud [21,22] [] [(21,.tmp 0),(22,.tmp 1)] none [] false (.call ⟨.value (.func 72),#[.tmp 21,.tmp 22],#[72,3]⟩) 3 (some 23) true (.fin [12] [(12,.tmp 23)] []))) (.seq (.reg false (.loud [24,25] [] [(24,.tmp 0),(25,.tmp 1)] none [] false (.call ⟨.value (.func 57),#[.tmp 24,.tmp 25,.const (.int .i32 7)],#[72,3,21]⟩) 3 (some 26) true (.fin [13] [(13,.tmp 26)] []))) (.seq (.reg false (.loud [27] [] [(27,.tmp 0)] none [] false (.call ⟨.value (.func 53),#[.tmp 27],#[72]⟩) 3 (some 28) true (.fin [14] [(14,.tmp 28)] []))) (.seq (.reg false (.loud [29,30,31,32,33] [(29,.tmp 0),(30,.tmp 1),(31,.tmp 14)] [(32,.tmp 12),(33,.tmp 13)] none [] false (.buildSlice 28 2 #[(0,.tmp 32),(1,.tmp 33)]) 28 (some 34) true (.loud [] [] [(31,.tmp 31),(34,.tmp 34)] none [] false (.build 58 #[(0,.const (.int .i64 5)),(1,.tmp 31),(3,.tmp 34)]) 58 (some 35) true (.loud [] [] [(29,.tmp 29),(30,.tmp 30),(35,.tmp 35)] none [] false (.call ⟨.value (.func 73),#[.tmp 29,.tmp 30,.tmp 35],#[72,3,58]⟩) 0 (some 36) false (.fin [] [] []))))) (.reg false (.loud [37] [] [(37,.tmp 14)] none [] false (.buildSlice 28 1 #[(0,.tmp 37)]) 28 (some 38) true (.loud [39] [] [(39,.un (.fld 1) (.tmp 6)),(38,.tmp 38)] none [] false (.store 28 (.tmp 39) (.tmp 38)) 0 none false (.fin [] [] [])))))))))))))))))) (.reg true (.loud [97,98,99,100,101,102,103,104,105] [] [(105,(.un (.fld 2) (.bin (.idx 6) (.un .load (.un (.fld 1) (.un (.fld 2) (.un .nilPtr (.tmp 0))))) (.tmp 1)))),(103,.un (.al 4) (.tmp 6))] none [] true (.store 49 (.tmp 105) (.tmp 103)) 0 none false (.fin [] [] [])))))⟩
theorem E.da:bA Try.prog Try.f55=some L.da:=by kernel_rfl
theorem F.da:Try.prog.funcs[N.da]? = some Try.f55:=Try.func55
abbrev N.cd:Nat:=56
def L.cd.l1:LC:=
 (.seq (.seq (.reg false (.fin [12,13,14,15] [(15,.bin (.cmp .lss) (.tmp 6) (.un .load (.un (.fld 0) (.tmp 2))))] [])) (.cond (.tmp 15) [15] .skip (.exit 0))) (.seq (.block 1 (.reg false (.loud [18,19] [(18,.tmp 5)] [(19,.tmp 6)] none [] false (.buildSlice 28 1 #[(0,.tmp 19)]) 28 (some 20) true (.loud [] [] [(18,.tmp 18),(20,.tmp 20)] none [] false (.call ⟨.builtin .append,#[.tmp 18,.tmp 20],#[28,28]⟩) 28 (some 21) true (.fin [5] [(5,.tmp 21)] []))))) (.reg false (.fin [16,17,6] [(6,.bin (.arith .add) (.tmp 6) (.con (.int .i64 1)))] []))))
def L.cd.l2:LC:=
 (.seq (.seq (.reg false (.fin [24,25,26,27] [(27,.bin (.cmp .lss) (.tmp 8) (.un .len (.tmp 7)))] [])) (.cond (.tmp 27) [27] .skip (.exit 2))) (.seq (.block 3 (.seq (.reg false (.fin [9] [(9,.con (.bool true))] [])) (.seq (.seq (.reg false (.fin [30,31,32,33,34,35,36] [(36,(.bin (.cmp .neq) (.un .load (.un (.fld 0) (.bin (.idx 4) (.tmp 7) (.tmp 8)))) (.tmp 1)))] [])) (.cond (.tmp 36) [36] (.seq (.reg true (.loud [37,38,39,40,41,42] [] [(37,.un (.al 2) (.tmp 2)),(42,.un .load (.un (.fld 0) (.bin (.idx 4) (.tmp 7) (.tmp 8))))] none [] true (.call ⟨.value (.func 48),#[.tmp 37,.tmp 42],#[24,3]⟩) 45 (some 43) true (.fin [10] [(10,.tmp 43)] []))) (.reg false (.fin [44,45,46,47,48,9] [(9,.un .not (.un .load (.bin (.idx 1) (.tmp 10) (.tmp 1))))] []))) .skip)) (.seq (.reg false (.fin [49] [(49,.tmp 9)] [])) (.cond (.tmp 49) [49] (.reg false (.loud [50,51,52,53,54,55] [] [(50,.tmp 5),(55,.un .load (.un (.fld 2) (.bin (.idx 4) (.tmp 7) (.tmp 8))))] none [] false (.call ⟨.builtin .append,#[.tmp 50,.tmp 55],#[28,28]⟩) 28 (some 56) true (.fin [5] [(5,.tmp 56)] []))) .skip))))) (.reg false (.fin [28,29,8] [(8,.bin (.arith .add) (.tmp 8) (.con (.int .i64 1)))] []))))
def L.cd:LFn:=
⟨[.tmp 4],(.seq (.reg false (.loud [] [] [(0,.tmp 0)] none [] false (.box 24 (.tmp 0)) 0 (some 2) true (.fin [4] [(4,.con (.slice none 0 0))] []))) (.seq (.reg false (.loud [] [] [] none [] false (.buildSlice 28 0 #[]) 28 (some 11) true (.fin [5] [(5,.tmp 11)] []))) (.seq (.seq (.reg false (.fin [6] [(6,.con (.int .i64 0))] [])) (.block 0 (.loop L.cd.l1))) (.seq (.reg false (.loud [22] [] [(22,.un (.al 2) (.tmp 2))] none [] false (.call ⟨.value (.func 41),#[.tmp 22],#[24]⟩) 86 (some 23) true (.fin [7] [(7,.tmp 23)] []))) (.seq (.seq (.reg false (.fin [8] [(8,.con (.int .i64 0))] [])) (.block 2 (.loop L.cd.l2))) (.seq (.reg false (.fin [57,4] [(4,.tmp 5)] [])) .ret))))))⟩
theorem E.cd:bA Try.prog Try.f56=some L.cd:=by kernel_rfl
theorem F.cd:Try.prog.funcs[N.cd]? = some Try.f56:=Try.func56
abbrev N.bC:Nat:=57
def L.bC:LFn:=
⟨[.tmp 6],(.seq (.reg false (.fin [6] [(6,.con (.int .i64 0))] [])) (.seq (.reg false (.loud [8] [] [(8,.tmp 0)] none [] false (.call ⟨.value (.func 53),#[.tmp 8],#[72]⟩) 3 (some 9) true (.fin [7] [(7,.tmp 9)] []))) (.seq (.reg false (.loud [10,11,12,13] [(10,.tmp 0),(11,.tmp 1)] [(12,.tmp 7),(13,.tmp 2)] none [] false (.build 58 #[(0,.const (.int .i64 1)),(1,.tmp 12),(4,.tmp 13)]) 58 (some 14) true (.loud [] [] [(10,.tmp 10),(11,.tmp 11),(14,.tmp 14)] none [] false (.call ⟨.value (.func 73),#[.tmp 10,.tmp 11,.tmp 14],#[72,3,58]⟩) 0 (some 15) false (.fin [] [] [])))) (.seq (.reg false (.fin [16,6] [(6,.tmp 7)] [])) .ret))))⟩
theorem E.bC:bA Try.prog Try.f57=some L.bC:=by kernel_rfl
theorem F.bC:Try.prog.funcs[N.bC]? = some Try.f57:=Try.func57
abbrev N.cC:Nat:=58
def L.cC:LFn:=
⟨[.tmp 2],(.seq (.reg false (.fin [2] [(2,.con (.int .i32 0))] [])) (.seq (.reg false (.loud [4] [] [(4,.tmp 0)] none [] false (.call ⟨.value (.func 33),#[.tmp 4,.const (.int .i64 1048576)],#[72,3]⟩) 3 (some 5) true (.fin [3] [(3,.tmp 5)] []))) (.seq (.seq (.reg false (.loud [6] [] [(6,.tmp 0)] none [] false (.call ⟨.value (.func 33),#[.tmp 6,.const (.int .i64 8)],#[72,3]⟩) 3 (some 7) true (.fin [] [] []))) (.block 0 (.seq (.reg false (.fin [9,8] [(8,.bin (.cmp .eql) (.tmp 7) (.con (.int .i64 0)))] [])) (.cond (.tmp 8) [8] (.seq (.reg false (.fin [10,11,12,2] [(2,.un (.conv .i32) (.bin (.arith .mul) (.tmp 3) (.con (.int .i64 4099))))] [])) .ret) (.seq (.reg false (.fin [14,13] [(13,.bin (.cmp .eql) (.tmp 7) (.con (.int .i64 1)))] [])) (.cond (.tmp 13) [13] (.seq (.reg false (.loud [15] [] [(15,.tmp 3)] none [] false (.unOp .neg 3 (.tmp 15)) 3 (some 16) true (.fin [17,2] [(2,.un (.conv .i32) (.tmp 16))] []))) .ret) (.seq (.reg false (.fin [19,18] [(18,.bin (.cmp .eql) (.tmp 7) (.con (.int .i64 2)))] [])) (.cond (.tmp 18) [18] (.seq (.reg false (.fin [2] [(2,.con (.int .i32 (-2147483648)))] [])) .ret) (.seq (.reg false (.fin [21,20] [(20,.bin (.cmp .eql) (.tmp 7) (.con (.int .i64 3)))] [])) (.cond (.tmp 20) [20] (.seq (.reg false (.fin [22,23,24,2] [(2,.un (.conv .i32) (.bin (.div .rem) (.tmp 3) (.con (.int .i64 70000))))] [])) .ret) .skip)))))))))) (.seq (.reg false (.fin [25,26,27,28,2] [(2,(.un (.conv .i32) (.bin (.arith .sub) (.bin (.div .rem) (.tmp 3) (.con (.int .i64 20))) (.con (.int .i64 4)))))] [])) .ret))))⟩
theorem E.cC:bA Try.prog Try.f58=some L.cC:=by kernel_rfl
theorem F.cC:Try.prog.funcs[N.cC]? = some Try.f58:=Try.func58
abbrev N.bE:Nat:=59
def L.bE.l1:LC:=
 (.seq (.reg false (.fin [15] [(15,.bin (.cmp .lss) (.tmp 14) (.tmp 13))] [])) (.seq (.cond (.tmp 15) [15] .skip (.exit 0)) (.seq (.block 1 (.seq (.reg false (.fin [16,17,9] [(9,.un .load (.bin (.idx 1) (.tmp 12) (.tmp 14)))] [])) (.reg false (.loud [18,19,20,21] [] [(18,.tmp 0),(19,.tmp 9),(20,.tmp 2),(21,.tmp 3)] none [] false (.call ⟨.value (.func 75),#[.tmp 18,.tmp 19,.tmp 20,.tmp 21],#[80,3,3,3]⟩) 0 (some 22) false (.fin [] [] []))))) (.reg false (.fin [23,14] [(14,.bin (.arith .add) (.tmp 14) (.con (.int .i64 1)))] [])))))
def L.bE.l2:LC:=
 (.seq (.reg false (.fin [27] [(27,.bin (.cmp .lss) (.tmp 26) (.tmp 25))] [])) (.seq (.cond (.tmp 27) [27] .skip (.exit 2)) (.seq (.block 3 (.seq (.reg false (.fin [28,29,11] [(11,.un .load (.bin (.idx 1) (.tmp 24) (.tmp 26)))] [])) (.reg false (.loud [30,31,32,33] [] [(30,.tmp 0),(31,.tmp 11),(32,.tmp 2),(33,.tmp 3)] none [] false (.call ⟨.value (.func 76),#[.tmp 30,.tmp 31,.tmp 32,.tmp 33],#[80,3,3,3]⟩) 0 (some 34) false (.fin [] [] []))))) (.reg false (.fin [35,26] [(26,.bin (.arith .add) (.tmp 26) (.con (.int .i64 1)))] [])))))
def L.bE:LFn:=
⟨[],(.seq (.seq (.reg false (.fin [12,13,14] [(12,.tmp 1),(13,.un .len (.tmp 1)),(14,.con (.int .i64 0))] [])) (.block 0 (.loop L.bE.l1))) (.seq (.reg false (.fin [24,25,26] [(24,.tmp 1),(25,.un .len (.tmp 1)),(26,.con (.int .i64 0))] [])) (.block 2 (.loop L.bE.l2))))⟩
theorem E.bE:bA Try.prog Try.f59=some L.bE:=by kernel_rfl
theorem F.bE:Try.prog.funcs[N.bE]? = some Try.f59:=Try.func59
abbrev N.dv:Nat:=60
def L.dv:LFn:=
⟨[.tmp 2,.tmp 3],(.seq (.reg false (.fin [2,3] [(2,.con (.int .i64 0)),(3,.con (.int .i64 0))] [])) (.seq (.seq (.reg false (.fin [4] [(4,.tmp 0)] [])) (.block 0 (.seq (.reg false (.fin [6,5] [(5,.bin (.cmp .eql) (.tmp 4) (.con (.int .i64 1)))] [])) (.cond (.tmp 5) [5] (.seq (.reg false (.fin [2,3] [(2,.con (.int .i64 0)),(3,.con (.int .i64 0))] [])) .ret) (.seq (.reg false (.fin [8,7] [(7,.bin (.cmp .eql) (.tmp 4) (.con (.int .i64 15)))] [])) (.cond (.tmp 7) [7] (.seq (.reg false (.fin [2,3] [(2,.con (.int .i64 1)),(3,.con (.int .i64 1))] [])) .ret) (.seq (.reg false (.fin [10,9] [(9,.bin (.cmp .eql) (.tmp 4) (.con (.int .i64 17)))] [])) (.cond (.tmp 9) [9] (.seq (.reg false (.fin [2,3] [(2,.con (.int .i64 0)),(3,.con (.int .i64 4))] [])) .ret) .skip)))))))) (.seq (.reg false (.fin [2,3] [(2,.con (.int .i64 2)),(3,.con (.int .i64 2))] [])) .ret)))⟩
theorem E.dv:bA Try.prog Try.f60=some L.dv:=by kernel_rfl
theorem F.dv:Try.prog.funcs[N.dv]? = some Try.f60:=Try.func60
abbrev N.eK:Nat:=61
def L.eK:LFn:=
⟨[.tmp 2],(.seq (.reg false (.loud [] [] [(0,.tmp 0)] none [] false (.box 58 (.tmp 0)) 0 (some 1) true (.fin [2] [(2,.con (.slice none 0 0))] []))) (.seq (.seq (.reg false (.fin [3,4] [(4,.un .load (.un (.fld 0) (.tmp 1)))] [])) (.block 0 (.seq (.reg false (.fin [6,5] [(5,.bin (.cmp .eql) (.tmp 4) (.con (.int .i64 16)))] [])) (.cond (.tmp 5) [5] (.seq (.reg false (.fin [2] [(2,.con (.slice none 0 0))] [])) .ret) (.seq (.reg false (.fin [8,7] [(7,.bin (.cmp .eql) (.tmp 4) (.con (.int .i64 18)))] [])) (.cond (.tmp 7) [7] (.seq (.reg false (.loud [9,10,11,12] [] [(10,.un .load (.un (.fld 1) (.tmp 1))),(12,.un .load (.un (.fld 2) (.tmp 1)))] none [] false (.buildSlice 28 2 #[(0,.tmp 10),(1,.tmp 12)]) 28 (some 13) true (.fin [2] [(2,.tmp 13)] []))) .ret) .skip)))))) (.seq (.reg false (.loud [14,15] [] [(15,.un .load (.un (.fld 1) (.tmp 1)))] none [] false (.buildSlice 28 1 #[(0,.tmp 15)]) 28 (some 16) true (.fin [2] [(2,.tmp 16)] []))) .ret)))⟩
theorem E.eK:bA Try.prog Try.f61=some L.eK:=by kernel_rfl
theorem F.eK:Try.prog.funcs[N.eK]? = some Try.f61:=Try.func61
abbrev N.dX:Nat:=62
def L.dX:LFn:=
⟨[.tmp 0],(.seq (.reg false (.fin [0] [(0,.con (.map none))] [])) (.seq (.reg false (.loud [] [] [] none [] false (.makeMap 112 none) 112 (some 1) true (.loud [] [] [] none [] false (.build 110 #[(0,.const (.int .i64 0)),(1,.const (.int .i64 0)),(2,.const (.int .i64 1)),(3,.const (.int .i64 1))]) 110 (some 2) true (.loud [] [] [(1,.tmp 1),(2,.tmp 2)] none [] false (.insert 112 (.tmp 1) (.const (.int .i64 1)) (.tmp 2)) 0 none false (.loud [] [] [] none [] false (.build 110 #[(0,.const (.int .i64 1)),(1,.const (.int .i64 1)),(2,.const (.int .i64 2)),(3,.const (.int .i64 2))]) 110 (some 3) true (.loud [] [] [(1,.tmp 1),(3,.tmp 3)] none [] false (.insert 112 (.tmp 1) (.const (.int .i64 2)) (.tmp 3)) 0 none false (.loud [] [] [] none [] false (.build 110 #[(0,.const (.int .i64 1)),(1,.const (.int .i64 1)),(2,.const (.int .i64 2)),(3,.const (.int .i64 65))]) 110 (some 4) true (.loud [] [] [(1,.tmp 1),(4,.tmp 4)] none [] false (.insert 112 (.tmp 1) (.const (.int .i64 3)) (.tmp 4)) 0 none false (.loud [] [] [] none [] false (.build 110 #[(0,.const (.int .i64 0)),(1,.const (.int .i64 1)),(2,.const (.int .i64 0)),(3,.const (.int .i64 0))]) 110 (some 5) true (.loud [] [] [(1,.tmp 1),(5,.tmp 5)] none [] false (.insert 112 (.tmp 1) (.const (.int .i64 4)) (.tmp 5)) 0 none false (.loud [] [] [] none [] false (.build 110 #[(0,.const (.int .i64 0)),(1,.const (.int .i64 0)),(2,.const (.int .i64 0)),(3,.const (.int .i64 0))]) 110 (some 6) true (.loud [] [] [(1,.tmp 1),(6,.tmp 6)] none [] false (.insert 112 (.tmp 1) (.const (.int .i64 5)) (.tmp 6)) 0 none false (.fin [7,0] [(0,.tmp 1)] []))))))))))))) .ret))⟩
theorem E.dX:bA Try.prog Try.f62=some L.dX:=by kernel_rfl
theorem F.dX:Try.prog.funcs[N.dX]? = some Try.f62:=Try.func62
abbrev N.gg:Nat:=63
def L.gg.l1:LC:=
 (.seq (.reg false (.fin [14] [(14,.bin (.cmp .lss) (.tmp 13) (.tmp 12))] [])) (.seq (.cond (.tmp 14) [14] .skip (.exit 0)) (.seq (.block 1 (.seq (.reg false (.loud [15,16,17] [(15,.tmp 13),(17,.un (.al 6) (.bin (.idx 6) (.tmp 11) (.tmp 13)))] [] none [] false (.alloc 51) 0 (some 5) true (.loud [4] [(4,.tmp 15)] [(5,.tmp 5),(17,.tmp 17)] none [] false (.store 51 (.tmp 5) (.tmp 17)) 0 none false (.fin [] [] [])))) (.reg false (.loud [18,19,20,21,22,23,24,25] [(18,.tmp 3),(19,.tmp 4)] [(22,.un .load (.un (.fld 2) (.un (.fld 2) (.tmp 5)))),(25,.un .len (.un .load (.un (.fld 1) (.tmp 1))))] none [] false (.call ⟨.value (.func 77),#[.tmp 22,.tmp 25],#[28,3]⟩) 28 (some 26) true (.loud [27] [] [(27,.bin (.idx 1) (.tmp 18) (.tmp 19)),(26,.tmp 26)] none [] false (.store 28 (.tmp 27) (.tmp 26)) 0 none false (.fin [] [] [])))))) (.reg false (.fin [28,13] [(13,.bin (.arith .add) (.tmp 13) (.con (.int .i64 1)))] [])))))
def L.gg:LFn:=
⟨[.tmp 2],(.seq (.reg false (.loud [] [] [(0,.tmp 0)] none [] false (.box 24 (.tmp 0)) 0 (some 1) true (.fin [2] [(2,.con (.slice none 0 0))] []))) (.seq (.reg false (.loud [6,7,8] [] [(8,.un .len (.un .load (.un (.fld 1) (.tmp 1)))),(8,.un .len (.un .load (.un (.fld 1) (.tmp 1))))] none [] false (.makeSlice 99 (.tmp 8) (.tmp 8)) 99 (some 9) true (.fin [3] [(3,.tmp 9)] []))) (.seq (.seq (.reg false (.fin [10,11,12,13] [(11,.un .load (.un (.fld 1) (.tmp 1))),(12,.un .len (.un .load (.un (.fld 1) (.tmp 1)))),(13,.con (.int .i64 0))] [])) (.block 0 (.loop L.gg.l1))) (.seq (.reg false (.fin [29,2] [(2,.tmp 3)] [])) .ret))))⟩
theorem E.gg:bA Try.prog Try.f63=some L.gg:=by kernel_rfl
theorem F.gg:Try.prog.funcs[N.gg]? = some Try.f63:=Try.func63
abbrev N.eO:Nat:=64
def L.eO:LFn:=
⟨[.tmp 2],(.seq (.reg false (.fin [2] [(2,.con (.slice none 0 0))] [])) (.seq (.seq (.reg false (.fin [7,8,9] [(9,.bin (.cmp .eql) (.un .len (.tmp 0)) (.con (.int .i64 0)))] [])) (.cond (.tmp 9) [9] (.seq (.reg false (.fin [2] [(2,.con (.slice none 0 0))] [])) .ret) .skip)) (.seq (.reg false (.loud [10] [] [(10,.tmp 0)] none [] false (.call ⟨.value (.func 78),#[.tmp 10],#[99]⟩) 99 (some 11) true (.loud [] [] [] none [] false (.alloc 99) 0 (some 3) true (.loud [] [] [(3,.tmp 3),(11,.tmp 11)] none [] false (.store 99 (.tmp 3) (.tmp 11)) 0 none false (.fin [] [] []))))) (.seq (.reg false (.loud [12,13] [] [(13,.un .len (.tmp 0)),(13,.un .len (.tmp 0))] none [] false (.makeSlice 45 (.tmp 13) (.tmp 13)) 45 (some 14) true (.loud [] [] [] none [] false (.alloc 45) 0 (some 4) true (.loud [] [] [(4,.tmp 4),(14,.tmp 14)] none [] false (.store 45 (.tmp 4) (.tmp 14)) 0 none false (.fin [] [] []))))) (.seq (.reg false (.loud [] [] [] none [] false (.alloc 28) 0 (some 5) true (.fin [] [] []))) (.seq (.reg false (.loud [] [] [] none [] false (.alloc 102) 0 (some 6) true (.fin [] [] []))) (.seq (.reg false (.loud [15] [] [(6,.tmp 6),(15,(.un (.fn 79) (.snoc (.snoc (.snoc (.snoc (.con (.tuple #[])) (.tmp 4)) (.tmp 3)) (.tmp 6)) (.tmp 5))))] none [] false (.store 102 (.tmp 6) (.tmp 15)) 0 none false (.fin [] [] []))) (.seq (.reg false (.loud [16] [] [(16,.un .load (.tmp 6))] none [] false (.call ⟨.value (.tmp 16),#[.const (.int .i64 0)],#[3]⟩) 0 (some 17) false (.fin [] [] []))) (.seq (.reg false (.loud [18] [] [(18,.un .load (.tmp 5))] none [] false (.call ⟨.value (.func 80),#[.tmp 18],#[28]⟩) 0 (some 19) false (.fin [] [] []))) (.seq (.reg false (.fin [20,2] [(2,.un .load (.tmp 5))] [])) .ret))))))))))⟩
theorem E.eO:bA Try.prog Try.f64=some L.eO:=by kernel_rfl
theorem F.eO:Try.prog.funcs[N.eO]? = some Try.f64:=Try.func64
abbrev N.eF:Nat:=65
def L.eF:LFn:=
⟨[.tmp 2],(.seq (.reg false (.fin [2] [(2,.con (.slice none 0 0))] [])) (.seq (.reg false (.loud [6,7] [] [(7,.un .len (.tmp 0)),(7,.un .len (.tmp 0))] none [] false (.makeSlice 99 (.tmp 7) (.tmp 7)) 99 (some 8) true (.loud [] [] [] none [] false (.alloc 99) 0 (some 3) true (.loud [] [] [(3,.tmp 3),(8,.tmp 8)] none [] false (.store 99 (.tmp 3) (.tmp 8)) 0 none false (.fin [] [] []))))) (.seq (.seq (.reg false (.loud [9] [] [(9,.tmp 0)] none [] false (.call ⟨.value (.func 81),#[.tmp 9],#[99]⟩) 128 (some 10) true (.fin [] [] []))) (.block 0 (.rangef (.tmp 10) [11,12] (.seq (.reg false (.fin [4] [(4,.tmp 11)] [])) (.reg false (.fin [5] [(5,.tmp 12)] []))) (.block 1 (.reg true (.loud [13,14,15,16,17,18,19] [(13,.un .load (.tmp 3)),(14,.tmp 5),(18,.un .load (.bin (.idx 1) (.un .load (.tmp 3)) (.tmp 5)))] [(19,.tmp 4)] none [] false (.buildSlice 28 1 #[(0,.tmp 19)]) 28 (some 20) true (.loud [] [] [(18,.tmp 18),(20,.tmp 20)] none [] false (.call ⟨.builtin .append,#[.tmp 18,.tmp 20],#[28,28]⟩) 28 (some 21) true (.loud [22] [] [(22,.bin (.idx 1) (.tmp 13) (.tmp 14)),(21,.tmp 21)] none [] true (.store 28 (.tmp 22) (.tmp 21)) 0 none false (.fin [] [] []))))))))) (.seq (.reg false (.fin [23,2] [(2,.un .load (.tmp 3))] [])) .ret))))⟩
theorem E.eF:bA Try.prog Try.f65=some L.eF:=by kernel_rfl
theorem F.eF:Try.prog.funcs[N.eF]? = some Try.f65:=Try.func65
abbrev N.bW:Nat:=66
def L.bW.l1:LC:=
 (.seq (.reg false (.fin [27] [(27,.bin (.cmp .lss) (.tmp 26) (.tmp 25))] [])) (.seq (.cond (.tmp 27) [27] .skip (.exit 0)) (.seq (.block 1 (.seq (.reg false (.fin [28,6] [(6,.tmp 26)] [])) (.reg false (.loud [29,30,31,32,33] [(31,.tmp 5),(32,.tmp 6)] [(33,.bin (.idx 1) (.tmp 4) (.tmp 6))] none [] false (.store 3 (.tmp 33) (.const (.int .i64 (-1)))) 0 none false (.loud [34] [] [(34,.bin (.idx 1) (.tmp 31) (.tmp 32))] none [] false (.store 3 (.tmp 34) (.const (.int .i64 (-1)))) 0 none false (.fin [] [] [])))))) (.reg false (.fin [35,26] [(26,.bin (.arith .add) (.tmp 26) (.con (.int .i64 1)))] [])))))
def L.bW.l2:LC:=
 (.seq (.reg false (.fin [39] [(39,.bin (.cmp .lss) (.tmp 38) (.tmp 37))] [])) (.seq (.cond (.tmp 39) [39] .skip (.exit 2)) (.seq (.block 3 (.seq (.reg false (.fin [40,41,42,7,8] [(7,.tmp 38),(8,.un .load (.bin (.idx 1) (.tmp 36) (.tmp 38)))] [])) (.reg false (.loud [43,44,45,46] [] [(46,.bin (.idx 1) (.tmp 4) (.tmp 8)),(45,.tmp 7)] none [] false (.store 3 (.tmp 46) (.tmp 45)) 0 none false (.fin [] [] []))))) (.reg false (.fin [47,38] [(38,.bin (.arith .add) (.tmp 38) (.con (.int .i64 1)))] [])))))
def L.bW.l5:LC:=
 (.seq (.reg false (.fin [67] [(67,.bin (.cmp .lss) (.tmp 66) (.tmp 65))] [])) (.seq (.cond (.tmp 67) [67] .skip (.exit 8)) (.seq (.block 9 (.seq (.reg false (.fin [68,69,15] [(15,.un .load (.bin (.idx 1) (.tmp 64) (.tmp 66)))] [])) (.seq (.seq (.reg false (.fin [70,71,72,73,74,75,76,77,78,79,80,81,82,83,84,85] [(85,(.ite (.bin (.cmp .lss) (.un .load (.bin (.idx 1) (.tmp 4) (.tmp 15))) (.con (.int .i64 0))) (.con (.bool true)) (.ite (.bin (.cmp .neq) (.tmp 15) (.con (.int .i64 0))) (.bin (.cmp .lss) (.un .load (.bin (.idx 1) (.tmp 5) (.tmp 15))) (.con (.int .i64 0))) (.con (.bool false)))))] [(.gd (.gd (.bin (.cmp .lss) (.un .load (.bin (.idx 1) (.tmp 4) (.tmp 15))) (.con (.int .i64 0))) false (.bin (.cmp .neq) (.tmp 15) (.con (.int .i64 0)))) true (.bin (.cmp .lss) (.un .load (.bin (.idx 1) (.tmp 5) (.tmp 15))) (.con (.int .i64 0))))])) (.cond (.tmp 85) [85] (.exit 9) .skip)) (.seq (.seq (.reg false (.fin [86,87] [(87,.bin (.cmp .lss) (.tmp 13) (.con (.int .i64 0)))] [])) (.cond (.tmp 87) [87] (.seq (.reg false (.fin [88,13] [(13,.tmp 15)] [])) (.exit 9)) .skip)) (.reg false (.loud [89,90,91,92] [] [(89,.tmp 5),(90,.tmp 4),(91,.tmp 13),(92,.tmp 15)] none [] false (.call ⟨.value (.func 82),#[.tmp 89,.tmp 90,.tmp 91,.tmp 92],#[28,28,3,3]⟩) 3 (some 93) true (.fin [13] [(13,.tmp 93)] []))))))) (.reg false (.fin [94,66] [(66,.bin (.arith .add) (.tmp 66) (.con (.int .i64 1)))] [])))))
def L.bW.l4:LC:=
 (.seq (.reg false (.fin [58] [(58,.bin (.cmp .lss) (.tmp 57) (.tmp 56))] [])) (.seq (.cond (.tmp 58) [58] .skip (.exit 6)) (.seq (.block 7 (.seq (.reg false (.fin [59,60,12] [(12,.un .load (.bin (.idx 1) (.tmp 55) (.tmp 57)))] [])) (.seq (.reg false (.fin [13] [(13,.con (.int .i64 (-1)))] [])) (.seq (.seq (.reg false (.fin [61,62,63,64,65,66] [(64,.un .load (.bin (.idx 1) (.tmp 9) (.tmp 12))),(65,.un .len (.un .load (.bin (.idx 1) (.tmp 9) (.tmp 12)))),(66,.con (.int .i64 0))] [])) (.block 8 (.loop L.bW.l5))) (.seq (.reg false (.fin [95,96,97,98,99,100] [(100,.bin (.cmp .neq) (.un .load (.bin (.idx 1) (.tmp 5) (.tmp 12))) (.tmp 13))] [])) (.cond (.tmp 100) [100] (.reg false (.loud [101,102,103,104] [] [(104,.bin (.idx 1) (.tmp 5) (.tmp 12)),(103,.tmp 13)] none [] false (.store 3 (.tmp 104) (.tmp 103)) 0 none false (.fin [10] [(10,.con (.bool true))] []))) .skip)))))) (.reg false (.fin [105,57] [(57,.bin (.arith .add) (.tmp 57) (.con (.int .i64 1)))] [])))))
def L.bW.l3:LC:=
 (.seq (.seq (.reg false (.fin [50] [(50,.tmp 10)] [])) (.cond (.tmp 50) [50] .skip (.exit 4))) (.block 5 (.seq (.reg false (.fin [10] [(10,.con (.bool false))] [])) (.seq (.reg false (.fin [51,52,53,54,55,56,57] [(55,.bin (.lo 1) (.tmp 3) (.bin .min (.con (.int .i64 1)) (.un .len (.tmp 3)))),(56,(.un .len (.bin (.lo 1) (.tmp 3) (.bin .min (.con (.int .i64 1)) (.un .len (.tmp 3)))))),(57,.con (.int .i64 0))] [])) (.block 6 (.loop L.bW.l4))))))
def L.bW:LFn:=
⟨[.tmp 2],(.seq (.reg false (.fin [2] [(2,.con (.slice none 0 0))] [])) (.seq (.reg false (.loud [16] [] [(16,.tmp 0)] none [] false (.call ⟨.value (.func 64),#[.tmp 16],#[99]⟩) 28 (some 17) true (.fin [3] [(3,.tmp 17)] []))) (.seq (.reg false (.loud [18,19] [] [(19,.un .len (.tmp 0)),(19,.un .len (.tmp 0))] none [] false (.makeSlice 28 (.tmp 19) (.tmp 19)) 28 (some 20) true (.fin [4] [(4,.tmp 20)] []))) (.seq (.reg false (.loud [21,22] [] [(22,.un .len (.tmp 0)),(22,.un .len (.tmp 0))] none [] false (.makeSlice 28 (.tmp 22) (.tmp 22)) 28 (some 23) true (.fin [5] [(5,.tmp 23)] []))) (.seq (.seq (.reg false (.fin [24,25,26] [(25,.un .len (.tmp 0)),(26,.con (.int .i64 0))] [])) (.block 0 (.loop L.bW.l1))) (.seq (.seq (.reg false (.fin [36,37,38] [(36,.tmp 3),(37,.un .len (.tmp 3)),(38,.con (.int .i64 0))] [])) (.block 2 (.loop L.bW.l2))) (.seq (.reg false (.loud [48] [] [(48,.tmp 0)] none [] false (.call ⟨.value (.func 65),#[.tmp 48],#[99]⟩) 99 (some 49) true (.fin [9] [(9,.tmp 49)] []))) (.seq (.seq (.reg false (.fin [10] [(10,.con (.bool true))] [])) (.block 4 (.loop L.bW.l3))) (.seq (.reg false (.fin [106,2] [(2,.tmp 5)] [])) .ret)))))))))⟩
theorem E.bW:bA Try.prog Try.f66=some L.bW:=by kernel_rfl
theorem F.bW:Try.prog.funcs[N.bW]? = some Try.f66:=Try.func66
abbrev N.aR:Nat:=67
def L.aR:LFn:=
⟨[],(.seq (.seq (.reg false (.fin [14,15,16,17,18,19,20,21,22,23,24] [(24,(.ite (.bin (.cmp .geq) (.tmp 0) (.con (.int .i64 0))) (.bin (.cmp .lss) (.tmp 0) (.un .load (.un (.fld 0) (.un (.fld 0) (.un .nilPtr (.un .load (.tmp 5))))))) (.con (.bool false))))] [])) (.cond (.tmp 24) [24] .ret .skip)) (.seq (.reg false (.loud [26,27,28,29,30] [] [(29,(.un .load (.un (.fld 2) (.un .nilPtr (.un .load (.tmp 5)))))),(30,.tmp 0)] none [] false (.lookup 81 (.tmp 29) (.tmp 30) true) 117 (some 31) true (.loud [25,32,33] [(32,.un (.ext 0) (.tmp 31)),(33,.un (.ext 1) (.tmp 31))] [] none [] false (.alloc 92) 0 (some 12) true (.loud [] [] [(12,.tmp 12),(32,.tmp 32)] none [] false (.store 92 (.tmp 12) (.tmp 32)) 0 none false (.fin [13] [(13,.tmp 33)] []))))) (.seq (.reg false (.loud [34,35,36,37,38,39,40,41,42,43,44,45,46,47,48,49,50,51,52,53,54,55,56,57,58,59,60] [(35,.tmp 13),(51,(.gd (.tmp 13) true (.ite (.bin (.cmp .eql) (.un .load (.un (.fld 0) (.tmp 12))) (.tmp 1)) (.ite (.bin (.cmp .lss) (.un .load (.un (.fld 1) (.tmp 12))) (.tmp 3)) (.con (.bool true)) (.bin (.cmp .lss) (.un .load (.un (.fld 1) (.tmp 12))) (.con (.int .i64 0)))) (.con (.bool false))))),(56,(.gd (.gd (.tmp 13) true (.ite (.bin (.cmp .eql) (.un .load (.un (.fld 0) (.tmp 12))) (.tmp 1)) (.ite (.bin (.cmp .lss) (.un .load (.un (.fld 1) (.tmp 12))) (.tmp 3)) (.con (.bool true)) (.bin (.cmp .lss) (.un .load (.un (.fld 1) (.tmp 12))) (.con (.int .i64 0)))) (.con (.bool false)))) false (.bin (.cmp .neq) (.un .load (.un (.fld 0) (.tmp 12))) (.tmp 1))))] [(57,(.gd (.gd (.gd (.tmp 13) true (.ite (.bin (.cmp .eql) (.un .load (.un (.fld 0) (.tmp 12))) (.tmp 1)) (.ite (.bin (.cmp .lss) (.un .load (.un (.fld 1) (.tmp 12))) (.tmp 3)) (.con (.bool true)) (.bin (.cmp .lss) (.un .load (.un (.fld 1) (.tmp 12))) (.con (.int .i64 0)))) (.con (.bool false)))) false (.bin (.cmp .neq) (.un .load (.un (.fld 0) (.tmp 12))) (.tmp 1))) true (.un .load (.tmp 6)))),(59,(.gd (.gd (.gd (.tmp 13) true (.ite (.bin (.cmp .eql) (.un .load (.un (.fld 0) (.tmp 12))) (.tmp 1)) (.ite (.bin (.cmp .lss) (.un .load (.un (.fld 1) (.tmp 12))) (.tmp 3)) (.con (.bool true)) (.bin (.cmp .lss) (.un .load (.un (.fld 1) (.tmp 12))) (.con (.int .i64 0)))) (.con (.bool false)))) false (.bin (.cmp .neq) (.un .load (.un (.fld 0) (.tmp 12))) (.tmp 1))) true (.un .load (.un (.fld 0) (.tmp 12))))),(60,(.gd (.gd (.gd (.tmp 13) true (.ite (.bin (.cmp .eql) (.un .load (.un (.fld 0) (.tmp 12))) (.tmp 1)) (.ite (.bin (.cmp .lss) (.un .load (.un (.fld 1) (.tmp 12))) (.tmp 3)) (.con (.bool true)) (.bin (.cmp .lss) (.un .load (.un (.fld 1) (.tmp 12))) (.con (.int .i64 0)))) (.con (.bool false)))) false (.bin (.cmp .neq) (.un .load (.un (.fld 0) (.tmp 12))) (.tmp 1))) true (.tmp 1)))] (some ((.gd (.gd (.tmp 13) true (.ite (.bin (.cmp .eql) (.un .load (.un (.fld 0) (.tmp 12))) (.tmp 1)) (.ite (.bin (.cmp .lss) (.un .load (.un (.fld 1) (.tmp 12))) (.tmp 3)) (.con (.bool true)) (.bin (.cmp .lss) (.un .load (.un (.fld 1) (.tmp 12))) (.con (.int .i64 0)))) (.con (.bool false)))) false (.bin (.cmp .neq) (.un .load (.un (.fld 0) (.tmp 12))) (.tmp 1))),true)) [(.gd (.gd (.tmp 13) true (.bin (.cmp .eql) (.un .load (.un (.fld 0) (.tmp 12))) (.tmp 1))) true (.ite (.bin (.cmp .lss) (.un .load (.un (.fld 1) (.tmp 12))) (.tmp 3)) (.con (.bool true)) (.bin (.cmp .lss) (.un .load (.un (.fld 1) (.tmp 12))) (.con (.int .i64 0))))),(.gd (.gd (.gd (.tmp 13) true (.bin (.cmp .eql) (.un .load (.un (.fld 0) (.tmp 12))) (.tmp 1))) true (.bin (.cmp .lss) (.un .load (.un (.fld 1) (.tmp 12))) (.tmp 3))) false (.bin (.cmp .lss) (.un .load (.un (.fld 1) (.tmp 12))) (.con (.int .i64 0))))] false (.call ⟨.value (.func 68),#[.tmp 57,.tmp 59,.tmp 60],#[28,3,3]⟩) 4 (some 61) true (.fin [62,63,64,13] [(13,(.ite (.tmp 35) (.ite (.tmp 51) (.con (.bool true)) (.ite (.tmp 56) (.tmp 61) (.con (.bool false)))) (.con (.bool false))))] [.gd (.tmp 51) false (.ite (.tmp 56) (.tmp 61) (.con (.bool false)))]))) (.reg false (.loud [65,66,67] [] [(65,.tmp 13),(66,.tmp 4),(67,.tmp 2)] none [] false (.call ⟨.value (.func 35),#[.tmp 65,.const (.int .i64 13),.tmp 66,.tmp 67],#[4,34,3,3]⟩) 0 (some 68) false (.fin [] [] []))))))⟩
theorem E.aR:bA Try.prog Try.f67=some L.aR:=by kernel_rfl
theorem F.aR:Try.prog.funcs[N.aR]? = some Try.f67:=Try.func67
abbrev N.cy:Nat:=68
def L.cy.l1:LC:=
 (.seq (.reg false (.fin [23] [(23,.bin (.cmp .lss) (.tmp 22) (.tmp 21))] [])) (.seq (.cond (.tmp 23) [23] .skip (.exit 0)) (.seq (.block 1 (.seq (.seq (.reg false (.fin [24,25,26] [(26,.bin (.cmp .eql) (.tmp 1) (.tmp 2))] [])) (.cond (.tmp 26) [26] (.seq (.reg false (.fin [6] [(6,.con (.bool true))] [])) .ret) .skip)) (.seq (.seq (.reg false (.loud [27,28] [] [(27,.tmp 7),(28,.tmp 2)] none [] false (.call ⟨.value (.tmp 27),#[.tmp 28],#[3]⟩) 4 (some 29) true (.fin [30] [(30,.un .not (.tmp 29))] []))) (.cond (.tmp 30) [30] (.seq (.reg false (.fin [6] [(6,.con (.bool false))] [])) .ret) .skip)) (.reg false (.fin [31,32,33,34,2] [(2,.un .load (.bin (.idx 1) (.un .load (.tmp 3)) (.tmp 2)))] []))))) (.reg false (.fin [35,22] [(22,.bin (.arith .add) (.tmp 22) (.con (.int .i64 1)))] [])))))
def L.cy:LFn:=
⟨[.tmp 6],(.seq (.reg false (.loud [] [] [(0,.tmp 0)] none [] false (.box 28 (.tmp 0)) 0 (some 3) true (.fin [6] [(6,.con (.bool false))] []))) (.seq (.reg false (.fin [8,7] [(7,.un (.fn 83) (.snoc (.con (.tuple #[])) (.tmp 3)))] [])) (.seq (.seq (.reg false (.loud [9,10] [] [(9,.tmp 7),(10,.tmp 1)] none [] false (.call ⟨.value (.tmp 9),#[.tmp 10],#[3]⟩) 4 (some 11) true (.loud [12,13,14,15] [(13,.un .not (.tmp 11))] [(14,.gd (.un .not (.tmp 11)) false (.tmp 7)),(15,.gd (.un .not (.tmp 11)) false (.tmp 2))] (some ((.un .not (.tmp 11)),false)) [] false (.call ⟨.value (.tmp 14),#[.tmp 15],#[3]⟩) 4 (some 16) true (.fin [17,18] [(18,.ite (.tmp 13) (.con (.bool true)) (.un .not (.tmp 16)))] [])))) (.cond (.tmp 18) [18] (.seq (.reg false (.fin [6] [(6,.con (.bool false))] [])) .ret) .skip)) (.seq (.seq (.reg false (.fin [19,20,21,22] [(21,.bin (.arith .add) (.un .len (.un .load (.tmp 3))) (.con (.int .i64 1))),(22,.con (.int .i64 0))] [])) (.block 0 (.loop L.cy.l1))) (.seq (.reg false (.fin [6] [(6,.con (.bool false))] [])) .ret)))))⟩
theorem E.cy:bA Try.prog Try.f68=some L.cy:=by kernel_rfl
theorem F.cy:Try.prog.funcs[N.cy]? = some Try.f68:=Try.func68
abbrev N.slices_Index_int:Nat:=69
def L.slices_Index_int.l1:LC:=
 (.seq (.reg false (.fin [9] [(9,.bin (.cmp .lss) (.tmp 8) (.tmp 7))] [])) (.seq (.cond (.tmp 9) [9] .skip (.exit 0)) (.seq (.block 1 (.seq (.reg false (.fin [10,5] [(5,.tmp 8)] [])) (.seq (.reg false (.fin [11,12,13,14,15,16] [(16,.bin (.cmp .eql) (.tmp 1) (.un .load (.bin (.idx 1) (.tmp 0) (.tmp 5))))] [])) (.cond (.tmp 16) [16] (.seq (.reg false (.fin [17,4] [(4,.tmp 5)] [])) .ret) .skip)))) (.reg false (.fin [18,8] [(8,.bin (.arith .add) (.tmp 8) (.con (.int .i64 1)))] [])))))
def L.slices_Index_int:LFn:=
⟨[.tmp 4],(.seq (.reg false (.fin [4] [(4,.con (.int .i64 0))] [])) (.seq (.seq (.reg false (.fin [6,7,8] [(7,.un .len (.tmp 0)),(8,.con (.int .i64 0))] [])) (.block 0 (.loop L.slices_Index_int.l1))) (.seq (.reg false (.fin [4] [(4,.con (.int .i64 (-1)))] [])) .ret)))⟩
theorem E.slices_Index_int:bA Try.prog Try.f69=some L.slices_Index_int:=by kernel_rfl
theorem F.slices_Index_int:Try.prog.funcs[N.slices_Index_int]? = some Try.f69:=Try.func69
abbrev N.cE:Nat:=72
def L.cE:LFn:=
⟨[.tmp 4],(.seq (.reg false (.fin [4] [(4,.con (.int .i64 0))] [])) (.seq (.reg false (.loud [8] [] [(8,.tmp 0)] none [] false (.call ⟨.value (.func 84),#[.tmp 8],#[72]⟩) 132 (some 9) true (.fin [7,10,11,5,6] [(5,.un (.ext 0) (.tmp 9)),(6,.un (.ext 1) (.tmp 9))] []))) (.seq (.seq (.reg false (.loud [12,13,14,15] [(14,.un .not (.tmp 6))] [(15,.gd (.un .not (.tmp 6)) false (.tmp 0))] (some ((.un .not (.tmp 6)),false)) [] false (.call ⟨.value (.func 33),#[.tmp 15,.const (.int .i64 9)],#[72,3]⟩) 3 (some 16) true (.fin [17,18] [(18,.ite (.tmp 14) (.con (.bool true)) (.bin (.cmp .eql) (.tmp 16) (.con (.int .i64 0))))] []))) (.cond (.tmp 18) [18] (.seq (.reg false (.loud [19,20,21] [(19,.tmp 0),(20,.tmp 1)] [(21,.tmp 0)] none [] false (.call ⟨.value (.func 58),#[.tmp 21],#[72]⟩) 21 (some 22) true (.loud [] [] [(19,.tmp 19),(20,.tmp 20),(22,.tmp 22)] none [] false (.call ⟨.value (.func 57),#[.tmp 19,.tmp 20,.tmp 22],#[72,3,21]⟩) 3 (some 23) true (.fin [4] [(4,.tmp 23)] [])))) .ret) .skip)) (.seq (.reg false (.fin [24,4] [(4,.tmp 5)] [])) .ret))))⟩
theorem E.cE:bA Try.prog Try.f72=some L.cE:=by kernel_rfl
theorem F.cE:Try.prog.funcs[N.cE]? = some Try.f72:=Try.func72
abbrev N.cS:Nat:=73
def L.cS:LFn:=
⟨[],(.seq (.reg false (.loud [] [] [(2,.tmp 2)] none [] false (.box 58 (.tmp 2)) 0 (some 5) true (.fin [] [] []))) (.seq (.reg true (.loud [7,8,9,10,11,12,13,14,15,16,17,18,19,20,21,22] [(11,(.un .load (.un (.fld 1) (.un (.fld 2) (.un .nilPtr (.tmp 0)))))),(12,.tmp 1),(21,(.un .load (.un (.fld 1) (.bin (.idx 6) (.un .load (.un (.fld 1) (.un (.fld 2) (.un .nilPtr (.tmp 0))))) (.tmp 1)))))] [(22,.un (.al 5) (.tmp 5))] none [] false (.buildSlice 47 1 #[(0,.tmp 22)]) 47 (some 23) true (.loud [] [] [(21,.tmp 21),(23,.tmp 23)] none [] false (.call ⟨.builtin .append,#[.tmp 21,.tmp 23],#[47,47]⟩) 47 (some 24) true (.loud [25,26] [] [(26,.un (.fld 1) (.bin (.idx 6) (.tmp 11) (.tmp 12))),(24,.tmp 24)] none [] true (.store 47 (.tmp 26) (.tmp 24)) 0 none false (.fin [] [] []))))) (.seq (.reg false (.loud [27] [] [(27,.un (.al 5) (.tmp 5))] none [] false (.call ⟨.value (.func 27),#[.tmp 27],#[58]⟩) 28 (some 28) true (.fin [6] [(6,.tmp 28)] []))) (.reg false (.loud [29,30,31,32,33,34] [(29,.tmp 0)] [(33,.un .load (.un (.fld 5) (.un .nilPtr (.tmp 0)))),(34,.tmp 6)] none [] false (.call ⟨.builtin .append,#[.tmp 33,.tmp 34],#[28,28]⟩) 28 (some 35) true (.loud [36,37] [] [(37,.un (.fld 5) (.un .nilPtr (.tmp 29))),(35,.tmp 35)] none [] false (.store 28 (.tmp 37) (.tmp 35)) 0 none false (.fin [] [] [])))))))⟩
theorem E.cS:bA Try.prog Try.f73=some L.cS:=by kernel_rfl
theorem F.cS:Try.prog.funcs[N.cS]? = some Try.f73:=Try.func73
abbrev N.cu:Nat:=74
def L.cu:LFn:=
⟨[],(.seq (.reg false (.loud [12,13,14] [(12,.tmp 0),(13,.tmp 1)] [(14,.tmp 0)] none [] false (.call ⟨.value (.func 33),#[.tmp 14,.const (.int .i64 9)],#[72,3]⟩) 3 (some 15) true (.loud [16] [] [(12,.tmp 12),(13,.tmp 13),(16,.un (.conv .i32) (.tmp 15))] none [] false (.call ⟨.value (.func 57),#[.tmp 12,.tmp 13,.tmp 16],#[72,3,21]⟩) 3 (some 17) true (.fin [6] [(6,.tmp 17)] [])))) (.seq (.seq (.reg false (.loud [18] [] [(18,.tmp 0)] none [] false (.call ⟨.value (.func 33),#[.tmp 18,.const (.int .i64 3)],#[72,3]⟩) 3 (some 19) true (.fin [20] [(20,.bin (.cmp .eql) (.tmp 19) (.con (.int .i64 0)))] []))) (.cond (.tmp 20) [20] (.seq (.reg false (.loud [21,22] [] [(21,.tmp 0),(22,.tmp 1)] none [] false (.call ⟨.value (.func 72),#[.tmp 21,.tmp 22],#[72,3]⟩) 3 (some 23) true (.fin [7] [(7,.tmp 23)] []))) (.seq (.reg false (.loud [24,25] [] [(24,.tmp 0),(25,.tmp 1)] none [] false (.call ⟨.value (.func 57),#[.tmp 24,.tmp 25,.const (.int .i32 7)],#[72,3,21]⟩) 3 (some 26) true (.fin [8] [(8,.tmp 26)] []))) (.seq (.reg false (.loud [27] [] [(27,.tmp 0)] none [] false (.call ⟨.value (.func 53),#[.tmp 27],#[72]⟩) 3 (some 28) true (.fin [9] [(9,.tmp 28)] []))) (.seq (.reg false (.loud [29,30,31,32,33] [(29,.tmp 0),(30,.tmp 1),(31,.tmp 9)] [(32,.tmp 7),(33,.tmp 8)] none [] false (.buildSlice 28 2 #[(0,.tmp 32),(1,.tmp 33)]) 28 (some 34) true (.loud [] [] [(31,.tmp 31),(34,.tmp 34)] none [] false (.build 58 #[(0,.const (.int .i64 5)),(1,.tmp 31),(3,.tmp 34)]) 58 (some 35) true (.loud [] [] [(29,.tmp 29),(30,.tmp 30),(35,.tmp 35)] none [] false (.call ⟨.value (.func 73),#[.tmp 29,.tmp 30,.tmp 35],#[72,3,58]⟩) 0 (some 36) false (.fin [] [] []))))) (.seq (.reg false (.loud [37] [] [(37,.tmp 0)] none [] false (.call ⟨.value (.func 53),#[.tmp 37],#[72]⟩) 3 (some 38) true (.fin [10] [(10,.tmp 38)] []))) (.seq (.reg false (.loud [39,40,41,42,43] [(39,.tmp 0),(40,.tmp 1),(41,.tmp 10)] [(42,.tmp 6),(43,.tmp 9)] none [] false (.buildSlice 28 2 #[(0,.tmp 42),(1,.tmp 43)]) 28 (some 44) true (.loud [] [] [(41,.tmp 41),(44,.tmp 44)] none [] false (.build 58 #[(0,.const (.int .i64 2)),(1,.tmp 41),(3,.tmp 44)]) 58 (some 45) true (.loud [] [] [(39,.tmp 39),(40,.tmp 40),(45,.tmp 45)] none [] false (.call ⟨.value (.func 73),#[.tmp 39,.tmp 40,.tmp 45],#[72,3,58]⟩) 0 (some 46) false (.fin [] [] []))))) (.reg false (.fin [47,6] [(6,.tmp 10)] [])))))))) .skip)) (.seq (.reg false (.loud [48] [] [(48,.tmp 0)] none [] false (.call ⟨.value (.func 33),#[.tmp 48,.const (.int .i64 4)],#[72,3]⟩) 3 (some 49) true (.fin [50,11] [(11,.un (.conv .i32) (.tmp 49))] []))) (.seq (.seq (.reg false (.loud [51] [] [(51,.tmp 0)] none [] false (.call ⟨.value (.func 33),#[.tmp 51,.const (.int .i64 12)],#[72,3]⟩) 3 (some 52) true (.fin [53] [(53,.bin (.cmp .eql) (.tmp 52) (.con (.int .i64 0)))] []))) (.cond (.tmp 53) [53] (.reg false (.loud [54] [] [(54,.tmp 0)] none [] false (.call ⟨.value (.func 58),#[.tmp 54],#[72]⟩) 21 (some 55) true (.fin [11] [(11,.tmp 55)] []))) .skip)) (.seq (.reg false (.fin [56] [(56,.tmp 2)] [])) (.cond (.tmp 56) [56] (.reg false (.loud [57,58,59,60,61] [(57,.tmp 0),(58,.tmp 1),(59,.tmp 6)] [(60,.tmp 0),(61,.tmp 1)] none [] false (.call ⟨.value (.func 72),#[.tmp 60,.tmp 61],#[72,3]⟩) 3 (some 62) true (.loud [] [] [(59,.tmp 59),(62,.tmp 62)] none [] false (.buildSlice 28 2 #[(0,.tmp 59),(1,.tmp 62)]) 28 (some 63) true (.loud [64] [] [(63,.tmp 63),(64,.tmp 11)] none [] false (.build 58 #[(0,.const (.int .i64 16)),(3,.tmp 63),(4,.tmp 64)]) 58 (some 65) true (.loud [] [] [(57,.tmp 57),(58,.tmp 58),(65,.tmp 65)] none [] false (.call ⟨.value (.func 73),#[.tmp 57,.tmp 58,.tmp 65],#[72,3,58]⟩) 0 (some 66) false (.fin [] [] [])))))) (.reg false (.loud [67,68,69] [(67,.tmp 0),(68,.tmp 1)] [(69,.tmp 0)] none [] false (.call ⟨.value (.func 53),#[.tmp 69],#[72]⟩) 3 (some 70) true (.loud [71] [] [(71,.tmp 6)] none [] false (.buildSlice 28 1 #[(0,.tmp 71)]) 28 (some 72) true (.loud [73] [] [(70,.tmp 70),(72,.tmp 72),(73,.tmp 11)] none [] false (.build 58 #[(0,.const (.int .i64 15)),(1,.tmp 70),(3,.tmp 72),(4,.tmp 73)]) 58 (some 74) true (.loud [] [] [(67,.tmp 67),(68,.tmp 68),(74,.tmp 74)] none [] false (.call ⟨.value (.func 73),#[.tmp 67,.tmp 68,.tmp 74],#[72,3,58]⟩) 0 (some 75) false (.fin [] [] []))))))))))))⟩
theorem E.cu:bA Try.prog Try.f74=some L.cu:=by kernel_rfl
theorem F.cu:Try.prog.funcs[N.cu]? = some Try.f74:=Try.func74
abbrev N.cL:Nat:=75
def L.cL:LFn:=
⟨[],(.reg false (.loud [8,9,10,11,12,13] [] [(8,.tmp 1),(13,(.un .load (.un (.fld 0) (.un (.fld 0) (.un .nilPtr (.tmp 0))))))] none [] false (.call ⟨.value (.func 36),#[.tmp 8,.tmp 13,.const (.int .i64 8191)],#[3,3,3]⟩) 4 (some 14) true (.loud [15,16] [] [(14,.tmp 14),(15,.tmp 2),(16,.tmp 3)] none [] false (.call ⟨.value (.func 35),#[.tmp 14,.const (.int .i64 11),.tmp 15,.tmp 16],#[4,34,3,3]⟩) 0 (some 17) false (.fin [] [] []))))⟩
theorem E.cL:bA Try.prog Try.f75=some L.cL:=by kernel_rfl
theorem F.cL:Try.prog.funcs[N.cL]? = some Try.f75:=Try.func75
abbrev N.cJ:Nat:=76
def L.cJ:LFn:=
⟨[],(.seq (.reg false (.loud [11,12,13,14,15] [] [(14,.un .load (.un (.fld 2) (.un .nilPtr (.tmp 0)))),(15,.tmp 1)] none [] false (.lookup 81 (.tmp 14) (.tmp 15) true) 117 (some 16) true (.loud [10,17,18] [(17,.un (.ext 0) (.tmp 16)),(18,.un (.ext 1) (.tmp 16))] [] none [] false (.alloc 92) 0 (some 8) true (.loud [] [] [(8,.tmp 8),(17,.tmp 17)] none [] false (.store 92 (.tmp 8) (.tmp 17)) 0 none false (.fin [9] [(9,.tmp 18)] []))))) (.seq (.reg false (.loud [19,20,21,22] [] [(20,.un .not (.tmp 9)),(21,.tmp 2),(22,.tmp 3)] none [] false (.call ⟨.value (.func 35),#[.tmp 20,.const (.int .i64 12),.tmp 21,.tmp 22],#[4,34,3,3]⟩) 0 (some 23) false (.fin [] [] []))) (.reg false (.loud [24,25,26,27,28,29,30] [(27,.un .load (.un (.fld 2) (.un .nilPtr (.tmp 0)))),(28,.tmp 1)] [(29,.tmp 2),(30,.tmp 3)] none [] false (.build 92 #[(0,.tmp 29),(1,.tmp 30)]) 92 (some 31) true (.loud [] [] [(27,.tmp 27),(28,.tmp 28),(31,.tmp 31)] none [] false (.mapUpdate 81 (.tmp 27) (.tmp 28) (.tmp 31)) 0 none false (.fin [] [] []))))))⟩
theorem E.cJ:bA Try.prog Try.f76=some L.cJ:=by kernel_rfl
theorem F.cJ:Try.prog.funcs[N.cJ]? = some Try.f76:=Try.func76
end Go.Proofs.Ytfelpjfopgiabaa
namespace Go.Proofs.Ytfelpjfopgiabaa
open Go Go.Lft
set_option maxRecDepth 100000
abbrev N.ei:Nat:=77
def L.ei.l1:LC:=
 (.seq (.reg false (.fin [11] [(11,.bin (.cmp .lss) (.tmp 10) (.tmp 9))] [])) (.seq (.cond (.tmp 11) [11] .skip (.exit 0)) (.seq (.block 1 (.seq (.reg false (.fin [12,13,7] [(7,.un .load (.bin (.idx 1) (.tmp 8) (.tmp 10)))] [])) (.seq (.reg false (.fin [14,15,16,17,18,19,20] [(20,.ite (.bin (.cmp .geq) (.tmp 7) (.con (.int .i64 0))) (.bin (.cmp .lss) (.tmp 7) (.tmp 1)) (.con (.bool false)))] [])) (.cond (.tmp 20) [20] (.reg false (.loud [21,22] [(21,.tmp 5)] [(22,.tmp 7)] none [] false (.buildSlice 28 1 #[(0,.tmp 22)]) 28 (some 23) true (.loud [] [] [(21,.tmp 21),(23,.tmp 23)] none [] false (.call ⟨.builtin .append,#[.tmp 21,.tmp 23],#[28,28]⟩) 28 (some 24) true (.fin [5] [(5,.tmp 24)] [])))) .skip)))) (.reg false (.fin [25,10] [(10,.bin (.arith .add) (.tmp 10) (.con (.int .i64 1)))] [])))))
def L.ei:LFn:=
⟨[.tmp 4],(.seq (.reg false (.fin [4] [(4,.con (.slice none 0 0))] [])) (.seq (.reg false (.fin [5] [(5,.con (.slice none 0 0))] [])) (.seq (.seq (.reg false (.fin [8,9,10] [(8,.tmp 0),(9,.un .len (.tmp 0)),(10,.con (.int .i64 0))] [])) (.block 0 (.loop L.ei.l1))) (.seq (.reg false (.loud [26] [] [(26,.tmp 5)] none [] false (.call ⟨.value (.func 85),#[.tmp 26],#[28]⟩) 0 (some 27) false (.fin [] [] []))) (.seq (.reg false (.loud [28] [] [(28,.tmp 5)] none [] false (.call ⟨.value (.func 86),#[.tmp 28],#[28]⟩) 28 (some 29) true (.fin [4] [(4,.tmp 29)] []))) .ret)))))⟩
theorem E.ei:bA Try.prog Try.f77=some L.ei:=by kernel_rfl
theorem F.ei:Try.prog.funcs[N.ei]? = some Try.f77:=Try.func77
abbrev N.dI:Nat:=78
def L.dI.l1:LC:=
 (.seq (.reg false (.fin [12] [(12,.bin (.cmp .lss) (.tmp 11) (.tmp 10))] [])) (.seq (.cond (.tmp 12) [12] .skip (.exit 0)) (.seq (.block 1 (.seq (.reg false (.fin [13,14,15,4,5] [(4,.tmp 11),(5,.un .load (.bin (.idx 1) (.tmp 9) (.tmp 11)))] [])) (.reg false (.loud [16,17,18,19,20] [(16,.tmp 3),(17,.tmp 4)] [(18,.tmp 5),(20,.un .len (.tmp 0))] none [] false (.call ⟨.value (.func 77),#[.tmp 18,.tmp 20],#[28,3]⟩) 28 (some 21) true (.loud [22] [] [(22,.bin (.idx 1) (.tmp 16) (.tmp 17)),(21,.tmp 21)] none [] false (.store 28 (.tmp 22) (.tmp 21)) 0 none false (.fin [] [] [])))))) (.reg false (.fin [23,11] [(11,.bin (.arith .add) (.tmp 11) (.con (.int .i64 1)))] [])))))
def L.dI:LFn:=
⟨[.tmp 2],(.seq (.reg false (.fin [2] [(2,.con (.slice none 0 0))] [])) (.seq (.reg false (.loud [6,7] [] [(7,.un .len (.tmp 0)),(7,.un .len (.tmp 0))] none [] false (.makeSlice 99 (.tmp 7) (.tmp 7)) 99 (some 8) true (.fin [3] [(3,.tmp 8)] []))) (.seq (.seq (.reg false (.fin [9,10,11] [(9,.tmp 0),(10,.un .len (.tmp 0)),(11,.con (.int .i64 0))] [])) (.block 0 (.loop L.dI.l1))) (.seq (.reg false (.fin [24,2] [(2,.tmp 3)] [])) .ret))))⟩
theorem E.dI:bA Try.prog Try.f78=some L.dI:=by kernel_rfl
theorem F.dI:Try.prog.funcs[N.dI]? = some Try.f78:=Try.func78
abbrev N.bN:Nat:=79
def L.bN.l1:LC:=
 (.seq (.reg false (.fin [17] [(17,.bin (.cmp .lss) (.tmp 16) (.tmp 15))] [])) (.seq (.cond (.tmp 17) [17] .skip (.exit 0)) (.seq (.block 1 (.seq (.reg false (.fin [18,19,7] [(7,.un .load (.bin (.idx 1) (.tmp 14) (.tmp 16)))] [])) (.seq (.reg false (.fin [20,21,22,23,24] [(24,(.un .not (.un .load (.bin (.idx 1) (.un .load (.tmp 1)) (.tmp 7)))))] [])) (.cond (.tmp 24) [24] (.reg false (.loud [25,26] [] [(25,.un .load (.tmp 3)),(26,.tmp 7)] none [] false (.call ⟨.value (.tmp 25),#[.tmp 26],#[3]⟩) 0 (some 27) false (.fin [] [] []))) .skip)))) (.reg false (.fin [28,16] [(16,.bin (.arith .add) (.tmp 16) (.con (.int .i64 1)))] [])))))
def L.bN:LFn:=
⟨[],(.seq (.reg false (.loud [8,9,10] [] [(10,.bin (.idx 1) (.un .load (.tmp 1)) (.tmp 0))] none [] false (.store 4 (.tmp 10) (.const (.bool true))) 0 none false (.fin [] [] []))) (.seq (.seq (.reg false (.fin [11,12,13,14,15,16] [(14,.un .load (.bin (.idx 1) (.un .load (.tmp 2)) (.tmp 0))),(15,(.un .len (.un .load (.bin (.idx 1) (.un .load (.tmp 2)) (.tmp 0))))),(16,.con (.int .i64 0))] [])) (.block 0 (.loop L.bN.l1))) (.reg false (.loud [29,30] [(29,.un .load (.tmp 4))] [(30,.tmp 0)] none [] false (.buildSlice 28 1 #[(0,.tmp 30)]) 28 (some 31) true (.loud [] [] [(29,.tmp 29),(31,.tmp 31)] none [] false (.call ⟨.builtin .append,#[.tmp 29,.tmp 31],#[28,28]⟩) 28 (some 32) true (.loud [] [] [(4,.tmp 4),(32,.tmp 32)] none [] false (.store 28 (.tmp 4) (.tmp 32)) 0 none false (.fin [] [] [])))))))⟩
theorem E.bN:bA Try.prog Try.f79=some L.bN:=by kernel_rfl
theorem F.bN:Try.prog.funcs[N.bN]? = some Try.f79:=Try.func79
abbrev N.eR:Nat:=81
def L.eR:LFn:=
⟨[.tmp 2],(.seq (.reg false (.loud [] [] [(0,.tmp 0)] none [] false (.box 99 (.tmp 0)) 0 (some 1) true (.fin [2] [(2,.con .nilFunc)] []))) (.seq (.reg false (.fin [3,2] [(2,.un (.fn 87) (.snoc (.con (.tuple #[])) (.tmp 1)))] [])) .ret))⟩
theorem E.eR:bA Try.prog Try.f81=some L.eR:=by kernel_rfl
theorem F.eR:Try.prog.funcs[N.eR]? = some Try.f81:=Try.func81
abbrev N.c7:Nat:=82
def L.c7.l1:LC:=
 (.block 1 (.block 2 (.seq (.reg true (.fin [10,11,12,13,14,15,16,17,18,9] [(9,.bin (.cmp .gtr) (.un .load (.bin (.idx 1) (.tmp 1) (.tmp 2))) (.un .load (.bin (.idx 1) (.tmp 1) (.tmp 3))))] [])) (.cond (.tmp 9) [9] (.reg false (.fin [19,20,21,22,2] [(2,.un .load (.bin (.idx 1) (.tmp 0) (.tmp 2)))] [])) (.seq (.reg true (.fin [24,25,26,27,28,29,30,31,32,23] [(23,.bin (.cmp .gtr) (.un .load (.bin (.idx 1) (.tmp 1) (.tmp 3))) (.un .load (.bin (.idx 1) (.tmp 1) (.tmp 2))))] [])) (.cond (.tmp 23) [23] (.reg false (.fin [33,34,35,36,3] [(3,.un .load (.bin (.idx 1) (.tmp 0) (.tmp 3)))] [])) (.exit 0)))))))
def L.c7:LFn:=
⟨[.tmp 8],(.seq (.reg false (.fin [8] [(8,.con (.int .i64 0))] [])) (.seq .skip (.seq (.block 0 (.loop L.c7.l1)) (.seq (.reg false (.fin [37,8] [(8,.tmp 2)] [])) .ret))))⟩
theorem E.c7:bA Try.prog Try.f82=some L.c7:=by kernel_rfl
theorem F.c7:Try.prog.funcs[N.c7]? = some Try.f82:=Try.func82
abbrev N.ck:Nat:=83
def L.ck:LFn:=
⟨[.tmp 3],(.seq (.reg false (.fin [3] [(3,.con (.bool false))] [])) (.seq (.reg false (.fin [4,5,6,7,8,9,10,11,3] [(3,(.ite (.bin (.cmp .geq) (.tmp 0) (.con (.int .i64 0))) (.bin (.cmp .lss) (.tmp 0) (.un .len (.un .load (.tmp 1)))) (.con (.bool false))))] [])) .ret))⟩
theorem E.ck:bA Try.prog Try.f83=some L.ck:=by kernel_rfl
theorem F.ck:Try.prog.funcs[N.ck]? = some Try.f83:=Try.func83
abbrev N.cI:Nat:=84
def L.cI:LFn:=
⟨[.tmp 2,.tmp 3],(.seq (.reg false (.fin [2,3] [(2,.con (.int .i64 0)),(3,.con (.bool false))] [])) (.seq (.seq (.reg false (.fin [5,6,7,8,9,10] [(10,(.bin (.cmp .eql) (.un .len (.un .load (.un (.fld 5) (.un .nilPtr (.tmp 0))))) (.con (.int .i64 0))))] [])) (.cond (.tmp 10) [10] (.seq (.reg false (.fin [2,3] [(2,.con (.int .i64 0)),(3,.con (.bool false))] [])) .ret) .skip)) (.seq (.reg false (.loud [11,12,13,14,15,16] [] [(11,.tmp 0),(16,(.un .len (.un .load (.un (.fld 5) (.un .nilPtr (.tmp 0))))))] none [] false (.call ⟨.value (.func 33),#[.tmp 11,.tmp 16],#[72,3]⟩) 3 (some 17) true (.fin [4] [(4,.tmp 17)] []))) (.seq (.seq (.reg false (.loud [18] [] [(18,.tmp 0)] none [] false (.call ⟨.value (.func 33),#[.tmp 18,.const (.int .i64 3)],#[72,3]⟩) 3 (some 19) true (.fin [20] [(20,.bin (.cmp .eql) (.tmp 19) (.con (.int .i64 0)))] []))) (.cond (.tmp 20) [20] (.reg false (.fin [21,22,23,24,25,26,4] [(4,(.bin (.arith .sub) (.un .len (.un .load (.un (.fld 5) (.un .nilPtr (.tmp 0))))) (.con (.int .i64 1))))] [])) .skip)) (.seq (.reg false (.fin [27,28,29,30,31,32,33,2,3] [(2,(.un .load (.bin (.idx 1) (.un .load (.un (.fld 5) (.un .nilPtr (.tmp 0)))) (.tmp 4)))),(3,.con (.bool true))] [])) .ret)))))⟩
theorem E.cI:bA Try.prog Try.f84=some L.cI:=by kernel_rfl
theorem F.cI:Try.prog.funcs[N.cI]? = some Try.f84:=Try.func84
abbrev N.bV:Nat:=87
def L.bV.l2:LC:=
 (.seq (.reg false (.fin [18] [(18,.bin (.cmp .lss) (.tmp 17) (.tmp 16))] [])) (.seq (.cond (.tmp 18) [18] .skip (.exit 2)) (.seq (.block 3 (.seq (.reg false (.fin [19,20,6] [(6,.un .load (.bin (.idx 1) (.tmp 15) (.tmp 17)))] [])) (.seq (.reg false (.loud [21,22,23] [] [(21,.tmp 0),(22,.tmp 3),(23,.tmp 6)] none [] false (.call ⟨.value (.tmp 21),#[.tmp 22,.tmp 23],#[3,3]⟩) 4 (some 24) true (.fin [25] [(25,.un .not (.tmp 24))] []))) (.cond (.tmp 25) [25] .ret .skip)))) (.reg false (.fin [26,17] [(17,.bin (.arith .add) (.tmp 17) (.con (.int .i64 1)))] [])))))
def L.bV.l1:LC:=
 (.seq (.reg false (.fin [11] [(11,.bin (.cmp .lss) (.tmp 10) (.tmp 9))] [])) (.seq (.cond (.tmp 11) [11] .skip (.exit 0)) (.seq (.block 1 (.seq (.reg false (.fin [12,13,14,3,4] [(3,.tmp 10),(4,.un .load (.bin (.idx 1) (.tmp 8) (.tmp 10)))] [])) (.seq (.reg false (.fin [15,16,17] [(15,.tmp 4),(16,.un .len (.tmp 4)),(17,.con (.int .i64 0))] [])) (.block 2 (.loop L.bV.l2))))) (.reg false (.fin [27,10] [(10,.bin (.arith .add) (.tmp 10) (.con (.int .i64 1)))] [])))))
def L.bV:LFn:=
⟨[],(.seq (.reg false (.loud [7] [] [(7,.un .load (.tmp 1))] none [] false (.call ⟨.value (.func 78),#[.tmp 7],#[99]⟩) 99 (some 8) true (.fin [9,10] [(9,.un .len (.tmp 8)),(10,.con (.int .i64 0))] []))) (.block 0 (.loop L.bV.l1)))⟩
theorem E.bV:bA Try.prog Try.f87=some L.bV:=by kernel_rfl
theorem F.bV:Try.prog.funcs[N.bV]? = some Try.f87:=Try.func87
end Go.Proofs.Ytfelpjfopgiabaa
namespace Go.Proofs
open Go.Shelf
def Try.xk:Go.Shelf.Ren:=⟨fun | 189=>85 | 125=>89 | 257=>88 | 128=>99 | 129=>100 | 294=>90 | 295=>91 | 296=>92 | 297=>93 | 298=>94 | 299=>95 | 216=>96 | 300=>97 | 301=>98 | 328=>101 | 329=>102 | 330=>103 | 331=>104 | 332=>105 | 215=>106 | 343=>107 | n=>n,fun | 28=>28 | 3=>3 | 46=>137 | 0=>0 | 51=>144 | 53=>146 | 4=>4 | 183=>139 | 182=>138 | 131=>132 | 5=>5 | 9=>9 | 218=>147 | 222=>151 | 228=>153 | 229=>107 | n=>n,fun | n=>n⟩
theorem Try.zB:Go.Proofs.Lays.n189 Try.prog Try.xk:={
 mixed:=by kernel_rfl
 f125:=Try.func89.trans (congrArg some (by kernel_rfl))
 f128:=Try.func99.trans (congrArg some (by kernel_rfl))
 f129:=Try.func100.trans (congrArg some (by kernel_rfl))
 f189:=Try.func85.trans (congrArg some (by kernel_rfl))
 f215:=Try.func106.trans (congrArg some (by kernel_rfl))
 f216:=Try.func96.trans (congrArg some (by kernel_rfl))
 f257:=Try.func88.trans (congrArg some (by kernel_rfl))
 f294:=Try.func90.trans (congrArg some (by kernel_rfl))
 f295:=Try.func91.trans (congrArg some (by kernel_rfl))
 f296:=Try.func92.trans (congrArg some (by kernel_rfl))
 f297:=Try.func93.trans (congrArg some (by kernel_rfl))
 f298:=Try.func94.trans (congrArg some (by kernel_rfl))
 f299:=Try.func95.trans (congrArg some (by kernel_rfl))
 f300:=Try.func97.trans (congrArg some (by kernel_rfl))
 f301:=Try.func98.trans (congrArg some (by kernel_rfl))
 f328:=Try.func101.trans (congrArg some (by kernel_rfl))
 f329:=Try.func102.trans (congrArg some (by kernel_rfl))
 f330:=Try.func103.trans (congrArg some (by kernel_rfl))
 f331:=Try.func104.trans (congrArg some (by kernel_rfl))
 f332:=Try.func105.trans (congrArg some (by kernel_rfl))
 f343:=Try.func107.trans (congrArg some (by kernel_rfl))
 t0:=Try.underlying0
 a0:=Try.isAgg0
 z0:=Try.sizeOf0
 v0:=Try.zeroValue0
 t3:=Try.underlying3
 a3:=Try.isAgg3
 z3:=Try.sizeOf3
 v3:=Try.zeroValue3
 t4:=Try.underlying4
 a4:=Try.isAgg4
 z4:=Try.sizeOf4
 v4:=Try.zeroValue4
 t5:=Try.underlying5
 a5:=Try.isAgg5
 z5:=Try.sizeOf5
 v5:=Try.zeroValue5
 t9:=Try.underlying9
 a9:=Try.isAgg9
 z9:=Try.sizeOf9
 v9:=Try.zeroValue9
 t28:=Try.underlying28
 a28:=Try.isAgg28
 z28:=Try.sizeOf28
 v28:=Try.zeroValue28
 t46:=Try.underlying137
 a46:=Try.isAgg137
 z46:=Try.sizeOf137
 v46:=Try.zeroValue137
 t51:=Try.underlying144
 a51:=Try.isAgg144
 z51:=Try.sizeOf144
 v51:=Try.zeroValue144
 t53:=Try.underlying146
 a53:=Try.isAgg146
 z53:=Try.sizeOf146
 v53:=Try.zeroValue146
 t131:=Try.underlying132
 a131:=Try.isAgg132
 z131:=Try.sizeOf132
 v131:=Try.zeroValue132
 t182:=Try.underlying138
 a182:=Try.isAgg138
 z182:=Try.sizeOf138
 v182:=Try.zeroValue138
 t183:=Try.underlying139
 a183:=Try.isAgg139
 z183:=Try.sizeOf139
 v183:=Try.zeroValue139
 t218:=Try.underlying147
 a218:=Try.isAgg147
 z218:=Try.sizeOf147
 v218:=Try.zeroValue147
 t222:=Try.underlying151
 a222:=Try.isAgg151
 z222:=Try.sizeOf151
 v222:=Try.zeroValue151
 t228:=Try.underlying153
 a228:=Try.isAgg153
 z228:=Try.sizeOf153
 v228:=Try.zeroValue153
 t229:=Try.underlying107
 a229:=Try.isAgg107
 z229:=Try.sizeOf107
 v229:=Try.zeroValue107 }
open Go.Sort Go.RowKit in
theorem Try.slices_Sort_int (blk off cap:Nat) (zs:List Int) (w:World) (hH:Holds (Value.int .i64) w blk off zs.toArray) (hblk:blk<w.heap.size) (hsz:zs.length<4611686018427387904) :
  Calls Try.prog 85 #[.slice (some ⟨blk,off,none⟩) zs.length cap] w fun e w'=>
   e = .returned (.tuple #[])∧∃ n os,w'=grow (putRow (Value.int .i64) (Sort.ahead w n) blk off (zs.mergeSort fun x y=>decide (x≤y)).toArray) os:=Any.slices_Sort_int Try.zB blk off cap zs w hH hblk hsz
def Try.yn:Go.Shelf.Ren:=⟨fun | 112=>80 | n=>n,fun | 28=>28 | 3=>3 | 4=>4 | 0=>0 | n=>n,fun | n=>n⟩
theorem Try.zD:Go.Proofs.Lays.n112 Try.prog Try.yn:={
 mixed:=by kernel_rfl
 f112:=Try.func80.trans (congrArg some (by kernel_rfl))
 t0:=Try.underlying0
 a0:=Try.isAgg0
 z0:=Try.sizeOf0
 v0:=Try.zeroValue0
 t3:=Try.underlying3
 a3:=Try.isAgg3
 z3:=Try.sizeOf3
 v3:=Try.zeroValue3
 t4:=Try.underlying4
 a4:=Try.isAgg4
 z4:=Try.sizeOf4
 v4:=Try.zeroValue4
 t28:=Try.underlying28
 a28:=Try.isAgg28
 z28:=Try.sizeOf28
 v28:=Try.zeroValue28 }
open Go.RowKit Go.Lib Go.Sort in
open Go.RowKit Go.Lib Go.Sort in
theorem Try.slices_Reverse_int (blk off cap:Nat) (zs:List Int) (w:World) (hH:Holds (Value.int .i64) w blk off zs.toArray) (hsz:zs.length≤9223372036854775807) :
  Calls Try.prog 80 #[.slice (some ⟨blk,off,none⟩) zs.length cap] w fun e w'=>e = .returned (.tuple #[])∧∃ n,w'=putRow (Value.int .i64) (Sort.ahead w n) blk off zs.reverse.toArray:=Any.slices_Reverse_int Try.zD blk off cap zs w hH hsz
open Go.RowKit Go.Lib Go.Sort in
theorem Try.slices_Reverse_int_empty (a:Option Addr) (cap:Nat) (w:World) :
  Calls Try.prog 80 #[.slice a 0 cap] w fun e w'=>e = .returned (.tuple #[])∧w'=w:=Any.slices_Reverse_int_empty Try.zD a cap w
def Try.tz:Go.Shelf.Ren:=⟨fun | 20=>86 | n=>n,fun | 22=>28 | 3=>3 | 4=>4 | 0=>0 | n=>n,fun | n=>n⟩
theorem Try.tP:Go.Proofs.Lays2.n20 Try.prog Try.tz:={
 mixed:=by kernel_rfl
 f20:=Try.func86.trans (congrArg some (by kernel_rfl))
 t0:=Try.underlying0
 a0:=Try.isAgg0
 z0:=Try.sizeOf0
 v0:=Try.zeroValue0
 t3:=Try.underlying3
 a3:=Try.isAgg3
 z3:=Try.sizeOf3
 v3:=Try.zeroValue3
 t4:=Try.underlying4
 a4:=Try.isAgg4
 z4:=Try.sizeOf4
 v4:=Try.zeroValue4
 t22:=Try.underlying28
 a22:=Try.isAgg28
 z22:=Try.sizeOf28
 v22:=Try.zeroValue28
 i3:=by kernel_rfl }
open Go.RowKit Go.Lib Go.Sort in
open Go.RowKit Go.Lib Go.Sort in
theorem Try.slices_Compact_int (blk off cap:Nat) (zs:List Int) (w:World) (hH:Holds (Value.int .i64) w blk off zs.toArray) (hsz:zs.length≤9223372036854775807) (hcap:zs.length≤cap) :
  Calls Try.prog 86 #[.slice (some ⟨blk,off,none⟩) zs.length cap] w fun e w'=>e = .returned (.slice (some ⟨blk,off,none⟩) (Lib.compact zs).length cap)∧∃ q,w'=putRow (Value.int .i64) (Sort.ahead w q) blk off (Lib.compact zs++List.replicate (zs.length-(Lib.compact zs).length) 0).toArray:=Any.slices_Compact_int Try.tP blk off cap zs w hH hsz hcap
open Go.RowKit Go.Lib Go.Sort in
theorem Try.slices_Compact_int_empty (a:Option Addr) (cap:Nat) (w:World) :
  Calls Try.prog 86 #[.slice a 0 cap] w fun e w'=>e = .returned (.slice a 0 cap)∧w'=w:=Any.slices_Compact_int_empty Try.tP a cap w
open Go.RowKit Go.Lib in
open Go.RowKit Go.Lib in
open Go.RowKit Go.Lib Go.Sort in
open Go.RowKit Go.Lib Go.Sort in
open Go.RowKit Go.Sort in
theorem Try.slices_Sort_int_none (p:Option Addr) (cap:Nat) (w:World) :
  Calls Try.prog 85 #[.slice p 0 cap] w fun e w'=>e = .returned (.tuple #[])∧w'=w:=Any.slices_Sort_int_none Try.zB p cap w
end Go.Proofs
namespace Go.Proofs.Ytfelpjfopgiabaa
open Go Go.Lft
def I64 (x:Int):Prop:=-9223372036854775808≤x∧x≤9223372036854775807
theorem nB {W:View} {h:Heap} {e:TypeId} {v:Value} {l:List Int}:OwnT W h e v l↔l.length≤140737488355328∧(∀ x∈l,I64 x)∧((v = .slice none 0 0∧l=[])∨
  ∃ g cap cur,v = .slice (some ⟨g,0,none⟩) l.length cap∧h[g]? = some (.cells cur e (0,0))∧l.length≤cap∧cap≤maxLen∧cur.size=cap∧cur.toList.take l.length=l.map (.int .i64)):=by
 have hn:Rep.n Int=1:=rfl
 constructor
 ·rintro ⟨hb,xs,⟨hl,hown⟩,hel⟩
  rw [hn,Nat.mul_one] at hl
  have hel' : ∀ (i:Nat) (hi:i<l.length),xs[i]? = some (.int .i64 l[i])∧I64 l[i]:=fun i hi=>by
   obtain ⟨h1,h2⟩:=hel i hi
   rw [hn,Nat.mul_one] at h1
   have:(xs.drop i).take 1=[.int .i64 l[i]]:=h1
   have h3:((xs.drop i).take 1)[0]? = some (.int .i64 l[i]):=by rw [this];rfl
   rw [List.getElem?_take,if_pos (by decide),List.getElem?_drop] at h3
   exact ⟨by simpa using h3,h2⟩
  have hxs:xs=l.map (.int .i64):=by
   refine List.ext_getElem? fun i=>?_
   rcases Nat.lt_or_ge i l.length with hi | hi
   ·rw [(hel' i hi).1];simp [hi]
   ·rw [List.getElem?_eq_none (by omega),List.getElem?_eq_none (by simpa using hi)]
  refine ⟨hb,fun x hx=>?_,?_⟩
  ·obtain ⟨i,hi,rfl⟩:=List.getElem_of_mem hx
   exact (hel' i hi).2
  ·rcases hown with ⟨rfl,h0⟩ | ⟨g,cap,cur,rfl,hg,h1,h2,h3,h4⟩
   ·exact .inl ⟨rfl,List.eq_nil_of_length_eq_zero h0⟩
   ·rw [hn,Nat.mul_one] at h3 h4
    exact .inr ⟨g,cap,cur,rfl,hg,h1,h2,h3,by rw [h4,hxs]⟩
 ·rintro ⟨hb,hr,hown⟩
  refine ⟨hb,l.map (.int .i64),⟨by rw [hn];simp,?_⟩,fun i hi=>?_⟩
  ·rcases hown with ⟨rfl,rfl⟩ | ⟨g,cap,cur,rfl,hg,h1,h2,h3,h4⟩
   ·exact .inl ⟨rfl,rfl⟩
   ·exact .inr ⟨g,cap,cur,rfl,hg,h1,h2,by rw [hn,Nat.mul_one];exact h3,by rw [hn,Nat.mul_one];exact h4⟩
  ·rw [hn,Nat.mul_one]
   refine ⟨?_,hr _ (List.getElem_mem hi)⟩
   refine List.ext_getElem? fun j=>?_
   rw [List.getElem?_take]
   rcases Nat.lt_or_ge j 1 with hj | hj
   ·have:j=0:=by omega
    subst this
    simp [hi]
   ·rw [if_neg (by omega)];simp;omega
theorem pJ {w:World} {g cap:Nat} {cur:Array Value} {e:TypeId} {l:List Int} (hg:w.heap[g]? = some (.cells cur e (0,0))) (h1:l.length≤cur.size) (h4:cur.toList.take l.length=l.map (.int .i64)):Go.Sort.Holds (Value.int .i64) w g 0 l.toArray:=by
 intro j hj
 simp only [List.size_toArray] at hj
 have hc:cur[j]? = some (.int .i64 l[j]):=by
  have:=congrArg (fun x:List Value=>x[j]?) h4
  simp only [List.getElem?_take,hj,if_true,List.getElem?_map] at this
  simpa [hj] using this
 constructor
 ·simp [World.cell?,hg,hc,hj]
 ·simp [World.frozen?,hg]
theorem uS {W:View} {w:World} {h':Heap} {e:TypeId} {v:Value} {g cap:Nat} {cur:Array Value} {l d:List Int} (hv:v = .slice (some ⟨g,0,none⟩) l.length cap) (hg:w.heap[g]? = some (.cells cur e (0,0))) (h1:l.length≤cap) (h2:cap≤maxLen) (h3:cur.size=cap)
  (hd:d.length=l.length) (hb:l.length≤140737488355328) (hr : ∀ x∈d,I64 x) (n:Nat) (os:Array Obj) (hh:h'=(Go.Sort.grow (Go.Sort.putRow (Value.int .i64) (Go.Sort.ahead w n) g 0 d.toArray) os).heap) :
  OwnT W h' e v d∧Kept w.heap h' v.ownBlock:=by
 subst hv
 have hlt:g<w.heap.size:=(Array.getElem?_eq_some_iff.1 hg).1
 have hcur:(Go.Sort.putCells (Value.int .i64) 0 d.toArray cur).toList.take d.length=d.map (.int .i64):=by
  refine List.ext_getElem? fun j=>?_
  rw [List.getElem?_take]
  split
  ·rename_i hj
   have hjc:j<cur.size:=by omega
   simp [Go.Sort.putCells,hj,hjc]
  ·rename_i hj
   exact (List.getElem?_eq_none (by simpa using Nat.le_of_not_lt hj)).symm
 have hblk : ∀ k,k<w.heap.size→h'[k]? = if g=k then (w.heap[k]?).map (Go.Sort.onCells (Go.Sort.putCells (Value.int .i64) 0 d.toArray)) else w.heap[k]?:=by
  intro k hk
  subst hh
  simp only [Go.Sort.grow,Go.Sort.putRow,Go.Sort.mapBlock,Go.Sort.ahead]
  rw [Array.getElem?_append_left (by simpa using hk),Array.getElem?_modify]
 have hsz:w.heap.size≤h'.size:=by subst hh;simp [Go.Sort.grow,Go.Sort.putRow,Go.Sort.mapBlock,Go.Sort.ahead]
 refine ⟨nB.2 ⟨by omega,hr,.inr ⟨g,cap,Go.Sort.putCells (Value.int .i64) 0 d.toArray cur,by rw [hd],?_,by omega,h2,by simp [Go.Sort.putCells,h3],hcur⟩⟩,hsz,fun k hk hne=>?_⟩
 ·rw [hblk g hlt,if_pos rfl,hg];rfl
 ·rw [hblk k hk,if_neg (fun e=>hne (by simp [Value.ownBlock,e]))]
theorem og (w:World) (n g:Nat) (d:Array Int) (os:Array Obj):Same w (Go.Sort.grow (Go.Sort.putRow (Value.int .i64) (Go.Sort.ahead w n) g 0 d) os):=
 ⟨rfl,rfl,rfl,by simp [Go.Sort.grow,Go.Sort.putRow,Go.Sort.mapBlock,Go.Sort.ahead],fun b hb=>by
  have hlt:=(Array.getElem?_eq_some_iff.1 hb).1
  simp only [Go.Sort.grow,Go.Sort.putRow,Go.Sort.mapBlock,Go.Sort.ahead]
  rw [Array.getElem?_append_left (by simpa using hlt),Array.getElem?_modify]
  split
  ·rw [hb];rfl
  ·exact hb⟩
def mI (l:List Int):List Int:=l.mergeSort fun x y=>decide (x≤y)
theorem Dx {W:View} {h:Heap} {e:TypeId} {v:Value} {l:List Int} (o:OwnT W h e v l):aG Try.prog N.slices_Sort_int #[v] h (fun _ h'=>OwnT W h' e v (mI l)∧Kept h h' v.ownBlock):=by
 rintro w rfl
 obtain ⟨hb,hr,hown⟩:=nB.1 o
 have hlen:(mI l).length=l.length:=List.length_mergeSort _
 have hr' : ∀ x∈mI l,I64 x:=fun x hx=>hr x (List.mem_mergeSort.1 hx)
 rcases hown with ⟨rfl,rfl⟩ | ⟨g,cap,cur,rfl,hg,h1,h2,h3,h4⟩
 ·refine (Try.slices_Sort_int_none none 0 w).mono ?_
  rintro e' w' ⟨rfl,rfl⟩
  exact ⟨_,rfl,⟨by simpa [mI] using o,Kept.refl _ _⟩,Same.refl _⟩
 ·refine (Try.slices_Sort_int g 0 cap l w (pJ (cap:=cap) hg (by omega) h4) (Array.getElem?_eq_some_iff.1 hg).1 (by omega)).mono ?_
  rintro e' w' ⟨rfl,n,os,rfl⟩
  exact ⟨_,rfl,uS rfl hg h1 h2 h3 hlen hb hr' n os rfl,og _ _ _ _ _⟩
theorem CK {W:View} {h:Heap} {e:TypeId} {g n cap:Nat} {l:List Int} (o:OwnT W h e (.slice (some ⟨g,0,none⟩) l.length cap) l) (hn:n≤l.length):OwnT W h e (.slice (some ⟨g,0,none⟩) n cap) (l.take n):=by
 obtain ⟨hb,hr,hown⟩:=nB.1 o
 have hl:(l.take n).length=n:=by simp;omega
 rcases hown with ⟨hv,_⟩ | ⟨g',cap',cur,hv,hg,h1,h2,h3,h4⟩
 ·cases hv
 ·cases hv
  refine nB.2 ⟨by omega,fun x hx=>hr x (List.mem_of_mem_take hx),.inr ⟨g,cap,cur,by rw [hl],hg,by omega,h2,h3,?_⟩⟩
  rw [hl,List.map_take,←h4,List.take_take,Nat.min_eq_left hn]
theorem qh {l:List Int}:(Lib.compact l).length≤l.length:=by
 unfold Lib.compact Lib.compactUpTo
 rw [List.length_map]
 exact Nat.le_trans (List.length_filter_le _ _) (by simp)
theorem mG {l:List Int} {x:Int} (hx:x∈Lib.compact l):x∈l:=by
 unfold Lib.compact Lib.compactUpTo at hx
 simp only [List.mem_map,List.mem_filter,List.mem_range] at hx
 obtain ⟨i,⟨hi,_⟩,rfl⟩:=hx
 simp [hi]
theorem yZ {W:View} {h:Heap} {e:TypeId} {v:Value} {l:List Int} (o:OwnT W h e v l):aG Try.prog N.slices_Compact_int #[v] h (fun v' h'=>OwnT W h' e v' (Lib.compact l)∧jL h h' v v'):=by
 rintro w rfl
 obtain ⟨hb,hr,hown⟩:=nB.1 o
 have hlen:=qh (l:=l)
 rcases hown with ⟨rfl,rfl⟩ | ⟨g,cap,cur,rfl,hg,h1,h2,h3,h4⟩
 ·refine (Try.slices_Compact_int_empty none 0 w).mono ?_
  rintro e' w' ⟨rfl,rfl⟩
  exact ⟨_,rfl,⟨o,Kept.refl _ _,.inl rfl⟩,Same.refl _⟩
 ·refine (Try.slices_Compact_int g 0 cap l w (pJ (cap:=cap) hg (by omega) h4) (by omega) h1).mono ?_
  rintro e' w' ⟨rfl,n,hw⟩
  have hw':w'=Go.Sort.grow (Go.Sort.putRow (Value.int .i64) (Go.Sort.ahead w n) g 0 (Lib.compact l++List.replicate (l.length-(Lib.compact l).length) 0).toArray) #[]:=by rw [hw];simp
  have hdl:(Lib.compact l++List.replicate (l.length-(Lib.compact l).length) 0).length=l.length:=by simp;omega
  have hrd : ∀ x∈(Lib.compact l++List.replicate (l.length-(Lib.compact l).length) (0:Int)),I64 x:=fun x hx=>by
   rcases List.mem_append.1 hx with hx | hx
   ·exact hr x (mG hx)
   ·obtain ⟨_,rfl⟩:=List.mem_replicate.1 hx;exact ⟨by omega,by omega⟩
  obtain ⟨o2,k2⟩:=uS (W:=W) (h':=w'.heap) rfl hg h1 h2 h3 hdl hb hrd n #[] (by rw [hw'])
  have o3:=CK (n:=(Lib.compact l).length) (by rw [hdl];exact o2) (by simp)
  rw [List.take_left'  rfl] at o3
  exact ⟨_,rfl,⟨o3,k2,.inl rfl⟩,by rw [hw'];exact og _ _ _ _ _⟩
theorem zb {W:View} {h:Heap} {e:TypeId} {v:Value} {l:List Int} (o:OwnT W h e v l):aG Try.prog N.slices_Reverse_int #[v] h (fun _ h'=>OwnT W h' e v l.reverse∧Kept h h' v.ownBlock):=by
 rintro w rfl
 obtain ⟨hb,hr,hown⟩:=nB.1 o
 rcases hown with ⟨rfl,rfl⟩ | ⟨g,cap,cur,rfl,hg,h1,h2,h3,h4⟩
 ·refine (Try.slices_Reverse_int_empty none 0 w).mono ?_
  rintro e' w' ⟨rfl,rfl⟩
  exact ⟨_,rfl,⟨o,Kept.refl _ _⟩,Same.refl _⟩
 ·refine (Try.slices_Reverse_int g 0 cap l w (pJ (cap:=cap) hg (by omega) h4) (by omega)).mono ?_
  rintro e' w' ⟨rfl,n,hw⟩
  have hw':w'=Go.Sort.grow (Go.Sort.putRow (Value.int .i64) (Go.Sort.ahead w n) g 0 l.reverse.toArray) #[]:=by rw [hw];simp
  exact ⟨_,rfl,uS rfl hg h1 h2 h3 (by simp) hb (fun x hx=>hr x (by simpa using hx)) n #[] (by rw [hw']),by rw [hw'];exact og _ _ _ _ _⟩
end Go.Proofs.Ytfelpjfopgiabaa
namespace Go.Proofs.Ytfelpjfopgiabaa
open Go Go.Lft
def mL (row:List Int) (n:Int) (i:Nat):Bool:=decide (0≤nth row i)&&decide (nth row i<n)
def jI (row:List Int) (n:Int):List Int:=Lib.compact (mI (sift (mL row n) (fun i=>nth row i) row.length))
theorem z7 {row:List Int} {n:Int} {vr:Value} {h:Heap} (hr:SlRd (vw h) vr row) (hs:row.length≤1000000) :
  aG Try.prog N.ei #[vr,.int .i64 n] h (fun v h'=>∃ W,Mine nothing h h' W T.int v (jI row n)):=by
 refine ay (args:=[vr,.int .i64 n]) follows F.ei E.ei (Nat.le_of_ble_eq_true (by kernel_rfl)) fun K hK=>?_
 simp [L.ei,hr.len]
 refine a8 [0,1,5,8,9,10] (fun (v:Value) k=>[vr,.int .i64 n,v,vr,.int .i64 row.length,.int .i64 k]) (fun v k h1=>Mine nothing h h1 nothing T.int v (sift (mL row n) (fun i=>nth row i) k)) row.length (.slice none 0 0)
  rfl (by omega) rfl (Mine.start (fun _ _ h=>by cases h)) (fun _ _=>rfl) (fun v k h1 hk m=>by simp) ?_ ?_
 ·intro v k h1 hlt m K2 hK2
  have hr1:=hr.mono m.old
  have hrange:=hr.range hlt
  have:=kW (p:=mL row n) (x:=fun i=>nth row i) k
  simp (disch:=omega) [hr1.idx1 rfl,hr1.int (View.le_refl _),iV,-Bool.and_eq_true,-Bool.and_eq_false_imp]
  refine ⟨fun he=>?_,fun he=>hK2 v _ _ rfl rfl (by rw [km (show mL row n k=false from he)];exact m)⟩
  refine m.push El.aP (by simp<;>rfl) (jQ hrange.1 hrange.2) (by omega) (by omega) (fun _=>by simp) (fun _=>by simp) fun u v' h3 m'=>hK2 v' _ _ rfl rfl (by rw [lu (show mL row n k=true from he)];exact m')
 ·intro v h1 m
  simp
  refine aj (by kernel_rfl) (Dx m.own) ?_
  rintro _ h2 ⟨o2,k2⟩
  have m2:=m.kV o2 ⟨k2,.inl rfl⟩
  try simp
  refine aj (by kernel_rfl) (yZ m2.own) ?_
  rintro v3 h3 ⟨o3,k3⟩
  have m3:=m2.kV o3 k3
  try simp
  exact hK _ _ ⟨_,m3⟩
def cP (g:Gr):Gr:=rows (fun a=>jI (nth g a) g.length) g.length
def Sm (g:Gr):Prop:=g.length≤1000000∧∀ i,i<g.length→(nth g i).length≤1000000
theorem B9 {α:Type} [Rep α] {W:View}:Rep.rd W (Value.slice none 0 0).cells.toList ([]:List α):=⟨.slice none 0 0,rfl,none,0,rfl,by simp,by simp,.inl rfl⟩
theorem wH {g:Gr} {vg:Value} {h:Heap} (hg:SlRd (vw h) vg g) (hs:Sm g) :
  aG Try.prog N.dI #[vg] h (fun v h'=>∃ W,Mine nothing h h' W T.aP v (cP g)):=by
 refine ay (args:=[vg]) follows F.dI E.dI (Nat.le_of_ble_eq_true (by kernel_rfl)) fun K hK=>?_
 have hs1:=hs.1
 simp [L.dI,hg.len]
 refine Mine.made (α:=List Int) (V:=nothing) (W:=nothing) (h0:=h) (n:=g.length) (d:=[]) El.iz (View.le_refl _) (fun _ _ h=>by cases h) (Old.nothing _ _) (by simp<;>rfl) (by simp<;>rfl) B9 (by omega) (by omega) fun v h1 m _ _=>?_
 refine a8 [0,3,9,10,11] (fun (_:View) k=>[vg,v,vg,.int .i64 g.length,.int .i64 k]) (fun W k h2=>Mine nothing h h2 W T.aP v (rows (fun a=>jI (nth g a) g.length) k++List.replicate (g.length-k) [])) g.length nothing
  rfl (by omega) rfl m (fun _ _=>rfl) (fun v k h1 hk m=>by simp) ?_ ?_
 ·intro W a h2 hlta m K2 hK2
  have hg2:=hg.mono m.old
  obtain ⟨rv,hrv⟩:=hg2.rows
  obtain ⟨cv,rr⟩:=hrv a hlta
  have hl5:(rows (fun a=>jI (nth g a) g.length) a++List.replicate (g.length-a) ([]:List Int)).length=g.length:=by simp;omega
  simp (disch:=omega) [hg2.idx1 rfl,cv _ (View.le_refl _),hg.len]
  refine aj (by kernel_rfl) (z7 rr (hs.2 a hlta)) ?_
  rintro r h3 ⟨W',mr⟩
  have m3:=m.ext mr.old
  have hr:=mr.fresh.mono (gY W _ _)
  simp (disch:=omega) [m3.now.idx1 rfl]
  refine m3.put1 (α:=List Int) (i:=a) (by kernel_rfl) rfl (by simp) (by simp<;>rfl) (by omega) (fH.2 hr) fun h4 m4=>hK2 (grow W h2 h3) _ _ rfl rfl ?_
  rw [kl (x:=fun a=>jI (nth g a) g.length) hlta] at m4
  exact m4
 ·intro W h2 m
  simp at m
  simp
  exact hK _ _ ⟨_,m⟩
theorem rM {l:List Int} {x:Int} {v:Value} {h:Heap} {b:Addr} (hl:SlRd (vw h) v l) (hb:an (vw h) b=some v) :
  aG Try.prog N.ck #[.int .i64 x,.pointer (some b)] h (fun u h'=>u = .bool (decide (0≤x)&&decide (x<l.length))∧h'=h):=by
 refine ay (args:=[.int .i64 x,.pointer (some b)]) follows F.ck E.ck (Nat.le_of_ble_eq_true (by kernel_rfl)) fun K hK=>?_
 simp [L.ck,hb,hl.len]
 exact hK _ _ ⟨rfl,rfl⟩
theorem vJ {l:List Int} {a b:Int} {v:Value} {h:Heap} (hl:SlRd (vw h) v l) :
  aG Try.prog N.cy #[v,.int .i64 a,.int .i64 b] h (fun u h'=>u = .bool (dA l a b)∧(vw h).le (vw h')):=by
 refine ay (args:=[v,.int .i64 a,.int .i64 b]) follows F.cy E.cy (Nat.le_of_ble_eq_true (by kernel_rfl)) fun K hK=>?_
 have bl:=hl.bound
 simp [L.cy]
 refine jY (v:=v) (by simp) ?_
 have hvc:v.cells = #[v]:=by obtain ⟨_,_,rfl,_⟩:=hl;rfl
 rw [hvc]
 have hle:=bM h (.cells #[v] T.aP)
 have hl:=hl.mono hle
 have hb:an (vw (h.push (.cells #[v] T.aP))) ⟨h.size,0,none⟩=some v:=by simp [an,vw]
 generalize h.push (.cells #[v] T.aP)=h1 at hle hl hb
 generalize h.size=B at hb
 refine jz (ops:=[.tmp 10]) rfl (by kernel_rfl) (by simpa using rM (x:=a) hl hb) ?_
 rintro _ _ ⟨rfl,rfl⟩
 cases ha:decide (0≤a)&&decide (a<l.length) with
 | false=>
  have hsp:dA l a b=false:=by
   simp only [Bool.and_eq_false_iff,decide_eq_false_iff_not] at ha
   simp [dA];intros;omega
  rw [hsp] at hK
  simp [grdP]
  exact hK _ _ ⟨rfl,hle⟩
 | true=>
  simp only [Bool.and_eq_true,decide_eq_true_eq] at ha
  simp [grdP]
  refine jz (ops:=[.tmp 15]) rfl (by kernel_rfl) (by simpa using rM (x:=b) hl hb) ?_
  rintro _ _ ⟨rfl,rfl⟩
  cases hbb:decide (0≤b)&&decide (b<l.length) with
  | false=>
   have hsp:dA l a b=false:=by
    simp only [Bool.and_eq_false_iff,decide_eq_false_iff_not] at hbb
    simp [dA];intros;omega
   rw [hsp] at hK
   simp
   exact hK _ _ ⟨rfl,hle⟩
  | true=>
   simp only [Bool.and_eq_true,decide_eq_true_eq] at hbb
   have hsp:dA l a b=mA l a (l.length+1) b:=by simp [dA,ha,hbb]
   rw [hsp] at hK
   simp (disch:=omega) [hb,hl.len]
   refine a8 [1,2,3,6,7,21,22] (fun (c:Int) k=>[.int .i64 a,.int .i64 c,.pointer (some ⟨B,0,none⟩),.bool false,.func (.func N.ck) #[] #[.pointer (some ⟨B,0,none⟩)],.int .i64 ((l.length:Int)+1),.int .i64 k])
    (fun c k h2=>h2=_∧mA l a (l.length+1-k) c=mA l a (l.length+1) b) (l.length+1) b
    rfl (by omega) rfl ⟨rfl,rfl⟩ (fun _ _=>rfl) (fun v k h1 hk m=>by simp) ?_ ?_
   ·rintro c k h2 hlt ⟨rfl,hch⟩ K2 hK2
    have hfu:l.length+1-k=(l.length-k)+1:=by omega
    rw [hfu,mA] at hch
    simp
    refine ⟨fun he=>hK _ _ ⟨by rw [←hch,if_pos he.symm],hle⟩,fun he=>?_⟩
    rw [if_neg (fun e=>he e.symm)] at hch
    refine jz (ops:=[.tmp 28]) rfl (by kernel_rfl) (by simpa using rM (x:=c) hl hb) ?_
    rintro _ _ ⟨rfl,rfl⟩
    cases hc:decide (0≤c)&&decide (c<l.length) with
    | false=>
     simp only [Bool.and_eq_false_iff,decide_eq_false_iff_not] at hc
     simp
     exact hK _ _ ⟨by rw [←hch,if_pos (by omega)],hle⟩
    | true=>
     simp only [Bool.and_eq_true,decide_eq_true_eq] at hc
     rw [if_neg (by omega)] at hch
     simp (disch:=omega) [hb,hl.idx1 rfl,hl.int (View.le_refl _)]
     refine hK2 (nth l c.toNat) _ _ rfl rfl ⟨rfl,?_⟩
     rw [←hch];congr 1;omega
   ·rintro c h2 ⟨rfl,hch⟩
    rw [Nat.sub_self,mA] at hch
    simp
    exact hK _ _ ⟨by rw [←hch],hle⟩
end Go.Proofs.Ytfelpjfopgiabaa
namespace Go.Proofs.Ytfelpjfopgiabaa
open Go Go.Lft
def jm (idom number:List Int):Nat→Int→Int→Option Int
 | 0,_,_=>none
 | n+1,a,b=>
  if 0≤a∧a<number.length∧a<idom.length∧0≤b∧b<number.length∧b<idom.length then
   if nth number b.toNat<nth number a.toNat then jm idom number n (nth idom a.toNat) b
   else if nth number a.toNat<nth number b.toNat then jm idom number n a (nth idom b.toNat)
   else some a
  else none
theorem uk {idom number:List Int} {vi vn:Value} {h:Heap} {r:Int} (hi:SlRd (vw h) vi idom) (hn:SlRd (vw h) vn number) {n:Nat} {a b:Int} (hc:jm idom number n a b=some r) :
  aG Try.prog N.c7 #[vi,vn,.int .i64 a,.int .i64 b] h (fun u h'=>u = .int .i64 r∧h'=h):=by
 refine ay (args:=[vi,vn,.int .i64 a,.int .i64 b]) follows F.c7 E.c7 (Nat.le_of_ble_eq_true (by kernel_rfl)) fun K hK=>?_
 simp [L.c7]
 refine jv [0,1,2,3] (fun m ρ h'=>∃ (c d:Int),ρ=[(0,vi),(1,vn),(2,.int .i64 c),(3,.int .i64 d)]∧h'=h∧jm idom number m c d=some r) n ⟨a,b,rfl,rfl,hc⟩ ?_
 rintro m ρ h' ⟨c,d,rfl,rfl,hc⟩ K2 hK2
 cases m with
 | zero=>cases hc
 | succ m=>
  rw [jm] at hc
  split at hc
  case isFalse=>cases hc
  rename_i hr
  obtain ⟨r1,r2,r3,r4,r5,r6⟩:=hr
  simp (disch:=omega) [L.c7.l1,hn.idx1 rfl,hn.int (View.le_refl _)]
  refine ⟨fun h1=>?_,fun h1=>?_⟩
  ·rw [if_pos h1] at hc
   simp (disch:=omega) [hi.idx1 rfl,hi.int (View.le_refl _)]
   exact hK2 m _ _ (by omega) ⟨_,_,rfl,rfl,hc⟩
  ·rw [if_neg (by omega)] at hc
   refine ⟨fun h2=>?_,fun h2=>?_⟩
   ·rw [if_pos h2] at hc
    simp (disch:=omega) [hi.idx1 rfl,hi.int (View.le_refl _)]
    exact hK2 m _ _ (by omega) ⟨_,_,rfl,rfl,hc⟩
   ·rw [if_neg (by omega)] at hc
    cases hc
    exact hK _ _ ⟨rfl,rfl⟩
end Go.Proofs.Ytfelpjfopgiabaa
namespace Go.Proofs.Ytfelpjfopgiabaa
open Go Go.Lft
structure Wo (W:View) (h:Heap) (B:Nat) (vt vl:Value) (s:List Bool × List Int):Prop where
 wle:W.le (vw h)
 box:h[B]? = some (.cells #[vl] T.aP (0,0))
 wB:W B=none
 avt:Av W vt
 avl:Av W vl
 nt:vt.ownBlock≠some B
 nl:vl.ownBlock≠some B
 ne:vl.ownBlock=none∨vl.ownBlock≠vt.ownBlock
 ot:OwnT nothing h T.bool vt s.1
 ol:OwnT nothing h T.int vl s.2
 nn:vt.ownBlock=none∨vt.ownBlock≠vl.ownBlock
theorem Wo.lt {W:View} {h:Heap} {B:Nat} {vt vl:Value} {s:List Bool × List Int} (k:Wo W h B vt vl s):B<h.size:=(Array.getElem?_eq_some_iff.1 k.box).1
theorem Wo.ext {W:View} {h h':Heap} {B:Nat} {vt vl:Value} {s:List Bool × List Int} (k:Wo W h B vt vl s) (hle:(vw h).le (vw h')):Wo W h' B vt vl s:=
 {k with wle:=View.le_trans k.wle hle,box:=hle _ _ k.box,ot:=k.ot.ext hle,ol:=k.ol.ext hle }
theorem Wo.flag {W:View} {h h':Heap} {B:Nat} {vt vl:Value} {s:List Bool × List Int} {t':List Bool} (k:Wo W h B vt vl s) (o:OwnT nothing h' T.bool vt t') (m:jL h h' vt vt):Wo W h' B vt vl (t',s.2):=
 {k with
  wle:=(m.view k.wle k.avt).1
  box:=by rw [m.kept.block B k.lt (fun e=>k.nt e.symm)];exact k.box
  ot:=o
  ol:=k.ol.kept m.kept k.ne }
theorem Wo.yT {W:View} {h h' h'':Heap} {B:Nat} {vt vl vl':Value} {s:List Bool × List Int} {l':List Int} (k:Wo W h B vt vl s) (o:OwnT nothing h' T.int vl' l') (m:jL h h' vl vl') (hsz:h''.size=h'.size)
  (hB:h''[B]? = some (.cells #[vl'] T.aP (0,0))) (hoth : ∀ j,j≠B→h''[j]? = h'[j]?):Wo W h'' B vt vl' (s.1,l'):=by
 obtain ⟨hw',ha'⟩:=m.view k.wle k.avl
 have hlt:=k.lt
 have nl':vl'.ownBlock≠some B:=by
  rcases m.at_ with e | e
  ·rw [e];exact k.nl
  ·rw [e];intro e2;cases e2;omega
 have kep:Kept h' h'' (some B):=⟨by omega,fun j _ hj=>hoth j (fun e=>hj (by rw [e]))⟩
 refine ⟨fun b x hb=>?_,hB,k.wB,k.avt,ha',k.nt,nl',?_,?_,?_,?_⟩
 ·have hne:b≠B:=fun e=>by rw [e,k.wB] at hb;cases hb
  show h''[b]? = _
  rw [hoth b hne];exact hw' b x hb
 ·rcases m.at_ with e | e
  ·rw [e];exact k.ne
  ·right;rw [e];intro e2;have:=k.ot.lt e2.symm;omega
 ·exact (k.ot.kept m.kept k.nn).kept kep (.inr k.nt)
 ·exact o.kept kep (.inr nl')
 ·rcases m.at_ with e | e
  ·rw [e];exact k.nn
  ·right;rw [e];intro e2;have:=k.ot.lt e2;omega
theorem Wo.cell {W:View} {h:Heap} {B:Nat} {vt vl:Value} {s:List Bool × List Int} (k:Wo W h B vt vl s):an (vw h) ⟨B,0,none⟩=some vl:=by
 simp [an,vw,k.box]
def nx (rows:Gr) (a:Int):List Int:=nth rows a.toNat
theorem yd {rows:Gr} {vr:Value} {Tp R O:Addr} {B:Nat} (hs:rows.length≤1000000) (hin : ∀ i,i<rows.length→∀ j,j<(nth rows i).length→0≤nth (nth rows i) j∧nth (nth rows i) j<rows.length) : ∀ (n:Nat) {M:Nat} {W:View} {h:Heap} {vt vl:Value} {s:List Bool × List Int} {a:Int},Wo W h B vt vl s→SlRd W vr rows→
  an W Tp=some vt→an W R=some vr→an W O=some (.func (.func N.bN) #[] #[.pointer (some Tp),.pointer (some R),.pointer (some O),.pointer (some ⟨B,0,none⟩)])→0≤a→a<rows.length→s.1.length=rows.length→nth s.1 a.toNat=false→
  cR s.1≤n→s.2.length+cR s.1≤M→M≤1000000→
  aG Try.prog N.bN #[.int .i64 a,.pointer (some Tp),.pointer (some R),.pointer (some O),.pointer (some ⟨B,0,none⟩)] h (fun _ h'=>∃ vl',Wo W h' B vt vl' (ib (nx rows) n a s)∧(ib (nx rows) n a s).2.length+cR (ib (nx rows) n a s).1≤M)
 | 0,M,W,h,vt,vl,s,a,k,hg,hT,hR,hO,h0,h1,hl,hf,hc,hb,hM=>by
  exfalso
  have:=gX (t:=s.1) (i:=a.toNat) (by omega) hf
  omega
 | n+1,M,W,h,vt,vl,(t,l),a,k,hg,hT,hR,hO,h0,h1,hl,hf,hc,hb,hM=>by
  obtain ⟨i,rfl⟩:=Int.eq_ofNat_of_zero_le h0
  simp only at hl hf hc hb
  have hfs:=gX (t:=t) (i:=i) (by omega) (by simpa using hf)
  refine ay (args:=[.int .i64 i,.pointer (some Tp),.pointer (some R),.pointer (some O),.pointer (some ⟨B,0,none⟩)]) follows F.bN E.bN (Nat.le_of_ble_eq_true (by kernel_rfl)) fun K hK=>?_
  have hnow:SlRd (vw h) vt t:=k.ot.now (fun _ _ h=>by cases h)
  simp (disch:=omega) [L.bN,ah k.wle hT,hnow.idx1 rfl]
  refine oC (W:=nothing) (i:=i) (d:=true) (by kernel_rfl) (by simp [show Rep.n Bool=1 from rfl]) (by simp<;>rfl) k.ot (by simpa using by omega) Fh fun h2 o2 m2=>?_
  have k2:=k.flag o2 m2
  have hg2:=hg.mono k2.wle
  obtain ⟨rv,hrv⟩:=hg.rows
  obtain ⟨cv,rr⟩:=hrv i (by omega)
  have br:=rr.bound
  have hov:ib (nx rows) (n+1) i (t,l)=((up (cg (nx rows) n i) (nx rows i).length (t.set i true,l)).1,(up (cg (nx rows) n i) (nx rows i).length (t.set i true,l)).2++[(i:Int)]):=iX
  rw [hov] at hK
  have hnx:nx rows i=nth rows i:=rfl
  rw [hnx] at hK
  simp (disch:=omega) [ah k2.wle hR,hg2.idx1 rfl,cv _ k2.wle,rr.len]
  refine a8 [0,1,2,3,4,14,15,16] (fun (_:Value) j=>[.int .i64 i,.pointer (some Tp),.pointer (some R),.pointer (some O),.pointer (some ⟨B,0,none⟩),rv i,.int .i64 (nth rows i).length,.int .i64 j]) (fun vl j h4=>Wo W h4 B vt vl (up (cg (nx rows) n i) j (t.set i true,l))∧(up (cg (nx rows) n i) j (t.set i true,l)).2.length+cR (up (cg (nx rows) n i) j (t.set i true,l)).1≤M-1) (nth rows i).length vl
   rfl (by omega) rfl ⟨k2,by simp [up];omega⟩ (fun _ _=>rfl) (fun v j h4 hk m=>by simp) ?_ ?_
  ·rintro vl j h4 hltj ⟨k4,hb4⟩ K2 hK2
   have hinv:=qe (fun s:List Bool × List Int=>s.1.length=rows.length∧cR s.1≤n) (f:=cg (nx rows) n i) (fun k x hx=>by
    unfold cg;split
    ·exact hx
    ·exact mN n _ x hx) j (t.set i true,l) ⟨by simpa using hl,by simp only;omega⟩
   generalize hx:up (cg (nx rows) n i) j (t.set i true,l)=x at k4 hb4 hinv
   obtain ⟨e0,e1⟩:=hin i (by omega) j hltj
   have hr4:=rr.mono k4.wle
   have hnow4:=k4.ot.now (fun _ _ h=>by cases h)
   simp (disch:=omega) [ah k4.wle hT,hr4.idx1 rfl,hr4.int (View.le_refl _),hnow4.idx1 rfl,hnow4.bool (View.le_refl _),iV]
   refine ⟨fun he=>?_,fun he=>hK2 vl _ _ rfl rfl ?_⟩
   ·simp [ah k4.wle hO]
    refine jz (ops:=[.tmp 26]) rfl (by kernel_rfl) (by simpa using yd hs hin n k4 hg hT hR hO e0 e1 hinv.1 he hinv.2 hb4 (by omega)) ?_
    rintro _ h5 ⟨⟨vl',k5⟩,hb5⟩
    have hst:up (cg (nx rows) n i) (j+1) (t.set i true,l)=ib (nx rows) n (nth (nth rows i) j) x:=by rw [up,hx,cg,show nx rows i=nth rows i from rfl,he];rfl
    refine hK2 vl' _ _ rfl rfl ?_
    rw [hst]
    exact ⟨k5,hb5⟩
   ·have hst:up (cg (nx rows) n i) (j+1) (t.set i true,l)=x:=by rw [up,hx,cg,show nx rows i=nth rows i from rfl,he];rfl
    rw [hst];exact ⟨k4,hb4⟩
  ·rintro vl h4 ⟨k4,hb4⟩
   generalize hx:up (cg (nx rows) n i) (nth rows i).length (t.set i true,l)=x at k4 hb4 hK
   simp [k4.cell]
   refine j9 (α:=Int) (W:=nothing) El.aP (by simp<;>rfl) (jQ (by omega) (by omega)) fun u h5 hsrc hle5 _=>?_
   have k5:=k4.ext hle5
   refine bu El.aP (by simp) (by simp) k5.ol hsrc (by simp;omega) (by simp;omega) fun vl' h6 o6 m6=>?_
   have hB6:h6[B]? = some (.cells #[vl] T.aP (0,0)):=by rw [m6.kept.block B k5.lt (fun e=>k5.nl e.symm)];exact k5.box
   obtain ⟨hcells,hone⟩:=iO o6
   refine dO (g:=B) (o:=0) (n:=1) (v:=vl') (by kernel_rfl) (by simp) (by simp) (by rw [hcells];rfl) (by rw [hcells];simpa using hone) hB6 (by simp) fun h7 hsz7 ⟨row,hrow,he⟩ hoth=>hK _ _ ⟨vl',?_,?_⟩
   ·have hrow2:row = #[vl']:=by rw [←Array.toList_inj,he,hcells];rfl
    rw [hrow2] at hrow
    exact k5.yT o6 m6 hsz7 hrow hoth
   ·simp;omega
end Go.Proofs.Ytfelpjfopgiabaa
namespace Go.Proofs.Ytfelpjfopgiabaa
open Go Go.Lft
def bc (g:Gr):List Int:=jC (nx (cP g)) g.length
theorem fZ {g:Gr}:(cP g).length=g.length:=by simp [cP]
theorem pX {g:Gr} : ∀ i,i<(cP g).length→∀ j,j<(nth (cP g) i).length→0≤nth (nth (cP g) i) j∧nth (nth (cP g) i) j<(cP g).length:=by
 intro i hi j hj
 rw [fZ] at hi
 have hm:=bS hj
 rw [cP,eh hi,jI] at hm
 have h2:=mG hm
 rw [mI,List.mem_mergeSort,kF] at h2
 simp only [List.mem_map,List.mem_filter,List.mem_range,mL,Bool.and_eq_true,decide_eq_true_eq] at h2
 obtain ⟨k,⟨_,h3⟩,h4⟩:=h2
 rw [fZ]
 have e:nth (nth (cP g) i) j=nth (nth g i) k:=by rw [cP,eh hi,jI,h4,mI,kF]
 rw [e];exact h3
theorem wX {g:Gr} {vg:Value} {h:Heap} (hg:SlRd (vw h) vg g) (hs:Sm g) :
  aG Try.prog N.eO #[vg] h (fun v h'=>(vw h).le (vw h')∧SlRd (fresh h h') v (bc g)):=by
 refine ay (args:=[vg]) follows F.eO E.eO (Nat.le_of_ble_eq_true (by kernel_rfl)) fun K hK=>?_
 have hs1:=hs.1
 simp [L.eO,hg.len]
 refine ⟨fun h0=>?_,fun h0=>?_⟩
 ·exact hK _ _ ⟨View.le_refl _,⟨none,0,by simp [bc,jC,h0],by simp [bc,jC,h0],by simp [bc,jC,h0],.inl (by simp [bc,jC,h0])⟩⟩
 ·refine aj (by kernel_rfl) (wH hg hs) ?_
  rintro vr h1 ⟨W1,m1⟩
  have hvr:=m1.now
  obtain ⟨hrc,hro⟩:=iO m1.own
  refine pF (z:=.slice none 0 0) (by kernel_rfl) rfl (by kernel_rfl) hrc hro (fun _=>by simp) (fun _=>by simp) fun h2 hle2 hsz2 hR2=>?_
  refine lD (W:=nothing) (n:=g.length) (d:=false) El.lz (by simp<;>rfl) (by simp<;>rfl) rfl (by omega) (by omega) fun vt h3 o3 m3 hle3 hb3=>?_
  obtain ⟨htc,hto⟩:=iO o3
  refine pF (z:=.slice none 0 0) (by kernel_rfl) rfl (by kernel_rfl) htc hto (fun _=>by simp) (fun _=>by simp) fun h4 hle4 hsz4 hT4=>?_
  refine fk (z:=.slice none 0 0) (by kernel_rfl) ?_
  refine fk (z:=.nilFunc) (by kernel_rfl) ?_
  have hsz3:h2.size<h3.size:=o3.lt hb3
  have hle6:(vw h4).le (vw ((h4.push (.cells (Value.slice none 0 0).cells T.aP)).push (.cells Value.nilFunc.cells T.wK))):=View.le_trans (bM _ _) (bM _ _)
  refine dO (g:=h4.size+1) (o:=0) (n:=1) (e:=T.wK) (cur:=#[.nilFunc]) (v:=.func (.func N.bN) #[] #[.pointer (some ⟨h3.size,0,none⟩),.pointer (some ⟨h1.size,0,none⟩),.pointer (some ⟨h4.size+1,0,none⟩),.pointer (some ⟨h4.size,0,none⟩)]) (by kernel_rfl) (by simp) (by simp) rfl (by simp [Value.cells,Value.oneCell']) (by rw [show h4.size+1=(h4.push (.cells (Value.slice none 0 0).cells T.aP)).size by simp];exact Array.getElem?_push_size) (by simp) fun h7 hsz7 ⟨row,hrow,he⟩ hoth=>?_
  have hrow2:row = #[.func (.func N.bN) #[] #[.pointer (some ⟨h3.size,0,none⟩),.pointer (some ⟨h1.size,0,none⟩),.pointer (some ⟨h4.size+1,0,none⟩),.pointer (some ⟨h4.size,0,none⟩)]]:=by rw [←Array.toList_inj,he];rfl
  rw [hrow2] at hrow
  have hle7:(vw h4).le (vw h7):=fun b o hb=>by
   have hlt:=View.lt (View.le_refl (vw h4)) hb
   show h7[b]? = _
   rw [hoth b (by omega)]
   exact hle6 b o hb
  have hL7:h7[h4.size]? = some (.cells #[.slice none 0 0] T.aP (0,0)):=by
   rw [hoth _ (by omega),Array.getElem?_push,if_neg (by simp),Array.getElem?_push_size];rfl
  have hle27:=View.le_trans hle3 (View.le_trans hle4 hle7)
  have hle17:=View.le_trans hle2 hle27
  obtain ⟨W,hW⟩ : ∃ W:View,W=fun b=>if b=h2.size∨b=h4.size then none else h7[b]?:=⟨_,rfl⟩
  have hWle:W.le (vw h7):=by
   intro b o hb
   rw [hW] at hb
   simp only at hb
   split at hb
   ·cases hb
   ·exact hb
  have hW1:(vw h1).le W:=fun b o hb=>by
   have hlt:=View.lt (View.le_refl (vw h1)) hb
   rw [hW];simp only
   rw [if_neg (by omega)]
   exact hle17 b o hb
  have k7:Wo W h7 h4.size vt (.slice none 0 0) (List.replicate g.length false,[]):=
   ⟨hWle,hL7,by rw [hW];simp,fun b hb=>by rw [hb3] at hb;cases hb;rw [hW];simp,Av.nil _ _ _,by rw [hb3];intro e;simp only [Option.some.injEq] at e;omega,by simp [Value.ownBlock],.inl rfl,
    (o3.ext hle4).ext hle7,OwnT.nil ..,.inr (by rw [hb3];simp [Value.ownBlock])⟩
  have hT:an W ⟨h3.size,0,none⟩=some vt:=by
   have h5:W h3.size=some (.cells #[vt] T.lz (0,0)):=by rw [hW];simp only;rw [if_neg (by omega)];exact hle7 _ _ hT4
   simp [an,h5]
  have hR:an W ⟨h1.size,0,none⟩=some vr:=by
   have h5:W h1.size=some (.cells #[vr] T.iz (0,0)):=by rw [hW];simp only;rw [if_neg (by omega)];exact hle27 _ _ hR2
   simp [an,h5]
  have hO:an W ⟨h4.size+1,0,none⟩=some (.func (.func N.bN) #[] #[.pointer (some ⟨h3.size,0,none⟩),.pointer (some ⟨h1.size,0,none⟩),.pointer (some ⟨h4.size+1,0,none⟩),.pointer (some ⟨h4.size,0,none⟩)]):=by
   have h5:W (h4.size+1)=h7[h4.size+1]?:=by rw [hW];simp only;rw [if_neg (by omega)]
   rw [hrow] at h5
   simp [an,h5]
  have hvrW:=hvr.mono hW1
  have hlen:g.length≠0:=by simpa using h0
  have hcl:=fZ (g:=g)
  have hfa:cR (List.replicate g.length false)=g.length:=by simp [cR]
  simp [ah hWle hO]
  refine jz (ops:=[.const (.int .i64 0)]) (f:=N.bN) (caps:=#[.pointer (some ⟨h3.size,0,none⟩),.pointer (some ⟨h1.size,0,none⟩),.pointer (some ⟨h4.size+1,0,none⟩),.pointer (some ⟨h4.size,0,none⟩)]) (by simp) (by kernel_rfl)
   (by simpa using yd (by omega) pX g.length (M:=g.length) k7 hvrW hT hR hO (a:=0) (by omega) (by omega) (by simp [hcl]) (by rw [aq (by simp;omega)];simp) (by rw [hfa];exact Nat.le_refl _) (by simp [hfa]) (by omega)) ?_
  rintro _ h8 ⟨⟨vl,k8⟩,hb8⟩
  have hord:bc g=(ib (nx (cP g)) g.length 0 (List.replicate g.length false,[])).2.reverse:=by simp [bc,jC,h0]
  rw [hord] at hK
  generalize ib (nx (cP g)) g.length 0 (List.replicate g.length false,[])=s at k8 hb8 hK
  simp [k8.cell]
  refine aj (by kernel_rfl) (zb k8.ol) ?_
  rintro _ h9 ⟨o9,k9⟩
  have hB9:h9[h4.size]? = some (.cells #[vl] T.aP (0,0)):=by rw [k9.block _ k8.lt (fun e=>k8.nl e.symm)];exact k8.box
  have hc9:an (vw h9) ⟨h4.size,0,none⟩=some vl:=by simp [an,vw,hB9]
  have hW9:=k9.view k8.wle k8.avl
  have hle9:(vw h).le (vw h9):=View.le_trans (View.le_trans m1.old hW1) hW9
  have hav:Av (vw h) vl:=fun b hb=>by
   cases hx:vw h b with
   | none=>rfl
   | some o=>have:=(View.le_trans m1.old hW1) _ _ hx;rw [k8.avl b hb] at this;cases this
  simp [hc9]
  exact hK _ _ ⟨hle9,o9.fresh (fun _ _ h=>by cases h) hav⟩
end Go.Proofs.Ytfelpjfopgiabaa
namespace Go.Proofs.Ytfelpjfopgiabaa
open Go Go.Lft
def iQ (f:Nat→List Int) (n:Nat):List (Int × Int):=(List.range n).flatMap fun a=>(f a).map fun b=>((a:Int),b)
theorem gW {f:Nat→List Int} {n:Nat}:iQ f (n+1)=iQ f n++(f n).map fun b=>((n:Int),b):=by simp [iQ,List.range_succ]
theorem Am {f:Nat→List Int} {n m:Nat} (h:n≤m) : ∃ t,iQ f m=iQ f n++t:=by
 induction m with
 | zero=>exact ⟨[],by simp [show n=0 by omega]⟩
 | succ m ih=>
  rcases Nat.lt_or_ge n (m+1) with h1 | h1
  ·obtain ⟨t,ht⟩:=ih (by omega)
   exact ⟨t++(f m).map fun b=>((m:Int),b),by rw [gW,ht,List.append_assoc]⟩
  ·exact ⟨[],by simp [show n=m+1 by omega]⟩
theorem A4 {f:Nat→List Int} {n a j:Nat} (ha:a<n) (hj:j<(f a).length):(iQ f n)[(iQ f a).length+j]? = some ((a:Int),nth (f a) j):=by
 obtain ⟨t,ht⟩:=Am (f:=f) (n:=a+1) (m:=n) (by omega)
 rw [ht,gW,List.append_assoc,List.getElem?_append_right (by omega),Nat.add_sub_cancel_left,List.getElem?_append_left (by simpa using hj)]
 simp [aq hj,hj]
def gL (g:Gr):List (Int × Int):=iQ (fun a=>nth (cP g) a) g.length
def BZ (e:Int × Int):List Value:=[.int .i64 e.1,.int .i64 e.2]
def vz (g:Gr):List (List Value):=(gL g).map BZ
theorem CX {vg:Value} {h:Heap} :
  aG Try.prog N.eR #[vg] h (fun v h'=>v = .func (.func N.bV) #[] #[.pointer (some ⟨h.size,0,none⟩)]∧h'=h.push (.cells vg.cells T.iz)):=by
 refine ay (args:=[vg]) follows F.eR E.eR (Nat.le_of_ble_eq_true (by kernel_rfl)) fun K hK=>?_
 simp [L.eR]
 refine jY rfl ?_
 simp
 exact hK _ _ ⟨rfl,rfl⟩
theorem xL {g:Gr} {vg:Value} {V:View} {p:Addr} (hg:SlRd V vg g) (hp:an V p=some vg) (hs:Sm g):Iter Try.prog N.bV [.pointer (some p)] V (vz g):=by
 intro l J W h hM hV hVl h0 hround
 have hW:=(hM true 0).le h0
 refine ay (args:=[.func (.yield l) #[] #[],.pointer (some p)]) follows F.bV E.bV (Nat.le_of_ble_eq_true (by kernel_rfl)) fun K hK=>?_
 simp [L.bV,ah (View.le_trans hV hW) hp]
 refine aj (by kernel_rfl) (wH (hg.mono (View.le_trans hV hW)) hs) ?_
 rintro vr h1 ⟨W1,m1⟩
 have hJ1:=(hM true 0).grown h0 (Nat.le_refl _) m1.old
 have hr1:=m1.fresh.mono (gY W h h1)
 have hag : ∀ b,b<h.size→grow W h h1 b=W b:=fun b hb=>mY hb
 generalize grow W h h1=W2 at hJ1 hr1 hag
 have hlen:=hr1.bound
 have hcl:=fZ (g:=g)
 obtain ⟨rv,hrv⟩:=hr1.rows
 simp [hr1.len]
 have hall : ∀ {a j:Nat},a<(cP g).length→j<(nth (cP g) a).length→(vz g)[(iQ (fun a=>nth (cP g) a) a).length+j]? = some [.int .i64 a,.int .i64 (nth (nth (cP g) a) j)]:=by
  intro a j ha hj
  rw [vz,List.getElem?_map,gL,A4 (f:=fun a=>nth (cP g) a) (by omega) hj];rfl
 refine a8 [0,8,9,10] (fun (_:Unit) k=>[.func (.yield l) #[] #[],vr,.int .i64 (cP g).length,.int .i64 k]) (fun _ k h2=>J true (iQ (fun a=>nth (cP g) a) k).length W2 h2) (cP g).length ()
  rfl (by omega) rfl hJ1 (fun _ _=>rfl) (fun v k h1 hk m=>by simp) ?_ ?_
 ·intro _ a h2 hlt hJ2 K2 hK2
  have hW2:=(hM _ _).le hJ2
  obtain ⟨cv,rr⟩:=hrv a hlt
  have br:=rr.bound
  simp (disch:=omega) [hr1.idx1 rfl,cv _ hW2,rr.len]
  refine a8 [0,8,9,10,3,15,16,17] (fun (_:Unit) j=>[.func (.yield l) #[] #[],vr,.int .i64 (cP g).length,.int .i64 a,.int .i64 a,rv a,.int .i64 (nth (cP g) a).length,.int .i64 j])
   (fun _ j h3=>J true ((iQ (fun a=>nth (cP g) a) a).length+j) W2 h3) (nth (cP g) a).length () rfl (by omega) rfl hJ2 (fun _ _=>rfl) (fun v k h1 hk m=>by simp) ?_ ?_
  ·intro _ j h3 hlt3 hJ3 K3 hK3
   have hW3:=(hM _ _).le hJ3
   simp (disch:=omega) [rr.idx1 rfl,rr.int hW3]
   refine CR (ops:=[.tmp 22,.tmp 23]) rfl (by simpa using hround _ _ W2 h3 hag (hall hlt hlt3) hJ3) ?_
   rintro b h4 ⟨W4,e1,e2,hJ4⟩
   cases b with
   | true=>
    obtain rfl:=e2 rfl
    simp [iV]
    exact hK3 () _ _ rfl rfl hJ4
   | false=>
    simp [iV]
    exact hK _ _ ⟨false,_,W4,fun i hi hne=>by rw [e1 i hne,hag i hi],hJ4,fun h=>by cases h⟩
  ·intro _ h3 hJ3
   simp
   refine hK2 () _ _ rfl rfl ?_
   rw [gW,List.length_append,List.length_map];exact hJ3
 ·intro _ h2 hJ2
  simp
  refine hK _ _ ⟨true,_,W2,fun i hi _=>hag i hi,hJ2,fun _=>?_⟩
  rw [vz,List.length_map,gL,hcl]
end Go.Proofs.Ytfelpjfopgiabaa
namespace Go.Proofs.Ytfelpjfopgiabaa
open Go Go.Lft
def ed (p:Gr) (e:Int × Int):Gr:=p.set e.2.toNat (nth p e.2.toNat++[e.1])
def cU (g:Gr):Gr:=(gL g).foldl ed (List.replicate g.length [])
theorem qH {β γ:Type} {f:β→γ→β} {l:List γ} {k:Nat} {x:γ} {b:β} (h:l[k]? = some x):(l.take (k+1)).foldl f b=f ((l.take k).foldl f b) x:=by
 rw [List.take_add_one,h,List.foldl_append];rfl
theorem nD {g:Gr} {e:Int × Int} (h:e∈gL g):(0≤e.1∧e.1<g.length)∧0≤e.2∧e.2<g.length:=by
 simp only [gL,iQ,List.mem_flatMap,List.mem_range,List.mem_map] at h
 obtain ⟨a,ha,b,hb,rfl⟩:=h
 obtain ⟨j,hj,rfl⟩:=List.getElem_of_mem hb
 have:=pX a (by rw [fZ];exact ha) j hj
 rw [fZ,aq hj] at this
 exact ⟨⟨by omega,by simp only;omega⟩,this⟩
theorem lC {l:List (Int × Int)} {p:Gr}:(l.foldl ed p).length=p.length:=by
 induction l generalizing p with
 | nil=>rfl
 | cons e l ih=>rw [List.foldl_cons,ih];simp [ed]
theorem xh {l:List (Int × Int)} {p:Gr} {i m:Nat} (hp:(nth p i).length≤m):(nth (l.foldl ed p) i).length≤m+l.length:=by
 induction l generalizing p m with
 | nil=>exact hp
 | cons e l ih=>
  rw [List.foldl_cons]
  have:=ih (p:=ed p e) (m:=m+1) ?_
  ·simp only [List.length_cons];omega
  ·unfold ed
   rcases Nat.lt_or_ge i p.length with hi | hi
   ·rw [aJ hi]
    split
    ·rename_i h;rw [h];simp;omega
    ·omega
   ·rw [aV (by simpa using hi)];simp [default]
theorem uD {row:List Int} {n:Int}:(jI row n).length≤row.length:=by
 have h1:=kW (p:=mL row n) (x:=fun i=>nth row i) row.length
 have h2:(mI (sift (mL row n) (fun i=>nth row i) row.length)).length=(sift (mL row n) (fun i=>nth row i) row.length).length:=List.length_mergeSort _
 have h3:=qh (l:=mI (sift (mL row n) (fun i=>nth row i) row.length))
 rw [jI];omega
theorem AZ {f:Nat→List Int} {n m:Nat} (h : ∀ a,a<n→(f a).length≤m):(iQ f n).length≤n*m:=by
 induction n with
 | zero=>simp [iQ]
 | succ n ih=>
  have:=ih fun a ha=>h a (by omega)
  have:=h n (by omega)
  rw [gW,List.length_append,List.length_map,Nat.succ_mul];omega
theorem za {g:Gr} (hs:Sm g):(gL g).length≤1000000000000:=by
 have h1:=AZ (f:=fun a=>nth (cP g) a) (n:=g.length) (m:=1000000) fun a ha=>by
  have:=hs.2 a ha
  rw [cP,eh ha]
  exact Nat.le_trans uD this
 have h2:g.length*1000000≤1000000*1000000:=Nat.mul_le_mul_right _ hs.1
 rw [gL];omega
theorem yf {g:Gr} {vg:Value} {h:Heap} (hg:SlRd (vw h) vg g) (hs:Sm g) :
  aG Try.prog N.eF #[vg] h (fun v h'=>(vw h).le (vw h')∧SlRd (fresh h h') v (cU g)):=by
 refine xP (args:=[vg]) follows F.eF E.eF (Nat.le_of_ble_eq_true (by kernel_rfl)) fun K hK=>?_
 have hs1:=hs.1
 have hel:=za hs
 simp [L.eF,hg.len]
 refine Dd (n:=g.length) El.iz (by simp<;>rfl) (by simp<;>rfl) rfl (by omega) (by omega) ?_
 refine pF (z:=.slice none 0 0) (v:=.slice (some ⟨h.size,0,none⟩) g.length g.length) (by kernel_rfl) rfl (by kernel_rfl) rfl rfl (fun _=>by simp) (fun _=>by simp) fun h2 hle2 hsz2 hB2=>?_
 have hle02:(vw h).le (vw h2):=View.le_trans (bM _ _) hle2
 have hg2:h2[h.size]? = some (.cells (List.replicate g.length (.slice none 0 0)).toArray T.aP (0,0)):=hle2 _ _ (show (h.push _)[h.size]? = _ by simp)
 simp at hsz2 hB2
 simp
 refine aj (by kernel_rfl) CX ?_
 rintro _ _ ⟨rfl,rfl⟩
 have hgc:=hg.cells.1
 rw [hgc]
 have hle3:=bM h2 (.cells #[vg] T.iz)
 generalize hh3:h2.push (.cells #[vg] T.iz)=h3 at hle3
 have hsz3:h3.size=h.size+3:=by rw [←hh3];simp [hsz2]
 obtain ⟨W0,hW0⟩ : ∃ W:View,W=fun b=>if b=h.size then none else h3[b]?:=⟨_,rfl⟩
 have hW0le:W0.le (vw h3):=fun b o hb=>by
  rw [hW0] at hb;simp only at hb
  split at hb
  ·cases hb
  ·exact hb
 have h0W:(vw h).le W0:=fun b o hb=>by
  have hlt:=View.lt (View.le_refl (vw h)) hb
  rw [hW0];simp only
  rw [if_neg (by omega)]
  exact View.le_trans hle02 hle3 b o hb
 have hp3:an W0 ⟨h2.size,0,none⟩=some vg:=by
  have e:W0 h2.size=some (.cells #[vg] T.iz (0,0)):=by rw [hW0];simp only;rw [if_neg (by omega),←hh3];simp
  simp [an,e]
 have hB3:W0 (h.size+1)=some (.cells #[.slice (some ⟨h.size,0,none⟩) g.length g.length] T.iz (0,0)):=by
  rw [hW0];simp only;rw [if_neg (by omega)]
  exact hle3 _ _ hB2
 refine zn (enc:=BZ) (all:=gL g) (gf:=N.bV) (caps:=[.pointer (some ⟨h2.size,0,none⟩)]) W0 W0 (fun e k W h'=>e=none∧∃ rv,Rw W h' T.aP T.int h.size rv (((gL g).take k).foldl ed (List.replicate g.length [])))
  rfl (by kernel_rfl) (xL (hg.mono h0W) hp3 hs) (fun _=>rfl) (View.le_refl _) (fun e k=>⟨fun ⟨_,rv,r⟩=>r.wle,fun ⟨a,rv,r⟩ _ h1 h2 _=>⟨a,rv,r.move h1 h2⟩⟩) ⟨rfl,_,Rw.start hW0le (by rw [hW0];simp) (hle3 _ _ hg2)⟩
  (fun x h1=>by simp [BZ,cN];rfl) ?_ ?_ ?_
 ·rintro k e W h1 hag hk ⟨_,rv,r⟩ K2 hK2 _
  have he:=nD (List.mem_of_getElem? hk)
  have hk1:k<(gL g).length:=(List.getElem?_eq_some_iff.1 hk).1
  have hst:=qH (f:=ed) (b:=List.replicate g.length []) hk
  have hpl:=lC (l:=(gL g).take k) (p:=List.replicate g.length [])
  have hrl:=xh (l:=(gL g).take k) (p:=List.replicate g.length []) (i:=e.2.toNat) (m:=0) (by rw [au (by omega)];simp)
  rw [List.length_take] at hrl
  rw [List.length_replicate] at hpl
  generalize hp:((gL g).take k).foldl ed (List.replicate g.length [])=p at r hst hpl hrl
  have hlt:=r.lt
  have hB1:h1[h.size+1]? = some (.cells #[.slice (some ⟨h.size,0,none⟩) g.length g.length] T.iz (0,0)):=r.wle _ _ (by rw [hag _ (by omega)];exact hB3)
  have hlt1:=(Array.getElem?_eq_some_iff.1 hB1).1
  obtain ⟨H,hH⟩ : ∃ H:View,H=fun b=>if b=h.size∨b=h.size+1 then h1[b]? else none:=⟨_,rfl⟩
  have hHle:H.le (vw h1):=fun b o hb=>by
   rw [hH] at hb;simp only at hb
   split at hb
   ·exact hb
   ·cases hb
  have c1:an H ⟨h.size+1,0,none⟩=some (.slice (some ⟨h.size,0,none⟩) g.length g.length):=bY (by rw [hH];simp only;rw [if_pos (by simp)];exact hB1) rfl
  have hlen:=r.len
  have c2:an H ⟨h.size,e.2.toNat,none⟩=some (nth rv e.2.toNat):=bY (by rw [hH];simp only;rw [if_pos (by simp)];exact r.blk) (by rw [aq (by omega)];simp)
  refine bO H hHle ?_
  simp (disch:=omega) [c1,c2,DO]
  refine j9 (α:=Int) (W:=nothing) El.aP (by simp<;>rfl) (jQ (by omega) (by omega)) fun u h4 hsrc hle4 _=>⟨View.le_trans hHle hle4,?_⟩
  have r4:=r.ext hle4
  have hi:e.2.toNat<p.length:=by omega
  refine bu El.aP (by simp) (by simp) (r4.own _ hi) hsrc (by simp;omega) (by simp;omega) fun v' h5 o5 m5=>?_
  have hg5:h5[h.size]? = some (.cells rv.toArray T.aP (0,0)):=by rw [m5.kept.block _ r4.lt (fun e=>r4.ng _ hi e.symm)];exact r4.blk
  obtain ⟨hcells,hone⟩:=iO o5
  have hH5:H.le (vw h5):=by
   intro b o hb
   have hlt4:=View.lt (View.le_trans hHle hle4) hb
   have h4b:=View.le_trans hHle hle4 b o hb
   show h5[b]? = _
   rw [m5.kept.block b hlt4 ?_]
   ·exact h4b
   ·rw [hH] at hb;simp only at hb
    split at hb
    ·rename_i e1
     rcases e1 with rfl | rfl
     ·exact fun e=>r4.ng _ hi e.symm
     ·intro e
      have:=r4.av _ hi _ e.symm
      rw [hag _ (by omega),hB3] at this;cases this
    ·cases hb
  refine ⟨hH5,?_⟩
  refine dO (g:=h.size) (o:=e.2.toNat) (n:=1) (v:=v') (by kernel_rfl) (by simp) (by simp) (by rw [hcells];rfl) (by rw [hcells];simpa using hone) hg5 (by simp;omega) fun h6 hsz6 ⟨row,hrow,hre⟩ hoth=>?_
  refine hK2 _ _ ⟨rfl,rv.set e.2.toNat v',?_⟩
  rw [hst,ed]
  have hrow2:row=(rv.set e.2.toNat v').toArray:=by
   rw [←Array.toList_inj,hre,hcells,List.set_eq_take_append_cons_drop,if_pos (by omega)]
   simp
  rw [hrow2] at hrow
  exact r4.put hi o5 m5 hrow hoth hsz6
 ·rintro W h1 hag ⟨_,rv,r⟩
  rw [List.take_of_length_le (Nat.le_refl _)] at r
  have hB1:h1[h.size+1]? = some (.cells #[.slice (some ⟨h.size,0,none⟩) g.length g.length] T.iz (0,0)):=r.wle _ _ (by rw [hag _ (by omega)];exact hB3)
  have c1:an (vw h1) ⟨h.size+1,0,none⟩=some (.slice (some ⟨h.size,0,none⟩) g.length g.length):=bY hB1 rfl
  simp [c1]
  intro h4 hsw
  have hWW:(vw h).le W:=fun b o hb=>by rw [hag b (by have:=View.lt (View.le_refl (vw h)) hb;omega)];exact h0W b o hb
  have hfl:=lC (l:=gL g) (p:=List.replicate g.length [])
  rw [List.length_replicate] at hfl
  have hfr:=r.fresh hWW (by omega)
  rw [hfl] at hfr
  exact ⟨_,rfl,hK _ _ ⟨hsw.ext (View.le_trans hWW r.wle),hsw.rd hfr⟩⟩
 ·rintro e k W h1 hag ⟨hne,_⟩
  cases hne
end Go.Proofs.Ytfelpjfopgiabaa
namespace Go.Proofs.Ytfelpjfopgiabaa
open Go Go.Lft
def eM (n:Nat) (order:List Int):List Int:=up (fun i l=>l.set (nth order i).toNat (i:Int)) order.length (List.replicate n (-1))
def bstS (out number:List Int) (n:Nat):List Int→Int→Option Int
 | [],best=>some best
 | a::l,best=>
  if 0≤a∧a<n then
   if nth number a.toNat<0∨(a≠0∧nth out a.toNat<0) then bstS out number n l best
   else if best<0 then bstS out number n l a
   else (jm out number (2*n+2) best a).bind (bstS out number n l)
  else none
def setS (out:List Int) (ch:Bool) (b best:Int):List Int × Bool:=if nth out b.toNat≠best then (out.set b.toNat best,true) else (out,ch)
def oF (number:List Int) (preds:Gr) (n:Nat):List Int→List Int × Bool→Option (List Int × Bool)
 | [],s=>some s
 | b::l,s=>
  if 0≤b∧b<n then (bstS s.1 number n (nth preds b.toNat) (-1)).bind fun best=>oF number preds n l (setS s.1 s.2 b best)
  else none
def lr (number:List Int) (preds:Gr) (n:Nat) (tail:List Int):Nat→List Int→Option (List Int)
 | 0,_=>none
 | m+1,out=>(oF number preds n tail (out,false)).bind fun s=>if s.2 then lr number preds n tail m s.1 else some s.1
def tK (g:Gr) (fuel:Nat):Option (List Int):=
 lr (eM g.length (bc g)) (cU g) g.length ((bc g).drop (min 1 (bc g).length)) fuel (List.replicate g.length (-1))
theorem gQ {out number:List Int} {c:Int} : ∀ {k:Nat} {x y:Int},jm out number k x y=some c→0≤c∧c<number.length
 | 0,x,y,h=>by cases h
 | k+1,x,y,h=>by
  rw [jm] at h
  split at h
  case isFalse=>cases h
  rename_i hr
  split at h
  ·exact gQ h
  ·split at h
   ·exact gQ h
   ·cases h;omega
theorem yM {out number:List Int} {n:Nat} : ∀ {l:List Int} {best r:Int},(-1≤best∧best<n)→out.length=n→number.length=n→(∀ i,i<n→-1≤nth out i∧nth out i<n)→bstS out number n l best=some r→-1≤r∧r<n:=by
 intro l
 induction l with
 | nil=>intro best r hb _ _ _ h;simp only [bstS,Option.some.injEq] at h;subst h;exact hb
 | cons a l ih=>
  intro best r hb h1 h2 h3 h
  rw [bstS] at h
  split at h
  case isFalse=>cases h
  rename_i ha
  split at h
  ·exact ih hb h1 h2 h3 h
  ·split at h
   ·exact ih ⟨by omega,by omega⟩ h1 h2 h3 h
   ·simp only [Option.bind_eq_some_iff] at h
    obtain ⟨c,hc,h⟩:=h
    refine ih ?_ h1 h2 h3 h
    have:=gQ hc
    omega
structure OvOk (m M:Nat) (s:List Bool × List Int):Prop where
 len:s.1.length=m
 cnt:s.2.length+cR s.1≤M
 rng : ∀ x∈s.2,0≤x∧x<m
theorem xA {nx:Int→List Int} {m:Nat} (hnx : ∀ a:Int,0≤a→a<m→∀ i,i<(nx a).length→0≤nth (nx a) i∧nth (nx a) i<m) : ∀ (n M:Nat) (a:Int) (s:List Bool × List Int),0≤a→a<m→nth s.1 a.toNat=false→OvOk m M s→OvOk m M (ib nx n a s)
 | 0,_,_,_,_,_,_,h=>h
 | n+1,M,a,s,h0,h1,hf,h=>by
  rw [iX]
  have hlen:=h.len
  have hfs:=gX (t:=s.1) (i:=a.toNat) (by omega) hf
  have hc:=h.cnt
  have hup : ∀ k,k≤(nx a).length→OvOk m (M-1) (up (cg nx n a) k (s.1.set a.toNat true,s.2)):=by
   intro k
   induction k with
   | zero=>exact fun _=>⟨by simpa [up] using hlen,by simp only [up];omega,h.rng⟩
   | succ k ih=>
    intro hk
    have:=ih (by omega)
    rw [up]
    generalize up (cg nx n a) k (s.1.set a.toNat true,s.2)=z at this
    unfold cg
    split
    ·exact this
    ·rename_i hz
     obtain ⟨e0,e1⟩:=hnx a h0 h1 k (by omega)
     exact xA hnx n (M-1) _ z e0 e1 (by simpa using hz) this
  have:=hup _ (Nat.le_refl _)
  exact ⟨this.len,by have:=this.cnt;simp;omega,fun x hx=>by
   rcases List.mem_append.1 hx with hx | hx
   ·exact this.rng x hx
   ·simp only [List.mem_singleton] at hx;subst hx;exact ⟨h0,h1⟩⟩
theorem tL {nx:Int→List Int} {m:Nat} (hnx : ∀ a:Int,0≤a→a<m→∀ i,i<(nx a).length→0≤nth (nx a) i∧nth (nx a) i<m):(jC nx m).length≤m∧∀ x∈jC nx m,0≤x∧x<m:=by
 unfold jC
 split
 ·simp
 ·rename_i h0
  have:=xA hnx m m 0 (List.replicate m false,[]) (by omega) (by omega) (au (by simp;omega)) ⟨by simp,by simp [cR],by simp⟩
  refine ⟨?_,fun x hx=>this.rng x (by simpa using hx)⟩
  have:=this.cnt
  simp;omega
theorem Fb {g:Gr} : ∀ a:Int,0≤a→a<(g.length:Int)→∀ i,i<(nx (cP g) a).length→0≤nth (nx (cP g) a) i∧nth (nx (cP g) a) i<g.length:=by
 intro a h0 h1 i hi
 have:=pX a.toNat (by rw [fZ];omega) i hi
 rwa [fZ] at this
theorem Bf {g:Gr} {i:Nat} (hi:i<(bc g).length):0≤nth (bc g) i∧nth (bc g) i<g.length:=
 (tL Fb).2 _ (bS hi)
theorem oe {g:Gr}:(bc g).length≤g.length:=(tL Fb).1
theorem pL {g:Gr} : ∀ {l:List (Int × Int)} {p:Gr},(∀ e∈l,0≤e.1∧e.1<g.length)→(∀ i,∀ x∈nth p i,0≤x∧x<g.length)→∀ i,∀ x∈nth (l.foldl ed p) i,0≤x∧x<g.length:=by
 intro l
 induction l with
 | nil=>exact fun _ h=>h
 | cons e l ih=>
  intro p hl hp
  rw [List.foldl_cons]
  refine ih (fun e' he'=>hl e' (List.mem_cons_of_mem _ he')) fun i x hx=>?_
  unfold ed at hx
  rcases Nat.lt_or_ge i p.length with hi | hi
  ·rw [aJ hi] at hx
   split at hx
   ·rcases List.mem_append.1 hx with hx | hx
    ·exact hp _ x hx
    ·simp only [List.mem_singleton] at hx;subst hx;exact hl e (List.mem_cons_self ..)
   ·exact hp _ x hx
  ·rw [aV (by simpa using hi)] at hx;cases hx
end Go.Proofs.Ytfelpjfopgiabaa
