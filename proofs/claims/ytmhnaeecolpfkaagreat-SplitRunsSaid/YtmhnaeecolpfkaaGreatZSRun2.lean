/- A part of the proof: La, Lb, Lc, Ld, Le, Ia, Ib, Ic, Ga, Shelf, Wk, Wl, Wm, Wn. -/
import Derived.Test.YtmhnaeecolpfkaaGreatZSRun1
import Derived.Test.YtmhnaeecolpfkaaGreatProg
import Derived.KernelRfl
import Derived.Shelf.Small.Bits
import Derived.Shelf.Small.Wraps
import Derived.Shelf.Strconv.Itoa0
import Derived.Shelf.Sort.Plain
import Derived.Shelf.Slices.Turned
import Derived.Shelf.Slices.Reverse
import Derived.Ground.Names2Prog
import Derived.Shelf.Slices.CompactI
import Derived.Shelf.Slices.SearchI
import Derived.Shelf.Slices.Cells
import Derived.Shelf.Slices.In.SortNone
set_option linter.unusedSimpArgs false
set_option linter.unusedVariables false
open Go.Value renaming int->Qy,slice->QD,pointer->QE
open Go.IntKind renaming i64->Qz,i32->QA
open Option renaming some->QB,none->QC
open Bool renaming true->QF,false->QG
open Go.Proofs.Tryz renaming prog->QH
open Go.Proofs
namespace Go.Lft
section
set_option maxRecDepth 100000
def q:List LC->LC|[]=>.skip|[a]=>a|a::b::l=>.seq a (q (b::l))
def k(K:List Nat)(S:List (Nat×E)):LC:=.reg QG (.fin K S [])
def f(n c i:Nat)(K K2:List Nat)(e:E)(b:LC):LC:=.seq (.seq (.reg QG (.fin K [(c,e)] [])) (.cond (.tmp c) [c] .skip (.exit n))) (.seq b (.reg QG (.fin K2 [(i,.bin (.arith .add) (.tmp i) (.con (Qy Qz 1)))] [])))
def u(n:Nat)(x y:LC):LC:=.cond (.tmp n) [n] x y
def v(n:Nat)(x:LC):LC:=.block n (.loop x)
def l(K:List Nat)(S A:List (Nat×E))(o:Op)(y d:Nat)(r:Reg):Reg:=.loud K S A QC [] QG o y (QB d) QF r
def s(K:List Nat)(S A:List (Nat×E))(o:Op)(r:Reg):Reg:=.loud K S A QC [] QG o 0 QC QG r
def p(A:List (Nat×E))(o:Op)(y d:Nat)(r:Reg):Reg:=.loud [] [] A QC [] QG o y (QB d) QF r
def z:Reg:=.fin [] [] []
def w:List Nat->List (Nat×E)|[]=>[]|a::l=>(a,.tmp a)::w l
def t(n:Nat):E:=.tmp n
def c(n:Int):E:=.con (Qy Qz n)
def d(x:E):E:=.un .load x
def e(n:Nat)(x:E):E:=.un (.fld n) x
def g(n:Nat)(x:E):E:=.un .load (.un (.fld n) x)
def i(n:Nat)(x y:E):E:=.bin (.idx n) x y
def h(x:E):E:=.un .len x
def j(o:BinOp)(x y:E):E:=.bin (.cmp o) x y
def o(x y:E):E:=.bin (.arith .add) x y
def a(n:Nat):Operand:=.tmp n
def x(n:Nat)(A:List Nat)(T:List Nat):Op:=.call ⟨.value (.func n),(A.map .tmp).toArray,T.toArray⟩
theorem sh:(∀a,q [a]=a)/\(∀a b l,q (a::b::l)=.seq a (q (b::l)))/\(∀K S,k K S=.reg QG (.fin K S []))/\(∀n c i K L e b,f n c i K L e b=.seq (.seq (.reg QG (.fin K [(c,e)] [])) (.cond (.tmp c) [c] .skip (.exit n))) (.seq b (.reg QG (.fin L [(i,.bin (.arith .add) (.tmp i) (.con (Qy Qz 1)))] []))))/\(∀n x y,u n x y=.cond (.tmp n) [n] x y)/\(∀n x,v n x=.block n (.loop x))/\(∀K S A o y d r,l K S A o y d r=.loud K S A QC [] QG o y (QB d) QF r)/\(∀K S A o r,s K S A o r=.loud K S A QC [] QG o 0 QC QG r)/\(∀A o y d r,p A o y d r=.loud [] [] A QC [] QG o y (QB d) QF r)/\(z=.fin [] [] [])/\(w []=[])/\(∀a l,w (a::l)=(a,.tmp a)::w l)/\(∀n,t n=.tmp n)/\(∀n,c n=.con (Qy Qz n))/\(∀x,d x=.un .load x)/\(∀n x,e n x=.un (.fld n) x)/\(∀n x,g n x=.un .load (.un (.fld n) x))/\(∀n x y,i n x y=.bin (.idx n) x y)/\(∀x,h x=.un .len x)/\(∀o x y,j o x y=.bin (.cmp o) x y)/\(∀m n,o m n=.bin (.arith .add) m n)/\(∀n,a n=.tmp n)/\(∀n A T,x n A T=.call ⟨.value (.func n),(A.map .tmp).toArray,T.toArray⟩)/\(∀(p:Nat->Operand) n l,List.map p (n::l)=p n::l.map p)/\(∀p:Nat->Operand,List.map p []=[]):=⟨λ_=>rfl,λ_ _ _=>rfl,λ_ _=>rfl,λ_ _ _ _ _ _ _=>rfl,λ_ _ _=>rfl,λ_ _=>rfl,λ_ _ _ _ _ _ _=>rfl,λ_ _ _ _ _=>rfl,λ_ _ _ _ _=>rfl,rfl,rfl,λ_ _=>rfl,λ_=>rfl,λ_=>rfl,λ_=>rfl,λ_ _=>rfl,λ_ _=>rfl,λ_ _ _=>rfl,λ_=>rfl,λ_ _ _=>rfl,λ_ _=>rfl,λ_=>rfl,λ_ _ _=>rfl,λ_ _ _=>rfl,λ_=>rfl⟩
set_option maxRecDepth 100000
abbrev N.slices_Sort_int:Nat:=97
abbrev N.slices_Compact_int:Nat:=98
abbrev N.slices_Reverse_int:Nat:=112
abbrev N.dB:Nat:=3
def L.dB:LFn:=by apply(fun{b:LFn}(_:b=⟨[t 6],q [k [6] [(6,.con (.bool QG))],.reg QG (p [] (x 4 [] []) 4 14 (.fin [7] [(7,t 14)] [])),.reg QG (l [15] [] [(15,t 0)] (x 6 [15] [22]) 22 16 (p (w [16]) (x 5 [16] [22]) 26 17 (p [] (.alloc 26) 0 8 (s [] [] (w [8,17]) (.store 26 (a 8) (a 17)) z)))),.reg QG (l [18] [] [(18,t 1)] (x 7 [18] [22]) 31 19 (p [] (.alloc 31) 0 9 (s [] [] (w [9,19]) (.store 31 (a 9) (a 19)) z))),.reg QG (l [20] [] [(20,t 2)] (.call ⟨.value (.func 8),#[a 20,.const (Qy Qz 401)],#[3,3]⟩) 3 21 (s [22] [] [(22,e 3 (t 9)),(21,t 21)] (.store 3 (a 22) (a 21)) z)),.reg QG (l [23,24] [] [(23,.un (.ax 2) (t 8)),(24,.un (.ax 4) (t 9))] (x 9 [23,24] [26,31]) 36 25 (p [] (.alloc 36) 0 10 (s [] [] (w [10,25]) (.store 36 (a 10) (a 25)) z))),q [k [26,27,28] [(28,j .eql (g 0 (t 10)) (c 3))],u 28 (q [k [29,30,31,32,33,34,35,36,6] [(6,.ite (t 7) (j .eql (g 4 (t 10)) (g 3 (t 9))) (.con (.bool QG)))],.ret]) .skip],.reg QG (l [38] [] [(38,.un (.ax 2) (t 8))] (x 10 [38] [26]) 39 39 (l [37,40,41] [(40,.un (.ext 0) (t 39)),(41,.un (.ext 1) (t 39))] [] (.alloc 26) 0 11 (s [] [] (w [11,40]) (.store 26 (a 11) (a 40)) (.fin [12] [(12,t 41)] [])))),.reg QG (s [42,43,44,45,46] [] [(46,e 3 (t 9)),(45,o (.bin (.arith .mul) (c 2) (g 3 (t 9))) (c 2))] (.store 3 (a 46) (a 45)) z),.reg QG (l [47,48] [] [(47,.un (.ax 2) (t 11)),(48,.un (.ax 4) (t 9))] (x 9 [47,48] [26,31]) 36 49 (p [] (.alloc 36) 0 13 (s [] [] (w [13,49]) (.store 36 (a 13) (a 49)) z))),.reg QG (.loud [50,51,52,53,54,55,56,57] [(55,.ite (t 7) (j .eql (t 12) (c 0)) (.con (.bool QG)))] [(56,.gd (.ite (t 7) (j .eql (t 12) (c 0)) (.con (.bool QG))) QF (.un (.ax 5) (t 10))),(57,.gd (.ite (t 7) (j .eql (t 12) (c 0)) (.con (.bool QG))) QF (.un (.ax 5) (t 13)))] (QB (.ite (t 7) (j .eql (t 12) (c 0)) (.con (.bool QG)),QF)) [] QG (x 11 [56,57] [36,36]) 4 (QB 58) QF (.fin [59,60,61,62,63,64,65,66,67,68,69,70,71,72,73,74,6] [(6,.ite (.ite (.ite (t 55) (t 58) (.con (.bool QG))) (j .geq (g 4 (t 13)) (g 4 (t 10))) (.con (.bool QG))) (j .leq (g 4 (t 13)) (.bin (.arith .mul) (c 2) (g 4 (t 10)))) (.con (.bool QG)))] [])),.ret]⟩)=>b);simp only[sh];rfl
theorem E.dB:aI QH Tryz.f3=QB L.dB:=by kernel_rfl
theorem F.dB:Tryz.prog.funcs[N.dB]? = QB Tryz.f3:=Tryz.func3
abbrev N.fP:Nat:=4
def L.fP:LFn:=by apply(fun{b:LFn}(_:b=⟨[t 0],q [k [0] [(0,.con (.bool QG))],.reg QG (p [] (x 12 [] []) 26 5 (p (w [5]) (x 10 [5] [26]) 39 6 (l [4,7,8] [(7,.un (.ext 0) (t 6)),(8,.un (.ext 1) (t 6))] [] (.alloc 26) 0 1 (s [] [] (w [1,7]) (.store 26 (a 1) (a 7)) (.fin [2] [(2,t 8)] []))))),q [k [9,10,11,12,13,14,15,16,17,18,19,20,21,22,23,24,25,26,27,28,29,30,31,32,33,34,35,36,37,38,39,40,41,42,43,44,45,46,47] [(47,.ite (.ite (.ite (.ite (j .neq (t 2) (c 0)) (.con (.bool QF)) (j .neq (h (g 1 (t 1))) (c 4))) (.con (.bool QF)) (j .neq (h (g 2 (e 2 (i 6 (g 1 (t 1)) (c 0))))) (c 2))) (.con (.bool QF)) (j .neq (h (g 0 (i 6 (g 1 (t 1)) (c 2)))) (c 1))) (.con (.bool QF)) (j .neq (h (g 1 (i 2 (g 0 (i 6 (g 1 (t 1)) (c 2))) (c 0)))) (c 2)))],u 47 (q [k [0] [(0,.con (.bool QG))],.ret]) .skip],k [48,49,50,51,52,53,54,55,3] [(3,g 1 (i 2 (g 0 (i 6 (g 1 (t 1)) (c 2))) (c 0)))],k [56,57,58,59,60,61,62,63,64,65,66,67,68,69,70,71,72,73,74,75,76,77,78,79,80,81,82,83,84,85,86,87,0] [(0,.ite (.ite (.ite (j .eql (d (i 1 (g 2 (e 2 (i 6 (g 1 (t 1)) (c 0)))) (c 1))) (c 3)) (j .eql (g 0 (e 2 (i 6 (g 1 (t 1)) (c 3)))) (c 1)) (.con (.bool QG))) (j .eql (g 0 (i 2 (t 3) (c 0))) (c 1)) (.con (.bool QG))) (j .eql (g 0 (i 2 (t 3) (c 1))) (c 3)) (.con (.bool QG)))],.ret]⟩)=>b);simp only[sh];rfl
theorem E.fP:aI QH Tryz.f4=QB L.fP:=by kernel_rfl
theorem F.fP:Tryz.prog.funcs[N.fP]? = QB Tryz.f4:=Tryz.func4
abbrev N.az:Nat:=5
def L.az.l1:LC:=by apply(fun{b:LC}(_:b=f 0 62 6 [60,61,62] [63,64,6] (j .lss (t 6) (t 4)) (.block 1 (.reg QF (.loud [65,66,67,68,69,70,71,72,73,74,75,76,77] [] [(77,e 2 (e 2 (i 6 (g 1 (e 2 (.un .nilPtr (t 3)))) (t 6)))),(74,d (i 1 (t 5) (t 6)))] QC [] QF (.store 22 (a 77) (a 74)) 0 QC QG z))))=>b);simp only[sh];rfl
def L.az.l3:LC:=by apply(fun{b:LC}(_:b=f 4 110 10 [105,106,107,108,109,110] [111,112,10] (j .lss (t 10) (d (i 1 (t 7) (t 8)))) (.block 5 (.reg QF (l [113,114,115,116,117,118,119,120,121,122,123,124,125,126,127,128] [(117,g 1 (e 2 (.un .nilPtr (t 3)))),(118,t 8),(127,g 0 (i 6 (g 1 (e 2 (.un .nilPtr (t 3)))) (t 8)))] [(128,t 3)] (x 16 [128] [55]) 3 129 (p (w [129]) (.build 52 #[(0,a 129)]) 52 130 (p (w [130]) (.buildSlice 46 1 #[(0,a 130)]) 46 131 (p (w [127,131]) (.call ⟨.builtin .append,#[a 127,a 131],#[46,46]⟩) 46 132 (.loud [133,134] [] [(134,e 0 (i 6 (t 117) (t 118))),(132,t 132)] QC [] QF (.store 46 (a 134) (a 132)) 0 QC QG z))))))))=>b);simp only[sh];rfl
def L.az.l2:LC:=by apply(fun{b:LC}(_:b=f 2 82 8 [80,81,82] [83,84,8] (j .lss (t 8) (t 4)) (.block 3 (q [.reg QG (l [85,86,87,88,89] [] [(88,.un (.ax 2) (e 2 (.un .nilPtr (t 3)))),(89,t 8)] (x 15 [88,89] [26,3]) 22 90 (.fin [9] [(9,t 90)] [])),q [k [91,92,93] [(93,j .gtr (h (t 9)) (c 1))],u 93 (.reg QG (l [94,95,96] [(94,t 7),(95,t 8)] [(96,t 3)] (.call ⟨.value (.func 13),#[a 96,.const (Qy Qz 4)],#[55,3]⟩) 3 97 (s [98] [] [(98,i 1 (t 94) (t 95)),(97,t 97)] (.store 3 (a 98) (a 97)) z))) (q [.reg QG (l [99] [] [(99,t 3)] (.call ⟨.value (.func 13),#[a 99,.const (Qy Qz 6)],#[55,3]⟩) 3 100 (.fin [101] [(101,j .eql (t 100) (c 0))] [])),u 101 (.reg QG (s [102,103,104] [] [(104,i 1 (t 7) (t 8))] (.store 3 (a 104) (.const (Qy Qz 1))) z)) .skip])],k [10] [(10,c 0)],v 4 L.az.l3])))=>b);simp only[sh];rfl
def L.az.l6:LC:=by apply(fun{b:LC}(_:b=f 10 155 16 [153,154,155] [156,157,16] (j .lss (t 16) (t 4)) (.block 11 (.reg QG (l [158,159,160,161,162,163] [(158,t 15)] [(162,.un (.ax 2) (e 2 (.un .nilPtr (t 3)))),(163,t 16)] (x 17 [162,163] [26,3]) 63 164 (p (w [164]) (.buildSlice 64 1 #[(0,a 164)]) 64 165 (p (w [158,165]) (.call ⟨.builtin .append,#[a 158,a 165],#[64,64]⟩) 64 166 (.fin [15] [(15,t 166)] [])))))))=>b);simp only[sh];rfl
def L.az.l7:LC:=by apply(fun{b:LC}(_:b=f 12 169 17 [167,168,169] [170,171,17] (j .lss (t 17) (t 4)) (.block 13 (.reg QG (.fin [172,173,174,175,176,177,178,179,180,181,182,183,184,185,186,187,188,189,190,191,192,14] [(14,.ite (t 14) (.ite (.ite (j .eql (t 17) (t 13)) (.con (.bool QF)) (d (i 1 (t 11) (t 17)))) (.con (.bool QF)) (d (i 1 (d (i 1 (t 15) (t 17))) (t 13)))) (.con (.bool QG)))] [.gd (.gd (t 14) QF (.ite (j .eql (t 17) (t 13)) (.con (.bool QF)) (d (i 1 (t 11) (t 17))))) QG (d (i 1 (d (i 1 (t 15) (t 17))) (t 13))),.gd (.gd (t 14) QF (j .eql (t 17) (t 13))) QG (d (i 1 (t 11) (t 17)))]))))=>b);simp only[sh];rfl
def L.az.l8:LC:=by apply(fun{b:LC}(_:b=f 14 208 18 [202,203,204,205,206,207,208] [209,210,18] (j .lss (t 18) (g 0 (e 2 (.un .nilPtr (t 3))))) (.block 15 (.reg QG (l [211,212,213,214,215,216] [(211,t 3),(215,g 5 (.un .nilPtr (t 3)))] [(216,t 18)] (.buildSlice 22 1 #[(0,a 216)]) 22 217 (p (w [215,217]) (.call ⟨.builtin .append,#[a 215,a 217],#[22,22]⟩) 22 218 (s [219,220] [] [(220,e 5 (.un .nilPtr (t 211))),(218,t 218)] (.store 22 (a 220) (a 218)) z))))))=>b);simp only[sh];rfl
def L.az.l10:LC:=by apply(fun{b:LC}(_:b=f 18 256 20 [245,246,247,248,249,250,251,252,253,254,255,256] [257,258,20] (j .lss (t 20) (h (g 0 (i 6 (g 1 (e 2 (.un .nilPtr (t 3)))) (t 19))))) (.block 19 (.reg QF (l [259,260,261,262,263,264,265,266,267,268,269,270,271,272,273,274,275,276] [(259,t 3),(263,g 5 (.un .nilPtr (t 3)))] [(276,g 0 (i 2 (g 0 (i 6 (g 1 (e 2 (.un .nilPtr (t 3)))) (t 19))) (t 20)))] (.buildSlice 22 1 #[(0,a 276)]) 22 277 (.loud [] [] (w [263,277]) QC [] QF (.call ⟨.builtin .append,#[a 263,a 277],#[22,22]⟩) 22 (QB 278) QF (s [279,280] [] [(280,e 5 (.un .nilPtr (t 259))),(278,t 278)] (.store 22 (a 280) (a 278)) z))))))=>b);simp only[sh];rfl
def L.az.l11:LC:=by apply(fun{b:LC}(_:b=f 20 292 21 [281,282,283,284,285,286,287,288,289,290,291,292] [293,294,21] (j .lss (t 21) (h (g 1 (i 6 (g 1 (e 2 (.un .nilPtr (t 3)))) (t 19))))) (.block 21 (q [.reg QG (l [295,296,297,298,299,300,301,302,303,304,305,306] [] [(306,.un (.ax 5) (i 5 (g 1 (i 6 (g 1 (e 2 (.un .nilPtr (t 3)))) (t 19))) (t 21)))] (x 18 [306] [68]) 22 307 (.fin [22] [(22,t 307)] [])),.reg QG (l [308,309,310,311,312,313] [(308,t 3)] [(312,g 5 (.un .nilPtr (t 3))),(313,t 22)] (.call ⟨.builtin .append,#[a 312,a 313],#[22,22]⟩) 22 314 (s [315,316] [] [(316,e 5 (.un .nilPtr (t 308))),(314,t 314)] (.store 22 (a 316) (a 314)) z))])))=>b);simp only[sh];rfl
def L.az.l9:LC:=by apply(fun{b:LC}(_:b=f 16 223 19 [221,222,223] [224,225,19] (j .lss (t 19) (t 4)) (.block 17 (q [q [.reg QG (.fin [226,227,228,229,230,231,232,233,234,235,236,237,238,239,240,241,242,243,244] [(244,.ite (j .neq (t 19) (t 13)) (.ite (.un .not (d (i 1 (t 11) (t 19)))) (.con (.bool QF)) (d (i 1 (d (i 1 (t 15) (t 19))) (t 13)))) (.con (.bool QG)))] [.gd (.gd (j .neq (t 19) (t 13)) QF (.un .not (d (i 1 (t 11) (t 19))))) QG (d (i 1 (d (i 1 (t 15) (t 19))) (t 13)))]),u 244 (.exit 17) .skip],q [k [20] [(20,c 0)],v 18 L.az.l10],k [21] [(21,c 0)],v 20 L.az.l11])))=>b);simp only[sh];rfl
def L.az.l12:LC:=by apply(fun{b:LC}(_:b=f 22 321 24 [319,320,321] [322,323,24] (j .lss (t 24) (t 23)) (.block 23 (.reg QG (.loud [324,325] [] [(324,t 3),(325,t 13)] QC [] QG (x 19 [324,325] [55,3]) 0 (QB 326) QG z))))=>b);simp only[sh];rfl
def L.az.l5:LC:=by apply(fun{b:LC}(_:b=f 8 144 13 [142,143,144] [145,146,13] (j .lss (t 13) (t 4)) (.block 9 (q [k [147,148,149,150,151,14] [(14,.un .not (d (i 1 (t 11) (t 13))))],.reg QG (p [] (.buildSlice 64 0 #[]) 64 152 (.fin [15] [(15,t 152)] [])),q [k [16] [(16,c 0)],v 10 L.az.l6],q [k [17] [(17,c 0)],v 12 L.az.l7],q [k [193,194] [(194,.un .not (t 14))],u 194 (.exit 9) .skip],.reg QG (s [195,196,197] [] [(197,i 1 (t 11) (t 13))] (.store 4 (a 197) (.const (.bool QF))) z),.reg QG (l [198] [(198,t 3)] [] (.buildSlice 22 0 #[]) 22 199 (s [200,201] [] [(201,e 5 (.un .nilPtr (t 198))),(199,t 199)] (.store 22 (a 201) (a 199)) z)),q [k [18] [(18,c 0)],v 14 L.az.l8],q [k [19] [(19,c 0)],v 16 L.az.l9],.reg QG (l [317] [] [(317,t 3)] (.call ⟨.value (.func 13),#[a 317,.const (Qy Qz 7)],#[55,3]⟩) 3 318 (.fin [23] [(23,t 318)] [])),q [k [24] [(24,c 0)],v 22 L.az.l12],.reg QG (.loud [327,328,329,330,331,332] [] [(327,t 3),(328,t 13),(332,d (i 1 (t 5) (t 13)))] QC [] QG (x 20 [327,328,332] [55,3,22]) 0 (QB 333) QG z)])))=>b);simp only[sh];rfl
def L.az.l4:LC:=by apply(fun{b:LC}(_:b=f 6 139 12 [137,138,139] [140,141,12] (j .lss (t 12) (t 4)) (.block 7 (q [k [13] [(13,c 0)],v 8 L.az.l5])))=>b);simp only[sh];rfl
def L.az.l15:LC:=by apply(fun{b:LC}(_:b=f 28 357 29 [354,355,356,357] [358,359,29] (j .lss (t 29) (h (t 26))) (.block 29 (q [.reg QF (.loud [360,361,362,363,364,365,366,367] [] [(363,.un (.ax 2) (e 2 (.un .nilPtr (t 3)))),(367,d (i 1 (t 26) (t 29)))] QC [] QF (x 21 [363,367] [26,3]) 22 (QB 368) QF (.fin [30] [(30,t 368)] [])),q [k [369,370,371] [(371,j .eql (h (t 30)) (c 0))],u 371 (.reg QF (l [372,373,374,375,376,377,378] [(372,t 30),(373,t 3),(377,d (i 1 (t 26) (t 29)))] [(378,t 3)] (x 23 [378] [55]) 21 379 (.loud [] [] (w [373,377,379]) QC [] QF (x 22 [373,377,379] [55,3,21]) 3 (QB 380) QF (p (w [380]) (.buildSlice 22 1 #[(0,a 380)]) 22 381 (p (w [372,381]) (.call ⟨.builtin .append,#[a 372,a 381],#[22,22]⟩) 22 382 (.fin [30] [(30,t 382)] [])))))) .skip],.reg QF (l [383,384,385,386,387,388,389,390,391] [(383,t 28),(387,d (i 1 (t 26) (t 29))),(388,t 30)] [(389,t 3),(391,h (t 30))] (x 13 [389,391] [55,3]) 3 392 (.loud [393,394] [] [(387,t 387),(394,d (i 1 (t 388) (t 392)))] QC [] QF (.build 54 #[(0,a 387),(1,a 394)]) 54 (QB 395) QF (p (w [395]) (.buildSlice 50 1 #[(0,a 395)]) 50 396 (p (w [383,396]) (.call ⟨.builtin .append,#[a 383,a 396],#[50,50]⟩) 50 397 (.fin [28] [(28,t 397)] [])))))])))=>b);simp only[sh];rfl
def L.az.l14:LC:=by apply(fun{b:LC}(_:b=f 26 350 27 [345,346,347,348,349,350] [351,352,27] (j .lss (t 27) (d (i 1 (t 7) (t 25)))) (.block 27 (q [.reg QG (p [] (.buildSlice 50 0 #[]) 50 353 (.fin [28] [(28,t 353)] [])),q [k [29] [(29,c 0)],v 28 L.az.l15],.reg QG (s [398,399,400,401,402,403,404,405,406,407,408,409,410] [] [(410,e 1 (i 2 (g 0 (i 6 (g 1 (e 2 (.un .nilPtr (t 3)))) (t 25))) (t 27))),(408,t 28)] (.store 50 (a 410) (a 408)) z)])))=>b);simp only[sh];rfl
def L.az.l13:LC:=by apply(fun{b:LC}(_:b=f 24 336 25 [334,335,336] [337,338,25] (j .lss (t 25) (t 4)) (.block 25 (q [.reg QG (l [339,340,341,342,343] [] [(342,.un (.ax 2) (e 2 (.un .nilPtr (t 3)))),(343,t 25)] (x 15 [342,343] [26,3]) 22 344 (.fin [26] [(26,t 344)] [])),k [27] [(27,c 0)],v 26 L.az.l14])))=>b);simp only[sh];rfl
def L.az:LFn:=by apply(fun{b:LFn}(_:b=⟨[.un (.ax 2) (t 2)],q [.reg QG (p [] (.alloc 26) 0 2 z),.reg QG (l [31] [] [(31,t 0)] (.build 57 #[(0,a 31)]) 57 32 (p (w [32]) (.box 57 (a 32)) 55 33 (.fin [3] [(3,t 33)] []))),.reg QG (l [34,35] [(34,t 3)] [(35,t 3)] (.call ⟨.value (.func 13),#[a 35,.const (Qy Qz 5)],#[55,3]⟩) 3 36 (s [37,38,39] [] [(39,e 0 (e 2 (.un .nilPtr (t 34)))),(36,t 36)] (.store 3 (a 39) (a 36)) z)),.reg QG (s [40,41,42,43,44,45,46,47] [] [(47,e 4 (.un .nilPtr (t 3))),(45,g 0 (e 2 (.un .nilPtr (t 3))))] (.store 3 (a 47) (a 45)) z),.reg QG (l [48] [] [(48,t 3)] (.call ⟨.value (.func 13),#[a 48,.const (Qy Qz 9)],#[55,3]⟩) 3 49 (.fin [50,4] [(4,o (c 1) (t 49))] [])),.reg QG (l [51,52] [] [(51,t 3),(52,t 4)] (x 14 [51,52] [55,3]) 59 53 (.fin [5] [(5,t 53)] [])),.reg QG (l [54,55] [(54,t 3)] [(55,t 4),(55,t 4)] (.makeSlice 24 (a 55) (a 55)) 24 56 (s [57,58,59] [] [(59,e 1 (e 2 (.un .nilPtr (t 54)))),(56,t 56)] (.store 24 (a 59) (a 56)) z)),q [k [6] [(6,c 0)],v 0 L.az.l1],.reg QG (l [78] [] [(78,t 4),(78,t 4)] (.makeSlice 22 (a 78) (a 78)) 22 79 (.fin [7] [(7,t 79)] [])),q [k [8] [(8,c 1)],v 2 L.az.l2],.reg QG (l [135] [] [(135,t 4),(135,t 4)] (.makeSlice 63 (a 135) (a 135)) 63 136 (.fin [11] [(11,t 136)] [])),q [k [12] [(12,c 0)],v 6 L.az.l4],q [k [25] [(25,c 1)],v 24 L.az.l13],.reg QG (s [411,412,413,414] [] [(2,t 2),(414,.un (.ax 2) (e 2 (.un .nilPtr (t 3))))] (.store 26 (a 2) (a 414)) z),.ret]⟩)=>b);simp only[sh];rfl
theorem E.az:aI QH Tryz.f5=QB L.az:=by kernel_rfl
theorem F.az:Tryz.prog.funcs[N.az]? = QB Tryz.f5:=Tryz.func5
abbrev N.iq:Nat:=6
def L.iq:LFn:=by apply(fun{b:LFn}(_:b=⟨[t 2],q [k [2] [(2,.con (QD QC 0 0))],q [k [3,4,5] [(5,j .gtr (h (t 0)) (c 400))],u 5 (q [k [6,7,2] [(2,.bin .hi (t 0) (c 400))],.ret]) .skip],k [8,2] [(2,t 0)],.ret]⟩)=>b);simp only[sh];rfl
theorem E.iq:aI QH Tryz.f6=QB L.iq:=by kernel_rfl
theorem F.iq:Tryz.prog.funcs[N.iq]? = QB Tryz.f6:=Tryz.func6
abbrev N.cm:Nat:=7
def L.cm.l1:LC:=by apply(fun{b:LC}(_:b=f 0 14 5 [13,14] [15,16,5] (j .lss (t 5) (c 4)) (.block 1 (.reg QF (l [17,18,19] [(18,g 0 (t 4))] [(19,t 3)] (x 23 [19] [55]) 21 20 (p (w [20]) (.buildSlice 29 1 #[(0,a 20)]) 29 21 (.loud [] [] (w [18,21]) QC [] QF (.call ⟨.builtin .append,#[a 18,a 21],#[29,29]⟩) 29 (QB 22) QF (s [23] [] [(23,e 0 (t 4)),(22,t 22)] (.store 29 (a 23) (a 22)) z)))))))=>b);simp only[sh];rfl
def L.cm.l2:LC:=by apply(fun{b:LC}(_:b=f 2 29 7 [27,28,29] [30,31,7] (j .lss (t 7) (t 6)) (.block 3 (.reg QF (l [32,33,34] [(33,g 1 (t 4))] [(34,t 3)] (x 23 [34] [55]) 21 35 (p (w [35]) (.buildSlice 29 1 #[(0,a 35)]) 29 36 (.loud [] [] (w [33,36]) QC [] QF (.call ⟨.builtin .append,#[a 33,a 36],#[29,29]⟩) 29 (QB 37) QF (s [38] [] [(38,e 1 (t 4)),(37,t 37)] (.store 29 (a 38) (a 37)) z)))))))=>b);simp only[sh];rfl
def L.cm.l3:LC:=by apply(fun{b:LC}(_:b=f 4 43 8 [41,42,43] [44,45,8] (j .lss (t 8) (t 6)) (.block 5 (.reg QF (l [46,47,48] [(47,g 2 (t 4))] [(48,t 3)] (x 23 [48] [55]) 21 49 (p (w [49]) (.buildSlice 29 1 #[(0,a 49)]) 29 50 (.loud [] [] (w [47,50]) QC [] QF (.call ⟨.builtin .append,#[a 47,a 50],#[29,29]⟩) 29 (QB 51) QF (s [52] [] [(52,e 2 (t 4)),(51,t 51)] (.store 29 (a 52) (a 51)) z)))))))=>b);simp only[sh];rfl
def L.cm:LFn:=by apply(fun{b:LFn}(_:b=⟨[.un (.ax 4) (t 2)],q [.reg QG (p [] (.alloc 31) 0 2 z),.reg QG (l [9] [] [(9,t 0)] (.build 57 #[(0,a 9)]) 57 10 (p (w [10]) (.box 57 (a 10)) 55 11 (.fin [3] [(3,t 11)] []))),.reg QG (p [] (.build 31 #[(3,.const (Qy Qz 300))]) 31 12 (p [] (.alloc 31) 0 4 (s [] [] (w [4,12]) (.store 31 (a 4) (a 12)) z))),q [k [5] [(5,c 0)],v 0 L.cm.l1],.reg QG (l [24] [] [(24,t 3)] (.call ⟨.value (.func 13),#[a 24,.const (Qy Qz 13)],#[55,3]⟩) 3 25 (.fin [26,6] [(6,o (c 4) (t 25))] [])),q [k [7] [(7,c 0)],v 2 L.cm.l2],.reg QG (l [39] [] [(39,t 3)] (.call ⟨.value (.func 13),#[a 39,.const (Qy Qz 7)],#[55,3]⟩) 3 40 (.fin [6] [(6,t 40)] [])),q [k [8] [(8,c 0)],v 4 L.cm.l3],.reg QG (s [53] [] [(2,t 2),(53,.un (.ax 4) (t 4))] (.store 31 (a 2) (a 53)) z),.ret]⟩)=>b);simp only[sh];rfl
theorem E.cm:aI QH Tryz.f7=QB L.cm:=by kernel_rfl
theorem F.cm:Tryz.prog.funcs[N.cm]? = QB Tryz.f7:=Tryz.func7
abbrev N.ib:Nat:=8
def L.ib:LFn:=by apply(fun{b:LFn}(_:b=⟨[t 4],q [k [4] [(4,c 0)],k [5,6,7,8,9,10,11,4] [(4,.bin (.div .rem) (o (.bin (.div .rem) (t 0) (t 1)) (t 1)) (t 1))],.ret]⟩)=>b);simp only[sh];rfl
theorem E.ib:aI QH Tryz.f8=QB L.ib:=by kernel_rfl
theorem F.ib:Tryz.prog.funcs[N.ib]? = QB Tryz.f8:=Tryz.func8
abbrev N.cW:Nat:=9
def L.cW.l1:LC:=by apply(fun{b:LC}(_:b=q [k [41] [(41,j .lss (t 40) (t 39))],u 41 .skip (.exit 0),.block 1 (q [k [42,43,44,6,7] [(6,t 40),(7,d (i 1 (t 38) (t 40)))],.reg QG (s [45,46,47,48,49,50] [] [(48,g 0 (.un .nilPtr (t 5))),(49,t 6),(50,t 7)] (.mapUpdate 75 (a 48) (a 49) (a 50)) z)]),k [51,40] [(40,o (t 40) (c 1))]])=>b);simp only[sh];rfl
def L.cW.l3:LC:=by apply(fun{b:LC}(_:b=q [k [66] [(66,j .lss (t 65) (t 64))],u 66 .skip (.exit 4),.block 5 (q [.reg QG (l [67,68] [(68,.un (.ax 5) (i 5 (t 63) (t 65)))] [] (.alloc 68) 0 12 (s [] [] (w [12,68]) (.store 68 (a 12) (a 68)) z)),q [.reg QG (l [69] [] [(69,t 5)] (x 27 [69] [74]) 4 70 (.fin [71] [(71,.un .not (t 70))] [])),u 71 (.exit 2) .skip],.reg QG (.loud [72,73] [] [(72,t 5),(73,.un (.ax 5) (t 12))] QC [] QG (x 28 [72,73] [74,68]) 0 (QB 74) QG z)]),k [75,65] [(65,o (t 65) (c 1))]])=>b);simp only[sh];rfl
def L.cW.l2:LC:=by apply(fun{b:LC}(_:b=.block 3 (q [.reg QG (l [52,53,54,55,56] [(56,.un (.ax 6) (i 6 (g 1 (t 2)) (t 8)))] [] (.alloc 49) 0 10 (s [] [] (w [10,56]) (.store 49 (a 10) (a 56)) z)),.reg QG (.loud [57,58,59,60] [] [(57,t 5),(59,g 0 (t 10)),(60,t 9)] QC [] QG (x 26 [57,59,60] [74,46,3]) 0 (QB 61) QG z),q [k [62,63,64,65] [(63,g 1 (t 10)),(64,h (g 1 (t 10))),(65,c 0)],v 4 L.cW.l3],q [.reg QG (l [76] [] [(76,t 5)] (x 27 [76] [74]) 4 77 (.fin [78] [(78,.un .not (t 77))] [])),u 78 (.exit 2) .skip],.reg QG (l [79,80,81,82] [(79,t 8)] [(80,t 5),(82,.un (.ax 4) (e 2 (t 10)))] (x 29 [80,82] [74,45]) 3 83 (.fin [9,8] [(9,t 79),(8,t 83)] [])),k [84,85,86,87,88,89] [(89,j .neq (g 0 (e 1 (.un .nilPtr (t 5)))) (c 0))],u 89 (.exit 2) .skip]))=>b);simp only[sh];rfl
def L.cW:LFn:=by apply(fun{b:LFn}(_:b=⟨[.un (.ax 5) (t 4)],q [.reg QG (p (w [0]) (.box 26 (a 0)) 0 2 (p (w [1]) (.box 31 (a 1)) 0 3 (p [] (.alloc 36) 0 4 z))),q [.reg QG (l [13] [] [(13,.un (.ax 2) (t 2))] (x 24 [13] [26]) 4 14 (.fin [15] [(15,.un .not (t 14))] [])),u 15 (q [.reg QG (p [] (.build 36 #[(0,.const (Qy Qz 4))]) 36 16 (s [] [] (w [4,16]) (.store 36 (a 4) (a 16)) z)),.ret]) .skip],.reg QG (p [] (.makeMap 75 QC) 75 17 (l [18,19,20,21] [] [(17,t 17),(19,g 2 (t 3)),(21,g 3 (t 3))] (.build 77 #[(0,a 17),(2,a 19),(3,a 21)]) 77 22 (p (w [22]) (.box 77 (a 22)) 74 23 (.fin [5] [(5,t 23)] [])))),.reg QG (l [24,25] [(24,t 5)] [(25,.un (.ax 4) (t 3))] (x 25 [25] [31]) 29 26 (s [27,28,29] [] [(29,e 2 (e 1 (.un .nilPtr (t 24)))),(26,t 26)] (.store 29 (a 29) (a 26)) z)),q [k [30,31,32,33,34,35,36,37,38,39,40] [(38,.bin .hi (g 0 (t 3)) (.bin .min (h (g 0 (t 3))) (g 0 (t 2)))),(39,h (.bin .hi (g 0 (t 3)) (.bin .min (h (g 0 (t 3))) (g 0 (t 2))))),(40,c 0)],v 0 L.cW.l1],k [8,9] [(8,c 0),(9,c (-1))],.skip,v 2 L.cW.l2,.reg QG (s [90,91,92,93] [] [(4,t 4),(93,.un (.ax 5) (e 1 (.un .nilPtr (t 5))))] (.store 36 (a 4) (a 93)) z),.ret]⟩)=>b);simp only[sh];rfl
theorem E.cW:aI QH Tryz.f9=QB L.cW:=by kernel_rfl
theorem F.cW:Tryz.prog.funcs[N.cW]? = QB Tryz.f9:=Tryz.func9
abbrev N.bZ:Nat:=10
def L.bZ.l1:LC:=by apply(fun{b:LC}(_:b=q [k [45] [(45,j .lss (t 44) (t 43))],u 45 .skip (.exit 0),.block 1 (q [.reg QG (l [46,47] [(47,.un (.ax 6) (i 6 (t 42) (t 44)))] [] (.alloc 49) 0 10 (s [] [] (w [10,47]) (.store 49 (a 10) (a 47)) z)),k [48,49,50,51,52,53,54,55,56,57,8] [(8,o (t 8) (o (o (h (g 0 (t 10))) (h (g 1 (t 10)))) (c 1)))]]),k [58,44] [(44,o (t 44) (c 1))]])=>b);simp only[sh];rfl
def L.bZ.l2:LC:=by apply(fun{b:LC}(_:b=q [k [77] [(77,j .lss (t 76) (t 75))],u 77 .skip (.exit 2),.block 3 (q [.reg QG (l [78,79] [(79,.un (.ax 2) (i 2 (t 74) (t 76)))] [] (.alloc 89) 0 14 (s [] [] (w [14,79]) (.store 89 (a 14) (a 79)) z)),.reg QG (s [80,81,82,83,84] [] [(80,t 12),(81,.un (.ax 2) (t 14)),(84,h (g 1 (t 11)))] (.mapUpdate 88 (a 80) (a 81) (a 84)) z),.reg QG (l [85,86,87,88] [(86,g 1 (t 11))] [(88,d (.bin (.aidx 2 1) (t 14) (c 1)))] (.buildSlice 22 1 #[(0,a 88)]) 22 89 (p (w [89]) (.build 45 #[(0,.const (Qy Qz 1)),(2,a 89)]) 45 90 (p (w [90]) (.build 49 #[(2,a 90)]) 49 91 (p (w [91]) (.buildSlice 24 1 #[(0,a 91)]) 24 92 (p (w [86,92]) (.call ⟨.builtin .append,#[a 86,a 92],#[24,24]⟩) 24 93 (s [94] [] [(94,e 1 (t 11)),(93,t 93)] (.store 24 (a 94) (a 93)) z))))))]),k [95,76] [(76,o (t 76) (c 1))]])=>b);simp only[sh];rfl
def L.bZ.l4:LC:=by apply(fun{b:LC}(_:b=q [k [113] [(113,j .lss (t 112) (t 111))],u 113 .skip (.exit 6),.block 7 (q [k [114,115,116,17,18] [(17,t 112),(18,d (i 1 (t 110) (t 112)))],.reg QG (l [118,119,120] [(118,t 12)] [(119,t 15),(120,t 18)] (.build 89 #[(0,a 119),(1,a 120)]) 89 121 (p (w [118,121]) (.lookup 88 (a 118) (a 121) QF) 91 122 (.fin [117,123,124,19,20] [(19,.un (.ext 0) (t 122)),(20,.un (.ext 1) (t 122))] []))),k [125] [(125,t 20)],u 125 (.reg QG (s [126,127,128,129,130,131,132,133] [] [(133,i 1 (g 2 (e 2 (.un .nilPtr (t 16)))) (t 17)),(132,t 19)] (.store 3 (a 133) (a 132)) z)) .skip]),k [134,112] [(112,o (t 112) (c 1))]])=>b);simp only[sh];rfl
def L.bZ.l6:LC:=by apply(fun{b:LC}(_:b=q [k [148] [(148,j .lss (t 147) (t 146))],u 148 .skip (.exit 10),.block 11 (q [k [149,23] [(23,t 147)],.reg QG (l [151,152,153,154,155,156,157,158] [(151,t 12)] [(157,g 0 (i 2 (g 1 (t 22)) (t 23))),(158,t 15)] (.build 89 #[(0,a 157),(1,a 158)]) 89 159 (p (w [151,159]) (.lookup 88 (a 151) (a 159) QF) 91 160 (.fin [150,161,162,24,25] [(24,.un (.ext 0) (t 160)),(25,.un (.ext 1) (t 160))] []))),k [163] [(163,t 25)],u 163 (.reg QG (s [164,165,166,167,168,169] [] [(169,e 0 (i 2 (g 1 (t 22)) (t 23))),(167,t 24)] (.store 3 (a 169) (a 167)) z)) .skip]),k [170,147] [(147,o (t 147) (c 1))]])=>b);simp only[sh];rfl
def L.bZ.l5:LC:=by apply(fun{b:LC}(_:b=q [k [141] [(141,j .lss (t 140) (t 139))],u 141 .skip (.exit 8),.block 9 (q [.reg QG (l [142,143] [(143,.un (.ax 2) (i 2 (t 138) (t 140)))] [] (.alloc 52) 0 22 (s [] [] (w [22,143]) (.store 52 (a 22) (a 143)) z)),q [k [144,145,146,147] [(146,h (g 1 (t 22))),(147,c 0)],v 10 L.bZ.l6],.reg QG (.loud [171,172] [] [(172,g 1 (t 22))] QC [] QG (.call ⟨.value (.func 34),#[a 172,.func 35],#[50,93]⟩) 0 (QB 173) QG z)]),k [174,140] [(140,o (t 140) (c 1))]])=>b);simp only[sh];rfl
def L.bZ.l3:LC:=by apply(fun{b:LC}(_:b=q [k [100] [(100,j .lss (t 99) (t 98))],u 100 .skip (.exit 4),.block 5 (q [k [101,15] [(15,t 99)],k [102,103,104,105,16] [(16,i 6 (g 1 (t 11)) (t 15))],q [k [106,107,108,109,110,111,112] [(110,g 2 (e 2 (.un .nilPtr (t 16)))),(111,h (g 2 (e 2 (.un .nilPtr (t 16))))),(112,c 0)],v 6 L.bZ.l4],k [135,136,137,138,139,140] [(138,g 0 (.un .nilPtr (t 16))),(139,h (g 0 (.un .nilPtr (t 16)))),(140,c 0)],v 8 L.bZ.l5]),k [175,99] [(99,o (t 99) (c 1))]])=>b);simp only[sh];rfl
def L.bZ:LFn:=by apply(fun{b:LFn}(_:b=⟨[.un (.ax 2) (t 2),t 3],q [.reg QG (p (w [0]) (.box 26 (a 0)) 0 1 (p [] (.alloc 26) 0 2 (.fin [3] [(3,c 0)] []))),.reg QG (l [27] [] [(27,.un (.ax 2) (t 1))] (x 30 [27] [26]) 82 28 (.fin [26,29,30,31,4,5,6] [(4,.un (.ext 0) (t 28))] [.un (.ext 2) (t 28),.un (.ext 1) (t 28)])),q [k [32,33] [(33,j .neq (t 4) (c 0))],u 33 (q [.reg QG (p [] (.build 26 #[]) 26 34 (s [35] [(35,t 4)] (w [2,34]) (.store 26 (a 2) (a 34)) (.fin [3] [(3,t 35)] []))),.ret]) .skip],.reg QG (l [36] [] [(36,.un (.ax 2) (t 1))] (x 32 [36] [26]) 59 37 (p (w [37]) (x 31 [37] [59]) 84 38 (.fin [7] [(7,t 38)] []))),k [39,40,8] [(8,h (t 7))],q [k [41,42,43,44] [(42,g 1 (t 1)),(43,h (g 1 (t 1))),(44,c 0)],v 0 L.bZ.l1],q [k [59,60,61,62,63,64,65,66,67,68,69] [(69,.ite (j .gtr (o (h (g 1 (t 1))) (h (t 7))) (c 512)) (.con (.bool QF)) (j .gtr (t 8) (c 4096)))],u 69 (q [.reg QG (p [] (.build 26 #[]) 26 70 (s [] [] (w [2,70]) (.store 26 (a 2) (a 70)) (.fin [3] [(3,c 2)] []))),.ret]) .skip],.reg QG (l [71] [] [(71,.un (.ax 2) (t 1))] (x 33 [71] [26]) 26 72 (p [] (.alloc 26) 0 11 (s [] [] (w [11,72]) (.store 26 (a 11) (a 72)) z))),.reg QG (p [] (.makeMap 88 QC) 88 73 (.fin [12] [(12,t 73)] [])),q [k [74,75,76] [(74,t 7),(75,h (t 7)),(76,c 0)],v 2 L.bZ.l2],q [k [96,97,98,99] [(98,h (g 1 (t 1))),(99,c 0)],v 4 L.bZ.l3],.reg QG (s [176] [] [(2,t 2),(176,.un (.ax 2) (t 11))] (.store 26 (a 2) (a 176)) (.fin [3] [(3,c 0)] [])),.ret]⟩)=>b);simp only[sh];rfl
theorem E.bZ:aI QH Tryz.f10=QB L.bZ:=by kernel_rfl
theorem F.bZ:Tryz.prog.funcs[N.bZ]? = QB Tryz.f10:=Tryz.func10
abbrev N.fX:Nat:=11
def L.fX:LFn:=by apply(fun{b:LFn}(_:b=⟨[t 4],q [.reg QG (p (w [0]) (.box 36 (a 0)) 0 2 (p (w [1]) (.box 36 (a 1)) 0 3 (.fin [4] [(4,.con (.bool QG))] []))),.reg QG (.loud [5,6,7,8,9,10,11,12,13,14,15,16,17,18,19,20,21] [(17,.ite (j .eql (g 0 (t 2)) (g 0 (t 3))) (j .eql (g 1 (t 2)) (g 1 (t 3))) (.con (.bool QG)))] [(19,.gd (.ite (j .eql (g 0 (t 2)) (g 0 (t 3))) (j .eql (g 1 (t 2)) (g 1 (t 3))) (.con (.bool QG))) QF (g 2 (t 2))),(21,.gd (.ite (j .eql (g 0 (t 2)) (g 0 (t 3))) (j .eql (g 1 (t 2)) (g 1 (t 3))) (.con (.bool QG))) QF (g 2 (t 3)))] (QB (.ite (j .eql (g 0 (t 2)) (g 0 (t 3))) (j .eql (g 1 (t 2)) (g 1 (t 3))) (.con (.bool QG)),QF)) [] QG (x 36 [19,21] [29,29]) 4 (QB 22) QF (.loud [23,24,25,26,27,28] [(24,.ite (t 17) (t 22) (.con (.bool QG)))] [(26,.gd (.ite (t 17) (t 22) (.con (.bool QG))) QF (g 3 (t 2))),(28,.gd (.ite (t 17) (t 22) (.con (.bool QG))) QF (g 3 (t 3)))] (QB (.ite (t 17) (t 22) (.con (.bool QG)),QF)) [] QG (.call ⟨.value (.func 37),#[a 26,a 28,.func 38],#[34,34,98]⟩) 4 (QB 29) QF (.fin [30,4] [(4,.ite (t 24) (t 29) (.con (.bool QG)))] []))),.ret]⟩)=>b);simp only[sh];rfl
theorem E.fX:aI QH Tryz.f11=QB L.fX:=by kernel_rfl
theorem F.fX:Tryz.prog.funcs[N.fX]? = QB Tryz.f11:=Tryz.func11
end
section
set_option maxRecDepth 100000
abbrev N.eC:Nat:=12
def L.eC:LFn:=by apply(fun{b:LFn}(_:b=⟨[.un (.ax 2) (t 0)],q [.reg QG (p [] (.alloc 26) 0 0 z),.reg QG (p [] (.buildSlice 22 1 #[(0,.const (Qy Qz 0))]) 22 1 (p [] (.buildSlice 22 2 #[(0,.const (Qy Qz 1)),(1,.const (Qy Qz 2))]) 22 2 (p (w [1,2]) (.build 45 #[(0,.const (Qy Qz 2)),(1,a 1),(2,a 2)]) 45 3 (p (w [3]) (.build 49 #[(2,a 3)]) 49 4 (p [] (.buildSlice 22 1 #[(0,.const (Qy Qz 2))]) 22 5 (p (w [5]) (.build 45 #[(0,.const (Qy Qz 1)),(2,a 5)]) 45 6 (p (w [6]) (.build 49 #[(2,a 6)]) 49 7 (p [] (.build 54 #[(0,.const (Qy Qz 0)),(1,.const (Qy Qz 0))]) 54 8 (p [] (.build 54 #[(0,.const (Qy Qz 1)),(1,.const (Qy Qz 0))]) 54 9 (p (w [8,9]) (.buildSlice 50 2 #[(0,a 8),(1,a 9)]) 50 10 (p (w [10]) (.build 52 #[(0,.const (Qy Qz 1)),(1,a 10)]) 52 11 (p (w [11]) (.buildSlice 46 1 #[(0,a 11)]) 46 12 (p [] (.buildSlice 22 1 #[(0,.const (Qy Qz 1))]) 22 13 (p (w [13]) (.build 45 #[(0,.const (Qy Qz 4)),(1,a 13)]) 45 14 (p (w [12,14]) (.build 49 #[(0,a 12),(2,a 14)]) 49 15 (p (w [4,7,15]) (.buildSlice 24 3 #[(0,a 4),(1,a 7),(2,a 15)]) 24 16 (p (w [16]) (.build 26 #[(0,.const (Qy Qz 1)),(1,a 16)]) 26 17 (s [] [] (w [0,17]) (.store 26 (a 0) (a 17)) z)))))))))))))))))),.ret]⟩)=>b);simp only[sh];rfl
theorem E.eC:aI QH Tryz.f12=QB L.eC:=by kernel_rfl
theorem F.eC:Tryz.prog.funcs[N.eC]? = QB Tryz.f12:=Tryz.func12
abbrev N.bH:Nat:=13
def L.bH:LFn:=by apply(fun{b:LFn}(_:b=⟨[t 4],q [k [4] [(4,c 0)],k [5] [(5,c 0)],q [.reg QF (.fin [6,7,8,9,10,11,12,13,14,15] [(15,j .lss (g 1 (.un .nilPtr (t 0))) (h (g 0 (.un .nilPtr (t 0)))))] []),u 15 (.reg QF (.fin [16,17,18,19,20,21,22,23,24,25,5] [(5,d (i 1 (g 0 (.un .nilPtr (t 0))) (g 1 (.un .nilPtr (t 0)))))] [])) .skip],.reg QG (s [26,27,28,29,30,31,32,33] [] [(33,e 1 (.un .nilPtr (t 0))),(31,o (g 1 (.un .nilPtr (t 0))) (c 1))] (.store 3 (a 33) (a 31)) z),k [34,35,36,37,38,39,40,4] [(4,.bin (.div .rem) (o (.bin (.div .rem) (t 5) (t 1)) (t 1)) (t 1))],.ret]⟩)=>b);simp only[sh];rfl
theorem E.bH:aI QH Tryz.f13=QB L.bH:=by kernel_rfl
theorem F.bH:Tryz.prog.funcs[N.bH]? = QB Tryz.f13:=Tryz.func13
abbrev N.aU:Nat:=14
def L.aU.l1:LC:=by apply(fun{b:LC}(_:b=f 0 16 6 [14,15,16] [17,18,6] (j .lss (t 6) (t 1)) (.block 1 (q [k [19,20,7] [(7,.bin (.arith .sub) (t 6) (c 1))],q [.reg QG (l [21] [] [(21,t 0)] (.call ⟨.value (.func 13),#[a 21,.const (Qy Qz 3)],#[55,3]⟩) 3 22 (.fin [23] [(23,j .eql (t 22) (c 0))] [])),u 23 (.reg QG (l [24,25] [] [(24,t 0),(25,t 6)] (x 13 [24,25] [55,3]) 3 26 (.fin [7] [(7,t 26)] []))) .skip],.reg QG (l [27,28,29,30,31,32,33] [(27,t 5),(28,t 7),(32,d (i 1 (t 5) (t 7)))] [(33,t 6)] (.buildSlice 22 1 #[(0,a 33)]) 22 34 (p (w [32,34]) (.call ⟨.builtin .append,#[a 32,a 34],#[22,22]⟩) 22 35 (s [36] [] [(36,i 1 (t 27) (t 28)),(35,t 35)] (.store 22 (a 36) (a 35)) z)))])))=>b);simp only[sh];rfl
def L.aU.l3:LC:=by apply(fun{b:LC}(_:b=f 4 51 10 [44,45,46,47,48,49,50,51] [52,53,10] (.ite (j .lss (t 10) (.bin (.arith .sub) (t 9) (c 3))) (j .gtr (t 1) (c 1)) (.con (.bool QG))) (.block 5 (q [.reg QG (l [54,55,56] [] [(54,t 0),(56,.bin (.arith .sub) (t 1) (c 1))] (x 13 [54,56] [55,3]) 3 57 (.fin [58,11] [(11,o (c 1) (t 57))] [])),q [.reg QG (.loud [59,60,61,62,63] [(62,j .leq (t 11) (t 8))] [(63,.gd (j .leq (t 11) (t 8)) QF (t 0))] (QB (j .leq (t 11) (t 8),QF)) [] QG (.call ⟨.value (.func 13),#[a 63,.const (Qy Qz 2)],#[55,3]⟩) 3 (QB 64) QF (.fin [65,66] [(66,.ite (t 62) (j .eql (t 64) (c 0)) (.con (.bool QG)))] [])),u 66 (k [67,68,69,70,71,11] [(11,.bin .min (o (t 8) (c 1)) (.bin (.arith .sub) (t 1) (c 1)))]) .skip],.reg QG (l [72,73,74,75,76,77,78] [(72,t 5),(73,t 8),(77,d (i 1 (t 5) (t 8)))] [(78,t 11)] (.buildSlice 22 1 #[(0,a 78)]) 22 79 (p (w [77,79]) (.call ⟨.builtin .append,#[a 77,a 79],#[22,22]⟩) 22 80 (s [81] [] [(81,i 1 (t 72) (t 73)),(80,t 80)] (.store 22 (a 81) (a 80)) z)))])))=>b);simp only[sh];rfl
def L.aU.l2:LC:=by apply(fun{b:LC}(_:b=f 2 39 8 [37,38,39] [40,41,8] (j .lss (t 8) (t 1)) (.block 3 (q [.reg QG (l [42] [] [(42,t 0)] (.call ⟨.value (.func 13),#[a 42,.const (Qy Qz 6)],#[55,3]⟩) 3 43 (.fin [9] [(9,t 43)] [])),k [10] [(10,c 0)],v 4 L.aU.l3])))=>b);simp only[sh];rfl
def L.aU:LFn:=by apply(fun{b:LFn}(_:b=⟨[t 4],q [k [4] [(4,.con (QD QC 0 0))],.reg QG (l [12] [] [(12,t 1),(12,t 1)] (.makeSlice 59 (a 12) (a 12)) 59 13 (.fin [5] [(5,t 13)] [])),q [k [6] [(6,c 1)],v 0 L.aU.l1],q [k [8] [(8,c 0)],v 2 L.aU.l2],k [82,4] [(4,t 5)],.ret]⟩)=>b);simp only[sh];rfl
theorem E.aU:aI QH Tryz.f14=QB L.aU:=by kernel_rfl
theorem F.aU:Tryz.prog.funcs[N.aU]? = QB Tryz.f14:=Tryz.func14
abbrev N.dP:Nat:=15
def L.dP.l2:LC:=by apply(fun{b:LC}(_:b=f 2 27 8 [24,25,26,27] [28,29,8] (j .lss (t 8) (h (t 7))) (.block 3 (q [k [30,31,32,33,34,35] [(35,j .eql (d (i 1 (t 7) (t 8))) (t 1))],u 35 (q [.reg QG (l [36,37] [(36,t 5)] [(37,t 6)] (.buildSlice 22 1 #[(0,a 37)]) 22 38 (p (w [36,38]) (.call ⟨.builtin .append,#[a 36,a 38],#[22,22]⟩) 22 39 (.fin [5] [(5,t 39)] []))),.exit 2]) .skip])))=>b);simp only[sh];rfl
def L.dP.l1:LC:=by apply(fun{b:LC}(_:b=f 0 14 6 [10,11,12,13,14] [15,16,6] (j .lss (t 6) (h (g 1 (t 2)))) (.block 1 (q [k [17,18,19,20,21,22,23,7] [(7,g 2 (e 2 (i 6 (g 1 (t 2)) (t 6))))],k [8] [(8,c 0)],v 2 L.dP.l2])))=>b);simp only[sh];rfl
def L.dP:LFn:=by apply(fun{b:LFn}(_:b=⟨[t 4],q [.reg QG (p (w [0]) (.box 26 (a 0)) 0 2 (.fin [4] [(4,.con (QD QC 0 0))] [])),.reg QG (p [] (.buildSlice 22 0 #[]) 22 9 (.fin [5] [(5,t 9)] [])),q [k [6] [(6,c 0)],v 0 L.dP.l1],k [40,4] [(4,t 5)],.ret]⟩)=>b);simp only[sh];rfl
theorem E.dP:aI QH Tryz.f15=QB L.dP:=by kernel_rfl
theorem F.dP:Tryz.prog.funcs[N.dP]? = QB Tryz.f15:=Tryz.func15
abbrev N.bL:Nat:=16
def L.bL:LFn:=by apply(fun{b:LFn}(_:b=⟨[t 2],q [k [2] [(2,c 0)],.reg QG (s [3,4,5,6,7,8,9,10] [] [(10,e 4 (.un .nilPtr (t 0))),(8,o (g 4 (.un .nilPtr (t 0))) (c 1))] (.store 3 (a 10) (a 8)) z),k [11,12,13,14,15,2] [(2,.bin (.arith .sub) (g 4 (.un .nilPtr (t 0))) (c 1))],.ret]⟩)=>b);simp only[sh];rfl
theorem E.bL:aI QH Tryz.f16=QB L.bL:=by kernel_rfl
theorem F.bL:Tryz.prog.funcs[N.bL]? = QB Tryz.f16:=Tryz.func16
abbrev N.cG:Nat:=17
def L.cG.l2:LC:=by apply(fun{b:LC}(_:b=f 2 47 9 [44,45,46,47] [48,49,9] (j .lss (t 9) (h (t 8))) (.block 3 (q [k [50,51,52,53,54,55,56,57,58,59,60,61,62,63,64,65,66,67,68,69,70,71,72,73,74,75,76,77,78,79,80,81] [(81,.ite (.ite (.ite (j .geq (d (i 1 (t 8) (t 9))) (c 0)) (j .lss (d (i 1 (t 8) (t 9))) (h (t 5))) (.con (.bool QG))) (.un .not (d (i 1 (t 5) (d (i 1 (t 8) (t 9)))))) (.con (.bool QG))) (j .neq (d (i 1 (t 8) (t 9))) (t 1)) (.con (.bool QG)))],u 81 (q [.reg QG (s [82,83,84,85,86,87] [] [(87,i 1 (t 5) (d (i 1 (t 8) (t 9))))] (.store 4 (a 87) (.const (.bool QF))) z),.reg QG (l [88,89,90,91,92] [(88,t 6)] [(92,d (i 1 (t 8) (t 9)))] (.buildSlice 22 1 #[(0,a 92)]) 22 93 (p (w [88,93]) (.call ⟨.builtin .append,#[a 88,a 93],#[22,22]⟩) 22 94 (.fin [6] [(6,t 94)] [])))]) .skip])))=>b);simp only[sh];rfl
def L.cG.l1:LC:=by apply(fun{b:LC}(_:b=f 0 31 7 [28,29,30,31] [32,33,7] (j .lss (t 7) (h (t 6))) (.block 1 (q [.reg QF (.fin [34,35,36,37,38,39,40,41,42,43,8] [(8,g 2 (e 2 (i 6 (g 1 (t 2)) (d (i 1 (t 6) (t 7))))))] []),k [9] [(9,c 0)],v 2 L.cG.l2])))=>b);simp only[sh];rfl
def L.cG:LFn:=by apply(fun{b:LFn}(_:b=⟨[t 4],q [.reg QG (p (w [0]) (.box 26 (a 0)) 0 2 (.fin [4] [(4,.con (QD QC 0 0))] [])),.reg QG (l [10,11,12] [] [(12,h (g 1 (t 2))),(12,h (g 1 (t 2)))] (.makeSlice 63 (a 12) (a 12)) 63 13 (.fin [5] [(5,t 13)] [])),.reg QG (p [] (.buildSlice 22 0 #[]) 22 14 (.fin [6] [(6,t 14)] [])),q [k [15,16,17,18,19,20,21,22] [(22,.ite (j .neq (t 1) (c 0)) (j .gtr (h (g 1 (t 2))) (c 0)) (.con (.bool QG)))],u 22 (q [.reg QG (s [23,24] [] [(24,i 1 (t 5) (c 0))] (.store 4 (a 24) (.const (.bool QF))) z),.reg QG (l [25] [(25,t 6)] [] (.buildSlice 22 1 #[(0,.const (Qy Qz 0))]) 22 26 (p (w [25,26]) (.call ⟨.builtin .append,#[a 25,a 26],#[22,22]⟩) 22 27 (.fin [6] [(6,t 27)] [])))]) .skip],q [k [7] [(7,c 0)],v 0 L.cG.l1],k [95,4] [(4,t 5)],.ret]⟩)=>b);simp only[sh];rfl
theorem E.cG:aI QH Tryz.f17=QB L.cG:=by kernel_rfl
theorem F.cG:Tryz.prog.funcs[N.cG]? = QB Tryz.f17:=Tryz.func17
abbrev N.fW:Nat:=18
def L.fW:LFn:=by apply(fun{b:LFn}(_:b=⟨[t 2],q [.reg QG (p (w [0]) (.box 68 (a 0)) 0 1 (.fin [2] [(2,.con (QD QC 0 0))] [])),q [k [3,4] [(4,g 0 (t 1))],.block 0 (q [k [6,5] [(5,j .eql (t 4) (c 16))],u 5 (q [k [2] [(2,.con (QD QC 0 0))],.ret]) (q [k [8,7] [(7,j .eql (t 4) (c 18))],u 7 (q [.reg QG (l [9,10,11,12] [] [(10,g 1 (t 1)),(12,g 2 (t 1))] (.buildSlice 22 2 #[(0,a 10),(1,a 12)]) 22 13 (.fin [2] [(2,t 13)] [])),.ret]) .skip])])],.reg QG (l [14,15] [] [(15,g 1 (t 1))] (.buildSlice 22 1 #[(0,a 15)]) 22 16 (.fin [2] [(2,t 16)] [])),.ret]⟩)=>b);simp only[sh];rfl
theorem E.fW:aI QH Tryz.f18=QB L.fW:=by kernel_rfl
theorem F.fW:Tryz.prog.funcs[N.fW]? = QB Tryz.f18:=Tryz.func18
abbrev N.aX:Nat:=19
def L.aX.l1:LC:=by apply(fun{b:LC}(_:b=f 1 122 14 [120,121,122] [123,124,14] (j .lss (t 14) (t 13)) (.block 2 (.reg QG (l [125,126,127] [(125,t 12)] [(126,t 0),(127,t 1)] (x 39 [126,127] [55,3]) 3 128 (p (w [128]) (.buildSlice 22 1 #[(0,a 128)]) 22 129 (p (w [125,129]) (.call ⟨.builtin .append,#[a 125,a 129],#[22,22]⟩) 22 130 (.fin [12] [(12,t 130)] [])))))))=>b);simp only[sh];rfl
def L.aX:LFn:=by apply(fun{b:LFn}(_:b=⟨[],q [.reg QG (l [18] [] [(18,t 0)] (.call ⟨.value (.func 13),#[a 18,.const (Qy Qz 20)],#[55,3]⟩) 3 19 (.fin [4] [(4,t 19)] [])),.block 0 (q [k [26,27,25] [(25,j .lss (t 4) (c 12))],u 25 (q [.reg QG (p [] (.build 99 #[(0,.const (Qy Qz 2)),(1,.const (Qy Qz 2)),(2,.const (Qy Qz 3)),(3,.const (Qy Qz 4)),(4,.const (Qy Qz 5)),(5,.const (Qy Qz 6)),(6,.const (Qy Qz 7)),(7,.const (Qy Qz 8)),(8,.const (Qy Qz 9)),(9,.const (Qy Qz 10)),(10,.const (Qy Qz 12)),(11,.const (Qy Qz 11))]) 99 28 (p [] (.alloc 99) 0 5 (s [] [] (w [5,28]) (.store 99 (a 5) (a 28)) z))),.reg QG (l [29,30] [] [(29,t 0),(30,t 1)] (x 39 [29,30] [55,3]) 3 31 (.fin [6] [(6,t 31)] [])),.reg QG (l [32,33] [] [(32,t 0),(33,t 1)] (x 39 [32,33] [55,3]) 3 34 (.fin [7] [(7,t 34)] [])),q [.reg QG (l [35] [] [(35,t 0)] (.call ⟨.value (.func 13),#[a 35,.const (Qy Qz 3)],#[55,3]⟩) 3 36 (.fin [37] [(37,j .eql (t 36) (c 0))] [])),u 37 (.reg QG (l [38,39,40] [(38,t 0),(39,t 1)] [(40,t 0)] (.call ⟨.value (.func 13),#[a 40,.const (Qy Qz 40)],#[55,3]⟩) 3 41 (l [42,43] [] [(38,t 38),(39,t 39),(43,.un (.conv .i32) (.bin (.arith .sub) (t 41) (c 8)))] (x 22 [38,39,43] [55,3,21]) 3 44 (.fin [7] [(7,t 44)] [])))) .skip],.reg QF (.both (l [45,46,47,48,49,50,52,53] [(45,t 0),(46,t 1),(49,d (.bin (.aidx 12 1) (t 5) (t 4))),(52,t 6),(53,t 7)] [(50,t 0)] (x 16 [50] [55]) 3 51 (p (w [52,53]) (.buildSlice 22 2 #[(0,a 52),(1,a 53)]) 22 54 (.loud [] [] (w [49,51,54]) QC [] QF (.build 68 #[(0,a 49),(1,a 51),(3,a 54)]) 68 (QB 55) QF (.loud [] [] (w [45,46,55]) QC [] QG (x 40 [45,46,55] [55,3,68]) 0 (QB 56) QG z)))) (l [45,46,47,48,49,50,52,53] [(45,t 0),(46,t 1),(49,d (.bin (.aidx 12 1) (t 5) (t 4))),(50,t 0)] [(52,t 6),(53,t 7)] (.buildSlice 22 2 #[(0,a 52),(1,a 53)]) 22 54 (p (w [50]) (x 16 [50] [55]) 3 51 (.loud [] [] (w [49,51,54]) QC [] QF (.build 68 #[(0,a 49),(1,a 51),(3,a 54)]) 68 (QB 55) QF (.loud [] [] (w [45,46,55]) QC [] QG (x 40 [45,46,55] [55,3,68]) 0 (QB 56) QG z)))))]) (q [k [58,59,57] [(57,j .eql (t 4) (c 12))],u 57 (q [.reg QG (l [60,61] [] [(60,t 0),(61,t 1)] (x 39 [60,61] [55,3]) 3 62 (.fin [8] [(8,t 62)] [])),.reg QG (l [63,64] [] [(63,t 0),(64,t 1)] (x 39 [63,64] [55,3]) 3 65 (.fin [9] [(9,t 65)] [])),.reg QG (l [66,67,68] [(66,t 0),(67,t 1)] [(68,t 0)] (x 16 [68] [55]) 3 69 (l [70,71] [] [(70,t 8),(71,t 9)] (.buildSlice 22 2 #[(0,a 70),(1,a 71)]) 22 72 (p (w [69,72]) (.build 68 #[(0,.const (Qy Qz 13)),(1,a 69),(3,a 72)]) 68 73 (.loud [] [] (w [66,67,73]) QC [] QG (x 40 [66,67,73] [55,3,68]) 0 (QB 74) QG z))))]) (q [k [76,77,75] [(75,j .eql (t 4) (c 13))],u 75 (q [.reg QG (l [78,79] [] [(78,t 0),(79,t 1)] (x 39 [78,79] [55,3]) 3 80 (.fin [10] [(10,t 80)] [])),.reg QG (l [81,82,83] [(81,t 0),(82,t 1)] [(83,t 0)] (.call ⟨.value (.func 13),#[a 83,.const (Qy Qz 12)],#[55,3]⟩) 3 84 (l [85] [] [(81,t 81),(82,t 82),(85,.un (.conv .i32) (t 84))] (x 22 [81,82,85] [55,3,21]) 3 86 (.fin [11] [(11,t 86)] []))),q [.reg QG (l [87] [] [(87,t 0)] (.call ⟨.value (.func 13),#[a 87,.const (Qy Qz 3)],#[55,3]⟩) 3 88 (.fin [89] [(89,j .gtr (t 88) (c 0))] [])),u 89 (.reg QG (l [90,91,92] [(90,t 0),(91,t 1)] [(92,t 0)] (.call ⟨.value (.func 13),#[a 92,.const (Qy Qz 12)],#[55,3]⟩) 3 93 (l [94,95] [] [(90,t 90),(91,t 91),(95,o (.con (Qy QA 1)) (.un (.conv .i32) (t 93)))] (x 22 [90,91,95] [55,3,21]) 3 96 (.fin [11] [(11,t 96)] [])))) .skip],.reg QG (l [97,98,99] [(97,t 0),(98,t 1)] [(99,t 0)] (x 16 [99] [55]) 3 100 (l [101,102] [] [(101,t 10),(102,t 11)] (.buildSlice 22 2 #[(0,a 101),(1,a 102)]) 22 103 (p (w [100,103]) (.build 68 #[(0,.const (Qy Qz 14)),(1,a 100),(3,a 103)]) 68 104 (.loud [] [] (w [97,98,104]) QC [] QG (x 40 [97,98,104] [55,3,68]) 0 (QB 105) QG z))))]) (q [k [107,108,106] [(106,j .lss (t 4) (c 16))],u 106 (.reg QG (.loud [109,110,111,112] [] [(109,t 0),(110,t 1),(112,j .eql (t 4) (c 15))] QC [] QG (x 41 [109,110,112] [55,3,4]) 0 (QB 113) QG z)) (q [k [115,116,114] [(114,j .eql (t 4) (c 16))],u 114 (q [.reg QG (p [] (.buildSlice 22 0 #[]) 22 117 (.fin [12] [(12,t 117)] [])),.reg QG (l [118] [] [(118,t 0)] (.call ⟨.value (.func 13),#[a 118,.const (Qy Qz 5)],#[55,3]⟩) 3 119 (.fin [13] [(13,t 119)] [])),q [k [14] [(14,c 0)],v 1 L.aX.l1],.reg QG (l [131,132,133] [(131,t 0),(132,t 1)] [(133,t 0)] (x 16 [133] [55]) 3 134 (l [135,136] [(135,t 12)] [(136,t 0)] (.call ⟨.value (.func 13),#[a 136,.const (Qy Qz 5)],#[55,3]⟩) 3 137 (l [138] [] [(134,t 134),(135,t 135),(138,.un (.conv .i32) (t 137))] (.build 68 #[(0,.const (Qy Qz 17)),(1,a 134),(3,a 135),(4,a 138)]) 68 139 (.loud [] [] (w [131,132,139]) QC [] QG (x 40 [131,132,139] [55,3,68]) 0 (QB 140) QG z))))]) (q [k [142,143,141] [(141,j .eql (t 4) (c 17))],u 141 (q [.reg QG (l [144,145] [] [(144,t 0),(145,t 1)] (x 39 [144,145] [55,3]) 3 146 (.fin [15] [(15,t 146)] [])),.reg QG (l [147,148] [] [(147,t 0),(148,t 1)] (x 39 [147,148] [55,3]) 3 149 (.fin [16] [(16,t 149)] [])),.reg QG (l [150] [] [(150,t 0)] (x 16 [150] [55]) 3 151 (.fin [17] [(17,t 151)] [])),.reg QG (l [152,153,154,155] [(152,t 0),(153,t 1),(154,t 17)] [(155,t 0)] (x 16 [155] [55]) 3 156 (l [157,158] [] [(157,t 15),(158,t 16)] (.buildSlice 22 2 #[(0,a 157),(1,a 158)]) 22 159 (p (w [154,156,159]) (.build 68 #[(0,.const (Qy Qz 18)),(1,a 154),(2,a 156),(3,a 159)]) 68 160 (.loud [] [] (w [152,153,160]) QC [] QG (x 40 [152,153,160] [55,3,68]) 0 (QB 161) QG z))))]) (.reg QG (l [20,21,22] [(20,t 0),(21,t 1)] [(22,t 0)] (x 23 [22] [55]) 21 23 (.loud [] [] (w [20,21,23]) QC [] QG (x 22 [20,21,23] [55,3,21]) 3 (QB 24) QG z)))])])])])])])]⟩)=>b);simp only[sh];rfl
theorem E.aX:aI QH Tryz.f19=QB L.aX:=by kernel_rfl
theorem F.aX:Tryz.prog.funcs[N.aX]? = QB Tryz.f19:=Tryz.func19
abbrev N.dE:Nat:=20
def L.dE:LFn:=by apply(fun{b:LFn}(_:b=⟨[],q [.reg QG (p [] (.build 45 #[]) 45 15 (p [] (.alloc 45) 0 6 (s [] [] (w [6,15]) (.store 45 (a 6) (a 15)) z))),q [k [16,17] [(17,h (t 2))],.block 0 (q [k [41,40] [(40,j .eql (t 17) (c 0))],u 40 (q [.reg QG (s [42] [] [(42,e 0 (t 6))] (.store 3 (a 42) (.const (Qy Qz 4))) z),.reg QG (l [43] [] [(43,t 0)] (.call ⟨.value (.func 13),#[a 43,.const (Qy Qz 8)],#[55,3]⟩) 3 44 (.fin [7] [(7,t 44)] [])),k [45,46] [(46,j .eql (t 7) (c 0))],u 46 (q [.reg QG (s [47] [] [(47,e 0 (t 6))] (.store 3 (a 47) (.const (Qy Qz 5))) z),.reg QG (l [48] [] [(48,t 0)] (.call ⟨.value (.func 13),#[a 48,.const (Qy Qz 200)],#[55,3]⟩) 3 49 (s [50,51] [] [(51,e 3 (t 6)),(50,.un (.conv .i32) (t 49))] (.store 21 (a 51) (a 50)) z))]) (q [k [52,53] [(53,j .gtr (t 7) (c 1))],u 53 (.reg QG (l [54,55] [] [(54,t 0),(55,t 1)] (x 39 [54,55] [55,3]) 3 56 (p (w [56]) (.buildSlice 22 1 #[(0,a 56)]) 22 57 (s [58] [] [(58,e 1 (t 6)),(57,t 57)] (.store 22 (a 58) (a 57)) z)))) .skip])]) (q [k [60,59] [(59,j .eql (t 17) (c 1))],u 59 (q [.reg QG (s [61] [] [(61,e 0 (t 6))] (.store 3 (a 61) (.const (Qy Qz 1))) z),.reg QG (s [62,63] [] [(63,e 2 (t 6)),(62,t 2)] (.store 22 (a 63) (a 62)) z)]) (q [k [65,64] [(64,j .eql (t 17) (c 2))],u 64 (q [.reg QG (s [66] [] [(66,e 0 (t 6))] (.store 3 (a 66) (.const (Qy Qz 2))) z),.reg QG (s [67,68] [] [(68,e 2 (t 6)),(67,t 2)] (.store 22 (a 68) (a 67)) z),.reg QG (l [69,70] [] [(69,t 0),(70,t 1)] (x 39 [69,70] [55,3]) 3 71 (.fin [8] [(8,t 71)] [])),q [.reg QG (l [72] [] [(72,t 0)] (.call ⟨.value (.func 13),#[a 72,.const (Qy Qz 2)],#[55,3]⟩) 3 73 (.fin [74] [(74,j .eql (t 73) (c 0))] [])),u 74 (q [.reg QG (p [] (.build 102 #[(0,.const (Qy Qz 11)),(1,.const (Qy Qz 12)),(2,.const (Qy Qz 13))]) 102 75 (p [] (.alloc 102) 0 9 (s [] [] (w [9,75]) (.store 102 (a 9) (a 75)) z))),.reg QG (l [76,77] [] [(76,t 0),(77,t 1)] (x 39 [76,77] [55,3]) 3 78 (.fin [10] [(10,t 78)] [])),.reg QG (l [79] [] [(79,t 0)] (x 16 [79] [55]) 3 80 (.fin [11] [(11,t 80)] [])),.reg QG (l [81,82,83] [(81,t 0),(82,t 1)] [(83,t 0)] (.call ⟨.value (.func 13),#[a 83,.const (Qy Qz 3)],#[55,3]⟩) 3 84 (l [85,86,87,88,89] [(86,d (.bin (.aidx 3 1) (t 9) (t 84))),(87,t 11)] [(88,t 8),(89,t 10)] (.buildSlice 22 2 #[(0,a 88),(1,a 89)]) 22 90 (p (w [86,87,90]) (.build 68 #[(0,a 86),(1,a 87),(3,a 90)]) 68 91 (.loud [] [] (w [81,82,91]) QC [] QG (x 40 [81,82,91] [55,3,68]) 0 (QB 92) QG z)))),k [93,8] [(8,t 11)]]) .skip],.reg QG (l [94] [] [(94,t 8)] (.buildSlice 22 1 #[(0,a 94)]) 22 95 (s [96] [] [(96,e 1 (t 6)),(95,t 95)] (.store 22 (a 96) (a 95)) z))]) (q [.reg QG (s [18] [] [(18,e 0 (t 6))] (.store 3 (a 18) (.const (Qy Qz 3))) z),.reg QG (s [19,20] [] [(20,e 2 (t 6)),(19,t 2)] (.store 22 (a 20) (a 19)) z),.reg QG (l [21,22] [] [(21,t 0),(22,t 1)] (x 39 [21,22] [55,3]) 3 23 (.fin [12] [(12,t 23)] [])),.reg QG (l [24,25] [] [(24,t 0),(25,t 1)] (.call ⟨.value (.func 22),#[a 24,a 25,.const (Qy QA 7)],#[55,3,21]⟩) 3 26 (.fin [13] [(13,t 26)] [])),.reg QG (l [27] [] [(27,t 0)] (x 16 [27] [55]) 3 28 (.fin [14] [(14,t 28)] [])),.reg QG (l [29,30,31,32,33] [(29,t 0),(30,t 1),(31,t 14)] [(32,t 12),(33,t 13)] (.buildSlice 22 2 #[(0,a 32),(1,a 33)]) 22 34 (p (w [31,34]) (.build 68 #[(0,.const (Qy Qz 5)),(1,a 31),(3,a 34)]) 68 35 (.loud [] [] (w [29,30,35]) QC [] QG (x 40 [29,30,35] [55,3,68]) 0 (QB 36) QG z))),.reg QG (l [37] [] [(37,t 14)] (.buildSlice 22 1 #[(0,a 37)]) 22 38 (s [39] [] [(39,e 1 (t 6)),(38,t 38)] (.store 22 (a 39) (a 38)) z))])])])])],.reg QF (.loud [97,98,99,100,101,102,103,104,105] [] [(105,e 2 (i 6 (g 1 (e 2 (.un .nilPtr (t 0)))) (t 1))),(103,.un (.ax 4) (t 6))] QC [] QF (.store 45 (a 105) (a 103)) 0 QC QG z)]⟩)=>b);simp only[sh];rfl
theorem E.dE:aI QH Tryz.f20=QB L.dE:=by kernel_rfl
theorem F.dE:Tryz.prog.funcs[N.dE]? = QB Tryz.f20:=Tryz.func20
abbrev N.cz:Nat:=21
def L.cz.l1:LC:=by apply(fun{b:LC}(_:b=f 0 15 6 [12,13,14,15] [16,17,6] (j .lss (t 6) (g 0 (t 2))) (.block 1 (.reg QG (l [18,19] [(18,t 5)] [(19,t 6)] (.buildSlice 22 1 #[(0,a 19)]) 22 20 (p (w [18,20]) (.call ⟨.builtin .append,#[a 18,a 20],#[22,22]⟩) 22 21 (.fin [5] [(5,t 21)] []))))))=>b);simp only[sh];rfl
def L.cz.l2:LC:=by apply(fun{b:LC}(_:b=f 2 27 8 [24,25,26,27] [28,29,8] (j .lss (t 8) (h (t 7))) (.block 3 (q [k [9] [(9,.con (.bool QF))],q [k [30,31,32,33,34,35,36] [(36,j .neq (g 0 (i 4 (t 7) (t 8))) (t 1))],u 36 (q [.reg QF (.loud [37,38,39,40,41,42] [] [(37,.un (.ax 2) (t 2)),(42,g 0 (i 4 (t 7) (t 8)))] QC [] QF (x 17 [37,42] [26,3]) 63 (QB 43) QF (.fin [10] [(10,t 43)] [])),k [44,45,46,47,48,9] [(9,.un .not (d (i 1 (t 10) (t 1))))]]) .skip],k [49] [(49,t 9)],u 49 (.reg QG (l [50,51,52,53,54,55] [] [(50,t 5),(55,g 2 (i 4 (t 7) (t 8)))] (.call ⟨.builtin .append,#[a 50,a 55],#[22,22]⟩) 22 56 (.fin [5] [(5,t 56)] []))) .skip])))=>b);simp only[sh];rfl
def L.cz:LFn:=by apply(fun{b:LFn}(_:b=⟨[t 4],q [.reg QG (p (w [0]) (.box 26 (a 0)) 0 2 (.fin [4] [(4,.con (QD QC 0 0))] [])),.reg QG (p [] (.buildSlice 22 0 #[]) 22 11 (.fin [5] [(5,t 11)] [])),q [k [6] [(6,c 0)],v 0 L.cz.l1],.reg QG (l [22] [] [(22,.un (.ax 2) (t 2))] (x 42 [22] [26]) 103 23 (.fin [7] [(7,t 23)] [])),q [k [8] [(8,c 0)],v 2 L.cz.l2],k [57,4] [(4,t 5)],.ret]⟩)=>b);simp only[sh];rfl
theorem E.cz:aI QH Tryz.f21=QB L.cz:=by kernel_rfl
theorem F.cz:Tryz.prog.funcs[N.cz]? = QB Tryz.f21:=Tryz.func21
abbrev N.bw:Nat:=22
def L.bw:LFn:=by apply(fun{b:LFn}(_:b=⟨[t 6],q [k [6] [(6,c 0)],.reg QG (l [8] [] [(8,t 0)] (x 16 [8] [55]) 3 9 (.fin [7] [(7,t 9)] [])),.reg QG (l [10,11,12,13] [(10,t 0),(11,t 1)] [(12,t 7),(13,t 2)] (.build 68 #[(0,.const (Qy Qz 1)),(1,a 12),(4,a 13)]) 68 14 (.loud [] [] (w [10,11,14]) QC [] QG (x 40 [10,11,14] [55,3,68]) 0 (QB 15) QG z)),k [16,6] [(6,t 7)],.ret]⟩)=>b);simp only[sh];rfl
theorem E.bw:aI QH Tryz.f22=QB L.bw:=by kernel_rfl
theorem F.bw:Tryz.prog.funcs[N.bw]? = QB Tryz.f22:=Tryz.func22
abbrev N.b6:Nat:=23
def L.b6:LFn:=by apply(fun{b:LFn}(_:b=⟨[t 2],q [k [2] [(2,.con (Qy QA 0))],.reg QG (l [4] [] [(4,t 0)] (.call ⟨.value (.func 13),#[a 4,.const (Qy Qz 1048576)],#[55,3]⟩) 3 5 (.fin [3] [(3,t 5)] [])),q [.reg QG (l [6] [] [(6,t 0)] (.call ⟨.value (.func 13),#[a 6,.const (Qy Qz 8)],#[55,3]⟩) 3 7 z),.block 0 (q [k [9,8] [(8,j .eql (t 7) (c 0))],u 8 (q [k [10,11,12,2] [(2,.un (.conv .i32) (.bin (.arith .mul) (t 3) (c 4099)))],.ret]) (q [k [14,13] [(13,j .eql (t 7) (c 1))],u 13 (q [.reg QG (l [15] [] [(15,t 3)] (.unOp .neg 3 (a 15)) 3 16 (.fin [17,2] [(2,.un (.conv .i32) (t 16))] [])),.ret]) (q [k [19,18] [(18,j .eql (t 7) (c 2))],u 18 (q [k [2] [(2,.con (Qy QA (-2147483648)))],.ret]) (q [k [21,20] [(20,j .eql (t 7) (c 3))],u 20 (q [k [22,23,24,2] [(2,.un (.conv .i32) (.bin (.div .rem) (t 3) (c 70000)))],.ret]) .skip])])])])],k [25,26,27,28,2] [(2,.un (.conv .i32) (.bin (.arith .sub) (.bin (.div .rem) (t 3) (c 20)) (c 4)))],.ret]⟩)=>b);simp only[sh];rfl
theorem E.b6:aI QH Tryz.f23=QB L.b6:=by kernel_rfl
theorem F.b6:Tryz.prog.funcs[N.b6]? = QB Tryz.f23:=Tryz.func23
abbrev N.fQ:Nat:=24
def L.fQ:LFn:=by apply(fun{b:LFn}(_:b=⟨[t 2],q [.reg QG (p (w [0]) (.box 26 (a 0)) 0 1 (.fin [2] [(2,.con (.bool QG))] [])),.reg QG (l [7] [] [(7,.un (.ax 2) (t 1))] (x 30 [7] [26]) 82 8 (.fin [6,9,10,11,3,4,5] [(3,.un (.ext 0) (t 8))] [.un (.ext 2) (t 8),.un (.ext 1) (t 8)])),k [12,13,2] [(2,j .eql (t 3) (c 0))],.ret]⟩)=>b);simp only[sh];rfl
theorem E.fQ:aI QH Tryz.f24=QB L.fQ:=by kernel_rfl
theorem F.fQ:Tryz.prog.funcs[N.fQ]? = QB Tryz.f24:=Tryz.func24
abbrev N.eB:Nat:=25
def L.eB:LFn:=by apply(fun{b:LFn}(_:b=⟨[t 2],q [.reg QG (p (w [0]) (.box 31 (a 0)) 0 1 (.fin [2] [(2,.con (QD QC 0 0))] [])),.reg QG (l [3,4,5,6,7,8,9] [] [(9,.bin .hi (g 1 (t 1)) (.bin .min (h (g 1 (t 1))) (c 4096)))] (x 43 [9] [29]) 29 10 (.fin [2] [(2,t 10)] [])),.ret]⟩)=>b);simp only[sh];rfl
theorem E.eB:aI QH Tryz.f25=QB L.eB:=by kernel_rfl
theorem F.eB:Tryz.prog.funcs[N.eB]? = QB Tryz.f25:=Tryz.func25
abbrev N.b0:Nat:=26
def L.b0.l1:LC:=by apply(fun{b:LC}(_:b=q [k [16] [(16,j .lss (t 15) (t 14))],u 16 .skip (.exit 0),.block 1 (q [.reg QG (l [17,18] [(18,.un (.ax 2) (i 2 (t 13) (t 15)))] [] (.alloc 52) 0 8 (s [] [] (w [8,18]) (.store 52 (a 8) (a 18)) z)),.reg QG (l [19,20,21] [] [(20,g 1 (t 8)),(21,.un (.fn 45) (.snoc (.con (.tuple #[])) (t 5)))] (x 44 [20,21] [50,109]) 3 22 (.fin [9] [(9,t 22)] [])),.reg QF (l [23,24,25,26,27,28,29,30,31,32,33,34,35] [(23,t 6),(25,g 0 (t 8))] [(29,g 0 (.un .nilPtr (t 0))),(35,g 1 (i 2 (g 1 (t 8)) (t 9)))] (.lookup 75 (a 29) (a 35) QG) 21 36 (.loud [] [] (w [23,25,36]) QC [] QF (.mapUpdate 75 (a 23) (a 25) (a 36)) 0 QC QG z))]),k [37,15] [(15,o (t 15) (c 1))]])=>b);simp only[sh];rfl
def L.b0.l2:LC:=by apply(fun{b:LC}(_:b=q [.reg QG (p (w [39]) (.next (a 39) QG) 0 40 (.fin [41] [(41,.un (.ext 0) (t 40))] [])),u 41 .skip (.exit 2),.block 3 (q [.reg QG (p (w [39]) (.entry (a 39)) 0 42 (.fin [43,44,10,11] [(10,.un (.ext 0) (t 42)),(11,.un (.ext 1) (t 42))] [])),.reg QG (s [45,46,47,48,49,50] [] [(48,g 0 (.un .nilPtr (t 0))),(49,t 10),(50,t 11)] (.mapUpdate 75 (a 48) (a 49) (a 50)) z)])])=>b);simp only[sh];rfl
def L.b0:LFn:=by apply(fun{b:LFn}(_:b=⟨[],q [.reg QG (p (w [2]) (.box 3 (a 2)) 0 5 z),.reg QG (p [] (.makeMap 75 QC) 75 12 (.fin [6] [(6,t 12)] [])),q [k [13,14,15] [(13,t 1),(14,h (t 1)),(15,c 0)],v 0 L.b0.l1],.reg QG (l [38] [] [(38,t 6)] (.range 75 (a 38)) 0 39 z),v 2 L.b0.l2]⟩)=>b);simp only[sh];rfl
theorem E.b0:aI QH Tryz.f26=QB L.b0:=by kernel_rfl
theorem F.b0:Tryz.prog.funcs[N.b0]? = QB Tryz.f26:=Tryz.func26
abbrev N.dk:Nat:=27
def L.dk:LFn:=by apply(fun{b:LFn}(_:b=⟨[t 2],q [k [2] [(2,.con (.bool QG))],q [.reg QF (.fin [3,4,5,6,7,8,9,10,11,12,13,14,15,16,17,18,19,20] [(20,.ite (j .eql (g 0 (e 1 (.un .nilPtr (t 0)))) (c 0)) (j .geq (g 4 (e 1 (.un .nilPtr (t 0)))) (g 7 (.un .nilPtr (t 0)))) (.con (.bool QG)))] []),u 20 (.reg QG (.loud [21] [] [(21,t 0)] QC [] QG (.call ⟨.value (.func 46),#[a 21,.const (Qy Qz 3),.const (Qy QA 0)],#[74,3,21]⟩) 0 (QB 22) QG z)) .skip],q [k [23,24,25,26,27,28] [(28,j .neq (g 0 (e 1 (.un .nilPtr (t 0)))) (c 0))],u 28 (q [k [2] [(2,.con (.bool QG))],.ret]) .skip],.reg QG (s [29,30,31,32,33,34,35,36,37] [] [(37,e 4 (e 1 (.un .nilPtr (t 0)))),(34,o (g 4 (e 1 (.un .nilPtr (t 0)))) (c 1))] (.store 3 (a 37) (a 34)) z),k [2] [(2,.con (.bool QF))],.ret]⟩)=>b);simp only[sh];rfl
theorem E.dk:aI QH Tryz.f27=QB L.dk:=by kernel_rfl
theorem F.dk:Tryz.prog.funcs[N.dk]? = QB Tryz.f27:=Tryz.func27
end
section
set_option maxRecDepth 100000
abbrev N.dV:Nat:=28
def L.dV:LFn:=by apply(fun{b:LFn}(_:b=⟨[],q [.reg QG (p (w [0]) (.box 74 (a 0)) 0 2 (p (w [1]) (.box 68 (a 1)) 0 3 z)),.reg QG (l [8,9,10] [] [(8,d (t 2)),(10,g 3 (t 3))] (x 47 [8,10] [74,22]) 29 11 (.fin [4] [(4,t 11)] [])),k [12,5] [(5,.un (.fn 48) (.snoc (.con (.tuple #[])) (t 2)))],k [13,14] [(14,g 0 (t 3))],.block 0 (q [k [39,38] [(38,j .eql (t 14) (c 1))],u 38 (.reg QF (.loud [40,41,42,43,44,45,46,47] [] [(43,g 0 (.un .nilPtr (d (t 2)))),(45,g 1 (t 3)),(47,g 4 (t 3))] QC [] QF (.mapUpdate 75 (a 43) (a 45) (a 47)) 0 QC QG z)) (q [k [49,48] [(48,j .eql (t 14) (c 15))],u 48 (q [k [57,58,59,60,61,62,63,64,65,66,67] [(61,g 2 (e 1 (.un .nilPtr (d (t 2))))),(67,o (d (i 1 (t 4) (c 0))) (g 4 (t 3)))],.reg QF (l [50,51,52,53,54,55,56] [(53,g 0 (.un .nilPtr (d (t 2)))),(55,g 1 (t 3)),(56,t 5)] (w [61,67]) (x 49 [61,67] [29,21]) 113 68 (l [69,70] [] [(56,t 56),(69,.un (.ext 0) (t 68)),(70,.un (.ext 1) (t 68))] (.call ⟨.value (a 56),#[a 69,a 70],#[21,4]⟩) 21 71 (.loud [] [] (w [53,55,71]) QC [] QF (.mapUpdate 75 (a 53) (a 55) (a 71)) 0 QC QG z)))]) (q [k [73,72] [(72,j .eql (t 14) (c 16))],u 72 (.reg QF (.loud [74,75,76,77,78,79,80,81,82,83,84,85,86,87,88] [(74,t 5)] [(79,g 2 (e 1 (.un .nilPtr (d (t 2))))),(85,o (d (i 1 (t 4) (c 0))) (g 4 (t 3))),(88,d (i 1 (t 4) (c 1)))] QC [] QF (x 50 [79,85,88] [29,21,21]) 4 (QB 89) QF (.loud [] [] (w [74,89]) QC [] QG (.call ⟨.value (a 74),#[.const (Qy QA 0),a 89],#[21,4]⟩) 21 (QB 90) QG z))) (q [k [92,91] [(91,j .eql (t 14) (c 17))],u 91 (q [.reg QF (l [93,94,95,96,97,98,99,100,101] [(93,d (t 2)),(98,g 3 (e 1 (.un .nilPtr (d (t 2)))))] [(100,g 4 (t 3)),(101,t 4)] (.build 97 #[(0,a 100),(1,a 101)]) 97 102 (p (w [102]) (.buildSlice 34 1 #[(0,a 102)]) 34 103 (p (w [98,103]) (.call ⟨.builtin .append,#[a 98,a 103],#[34,34]⟩) 34 104 (.loud [105,106,107] [] [(107,e 3 (e 1 (.un .nilPtr (t 93)))),(104,t 104)] QC [] QF (.store 34 (a 107) (a 104)) 0 QC QG z)))),.reg QF (.loud [108,109,110,111,112,113] [] [(111,g 0 (.un .nilPtr (d (t 2)))),(113,g 1 (t 3))] QC [] QF (.mapUpdate 75 (a 111) (a 113) (.const (Qy QA 0))) 0 QC QG z),k [114,115,116,117,118,119] [(119,j .gtr (h (g 6 (.un .nilPtr (d (t 2))))) (c 0))],u 119 (.reg QF (l [120,121,122,123,124,125,126,127,128,129,130,131,132,133,134,135,136,137] [(123,g 0 (.un .nilPtr (d (t 2)))),(126,d (t 2)),(132,d (i 1 (g 6 (.un .nilPtr (d (t 2)))) (c 0))),(137,.bin (.lo 1) (g 6 (.un .nilPtr (d (t 2)))) (c 1))] [(123,g 0 (.un .nilPtr (d (t 2)))),(125,g 1 (t 3))] (.mapEntry 75 (a 123) (a 125)) 0 138 (s [139] [] [(123,t 123),(139,.un (.ext 1) (t 138)),(132,t 132)] (.entryStore 75 (a 123) (a 139) (a 132)) (.loud [140,141] [] [(141,e 6 (.un .nilPtr (t 126))),(137,t 137)] QC [] QF (.store 29 (a 141) (a 137)) 0 QC QG z)))) .skip]) (q [k [143,142] [(142,j .eql (t 14) (c 18))],u 142 (.reg QF (l [145,146,147,148,149,150,151,152,153,154,155,156,157,158,159,160,161,162] [(148,g 0 (.un .nilPtr (d (t 2)))),(150,g 1 (t 3)),(154,g 0 (.un .nilPtr (d (t 2)))),(156,g 2 (t 3))] [(159,d (i 1 (t 4) (c 0))),(162,d (i 1 (t 4) (c 1)))] (x 51 [159,162] [21,21]) 116 163 (s [144,164,165] [(165,.un (.ext 1) (t 163))] [(148,t 148),(150,t 150),(164,.un (.ext 0) (t 163))] (.mapUpdate 75 (a 148) (a 150) (a 164)) (.loud [] [] (w [154,156,165]) QC [] QF (.mapUpdate 75 (a 154) (a 156) (a 165)) 0 QC QG z)))) (q [.reg QF (.loud [16,17,18,19,20,21,22,23] [] [(17,g 0 (t 3)),(20,d (i 1 (t 4) (c 0))),(23,d (i 1 (t 4) (c 1)))] QC [] QF (x 52 [17,20,23] [3,21,21]) 113 (QB 24) QF (.fin [15,25,26,6,7] [(6,.un (.ext 0) (t 24)),(7,.un (.ext 1) (t 24))] [])),.reg QF (.loud [27,28,29,30,31,32,33] [] [(30,g 0 (.un .nilPtr (d (t 2)))),(32,g 1 (t 3)),(33,t 6)] QC [] QF (.mapUpdate 75 (a 30) (a 32) (a 33)) 0 QC QG z),k [34,35] [(35,.un .not (t 7))],u 35 (.reg QG (.loud [36] [] [(36,d (t 2))] QC [] QG (.call ⟨.value (.func 46),#[a 36,.const (Qy Qz 2),.const (Qy QA (-1))],#[74,3,21]⟩) 0 (QB 37) QG z)) .skip])])])])])])]⟩)=>b);simp only[sh];rfl
theorem E.dV:aI QH Tryz.f28=QB L.dV:=by kernel_rfl
theorem F.dV:Tryz.prog.funcs[N.dV]? = QB Tryz.f28:=Tryz.func28
abbrev N.dG:Nat:=29
def L.dG:LFn:=by apply(fun{b:LFn}(_:b=⟨[t 4],q [.reg QG (p (w [1]) (.box 45 (a 1)) 0 3 (.fin [4] [(4,c 0)] [])),.reg QG (l [7,8,9] [] [(7,t 0),(9,g 1 (t 3))] (x 47 [7,9] [74,22]) 29 10 (p [] (.buildSlice 29 1 #[(0,.const (Qy QA 0))]) 29 11 (p (w [10,11]) (.call ⟨.builtin .append,#[a 10,a 11],#[29,29]⟩) 29 12 (.fin [5] [(5,t 12)] [])))),q [k [13,14] [(14,g 0 (t 3))],.block 0 (q [k [20,19] [(19,j .eql (t 14) (c 1))],u 19 (q [k [21,22,23,24,4] [(4,d (i 1 (g 2 (t 3)) (c 0)))],.ret]) (q [k [26,25] [(25,j .eql (t 14) (c 2))],u 25 (q [q [k [27,28,29,30] [(30,j .neq (d (i 1 (t 5) (c 0))) (.con (Qy QA 0)))],u 30 (q [k [31,32,33,34,4] [(4,d (i 1 (g 2 (t 3)) (c 0)))],.ret]) .skip],k [35,36,37,38,4] [(4,d (i 1 (g 2 (t 3)) (c 1)))],.ret]) (q [k [40,39] [(39,j .eql (t 14) (c 3))],u 39 (q [k [41,42,43,44,6] [(6,.bin (.arith .sub) (h (g 2 (t 3))) (c 1))],.reg QF (.fin [45,46,47,48,49,50,51,52,53,54,55,4] [(4,d (i 1 (g 2 (t 3)) (.bin .min (.un (.conv .u32) (d (i 1 (t 5) (c 0)))) (.un (.conv .u32) (t 6)))))] []),.ret]) (q [k [57,56] [(56,j .eql (t 14) (c 4))],u 56 (.reg QG (.loud [58,59,60,61] [] [(58,t 0),(61,d (i 1 (t 5) (c 0)))] QC [] QG (.call ⟨.value (.func 46),#[a 58,.const (Qy Qz 1),a 61],#[74,3,21]⟩) 0 (QB 62) QG z)) (.reg QG (.loud [15,16,17] [] [(15,t 0),(17,g 3 (t 3))] QC [] QG (.call ⟨.value (.func 46),#[a 15,.const (Qy Qz 2),a 17],#[74,3,21]⟩) 0 (QB 18) QG z))])])])])],k [4] [(4,c 0)],.ret]⟩)=>b);simp only[sh];rfl
theorem E.dG:aI QH Tryz.f29=QB L.dG:=by kernel_rfl
theorem F.dG:Tryz.prog.funcs[N.dG]? = QB Tryz.f29:=Tryz.func29
abbrev N.gj:Nat:=30
def R.gj:List E:=[.un .load (.tmp 2),.un .load (.tmp 3),.un .load (.tmp 4)]

def L.lf:LC:=by apply(fun{b:LC}(_:b=.reg QG (p (w [0]) (.box 26 (a 0)) 0 1 (p [] (.alloc 38) 0 2 (p [] (.alloc 3) 0 3 (p [] (.alloc 3) 0 4 z)))))=>b);simp only[sh];rfl
theorem E.lf:fy QH Tryz.f30.ntmps (iu Tryz.f30) (Ha Tryz.f30) QG (yN Tryz.f30)=QB L.lf:=by kernel_rfl
def L.iD.l1:LC:=by apply(fun{b:LC}(_:b=q [k [26] [(26,j .lss (t 25) (t 24))],u 26 .skip (.exit 0),.block 1 (q [.reg QG (l [27,28] [(28,.un (.ax 6) (i 6 (t 23) (t 25)))] [] (.alloc 49) 0 7 (s [] [] (w [7,28]) (.store 49 (a 7) (a 28)) z)),k [29,30,31,32,33,34,35,36,37,5] [(5,o (t 5) (o (h (g 0 (t 7))) (h (g 1 (t 7)))))]]),k [38,25] [(25,o (t 25) (c 1))]])=>b);simp only[sh];rfl
def L.iD:LC:=by apply(fun{b:LC}(_:b=q [.reg QG (l [10,11] [] [(11,g 0 (t 1))] (.call ⟨.value (.func 55),#[a 11,.const (Qy Qz 0),.const (Qy Qz 4)],#[3,3,3]⟩) 4 12 (.loud [] [] (w [12]) QC [] QG (.call ⟨.value (.func 54),#[a 12,.const (Qy Qz 1),.const (Qy Qz 0),.const (Qy Qz 0)],#[4,38,3,3]⟩) 0 (QB 13) QG z)),.reg QG (.loud [14,15,16,17] [] [(17,j .gtr (h (g 1 (t 1))) (c 0))] QC [] QG (.call ⟨.value (.func 54),#[a 17,.const (Qy Qz 14),.const (Qy Qz 0),.const (Qy Qz 0)],#[4,38,3,3]⟩) 0 (QB 18) QG z),k [19,20,21,5] [(5,h (g 1 (t 1)))],q [k [22,23,24,25] [(23,g 1 (t 1)),(24,h (g 1 (t 1))),(25,c 0)],v 0 L.iD.l1],.reg QG (.loud [39,40,41,42,43,44,45,46] [] [(46,.ite (j .leq (h (g 1 (t 1))) (c 512)) (j .leq (t 5) (c 4096)) (.con (.bool QG)))] QC [] QG (.call ⟨.value (.func 54),#[a 46,.const (Qy Qz 2),.const (Qy Qz 0),.const (Qy Qz 0)],#[4,38,3,3]⟩) 0 (QB 47) QG z),.reg QG (l [48] [(48,.un (.ax 2) (t 1))] [] (.makeMap 125 QC) 125 49 (p (w [48,49]) (.build 127 #[(0,a 48),(1,a 49)]) 127 50 (p (w [50]) (.box 127 (a 50)) 124 51 (.fin [8] [(8,t 51)] [])))),.reg QG (.loud [52] [] [(52,t 8)] QC [] QG (x 56 [52] [124]) 0 (QB 53) QG z),.reg QG (.loud [54] [] [(54,t 8)] QC [] QG (x 57 [54] [124]) 0 (QB 55) QG z),.reg QG (s [] [] (w [2]) (.store 38 (a 2) (.const (Qy Qz 0))) (s [] [] (w [3]) (.store 3 (a 3) (.const (Qy Qz 0))) (s [] [] (w [4]) (.store 3 (a 4) (.const (Qy Qz 0))) z))),.ret])=>b);simp only[sh];rfl
theorem E.iD:fy QH Tryz.f30.ntmps (iu Tryz.f30) (Ha Tryz.f30) QG (Hy Tryz.f30)=QB L.iD:=by kernel_rfl
theorem R.xA:Tryz.f30.results.toList.mapM (resE QH)=QB R.gj:=by kernel_rfl
theorem F.gj:Tryz.prog.funcs[N.gj]? = QB Tryz.f30:=Tryz.func30
theorem B.gj:Tryz.f30.body=QB (.seq (yN Tryz.f30) (.seq (.region (Jz (JI Tryz.f30)) #[JQ Tryz.f30 0,JQ Tryz.f30 1] QG) (Hy Tryz.f30))):=by kernel_rfl
abbrev N.dX:Nat:=31
def L.dX:LFn:=by apply(fun{b:LFn}(_:b=⟨[t 2],q [k [2] [(2,.con (QD QC 0 0))],.reg QG (l [8] [] [(8,t 0)] (x 58 [8] [59]) 59 9 (l [10] [] [(10,t 0)] (x 59 [10] [59]) 59 11 (p [] (.alloc 59) 0 3 (p [] (.alloc 59) 0 4 (s [] [] (w [3,9]) (.store 59 (a 3) (a 9)) (s [] [] (w [4,11]) (.store 59 (a 4) (a 11)) z)))))),.reg QG (p [] (.alloc 84) 0 5 z),q [.reg QG (l [12] [] [(12,t 0)] (x 60 [12] [59]) 130 13 z),.block 0 (.rangef (t 13) [14,15] (q [k [6] [(6,t 14)],k [7] [(7,t 15)]]) (.block 1 (q [k [16,17,18,19,20,21,22,23,24,25,26,27,28,29] [(29,.ite (j .gtr (h (d (i 1 (d (t 3)) (t 6)))) (c 1)) (j .gtr (h (d (i 1 (d (t 4)) (t 7)))) (c 1)) (.con (.bool QG)))],u 29 (.reg QG (l [30,31,32] [(30,d (t 5))] [(31,t 6),(32,t 7)] (.build 89 #[(0,a 31),(1,a 32)]) 89 33 (p (w [33]) (.buildSlice 84 1 #[(0,a 33)]) 84 34 (p (w [30,34]) (.call ⟨.builtin .append,#[a 30,a 34],#[84,84]⟩) 84 35 (s [] [] (w [5,35]) (.store 84 (a 5) (a 35)) z))))) .skip])))],k [36,2] [(2,d (t 5))],.ret]⟩)=>b);simp only[sh];rfl
theorem E.dX:aI QH Tryz.f31=QB L.dX:=by kernel_rfl
theorem F.dX:Tryz.prog.funcs[N.dX]? = QB Tryz.f31:=Tryz.func31
abbrev N.je:Nat:=32
def L.je.l1:LC:=by apply(fun{b:LC}(_:b=q [k [14] [(14,j .lss (t 13) (t 12))],u 14 .skip (.exit 0),.block 1 (q [.reg QG (l [15,16,17] [(15,t 13),(17,.un (.ax 6) (i 6 (t 11) (t 13)))] [] (.alloc 49) 0 5 (s [4] [(4,t 15)] (w [5,17]) (.store 49 (a 5) (a 17)) z)),.reg QG (l [18,19,20,21,22,23,24,25] [(18,t 3),(19,t 4)] [(22,g 2 (e 2 (t 5))),(25,h (g 1 (t 1)))] (x 61 [22,25] [22,3]) 22 26 (s [27] [] [(27,i 1 (t 18) (t 19)),(26,t 26)] (.store 22 (a 27) (a 26)) z))]),k [28,13] [(13,o (t 13) (c 1))]])=>b);simp only[sh];rfl
def L.je:LFn:=by apply(fun{b:LFn}(_:b=⟨[t 2],q [.reg QG (p (w [0]) (.box 26 (a 0)) 0 1 (.fin [2] [(2,.con (QD QC 0 0))] [])),.reg QG (l [6,7,8] [] [(8,h (g 1 (t 1))),(8,h (g 1 (t 1)))] (.makeSlice 59 (a 8) (a 8)) 59 9 (.fin [3] [(3,t 9)] [])),q [k [10,11,12,13] [(11,g 1 (t 1)),(12,h (g 1 (t 1))),(13,c 0)],v 0 L.je.l1],k [29,2] [(2,t 3)],.ret]⟩)=>b);simp only[sh];rfl
theorem E.je:aI QH Tryz.f32=QB L.je:=by kernel_rfl
theorem F.je:Tryz.prog.funcs[N.je]? = QB Tryz.f32:=Tryz.func32
abbrev N.jg:Nat:=33
def L.jg:LFn:=by apply(fun{b:LFn}(_:b=⟨[.un (.ax 2) (t 2)],q [.reg QG (p (w [0]) (.box 26 (a 0)) 0 1 (p [] (.alloc 26) 0 2 z)),.reg QG (l [3,4] [] [(4,g 1 (t 1))] (.call ⟨.value (.func 62),#[a 4,.func 63],#[24,139]⟩) 24 5 (s [6] [] [(6,e 1 (t 1)),(5,t 5)] (.store 24 (a 6) (a 5)) z)),.reg QG (s [7] [] [(2,t 2),(7,.un (.ax 2) (t 1))] (.store 26 (a 2) (a 7)) z),.ret]⟩)=>b);simp only[sh];rfl
theorem E.jg:aI QH Tryz.f33=QB L.jg:=by kernel_rfl
theorem F.jg:Tryz.prog.funcs[N.jg]? = QB Tryz.f33:=Tryz.func33
abbrev N.cL:Nat:=34
def L.cL:LFn:=by apply(fun{b:LFn}(_:b=⟨[],q [k [5,6,4] [(4,h (t 0))],.reg QG (l [7,8,9,10] [(7,t 0),(8,t 4)] [(10,.un (.conv .u64) (t 4))] (x 71 [10] [142]) 3 11 (.loud [12] [] [(7,t 7),(8,t 8),(11,t 11),(12,t 1)] QC [] QG (.call ⟨.value (.func 70),#[a 7,.const (Qy Qz 0),a 8,a 11,a 12],#[50,3,3,3,93]⟩) 0 (QB 13) QG z))]⟩)=>b);simp only[sh];rfl
theorem E.cL:aI QH Tryz.f34=QB L.cL:=by kernel_rfl
theorem F.cL:Tryz.prog.funcs[N.cL]? = QB Tryz.f34:=Tryz.func34
abbrev N.bU:Nat:=35
def L.bU:LFn:=by apply(fun{b:LFn}(_:b=⟨[t 4],q [.reg QG (p (w [0]) (.box 54 (a 0)) 0 2 (p (w [1]) (.box 54 (a 1)) 0 3 (.fin [4] [(4,c 0)] []))),k [5,6,7,8,9,4] [(4,.bin (.arith .sub) (g 0 (t 2)) (g 0 (t 3)))],.ret]⟩)=>b);simp only[sh];rfl
theorem E.bU:aI QH Tryz.f35=QB L.bU:=by kernel_rfl
theorem F.bU:Tryz.prog.funcs[N.bU]? = QB Tryz.f35:=Tryz.func35
abbrev N.bP:Nat:=36
def L.bP.l1:LC:=by apply(fun{b:LC}(_:b=q [k [14] [(14,j .lss (t 13) (t 12))],u 14 .skip (.exit 0),.block 1 (q [k [15,5] [(5,t 13)],.reg QF (.fin [16,17,18,19,20,21,22,23,24] [(24,j .neq (d (i 1 (t 0) (t 5))) (d (i 1 (t 1) (t 5))))] []),u 24 (q [k [4] [(4,.con (.bool QG))],.ret]) .skip]),k [25,13] [(13,o (t 13) (c 1))]])=>b);simp only[sh];rfl
def L.bP:LFn:=by apply(fun{b:LFn}(_:b=⟨[t 4],q [k [4] [(4,.con (.bool QG))],q [k [6,7,8,9,10] [(10,j .neq (h (t 0)) (h (t 1)))],u 10 (q [k [4] [(4,.con (.bool QG))],.ret]) .skip],q [k [11,12,13] [(12,h (t 0)),(13,c 0)],v 0 L.bP.l1],k [4] [(4,.con (.bool QF))],.ret]⟩)=>b);simp only[sh];rfl
theorem E.bP:aI QH Tryz.f36=QB L.bP:=by kernel_rfl
theorem F.bP:Tryz.prog.funcs[N.bP]? = QB Tryz.f36:=Tryz.func36
abbrev N.al:Nat:=37
def L.al.l1:LC:=by apply(fun{b:LC}(_:b=q [k [18] [(18,j .lss (t 17) (t 16))],u 18 .skip (.exit 0),.block 1 (q [.reg QG (l [19,20,21] [(19,t 17),(21,.un (.ax 2) (i 2 (t 15) (t 17)))] [] (.alloc 97) 0 8 (s [7] [(7,t 19)] (w [8,21]) (.store 97 (a 8) (a 21)) z)),.reg QG (l [22,23,24,25] [(25,.un (.ax 2) (i 2 (t 1) (t 7)))] [] (.alloc 97) 0 9 (s [] [] (w [9,25]) (.store 97 (a 9) (a 25)) z)),.reg QG (l [26,27,28] [] [(26,t 2),(27,.un (.ax 2) (t 8)),(28,.un (.ax 2) (t 9))] (.call ⟨.value (a 26),#[a 27,a 28],#[97,97]⟩) 4 29 (.fin [30] [(30,.un .not (t 29))] [])),u 30 (q [k [6] [(6,.con (.bool QG))],.ret]) .skip]),k [31,17] [(17,o (t 17) (c 1))]])=>b);simp only[sh];rfl
def L.al:LFn:=by apply(fun{b:LFn}(_:b=⟨[t 6],q [k [6] [(6,.con (.bool QG))],q [k [10,11,12,13,14] [(14,j .neq (h (t 0)) (h (t 1)))],u 14 (q [k [6] [(6,.con (.bool QG))],.ret]) .skip],q [k [15,16,17] [(15,t 0),(16,h (t 0)),(17,c 0)],v 0 L.al.l1],k [6] [(6,.con (.bool QF))],.ret]⟩)=>b);simp only[sh];rfl
theorem E.al:aI QH Tryz.f37=QB L.al:=by kernel_rfl
theorem F.al:Tryz.prog.funcs[N.al]? = QB Tryz.f37:=Tryz.func37
abbrev N.dm:Nat:=38
def L.dm:LFn:=by apply(fun{b:LFn}(_:b=⟨[t 4],q [.reg QG (p (w [0]) (.box 97 (a 0)) 0 2 (p (w [1]) (.box 97 (a 1)) 0 3 (.fin [4] [(4,.con (.bool QG))] []))),.reg QG (.loud [5,6,7,8,9,10,11,12,13,14] [(10,j .eql (g 0 (t 2)) (g 0 (t 3)))] [(12,.gd (j .eql (g 0 (t 2)) (g 0 (t 3))) QF (g 1 (t 2))),(14,.gd (j .eql (g 0 (t 2)) (g 0 (t 3))) QF (g 1 (t 3)))] (QB (j .eql (g 0 (t 2)) (g 0 (t 3)),QF)) [] QG (x 36 [12,14] [29,29]) 4 (QB 15) QF (.fin [16,4] [(4,.ite (t 10) (t 15) (.con (.bool QG)))] [])),.ret]⟩)=>b);simp only[sh];rfl
theorem E.dm:aI QH Tryz.f38=QB L.dm:=by kernel_rfl
theorem F.dm:Tryz.prog.funcs[N.dm]? = QB Tryz.f38:=Tryz.func38
abbrev N.cQ:Nat:=39
def L.cQ:LFn:=by apply(fun{b:LFn}(_:b=⟨[t 4],q [k [4] [(4,c 0)],.reg QG (l [8] [] [(8,t 0)] (x 72 [8] [55]) 91 9 (.fin [7,10,11,5,6] [(5,.un (.ext 0) (t 9)),(6,.un (.ext 1) (t 9))] [])),q [.reg QG (.loud [12,13,14,15] [(14,.un .not (t 6))] [(15,.gd (.un .not (t 6)) QG (t 0))] (QB (.un .not (t 6),QG)) [] QG (.call ⟨.value (.func 13),#[a 15,.const (Qy Qz 9)],#[55,3]⟩) 3 (QB 16) QF (.fin [17,18] [(18,.ite (t 14) (.con (.bool QF)) (j .eql (t 16) (c 0)))] [])),u 18 (q [.reg QG (l [19,20,21] [(19,t 0),(20,t 1)] [(21,t 0)] (x 23 [21] [55]) 21 22 (p (w [19,20,22]) (x 22 [19,20,22] [55,3,21]) 3 23 (.fin [4] [(4,t 23)] []))),.ret]) .skip],k [24,4] [(4,t 5)],.ret]⟩)=>b);simp only[sh];rfl
theorem E.cQ:aI QH Tryz.f39=QB L.cQ:=by kernel_rfl
theorem F.cQ:Tryz.prog.funcs[N.cQ]? = QB Tryz.f39:=Tryz.func39
abbrev N.dh:Nat:=40
def L.dh:LFn:=by apply(fun{b:LFn}(_:b=⟨[],q [.reg QG (p (w [2]) (.box 68 (a 2)) 0 5 z),.reg QF (l [7,8,9,10,11,12,13,14,15,16,17,18,19,20,21,22] [(11,g 1 (e 2 (.un .nilPtr (t 0)))),(12,t 1),(21,g 1 (i 6 (g 1 (e 2 (.un .nilPtr (t 0)))) (t 1)))] [(22,.un (.ax 5) (t 5))] (.buildSlice 47 1 #[(0,a 22)]) 47 23 (p (w [21,23]) (.call ⟨.builtin .append,#[a 21,a 23],#[47,47]⟩) 47 24 (.loud [25,26] [] [(26,e 1 (i 6 (t 11) (t 12))),(24,t 24)] QC [] QF (.store 47 (a 26) (a 24)) 0 QC QG z))),.reg QG (l [27] [] [(27,.un (.ax 5) (t 5))] (x 18 [27] [68]) 22 28 (.fin [6] [(6,t 28)] [])),.reg QG (l [29,30,31,32,33,34] [(29,t 0)] [(33,g 5 (.un .nilPtr (t 0))),(34,t 6)] (.call ⟨.builtin .append,#[a 33,a 34],#[22,22]⟩) 22 35 (s [36,37] [] [(37,e 5 (.un .nilPtr (t 29))),(35,t 35)] (.store 22 (a 37) (a 35)) z))]⟩)=>b);simp only[sh];rfl
theorem E.dh:aI QH Tryz.f40=QB L.dh:=by kernel_rfl
theorem F.dh:Tryz.prog.funcs[N.dh]? = QB Tryz.f40:=Tryz.func40
abbrev N.cN:Nat:=41
def L.cN:LFn:=by apply(fun{b:LFn}(_:b=⟨[],q [.reg QG (l [12,13,14] [(12,t 0),(13,t 1)] [(14,t 0)] (.call ⟨.value (.func 13),#[a 14,.const (Qy Qz 9)],#[55,3]⟩) 3 15 (l [16] [] [(12,t 12),(13,t 13),(16,.un (.conv .i32) (t 15))] (x 22 [12,13,16] [55,3,21]) 3 17 (.fin [6] [(6,t 17)] []))),q [.reg QG (l [18] [] [(18,t 0)] (.call ⟨.value (.func 13),#[a 18,.const (Qy Qz 3)],#[55,3]⟩) 3 19 (.fin [20] [(20,j .eql (t 19) (c 0))] [])),u 20 (q [.reg QG (l [21,22] [] [(21,t 0),(22,t 1)] (x 39 [21,22] [55,3]) 3 23 (.fin [7] [(7,t 23)] [])),.reg QG (l [24,25] [] [(24,t 0),(25,t 1)] (.call ⟨.value (.func 22),#[a 24,a 25,.const (Qy QA 7)],#[55,3,21]⟩) 3 26 (.fin [8] [(8,t 26)] [])),.reg QG (l [27] [] [(27,t 0)] (x 16 [27] [55]) 3 28 (.fin [9] [(9,t 28)] [])),.reg QG (l [29,30,31,32,33] [(29,t 0),(30,t 1),(31,t 9)] [(32,t 7),(33,t 8)] (.buildSlice 22 2 #[(0,a 32),(1,a 33)]) 22 34 (p (w [31,34]) (.build 68 #[(0,.const (Qy Qz 5)),(1,a 31),(3,a 34)]) 68 35 (.loud [] [] (w [29,30,35]) QC [] QG (x 40 [29,30,35] [55,3,68]) 0 (QB 36) QG z))),.reg QG (l [37] [] [(37,t 0)] (x 16 [37] [55]) 3 38 (.fin [10] [(10,t 38)] [])),.reg QG (l [39,40,41,42,43] [(39,t 0),(40,t 1),(41,t 10)] [(42,t 6),(43,t 9)] (.buildSlice 22 2 #[(0,a 42),(1,a 43)]) 22 44 (p (w [41,44]) (.build 68 #[(0,.const (Qy Qz 2)),(1,a 41),(3,a 44)]) 68 45 (.loud [] [] (w [39,40,45]) QC [] QG (x 40 [39,40,45] [55,3,68]) 0 (QB 46) QG z))),k [47,6] [(6,t 10)]]) .skip],.reg QG (l [48] [] [(48,t 0)] (.call ⟨.value (.func 13),#[a 48,.const (Qy Qz 4)],#[55,3]⟩) 3 49 (.fin [50,11] [(11,.un (.conv .i32) (t 49))] [])),q [.reg QG (l [51] [] [(51,t 0)] (.call ⟨.value (.func 13),#[a 51,.const (Qy Qz 12)],#[55,3]⟩) 3 52 (.fin [53] [(53,j .eql (t 52) (c 0))] [])),u 53 (.reg QG (l [54] [] [(54,t 0)] (x 23 [54] [55]) 21 55 (.fin [11] [(11,t 55)] []))) .skip],k [56] [(56,t 2)],u 56 (.reg QG (l [57,58,59,60,61] [(57,t 0),(58,t 1),(59,t 6)] [(60,t 0),(61,t 1)] (x 39 [60,61] [55,3]) 3 62 (p (w [59,62]) (.buildSlice 22 2 #[(0,a 59),(1,a 62)]) 22 63 (l [64] [] [(63,t 63),(64,t 11)] (.build 68 #[(0,.const (Qy Qz 16)),(3,a 63),(4,a 64)]) 68 65 (.loud [] [] (w [57,58,65]) QC [] QG (x 40 [57,58,65] [55,3,68]) 0 (QB 66) QG z))))) (.reg QG (l [67,68,69] [(67,t 0),(68,t 1)] [(69,t 0)] (x 16 [69] [55]) 3 70 (l [71] [] [(71,t 6)] (.buildSlice 22 1 #[(0,a 71)]) 22 72 (l [73] [] [(70,t 70),(72,t 72),(73,t 11)] (.build 68 #[(0,.const (Qy Qz 15)),(1,a 70),(3,a 72),(4,a 73)]) 68 74 (.loud [] [] (w [67,68,74]) QC [] QG (x 40 [67,68,74] [55,3,68]) 0 (QB 75) QG z)))))]⟩)=>b);simp only[sh];rfl
theorem E.cN:aI QH Tryz.f41=QB L.cN:=by kernel_rfl
theorem F.cN:Tryz.prog.funcs[N.cN]? = QB Tryz.f41:=Tryz.func41
abbrev N.cd:Nat:=42
def L.cd.l3:LC:=by apply(fun{b:LC}(_:b=f 4 49 8 [41,42,43,44,45,46,47,48,49] [50,51,8] (j .lss (t 8) (h (g 1 (i 2 (g 0 (t 5)) (t 6))))) (.block 5 (.reg QF (l [52,53,54,55,56,57,58,59,60,61,62,63] [(53,g 3 (t 7))] [(63,g 1 (i 2 (g 1 (i 2 (g 0 (t 5)) (t 6))) (t 8)))] (.buildSlice 22 1 #[(0,a 63)]) 22 64 (.loud [] [] (w [53,64]) QC [] QF (.call ⟨.builtin .append,#[a 53,a 64],#[22,22]⟩) 22 (QB 65) QF (s [66] [] [(66,e 3 (t 7)),(65,t 65)] (.store 22 (a 66) (a 65)) z))))))=>b);simp only[sh];rfl
def L.cd.l2:LC:=by apply(fun{b:LC}(_:b=f 2 27 6 [23,24,25,26,27] [28,29,6] (j .lss (t 6) (h (g 0 (t 5)))) (.block 3 (q [.reg QG (l [30,31,32,33,34,35,36,37,38] [(30,t 4),(32,.bin (.arith .sub) (c (-1)) (t 6))] [(38,g 0 (i 2 (g 0 (t 5)) (t 6)))] (.buildSlice 22 1 #[(0,a 38)]) 22 39 (p (w [30,32,39]) (.build 106 #[(0,a 30),(1,a 32),(2,a 39)]) 106 40 (p [] (.alloc 106) 0 7 (s [] [] (w [7,40]) (.store 106 (a 7) (a 40)) z)))),q [k [8] [(8,c 0)],v 4 L.cd.l3],.reg QG (l [67,68] [(67,t 3)] [(68,.un (.ax 4) (t 7))] (.buildSlice 103 1 #[(0,a 68)]) 103 69 (p (w [67,69]) (.call ⟨.builtin .append,#[a 67,a 69],#[103,103]⟩) 103 70 (.fin [3] [(3,t 70)] [])))])))=>b);simp only[sh];rfl
def L.cd.l4:LC:=by apply(fun{b:LC}(_:b=f 6 75 9 [71,72,73,74,75] [76,77,9] (j .lss (t 9) (h (g 1 (t 5)))) (.block 7 (.reg QF (l [78,79,80,81,82,83,84,85,87,88,89,90,91,92] [(78,t 3),(79,t 4),(80,t 9),(92,g 3 (i 5 (g 1 (t 5)) (t 9)))] [(85,.un (.ax 5) (i 5 (g 1 (t 5)) (t 9)))] (x 18 [85] [68]) 22 86 (.loud [] [] (w [79,80,86,92]) QC [] QF (.build 106 #[(0,a 79),(1,a 80),(2,a 86),(3,a 92)]) 106 (QB 93) QF (p (w [93]) (.buildSlice 103 1 #[(0,a 93)]) 103 94 (p (w [78,94]) (.call ⟨.builtin .append,#[a 78,a 94],#[103,103]⟩) 103 95 (.fin [3] [(3,t 95)] []))))))))=>b);simp only[sh];rfl
def L.cd.l1:LC:=by apply(fun{b:LC}(_:b=f 0 15 4 [11,12,13,14,15] [16,17,4] (j .lss (t 4) (h (g 1 (t 1)))) (.block 1 (q [.reg QG (l [18,19,20,21,22] [(22,.un (.ax 6) (i 6 (g 1 (t 1)) (t 4)))] [] (.alloc 49) 0 5 (s [] [] (w [5,22]) (.store 49 (a 5) (a 22)) z)),q [k [6] [(6,c 0)],v 2 L.cd.l2],q [k [9] [(9,c 0)],v 6 L.cd.l4],.reg QG (l [96,97,98,99,100,101,102,103] [(96,t 3)] [(97,t 4),(100,h (g 1 (t 5))),(103,g 1 (e 2 (t 5)))] (.build 106 #[(0,a 97),(1,a 100),(3,a 103)]) 106 104 (p (w [104]) (.buildSlice 103 1 #[(0,a 104)]) 103 105 (p (w [96,105]) (.call ⟨.builtin .append,#[a 96,a 105],#[103,103]⟩) 103 106 (.fin [3] [(3,t 106)] []))))])))=>b);simp only[sh];rfl
def L.cd:LFn:=by apply(fun{b:LFn}(_:b=⟨[t 2],q [.reg QG (p (w [0]) (.box 26 (a 0)) 0 1 (.fin [2] [(2,.con (QD QC 0 0))] [])),.reg QG (p [] (.buildSlice 103 0 #[]) 103 10 (.fin [3] [(3,t 10)] [])),q [k [4] [(4,c 0)],v 0 L.cd.l1],k [107,2] [(2,t 3)],.ret]⟩)=>b);simp only[sh];rfl
theorem E.cd:aI QH Tryz.f42=QB L.cd:=by kernel_rfl
theorem F.cd:Tryz.prog.funcs[N.cd]? = QB Tryz.f42:=Tryz.func42
abbrev N.cM:Nat:=43
def L.cM:LFn:=by apply(fun{b:LFn}(_:b=⟨[t 2],q [k [2] [(2,.con (QD QC 0 0))],q [.reg QG (l [3] [] [(3,t 0)] (.binOp .eql 29 (a 3) (.const (QD QC 0 0)) 29) 4 4 z),u 4 (q [k [2] [(2,.con (QD QC 0 0))],.ret]) .skip],.reg QG (p [] (.buildSlice 29 0 #[]) 29 5 (l [6] [] [(5,t 5),(6,t 0)] (.call ⟨.builtin .append,#[a 5,a 6],#[29,29]⟩) 29 7 (.fin [2] [(2,t 7)] []))),.ret]⟩)=>b);simp only[sh];rfl
theorem E.cM:aI QH Tryz.f43=QB L.cM:=by kernel_rfl
theorem F.cM:Tryz.prog.funcs[N.cM]? = QB Tryz.f43:=Tryz.func43
abbrev N.bF:Nat:=44
def L.bF.l1:LC:=by apply(fun{b:LC}(_:b=q [k [9] [(9,j .lss (t 8) (t 7))],u 9 .skip (.exit 0),.block 1 (q [k [10,5] [(5,t 8)],.reg QG (l [11,12,13,14,15] [] [(11,t 1),(15,.un (.ax 2) (i 2 (t 0) (t 5)))] (.call ⟨.value (a 11),#[a 15],#[54]⟩) 4 16 z),u 16 (q [k [17,4] [(4,t 5)],.ret]) .skip]),k [18,8] [(8,o (t 8) (c 1))]])=>b);simp only[sh];rfl
def L.bF:LFn:=by apply(fun{b:LFn}(_:b=⟨[t 4],q [k [4] [(4,c 0)],q [k [6,7,8] [(7,h (t 0)),(8,c 0)],v 0 L.bF.l1],k [4] [(4,c (-1))],.ret]⟩)=>b);simp only[sh];rfl
theorem E.bF:aI QH Tryz.f44=QB L.bF:=by kernel_rfl
theorem F.bF:Tryz.prog.funcs[N.bF]? = QB Tryz.f44:=Tryz.func44
abbrev N.bK:Nat:=45
def L.bK:LFn:=by apply(fun{b:LFn}(_:b=⟨[t 3],q [.reg QG (p (w [0]) (.box 54 (a 0)) 0 2 (.fin [3] [(3,.con (.bool QG))] [])),k [4,5,6,7,3] [(3,j .eql (g 0 (t 2)) (d (t 1)))],.ret]⟩)=>b);simp only[sh];rfl
theorem E.bK:aI QH Tryz.f45=QB L.bK:=by kernel_rfl
theorem F.bK:Tryz.prog.funcs[N.bK]? = QB Tryz.f45:=Tryz.func45
abbrev N.dW:Nat:=46
def L.dW:LFn:=by apply(fun{b:LFn}(_:b=⟨[],.reg QG (s [6,7,8,9,10,11,12] [(7,t 0),(9,t 2)] [(12,e 0 (e 1 (.un .nilPtr (t 0)))),(8,t 1)] (.store 3 (a 12) (a 8)) (s [13,14,15] [] [(15,e 1 (e 1 (.un .nilPtr (t 7)))),(9,t 9)] (.store 21 (a 15) (a 9)) z))⟩)=>b);simp only[sh];rfl
theorem E.dW:aI QH Tryz.f46=QB L.dW:=by kernel_rfl
theorem F.dW:Tryz.prog.funcs[N.dW]? = QB Tryz.f46:=Tryz.func46
abbrev N.cu:Nat:=47
def L.cu.l1:LC:=by apply(fun{b:LC}(_:b=q [k [10] [(10,j .lss (t 9) (t 8))],u 10 .skip (.exit 0),.block 1 (q [k [11,12,6] [(6,d (i 1 (t 7) (t 9)))],.reg QG (l [13,14,15,16,17,18] [(13,t 4)] [(17,g 0 (.un .nilPtr (t 0))),(18,t 6)] (.lookup 75 (a 17) (a 18) QG) 21 19 (p (w [19]) (.buildSlice 29 1 #[(0,a 19)]) 29 20 (p (w [13,20]) (.call ⟨.builtin .append,#[a 13,a 20],#[29,29]⟩) 29 21 (.fin [4] [(4,t 21)] []))))]),k [22,9] [(9,o (t 9) (c 1))]])=>b);simp only[sh];rfl
def L.cu:LFn:=by apply(fun{b:LFn}(_:b=⟨[t 4],q [k [4] [(4,.con (QD QC 0 0))],q [k [7,8,9] [(7,t 1),(8,h (t 1)),(9,c 0)],v 0 L.cu.l1],k [23,4] (w [4]),.ret]⟩)=>b);simp only[sh];rfl
theorem E.cu:aI QH Tryz.f47=QB L.cu:=by kernel_rfl
theorem F.cu:Tryz.prog.funcs[N.cu]? = QB Tryz.f47:=Tryz.func47
abbrev N.dv:Nat:=48
def L.dv:LFn:=by apply(fun{b:LFn}(_:b=⟨[t 5],q [k [5] [(5,.con (Qy QA 0))],q [k [6,7] [(7,.un .not (t 1))],u 7 (.reg QG (.loud [8] [] [(8,d (t 2))] QC [] QG (.call ⟨.value (.func 46),#[a 8,.const (Qy Qz 2),.const (Qy QA (-2))],#[74,3,21]⟩) 0 (QB 9) QG z)) .skip],k [10,5] [(5,t 0)],.ret]⟩)=>b);simp only[sh];rfl
theorem E.dv:aI QH Tryz.f48=QB L.dv:=by kernel_rfl
theorem F.dv:Tryz.prog.funcs[N.dv]? = QB Tryz.f48:=Tryz.func48
abbrev N.fM:Nat:=49
def L.fM:LFn:=by apply(fun{b:LFn}(_:b=⟨[t 4,t 5],q [k [4,5] [(4,.con (Qy QA 0)),(5,.con (.bool QG))],q [k [6,7,8,9,10,11,12,13,14] [(14,.ite (j .lss (t 1) (.con (Qy QA 0))) (.con (.bool QF)) (j .geq (.un (.conv .i64) (t 1)) (h (t 0))))],u 14 (q [k [4,5] [(4,.con (Qy QA 0)),(5,.con (.bool QG))],.ret]) .skip],k [15,16,17,18,4,5] [(4,d (i 1 (t 0) (t 1))),(5,.con (.bool QF))],.ret]⟩)=>b);simp only[sh];rfl
theorem E.fM:aI QH Tryz.f49=QB L.fM:=by kernel_rfl
theorem F.fM:Tryz.prog.funcs[N.fM]? = QB Tryz.f49:=Tryz.func49
abbrev N.eY:Nat:=50
def L.eY:LFn:=by apply(fun{b:LFn}(_:b=⟨[t 6],q [k [6] [(6,.con (.bool QG))],.reg QG (l [10,11] [] [(10,t 0),(11,t 1)] (x 49 [10,11] [29,21]) 113 12 (.fin [9,13,14,7,8] [(8,.un (.ext 1) (t 12))] [.un (.ext 0) (t 12)])),q [k [15] [(15,t 8)],u 15 (.reg QG (s [16,17,18,19] [] [(19,i 1 (t 0) (t 1)),(18,t 2)] (.store 21 (a 19) (a 18)) z)) .skip],k [20,6] [(6,t 8)],.ret]⟩)=>b);simp only[sh];rfl
theorem E.eY:aI QH Tryz.f50=QB L.eY:=by kernel_rfl
theorem F.eY:Tryz.prog.funcs[N.eY]? = QB Tryz.f50:=Tryz.func50
abbrev N.ji:Nat:=51
def L.ji:LFn:=by apply(fun{b:LFn}(_:b=⟨[t 4,t 5],q [k [4,5] [(4,.con (Qy QA 0)),(5,.con (Qy QA 0))],k [7,8,9,10,11,6] [(6,.bin (.arith .mul) (.un (.conv .i64) (t 0)) (.un (.conv .i64) (t 1)))],.reg QG (l [12,13,14] [(13,.un (.conv .i32) (t 6))] [(14,t 6)] (.binOp .shr 2 (a 14) (.const (.int .u64 32)) 142) 2 15 (.fin [16,4,5] [(4,t 13),(5,.un (.conv .i32) (t 15))] [])),.ret]⟩)=>b);simp only[sh];rfl
theorem E.ji:aI QH Tryz.f51=QB L.ji:=by kernel_rfl
theorem F.ji:Tryz.prog.funcs[N.ji]? = QB Tryz.f51:=Tryz.func51
abbrev N.lN:Nat:=52
def L.lN:LFn:=by apply(fun{b:LFn}(_:b=⟨[t 6,t 7],q [.reg QG (p (w [1]) (.box 21 (a 1)) 0 4 (p (w [2]) (.box 21 (a 2)) 0 5 (.fin [6,7] [(6,.con (Qy QA 0)),(7,.con (.bool QG))] []))),.reg QG (l [10,11,12] [(12,.bin (.div .rem) (.un (.conv .u32) (d (t 5))) (.con (.int .u32 32)))] [] (.alloc 119) 0 8 (s [] [] (w [8,12]) (.store 119 (a 8) (a 12)) z)),.reg QG (p [] (.makeMap 145 QC) 145 13 (s [14] [] [(13,t 13),(14,.un (.fn 73) (.snoc (.snoc (.con (.tuple #[])) (t 4)) (t 5)))] (.insert 145 (a 13) (.const (Qy Qz 2)) (a 14)) (s [15] [] [(13,t 13),(15,.un (.fn 74) (.snoc (.snoc (.con (.tuple #[])) (t 4)) (t 5)))] (.insert 145 (a 13) (.const (Qy Qz 3)) (a 15)) (s [16] [] [(13,t 13),(16,.un (.fn 75) (.snoc (.snoc (.con (.tuple #[])) (t 4)) (t 5)))] (.insert 145 (a 13) (.const (Qy Qz 4)) (a 16)) (s [17] [] [(13,t 13),(17,.un (.fn 76) (.snoc (.snoc (.con (.tuple #[])) (t 4)) (t 5)))] (.insert 145 (a 13) (.const (Qy Qz 5)) (a 17)) (s [18] [] [(13,t 13),(18,.un (.fn 77) (.snoc (.snoc (.con (.tuple #[])) (t 4)) (t 5)))] (.insert 145 (a 13) (.const (Qy Qz 6)) (a 18)) (s [19] [] [(13,t 13),(19,.un (.fn 78) (.snoc (.snoc (.con (.tuple #[])) (t 4)) (t 5)))] (.insert 145 (a 13) (.const (Qy Qz 7)) (a 19)) (s [20] [] [(13,t 13),(20,.un (.fn 79) (.snoc (.snoc (.con (.tuple #[])) (t 4)) (t 8)))] (.insert 145 (a 13) (.const (Qy Qz 8)) (a 20)) (s [21] [] [(13,t 13),(21,.un (.fn 80) (.snoc (.snoc (.con (.tuple #[])) (t 4)) (t 8)))] (.insert 145 (a 13) (.const (Qy Qz 9)) (a 21)) (s [22] [] [(13,t 13),(22,.un (.fn 81) (.snoc (.snoc (.con (.tuple #[])) (t 4)) (t 8)))] (.insert 145 (a 13) (.const (Qy Qz 10)) (a 22)) (s [23] [] [(13,t 13),(23,.un (.fn 82) (.snoc (.snoc (.con (.tuple #[])) (t 4)) (t 5)))] (.insert 145 (a 13) (.const (Qy Qz 11)) (a 23)) (s [24] [] [(13,t 13),(24,.un (.fn 84) (.snoc (.snoc (.con (.tuple #[])) (t 4)) (t 5)))] (.insert 145 (a 13) (.const (Qy Qz 12)) (a 24)) (s [25] [] [(13,t 13),(25,.un (.fn 85) (.snoc (.snoc (.con (.tuple #[])) (t 4)) (t 5)))] (.insert 145 (a 13) (.const (Qy Qz 13)) (a 25)) (s [26] [] [(13,t 13),(26,.un (.fn 86) (.snoc (.snoc (.con (.tuple #[])) (t 4)) (t 5)))] (.insert 145 (a 13) (.const (Qy Qz 14)) (a 26)) (l [27,28] [] [(27,t 13),(28,t 0)] (.lookup 145 (a 27) (a 28) QG) 72 29 (.fin [9] [(9,t 29)] [])))))))))))))))),q [.reg QG (l [30] [] [(30,t 9)] (.binOp .eql 72 (a 30) (.const .nilFunc) 72) 4 31 (.fin [32,33,34,35,36,37,38,39] [(39,.ite (t 31) (.con (.bool QF)) (.ite (j .eql (t 0) (c 14)) (j .eql (d (t 5)) (.con (Qy QA 0))) (.con (.bool QG))))] [.gd (.gd (t 31) QG (j .eql (t 0) (c 14))) QF (j .eql (d (t 5)) (.con (Qy QA 0)))])),u 39 (q [k [6,7] [(6,.con (Qy QA 0)),(7,.con (.bool QG))],.ret]) .skip],.reg QG (l [40] [] [(40,t 9)] (.call ⟨.value (a 40),#[],#[]⟩) 21 41 (.fin [6,7] [(6,t 41),(7,.con (.bool QF))] [])),.ret]⟩)=>b);simp only[sh];rfl
theorem E.lN:aI QH Tryz.f52=QB L.lN:=by kernel_rfl
theorem F.lN:Tryz.prog.funcs[N.lN]? = QB Tryz.f52:=Tryz.func52
abbrev N.cn:Nat:=53
def L.cn:LFn:=by apply(fun{b:LFn}(_:b=⟨[],q [.reg QG (p [] (.call ⟨.builtin .recover,#[],#[]⟩) 20 6 z),.block 0 (q [.reg QG (p (w [6]) (.binOp .eql 20 (a 6) (.const .nilIface) 20) 4 8 z),u 8 (.reg QG (.fin [3] [] [t 6])) (q [.reg QG (p (w [6]) (.typeAssert (a 6) 20 121 QF) 0 9 (.fin [10,11] [(10,.un (.ext 1) (t 9)),(11,.un (.ext 0) (t 9))] [])),u 10 (q [.reg QG (p [] (.alloc 121) 0 4 (s [] [] (w [4,11]) (.store 121 (a 4) (a 11)) z)),.reg QF (s [12,13,14,15,16,17] [(15,g 1 (t 4)),(17,g 2 (t 4))] [(0,t 0),(13,g 0 (t 4))] (.store 38 (a 0) (a 13)) (s [] [] (w [1,15]) (.store 3 (a 1) (a 15)) (.loud [] [] (w [2,17]) QC [] QF (.store 3 (a 2) (a 17)) 0 QC QG z)))]) (q [k [5] [(5,t 6)],.reg QG (s [7] [] [(7,t 5)] (.panic (a 7)) z)])])])]⟩)=>b);simp only[sh];rfl
theorem F.cn:Tryz.prog.funcs[N.cn]? = QB Tryz.f53:=Tryz.func53
theorem Q.cn:Tryz.f53.body=QB (.seq (.region (Jz (yN Tryz.f53)) #[KX Tryz.f53 0] QG) (JL Tryz.f53)):=by kernel_rfl
theorem E.pq:fy QH Tryz.f53.ntmps (iu Tryz.f53) (Ha Tryz.f53) QG (JL Tryz.f53)=QB L.cn.body.tail:=by kernel_rfl
end
section
set_option maxRecDepth 100000
abbrev N.ft:Nat:=54
def L.ft:LFn:=by apply(fun{b:LFn}(_:b=⟨[],q [k [8,9] [(9,.un .not (t 0))],u 9 (.reg QG (l [10,11,12] [] [(10,t 1),(11,t 2),(12,t 3)] (.build 121 #[(0,a 10),(1,a 11),(2,a 12)]) 121 13 (p (w [13]) (.makeInterface 121 (a 13)) 20 14 (s [] [] (w [14]) (.panic (a 14)) z)))) .skip]⟩)=>b);simp only[sh];rfl
theorem E.ft:aI QH Tryz.f54=QB L.ft:=by kernel_rfl
theorem F.ft:Tryz.prog.funcs[N.ft]? = QB Tryz.f54:=Tryz.func54
abbrev N.fe:Nat:=55
def L.fe:LFn:=by apply(fun{b:LFn}(_:b=⟨[t 6],q [k [6] [(6,.con (.bool QG))],k [7,8,9,10,11,12,13,14,6] [(6,.ite (j .geq (t 0) (t 1)) (j .leq (t 0) (t 2)) (.con (.bool QG)))],.ret]⟩)=>b);simp only[sh];rfl
theorem E.fe:aI QH Tryz.f55=QB L.fe:=by kernel_rfl
theorem F.fe:Tryz.prog.funcs[N.fe]? = QB Tryz.f55:=Tryz.func55
abbrev N.aP:Nat:=56
def L.aP.l2:LC:=by apply(fun{b:LC}(_:b=q [k [29] [(29,j .lss (t 28) (t 27))],u 29 .skip (.exit 2),.block 3 (q [.reg QG (l [30,31,32] [(30,t 28),(32,.un (.ax 2) (i 2 (t 26) (t 28)))] [] (.alloc 52) 0 5 (s [4] [(4,t 30)] (w [5,32]) (.store 52 (a 5) (a 32)) z)),.reg QG (l [33,34,35] [(33,t 0)] [(35,g 0 (t 5))] (.buildSlice 22 1 #[(0,a 35)]) 22 36 (.loud [37,38,39] [] [(33,t 33),(36,t 36),(37,t 2),(39,.bin (.arith .sub) (c (-1)) (t 4))] QC [] QG (x 87 [33,36,37,39] [124,22,3,3]) 0 (QB 40) QG z))]),k [41,28] [(28,o (t 28) (c 1))]])=>b);simp only[sh];rfl
def L.aP.l3:LC:=by apply(fun{b:LC}(_:b=q [k [46] [(46,j .lss (t 45) (t 44))],u 46 .skip (.exit 4),.block 5 (q [.reg QG (l [47,48,49] [(47,t 45),(49,.un (.ax 5) (i 5 (t 43) (t 45)))] [] (.alloc 68) 0 7 (s [6] [(6,t 47)] (w [7,49]) (.store 68 (a 7) (a 49)) z)),.reg QG (l [50,51] [] [(51,g 0 (t 7))] (.call ⟨.value (.func 55),#[a 51,.const (Qy Qz 1),.const (Qy Qz 18)],#[3,3,3]⟩) 4 52 (.loud [53,54] [] [(52,t 52),(53,t 2),(54,t 6)] QC [] QG (.call ⟨.value (.func 54),#[a 52,.const (Qy Qz 10),a 53,a 54],#[4,38,3,3]⟩) 0 (QB 55) QG z)),.reg QG (l [57,58] [] [(58,g 0 (t 7))] (x 88 [58] [3]) 147 59 (.fin [56,60,61,8,9] [(8,.un (.ext 0) (t 59)),(9,.un (.ext 1) (t 59))] [])),.reg QG (l [62,63,64,65,66] [] [(64,h (g 3 (t 7))),(65,t 8),(66,t 9)] (x 55 [64,65,66] [3,3,3]) 4 67 (.loud [68,69] [] [(67,t 67),(68,t 2),(69,t 6)] QC [] QG (.call ⟨.value (.func 54),#[a 67,.const (Qy Qz 10),a 68,a 69],#[4,38,3,3]⟩) 0 (QB 70) QG z)),.reg QG (l [71,72] [(71,t 0)] [(72,.un (.ax 5) (t 7))] (x 89 [72] [68]) 22 73 (.loud [74,75] [] [(71,t 71),(73,t 73),(74,t 2),(75,t 6)] QC [] QG (x 87 [71,73,74,75] [124,22,3,3]) 0 (QB 76) QG z))]),k [77,45] [(45,o (t 45) (c 1))]])=>b);simp only[sh];rfl
def L.aP.l4:LC:=by apply(fun{b:LC}(_:b=q [k [119] [(119,j .lss (t 118) (t 117))],u 119 .skip (.exit 6),.block 7 (q [k [120,121,13] [(13,d (i 1 (t 116) (t 118)))],.reg QF (l [122,123,124,125,126,127,128,129,131,132,133,134] [(131,t 2),(134,h (g 1 (t 3)))] [(122,t 13),(129,.bin (.arith .sub) (h (g 1 (e 0 (.un .nilPtr (t 0))))) (c 1))] (.call ⟨.value (.func 55),#[a 122,.const (Qy Qz 1),a 129],#[3,3,3]⟩) 4 130 (.loud [] [] (w [130,131,134]) QC [] QF (.call ⟨.value (.func 54),#[a 130,.const (Qy Qz 14),a 131,a 134],#[4,38,3,3]⟩) 0 (QB 135) QG z))]),k [136,118] [(118,o (t 118) (c 1))]])=>b);simp only[sh];rfl
def L.aP.l1:LC:=by apply(fun{b:LC}(_:b=q [k [21] [(21,j .lss (t 20) (t 19))],u 21 .skip (.exit 0),.block 1 (q [.reg QG (l [22,23,24] [(22,t 20),(24,.un (.ax 6) (i 6 (t 18) (t 20)))] [] (.alloc 49) 0 3 (s [2] [(2,t 22)] (w [3,24]) (.store 49 (a 3) (a 24)) z)),q [k [25,26,27,28] [(26,g 0 (t 3)),(27,h (g 0 (t 3))),(28,c 0)],v 2 L.aP.l2],q [k [42,43,44,45] [(43,g 1 (t 3)),(44,h (g 1 (t 3))),(45,c 0)],v 4 L.aP.l3],.reg QF (.both (l [80,81,82] [(82,g 0 (e 2 (t 3)))] [] (x 90 [] []) 152 79 (.both (.loud [] [] (w [79,82]) QC [] QF (.lookup 152 (a 79) (a 82) QF) 151 (QB 83) QF (l [78,84,85] [(84,.un (.ext 0) (t 83)),(85,.un (.ext 1) (t 83))] [] (.alloc 150) 0 10 (s [] [] (w [10,84]) (.store 150 (a 10) (a 84)) (.fin [11] [(11,t 85)] [])))) (p [] (.alloc 150) 0 10 (.loud [] [] (w [79,82]) QC [] QF (.lookup 152 (a 79) (a 82) QF) 151 (QB 83) QF (s [78,84,85] [(85,.un (.ext 1) (t 83))] [(10,t 10),(84,.un (.ext 0) (t 83))] (.store 150 (a 10) (a 84)) (.fin [11] [(11,t 85)] [])))))) (l [80,81,82] [(82,g 0 (e 2 (t 3)))] [] (.alloc 150) 0 10 (p [] (x 90 [] []) 152 79 (.loud [] [] (w [79,82]) QC [] QF (.lookup 152 (a 79) (a 82) QF) 151 (QB 83) QF (s [78,84,85] [(85,.un (.ext 1) (t 83))] [(10,t 10),(84,.un (.ext 0) (t 83))] (.store 150 (a 10) (a 84)) (.fin [11] [(11,t 85)] [])))))),.reg QF (.loud [86,87,88,89,90,91,92,93,94,95,109,110,111,112] [(87,t 11),(109,t 2),(112,h (g 1 (t 3)))] [(91,.gd (t 11) QF (h (g 1 (e 2 (t 3))))),(93,.gd (t 11) QF (g 0 (t 10))),(95,.gd (t 11) QF (g 1 (t 10)))] (QB (t 11,QF)) [] QG (x 55 [91,93,95] [3,3,3]) 4 (QB 96) QF (.loud [97,98,99,100,101,102,103,104,105,106] [(98,.ite (t 87) (t 96) (.con (.bool QG)))] [(102,.gd (.ite (t 87) (t 96) (.con (.bool QG))) QF (h (g 2 (e 2 (t 3))))),(104,.gd (.ite (t 87) (t 96) (.con (.bool QG))) QF (g 2 (t 10))),(106,.gd (.ite (t 87) (t 96) (.con (.bool QG))) QF (g 3 (t 10)))] (QB (.ite (t 87) (t 96) (.con (.bool QG)),QF)) [] QG (x 55 [102,104,106] [3,3,3]) 4 (QB 107) QF (.loud [108] [] [(108,.ite (t 98) (t 107) (.con (.bool QG))),(109,t 109),(112,t 112)] QC [] QF (.call ⟨.value (.func 54),#[a 108,.const (Qy Qz 10),a 109,a 112],#[4,38,3,3]⟩) 0 (QB 113) QG z))),k [114,115,116,117,118] [(116,g 2 (e 2 (t 3))),(117,h (g 2 (e 2 (t 3)))),(118,c 0)],v 6 L.aP.l4]),k [137,20] [(20,o (t 20) (c 1))]])=>b);simp only[sh];rfl
def L.aP:LFn:=by apply(fun{b:LFn}(_:b=⟨[],q [k [14,15,16,17,18,19,20] [(18,g 1 (e 0 (.un .nilPtr (t 0)))),(19,h (g 1 (e 0 (.un .nilPtr (t 0))))),(20,c 0)],v 0 L.aP.l1]⟩)=>b);simp only[sh];rfl
theorem E.aP:aI QH Tryz.f56=QB L.aP:=by kernel_rfl
theorem F.aP:Tryz.prog.funcs[N.aP]? = QB Tryz.f56:=Tryz.func56
abbrev N.aD:Nat:=57
def L.aD.l1:LC:=by apply(fun{b:LC}(_:b=q [k [37] [(37,j .lss (t 36) (t 35))],u 37 .skip (.exit 0),.block 1 (q [k [38,4] [(4,t 36)],.reg QG (l [39,40] [] [(39,t 3),(40,t 4)] (x 92 [39,40] [22,3]) 4 41 (.loud [42] [] [(41,t 41),(42,t 4)] QC [] QG (.call ⟨.value (.func 54),#[a 41,.const (Qy Qz 15),a 42,.const (Qy Qz 0)],#[4,38,3,3]⟩) 0 (QB 43) QG z))]),k [44,36] [(36,o (t 36) (c 1))]])=>b);simp only[sh];rfl
def L.aD.l4:LC:=by apply(fun{b:LC}(_:b=q [k [86] [(86,j .lss (t 85) (t 84))],u 86 .skip (.exit 6),.block 7 (q [.reg QG (l [87,88,89] [(87,t 85),(89,.un (.ax 2) (i 2 (t 83) (t 85)))] [] (.alloc 54) 0 14 (s [13] [(13,t 87)] (w [14,89]) (.store 54 (a 14) (a 89)) z)),.reg QF (.fin [90,91,92,93,94,95,96,97,98,99,100,101,102,12] [(12,.ite (t 12) (j .eql (g 0 (t 14)) (d (i 1 (d (i 1 (t 5) (t 8))) (t 13)))) (.con (.bool QG)))] [])]),k [103,85] [(85,o (t 85) (c 1))]])=>b);simp only[sh];rfl
def L.aD.l5:LC:=by apply(fun{b:LC}(_:b=q [k [113] [(113,j .lss (t 112) (t 111))],u 113 .skip (.exit 8),.block 9 (q [.reg QG (l [114,115] [(115,.un (.ax 2) (i 2 (t 110) (t 112)))] [] (.alloc 54) 0 16 (s [] [] (w [16,115]) (.store 54 (a 16) (a 115)) z)),.reg QF (.loud [116,117,118,119,120,121,122,123,124,125,126,127,128,129,130,131,132,133,134] [] [(116,t 7),(118,g 1 (t 16)),(120,g 0 (t 16)),(122,.bin (.arith .sub) (c (-1)) (t 10)),(133,h (g 1 (i 6 (g 1 (e 0 (.un .nilPtr (d (t 1))))) (g 0 (t 16))))),(134,t 8)] QC [] QF (.call ⟨.value (a 116),#[a 118,a 120,a 122,a 133,a 134],#[3,3,3,3,3]⟩) 0 (QB 135) QG z)]),k [136,112] [(112,o (t 112) (c 1))]])=>b);simp only[sh];rfl
def L.aD.l3:LC:=by apply(fun{b:LC}(_:b=q [k [65] [(65,j .lss (t 64) (t 63))],u 65 .skip (.exit 4),.block 5 (q [.reg QG (l [66,67,68] [(66,t 64),(68,.un (.ax 2) (i 2 (t 62) (t 64)))] [] (.alloc 52) 0 11 (s [10] [(10,t 66)] (w [11,68]) (.store 52 (a 11) (a 68)) z)),.reg QF (.fin [69,70,71,72,73,74,75,76,77,78,79,80,81,12] [(12,.ite (j .gtr (t 8) (c 0)) (j .eql (h (g 1 (t 11))) (h (d (i 1 (t 5) (t 8))))) (.con (.bool QG)))] []),q [k [82,83,84,85] [(83,g 1 (t 11)),(84,h (g 1 (t 11))),(85,c 0)],v 6 L.aD.l4],.reg QG (.loud [104,105,106,107] [] [(104,t 12),(105,t 8),(107,.bin (.arith .sub) (c (-1)) (t 10))] QC [] QG (.call ⟨.value (.func 54),#[a 104,.const (Qy Qz 16),a 105,a 107],#[4,38,3,3]⟩) 0 (QB 108) QG z),k [109,110,111,112] [(110,g 1 (t 11)),(111,h (g 1 (t 11))),(112,c 0)],v 8 L.aD.l5]),k [137,64] [(64,o (t 64) (c 1))]])=>b);simp only[sh];rfl
def L.aD.l7:LC:=by apply(fun{b:LC}(_:b=q [k [150] [(150,j .lss (t 149) (t 148))],u 150 .skip (.exit 12),.block 13 (q [k [151,152,20] [(20,d (i 1 (t 147) (t 149)))],.reg QG (.loud [153,154,155,156,157,158] [] [(153,t 7),(154,t 20),(155,t 8),(156,t 17),(157,t 17),(158,t 8)] QC [] QG (.call ⟨.value (a 153),#[a 154,a 155,a 156,a 157,a 158],#[3,3,3,3,3]⟩) 0 (QB 159) QG z)]),k [160,149] [(149,o (t 149) (c 1))]])=>b);simp only[sh];rfl
def L.aD.l6:LC:=by apply(fun{b:LC}(_:b=q [k [142] [(142,j .lss (t 141) (t 140))],u 142 .skip (.exit 10),.block 11 (q [.reg QG (l [143,144,145] [(143,t 141),(145,.un (.ax 5) (i 5 (t 139) (t 141)))] [] (.alloc 68) 0 18 (s [17] [(17,t 143)] (w [18,145]) (.store 68 (a 18) (a 145)) z)),k [146,147,148,149] [(147,g 3 (t 18)),(148,h (g 3 (t 18))),(149,c 0)],v 12 L.aD.l7]),k [161,141] [(141,o (t 141) (c 1))]])=>b);simp only[sh];rfl
def L.aD.l8:LC:=by apply(fun{b:LC}(_:b=q [k [167] [(167,j .lss (t 166) (t 165))],u 167 .skip (.exit 14),.block 15 (q [k [168,169,22] [(22,d (i 1 (t 164) (t 166)))],.reg QG (.loud [170,171,172,173,174,175,176,177,178,179] [] [(170,t 7),(171,t 22),(172,t 8),(175,h (g 1 (t 9))),(178,h (g 1 (t 9))),(179,t 8)] QC [] QG (.call ⟨.value (a 170),#[a 171,a 172,a 175,a 178,a 179],#[3,3,3,3,3]⟩) 0 (QB 180) QG z)]),k [181,166] [(166,o (t 166) (c 1))]])=>b);simp only[sh];rfl
def L.aD.l2:LC:=by apply(fun{b:LC}(_:b=q [k [57] [(57,j .lss (t 56) (t 55))],u 57 .skip (.exit 2),.block 3 (q [.reg QG (l [58,59,60] [(58,t 56),(60,.un (.ax 6) (i 6 (t 54) (t 56)))] [] (.alloc 49) 0 9 (s [8] [(8,t 58)] (w [9,60]) (.store 49 (a 9) (a 60)) z)),q [k [61,62,63,64] [(62,g 0 (t 9)),(63,h (g 0 (t 9))),(64,c 0)],v 4 L.aD.l3],q [k [138,139,140,141] [(139,g 1 (t 9)),(140,h (g 1 (t 9))),(141,c 0)],v 10 L.aD.l6],k [162,163,164,165,166] [(164,g 1 (e 2 (t 9))),(165,h (g 1 (e 2 (t 9)))),(166,c 0)],v 14 L.aD.l8]),k [182,56] [(56,o (t 56) (c 1))]])=>b);simp only[sh];rfl
def L.aD:LFn:=by apply(fun{b:LFn}(_:b=⟨[],q [.reg QG (p (w [0]) (.box 124 (a 0)) 0 1 z),.reg QG (l [23,24,25,26] [] [(26,.un (.ax 2) (e 0 (.un .nilPtr (d (t 1)))))] (x 32 [26] [26]) 59 27 (.fin [2] [(2,t 27)] [])),.reg QG (l [28] [] [(28,t 2)] (x 91 [28] [59]) 22 29 (.fin [3] [(3,t 29)] [])),q [k [30,31,32,33,34,35,36] [(35,h (g 1 (e 0 (.un .nilPtr (d (t 1)))))),(36,c 0)],v 0 L.aD.l1],.reg QG (l [45] [] [(45,t 2)] (x 59 [45] [59]) 59 46 (l [47] [] [(47,t 2)] (x 93 [47] [59]) 22 48 (p [] (.alloc 22) 0 6 (s [5] [(5,t 46)] (w [6,48]) (.store 22 (a 6) (a 48)) z)))),k [49,7] [(7,.un (.fn 94) (.snoc (.snoc (.con (.tuple #[])) (t 1)) (t 6)))],k [50,51,52,53,54,55,56] [(54,g 1 (e 0 (.un .nilPtr (d (t 1))))),(55,h (g 1 (e 0 (.un .nilPtr (d (t 1)))))),(56,c 0)],v 2 L.aD.l2]⟩)=>b);simp only[sh];rfl
theorem E.aD:aI QH Tryz.f57=QB L.aD:=by kernel_rfl
theorem F.aD:Tryz.prog.funcs[N.aD]? = QB Tryz.f57:=Tryz.func57
abbrev N.eH:Nat:=58
def L.eH.l1:LC:=by apply(fun{b:LC}(_:b=q [k [12] [(12,j .lss (t 11) (t 10))],u 12 .skip (.exit 0),.block 1 (q [k [13,14,15,4,5] [(4,t 11),(5,d (i 1 (t 9) (t 11)))],.reg QG (l [16,17,18,19,20] [(16,t 3),(17,t 4)] [(18,t 5),(20,h (t 0))] (x 61 [18,20] [22,3]) 22 21 (s [22] [] [(22,i 1 (t 16) (t 17)),(21,t 21)] (.store 22 (a 22) (a 21)) z))]),k [23,11] [(11,o (t 11) (c 1))]])=>b);simp only[sh];rfl
def L.eH:LFn:=by apply(fun{b:LFn}(_:b=⟨[t 2],q [k [2] [(2,.con (QD QC 0 0))],.reg QG (l [6,7] [] [(7,h (t 0)),(7,h (t 0))] (.makeSlice 59 (a 7) (a 7)) 59 8 (.fin [3] [(3,t 8)] [])),q [k [9,10,11] [(9,t 0),(10,h (t 0)),(11,c 0)],v 0 L.eH.l1],k [24,2] [(2,t 3)],.ret]⟩)=>b);simp only[sh];rfl
theorem E.eH:aI QH Tryz.f58=QB L.eH:=by kernel_rfl
theorem F.eH:Tryz.prog.funcs[N.eH]? = QB Tryz.f58:=Tryz.func58
abbrev N.fZ:Nat:=59
def L.fZ:LFn:=by apply(fun{b:LFn}(_:b=⟨[t 2],q [k [2] [(2,.con (QD QC 0 0))],.reg QG (l [6,7] [] [(7,h (t 0)),(7,h (t 0))] (.makeSlice 59 (a 7) (a 7)) 59 8 (p [] (.alloc 59) 0 3 (s [] [] (w [3,8]) (.store 59 (a 3) (a 8)) z))),q [.reg QG (l [9] [] [(9,t 0)] (x 60 [9] [59]) 130 10 z),.block 0 (.rangef (t 10) [11,12] (q [k [4] [(4,t 11)],k [5] [(5,t 12)]]) (.block 1 (.reg QF (l [13,14,15,16,17,18,19] [(13,d (t 3)),(14,t 5),(18,d (i 1 (d (t 3)) (t 5)))] [(19,t 4)] (.buildSlice 22 1 #[(0,a 19)]) 22 20 (p (w [18,20]) (.call ⟨.builtin .append,#[a 18,a 20],#[22,22]⟩) 22 21 (.loud [22] [] [(22,i 1 (t 13) (t 14)),(21,t 21)] QC [] QF (.store 22 (a 22) (a 21)) 0 QC QG z))))))],k [23,2] [(2,d (t 3))],.ret]⟩)=>b);simp only[sh];rfl
theorem E.fZ:aI QH Tryz.f59=QB L.fZ:=by kernel_rfl
theorem F.fZ:Tryz.prog.funcs[N.fZ]? = QB Tryz.f59:=Tryz.func59
abbrev N.fR:Nat:=60
def L.fR:LFn:=by apply(fun{b:LFn}(_:b=⟨[t 2],q [.reg QG (p (w [0]) (.box 59 (a 0)) 0 1 (.fin [2] [(2,.con .nilFunc)] [])),k [3,2] [(2,.un (.fn 96) (.snoc (.con (.tuple #[])) (t 1)))],.ret]⟩)=>b);simp only[sh];rfl
theorem E.fR:aI QH Tryz.f60=QB L.fR:=by kernel_rfl
theorem F.fR:Tryz.prog.funcs[N.fR]? = QB Tryz.f60:=Tryz.func60
abbrev N.fl:Nat:=61
def L.fl.l1:LC:=by apply(fun{b:LC}(_:b=q [k [11] [(11,j .lss (t 10) (t 9))],u 11 .skip (.exit 0),.block 1 (q [k [12,13,7] [(7,d (i 1 (t 8) (t 10)))],k [14,15,16,17,18,19,20] [(20,.ite (j .geq (t 7) (c 0)) (j .lss (t 7) (t 1)) (.con (.bool QG)))],u 20 (.reg QG (l [21,22] [(21,t 5)] [(22,t 7)] (.buildSlice 22 1 #[(0,a 22)]) 22 23 (p (w [21,23]) (.call ⟨.builtin .append,#[a 21,a 23],#[22,22]⟩) 22 24 (.fin [5] [(5,t 24)] [])))) .skip]),k [25,10] [(10,o (t 10) (c 1))]])=>b);simp only[sh];rfl
def L.fl:LFn:=by apply(fun{b:LFn}(_:b=⟨[t 4],q [k [4] [(4,.con (QD QC 0 0))],k [5] [(5,.con (QD QC 0 0))],q [k [8,9,10] [(8,t 0),(9,h (t 0)),(10,c 0)],v 0 L.fl.l1],.reg QG (.loud [26] [] [(26,t 5)] QC [] QG (x 97 [26] [22]) 0 (QB 27) QG z),.reg QG (l [28] [] [(28,t 5)] (x 98 [28] [22]) 22 29 (.fin [4] [(4,t 29)] [])),.ret]⟩)=>b);simp only[sh];rfl
theorem E.fl:aI QH Tryz.f61=QB L.fl:=by kernel_rfl
theorem F.fl:Tryz.prog.funcs[N.fl]? = QB Tryz.f61:=Tryz.func61
abbrev N.bM:Nat:=62
def L.bM.l1:LC:=by apply(fun{b:LC}(_:b=q [k [11] [(11,j .lss (t 10) (t 9))],u 11 .skip (.exit 0),.block 1 (q [.reg QG (l [12,13] [(13,.un (.ax 6) (i 6 (t 8) (t 10)))] [] (.alloc 49) 0 7 (s [] [] (w [7,13]) (.store 49 (a 7) (a 13)) z)),.reg QG (l [14,15,16] [(14,t 5)] [(15,t 1),(16,.un (.ax 6) (t 7))] (.call ⟨.value (a 15),#[a 16],#[49]⟩) 49 17 (p (w [17]) (.buildSlice 24 1 #[(0,a 17)]) 24 18 (p (w [14,18]) (.call ⟨.builtin .append,#[a 14,a 18],#[24,24]⟩) 24 19 (.fin [5] [(5,t 19)] []))))]),k [20,10] [(10,o (t 10) (c 1))]])=>b);simp only[sh];rfl
def L.bM:LFn:=by apply(fun{b:LFn}(_:b=⟨[t 4],q [k [4] [(4,.con (QD QC 0 0))],k [5] [(5,.con (QD QC 0 0))],q [k [8,9,10] [(8,t 0),(9,h (t 0)),(10,c 0)],v 0 L.bM.l1],k [21,4] [(4,t 5)],.ret]⟩)=>b);simp only[sh];rfl
theorem E.bM:aI QH Tryz.f62=QB L.bM:=by kernel_rfl
theorem F.bM:Tryz.prog.funcs[N.bM]? = QB Tryz.f62:=Tryz.func62
abbrev N.ek:Nat:=63
def L.ek:LFn:=by apply(fun{b:LFn}(_:b=⟨[.un (.ax 6) (t 2)],q [.reg QG (p (w [0]) (.box 49 (a 0)) 0 1 (p [] (.alloc 49) 0 2 z)),.reg QG (l [3,4] [] [(4,g 0 (t 1))] (.call ⟨.value (.func 64),#[a 4,.func 65],#[46,136]⟩) 46 5 (s [6] [] [(6,e 0 (t 1)),(5,t 5)] (.store 46 (a 6) (a 5)) z)),.reg QG (l [7,8] [] [(8,g 1 (t 1))] (.call ⟨.value (.func 67),#[a 8,.func 68],#[47,138]⟩) 47 9 (s [10] [] [(10,e 1 (t 1)),(9,t 9)] (.store 47 (a 10) (a 9)) z)),.reg QF (l [11,12,13,15,16,17] [(17,g 2 (e 2 (t 1)))] [(13,g 1 (e 2 (t 1)))] (x 69 [13] [22]) 22 14 (.loud [19,20] [(20,e 1 (e 2 (t 1)))] (w [17]) QC [] QF (x 69 [17] [22]) 22 (QB 18) QF (s [] [] (w [20,14]) (.store 22 (a 20) (a 14)) (s [21,22] [] [(22,e 2 (e 2 (t 1))),(18,t 18)] (.store 22 (a 22) (a 18)) z)))),.reg QG (s [23] [] [(2,t 2),(23,.un (.ax 6) (t 1))] (.store 49 (a 2) (a 23)) z),.ret]⟩)=>b);simp only[sh];rfl
theorem E.ek:aI QH Tryz.f63=QB L.ek:=by kernel_rfl
theorem F.ek:Tryz.prog.funcs[N.ek]? = QB Tryz.f63:=Tryz.func63
abbrev N.cB:Nat:=64
def L.cB.l1:LC:=by apply(fun{b:LC}(_:b=q [k [11] [(11,j .lss (t 10) (t 9))],u 11 .skip (.exit 0),.block 1 (q [.reg QG (l [12,13] [(13,.un (.ax 2) (i 2 (t 8) (t 10)))] [] (.alloc 52) 0 7 (s [] [] (w [7,13]) (.store 52 (a 7) (a 13)) z)),.reg QG (l [14,15,16] [(14,t 5)] [(15,t 1),(16,.un (.ax 2) (t 7))] (.call ⟨.value (a 15),#[a 16],#[52]⟩) 52 17 (p (w [17]) (.buildSlice 46 1 #[(0,a 17)]) 46 18 (p (w [14,18]) (.call ⟨.builtin .append,#[a 14,a 18],#[46,46]⟩) 46 19 (.fin [5] [(5,t 19)] []))))]),k [20,10] [(10,o (t 10) (c 1))]])=>b);simp only[sh];rfl
def L.cB:LFn:=by apply(fun{b:LFn}(_:b=⟨[t 4],q [k [4] [(4,.con (QD QC 0 0))],k [5] [(5,.con (QD QC 0 0))],q [k [8,9,10] [(8,t 0),(9,h (t 0)),(10,c 0)],v 0 L.cB.l1],k [21,4] [(4,t 5)],.ret]⟩)=>b);simp only[sh];rfl
theorem E.cB:aI QH Tryz.f64=QB L.cB:=by kernel_rfl
theorem F.cB:Tryz.prog.funcs[N.cB]? = QB Tryz.f64:=Tryz.func64
abbrev N.di:Nat:=65
def L.di:LFn:=by apply(fun{b:LFn}(_:b=⟨[.un (.ax 2) (t 2)],q [.reg QG (p (w [0]) (.box 52 (a 0)) 0 1 (p [] (.alloc 52) 0 2 z)),.reg QG (l [3,4] [] [(4,g 1 (t 1))] (x 66 [4] [50]) 50 5 (s [6] [] [(6,e 1 (t 1)),(5,t 5)] (.store 50 (a 6) (a 5)) z)),.reg QG (s [7] [] [(2,t 2),(7,.un (.ax 2) (t 1))] (.store 52 (a 2) (a 7)) z),.ret]⟩)=>b);simp only[sh];rfl
theorem E.di:aI QH Tryz.f65=QB L.di:=by kernel_rfl
theorem F.di:Tryz.prog.funcs[N.di]? = QB Tryz.f65:=Tryz.func65
abbrev N.dD:Nat:=66
def L.dD:LFn:=by apply(fun{b:LFn}(_:b=⟨[t 2],q [k [2] [(2,.con (QD QC 0 0))],q [.reg QG (l [3] [] [(3,t 0)] (.binOp .eql 50 (a 3) (.const (QD QC 0 0)) 50) 4 4 z),u 4 (q [k [2] [(2,.con (QD QC 0 0))],.ret]) .skip],.reg QG (p [] (.buildSlice 50 0 #[]) 50 5 (l [6] [] [(5,t 5),(6,t 0)] (.call ⟨.builtin .append,#[a 5,a 6],#[50,50]⟩) 50 7 (.fin [2] [(2,t 7)] []))),.ret]⟩)=>b);simp only[sh];rfl
theorem E.dD:aI QH Tryz.f66=QB L.dD:=by kernel_rfl
theorem F.dD:Tryz.prog.funcs[N.dD]? = QB Tryz.f66:=Tryz.func66
abbrev N.cC:Nat:=67
def L.cC.l1:LC:=by apply(fun{b:LC}(_:b=q [k [11] [(11,j .lss (t 10) (t 9))],u 11 .skip (.exit 0),.block 1 (q [.reg QG (l [12,13] [(13,.un (.ax 5) (i 5 (t 8) (t 10)))] [] (.alloc 68) 0 7 (s [] [] (w [7,13]) (.store 68 (a 7) (a 13)) z)),.reg QG (l [14,15,16] [(14,t 5)] [(15,t 1),(16,.un (.ax 5) (t 7))] (.call ⟨.value (a 15),#[a 16],#[68]⟩) 68 17 (p (w [17]) (.buildSlice 47 1 #[(0,a 17)]) 47 18 (p (w [14,18]) (.call ⟨.builtin .append,#[a 14,a 18],#[47,47]⟩) 47 19 (.fin [5] [(5,t 19)] []))))]),k [20,10] [(10,o (t 10) (c 1))]])=>b);simp only[sh];rfl
def L.cC:LFn:=by apply(fun{b:LFn}(_:b=⟨[t 4],q [k [4] [(4,.con (QD QC 0 0))],k [5] [(5,.con (QD QC 0 0))],q [k [8,9,10] [(8,t 0),(9,h (t 0)),(10,c 0)],v 0 L.cC.l1],k [21,4] [(4,t 5)],.ret]⟩)=>b);simp only[sh];rfl
theorem E.cC:aI QH Tryz.f67=QB L.cC:=by kernel_rfl
theorem F.cC:Tryz.prog.funcs[N.cC]? = QB Tryz.f67:=Tryz.func67
abbrev N.dg:Nat:=68
def L.dg:LFn:=by apply(fun{b:LFn}(_:b=⟨[.un (.ax 5) (t 2)],q [.reg QG (p (w [0]) (.box 68 (a 0)) 0 1 (p [] (.alloc 68) 0 2 z)),.reg QG (l [3,4] [] [(4,g 3 (t 1))] (x 69 [4] [22]) 22 5 (s [6] [] [(6,e 3 (t 1)),(5,t 5)] (.store 22 (a 6) (a 5)) z)),.reg QG (s [7] [] [(2,t 2),(7,.un (.ax 5) (t 1))] (.store 68 (a 2) (a 7)) z),.ret]⟩)=>b);simp only[sh];rfl
theorem E.dg:aI QH Tryz.f68=QB L.dg:=by kernel_rfl
theorem F.dg:Tryz.prog.funcs[N.dg]? = QB Tryz.f68:=Tryz.func68
abbrev N.dr:Nat:=69
def L.dr:LFn:=by apply(fun{b:LFn}(_:b=⟨[t 2],q [k [2] [(2,.con (QD QC 0 0))],q [.reg QG (l [3] [] [(3,t 0)] (.binOp .eql 22 (a 3) (.const (QD QC 0 0)) 22) 4 4 z),u 4 (q [k [2] [(2,.con (QD QC 0 0))],.ret]) .skip],.reg QG (p [] (.buildSlice 22 0 #[]) 22 5 (l [6] [] [(5,t 5),(6,t 0)] (.call ⟨.builtin .append,#[a 5,a 6],#[22,22]⟩) 22 7 (.fin [2] [(2,t 7)] []))),.ret]⟩)=>b);simp only[sh];rfl
theorem E.dr:aI QH Tryz.f69=QB L.dr:=by kernel_rfl
theorem F.dr:Tryz.prog.funcs[N.dr]? = QB Tryz.f69:=Tryz.func69
abbrev N.aR:Nat:=70
def L.aR.l1:LC:=by apply(fun{b:LC}(_:b=.block 1 (q [k [21,22,23,12] [(12,.bin (.arith .sub) (t 2) (t 1))],q [k [24,25] [(25,j .leq (t 12) (c 12))],u 25 (q [.reg QG (.loud [26,27,28,29] [] [(26,t 0),(27,t 1),(28,t 2),(29,t 4)] QC [] QG (x 99 [26,27,28,29] [50,3,3,93]) 0 (QB 30) QG z),.ret]) .skip],q [k [31,32] [(32,j .eql (t 3) (c 0))],u 32 (q [.reg QG (.loud [33,34,35,36] [] [(33,t 0),(34,t 1),(35,t 2),(36,t 4)] QC [] QG (x 100 [33,34,35,36] [50,3,3,93]) 0 (QB 37) QG z),.ret]) .skip],q [k [38,39] [(39,.un .not (t 10))],u 39 (q [.reg QG (.loud [40,41,42,43] [] [(40,t 0),(41,t 1),(42,t 2),(43,t 4)] QC [] QG (x 101 [40,41,42,43] [50,3,3,93]) 0 (QB 44) QG z),k [45,46,3] [(3,.bin (.arith .sub) (t 3) (c 1))]]) .skip],.reg QG (l [48,49,50,51] [] [(48,t 0),(49,t 1),(50,t 2),(51,t 4)] (x 102 [48,49,50,51] [50,3,3,93]) 165 52 (.fin [47,53,54,13,14] [(13,.un (.ext 0) (t 52)),(14,.un (.ext 1) (t 52))] [])),q [k [55,56] [(56,j .eql (t 14) (c 2))],u 56 (q [.reg QG (.loud [57,58,59,60] [] [(57,t 0),(58,t 1),(59,t 2),(60,t 4)] QC [] QG (x 103 [57,58,59,60] [50,3,3,93]) 0 (QB 61) QG z),k [62,63,64,65,66,67,13] [(13,.bin (.arith .sub) (.bin (.arith .sub) (t 2) (c 1)) (.bin (.arith .sub) (t 13) (t 1)))],k [14] [(14,c 1)]]) .skip],q [k [68,69,70,71,72,73,74,75] [(75,.ite (.ite (t 10) (t 11) (.con (.bool QG))) (j .eql (t 14) (c 1)) (.con (.bool QG)))],u 75 (q [.reg QG (l [76,77,78,79] [] [(76,t 0),(77,t 1),(78,t 2),(79,t 4)] (x 104 [76,77,78,79] [50,3,3,93]) 4 80 z),u 80 .ret .skip]) .skip],q [.reg QF (.loud [81,82,83,84,85,86,87,88,89,90,91,92,93] [(83,j .gtr (t 1) (c 0))] [(84,.gd (j .gtr (t 1) (c 0)) QF (t 4)),(89,.gd (j .gtr (t 1) (c 0)) QF (.un (.ax 2) (i 2 (t 0) (.bin (.arith .sub) (t 1) (c 1))))),(93,.gd (j .gtr (t 1) (c 0)) QF (.un (.ax 2) (i 2 (t 0) (t 13))))] (QB (j .gtr (t 1) (c 0),QF)) [] QG (.call ⟨.value (a 84),#[a 89,a 93],#[54,54]⟩) 3 (QB 94) QF (.fin [95,96,97] [(97,.ite (t 83) (.un .not (j .lss (t 94) (c 0))) (.con (.bool QG)))] [])),u 97 (q [.reg QG (l [98,99,100,101,102] [] [(98,t 0),(99,t 1),(100,t 2),(101,t 13),(102,t 4)] (x 105 [98,99,100,101,102] [50,3,3,3,93]) 3 103 (.fin [15] [(15,t 103)] [])),k [104,1] [(1,t 15)],.exit 1]) .skip],.reg QG (l [106,107,108,109,110] [] [(106,t 0),(107,t 1),(108,t 2),(109,t 13),(110,t 4)] (x 106 [106,107,108,109,110] [50,3,3,3,93]) 91 111 (.fin [105,112,113,16,17] [(16,.un (.ext 0) (t 111)),(17,.un (.ext 1) (t 111))] [])),k [114,11] [(11,t 17)],k [115,116,117,118,119,120,18,19] [(18,.bin (.arith .sub) (t 16) (t 1)),(19,.bin (.arith .sub) (t 2) (t 16))],k [121,122,20] [(20,.bin (.div .quo) (t 12) (c 8))],k [123,124,125] [(125,j .lss (t 18) (t 19))],u 125 (q [k [126,127,128,10] [(10,j .geq (t 18) (t 20))],.reg QG (.loud [129,130,131,132,133] [] [(129,t 0),(130,t 1),(131,t 16),(132,t 3),(133,t 4)] QC [] QG (x 70 [129,130,131,132,133] [50,3,3,3,93]) 0 (QB 134) QG z),k [135,136,1] [(1,o (t 16) (c 1))]]) (q [k [137,138,139,10] [(10,j .geq (t 19) (t 20))],.reg QG (.loud [140,141,142,143,144,145] [] [(140,t 0),(142,o (t 16) (c 1)),(143,t 2),(144,t 3),(145,t 4)] QC [] QG (x 70 [140,142,143,144,145] [50,3,3,3,93]) 0 (QB 146) QG z),k [147,2] [(2,t 16)]])]))=>b);simp only[sh];rfl
def L.aR:LFn:=by apply(fun{b:LFn}(_:b=⟨[],q [k [10] [(10,.con (.bool QF))],k [11] [(11,.con (.bool QF))],v 0 L.aR.l1]⟩)=>b);simp only[sh];rfl
theorem E.aR:aI QH Tryz.f70=QB L.aR:=by kernel_rfl
theorem F.aR:Tryz.prog.funcs[N.aR]? = QB Tryz.f70:=Tryz.func70
abbrev N.xH:Nat:=71
abbrev N.cZ:Nat:=72
def L.cZ:LFn:=by apply(fun{b:LFn}(_:b=⟨[t 2,t 3],q [k [2,3] [(2,c 0),(3,.con (.bool QG))],q [k [5,6,7,8,9,10] [(10,j .eql (h (g 5 (.un .nilPtr (t 0)))) (c 0))],u 10 (q [k [2,3] [(2,c 0),(3,.con (.bool QG))],.ret]) .skip],.reg QG (l [11,12,13,14,15,16] [] [(11,t 0),(16,h (g 5 (.un .nilPtr (t 0))))] (x 13 [11,16] [55,3]) 3 17 (.fin [4] [(4,t 17)] [])),q [.reg QG (l [18] [] [(18,t 0)] (.call ⟨.value (.func 13),#[a 18,.const (Qy Qz 3)],#[55,3]⟩) 3 19 (.fin [20] [(20,j .eql (t 19) (c 0))] [])),u 20 (k [21,22,23,24,25,26,4] [(4,.bin (.arith .sub) (h (g 5 (.un .nilPtr (t 0)))) (c 1))]) .skip],k [27,28,29,30,31,32,33,2,3] [(2,d (i 1 (g 5 (.un .nilPtr (t 0))) (t 4))),(3,.con (.bool QF))],.ret]⟩)=>b);simp only[sh];rfl
theorem E.cZ:aI QH Tryz.f72=QB L.cZ:=by kernel_rfl
theorem F.cZ:Tryz.prog.funcs[N.cZ]? = QB Tryz.f72:=Tryz.func72
abbrev N.gD:Nat:=73
def L.gD:LFn:=by apply(fun{b:LFn}(_:b=⟨[t 2],q [k [2] [(2,.con (Qy QA 0))],k [3,4,5,2] [(2,o (d (t 0)) (d (t 1)))],.ret]⟩)=>b);simp only[sh];rfl
theorem E.gD:aI QH Tryz.f73=QB L.gD:=by kernel_rfl
theorem F.gD:Tryz.prog.funcs[N.gD]? = QB Tryz.f73:=Tryz.func73
abbrev N.gN:Nat:=74
def L.gN:LFn:=by apply(fun{b:LFn}(_:b=⟨[t 2],q [k [2] [(2,.con (Qy QA 0))],k [3,4,5,2] [(2,.bin (.arith .sub) (d (t 0)) (d (t 1)))],.ret]⟩)=>b);simp only[sh];rfl
theorem E.gN:aI QH Tryz.f74=QB L.gN:=by kernel_rfl
theorem F.gN:Tryz.prog.funcs[N.gN]? = QB Tryz.f74:=Tryz.func74
abbrev N.gC:Nat:=75
def L.gC:LFn:=by apply(fun{b:LFn}(_:b=⟨[t 2],q [k [2] [(2,.con (Qy QA 0))],k [3,4,5,2] [(2,.bin (.arith .mul) (d (t 0)) (d (t 1)))],.ret]⟩)=>b);simp only[sh];rfl
theorem E.gC:aI QH Tryz.f75=QB L.gC:=by kernel_rfl
theorem F.gC:Tryz.prog.funcs[N.gC]? = QB Tryz.f75:=Tryz.func75
abbrev N.gO:Nat:=76
def L.gO:LFn:=by apply(fun{b:LFn}(_:b=⟨[t 2],q [k [2] [(2,.con (Qy QA 0))],k [3,4,5,2] [(2,.bin (.bits .and) (d (t 0)) (d (t 1)))],.ret]⟩)=>b);simp only[sh];rfl
theorem E.gO:aI QH Tryz.f76=QB L.gO:=by kernel_rfl
theorem F.gO:Tryz.prog.funcs[N.gO]? = QB Tryz.f76:=Tryz.func76
abbrev N.gH:Nat:=77
def L.gH:LFn:=by apply(fun{b:LFn}(_:b=⟨[t 2],q [k [2] [(2,.con (Qy QA 0))],k [3,4,5,2] [(2,.bin (.bits .or) (d (t 0)) (d (t 1)))],.ret]⟩)=>b);simp only[sh];rfl
theorem E.gH:aI QH Tryz.f77=QB L.gH:=by kernel_rfl
theorem F.gH:Tryz.prog.funcs[N.gH]? = QB Tryz.f77:=Tryz.func77
abbrev N.gI:Nat:=78
def L.gI:LFn:=by apply(fun{b:LFn}(_:b=⟨[t 2],q [k [2] [(2,.con (Qy QA 0))],k [3,4,5,2] [(2,.bin (.bits .xor) (d (t 0)) (d (t 1)))],.ret]⟩)=>b);simp only[sh];rfl
theorem E.gI:aI QH Tryz.f78=QB L.gI:=by kernel_rfl
theorem F.gI:Tryz.prog.funcs[N.gI]? = QB Tryz.f78:=Tryz.func78
abbrev N.gQ:Nat:=79
def L.gQ:LFn:=by apply(fun{b:LFn}(_:b=⟨[t 2],q [k [2] [(2,.con (Qy QA 0))],.reg QG (l [3,4] [] [(3,d (t 0)),(4,d (t 1))] (.binOp .shl 21 (a 3) (a 4) 119) 21 5 (.fin [2] [(2,t 5)] [])),.ret]⟩)=>b);simp only[sh];rfl
theorem E.gQ:aI QH Tryz.f79=QB L.gQ:=by kernel_rfl
theorem F.gQ:Tryz.prog.funcs[N.gQ]? = QB Tryz.f79:=Tryz.func79
abbrev N.gK:Nat:=80
def L.gK:LFn:=by apply(fun{b:LFn}(_:b=⟨[t 2],q [k [2] [(2,.con (Qy QA 0))],.reg QG (l [3,4,5] [] [(4,.un (.conv .u32) (d (t 0))),(5,d (t 1))] (.binOp .shr 119 (a 4) (a 5) 119) 119 6 (.fin [7,2] [(2,.un (.conv .i32) (t 6))] [])),.ret]⟩)=>b);simp only[sh];rfl
theorem E.gK:aI QH Tryz.f80=QB L.gK:=by kernel_rfl
theorem F.gK:Tryz.prog.funcs[N.gK]? = QB Tryz.f80:=Tryz.func80
abbrev N.gM:Nat:=81
def L.gM:LFn:=by apply(fun{b:LFn}(_:b=⟨[t 2],q [k [2] [(2,.con (Qy QA 0))],.reg QG (l [3,4] [] [(3,d (t 0)),(4,d (t 1))] (.binOp .shr 21 (a 3) (a 4) 119) 21 5 (.fin [2] [(2,t 5)] [])),.ret]⟩)=>b);simp only[sh];rfl
theorem E.gM:aI QH Tryz.f81=QB L.gM:=by kernel_rfl
theorem F.gM:Tryz.prog.funcs[N.gM]? = QB Tryz.f81:=Tryz.func81
abbrev N.fq:Nat:=82
def L.fq:LFn:=by apply(fun{b:LFn}(_:b=⟨[t 2],q [k [2] [(2,.con (Qy QA 0))],.reg QG (l [3,4,5] [] [(5,j .eql (d (t 0)) (d (t 1)))] (x 83 [5] [4]) 21 6 (.fin [2] [(2,t 6)] [])),.ret]⟩)=>b);simp only[sh];rfl
theorem E.fq:aI QH Tryz.f82=QB L.fq:=by kernel_rfl
theorem F.fq:Tryz.prog.funcs[N.fq]? = QB Tryz.f82:=Tryz.func82
abbrev N.kv:Nat:=83
def L.kv:LFn:=by apply(fun{b:LFn}(_:b=⟨[t 2],q [k [2] [(2,.con (Qy QA 0))],q [k [3] [(3,t 0)],u 3 (q [k [2] [(2,.con (Qy QA 1))],.ret]) .skip],k [2] [(2,.con (Qy QA 0))],.ret]⟩)=>b);simp only[sh];rfl
theorem E.kv:aI QH Tryz.f83=QB L.kv:=by kernel_rfl
theorem F.kv:Tryz.prog.funcs[N.kv]? = QB Tryz.f83:=Tryz.func83
abbrev N.fm:Nat:=84
def L.fm:LFn:=by apply(fun{b:LFn}(_:b=⟨[t 2],q [k [2] [(2,.con (Qy QA 0))],.reg QG (l [3,4,5] [] [(5,j .lss (d (t 0)) (d (t 1)))] (x 83 [5] [4]) 21 6 (.fin [2] [(2,t 6)] [])),.ret]⟩)=>b);simp only[sh];rfl
theorem E.fm:aI QH Tryz.f84=QB L.fm:=by kernel_rfl
theorem F.fm:Tryz.prog.funcs[N.fm]? = QB Tryz.f84:=Tryz.func84
abbrev N.fA:Nat:=85
def L.fA:LFn:=by apply(fun{b:LFn}(_:b=⟨[t 2],q [k [2] [(2,.con (Qy QA 0))],.reg QG (l [3,4,5,6,7] [] [(7,j .lss (.un (.conv .u32) (d (t 0))) (.un (.conv .u32) (d (t 1))))] (x 83 [7] [4]) 21 8 (.fin [2] [(2,t 8)] [])),.ret]⟩)=>b);simp only[sh];rfl
theorem E.fA:aI QH Tryz.f85=QB L.fA:=by kernel_rfl
theorem F.fA:Tryz.prog.funcs[N.fA]? = QB Tryz.f85:=Tryz.func85
abbrev N.fB:Nat:=86
def L.fB:LFn:=by apply(fun{b:LFn}(_:b=⟨[t 2],q [k [2] [(2,.con (Qy QA 0))],k [3,4,5,2] [(2,.bin (.div .quo) (d (t 0)) (d (t 1)))],.ret]⟩)=>b);simp only[sh];rfl
theorem E.fB:aI QH Tryz.f86=QB L.fB:=by kernel_rfl
theorem F.fB:Tryz.prog.funcs[N.fB]? = QB Tryz.f86:=Tryz.func86
abbrev N.bI:Nat:=87
def L.bI.l1:LC:=by apply(fun{b:LC}(_:b=q [k [15] [(15,j .lss (t 14) (t 13))],u 15 .skip (.exit 0),.block 1 (q [k [16,17,9] [(9,d (i 1 (t 12) (t 14)))],.reg QG (.loud [18,19,20,21] [] [(18,t 0),(19,t 9),(20,t 2),(21,t 3)] QC [] QG (x 109 [18,19,20,21] [124,3,3,3]) 0 (QB 22) QG z)]),k [23,14] [(14,o (t 14) (c 1))]])=>b);simp only[sh];rfl
def L.bI.l2:LC:=by apply(fun{b:LC}(_:b=q [k [27] [(27,j .lss (t 26) (t 25))],u 27 .skip (.exit 2),.block 3 (q [k [28,29,11] [(11,d (i 1 (t 24) (t 26)))],.reg QG (.loud [30,31,32,33] [] [(30,t 0),(31,t 11),(32,t 2),(33,t 3)] QC [] QG (x 110 [30,31,32,33] [124,3,3,3]) 0 (QB 34) QG z)]),k [35,26] [(26,o (t 26) (c 1))]])=>b);simp only[sh];rfl
def L.bI:LFn:=by apply(fun{b:LFn}(_:b=⟨[],q [q [k [12,13,14] [(12,t 1),(13,h (t 1)),(14,c 0)],v 0 L.bI.l1],k [24,25,26] [(24,t 1),(25,h (t 1)),(26,c 0)],v 2 L.bI.l2]⟩)=>b);simp only[sh];rfl
theorem E.bI:aI QH Tryz.f87=QB L.bI:=by kernel_rfl
theorem F.bI:Tryz.prog.funcs[N.bI]? = QB Tryz.f87:=Tryz.func87
end
section
set_option maxRecDepth 100000
abbrev N.dR:Nat:=88
def L.dR:LFn:=by apply(fun{b:LFn}(_:b=⟨[t 2,t 3],q [k [2,3] [(2,c 0),(3,c 0)],q [k [4] [(4,t 0)],.block 0 (q [k [6,5] [(5,j .eql (t 4) (c 1))],u 5 (q [k [2,3] [(2,c 0),(3,c 0)],.ret]) (q [k [8,7] [(7,j .eql (t 4) (c 15))],u 7 (q [k [2,3] [(2,c 1),(3,c 1)],.ret]) (q [k [10,9] [(9,j .eql (t 4) (c 17))],u 9 (q [k [2,3] [(2,c 0),(3,c 4)],.ret]) .skip])])])],k [2,3] [(2,c 2),(3,c 2)],.ret]⟩)=>b);simp only[sh];rfl
theorem E.dR:aI QH Tryz.f88=QB L.dR:=by kernel_rfl
theorem F.dR:Tryz.prog.funcs[N.dR]? = QB Tryz.f88:=Tryz.func88
abbrev N.fT:Nat:=89
def L.fT:LFn:=by apply(fun{b:LFn}(_:b=⟨[t 2],q [.reg QG (p (w [0]) (.box 68 (a 0)) 0 1 (.fin [2] [(2,.con (QD QC 0 0))] [])),q [k [3,4] [(4,g 0 (t 1))],.block 0 (q [k [6,5] [(5,j .eql (t 4) (c 16))],u 5 (q [k [2] [(2,.con (QD QC 0 0))],.ret]) (q [k [8,7] [(7,j .eql (t 4) (c 18))],u 7 (q [.reg QG (l [9,10,11,12] [] [(10,g 1 (t 1)),(12,g 2 (t 1))] (.buildSlice 22 2 #[(0,a 10),(1,a 12)]) 22 13 (.fin [2] [(2,t 13)] [])),.ret]) .skip])])],.reg QG (l [14,15] [] [(15,g 1 (t 1))] (.buildSlice 22 1 #[(0,a 15)]) 22 16 (.fin [2] [(2,t 16)] [])),.ret]⟩)=>b);simp only[sh];rfl
theorem E.fT:aI QH Tryz.f89=QB L.fT:=by kernel_rfl
theorem F.fT:Tryz.prog.funcs[N.fT]? = QB Tryz.f89:=Tryz.func89
abbrev N.eX:Nat:=90
def L.eX:LFn:=by apply(fun{b:LFn}(_:b=⟨[t 0],q [k [0] [(0,.con (.map QC))],.reg QG (p [] (.makeMap 152 QC) 152 1 (p [] (.build 150 #[(0,.const (Qy Qz 0)),(1,.const (Qy Qz 0)),(2,.const (Qy Qz 1)),(3,.const (Qy Qz 1))]) 150 2 (s [] [] (w [1,2]) (.insert 152 (a 1) (.const (Qy Qz 1)) (a 2)) (p [] (.build 150 #[(0,.const (Qy Qz 1)),(1,.const (Qy Qz 1)),(2,.const (Qy Qz 2)),(3,.const (Qy Qz 2))]) 150 3 (s [] [] (w [1,3]) (.insert 152 (a 1) (.const (Qy Qz 2)) (a 3)) (p [] (.build 150 #[(0,.const (Qy Qz 1)),(1,.const (Qy Qz 1)),(2,.const (Qy Qz 2)),(3,.const (Qy Qz 65))]) 150 4 (s [] [] (w [1,4]) (.insert 152 (a 1) (.const (Qy Qz 3)) (a 4)) (p [] (.build 150 #[(0,.const (Qy Qz 0)),(1,.const (Qy Qz 1)),(2,.const (Qy Qz 0)),(3,.const (Qy Qz 0))]) 150 5 (s [] [] (w [1,5]) (.insert 152 (a 1) (.const (Qy Qz 4)) (a 5)) (p [] (.build 150 #[(0,.const (Qy Qz 0)),(1,.const (Qy Qz 0)),(2,.const (Qy Qz 0)),(3,.const (Qy Qz 0))]) 150 6 (s [] [] (w [1,6]) (.insert 152 (a 1) (.const (Qy Qz 5)) (a 6)) (.fin [7,0] [(0,t 1)] [])))))))))))),.ret]⟩)=>b);simp only[sh];rfl
theorem E.eX:aI QH Tryz.f90=QB L.eX:=by kernel_rfl
theorem F.eX:Tryz.prog.funcs[N.eX]? = QB Tryz.f90:=Tryz.func90
abbrev N.fV:Nat:=91
def L.fV:LFn:=by apply(fun{b:LFn}(_:b=⟨[t 2],q [k [2] [(2,.con (QD QC 0 0))],q [k [7,8,9] [(9,j .eql (h (t 0)) (c 0))],u 9 (q [k [2] [(2,.con (QD QC 0 0))],.ret]) .skip],.reg QG (l [10] [] [(10,t 0)] (x 58 [10] [59]) 59 11 (p [] (.alloc 59) 0 3 (s [] [] (w [3,11]) (.store 59 (a 3) (a 11)) z))),.reg QG (l [12,13] [] [(13,h (t 0)),(13,h (t 0))] (.makeSlice 63 (a 13) (a 13)) 63 14 (p [] (.alloc 63) 0 4 (s [] [] (w [4,14]) (.store 63 (a 4) (a 14)) z))),.reg QG (p [] (.alloc 22) 0 5 z),.reg QG (p [] (.alloc 69) 0 6 z),.reg QG (s [15] [] [(6,t 6),(15,.un (.fn 111) (.snoc (.snoc (.snoc (.snoc (.con (.tuple #[])) (t 4)) (t 3)) (t 6)) (t 5)))] (.store 69 (a 6) (a 15)) z),.reg QG (.loud [16] [] [(16,d (t 6))] QC [] QG (.call ⟨.value (a 16),#[.const (Qy Qz 0)],#[3]⟩) 0 (QB 17) QG z),.reg QG (.loud [18] [] [(18,d (t 5))] QC [] QG (x 112 [18] [22]) 0 (QB 19) QG z),k [20,2] [(2,d (t 5))],.ret]⟩)=>b);simp only[sh];rfl
theorem E.fV:aI QH Tryz.f91=QB L.fV:=by kernel_rfl
theorem F.fV:Tryz.prog.funcs[N.fV]? = QB Tryz.f91:=Tryz.func91
abbrev N.slices_Contains_int:Nat:=92
def L.slices_Contains_int:LFn:=by apply(fun{b:LFn}(_:b=⟨[t 4],q [k [4] [(4,.con (.bool QG))],.reg QG (l [5,6] [] [(5,t 0),(6,t 1)] (x 113 [5,6] [22,3]) 3 7 (.fin [8,4] [(4,j .geq (t 7) (c 0))] [])),.ret]⟩)=>b);simp only[sh];rfl
theorem E.slices_Contains_int:aI QH Tryz.f92=QB L.slices_Contains_int:=by kernel_rfl
theorem F.slices_Contains_int:Tryz.prog.funcs[N.slices_Contains_int]? = QB Tryz.f92:=Tryz.func92
abbrev N.cf:Nat:=93
def L.cf.l1:LC:=by apply(fun{b:LC}(_:b=q [k [27] [(27,j .lss (t 26) (t 25))],u 27 .skip (.exit 0),.block 1 (q [k [28,6] [(6,t 26)],.reg QG (s [29,30,31,32,33] [(31,t 5),(32,t 6)] [(33,i 1 (t 4) (t 6))] (.store 3 (a 33) (.const (Qy Qz (-1)))) (s [34] [] [(34,i 1 (t 31) (t 32))] (.store 3 (a 34) (.const (Qy Qz (-1)))) z))]),k [35,26] [(26,o (t 26) (c 1))]])=>b);simp only[sh];rfl
def L.cf.l2:LC:=by apply(fun{b:LC}(_:b=q [k [39] [(39,j .lss (t 38) (t 37))],u 39 .skip (.exit 2),.block 3 (q [k [40,41,42,7,8] [(7,t 38),(8,d (i 1 (t 36) (t 38)))],.reg QG (s [43,44,45,46] [] [(46,i 1 (t 4) (t 8)),(45,t 7)] (.store 3 (a 46) (a 45)) z)]),k [47,38] [(38,o (t 38) (c 1))]])=>b);simp only[sh];rfl
def L.cf.l5:LC:=by apply(fun{b:LC}(_:b=q [k [67] [(67,j .lss (t 66) (t 65))],u 67 .skip (.exit 8),.block 9 (q [k [68,69,15] [(15,d (i 1 (t 64) (t 66)))],q [.reg QG (.fin [70,71,72,73,74,75,76,77,78,79,80,81,82,83,84,85] [(85,.ite (j .lss (d (i 1 (t 4) (t 15))) (c 0)) (.con (.bool QF)) (.ite (j .neq (t 15) (c 0)) (j .lss (d (i 1 (t 5) (t 15))) (c 0)) (.con (.bool QG))))] [.gd (.gd (j .lss (d (i 1 (t 4) (t 15))) (c 0)) QG (j .neq (t 15) (c 0))) QF (j .lss (d (i 1 (t 5) (t 15))) (c 0))]),u 85 (.exit 9) .skip],q [k [86,87] [(87,j .lss (t 13) (c 0))],u 87 (q [k [88,13] [(13,t 15)],.exit 9]) .skip],.reg QG (l [89,90,91,92] [] [(89,t 5),(90,t 4),(91,t 13),(92,t 15)] (x 114 [89,90,91,92] [22,22,3,3]) 3 93 (.fin [13] [(13,t 93)] []))]),k [94,66] [(66,o (t 66) (c 1))]])=>b);simp only[sh];rfl
def L.cf.l4:LC:=by apply(fun{b:LC}(_:b=q [k [58] [(58,j .lss (t 57) (t 56))],u 58 .skip (.exit 6),.block 7 (q [k [59,60,12] [(12,d (i 1 (t 55) (t 57)))],k [13] [(13,c (-1))],q [k [61,62,63,64,65,66] [(64,d (i 1 (t 9) (t 12))),(65,h (d (i 1 (t 9) (t 12)))),(66,c 0)],v 8 L.cf.l5],k [95,96,97,98,99,100] [(100,j .neq (d (i 1 (t 5) (t 12))) (t 13))],u 100 (.reg QG (s [101,102,103,104] [] [(104,i 1 (t 5) (t 12)),(103,t 13)] (.store 3 (a 104) (a 103)) (.fin [10] [(10,.con (.bool QF))] []))) .skip]),k [105,57] [(57,o (t 57) (c 1))]])=>b);simp only[sh];rfl
def L.cf.l3:LC:=by apply(fun{b:LC}(_:b=q [q [k [50] [(50,t 10)],u 50 .skip (.exit 4)],.block 5 (q [k [10] [(10,.con (.bool QG))],k [51,52,53,54,55,56,57] [(55,.bin (.lo 1) (t 3) (.bin .min (c 1) (h (t 3)))),(56,h (.bin (.lo 1) (t 3) (.bin .min (c 1) (h (t 3))))),(57,c 0)],v 6 L.cf.l4])])=>b);simp only[sh];rfl
def L.cf:LFn:=by apply(fun{b:LFn}(_:b=⟨[t 2],q [k [2] [(2,.con (QD QC 0 0))],.reg QG (l [16] [] [(16,t 0)] (x 91 [16] [59]) 22 17 (.fin [3] [(3,t 17)] [])),.reg QG (l [18,19] [] [(19,h (t 0)),(19,h (t 0))] (.makeSlice 22 (a 19) (a 19)) 22 20 (.fin [4] [(4,t 20)] [])),.reg QG (l [21,22] [] [(22,h (t 0)),(22,h (t 0))] (.makeSlice 22 (a 22) (a 22)) 22 23 (.fin [5] [(5,t 23)] [])),q [k [24,25,26] [(25,h (t 0)),(26,c 0)],v 0 L.cf.l1],q [k [36,37,38] [(36,t 3),(37,h (t 3)),(38,c 0)],v 2 L.cf.l2],.reg QG (l [48] [] [(48,t 0)] (x 59 [48] [59]) 59 49 (.fin [9] [(9,t 49)] [])),q [k [10] [(10,.con (.bool QF))],v 4 L.cf.l3],k [106,2] [(2,t 5)],.ret]⟩)=>b);simp only[sh];rfl
theorem E.cf:aI QH Tryz.f93=QB L.cf:=by kernel_rfl
theorem F.cf:Tryz.prog.funcs[N.cf]? = QB Tryz.f93:=Tryz.func93
abbrev N.aO:Nat:=94
def L.aO:LFn:=by apply(fun{b:LFn}(_:b=⟨[],q [q [k [14,15,16,17,18,19,20,21,22,23,24] [(24,.ite (j .geq (t 0) (c 0)) (j .lss (t 0) (g 0 (e 0 (.un .nilPtr (d (t 5)))))) (.con (.bool QG)))],u 24 .ret .skip],.reg QG (l [26,27,28,29,30] [] [(29,g 2 (.un .nilPtr (d (t 5)))),(30,t 0)] (.lookup 125 (a 29) (a 30) QF) 158 31 (l [25,32,33] [(32,.un (.ext 0) (t 31)),(33,.un (.ext 1) (t 31))] [] (.alloc 157) 0 12 (s [] [] (w [12,32]) (.store 157 (a 12) (a 32)) (.fin [13] [(13,t 33)] [])))),.reg QG (.loud [34,35,36,37,38,39,40,41,42,43,44,45,46,47,48,49,50,51,52,53,54,55,56,57,58,59,60] [(35,t 13),(51,.gd (t 13) QF (.ite (j .eql (g 0 (t 12)) (t 1)) (.ite (j .lss (g 1 (t 12)) (t 3)) (.con (.bool QF)) (j .lss (g 1 (t 12)) (c 0))) (.con (.bool QG)))),(56,.gd (.gd (t 13) QF (.ite (j .eql (g 0 (t 12)) (t 1)) (.ite (j .lss (g 1 (t 12)) (t 3)) (.con (.bool QF)) (j .lss (g 1 (t 12)) (c 0))) (.con (.bool QG)))) QG (j .neq (g 0 (t 12)) (t 1)))] [(57,.gd (.gd (.gd (t 13) QF (.ite (j .eql (g 0 (t 12)) (t 1)) (.ite (j .lss (g 1 (t 12)) (t 3)) (.con (.bool QF)) (j .lss (g 1 (t 12)) (c 0))) (.con (.bool QG)))) QG (j .neq (g 0 (t 12)) (t 1))) QF (d (t 6))),(59,.gd (.gd (.gd (t 13) QF (.ite (j .eql (g 0 (t 12)) (t 1)) (.ite (j .lss (g 1 (t 12)) (t 3)) (.con (.bool QF)) (j .lss (g 1 (t 12)) (c 0))) (.con (.bool QG)))) QG (j .neq (g 0 (t 12)) (t 1))) QF (g 0 (t 12))),(60,.gd (.gd (.gd (t 13) QF (.ite (j .eql (g 0 (t 12)) (t 1)) (.ite (j .lss (g 1 (t 12)) (t 3)) (.con (.bool QF)) (j .lss (g 1 (t 12)) (c 0))) (.con (.bool QG)))) QG (j .neq (g 0 (t 12)) (t 1))) QF (t 1))] (QB (.gd (.gd (t 13) QF (.ite (j .eql (g 0 (t 12)) (t 1)) (.ite (j .lss (g 1 (t 12)) (t 3)) (.con (.bool QF)) (j .lss (g 1 (t 12)) (c 0))) (.con (.bool QG)))) QG (j .neq (g 0 (t 12)) (t 1)),QF)) [.gd (.gd (t 13) QF (j .eql (g 0 (t 12)) (t 1))) QF (.ite (j .lss (g 1 (t 12)) (t 3)) (.con (.bool QF)) (j .lss (g 1 (t 12)) (c 0))),.gd (.gd (.gd (t 13) QF (j .eql (g 0 (t 12)) (t 1))) QF (j .lss (g 1 (t 12)) (t 3))) QG (j .lss (g 1 (t 12)) (c 0))] QG (x 95 [57,59,60] [22,3,3]) 4 (QB 61) QF (.fin [62,63,64,13] [(13,.ite (t 35) (.ite (t 51) (.con (.bool QF)) (.ite (t 56) (t 61) (.con (.bool QG)))) (.con (.bool QG)))] [.gd (t 51) QG (.ite (t 56) (t 61) (.con (.bool QG)))])),.reg QG (.loud [65,66,67] [] [(65,t 13),(66,t 4),(67,t 2)] QC [] QG (.call ⟨.value (.func 54),#[a 65,.const (Qy Qz 13),a 66,a 67],#[4,38,3,3]⟩) 0 (QB 68) QG z)]⟩)=>b);simp only[sh];rfl
theorem E.aO:aI QH Tryz.f94=QB L.aO:=by kernel_rfl
theorem F.aO:Tryz.prog.funcs[N.aO]? = QB Tryz.f94:=Tryz.func94
abbrev N.cP:Nat:=95
def L.cP.l1:LC:=by apply(fun{b:LC}(_:b=q [k [23] [(23,j .lss (t 22) (t 21))],u 23 .skip (.exit 0),.block 1 (q [q [k [24,25,26] [(26,j .eql (t 1) (t 2))],u 26 (q [k [6] [(6,.con (.bool QF))],.ret]) .skip],q [.reg QG (l [27,28] [] [(27,t 7),(28,t 2)] (.call ⟨.value (a 27),#[a 28],#[3]⟩) 4 29 (.fin [30] [(30,.un .not (t 29))] [])),u 30 (q [k [6] [(6,.con (.bool QG))],.ret]) .skip],k [31,32,33,34,2] [(2,d (i 1 (d (t 3)) (t 2)))]]),k [35,22] [(22,o (t 22) (c 1))]])=>b);simp only[sh];rfl
def L.cP:LFn:=by apply(fun{b:LFn}(_:b=⟨[t 6],q [.reg QG (p (w [0]) (.box 22 (a 0)) 0 3 (.fin [6] [(6,.con (.bool QG))] [])),k [8,7] [(7,.un (.fn 115) (.snoc (.con (.tuple #[])) (t 3)))],q [.reg QG (l [9,10] [] [(9,t 7),(10,t 1)] (.call ⟨.value (a 9),#[a 10],#[3]⟩) 4 11 (.loud [12,13,14,15] [(13,.un .not (t 11))] [(14,.gd (.un .not (t 11)) QG (t 7)),(15,.gd (.un .not (t 11)) QG (t 2))] (QB (.un .not (t 11),QG)) [] QG (.call ⟨.value (a 14),#[a 15],#[3]⟩) 4 (QB 16) QF (.fin [17,18] [(18,.ite (t 13) (.con (.bool QF)) (.un .not (t 16)))] []))),u 18 (q [k [6] [(6,.con (.bool QG))],.ret]) .skip],q [k [19,20,21,22] [(21,o (h (d (t 3))) (c 1)),(22,c 0)],v 0 L.cP.l1],k [6] [(6,.con (.bool QG))],.ret]⟩)=>b);simp only[sh];rfl
theorem E.cP:aI QH Tryz.f95=QB L.cP:=by kernel_rfl
theorem F.cP:Tryz.prog.funcs[N.cP]? = QB Tryz.f95:=Tryz.func95
abbrev N.bX:Nat:=96
def L.bX.l2:LC:=by apply(fun{b:LC}(_:b=q [k [18] [(18,j .lss (t 17) (t 16))],u 18 .skip (.exit 2),.block 3 (q [k [19,20,6] [(6,d (i 1 (t 15) (t 17)))],.reg QG (l [21,22,23] [] [(21,t 0),(22,t 3),(23,t 6)] (.call ⟨.value (a 21),#[a 22,a 23],#[3,3]⟩) 4 24 (.fin [25] [(25,.un .not (t 24))] [])),u 25 .ret .skip]),k [26,17] [(17,o (t 17) (c 1))]])=>b);simp only[sh];rfl
def L.bX.l1:LC:=by apply(fun{b:LC}(_:b=q [k [11] [(11,j .lss (t 10) (t 9))],u 11 .skip (.exit 0),.block 1 (q [k [12,13,14,3,4] [(3,t 10),(4,d (i 1 (t 8) (t 10)))],k [15,16,17] [(15,t 4),(16,h (t 4)),(17,c 0)],v 2 L.bX.l2]),k [27,10] [(10,o (t 10) (c 1))]])=>b);simp only[sh];rfl
def L.bX:LFn:=by apply(fun{b:LFn}(_:b=⟨[],q [.reg QG (l [7] [] [(7,d (t 1))] (x 58 [7] [59]) 59 8 (.fin [9,10] [(9,h (t 8)),(10,c 0)] [])),v 0 L.bX.l1]⟩)=>b);simp only[sh];rfl
theorem E.bX:aI QH Tryz.f96=QB L.bX:=by kernel_rfl
theorem F.bX:Tryz.prog.funcs[N.bX]? = QB Tryz.f96:=Tryz.func96
abbrev N.aC:Nat:=99
def L.aC.l2:LC:=by apply(fun{b:LC}(_:b=q [q [.reg QF (.loud [18,19,20,21,22,23,24,25,26,27,28,29,30,31] [(21,j .gtr (t 9) (t 1))] [(22,.gd (j .gtr (t 9) (t 1)) QF (t 3)),(26,.gd (j .gtr (t 9) (t 1)) QF (.un (.ax 2) (i 2 (t 0) (t 9)))),(31,.gd (j .gtr (t 9) (t 1)) QF (.un (.ax 2) (i 2 (t 0) (.bin (.arith .sub) (t 9) (c 1)))))] (QB (j .gtr (t 9) (t 1),QF)) [] QG (.call ⟨.value (a 22),#[a 26,a 31],#[54,54]⟩) 3 (QB 32) QF (.fin [33,34] [(34,.ite (t 21) (j .lss (t 32) (c 0)) (.con (.bool QG)))] [])),u 34 .skip (.exit 2)],.block 3 (.reg QF (.loud [37,38,39,40,41,42,43,44,45,46,47,48,49,50,51] [(39,t 0),(41,.bin (.arith .sub) (t 9) (c 1)),(50,.un (.ax 2) (i 2 (t 0) (t 9)))] [(51,i 2 (t 0) (t 9)),(46,.un (.ax 2) (i 2 (t 0) (.bin (.arith .sub) (t 9) (c 1))))] QC [] QF (.store 54 (a 51) (a 46)) 0 QC QG (s [52] [] [(52,i 2 (t 39) (t 41)),(50,t 50)] (.store 54 (a 52) (a 50)) z))),k [35,36,9] [(9,.bin (.arith .sub) (t 9) (c 1))]])=>b);simp only[sh];rfl
def L.aC.l1:LC:=by apply(fun{b:LC}(_:b=f 0 14 8 [12,13,14] [15,16,8] (j .lss (t 8) (t 2)) (.block 1 (q [k [17,9] [(9,t 8)],v 2 L.aC.l2])))=>b);simp only[sh];rfl
def L.aC:LFn:=by apply(fun{b:LFn}(_:b=⟨[],q [k [10,11,8] [(8,o (t 1) (c 1))],v 0 L.aC.l1]⟩)=>b);simp only[sh];rfl
theorem E.aC:aI QH Tryz.f99=QB L.aC:=by kernel_rfl
theorem F.aC:Tryz.prog.funcs[N.aC]? = QB Tryz.f99:=Tryz.func99
abbrev N.cY:Nat:=109
def L.cY:LFn:=by apply(fun{b:LFn}(_:b=⟨[],.reg QG (l [8,9,10,11,12,13] [] [(8,t 1),(13,g 0 (e 0 (.un .nilPtr (t 0))))] (.call ⟨.value (.func 55),#[a 8,a 13,.const (Qy Qz 8191)],#[3,3,3]⟩) 4 14 (.loud [15,16] [] [(14,t 14),(15,t 2),(16,t 3)] QC [] QG (.call ⟨.value (.func 54),#[a 14,.const (Qy Qz 11),a 15,a 16],#[4,38,3,3]⟩) 0 (QB 17) QG z))⟩)=>b);simp only[sh];rfl
theorem E.cY:aI QH Tryz.f109=QB L.cY:=by kernel_rfl
theorem F.cY:Tryz.prog.funcs[N.cY]? = QB Tryz.f109:=Tryz.func109
abbrev N.da:Nat:=110
def L.da:LFn:=by apply(fun{b:LFn}(_:b=⟨[],q [.reg QG (l [11,12,13,14,15] [] [(14,g 2 (.un .nilPtr (t 0))),(15,t 1)] (.lookup 125 (a 14) (a 15) QF) 158 16 (l [10,17,18] [(17,.un (.ext 0) (t 16)),(18,.un (.ext 1) (t 16))] [] (.alloc 157) 0 8 (s [] [] (w [8,17]) (.store 157 (a 8) (a 17)) (.fin [9] [(9,t 18)] [])))),.reg QG (.loud [19,20,21,22] [] [(20,.un .not (t 9)),(21,t 2),(22,t 3)] QC [] QG (.call ⟨.value (.func 54),#[a 20,.const (Qy Qz 12),a 21,a 22],#[4,38,3,3]⟩) 0 (QB 23) QG z),.reg QG (l [24,25,26,27,28,29,30] [(27,g 2 (.un .nilPtr (t 0))),(28,t 1)] [(29,t 2),(30,t 3)] (.build 157 #[(0,a 29),(1,a 30)]) 157 31 (s [] [] (w [27,28,31]) (.mapUpdate 125 (a 27) (a 28) (a 31)) z))]⟩)=>b);simp only[sh];rfl
theorem E.da:aI QH Tryz.f110=QB L.da:=by kernel_rfl
theorem F.da:Tryz.prog.funcs[N.da]? = QB Tryz.f110:=Tryz.func110
abbrev N.bW:Nat:=111
def L.bW.l1:LC:=by apply(fun{b:LC}(_:b=q [k [17] [(17,j .lss (t 16) (t 15))],u 17 .skip (.exit 0),.block 1 (q [k [18,19,7] [(7,d (i 1 (t 14) (t 16)))],k [20,21,22,23,24] [(24,.un .not (d (i 1 (d (t 1)) (t 7))))],u 24 (.reg QG (.loud [25,26] [] [(25,d (t 3)),(26,t 7)] QC [] QG (.call ⟨.value (a 25),#[a 26],#[3]⟩) 0 (QB 27) QG z)) .skip]),k [28,16] [(16,o (t 16) (c 1))]])=>b);simp only[sh];rfl
def L.bW:LFn:=by apply(fun{b:LFn}(_:b=⟨[],q [.reg QG (s [8,9,10] [] [(10,i 1 (d (t 1)) (t 0))] (.store 4 (a 10) (.const (.bool QF))) z),q [k [11,12,13,14,15,16] [(14,d (i 1 (d (t 2)) (t 0))),(15,h (d (i 1 (d (t 2)) (t 0)))),(16,c 0)],v 0 L.bW.l1],.reg QG (l [29,30] [(29,d (t 4))] [(30,t 0)] (.buildSlice 22 1 #[(0,a 30)]) 22 31 (p (w [29,31]) (.call ⟨.builtin .append,#[a 29,a 31],#[22,22]⟩) 22 32 (s [] [] (w [4,32]) (.store 22 (a 4) (a 32)) z)))]⟩)=>b);simp only[sh];rfl
theorem E.bW:aI QH Tryz.f111=QB L.bW:=by kernel_rfl
theorem F.bW:Tryz.prog.funcs[N.bW]? = QB Tryz.f111:=Tryz.func111
abbrev N.slices_Index_int:Nat:=113
def L.slices_Index_int.l1:LC:=by apply(fun{b:LC}(_:b=q [k [9] [(9,j .lss (t 8) (t 7))],u 9 .skip (.exit 0),.block 1 (q [k [10,5] [(5,t 8)],k [11,12,13,14,15,16] [(16,j .eql (t 1) (d (i 1 (t 0) (t 5))))],u 16 (q [k [17,4] [(4,t 5)],.ret]) .skip]),k [18,8] [(8,o (t 8) (c 1))]])=>b);simp only[sh];rfl
def L.slices_Index_int:LFn:=by apply(fun{b:LFn}(_:b=⟨[t 4],q [k [4] [(4,c 0)],q [k [6,7,8] [(7,h (t 0)),(8,c 0)],v 0 L.slices_Index_int.l1],k [4] [(4,c (-1))],.ret]⟩)=>b);simp only[sh];rfl
theorem E.slices_Index_int:aI QH Tryz.f113=QB L.slices_Index_int:=by kernel_rfl
theorem F.slices_Index_int:Tryz.prog.funcs[N.slices_Index_int]? = QB Tryz.f113:=Tryz.func113
abbrev N.dC:Nat:=114
def L.dC.l1:LC:=by apply(fun{b:LC}(_:b=.block 1 (.block 2 (q [.reg QF (.fin [10,11,12,13,14,15,16,17,18,9] [(9,j .gtr (d (i 1 (t 1) (t 2))) (d (i 1 (t 1) (t 3))))] []),u 9 (k [19,20,21,22,2] [(2,d (i 1 (t 0) (t 2)))]) (q [.reg QF (.fin [24,25,26,27,28,29,30,31,32,23] [(23,j .gtr (d (i 1 (t 1) (t 3))) (d (i 1 (t 1) (t 2))))] []),u 23 (k [33,34,35,36,3] [(3,d (i 1 (t 0) (t 3)))]) (.exit 0)])])))=>b);simp only[sh];rfl
def L.dC:LFn:=by apply(fun{b:LFn}(_:b=⟨[t 8],q [k [8] [(8,c 0)],.skip,v 0 L.dC.l1,k [37,8] [(8,t 2)],.ret]⟩)=>b);simp only[sh];rfl
theorem E.dC:aI QH Tryz.f114=QB L.dC:=by kernel_rfl
theorem F.dC:Tryz.prog.funcs[N.dC]? = QB Tryz.f114:=Tryz.func114
abbrev N.cE:Nat:=115
def L.cE:LFn:=by apply(fun{b:LFn}(_:b=⟨[t 3],q [k [3] [(3,.con (.bool QG))],k [4,5,6,7,8,9,10,11,3] [(3,.ite (j .geq (t 0) (c 0)) (j .lss (t 0) (h (d (t 1)))) (.con (.bool QG)))],.ret]⟩)=>b);simp only[sh];rfl
theorem E.cE:aI QH Tryz.f115=QB L.cE:=by kernel_rfl
theorem F.cE:Tryz.prog.funcs[N.cE]? = QB Tryz.f115:=Tryz.func115
end
variable{po:OP}
theorem JW{P:Program}{t ty rt:TypeId}{us:List (Nat × Value)}{h:Heap}{K:Value->Heap->Prop}{x y:Operand}{k k2:IntKind}{a:Int}{n:Nat}(hx:asg us x = .int k a)(hy:asg us y = .int k2 n)(hn:n<k.bits)(hk:K (.int k (k.wrap (a*2 ^ n))) h):step P (.binOp .shl t x y rt) ty us h K:=by refine cH (bN λw hw=>⟨.int k (k.wrap (a*2 ^ n)),w,?_,Same.refl _,by rw[hw];exact hk⟩);simp only[bg,execOp,hx,hy];have e:min n k.bits=n:=N7 (Nat.le_of_lt hn);simp[eqGuard,binOp,Op.shift,e];omega
theorem BS{P:Program}{t ty rt:TypeId}{us:List (Nat × Value)}{h:Heap}{K:Value->Heap->Prop}{x y:Operand}{k k2:IntKind}{a:Int}{n:Nat}(hx:asg us x = .int k a)(hy:asg us y = .int k2 n)(hn:n<k.bits)(hk:K (.int k (a.fdiv (2 ^ n))) h):step P (.binOp .shr t x y rt) ty us h K:=by refine cH (bN λw hw=>⟨.int k (a.fdiv (2 ^ n)),w,?_,Same.refl _,by rw[hw];exact hk⟩);simp only[bg,execOp,hx,hy];have e:min n k.bits=n:=N7 (Nat.le_of_lt hn);simp[eqGuard,binOp,Op.shift,e];omega
end Go.Lft
namespace Go.Lft
instance:Inhabited I32:=⟨⟨0⟩⟩
def bitW(op:BinOp)(a b:Int):Int:=(Ds .i32 op a b).getD 0
def jM(a b:Int)(n:Nat):Nat->Int
 | 2=>IntKind.i32.wrap (a+b)
 | 3=>IntKind.i32.wrap (a-b)
 | 4=>IntKind.i32.wrap (a*b)
 | 5=>bitW .and a b
 | 6=>bitW .or a b
 | 7=>bitW .xor a b
 | 8=>IntKind.i32.wrap (a*2 ^ n)
 | 9=>IntKind.i32.wrap ((IntKind.u32.wrap a).fdiv (2 ^ n))
 | 10=>a.fdiv (2 ^ n)
 | 11=>if a=b then 1 else 0
 | 12=>if a<b then 1 else 0
 | 13=>if IntKind.u32.wrap a<IntKind.u32.wrap b then 1 else 0
 | _=>IntKind.i32.wrap (a.tdiv b)
section
variable{h:Heap}{A B:Nat}{a b:Int}{n:Nat}
theorem B7{x:Bool}:aw QH N.kv #[.bool x] h (λu h'=>h'=h/\u = Qy QA (if x then 1 else 0)):=by refine ak (args:=[.bool x]) follows F.kv E.kv Q9 λK hK=>?_;dsimp only[L.kv];cases x<;>simp<;>exact hK _ _ ⟨rfl,rfl⟩
theorem GY{op:BinOp}(ho:op = .and\/op = .or\/op = .xor):Bn.ev (.bits op) (Qy QA a) (Qy QA b)=QB (Qy QA (bitW op a b)):=by rcases ho with rfl | rfl | rfl<;>simp[Bn.ev,i2,vI,Ds,bitW]
theorem Ko(ha:aj (vw h) ⟨A,0,QC⟩=QB (Qy QA a))(hb:aj (vw h) ⟨B,0,QC⟩=QB (Qy QA b)):aw QH N.gD #[QT A,QT B] h (λu h'=>h'=h/\u = Qy QA (jM a b n 2)):=by refine ak (args:=[QT A,QT B]) follows F.gD E.gD Q9 λK hK=>?_;dsimp only[L.gD];simp[ha,hb];exact hK _ _ ⟨rfl,rfl⟩
theorem KK(ha:aj (vw h) ⟨A,0,QC⟩=QB (Qy QA a))(hb:aj (vw h) ⟨B,0,QC⟩=QB (Qy QA b)):aw QH N.gN #[QT A,QT B] h (λu h'=>h'=h/\u = Qy QA (jM a b n 3)):=by refine ak (args:=[QT A,QT B]) follows F.gN E.gN Q9 λK hK=>?_;dsimp only[L.gN];simp[ha,hb];exact hK _ _ ⟨rfl,rfl⟩
theorem KM(ha:aj (vw h) ⟨A,0,QC⟩=QB (Qy QA a))(hb:aj (vw h) ⟨B,0,QC⟩=QB (Qy QA b)):aw QH N.gC #[QT A,QT B] h (λu h'=>h'=h/\u = Qy QA (jM a b n 4)):=by refine ak (args:=[QT A,QT B]) follows F.gC E.gC Q9 λK hK=>?_;dsimp only[L.gC];simp[ha,hb];exact hK _ _ ⟨rfl,rfl⟩
theorem KD(ha:aj (vw h) ⟨A,0,QC⟩=QB (Qy QA a))(hb:aj (vw h) ⟨B,0,QC⟩=QB (Qy QA b)):aw QH N.gO #[QT A,QT B] h (λu h'=>h'=h/\u = Qy QA (jM a b n 5)):=by refine ak (args:=[QT A,QT B]) follows F.gO E.gO Q9 λK hK=>?_;dsimp only[L.gO];simp[ha,hb,GY (a:=a) (b:=b) (op:=.and) Sb];exact hK _ _ ⟨rfl,rfl⟩
theorem KB(ha:aj (vw h) ⟨A,0,QC⟩=QB (Qy QA a))(hb:aj (vw h) ⟨B,0,QC⟩=QB (Qy QA b)):aw QH N.gH #[QT A,QT B] h (λu h'=>h'=h/\u = Qy QA (jM a b n 6)):=by refine ak (args:=[QT A,QT B]) follows F.gH E.gH Q9 λK hK=>?_;dsimp only[L.gH];simp[ha,hb,GY (a:=a) (b:=b) (op:=.or) Sb];exact hK _ _ ⟨rfl,rfl⟩
theorem Ke(ha:aj (vw h) ⟨A,0,QC⟩=QB (Qy QA a))(hb:aj (vw h) ⟨B,0,QC⟩=QB (Qy QA b)):aw QH N.gI #[QT A,QT B] h (λu h'=>h'=h/\u = Qy QA (jM a b n 7)):=by refine ak (args:=[QT A,QT B]) follows F.gI E.gI Q9 λK hK=>?_;dsimp only[L.gI];simp[ha,hb,GY (a:=a) (b:=b) (op:=.xor) Sb];exact hK _ _ ⟨rfl,rfl⟩
theorem KY(ha:aj (vw h) ⟨A,0,QC⟩=QB (Qy QA a))(hb:aj (vw h) ⟨B,0,QC⟩=QB (.int .u32 n))(hn:n<32):aw QH N.gQ #[QT A,QT B] h (λu h'=>h'=h/\u = Qy QA (jM a b n 8)):=by refine ak (args:=[QT A,QT B]) follows F.gQ E.gQ Q9 λK hK=>?_;dsimp only[L.gQ];simp[ha,hb];refine JW (k:=.i32) (k2:=.u32) (a:=a) (n:=n) rfl rfl hn ?_;exact hK _ _ ⟨rfl,rfl⟩
theorem Km(ha:aj (vw h) ⟨A,0,QC⟩=QB (Qy QA a))(hb:aj (vw h) ⟨B,0,QC⟩=QB (.int .u32 n))(hn:n<32):aw QH N.gK #[QT A,QT B] h (λu h'=>h'=h/\u = Qy QA (jM a b n 9)):=by refine ak (args:=[QT A,QT B]) follows F.gK E.gK Q9 λK hK=>?_;dsimp only[L.gK];simp[ha,hb];refine BS (k:=.u32) (k2:=.u32) (a:=IntKind.u32.wrap a) (n:=n) rfl rfl hn ?_;simp;exact hK _ _ ⟨rfl,rfl⟩
theorem Kd(ha:aj (vw h) ⟨A,0,QC⟩=QB (Qy QA a))(hb:aj (vw h) ⟨B,0,QC⟩=QB (.int .u32 n))(hn:n<32):aw QH N.gM #[QT A,QT B] h (λu h'=>h'=h/\u = Qy QA (jM a b n 10)):=by refine ak (args:=[QT A,QT B]) follows F.gM E.gM Q9 λK hK=>?_;dsimp only[L.gM];simp[ha,hb];refine BS (k:=.i32) (k2:=.u32) (a:=a) (n:=n) rfl rfl hn ?_;exact hK _ _ ⟨rfl,rfl⟩
theorem IM(ha:aj (vw h) ⟨A,0,QC⟩=QB (Qy QA a))(hb:aj (vw h) ⟨B,0,QC⟩=QB (Qy QA b)):aw QH N.fq #[QT A,QT B] h (λu h'=>h'=h/\u = Qy QA (jM a b n 11)):=by refine ak (args:=[QT A,QT B]) follows F.fq E.fq Q9 λK hK=>?_;dsimp only[L.fq];simp[ha,hb];refine ag Q0 B7 ?_;rintro _ _ ⟨rfl,rfl⟩;refine hK _ _ ⟨rfl,?_⟩;simp[jM]
theorem IE(ha:aj (vw h) ⟨A,0,QC⟩=QB (Qy QA a))(hb:aj (vw h) ⟨B,0,QC⟩=QB (Qy QA b)):aw QH N.fm #[QT A,QT B] h (λu h'=>h'=h/\u = Qy QA (jM a b n 12)):=by refine ak (args:=[QT A,QT B]) follows F.fm E.fm Q9 λK hK=>?_;dsimp only[L.fm];simp[ha,hb];refine ag Q0 B7 ?_;rintro _ _ ⟨rfl,rfl⟩;refine hK _ _ ⟨rfl,?_⟩;simp[jM]
theorem Ig(ha:aj (vw h) ⟨A,0,QC⟩=QB (Qy QA a))(hb:aj (vw h) ⟨B,0,QC⟩=QB (Qy QA b)):aw QH N.fA #[QT A,QT B] h (λu h'=>h'=h/\u = Qy QA (jM a b n 13)):=by refine ak (args:=[QT A,QT B]) follows F.fA E.fA Q9 λK hK=>?_;dsimp only[L.fA];simp[ha,hb];refine ag Q0 B7 ?_;rintro _ _ ⟨rfl,rfl⟩;refine hK _ _ ⟨rfl,?_⟩;simp[jM]
theorem Jf(ha:aj (vw h) ⟨A,0,QC⟩=QB (Qy QA a))(hb:aj (vw h) ⟨B,0,QC⟩=QB (Qy QA b))(h0:b≠0):aw QH N.fB #[QT A,QT B] h (λu h'=>h'=h/\u = Qy QA (jM a b n 14)):=by
 refine ak (args:=[QT A,QT B]) follows F.fB E.fB Q9 λK hK=>?_;dsimp only[L.fB];have e:Bn.ev (.div .quo) (Qy QA a) (Qy QA b)=QB (Qy QA (IntKind.i32.wrap (a.tdiv b))):=by simp[Bn.ev,i2,vI,divI,h0]
 simp[ha,hb,e];exact hK _ _ ⟨rfl,rfl⟩
end
def opF(A B D:Nat):Nat->Value
 | 2=>.func (.func N.gD) #[] #[QE (QB ⟨A,0,QC⟩),QE (QB ⟨B,0,QC⟩)]
 | 3=>.func (.func N.gN) #[] #[QE (QB ⟨A,0,QC⟩),QE (QB ⟨B,0,QC⟩)]
 | 4=>.func (.func N.gC) #[] #[QE (QB ⟨A,0,QC⟩),QE (QB ⟨B,0,QC⟩)]
 | 5=>.func (.func N.gO) #[] #[QE (QB ⟨A,0,QC⟩),QE (QB ⟨B,0,QC⟩)]
 | 6=>.func (.func N.gH) #[] #[QE (QB ⟨A,0,QC⟩),QE (QB ⟨B,0,QC⟩)]
 | 7=>.func (.func N.gI) #[] #[QE (QB ⟨A,0,QC⟩),QE (QB ⟨B,0,QC⟩)]
 | 8=>.func (.func N.gQ) #[] #[QE (QB ⟨A,0,QC⟩),QE (QB ⟨D,0,QC⟩)]
 | 9=>.func (.func N.gK) #[] #[QE (QB ⟨A,0,QC⟩),QE (QB ⟨D,0,QC⟩)]
 | 10=>.func (.func N.gM) #[] #[QE (QB ⟨A,0,QC⟩),QE (QB ⟨D,0,QC⟩)]
 | 11=>.func (.func N.fq) #[] #[QE (QB ⟨A,0,QC⟩),QE (QB ⟨B,0,QC⟩)]
 | 12=>.func (.func N.fm) #[] #[QE (QB ⟨A,0,QC⟩),QE (QB ⟨B,0,QC⟩)]
 | 13=>.func (.func N.fA) #[] #[QE (QB ⟨A,0,QC⟩),QE (QB ⟨B,0,QC⟩)]
 | _=>.func (.func N.fB) #[] #[QE (QB ⟨A,0,QC⟩),QE (QB ⟨B,0,QC⟩)]
def opM(A B D k:Nat):Value->Option Value
 | Qy Qz j=>if 2<=j/\j<k then QB (opF A B D j.toNat) else QC
 | _=>QC
section
variable{po:OP}{A B D k r:Nat}{h:Heap}{us:List (Nat × Value)}{ty:TypeId}{K:Value->Heap->Prop}{x y:Operand}
theorem GV:opM A B D 2=λ_=>none:=by
 funext v;unfold opM;split
 ·rw[if_neg Q1]
 rfl
theorem kI{j:Int}(hj:j=k)(hk:2<=k)(m:dI (.int .i64) h r (opM A B D k))(hx:asg us x = .map (QB r))(hy:asg us y=opF A B D k)
  (hK : ∀h':Heap,h'.size=h.size->(∀b,b≠r->h'[b]? = h[b]?)->dI (.int .i64) h' r (opM A B D (k+1))->K undef h'):Lft.step QH (.insert T.pb x (.const (Qy Qz j)) y) ty us h K:=by
 subst hj;refine nD (.inr rfl) (t:=T.pb) (k:=T.int) (e:=T.Bh) (u:=Qy Qz k) Q0 Q0 hx rfl hy gu m (opM A B D (k+1)) ?_ ?_ hK
 ·show(if 2<=(k:Int)/\(k:Int)<((k+1:Nat):Int) then QB (opF A B D (k:Int).toNat) else QC)=_;rw[if_pos Q1];rfl
 intro v hv;unfold opM;split
 ·rename_i q;have hq:q≠k:=λe=>hv (by rw[e]);by_cases c:2<=q/\q<(k:Int)
  ·rw[if_pos Q1,if_pos c]
  rw[if_neg Q1,if_neg c]
 rfl
end
def doOk(op b:Int):Bool:=decide (2<=op)&&decide (op<=14)&&!(decide (op=14)&&decide (b=0))
def wdoS(op a b:Int):Int:=if doOk op b then jM a b ((IntKind.u32.wrap b).tmod 32).toNat op.toNat else 0
theorem Fk{op a b:Int}{h:Heap}:aw QH N.lN #[Qy Qz op,Qy QA a,Qy QA b] h (λu h'=>u = .tuple #[Qy QA (wdoS op a b),.bool (doOk op b)]/\(vw h).le (vw h')):=by
 refine ak (args:=[Qy Qz op,Qy QA a,Qy QA b]) follows F.lN E.lN Q9 λKc hK=>?_;dsimp only[L.lN];refine ab λz hz=>?_;simp;refine my (v:=Qy QA a) rfl ?_;have q1:=bA h (.cells (Qy QA a).cells T.int32);have c1:aj (vw (h.push (.cells (Qy QA a).cells T.int32))) ⟨h.size,0,QC⟩=QB (Qy QA a):=by simp[aj,vw,Value.cells]
 generalize h.push (.cells (Qy QA a).cells T.int32)=h1 at q1 c1;generalize h.size=A at c1;refine my (v:=Qy QA b) rfl ?_;have q2:=bA h1 (.cells (Qy QA b).cells T.int32);have c2:aj (vw (h1.push (.cells (Qy QA b).cells T.int32))) ⟨h1.size,0,QC⟩=QB (Qy QA b):=by simp[aj,vw,Value.cells]
 have c1:=ae q2 c1;generalize h1.push (.cells (Qy QA b).cells T.int32)=h2 at q2 c1 c2;generalize h1.size=B at c2;have hn0:0<=(IntKind.u32.wrap b).tmod 32:=Qp _ (by unfold IntKind.wrap;simp[IntKind.signed];omega);have hn1:(IntKind.u32.wrap b).tmod 32<32:=O8 _ Q2;obtain⟨n,hn⟩ : ∃n:Nat,n=((IntKind.u32.wrap b).tmod 32).toNat:=⟨_,rfl⟩;have en:(IntKind.u32.wrap b).tmod 32=(n:Int):=by omega
 have e3:Bn.ev (.div .rem) (.int .u32 (IntKind.u32.wrap b)) (.int .u32 32)=QB (.int .u32 n):=by rw[<-en];simp[Bn.ev,i2,vI,divI]
 subst hz;refine ab λz hz=>?_;simp[c2,e3];refine j6 (n:=1) (z:=.int .u32 0) (v:=.int .u32 n) Q0 rfl Q0 rfl (by intro c hc;simp[Value.cells]at hc;subst hc;rfl) Q4 Q4 λh3 q3 hs3 hb3=>?_;have c3:aj (vw h3) ⟨h2.size,0,QC⟩=QB (.int .u32 n):=by simp[aj,vw,hb3,Value.cells]
 have c1:=ae q3 c1;have c2:=ae q3 c2;generalize h2.size=D at c3;subst hz;refine ab λz hz=>?_;simp;refine kE ?_;have m2:dI (.int .i64) (h3.push (.map #[] 0)) h3.size (opM A B D 2):=by rw[GV];exact dI.none Sb
 have q4:=bA h3 (.map #[] 0);have c1':=c1;have c2':=c2;have c3':=c3;generalize h3.push (.map #[] 0)=g2 at q4 m2;obtain⟨r,hr⟩ : ∃r,r=h3.size:=⟨_,rfl⟩;rw[<-hr]at m2 ⊢;refine kI (A:=A) (B:=B) (D:=D) (k:=2) (r:=r) Ri Q2 m2 Ri Ri λg3 s3 o3 m3=>?_;refine kI (A:=A) (B:=B) (D:=D) (k:=3) (r:=r) Ri Q2 m3 Ri Ri λg4 s4 o4 m4=>?_;refine kI (A:=A) (B:=B) (D:=D) (k:=4) (r:=r) Ri Q2 m4 Ri Ri λg5 s5 o5 m5=>?_;refine kI (A:=A) (B:=B) (D:=D) (k:=5) (r:=r) Ri Q2 m5 Ri Ri λg6 s6 o6 m6=>?_;refine kI (A:=A) (B:=B) (D:=D) (k:=6) (r:=r) Ri Q2 m6 Ri Ri λg7 s7 o7 m7=>?_;refine kI (A:=A) (B:=B) (D:=D) (k:=7) (r:=r) Ri Q2 m7 Ri Ri λg8 s8 o8 m8=>?_;refine kI (A:=A) (B:=B) (D:=D) (k:=8) (r:=r) Ri Q2 m8 Ri Ri λg9 s9 o9 m9=>?_;refine kI (A:=A) (B:=B) (D:=D) (k:=9) (r:=r) Ri Q2 m9 Ri Ri λg10 s10 o10 m10=>?_;refine kI (A:=A) (B:=B) (D:=D) (k:=10) (r:=r) Ri Q2 m10 Ri Ri λg11 s11 o11 m11=>?_;refine kI (A:=A) (B:=B) (D:=D) (k:=11) (r:=r) Ri Q2 m11 Ri Ri λg12 s12 o12 m12=>?_;refine kI (A:=A) (B:=B) (D:=D) (k:=12) (r:=r) Ri Q2 m12 Ri Ri λg13 s13 o13 m13=>?_;refine kI (A:=A) (B:=B) (D:=D) (k:=13) (r:=r) Ri Q2 m13 Ri Ri λg14 s14 o14 m14=>?_;refine kI (A:=A) (B:=B) (D:=D) (k:=14) (r:=r) Ri Q2 m14 Ri Ri λg15 s15 o15 m15=>?_;have old : ∀b,b≠r->g15[b]? = g2[b]?:=λb hb=>by rw[o15 b hb,o14 b hb,o13 b hb,o12 b hb,o11 b hb,o10 b hb,o9 b hb,o8 b hb,o7 b hb,o6 b hb,o5 b hb,o4 b hb,o3 b hb]
 have hsz:g15.size=g2.size:=by rw[s15,s14,s13,s12,s11,s10,s9,s8,s7,s6,s5,s4,s3]
 have old3:(vw h3).le (vw g15):=λb o hb=>by have hlt:b<h3.size:=(M7.1 (show h3[b]? = QB o from hb)).1;have:g15[b]? = g2[b]?:=old b Q1;show g15[b]? = QB o;rw[this];exact q4 b o hb
 have c1:=ae old3 c1';have c2:=ae old3 c2';have c3:=ae old3 c3';clear o3 o4 o5 o6 o7 o8 o9 o10 o11 o12 o13 o14 o15 s3 s4 s5 s6 s7 s8 s9 s10 s11 s12 s13 s14 s15 m2 m3 m4 m5 m6 m7 m8 m9 m10 m11 m12 m13 m14;refine tK (f:=opM A B D 15) (z:=.nilFunc) (k:=T.int) (e:=T.Bh) (d:=.int .i64) (r:=r) (u:=Qy Qz op) Q0 Q0 Q0 rfl rfl gu m15 ?_;obtain⟨fv,hfv⟩ : ∃fv,fv=(opM A B D 15 (Qy Qz op)).getD .nilFunc:=⟨_,rfl⟩;rw[<-hfv];subst hz;refine ab λz hz=>?_;simp;by_cases hop:2<=op/\op<=14
 ·obtain⟨i,hi⟩ : ∃i:Nat,i=op.toNat:=⟨_,rfl⟩;obtain rfl:op=(i:Int):=by omega
  have hfv:fv=opF A B D i:=by rw[hfv];show((if 2<=(i:Int)/\(i:Int)<((15:Nat):Int) then QB (opF A B D (i:Int).toNat) else QC):Option Value).getD _=_;rw[if_pos Q1];rfl
  have hnn:xy fv=false:=by rw[hfv];unfold opF;split<;>rfl
  refine Di (v:=fv) (ps:=#[]) (rs:=#[T.int32]) (vr:=false) Q0 (by rw[hfv];unfold opF;split<;>rfl) rfl rfl ?_;rw[hnn];simp[c2];have qq:=Qx q1 (Qx q2 (Qx q3 old3));by_cases c:(i:Int)=14/\b=0
  ·have hd:doOk (i:Int) b=false:=by unfold doOk;rw[c.1,c.2];rfl
   simp[c.1,c.2];refine hK _ _ ⟨by unfold wdoS;rw[hd];rfl,qq⟩
  have hd:doOk (i:Int) b=true:=by unfold doOk;simp;omega
  have hc:(decide ((i:Int)=14)&&decide (b=0))=false:=by simpa using c
  rw[hc];have hv:wdoS (i:Int) a b=jM a b n i:=by unfold wdoS;rw[hd,if_pos rfl,hn];rfl
  simp;subst hz;have fin : ∀(v:Value) (h':Heap),(h'=g15/\v = Qy QA (jM a b n i))->Kc (.tuple #[v,.bool QF]) h':=by rintro _ _ ⟨rfl,rfl⟩;exact hK _ _ ⟨by rw[hv,hd],qq⟩
  simp;have hi2:i=2\/i=3\/i=4\/i=5\/i=6\/i=7\/i=8\/i=9\/i=10\/i=11\/i=12\/i=13\/i=14:=by omega
  have hn32:n<32:=by omega
  rcases hi2 with rfl | rfl | rfl | rfl | rfl | rfl | rfl | rfl | rfl | rfl | rfl | rfl | rfl
  ·exact cJ (f:=N.gD) (ops:=[]) (by rw[hfv];rfl) Q0 (Ko c1 c2) fin
  ·exact cJ (f:=N.gN) (ops:=[]) (by rw[hfv];rfl) Q0 (KK c1 c2) fin
  ·exact cJ (f:=N.gC) (ops:=[]) (by rw[hfv];rfl) Q0 (KM c1 c2) fin
  ·exact cJ (f:=N.gO) (ops:=[]) (by rw[hfv];rfl) Q0 (KD c1 c2) fin
  ·exact cJ (f:=N.gH) (ops:=[]) (by rw[hfv];rfl) Q0 (KB c1 c2) fin
  ·exact cJ (f:=N.gI) (ops:=[]) (by rw[hfv];rfl) Q0 (Ke c1 c2) fin
  ·exact cJ (f:=N.gQ) (ops:=[]) (by rw[hfv];rfl) Q0 (KY c1 c3 hn32) fin
  ·exact cJ (f:=N.gK) (ops:=[]) (by rw[hfv];rfl) Q0 (Km c1 c3 hn32) fin
  ·exact cJ (f:=N.gM) (ops:=[]) (by rw[hfv];rfl) Q0 (Kd c1 c3 hn32) fin
  ·exact cJ (f:=N.fq) (ops:=[]) (by rw[hfv];rfl) Q0 (IM c1 c2) fin
  ·exact cJ (f:=N.fm) (ops:=[]) (by rw[hfv];rfl) Q0 (IE c1 c2) fin
  ·exact cJ (f:=N.fA) (ops:=[]) (by rw[hfv];rfl) Q0 (Ig c1 c2) fin
  exact cJ (f:=N.fB) (ops:=[]) (by rw[hfv];rfl) Q0 (Jf c1 c2 (λe=>c ⟨rfl,e⟩)) fin
 have hfv:fv = .nilFunc:=by rw[hfv];show((if 2<=op/\op<((15:Nat):Int) then QB (opF A B D op.toNat) else QC):Option Value).getD _=_;rw[if_neg Q1];rfl
 subst hfv;refine Di (v:=.nilFunc) (ps:=#[]) (rs:=#[T.int32]) (vr:=false) Q0 rfl rfl rfl ?_;have hd:doOk op b=false:=by unfold doOk;simp;omega
 simp[xy];refine hK _ _ ⟨by unfold wdoS;rw[hd];rfl,Qx q1 (Qx q2 (Qx q3 old3))⟩
def wW(a b:Int):Int:=IntKind.i64.wrap (IntKind.i64.wrap a*IntKind.i64.wrap b)
theorem Az{a b:Int}{h:Heap}:aw QH N.ji #[Qy QA a,Qy QA b] h (λu h'=>h'=h/\u = .tuple #[Qy QA (IntKind.i32.wrap (wW a b)),Qy QA (IntKind.i32.wrap ((wW a b).fdiv (2 ^ 32)))]):=by refine ak (args:=[Qy QA a,Qy QA b]) follows F.ji E.ji Q9 λKc hK=>?_;dsimp only[L.ji];simp;refine BS (k:=.i64) (k2:=.u64) (a:=wW a b) (n:=32) rfl rfl Q2 ?_;simp;exact hK _ _ ⟨rfl,rfl⟩
def jt(m:List I32)(at_:Int):Bool:=decide (0<=at_)&&decide (at_<m.length)
def qJ(m:List I32)(at_:Int):Int:=if jt m at_ then(nth m at_.toNat).v else 0
theorem C7{m:List I32}{v:Value}{a:Int}{h:Heap}(hm:SlRd (vw h) v m)(ha:-2147483648<=a/\a<=2147483647):aw QH N.fM #[v,Qy QA a] h (λu h'=>h'=h/\u = .tuple #[Qy QA (qJ m a),.bool (jt m a)]):=by
 refine ak (args:=[v,Qy QA a]) follows F.fM E.fM Q9 λKc hK=>?_;dsimp only[L.fM];have hb:=hm.bound;have w:IntKind.i64.wrap a=a:=bu Q1 Q1;refine ab λz hz=>?_;simp;subst hz;refine ab λz hz=>?_;by_cases c:0<=a/\a<m.length
 ·have hi:jt m a=true:=by unfold jt;simp;exact c
  have hlt:a.toNat<m.length:=by omega
  have hat:=(hm.at hlt).i32;rw[show a.toNat*Rep.n I32=a.toNat from NN _]at hat;have hix:=hm.idx1 rfl (k:=.i32) (i:=a) c.1 c.2;have e:qJ m a=m[a.toNat].v:=by unfold qJ;rw[hi,if_pos rfl,ao hlt]
  simp[hm.len,w,show ¬a<0 by omega,show ¬(m.length:Int)<=a by omega];subst hz;simp[hix,hat];exact hK _ _ ⟨rfl,by rw[e,hi]⟩
 have hi:jt m a=false:=by unfold jt;simp;omega
 have e:qJ m a=0:=by unfold qJ;rw[hi];rfl
 have hd:(decide (a<0)||decide ((m.length:Int)<=a))=true:=by simp;omega
 simp[hm.len,w,hd];exact hK _ _ ⟨rfl,by rw[e,hi]⟩
theorem Fv{m:List I32}{vm:Value}{a:Int}{x:I32}{h:Heap}{W:View}{o:Own}{k:Key}(w:Owns W h o)(hk:o k=it T.int32 vm m)(ha:-2147483648<=a/\a<=2147483647)(hx:-2147483648<=x.v/\x.v<=2147483647):
  aw QH N.eY #[vm,Qy QA a,Qy QA x.v] h (λu h'=>u = .bool (jt m a)/\Owns W h' (o.upd k (it T.int32 vm (if jt m a then m.set a.toNat x else m)))):=by
 refine ak (args:=[vm,Qy QA a,Qy QA x.v]) follows F.eY E.eY Q9 λKc hK=>?_;dsimp only[L.eY];have hm:=w.now hk;refine ab λz hz=>?_;simp;subst hz;refine ab λz hz=>?_;simp;refine ag Q0 (C7 hm ha) ?_;rintro _ _ ⟨rfl,rfl⟩;simp;subst hz;by_cases c:jt m a=QF
 ·have c2:0<=a/\a<m.length:=by unfold jt at c;simpa using c
  have hix:=hm.idx1 rfl (k:=.i32) (i:=a) c2.1 c2.2;rw[c,if_pos rfl]at hK;rw[c];refine ab λz hz=>?_;simp[hix];refine w.oT (i:=a.toNat) (d:=x) hk Q0 (by simp[show Rep.n I32=1 from rfl]) rfl Q1 (oL.2 ⟨rfl,hx⟩) λh2 w2 _=>?_;subst hz;simp;exact hK _ _ ⟨rfl,w2⟩
 have c2:jt m a=false:=by simpa using c
 simp[c2]at hK ⊢;refine hK _ _ rfl (w.congr λq=>?_);unfold Own.upd;split
 ·rename_i e;rw[e,hk]
 rfl
abbrev Gr:=List (List Int)
def gX(g:Gr)(a b:Int):Bool:=decide (0<=a/\a<g.length/\0<=b/\b<g.length)&&(nth g a.toNat).contains b
def fg(g:Gr)(a:Int):List Int:=sift (λb=>gX g a b) (λb=>(b:Int)) g.length
def kG(g:Gr):Gr:=rows (λb=>sift (λa=>gX g a b) (λa=>(a:Int)) g.length) g.length
def ve(gone:Int)(l:List Int)(i:Nat)(out:List Bool):List Bool:=out.set (nth l i).toNat (nth out (nth l i).toNat||decide (nth l i≠gone))
def outBlock(g:Gr)(gone:Int)(a:Nat)(out:List Bool):List Bool:=if nth out a then up (ve gone (fg g a)) (fg g a).length out else out
def nu(g:Gr)(gone:Int)(out:List Bool):List Bool:=up (outBlock g gone) g.length out
def nF(g:Gr)(gone:Int):List Bool:=
 if g.length=0\/gone=0 then List.replicate g.length QG else up (λ_=>nu g gone) g.length ((List.replicate g.length QG).set 0 QF)
theorem zt{β γ:Type}(m:β->γ){f:Nat->β->β}(hf : ∀k x,m (f k x)=m x)(n:Nat)(x:β):m (up f n x)=m x:=by
 induction n with
 | zero=>rfl
 | succ n ih=>rw[up,hf,ih]
def domC(g:Gr)(a b:Nat):Bool:=nth (nF g (-1)) a&&nth (nF g (-1)) b&&(decide ((a:Int)=(b:Int))||!nth (nF g a) b)
def pT(l:List Int)(a:Int):Nat->Int->Bool
 | 0,_=>QG
 | k+1,b=>if b=a then QF else if b<0\/(l.length:Int)<=b then QG else pT l a k (nth l b.toNat)
def ez(l:List Int)(a b:Int):Bool:=decide (0<=a/\a<l.length/\0<=b/\b<l.length)&&pT l a (l.length+1) b
def De(p:Nat->Bool)(b:Nat)(s:Bool):Bool:=s&&p b
def uw(p:Nat->Bool)(n:Nat):Bool:=up (De p) n QF
theorem xp{p:Nat->Bool}{n:Nat}:uw p (n+1)=(uw p n&&p n):=rfl
def Da(g:Gr)(p:Gr)(a i:Nat):Bool:=decide ((1:Int)<(fg g a).length)&&decide ((1:Int)<(nth p (nth (fg g a) i).toNat).length)
def uX(g:Gr)(p:Gr)(a:Nat):List (Int × Int):=sift (Da g p a) (λi=>((a:Int),nth (fg g a) i)) (fg g a).length
def lP(g:Gr):List (Int × Int):=up (λa l=>l++uX g (kG g) a) g.length []
theorem Cj{g:Gr}:(kG g).length=g.length:=by simp[kG]
theorem EV{g:Gr}{a:Int}:(fg g a).length<=g.length:=lh _
def jS(nx:Int->List Int):Nat->Int->List Bool × List Int->List Bool × List Int
 | 0,_,s=>s
 | n+1,a,s=>let r:=up (λi s=>if nth s.1 (nth (nx a) i).toNat then s else jS nx n (nth (nx a) i) s) (nx a).length (s.1.set a.toNat QF,s.2);(r.1,r.2++[a])
def cy(nx:Int->List Int)(n:Nat)(a:Int)(i:Nat)(s:List Bool × List Int):List Bool × List Int:=if nth s.1 (nth (nx a) i).toNat then s else jS nx n (nth (nx a) i) s
theorem kL{nx:Int->List Int}{n:Nat}{a:Int}{s:List Bool × List Int}:
  jS nx (n+1) a s=((up (cy nx n a) (nx a).length (s.1.set a.toNat QF,s.2)).1,(up (cy nx n a) (nx a).length (s.1.set a.toNat QF,s.2)).2++[a]):=rfl
def df(t:List Bool):Nat:=t.count QG
theorem jL{t:List Bool}{i:Nat}(hi:i<t.length)(hf:nth t i=QG):df (t.set i QF)+1=df t:=by rw[ao hi]at hf;unfold df;rw[List.count_set hi];have hp:0<t.count false:=List.count_pos_iff.2 (hf▸Oi hi);simp[hf];omega
theorem ym{t:List Bool}{i:Nat}:df (t.set i QF)<=df t:=by
 rcases M0 i t.length with hi | hi
 ·unfold df;rw[List.count_set hi];simp
 rw[List.set_eq_of_length_le hi];exact MY _
theorem tP{β:Type}(I:β->Prop){f:Nat->β->β}(hf : ∀k x,I x->I (f k x))(n:Nat)(x:β)(hx:I x):I (up f n x):=by
 induction n with
 | zero=>exact hx
 | succ n ih=>rw[up];exact hf _ _ ih
theorem pR{nx:Int->List Int}{m c:Nat} : ∀(n:Nat) (a:Int) (s:List Bool × List Int),s.1.length=m/\df s.1<=c->(jS nx n a s).1.length=m/\df (jS nx n a s).1<=c
 | 0,_,_,h=>h
 | n+1,a,s,h=>by
  rw[kL];refine tP (λs:List Bool × List Int=>s.1.length=m/\df s.1<=c) (λk x hx=>?_) _ _ ⟨by simpa using h.1,NB ym h.2⟩;unfold cy;split
  ·exact hx
  exact pR n _ x hx
def lE(nx:Int->List Int)(n:Nat):List Int:=if n=0 then[] else(jS nx n 0 (List.replicate n QG,[])).2.reverse
theorem lO{α:Type}[Rep α]{W:View}{h:Heap}{e:TypeId}{v:Value}{l:List α}(o:OwnT W h e v l):v.cells = #[v]/\v.oneCell'=true:=by have:=o.len (K:=nothing);cases v<;>first | exact⟨rfl,rfl⟩ | (simp[Un.ev,vL]at this)
end Go.Lft
namespace Go.Proofs
open Go.Shelf
def Tryz.A7:Go.Shelf.Ren:=⟨fun | 125=>71 | 128=>107 | 129=>108 | n=>n,fun | 46=>142 | 3=>3 | 51=>119 | 53=>172 | 4=>4 | 5=>5 | 9=>9 | n=>n,fun | n=>n⟩
theorem Tryz.HW:Go.Proofs.Lays.n125 QH Tryz.A7:={
 mixed:=by kernel_rfl
 f125:=Tryz.func71.trans (congrArg QB Q0)
 f128:=Tryz.func107.trans (congrArg QB Q0)
 f129:=Tryz.func108.trans (congrArg QB Q0)
 t3:=Tryz.underlying3
 a3:=Tryz.isAgg3
 z3:=Tryz.sizeOf3
 v3:=Tryz.zeroValue3
 t4:=Tryz.underlying4
 a4:=Tryz.isAgg4
 z4:=Tryz.sizeOf4
 v4:=Tryz.zeroValue4
 t5:=Tryz.underlying5
 a5:=Tryz.isAgg5
 z5:=Tryz.sizeOf5
 v5:=Tryz.zeroValue5
 t9:=Tryz.underlying9
 a9:=Tryz.isAgg9
 z9:=Tryz.sizeOf9
 v9:=Tryz.zeroValue9
 t46:=Tryz.underlying142
 a46:=Tryz.isAgg142
 z46:=Tryz.sizeOf142
 v46:=Tryz.zeroValue142
 t51:=Tryz.underlying119
 a51:=Tryz.isAgg119
 z51:=Tryz.sizeOf119
 v51:=Tryz.zeroValue119
 t53:=Tryz.underlying172
 a53:=Tryz.isAgg172
 z53:=Tryz.sizeOf172
 v53:=Tryz.zeroValue172 }
theorem Tryz.bits_Len(x:Int)(w:World)(h0:0<=x)(h1:x<=18446744073709551615) :
  Calls QH 71 #[.int .u64 x] w λe w'=>e = .returned (Qy Qz (Lib.bitLen x.toNat))/\w'=w:=Any.bits_Len Tryz.HW x w h0 h1
def Tryz.A5:Go.Shelf.Ren:=⟨fun | 189=>97 | 125=>71 | 257=>116 | 128=>107 | 129=>108 | 294=>122 | 295=>123 | 296=>124 | 297=>125 | 298=>126 | 299=>127 | 216=>128 | 300=>129 | 301=>130 | 328=>132 | 329=>118 | 330=>119 | 331=>133 | 332=>134 | 215=>135 | 343=>136 | n=>n,fun | 28=>22 | 3=>3 | 46=>142 | 0=>0 | 51=>119 | 53=>172 | 4=>4 | 183=>165 | 182=>164 | 131=>91 | 5=>5 | 9=>9 | 218=>178 | 222=>182 | 228=>187 | 229=>147 | n=>n,fun | n=>n⟩
theorem Tryz.DR:Go.Proofs.Lays.n189 QH Tryz.A5:={
 mixed:=by kernel_rfl
 f125:=Tryz.func71.trans (congrArg QB Q0)
 f128:=Tryz.func107.trans (congrArg QB Q0)
 f129:=Tryz.func108.trans (congrArg QB Q0)
 f189:=Tryz.func97.trans (congrArg QB Q0)
 f215:=Tryz.func135.trans (congrArg QB Q0)
 f216:=Tryz.func128.trans (congrArg QB Q0)
 f257:=Tryz.func116.trans (congrArg QB Q0)
 f294:=Tryz.func122.trans (congrArg QB Q0)
 f295:=Tryz.func123.trans (congrArg QB Q0)
 f296:=Tryz.func124.trans (congrArg QB Q0)
 f297:=Tryz.func125.trans (congrArg QB Q0)
 f298:=Tryz.func126.trans (congrArg QB Q0)
 f299:=Tryz.func127.trans (congrArg QB Q0)
 f300:=Tryz.func129.trans (congrArg QB Q0)
 f301:=Tryz.func130.trans (congrArg QB Q0)
 f328:=Tryz.func132.trans (congrArg QB Q0)
 f329:=Tryz.func118.trans (congrArg QB Q0)
 f330:=Tryz.func119.trans (congrArg QB Q0)
 f331:=Tryz.func133.trans (congrArg QB Q0)
 f332:=Tryz.func134.trans (congrArg QB Q0)
 f343:=Tryz.func136.trans (congrArg QB Q0)
 t0:=Tryz.underlying0
 a0:=Tryz.isAgg0
 z0:=Tryz.sizeOf0
 v0:=Tryz.zeroValue0
 t3:=Tryz.underlying3
 a3:=Tryz.isAgg3
 z3:=Tryz.sizeOf3
 v3:=Tryz.zeroValue3
 t4:=Tryz.underlying4
 a4:=Tryz.isAgg4
 z4:=Tryz.sizeOf4
 v4:=Tryz.zeroValue4
 t5:=Tryz.underlying5
 a5:=Tryz.isAgg5
 z5:=Tryz.sizeOf5
 v5:=Tryz.zeroValue5
 t9:=Tryz.underlying9
 a9:=Tryz.isAgg9
 z9:=Tryz.sizeOf9
 v9:=Tryz.zeroValue9
 t28:=Tryz.underlying22
 a28:=Tryz.isAgg22
 z28:=Tryz.sizeOf22
 v28:=Tryz.zeroValue22
 t46:=Tryz.underlying142
 a46:=Tryz.isAgg142
 z46:=Tryz.sizeOf142
 v46:=Tryz.zeroValue142
 t51:=Tryz.underlying119
 a51:=Tryz.isAgg119
 z51:=Tryz.sizeOf119
 v51:=Tryz.zeroValue119
 t53:=Tryz.underlying172
 a53:=Tryz.isAgg172
 z53:=Tryz.sizeOf172
 v53:=Tryz.zeroValue172
 t131:=Tryz.underlying91
 a131:=Tryz.isAgg91
 z131:=Tryz.sizeOf91
 v131:=Tryz.zeroValue91
 t182:=Tryz.underlying164
 a182:=Tryz.isAgg164
 z182:=Tryz.sizeOf164
 v182:=Tryz.zeroValue164
 t183:=Tryz.underlying165
 a183:=Tryz.isAgg165
 z183:=Tryz.sizeOf165
 v183:=Tryz.zeroValue165
 t218:=Tryz.underlying178
 a218:=Tryz.isAgg178
 z218:=Tryz.sizeOf178
 v218:=Tryz.zeroValue178
 t222:=Tryz.underlying182
 a222:=Tryz.isAgg182
 z222:=Tryz.sizeOf182
 v222:=Tryz.zeroValue182
 t228:=Tryz.underlying187
 a228:=Tryz.isAgg187
 z228:=Tryz.sizeOf187
 v228:=Tryz.zeroValue187
 t229:=Tryz.underlying147
 a229:=Tryz.isAgg147
 z229:=Tryz.sizeOf147
 v229:=Tryz.zeroValue147 }
open Go.Sort Go.RowKit in
theorem Tryz.slices_Sort_int(blk off cap:Nat)(zs:List Int)(w:World)(hH:Holds (Qy .i64) w blk off zs.toArray)(hblk:blk<w.heap.size)(hsz:zs.length<4611686018427387904) :
  Calls QH 97 #[QD (QB ⟨blk,off,QC⟩) zs.length cap] w λe w'=>e = .returned (.tuple #[])/\∃n os,w'=grow (putRow (Qy .i64) (Sort.ahead w n) blk off (zs.mergeSort λx y=>decide (x<=y)).toArray) os:=Any.slices_Sort_int Tryz.DR blk off cap zs w hH hblk hsz
def Tryz.AE:Go.Shelf.Ren:=⟨fun | 112=>112 | n=>n,fun | 28=>22 | 3=>3 | 4=>4 | 0=>0 | n=>n,fun | n=>n⟩
theorem Tryz.DP:Go.Proofs.Lays.n112 QH Tryz.AE:={
 mixed:=by kernel_rfl
 f112:=Tryz.func112.trans (congrArg QB Q0)
 t0:=Tryz.underlying0
 a0:=Tryz.isAgg0
 z0:=Tryz.sizeOf0
 v0:=Tryz.zeroValue0
 t3:=Tryz.underlying3
 a3:=Tryz.isAgg3
 z3:=Tryz.sizeOf3
 v3:=Tryz.zeroValue3
 t4:=Tryz.underlying4
 a4:=Tryz.isAgg4
 z4:=Tryz.sizeOf4
 v4:=Tryz.zeroValue4
 t28:=Tryz.underlying22
 a28:=Tryz.isAgg22
 z28:=Tryz.sizeOf22
 v28:=Tryz.zeroValue22 }
open Go.RowKit Go.Lib Go.Sort in
/-- slices.Reverse at []int: "Reverse reverses the elements of the slice in place.": THE SLICE's CELLS HOLD 'zs.reverse' BEHIND THE CALL; all else is as it was, but for the count of draws (the exchange 's[i], s[j] = s[j], s[i]' draws its order, once a round). IN THE WORDS OF slices.Sort's CONTRACT: 'Holds': the cells hold zs and none is frozen; 'putRow': the world with those cells holding another array. A slice of length 0 that is not nil is among them ('zs = []'); nil: '.._nil'. (LAID: no walk: one application.) -/
theorem Tryz.slices_Reverse_int(blk off cap:Nat)(zs:List Int)(w:World)(hH:Holds (Qy .i64) w blk off zs.toArray)(hsz:zs.length<=9223372036854775807) :
  Calls QH 112 #[QD (QB ⟨blk,off,QC⟩) zs.length cap] w λe w'=>e = .returned (.tuple #[])/\∃n,w'=putRow (Qy .i64) (Sort.ahead w n) blk off zs.reverse.toArray:=Any.slices_Reverse_int Tryz.DP blk off cap zs w hH hsz
open Go.RowKit Go.Lib Go.Sort in
/-- The same at a slice of length 0, a nil one too: nothing is read, nothing written, nothing drawn. (LAID: no walk: one application.) -/
theorem Tryz.slices_Reverse_int_empty(a:Option Addr)(cap:Nat)(w:World) :
  Calls QH 112 #[.slice a 0 cap] w λe w'=>e = .returned (.tuple #[])/\w'=w:=Any.slices_Reverse_int_empty Tryz.DP a cap w
def Tryz.xz:Go.Shelf.Ren:=⟨fun | 20=>98 | n=>n,fun | 22=>22 | 3=>3 | 4=>4 | 0=>0 | n=>n,fun | n=>n⟩
theorem Tryz.yC:Go.Proofs.Lays2.n20 QH Tryz.xz:={
 mixed:=by kernel_rfl
 f20:=Tryz.func98.trans (congrArg QB Q0)
 t0:=Tryz.underlying0
 a0:=Tryz.isAgg0
 z0:=Tryz.sizeOf0
 v0:=Tryz.zeroValue0
 t3:=Tryz.underlying3
 a3:=Tryz.isAgg3
 z3:=Tryz.sizeOf3
 v3:=Tryz.zeroValue3
 t4:=Tryz.underlying4
 a4:=Tryz.isAgg4
 z4:=Tryz.sizeOf4
 v4:=Tryz.zeroValue4
 t22:=Tryz.underlying22
 a22:=Tryz.isAgg22
 z22:=Tryz.sizeOf22
 v22:=Tryz.zeroValue22
 i3:=by kernel_rfl }
open Go.RowKit Go.Lib Go.Sort in
/-- slices.Compact at []int: "Compact replaces consecutive runs of equal elements with a single copy. This is like the uniq command found on Unix. Compact modifies the contents of the slice s and returns the modified slice, which may have a smaller length. Compact zeroes the elements between the new length and the original length. The result preserves the nilness of s.": IT RETURNS THE SLICE CUT TO 'Lib.compact zs'; ITS CELLS HOLD 'Lib.compact zs', THEN ZERO VALUES up to the old length; all else is as it was, but for the count of draws. IN THE WORDS OF slices.Sort's CONTRACT ('Holds', 'putRow'): so the everyday 'slices.Sort(xs); xs = slices.Compact(xs)' goes from the one contract to the other. It asks 'zs.length <= cap' (every slice's: the reslicing 's[:k]' looks at it). Length 0, nil: '.._empty'. (LAID: no walk: one application.) -/
theorem Tryz.slices_Compact_int(blk off cap:Nat)(zs:List Int)(w:World)(hH:Holds (Qy .i64) w blk off zs.toArray)(hsz:zs.length<=9223372036854775807)(hcap:zs.length<=cap) :
  Calls QH 98 #[QD (QB ⟨blk,off,QC⟩) zs.length cap] w λe w'=>e = .returned (QD (QB ⟨blk,off,QC⟩) (Lib.compact zs).length cap)/\∃q,w'=putRow (Qy .i64) (Sort.ahead w q) blk off (Lib.compact zs++List.replicate (zs.length-(Lib.compact zs).length) 0).toArray:=Any.slices_Compact_int Tryz.yC blk off cap zs w hH hsz hcap
open Go.RowKit Go.Lib Go.Sort in
/-- The same at a slice of length 0, a nil one too: it comes back as it is. (LAID: no walk: one application.) -/
theorem Tryz.slices_Compact_int_empty(a:Option Addr)(cap:Nat)(w:World) :
  Calls QH 98 #[.slice a 0 cap] w λe w'=>e = .returned (.slice a 0 cap)/\w'=w:=Any.slices_Compact_int_empty Tryz.yC a cap w
open Go.RowKit Go.Sort in
/-- .. and plain. (LAID: no walk: one application.) -/
theorem Tryz.slices_Sort_int_none(p:Option Addr)(cap:Nat)(w:World) :
  Calls QH 97 #[.slice p 0 cap] w λe w'=>e = .returned (.tuple #[])/\w'=w:=Any.slices_Sort_int_none Tryz.DR p cap w
end Go.Proofs
namespace Go.Lft
def I64(x:Int):Prop:=-9223372036854775808<=x/\x<=9223372036854775807
variable{W:View}
theorem qk{h:Heap}{e:TypeId}{v:Value}{l:List Int}:OwnT W h e v l↔l.length<=140737488355328/\(∀x∈l,I64 x)/\((v = QD QC 0 0/\l=[])\/
  ∃g cap cur,v = QD (QB ⟨g,0,QC⟩) l.length cap/\h[g]? = QB (.cells cur e (0,0))/\l.length<=cap/\cap<=maxLen/\cur.size=cap/\cur.toList.take l.length=l.map (.int .i64)):=by
 have hn:Rep.n Int=1:=rfl;constructor
 ·rintro⟨hb,xs,⟨hl,hown⟩,hel⟩;rw[hn,NN]at hl;have hel' : ∀(i:Nat) (hi:i<l.length),xs[i]? = QB (Qy Qz l[i])/\I64 l[i]:=λi hi=>by
   obtain⟨h1,h2⟩:=hel i hi;rw[hn,NN]at h1;have:(xs.drop i).take 1=[Qy Qz l[i]]:=h1;have h3:((xs.drop i).take 1)[0]? = QB (Qy Qz l[i]):=by rw[this];rfl
   rw[Ox,if_pos Q2,O6]at h3;exact⟨by simpa using h3,h2⟩
  have hxs:xs=l.map (.int .i64):=by
   refine PC λi=>?_;rcases M0 i l.length with hi | hi
   ·rw[(hel' i hi).1];simp[hi]
   rw[NL Q1,NL (by simpa using hi)]
  refine⟨hb,λx hx=>?_,?_⟩
  ·obtain⟨i,hi,rfl⟩:=Ni hx;exact(hel' i hi).2
  rcases hown with⟨rfl,h0⟩ | ⟨g,cap,cur,rfl,hg,h1,h2,h3,h4⟩
  ·exact .inl ⟨rfl,Nl h0⟩
  rw[hn,NN]at h3 h4;exact .inr ⟨g,cap,cur,rfl,hg,h1,h2,h3,by rw[h4,hxs]⟩
 rintro⟨hb,hr,hown⟩;refine⟨hb,l.map (.int .i64),⟨by rw[hn];simp,?_⟩,λi hi=>?_⟩
 ·rcases hown with⟨rfl,rfl⟩ | ⟨g,cap,cur,rfl,hg,h1,h2,h3,h4⟩
  ·exact .inl ⟨rfl,rfl⟩
  exact .inr ⟨g,cap,cur,rfl,hg,h1,h2,by rw[hn,NN];exact h3,by rw[hn,NN];exact h4⟩
 rw[hn,NN];refine⟨?_,hr _ (Oi hi)⟩;refine PC λj=>?_;rw[Ox];rcases M0 j 1 with hj | hj
 ·have:j=0:=by omega
  subst this;simp[hi]
 rw[if_neg Q1];simp;omega
theorem tT{w:World}{g cap:Nat}{cur:Array Value}{e:TypeId}{l:List Int}(hg:w.heap[g]? = QB (.cells cur e (0,0)))(h1:l.length<=cur.size)(h4:cur.toList.take l.length=l.map (.int .i64)):Go.Sort.Holds (Qy .i64) w g 0 l.toArray:=by
 intro j hj;simp only[OR]at hj;have hc:cur[j]? = QB (Qy Qz l[j]):=by have:=congrArg (λx:List Value=>x[j]?) h4;simp only[Ox,hj,if_true,OU]at this;simpa[hj]using this
 constructor
 ·simp[World.cell?,hg,hc,hj]
 simp[World.frozen?,hg]
theorem zm{w:World}{h':Heap}{e:TypeId}{v:Value}{g cap:Nat}{cur:Array Value}{l d:List Int}(hv:v = QD (QB ⟨g,0,QC⟩) l.length cap)(hg:w.heap[g]? = QB (.cells cur e (0,0)))(h1:l.length<=cap)(h2:cap<=maxLen)(h3:cur.size=cap)(hd:d.length=l.length)(hb:l.length<=140737488355328)(hr : ∀x∈d,I64 x)(n:Nat)(os:Array Obj)(hh:h'=(Go.Sort.grow (Go.Sort.putRow (Qy .i64) (Go.Sort.ahead w n) g 0 d.toArray) os).heap):
  OwnT W h' e v d/\Kept w.heap h' v.ownBlock:=by
 subst hv;have hlt:g<w.heap.size:=(M7.1 hg).1;have hcur:(Go.Sort.putCells (Qy .i64) 0 d.toArray cur).toList.take d.length=d.map (.int .i64):=by
  refine PC λj=>?_;rw[Ox];split
  ·rename_i hj;have hjc:j<cur.size:=by omega
   simp[Go.Sort.putCells,hj,hjc]
  rename_i hj;exact(NL (by simpa using Nat.le_of_not_lt hj)).symm
 have hblk : ∀k,k<w.heap.size->h'[k]? = if g=k then(w.heap[k]?).map (Go.Sort.onCells (Go.Sort.putCells (Qy .i64) 0 d.toArray)) else w.heap[k]?:=by intro k hk;subst hh;simp only[Go.Sort.grow,Go.Sort.putRow,Go.Sort.mapBlock,Go.Sort.ahead];rw[PY (by simpa using hk),OM]
 have hsz:w.heap.size<=h'.size:=by subst hh;simp[Go.Sort.grow,Go.Sort.putRow,Go.Sort.mapBlock,Go.Sort.ahead]
 refine⟨qk.2 ⟨by omega,hr,.inr ⟨g,cap,Go.Sort.putCells (Qy .i64) 0 d.toArray cur,by rw[hd],?_,by omega,h2,by simp[Go.Sort.putCells,h3],hcur⟩⟩,hsz,λk hk hne=>?_⟩
 ·rw[hblk g hlt,if_pos rfl,hg];rfl
 rw[hblk k hk,if_neg (λe=>hne (by simp[Value.ownBlock,e]))]
theorem ru(w:World)(n g:Nat)(d:Array Int)(os:Array Obj):Same w (Go.Sort.grow (Go.Sort.putRow (Qy .i64) (Go.Sort.ahead w n) g 0 d) os):=
 ⟨rfl,rfl,rfl,by simp[Go.Sort.grow,Go.Sort.putRow,Go.Sort.mapBlock,Go.Sort.ahead],λb hb=>by
  have hlt:=(M7.1 hb).1;simp only[Go.Sort.grow,Go.Sort.putRow,Go.Sort.mapBlock,Go.Sort.ahead];rw[PY (by simpa using hlt),OM];split
  ·rw[hb];rfl
  exact hb⟩
def pJ(l:List Int):List Int:=l.mergeSort λx y=>decide (x<=y)
theorem I7{h:Heap}{e:TypeId}{v:Value}{l:List Int}(o:OwnT W h e v l):aw QH N.slices_Sort_int #[v] h (λ_ h'=>OwnT W h' e v (pJ l)/\Kept h h' v.ownBlock):=by
 rintro w rfl;obtain⟨hb,hr,hown⟩:=qk.1 o;have hlen:(pJ l).length=l.length:=List.length_mergeSort _;have hr' : ∀x∈pJ l,I64 x:=λx hx=>hr x (PZ.1 hx);rcases hown with⟨rfl,rfl⟩ | ⟨g,cap,cur,rfl,hg,h1,h2,h3,h4⟩
 ·refine(Tryz.slices_Sort_int_none QC 0 w).mono ?_;rintro e' w' ⟨rfl,rfl⟩;exact⟨_,rfl,⟨by simpa[pJ]using o,Kept.refl _ _⟩,Same.refl _⟩
 refine(Tryz.slices_Sort_int g 0 cap l w (tT (cap:=cap) hg Q1 h4) (M7.1 hg).1 Q1).mono ?_;rintro e' w' ⟨rfl,n,os,rfl⟩;exact⟨_,rfl,zm rfl hg h1 h2 h3 hlen hb hr' n os rfl,ru _ _ _ _ _⟩
theorem Fu{h:Heap}{e:TypeId}{g n cap:Nat}{l:List Int}(o:OwnT W h e (QD (QB ⟨g,0,QC⟩) l.length cap) l)(hn:n<=l.length):OwnT W h e (QD (QB ⟨g,0,QC⟩) n cap) (l.take n):=by
 obtain⟨hb,hr,hown⟩:=qk.1 o;have hl:(l.take n).length=n:=by simp;omega
 rcases hown with⟨hv,_⟩ | ⟨g',cap',cur,hv,hg,h1,h2,h3,h4⟩
 ·cases hv
 cases hv;refine qk.2 ⟨by omega,λx hx=>hr x (Pp hx),.inr ⟨g,cap,cur,by rw[hl],hg,by omega,h2,h3,?_⟩⟩;rw[hl,List.map_take,<-h4,Od,N7 hn]
theorem uO{l:List Int}:(Lib.compact l).length<=l.length:=by unfold Lib.compact Lib.compactUpTo;rw[Nr];exact NB (Pk _ _) Sb
theorem pC{l:List Int}{x:Int}(hx:x∈Lib.compact l):x∈l:=by unfold Lib.compact Lib.compactUpTo at hx;simp only[ND,ON,N0]at hx;obtain⟨i,⟨hi,_⟩,rfl⟩:=hx;simp[hi]
theorem CJ{h:Heap}{e:TypeId}{v:Value}{l:List Int}(o:OwnT W h e v l):aw QH N.slices_Compact_int #[v] h (λv' h'=>OwnT W h' e v' (Lib.compact l)/\lk h h' v v'):=by
 rintro w rfl;obtain⟨hb,hr,hown⟩:=qk.1 o;have hlen:=uO (l:=l);rcases hown with⟨rfl,rfl⟩ | ⟨g,cap,cur,rfl,hg,h1,h2,h3,h4⟩
 ·refine(Tryz.slices_Compact_int_empty QC 0 w).mono ?_;rintro e' w' ⟨rfl,rfl⟩;exact⟨_,rfl,⟨o,Kept.refl _ _,.inl rfl⟩,Same.refl _⟩
 refine(Tryz.slices_Compact_int g 0 cap l w (tT (cap:=cap) hg Q1 h4) Q1 h1).mono ?_;rintro e' w' ⟨rfl,n,hw⟩;have hw':w'=Go.Sort.grow (Go.Sort.putRow (Qy .i64) (Go.Sort.ahead w n) g 0 (Lib.compact l++List.replicate (l.length-(Lib.compact l).length) 0).toArray) #[]:=by rw[hw];simp
 have hdl:(Lib.compact l++List.replicate (l.length-(Lib.compact l).length) 0).length=l.length:=by simp;omega
 have hrd : ∀x∈(Lib.compact l++List.replicate (l.length-(Lib.compact l).length) (0:Int)),I64 x:=λx hx=>by
  rcases M1.1 hx with hx | hx
  ·exact hr x (pC hx)
  obtain⟨_,rfl⟩:=List.mem_replicate.1 hx;exact Q5
 obtain⟨o2,k2⟩:=zm (W:=W) (h':=w'.heap) rfl hg h1 h2 h3 hdl hb hrd n #[] (by rw[hw']);have o3:=Fu (n:=(Lib.compact l).length) (by rw[hdl];exact o2) Sb;rw[List.take_left'  rfl]at o3;exact⟨_,rfl,⟨o3,k2,.inl rfl⟩,by rw[hw'];exact ru _ _ _ _ _⟩
theorem Cc{h:Heap}{e:TypeId}{v:Value}{l:List Int}(o:OwnT W h e v l):aw QH N.slices_Reverse_int #[v] h (λ_ h'=>OwnT W h' e v l.reverse/\Kept h h' v.ownBlock):=by
 rintro w rfl;obtain⟨hb,hr,hown⟩:=qk.1 o;rcases hown with⟨rfl,rfl⟩ | ⟨g,cap,cur,rfl,hg,h1,h2,h3,h4⟩
 ·refine(Tryz.slices_Reverse_int_empty QC 0 w).mono ?_;rintro e' w' ⟨rfl,rfl⟩;exact⟨_,rfl,⟨o,Kept.refl _ _⟩,Same.refl _⟩
 refine(Tryz.slices_Reverse_int g 0 cap l w (tT (cap:=cap) hg Q1 h4) Q1).mono ?_;rintro e' w' ⟨rfl,n,hw⟩;have hw':w'=Go.Sort.grow (Go.Sort.putRow (Qy .i64) (Go.Sort.ahead w n) g 0 l.reverse.toArray) #[]:=by rw[hw];simp
 exact⟨_,rfl,zm rfl hg h1 h2 h3 Sb hb (λx hx=>hr x (by simpa using hx)) n #[] (by rw[hw']),by rw[hw'];exact ru _ _ _ _ _⟩
def oS(row:List Int)(n:Int)(i:Nat):Bool:=decide (0<=nth row i)&&decide (nth row i<n)
def lH(row:List Int)(n:Int):List Int:=Lib.compact (pJ (sift (oS row n) (λi=>nth row i) row.length))
theorem DK{row:List Int}{n:Int}{vr:Value}{h:Heap}(hr:SlRd (vw h) vr row)(hs:row.length<=1000000):
  aw QH N.fl #[vr,Qy Qz n] h (λv h'=>∃W,Mine nothing h h' W T.int v (lH row n)):=by
 refine ak (args:=[vr,Qy Qz n]) follows F.fl E.fl Q9 λK hK=>?_;simp[L.fl,hr.len];refine aJ [0,1,5,8,9,10] (fun(v:Value) k=>[vr,Qy Qz n,v,vr,Qy Qz row.length,Qy Qz k]) (λv k h1=>Mine nothing h h1 nothing T.int v (sift (oS row n) (λi=>nth row i) k)) row.length (QD QC 0 0)
  rfl Q1 rfl (Mine.start (λ_ _ h=>by cases h)) (λ_ _=>rfl) (λv k h1 hk m=>by simp) ?_ ?_
 ·intro v k h1 hlt m K2 hK2;have hr1:=hr.mono m.old;have hrange:=hr.range hlt;have:=lh (p:=oS row n) (x:=λi=>nth row i) k;simp(disch:=omega)[hr1.idx1 rfl,hr1.int Qw,ij,-Bool.and_eq_true,-Bool.and_eq_false_imp];refine⟨λhe=>?_,λhe=>hK2 v _ _ rfl rfl (by rw[mB (show oS row n k=QG from he)];exact m)⟩;refine m.push El.bn (by simp<;>rfl) (rS hrange.1 hrange.2) Q1 Q1 Q4 Q4 λu v' h3 m'=>hK2 v' _ _ rfl rfl (by rw[nH (show oS row n k=QF from he)];exact m')
 intro v h1 m;simp;refine ag Q0 (I7 m.own) ?_;rintro _ h2 ⟨o2,k2⟩;have m2:=m.kz o2 ⟨k2,.inl rfl⟩;try simp
 refine ag Q0 (CJ m2.own) ?_;rintro v3 h3 ⟨o3,k3⟩;have m3:=m2.kz o3 k3;try simp
 exact hK _ _ ⟨_,m3⟩
def cA(g:Gr):Gr:=rows (λa=>lH (nth g a) g.length) g.length
def Sm(g:Gr):Prop:=g.length<=1000000/\∀i,i<g.length->(nth g i).length<=1000000
theorem Hl{α:Type}[Rep α]:Rep.rd W (QD QC 0 0).cells.toList ([]:List α):=⟨QD QC 0 0,rfl,QC,0,rfl,by simp,by simp,.inl rfl⟩
theorem vY{g:Gr}{vg:Value}{h:Heap}(hg:SlRd (vw h) vg g)(hs:Sm g):
  aw QH N.eH #[vg] h (λv h'=>∃W,Mine nothing h h' W T.bn v (cA g)):=by
 refine ak (args:=[vg]) follows F.eH E.eH Q9 λK hK=>?_;have hs1:=hs.1;simp[L.eH,hg.len];refine Mine.made (α:=List Int) (V:=nothing) (W:=nothing) (h0:=h) (n:=g.length) (d:=[]) El.dd Qw (λ_ _ h=>by cases h) (Old.nothing _ _) (by simp<;>rfl) (by simp<;>rfl) Hl Q1 Q1 λv h1 m _ _=>?_;refine aJ [0,3,9,10,11] (fun(_:View) k=>[vg,v,vg,Qy Qz g.length,Qy Qz k]) (λW k h2=>Mine nothing h h2 W T.bn v (rows (λa=>lH (nth g a) g.length) k++List.replicate (g.length-k) [])) g.length nothing
  rfl Q1 rfl m (λ_ _=>rfl) (λv k h1 hk m=>by simp) ?_ ?_
 ·intro W a h2 hlta m K2 hK2;have hg2:=hg.mono m.old;obtain⟨rv,hrv⟩:=hg2.rows;obtain⟨cv,rr⟩:=hrv a hlta;have hl5:(rows (λa=>lH (nth g a) g.length) a++List.replicate (g.length-a) ([]:List Int)).length=g.length:=by simp;omega
  simp(disch:=omega)[hg2.idx1 rfl,cv _ Qw,hg.len];refine ag Q0 (DK rr (hs.2 a hlta)) ?_;rintro r h3 ⟨W',mr⟩;have m3:=m.ext mr.old;have hr:=mr.fresh.mono (jd W _ _);simp(disch:=omega)[m3.now.idx1 rfl];refine m3.put1 (α:=List Int) (i:=a) Q0 rfl Sb (by simp<;>rfl) Q1 (fG.2 hr) λh4 m4=>hK2 (grow W h2 h3) _ _ rfl rfl ?_;rw[ny (x:=λa=>lH (nth g a) g.length) hlta]at m4;exact m4
 intro W h2 m;simp at m;simp;exact hK _ _ ⟨_,m⟩
theorem vQ{l:List Int}{x:Int}{v:Value}{h:Heap}{b:Addr}(hl:SlRd (vw h) v l)(hb:aj (vw h) b=QB v):
  aw QH N.cE #[Qy Qz x,QE (QB b)] h (λu h'=>u = .bool (decide (0<=x)&&decide (x<l.length))/\h'=h):=by refine ak (args:=[Qy Qz x,QE (QB b)]) follows F.cE E.cE Q9 λK hK=>?_;simp[L.cE,hb,hl.len];exact hK _ _ ⟨rfl,rfl⟩
theorem yL{l:List Int}{a b:Int}{v:Value}{h:Heap}(hl:SlRd (vw h) v l):
  aw QH N.cP #[v,Qy Qz a,Qy Qz b] h (λu h'=>u = .bool (ez l a b)/\(vw h).le (vw h')):=by
 refine ak (args:=[v,Qy Qz a,Qy Qz b]) follows F.cP E.cP Q9 λK hK=>?_;have bl:=hl.bound;simp[L.cP];refine my (v:=v) Sb ?_;have hvc:v.cells = #[v]:=by obtain⟨_,_,rfl,_⟩:=hl;rfl
 rw[hvc];have hle:=bA h (.cells #[v] T.bn);have hl:=hl.mono hle;have hb:aj (vw (h.push (.cells #[v] T.bn))) ⟨h.size,0,QC⟩=QB v:=by simp[aj,vw]
 generalize h.push (.cells #[v] T.bn)=h1 at hle hl hb;generalize h.size=B at hb;refine cJ (ops:=[.tmp 10]) rfl Q0 (by simpa using vQ (x:=a) hl hb) ?_;rintro _ _ ⟨rfl,rfl⟩;cases ha:decide (0<=a)&&decide (a<l.length)with
 | false=>
  have hsp:ez l a b=false:=by simp only[PI,decide_eq_false_iff_not]at ha;simp[ez];intros;omega
  rw[hsp]at hK;simp[grdP];exact hK _ _ ⟨rfl,hle⟩
 | true=>
  simp only[M8,decide_eq_true_eq]at ha;simp[grdP];refine cJ (ops:=[.tmp 15]) rfl Q0 (by simpa using vQ (x:=b) hl hb) ?_;rintro _ _ ⟨rfl,rfl⟩;cases hbb:decide (0<=b)&&decide (b<l.length)with
  | false=>
   have hsp:ez l a b=false:=by simp only[PI,decide_eq_false_iff_not]at hbb;simp[ez];intros;omega
   rw[hsp]at hK;simp;exact hK _ _ ⟨rfl,hle⟩
  | true=>
   simp only[M8,decide_eq_true_eq]at hbb;have hsp:ez l a b=pT l a (l.length+1) b:=by simp[ez,ha,hbb]
   rw[hsp]at hK;simp(disch:=omega)[hb,hl.len];refine aJ [1,2,3,6,7,21,22] (fun(c:Int) k=>[Qy Qz a,Qy Qz c,QT B,.bool QG,.func (.func N.cE) #[] #[QT B],Qy Qz ((l.length:Int)+1),Qy Qz k])
    (λc k h2=>h2=_/\pT l a (l.length+1-k) c=pT l a (l.length+1) b) (l.length+1) b
    rfl Q1 rfl ⟨rfl,rfl⟩ (λ_ _=>rfl) (λv k h1 hk m=>by simp) ?_ ?_
   ·rintro c k h2 hlt ⟨rfl,hch⟩ K2 hK2;have hfu:l.length+1-k=(l.length-k)+1:=by omega
    rw[hfu,pT]at hch;simp;refine⟨λhe=>hK _ _ ⟨by rw[<-hch,if_pos he.symm],hle⟩,λhe=>?_⟩;rw[if_neg (λe=>he e.symm)]at hch;refine cJ (ops:=[.tmp 28]) rfl Q0 (by simpa using vQ (x:=c) hl hb) ?_;rintro _ _ ⟨rfl,rfl⟩;cases hc:decide (0<=c)&&decide (c<l.length)with
    | false=>simp only[PI,decide_eq_false_iff_not]at hc;simp;exact hK _ _ ⟨by rw[<-hch,if_pos Q1],hle⟩
    | true=>simp only[M8,decide_eq_true_eq]at hc;rw[if_neg Q1]at hch;simp(disch:=omega)[hb,hl.idx1 rfl,hl.int Qw];refine hK2 (nth l c.toNat) _ _ rfl rfl ⟨rfl,?_⟩;rw[<-hch];congr 1;omega
   rintro c h2 ⟨rfl,hch⟩;rw[PQ,pT]at hch;simp;exact hK _ _ ⟨by rw[<-hch],hle⟩
def kW(idom number:List Int):Nat->Int->Int->Option Int
 | 0,_,_=>QC
 | n+1,a,b=>
  if 0<=a/\a<number.length/\a<idom.length/\0<=b/\b<number.length/\b<idom.length then
   if nth number b.toNat<nth number a.toNat then kW idom number n (nth idom a.toNat) b
   else if nth number a.toNat<nth number b.toNat then kW idom number n a (nth idom b.toNat)
   else QB a
  else QC
theorem yw{idom number:List Int}{vi vn:Value}{h:Heap}{r:Int}(hi:SlRd (vw h) vi idom)(hn:SlRd (vw h) vn number){n:Nat}{a b:Int}(hc:kW idom number n a b=QB r):
  aw QH N.dC #[vi,vn,Qy Qz a,Qy Qz b] h (λu h'=>u = Qy Qz r/\h'=h):=by
 refine ak (args:=[vi,vn,Qy Qz a,Qy Qz b]) follows F.dC E.dC Q9 λK hK=>?_;simp[L.dC];refine iA [0,1,2,3] (λm ρ h'=>∃(c d:Int),ρ=[(0,vi),(1,vn),(2,Qy Qz c),(3,Qy Qz d)]/\h'=h/\kW idom number m c d=QB r) n ⟨a,b,rfl,rfl,hc⟩ ?_;rintro m ρ h' ⟨c,d,rfl,rfl,hc⟩ K2 hK2;cases m with
 | zero=>cases hc
 | succ m=>
  rw[kW]at hc;split at hc;case isFalse=>cases hc
  rename_i hr;obtain⟨r1,r2,r3,r4,r5,r6⟩:=hr;simp(disch:=omega)[L.dC.l1,hn.idx1 rfl,hn.int Qw];refine⟨λh1=>?_,λh1=>?_⟩
  ·rw[if_pos h1]at hc;simp(disch:=omega)[hi.idx1 rfl,hi.int Qw];exact hK2 m _ _ Q1 ⟨_,_,rfl,rfl,hc⟩
  rw[if_neg Q1]at hc;refine⟨λh2=>?_,λh2=>?_⟩
  ·rw[if_pos h2]at hc;simp(disch:=omega)[hi.idx1 rfl,hi.int Qw];exact hK2 m _ _ Q1 ⟨_,_,rfl,rfl,hc⟩
  rw[if_neg Q1]at hc;cases hc;exact hK _ _ ⟨rfl,rfl⟩
structure Wo(W:View)(h:Heap)(B:Nat)(vt vl:Value)(s:List Bool × List Int):Prop where
 wle:W.le (vw h)
 box:h[B]? = QB (.cells #[vl] T.bn (0,0))
 wB:W B=QC
 avt:Av W vt
 avl:Av W vl
 nt:vt.ownBlock≠QB B
 nl:vl.ownBlock≠QB B
 ne:vl.ownBlock=QC\/vl.ownBlock≠vt.ownBlock
 ot:OwnT nothing h T.bool vt s.1
 ol:OwnT nothing h T.int vl s.2
 nn:vt.ownBlock=QC\/vt.ownBlock≠vl.ownBlock
theorem Wo.lt{W:View}{h:Heap}{B:Nat}{vt vl:Value}{s:List Bool × List Int}(k:Wo W h B vt vl s):B<h.size:=(M7.1 k.box).1
theorem Wo.ext{W:View}{h h':Heap}{B:Nat}{vt vl:Value}{s:List Bool × List Int}(k:Wo W h B vt vl s)(hle:(vw h).le (vw h')):Wo W h' B vt vl s:=
 {k with wle:=Qx k.wle hle,box:=hle _ _ k.box,ot:=k.ot.ext hle,ol:=k.ol.ext hle }
variable{vt vl:Value}
theorem Wo.flag{h h':Heap}{B:Nat}{s:List Bool × List Int}{t':List Bool}(k:Wo W h B vt vl s)(o:OwnT nothing h' T.bool vt t')(m:lk h h' vt vt):Wo W h' B vt vl (t',s.2):=
 {k with
  wle:=(m.view k.wle k.avt).1
  box:=by rw[m.kept.block B k.lt (λe=>k.nt e.symm)];exact k.box
  ot:=o
  ol:=k.ol.kept m.kept k.ne }
theorem Wo.CI{h h' h'':Heap}{B:Nat}{vl':Value}{s:List Bool × List Int}{l':List Int}(k:Wo W h B vt vl s)(o:OwnT nothing h' T.int vl' l')(m:lk h h' vl vl')(hsz:h''.size=h'.size)(hB:h''[B]? = QB (.cells #[vl'] T.bn (0,0)))(hoth : ∀j,j≠B->h''[j]? = h'[j]?):Wo W h'' B vt vl' (s.1,l'):=by
 obtain⟨hw',ha'⟩:=m.view k.wle k.avl;have hlt:=k.lt;have nl':vl'.ownBlock≠QB B:=by
  rcases m.at_ with e | e
  ·rw[e];exact k.nl
  rw[e];intro e2;cases e2;omega
 have kep:Kept h' h'' (QB B):=⟨by omega,λj _ hj=>hoth j (λe=>hj (by rw[e]))⟩;refine⟨λb x hb=>?_,hB,k.wB,k.avt,ha',k.nt,nl',?_,?_,?_,?_⟩
 ·have hne:b≠B:=λe=>by rw[e,k.wB]at hb;cases hb
  show h''[b]? = _;rw[hoth b hne];exact hw' b x hb
 ·rcases m.at_ with e | e
  ·rw[e];exact k.ne
  right;rw[e];intro e2;have:=k.ot.lt e2.symm;omega
 ·exact(k.ot.kept m.kept k.nn).kept kep (.inr k.nt)
 ·exact o.kept kep (.inr nl')
 rcases m.at_ with e | e
 ·rw[e];exact k.nn
 right;rw[e];intro e2;have:=k.ot.lt e2;omega
theorem Wo.cell{h:Heap}{B:Nat}{s:List Bool × List Int}(k:Wo W h B vt vl s):aj (vw h) ⟨B,0,QC⟩=QB vl:=by simp[aj,vw,k.box]
def nx(rows:Gr)(a:Int):List Int:=nth rows a.toNat
theorem Bd{rows:Gr}{vr:Value}{Tp R O:Addr}{B:Nat}(hs:rows.length<=1000000)(hin : ∀i,i<rows.length->∀j,j<(nth rows i).length->0<=nth (nth rows i) j/\nth (nth rows i) j<rows.length) : ∀(n:Nat) {M:Nat} {W:View} {h:Heap} {vt vl:Value} {s:List Bool × List Int} {a:Int},Wo W h B vt vl s->SlRd W vr rows->
  aj W Tp=QB vt->aj W R=QB vr->aj W O=QB (.func (.func N.bW) #[] #[QE (QB Tp),QE (QB R),QE (QB O),QT B])->0<=a->a<rows.length->s.1.length=rows.length->nth s.1 a.toNat=QG->
  df s.1<=n->s.2.length+df s.1<=M->M<=1000000->
  aw QH N.bW #[Qy Qz a,QE (QB Tp),QE (QB R),QE (QB O),QT B] h (λ_ h'=>∃vl',Wo W h' B vt vl' (jS (nx rows) n a s)/\(jS (nx rows) n a s).2.length+df (jS (nx rows) n a s).1<=M)
 | 0,M,W,h,vt,vl,s,a,k,hg,hT,hR,hO,h0,h1,hl,hf,hc,hb,hM=>by exfalso;have:=jL (t:=s.1) (i:=a.toNat) Q1 hf;omega
 | n+1,M,W,h,vt,vl,(t,l),a,k,hg,hT,hR,hO,h0,h1,hl,hf,hc,hb,hM=>by
  obtain⟨i,rfl⟩:=OG h0;simp only at hl hf hc hb;have hfs:=jL (t:=t) (i:=i) Q1 (by simpa using hf);refine ak (args:=[Qy Qz i,QE (QB Tp),QE (QB R),QE (QB O),QT B]) follows F.bW E.bW Q9 λK hK=>?_;have hnow:SlRd (vw h) vt t:=k.ot.now (λ_ _ h=>by cases h);simp(disch:=omega)[L.bW,ae k.wle hT,hnow.idx1 rfl];refine tx (W:=nothing) (i:=i) (d:=true) Q0 (by simp[show Rep.n Bool=1 from rfl]) (by simp<;>rfl) k.ot (by simpa using by omega) J6 λh2 o2 m2=>?_;have k2:=k.flag o2 m2;have hg2:=hg.mono k2.wle;obtain⟨rv,hrv⟩:=hg.rows;obtain⟨cv,rr⟩:=hrv i Q1;have br:=rr.bound;have hov:jS (nx rows) (n+1) i (t,l)=((up (cy (nx rows) n i) (nx rows i).length (t.set i QF,l)).1,(up (cy (nx rows) n i) (nx rows i).length (t.set i QF,l)).2++[(i:Int)]):=kL;rw[hov]at hK;have hnx:nx rows i=nth rows i:=rfl;rw[hnx]at hK;simp(disch:=omega)[ae k2.wle hR,hg2.idx1 rfl,cv _ k2.wle,rr.len];refine aJ [0,1,2,3,4,14,15,16] (fun(_:Value) j=>[Qy Qz i,QE (QB Tp),QE (QB R),QE (QB O),QT B,rv i,Qy Qz (nth rows i).length,Qy Qz j]) (λvl j h4=>Wo W h4 B vt vl (up (cy (nx rows) n i) j (t.set i QF,l))/\(up (cy (nx rows) n i) j (t.set i QF,l)).2.length+df (up (cy (nx rows) n i) j (t.set i QF,l)).1<=M-1) (nth rows i).length vl
   rfl Q1 rfl ⟨k2,by simp[up];omega⟩ (λ_ _=>rfl) (λv j h4 hk m=>by simp) ?_ ?_
  ·rintro vl j h4 hltj ⟨k4,hb4⟩ K2 hK2;have hinv:=tP (λs:List Bool × List Int=>s.1.length=rows.length/\df s.1<=n) (f:=cy (nx rows) n i) (λk x hx=>by
    unfold cy;split
    ·exact hx
    exact pR n _ x hx) j (t.set i QF,l) ⟨by simpa using hl,by simp only;omega⟩;generalize hx:up (cy (nx rows) n i) j (t.set i QF,l)=x at k4 hb4 hinv;obtain⟨e0,e1⟩:=hin i Q1 j hltj;have hr4:=rr.mono k4.wle;have hnow4:=k4.ot.now (λ_ _ h=>by cases h);simp(disch:=omega)[ae k4.wle hT,hr4.idx1 rfl,hr4.int Qw,hnow4.idx1 rfl,hnow4.bool Qw,ij];refine⟨λhe=>?_,λhe=>hK2 vl _ _ rfl rfl ?_⟩
   ·simp[ae k4.wle hO];refine cJ (ops:=[.tmp 26]) rfl Q0 (by simpa using Bd hs hin n k4 hg hT hR hO e0 e1 hinv.1 he hinv.2 hb4 Q1) ?_;rintro _ h5 ⟨⟨vl',k5⟩,hb5⟩;have hst:up (cy (nx rows) n i) (j+1) (t.set i QF,l)=jS (nx rows) n (nth (nth rows i) j) x:=by rw[up,hx,cy,show nx rows i=nth rows i from rfl,he];rfl
    refine hK2 vl' _ _ rfl rfl ?_;rw[hst];exact⟨k5,hb5⟩
   have hst:up (cy (nx rows) n i) (j+1) (t.set i QF,l)=x:=by rw[up,hx,cy,show nx rows i=nth rows i from rfl,he];rfl
   rw[hst];exact⟨k4,hb4⟩
  rintro vl h4 ⟨k4,hb4⟩;generalize hx:up (cy (nx rows) n i) (nth rows i).length (t.set i QF,l)=x at k4 hb4 hK;simp[k4.cell];refine jz (α:=Int) (W:=nothing) El.bn (by simp<;>rfl) (rS Q1 Q1) λu h5 hsrc hle5 _=>?_;have k5:=k4.ext hle5;refine cR El.bn Sb Sb k5.ol hsrc Q8 Q8 λvl' h6 o6 m6=>?_;have hB6:h6[B]? = QB (.cells #[vl] T.bn (0,0)):=by rw[m6.kept.block B k5.lt (λe=>k5.nl e.symm)];exact k5.box
  obtain⟨hcells,hone⟩:=lO o6;refine ey (g:=B) (o:=0) (n:=1) (v:=vl') Q0 Sb Sb (by rw[hcells];rfl) (by rw[hcells];simpa using hone) hB6 Sb λh7 hsz7 ⟨row,hrow,he⟩ hoth=>hK _ _ ⟨vl',?_,?_⟩
  ·have hrow2:row = #[vl']:=by rw[<-Array.toList_inj,he,hcells];rfl
   rw[hrow2]at hrow;exact k5.CI o6 m6 hsz7 hrow hoth
  simp;omega
end Go.Lft
