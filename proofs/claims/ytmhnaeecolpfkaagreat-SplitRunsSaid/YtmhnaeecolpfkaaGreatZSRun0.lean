/- A part of the proof: LftE, LftS, LftT, LftB, LftR, LftD, LftC, LftW, LftV. -/
import Derived.WalkKit
import Derived.CallsIn
import Derived.OrdersIn
import Derived.OwnWalkIn
import Derived.RangeFuncIn
import Derived.RangeFuncRecord
import Derived.RangeFuncLeaves
import Derived.KernelRfl
import Derived.ChangeKeysEq
import Derived.MapKept
import Derived.RecoverIn
import Derived.Test.YtmhnaeecolpfkaaGreatChecked
import Derived.ProofKit
import Derived.OpenShut
import Derived.HandedShaped
import Derived.Maps.RangeRun
import Derived.Test.YtmhnaeecolpfkaaGreatProg
import Derived.Shelf.Small.Bits
import Derived.Shelf.Small.Wraps
import Derived.Shelf.Strconv.Itoa0
import Derived.Shelf.Sort.Plain
import Derived.Shelf.Slices.Turned
import Derived.Shelf.Slices.Reverse
import Derived.Ground.Names2Prog
import Derived.Shelf.Slices.CompactI
import Derived.Shelf.Slices.SearchI
import Derived.Shelf.Slices.Cells
import Derived.Shelf.Slices.In.SortNone
import Derived.Laws.BytesArg
import Derived.Test.YtmhnaeecolpfkaaGreatRows
set_option linter.unusedSimpArgs false
set_option linter.unusedVariables false
open Go.Value renaming int->Qy,slice->QD,pointer->QE
open Go.IntKind renaming i64->Qz,i32->QA
open Option renaming some->QB,none->QC
open Bool renaming true->QF,false->QG
namespace Go
abbrev zpa:List (Nat×Nat):=[(0,1),(1,1),(2,1),(3,1),(4,1)]
abbrev zpb:List (Nat×Nat):=[(0,1),(1,1),(2,1),(3,1)]
abbrev zpc:List (Nat×Nat):=[(0,1),(1,1)]
abbrev zpd:List (Nat×Nat):=[(0,1),(1,1),(2,4)]
theorem Q0{p:Prop}(h:p:=by kernel_rfl):p:=h
theorem Q1{p:Prop}(h:p:=by omega):p:=h
theorem Sb{p:Prop}(h:p:=by simp):p:=h
theorem Q2{p:Prop}(h:p:=by decide):p:=h
theorem Ri{p:Prop}(h:p:=by rfl):p:=h
theorem Q4{p:Prop}(h:p:=by intro _;simp):p:=h
theorem Q5{p q:Prop}(a:p:=by omega)(b:q:=by omega):p/\q:=⟨a,b⟩
theorem Q6{p:Prop}(h:p:=by simp [Value.oneCell']):p:=h
theorem Q7{p:Prop}(h:p:=by simp [Value.cells,Value.oneCell']):p:=h
theorem Q8{p:Prop}(h:p:=by simp;omega):p:=h
theorem Q9{a b:Nat}(h:Nat.ble a b=true:=by kernel_rfl):a<=b:=Nat.le_of_ble_eq_true h
abbrev QT(b:Nat):Value:=QE (QB ⟨b,0,QC⟩)
abbrev zz0:Value:=.agg #[Qy Qz 0,Qy Qz 0,Qy Qz 0]
abbrev zz1:Value:=.agg #[Qy Qz 0,Qy Qz 0]
abbrev zz2:Value:=.agg #[Qy Qz 0,Qy Qz 0,Qy Qz 0,Qy Qz 0]
abbrev zz3:Value:=.agg #[QD QC 0 0,QD QC 0 0,Qy Qz 0,QD QC 0 0,QD QC 0 0,Qy QA 0]
abbrev zz4:Value:=.agg #[Qy Qz 0,QD QC 0 0]
abbrev zz5:Value:=.agg #[Qy Qz 0,Qy Qz 0,Qy Qz 0,QD QC 0 0,Qy QA 0]
abbrev zz6:Value:=.agg #[Qy Qz 0,QD QC 0 0,.map QC]
abbrev zz7:Value:=.agg #[Qy Qz 0,Qy Qz 0,QD QC 0 0,QD QC 0 0]
abbrev zz8:Value:=.agg #[Qy Qz 0,Qy Qz 0,Qy Qz 0,Qy Qz 0,Qy Qz 0,Qy Qz 0,Qy Qz 0,Qy Qz 0,Qy Qz 0,Qy Qz 0,Qy Qz 0,Qy Qz 0]
abbrev zz9:Value:=.agg #[Qy Qz 0,QD QC 0 0,QD QC 0 0,Qy QA 0]
abbrev zz10:Value:=.agg #[Qy QA 0,QD QC 0 0]
abbrev zz11:Value:=.agg #[Qy Qz 0,Qy QA 0,QD QC 0 0,QD QC 0 0,Qy Qz 0]
abbrev zz12:Value:=.agg #[.map QC,Qy Qz 0,Qy QA 0,QD QC 0 0,QD QC 0 0,Qy Qz 0,QD QC 0 0,Qy Qz 0]
abbrev zz13:Value:=.agg #[QD QC 0 0,QD QC 0 0,QD QC 0 0,Qy Qz 0]
abbrev zz14:Value:=.agg #[QD QC 0 0,Qy Qz 0,Qy Qz 0,QD QC 0 0,Qy Qz 0,QD QC 0 0]
abbrev MU:=@Nat.le_of_ble_eq_true
abbrev MX:=@Option.some.injEq
abbrev MY:=@Nat.le_refl
abbrev MZ:=@List.mem_singleton
abbrev M0:=@Nat.lt_or_ge
abbrev M1:=@List.mem_append
abbrev M3:=@List.length_append
abbrev M5:=@Option.map_eq_some_iff
abbrev M6:=@List.length_singleton
abbrev M7:=@Array.getElem?_eq_some_iff
abbrev M8:=@Bool.and_eq_true
abbrev M9:=@Int.toNat_natCast
abbrev Nd:=@List.take_of_length_le
abbrev Nf:=@List.mem_cons_of_mem
abbrev Ng:=@List.mem_cons_self
abbrev Nh:=@Option.bind_eq_some_iff
abbrev Ni:=@List.getElem_of_mem
abbrev Nj:=@Int.toNat_of_nonneg
abbrev Nk:=@List.append_assoc
abbrev Nl:=@List.eq_nil_of_length_eq_zero
abbrev Nn:=@Option.bind_some
abbrev Np:=@List.take_succ_eq_append_getElem
abbrev Nq:=@List.length_set
abbrev Nr:=@List.length_map
abbrev Ns:=@Array.toList_inj
abbrev Nt:=@Array.getElem?_eq_getElem
abbrev Nu:=@List.mem_cons
abbrev Nv:=@List.mem_of_getElem?
abbrev Nw:=@Nat.not_lt_zero
abbrev Ny:=@List.length_take
abbrev NA:=@Nat.mul_le_mul_right
abbrev NB:=@Nat.le_trans
abbrev NC:=@List.mem_append_left
abbrev ND:=@List.mem_map
abbrev NF:=@List.foldl_cons
abbrev NG:=@List.mem_append_right
abbrev NH:=@Bool.eq_iff_iff
abbrev NI:=@List.drop_eq_nil_of_le
abbrev NJ:=@List.length_drop
abbrev NK:=@List.drop_eq_getElem_cons
abbrev NL:=@List.getElem?_eq_none
abbrev NM:=@List.length_replicate
abbrev NN:=@Nat.mul_one
abbrev NO:=@List.take_append_of_le_length
abbrev NP:=@Int.le_refl
abbrev NQ:=@List.take_length
abbrev NR:=@List.flatMap_append
abbrev NS:=@Bool.or_eq_true
abbrev NT:=@List.nil_append
abbrev NU:=@List.ext_getElem
abbrev NV:=@Bool.or_eq_false_iff
abbrev NW:=@Array.getElem?_setIfInBounds_ne
abbrev NX:=@Array.getElem?_toList
abbrev NY:=@Nat.succ_mul
abbrev NZ:=@List.mem_map_of_mem
abbrev N0:=@List.mem_range
abbrev N1:=@List.all_eq_true
abbrev N2:=@List.length_cons
abbrev N3:=@List.nodup_append
abbrev N4:=@List.drop_append_of_le_length
abbrev N5:=@List.getElem_append_right
abbrev N6:=@Int.natCast_nonneg
abbrev N7:=@Nat.min_eq_left
abbrev N8:=@List.map_cons
abbrev N9:=@List.getElem?_eq_getElem
abbrev Oa:=@List.getElem_append_left
abbrev Ob:=@Array.getElem?_push_size
abbrev Oc:=@List.getElem_map
abbrev Od:=@List.take_take
abbrev Oe:=@Nat.eq_zero_or_pos
abbrev Og:=@Prod.mk.injEq
abbrev Oh:=@List.append_nil
abbrev Oi:=@List.getElem_mem
abbrev Oj:=@Nat.zero_add
abbrev Ol:=@List.foldlM_cons
abbrev Om:=@List.mem_flatMap
abbrev On:=@Option.getD_none
abbrev Oo:=@Option.getD_some
abbrev Oq:=@List.getElem?_eq_some_iff
abbrev Ot:=@List.drop_take
abbrev Ou:=@List.idxOf_lt_length_iff
abbrev Ov:=@List.map_append
abbrev Ow:=@Bool.false_eq_true
abbrev Ox:=@List.getElem?_take
abbrev Oy:=@List.drop_zero
abbrev Oz:=@List.set_getElem_self
abbrev OA:=@List.take_append
abbrev OB:=@List.getElem_idxOf
abbrev OC:=@List.getElem?_of_mem
abbrev OD:=@Nat.mul_le_mul
abbrev OE:=@Bool.not_eq_true'
abbrev OG:=@Int.eq_ofNat_of_zero_le
abbrev OH:=@List.flatMap_cons
abbrev OI:=@Array.getElem?_push
abbrev OJ:=@Array.getElem?_eq_none
abbrev OK:=@List.getElem_cons_zero
abbrev OL:=@Nat.zero_le
abbrev OM:=@Array.getElem?_modify
abbrev ON:=@List.mem_filter
abbrev OO:=@List.nodup_cons
abbrev OQ:=@Array.toArray_toList
abbrev OR:=@List.size_toArray
abbrev OS:=@List.getElem_take
abbrev OT:=@Nat.zero_mul
abbrev OU:=@List.getElem?_map
abbrev OV:=@Array.toList_push
abbrev OW:=@Nat.mul_succ
abbrev OX:=@List.Nodup.idxOf_getElem
abbrev OY:=@Array.length_toList
abbrev OZ:=@List.cons_append
abbrev O1:=@List.drop_drop
abbrev O2:=@List.drop_append
abbrev O3:=@List.not_mem_nil
abbrev O5:=@List.flatMap_map
abbrev O6:=@List.getElem?_drop
abbrev O7:=@List.filter_append
abbrev O8:=@Int.tmod_lt_of_pos
abbrev O9:=@List.length_nil
abbrev Pj:=@List.take_append_drop
abbrev Pk:=@List.length_filter_le
abbrev Pl:=@List.pairwise_map
abbrev Pm:=@Bool.eq_false_iff
abbrev Pn:=@Nat.add_mul
abbrev Po:=@List.take_zero
abbrev Pp:=@List.mem_of_mem_take
abbrev Pq:=@List.filter_cons
abbrev Ps:=@List.mem_or_eq_of_mem_set
abbrev Pt:=@Array.toList_filter
abbrev Pu:=@List.map_congr_left
abbrev Pv:=@List.zip_cons_cons
abbrev Pw:=@List.filterMap_nil
abbrev Px:=@List.pairwise_cons
abbrev Py:=@Array.getElem?_setIfInBounds_self
abbrev Pz:=@List.set_eq_take_append_cons_drop
abbrev PA:=@List.nodup_nil
abbrev PB:=@List.getElem_drop
abbrev PC:=@List.ext_getElem?
abbrev PD:=@List.filter_congr
abbrev PE:=@List.idxOf_append
abbrev PF:=@Array.getElem?_append
abbrev PG:=@List.getElem?_toArray
abbrev PH:=@List.set_append_right
abbrev PI:=@Bool.and_eq_false_iff
abbrev PJ:=@List.zipIdx_cons
abbrev PK:=@List.getElem_inj
abbrev PL:=@Nat.lt_succ_self
abbrev PM:=@Nat.one_mul
abbrev PN:=@List.pairwise_append
abbrev PO:=@List.take_set_of_le
abbrev PQ:=@Nat.sub_self
abbrev PR:=@List.map_map
abbrev PS:=@List.idxOf_lt_length_of_mem
abbrev PT:=@List.take_left
abbrev PU:=@Array.foldl_toList
abbrev PV:=@Nat.lt_of_lt_of_le
abbrev PW:=@Array.toList_setIfInBounds
abbrev PX:=@List.foldlM_append
abbrev PY:=@Array.getElem?_append_left
abbrev PZ:=@List.mem_mergeSort
abbrev P1:=@Int.lt_tmod_of_pos
abbrev P2:=@List.getElem?_append_left
abbrev P4:=@List.mem_of_find?_eq_some
abbrev P5:=@Array.mapM_eq_mapM_toList
abbrev P6:=@Nat.one_pos
abbrev P7:=@Function.comp_def
abbrev P8:=@List.take_add_one
abbrev P9:=@List.foldl_append
abbrev Qa:=@Option.isSome_map
abbrev Qb:=@Nat.lt_irrefl
abbrev Qc:=@Bool.true_and
abbrev Qd:=@List.Perm.eq_of_pairwise
abbrev Qe:=@List.getElem_set
abbrev Qf:=@Nat.add_sub_cancel_left
abbrev Qg:=@List.drop_length
abbrev Qh:=@List.pairwise_mergeSort
abbrev Qi:=@List.any_eq_true
abbrev Qj:=@Nat.sub_zero
abbrev Qk:=@List.pairwise_lt_range
abbrev Ql:=@List.getElem_replicate
abbrev Qm:=@Int.le_trans
abbrev Qn:=@List.flatMap_singleton
abbrev Qo:=@List.range_succ
abbrev Qp:=@Int.tmod_nonneg
abbrev Qq:=@List.filter_map
abbrev Qr:=@List.mapM_cons
abbrev Qs:=@Bool.false_and
abbrev Qt:=@Bool.false_or
abbrev Qu:=@Nat.not_lt
end Go
open Go.Proofs
namespace Go.Lft
abbrev Heap:=Array Obj
abbrev View:=Nat->Option Obj
def vw(h:Heap):View:=λb=>h[b]?
def View.le(H K:View):Prop:=∀b o,H b=QB o->K b=QB o
def aj(h:View)(a:Addr):Option Value:=
 match h a.block with
 | some (.cells c _ _)=>if a.spot.isSome then QC else c[a.off]?
 | _=>QC
def dy(h:View)(a:Addr)(i:Nat):Nat->Array Value->Option (Array Value)
 | 0,acc=>QB acc
 | n+1,acc=>match aj h (a.add i)with
  | some v=>dy h a (i+1) n (acc.push v)
  | none=>QC
def mapH(h:View)(r:Nat):Option (Array MapEntry × Nat):=
 match h r with
 | some (.map es c)=>QB (es,c)
 | _=>QC
inductive Un where
 | not
 | neg (k:IntKind)
 | len
 | lenStr
 | lenMap
 | load
 | ax (n:Nat)
 | fld (off:Nat)
 | part (off:Nat)
 | parts (off n:Nat)
 | conv (k:IntKind)
 | ext (i:Nat)
 | nilPtr
 | fn (f:FuncId)
 | build (zero:Array Value) (places:List (Nat × Nat))
 deriving Inhabited
inductive Bn where
 | arith (op:BinOp)
 | cmp (op:BinOp)
 | div (op:BinOp)
 | bits (op:BinOp)
 | eqB (neg:Bool)
 | eqS (neg:Bool)
 | cat
 | idx (sz:Nat)
 | aidx (n sz:Nat)
 | idxA (n sz:Nat) (agg:Bool)
 | idxS
 | min
 | max
 | lo (sz:Nat)
 | hi
 | loS
 | hiS
 deriving Inhabited
inductive E where
 | tmp (t:Nat)
 | con (v:Value)
 | un (o:Un) (x:E)
 | bin (o:Bn) (x y:E)
 | snoc (x y:E)
 | ite (c x y:E)
 | gd (c:E) (b:Bool) (x:E)
 deriving Inhabited
def vB:Value->Option Bool | .bool b=>QB b | _=>QC
def vI:Value->Option (IntKind × Int) | .int k n=>QB (k,n) | _=>QC
def vS:Value->Option ByteArray | .string s=>QB s | _=>QC
def vP:Value->Option Addr | QE (QB a)=>QB a | _=>QC
def vL:Value->Option (Option Addr × Nat × Nat) | .slice a n c=>QB (a,n,c) | _=>QC
def vA:Value->Option (Array Value) | .agg cs=>QB cs | _=>QC
def vT:Value->Option (Array Value) | .tuple cs=>QB cs | _=>QC
def vM:Value->Option (Option Nat) | .map r=>QB r | _=>QC
def Un.ev(h:View)(o:Un)(v:Value):Option Value:=
 match o with
 | .not=>(vB v).map λb=>.bool (!b)
 | .neg k=>(vI v).bind λp=>if p.1=k then QB (.int k (k.wrap (0-p.2))) else QC
 | .len=>(vL v).map λp=>Qy Qz p.2.1
 | .lenStr=>(vS v).map λs=>Qy Qz s.size
 | .lenMap=>(vM v).bind fun
  | none=>QB (Qy Qz (0:Int))
  | some r=>(mapH h r).map λp=>Qy Qz p.1.size
 | .load=>(vP v).bind λa=>aj h a
 | .ax n=>(vP v).bind λa=>(dy h a 0 n #[]).map .agg
 | .fld off=>(vP v).map λa=>QE (QB (a.add off))
 | .part off=>(vA v).bind λcs=>cs[off]?
 | .parts off n=>(vA v).map λcs=>.agg (cs.extract off (off+n))
 | .conv k=>(vI v).map λp=>.int k (k.wrap p.2)
 | .ext i=>(vT v).bind λvs=>vs[i]?
 | .nilPtr=>(vP v).map λa=>QE (QB a)
 | .fn f=>(vT v).map λvs=>.func (.func f) #[] vs
 | .build zero places=>(vT v).bind λvs=>(Instr.fill (places[·]?) zero ((List.range vs.size).zip vs.toList)).map .agg
def cmpI:BinOp->Int->Int->Option Bool
 | .eql,x,y=>QB (x == y)
 | .neq,x,y=>QB (x != y)
 | .lss,x,y=>QB (x<y)
 | .leq,x,y=>QB (x<=y)
 | .gtr,x,y=>QB (x>y)
 | .geq,x,y=>QB (x>=y)
 | _,_,_=>QC
def wJ(k:IntKind):BinOp->Int->Int->Option Int
 | .add,x,y=>QB (k.wrap (x+y))
 | .sub,x,y=>QB (k.wrap (x-y))
 | .mul,x,y=>QB (k.wrap (x*y))
 | _,_,_=>QC
def divI(k:IntKind):BinOp->Int->Int->Option Int
 | .quo,x,y=>if y=0 then QC else QB (k.wrap (x.tdiv y))
 | .rem,x,y=>if y=0 then QC else QB (x.tmod y)
 | _,_,_=>QC
def Ds(k:IntKind):BinOp->Int->Int->Option Int
 | .and,x,y=>QB (k.wrap ((BitVec.ofInt k.bits x&&& BitVec.ofInt k.bits y).toNat))
 | .or,x,y=>QB (k.wrap ((BitVec.ofInt k.bits x||| BitVec.ofInt k.bits y).toNat))
 | .xor,x,y=>QB (k.wrap ((BitVec.ofInt k.bits x ^^^ BitVec.ofInt k.bits y).toNat))
 | .andNot,x,y=>QB (k.wrap ((BitVec.ofInt k.bits x&&& ~~~BitVec.ofInt k.bits y).toNat))
 | _,_,_=>QC
def i2(v u:Value)(f:IntKind->Int->Int->Option Value):Option Value:=
 (vI v).bind λp=>(vI u).bind λq=>if p.1=q.1 then f p.1 p.2 q.2 else QC
def Bn.ev(o:Bn)(v u:Value):Option Value:=
 match o with
 | .arith op=>i2 v u λk a b=>(wJ k op a b).map (.int k)
 | .div op=>i2 v u λk a b=>(divI k op a b).map (.int k)
 | .bits op=>i2 v u λk a b=>(Ds k op a b).map (.int k)
 | .cmp op=>i2 v u λ_ a b=>(cmpI op a b).map .bool
 | .min=>i2 v u λk a b=>QB (.int k (if b<a then b else a))
 | .max=>i2 v u λk a b=>QB (.int k (if a<b then b else a))
 | .eqB neg=>(vB v).bind λa=>(vB u).map λb=>.bool ((a == b) != neg)
 | .eqS neg=>(vS v).bind λa=>(vS u).map λb=>.bool ((a.toList == b.toList) != neg)
 | .cat=>(vS v).bind λa=>(vS u).bind λb=>if a.size+b.size<=9223372036854775807 then QB (.string (a++b)) else QC
 | .idx sz=>(vL v).bind λp=>(vI u).bind λq=>p.1.bind λa=>if 0<=q.2/\q.2<p.2.1 then QB (QE (QB (a.add (q.2.toNat*sz)))) else QC
 | .aidx n sz=>(vP v).bind λa=>(vI u).bind λq=>if 0<=q.2/\q.2<n then QB (QE (QB (a.add (q.2.toNat*sz)))) else QC
 | .idxA n sz agg=>(vA v).bind λcs=>(vI u).bind λq=>if 0<=q.2/\q.2<n then(if agg then QB (.agg (cs.extract (q.2.toNat*sz) (q.2.toNat*sz+sz))) else cs[q.2.toNat*sz]?) else QC
 | .idxS=>(vS v).bind λs=>(vI u).bind λq=>if 0<=q.2 then(s[q.2.toNat]?).map λb=>.int .u8 b.toNat else QC
 | .hi=>(vL v).bind λp=>(vI u).bind λq=>if 0<=q.2/\q.2<=p.2.2 then QB (.slice p.1 q.2.toNat p.2.2) else QC
 | .lo sz=>(vL v).bind λp=>(vI u).bind λq=>if 0<=q.2/\q.2<=p.2.1 then QB (.slice (if p.2.2=q.2.toNat then p.1 else p.1.map (·.add (q.2.toNat*sz))) (p.2.1-q.2.toNat) (p.2.2-q.2.toNat)) else QC
 | .hiS=>(vS v).bind λs=>(vI u).bind λq=>if 0<=q.2/\q.2<=s.size then QB (.string (s.extract 0 q.2.toNat)) else QC
 | .loS=>(vS v).bind λs=>(vI u).bind λq=>if 0<=q.2/\q.2<=s.size then QB (.string (s.extract q.2.toNat s.size)) else QC
def ev(ρ:Nat->Option Value)(h:View):E->Option Value
 | .tmp t=>ρ t
 | .con v=>QB v
 | .un o x=>match ev ρ h x with
  | some v=>o.ev h v
  | none=>QC
 | .bin o x y=>match ev ρ h x,ev ρ h y with
  | some v,QB u=>o.ev v u
  | _,_=>QC
 | .snoc x y=>match ev ρ h x,ev ρ h y with
  | some (.tuple vs),QB u=>QB (.tuple (vs.push u))
  | _,_=>QC
 | .ite c x y=>match ev ρ h c with
  | some (.bool QF)=>ev ρ h x
  | some (.bool QG)=>ev ρ h y
  | _=>QC
 | .gd c b x=>match ev ρ h c with
  | some (.bool QF)=>if b then ev ρ h x else QB undef
  | some (.bool QG)=>if b then QB undef else ev ρ h x
  | some _=>QB undef
  | none=>QC
def Un.reads:Un->Bool
 | .load | .ax _ | .lenMap=>QF
 | _=>QG
def E.reads:E->Bool
 | .tmp _ | .con _=>QG
 | .un o x=>o.reads||x.reads
 | .bin _ x y | .snoc x y=>x.reads||y.reads
 | .ite c x y=>c.reads||x.reads||y.reads
 | .gd c _ x=>c.reads||x.reads
theorem Un.iM{o:Un}(ho:o.reads=QG)(h h':View)(v:Value):o.ev h v=o.ev h' v:=by cases o<;>simp[Un.reads]at ho<;>rfl
theorem iM{ρ:Nat->Option Value}{h h':View} : ∀{e:E},e.reads=QG->ev ρ h e=ev ρ h' e
 | .tmp _,_=>rfl
 | .con _,_=>rfl
 | .un o x,hr=>by
  simp only[E.reads,NV]at hr;simp only[ev,iM (h:=h) (h':=h') hr.2];split
  ·exact Un.iM hr.1 _ _ _
  rfl
 | .bin o x y,hr=>by simp only[E.reads,NV]at hr;simp only[ev,iM (h:=h) (h':=h') hr.1,iM (h:=h) (h':=h') hr.2]
 | .snoc x y,hr=>by simp only[E.reads,NV]at hr;simp only[ev,iM (h:=h) (h':=h') hr.1,iM (h:=h) (h':=h') hr.2]
 | .ite c x y,hr=>by simp only[E.reads,NV]at hr;simp only[ev,iM (h:=h) (h':=h') hr.1.1,iM (h:=h) (h':=h') hr.1.2,iM (h:=h) (h':=h') hr.2]
 | .gd c b x,hr=>by simp only[E.reads,NV]at hr;simp only[ev,iM (h:=h) (h':=h') hr.1,iM (h:=h) (h':=h') hr.2]
theorem View.le_refl(H:View):H.le H:=λ_ _ h=>h
variable{H K:View}
theorem View.le_trans{L:View}(h:H.le K)(k:K.le L):H.le L:=λb o e=>k b o (h b o e)
theorem ae(hk:H.le K){a:Addr}{v:Value}(h:aj H a=QB v):aj K a=QB v:=by
 unfold aj at *;cases hb:H a.block with
 | none=>simp[hb]at h
 | some o=>simp only[hb]at h;simp only[hk _ _ hb];exact h
theorem oD{H K:View}(hk:H.le K){a:Addr} : ∀{n i:Nat} {acc cs:Array Value},dy H a i n acc=QB cs->dy K a i n acc=QB cs
 | 0,_,_,_,h=>h
 | n+1,i,acc,cs,h=>by
  simp only[dy]at *;cases hc:aj H (a.add i)with
  | none=>simp[hc]at h
  | some v=>simp only[hc]at h;simp only[ae hk hc];exact oD hk h
theorem DZ(hk:H.le K){r:Nat}{p:Array MapEntry × Nat}(h:mapH H r=QB p):mapH K r=QB p:=by
 unfold mapH at *;cases hb:H r with
 | none=>simp[hb]at h
 | some o=>simp only[hb]at h;simp only[hk _ _ hb];exact h
theorem Un.dF(hk:H.le K){o:Un}{v u:Value}(h:o.ev H v=QB u):o.ev K v=QB u:=by
 cases o<;>first | exact h | skip
 case load=>simp only[Un.ev,Nh]at *;obtain⟨a,ha,hc⟩:=h;exact⟨a,ha,ae hk hc⟩
 case ax n=>simp only[Un.ev,Nh,M5]at *;obtain⟨a,ha,cs,hc,he⟩:=h;exact⟨a,ha,cs,oD hk hc,he⟩
 case lenMap=>
  simp only[Un.ev,Nh]at *;obtain⟨r,hr,h⟩:=h;refine⟨r,hr,?_⟩;cases r with
  | none=>exact h
  | some r=>simp only[M5]at *;obtain⟨p,hp,he⟩:=h;exact⟨p,DZ hk hp,he⟩
theorem dF{ρ:Nat->Option Value}{H K:View}(hk:H.le K) : ∀{e:E} {v:Value},ev ρ H e=QB v->ev ρ K e=QB v
 | .tmp _,_,h=>h
 | .con _,_,h=>h
 | .un o x,v,h=>by
  simp only[ev]at *;split at h
  ·rename_i u hu;simp only[dF hk hu];exact Un.dF hk h
  cases h
 | .bin o x y,v,h=>by
  simp only[ev]at *;split at h
  ·rename_i u u' hu hu';simp only[dF hk hu,dF hk hu'];exact h
  cases h
 | .snoc x y,v,h=>by
  simp only[ev]at *;split at h
  ·rename_i u u' hu hu';simp only[dF hk hu,dF hk hu'];exact h
  cases h
 | .ite c x y,v,h=>by
  simp only[ev]at *;split at h
  ·rename_i hu;simp only[dF hk hu];exact dF hk h
  ·rename_i hu;simp only[dF hk hu];exact dF hk h
  cases h
 | .gd c b x,v,h=>by
  simp only[ev]at *;split at h
  ·rename_i hu;simp only[dF hk hu];split at h
   ·rename_i hb;simp only[hb,if_true];exact dF hk h
   rename_i hb;simp only[hb];exact h
  ·rename_i hu;simp only[dF hk hu];split at h
   ·rename_i hb;simp only[hb,if_true];exact h
   rename_i hb;simp only[hb];exact dF hk h
  ·rename_i u h1 h2 hu;simp only[dF hk hu];exact h
  cases h
def View.sub(H K:View):Prop:=∀b o,H b=QB o->∃o',K b=QB o'/\(o'=o\/∃c c' t fz,o = .cells c t fz/\o' = .cells c' t fz/\∃r:List Value,c'.toList=c.toList++r)
theorem View.tj(h:H.le K):H.sub K:=λb o hb=>⟨o,h b o hb,.inl rfl⟩
theorem yh(hk:H.sub K){a:Addr}{v:Value}(h:aj H a=QB v):aj K a=QB v:=by
 unfold aj at *;cases hb:H a.block with
 | none=>simp[hb]at h
 | some o=>
  simp only[hb]at h;obtain⟨o',h1,h2⟩:=hk _ _ hb;simp only[h1];rcases h2 with rfl | ⟨c,c',t,fz,rfl,rfl,r,hr⟩
  ·exact h
  simp only at h ⊢;split at h
  ·cases h
  rename_i hs;rw[if_neg hs];rw[<-Array.getElem?_toList]at h ⊢;rw[hr,P2 (by
   rcases M0 a.off c.toList.length with hl | hl
   ·exact hl
   rw[NL hl]at h;cases h)];exact h
theorem pI{H K:View}(hk:H.sub K){a:Addr} : ∀{n i:Nat} {acc cs:Array Value},dy H a i n acc=QB cs->dy K a i n acc=QB cs
 | 0,_,_,_,h=>h
 | n+1,i,acc,cs,h=>by
  simp only[dy]at *;cases hc:aj H (a.add i)with
  | none=>simp[hc]at h
  | some v=>simp only[hc]at h;simp only[yh hk hc];exact pI hk h
theorem Hn(hk:H.sub K){r:Nat}{p:Array MapEntry × Nat}(h:mapH H r=QB p):mapH K r=QB p:=by
 unfold mapH at *;cases hb:H r with
 | none=>simp[hb]at h
 | some o=>
  simp only[hb]at h;obtain⟨o',h1,h2⟩:=hk _ _ hb;simp only[h1];rcases h2 with rfl | ⟨c,c',t,fz,rfl,rfl,r,hr⟩
  ·exact h
  cases h
theorem Un.gG(hk:H.sub K){o:Un}{v u:Value}(h:o.ev H v=QB u):o.ev K v=QB u:=by
 cases o<;>first | exact h | skip
 case load=>simp only[Un.ev,Nh]at *;obtain⟨a,ha,hc⟩:=h;exact⟨a,ha,yh hk hc⟩
 case ax n=>simp only[Un.ev,Nh,M5]at *;obtain⟨a,ha,cs,hc,he⟩:=h;exact⟨a,ha,cs,pI hk hc,he⟩
 case lenMap=>
  simp only[Un.ev,Nh]at *;obtain⟨r,hr,h⟩:=h;refine⟨r,hr,?_⟩;cases r with
  | none=>exact h
  | some r=>simp only[M5]at *;obtain⟨p,hp,he⟩:=h;exact⟨p,Hn hk hp,he⟩
theorem gG{ρ:Nat->Option Value}{H K:View}(hk:H.sub K) : ∀{e:E} {v:Value},ev ρ H e=QB v->ev ρ K e=QB v
 | .tmp _,_,h=>h
 | .con _,_,h=>h
 | .un o x,v,h=>by
  simp only[ev]at *;split at h
  ·rename_i u hu;simp only[gG hk hu];exact Un.gG hk h
  cases h
 | .bin o x y,v,h=>by
  simp only[ev]at *;split at h
  ·rename_i u u' hu hu';simp only[gG hk hu,gG hk hu'];exact h
  cases h
 | .snoc x y,v,h=>by
  simp only[ev]at *;split at h
  ·rename_i u u' hu hu';simp only[gG hk hu,gG hk hu'];exact h
  cases h
 | .ite c x y,v,h=>by
  simp only[ev]at *;split at h
  ·rename_i hu;simp only[gG hk hu];exact gG hk h
  ·rename_i hu;simp only[gG hk hu];exact gG hk h
  cases h
 | .gd c b x,v,h=>by
  simp only[ev]at *;split at h
  ·rename_i hu;simp only[gG hk hu];split at h
   ·rename_i hb;simp only[hb,if_true];exact gG hk h
   rename_i hb;simp only[hb];exact h
  ·rename_i hu;simp only[gG hk hu];split at h
   ·rename_i hb;simp only[hb,if_true];exact h
   rename_i hb;simp only[hb];exact gG hk h
  ·rename_i u h1 h2 hu;simp only[gG hk hu];exact h
  cases h
def opnd:Operand->E
 | .tmp t=>.tmp t
 | .const v=>.con v
 | .global g=>.con (QE (QB ⟨g,0,QC⟩))
 | .func f=>.con (.func (.func f) #[] #[])
def rq(P:Program)(t:TypeId):Option Bool:=
 match P.underlying t with
 | some (.struct _) | some (.array _ _)=>QB QF
 | some _=>QB QG
 | none=>QC
def dp(P:Program)(t:TypeId):Option Nat:=(P.info? t).map (·.size)
def wE(P:Program)(t:TypeId)(x:E):Option E:=
 match rq P t,dp P t with
 | some QF,QB n=>QB (.un (.ax n) x)
 | some QG,QB _=>QB (.un .load x)
 | _,_=>QC
def opE(P:Program):Op->Option E
 | .move x | .assign x=>QB (opnd x)
 | .pick c a b=>QB (.ite (opnd c) (opnd a) (opnd b))
 | .unOp .not _ x=>QB (.un .not (opnd x))
 | .binOp op t x y _=>
  match P.underlying t,op with
  | some (.int _),.add | some (.int _),.sub | some (.int _),.mul=>QB (.bin (.arith op) (opnd x) (opnd y))
  | some (.int _),.quo | some (.int _),.rem=>QB (.bin (.div op) (opnd x) (opnd y))
  | some (.int _),.and | some (.int _),.or | some (.int _),.xor | some (.int _),.andNot=>QB (.bin (.bits op) (opnd x) (opnd y))
  | some (.int _),.eql | some (.int _),.neq | some (.int _),.lss | some (.int _),.leq | some (.int _),.gtr | some (.int _),.geq=>QB (.bin (.cmp op) (opnd x) (opnd y))
  | some .bool,.eql=>QB (.bin (.eqB QG) (opnd x) (opnd y))
  | some .bool,.neq=>QB (.bin (.eqB QF) (opnd x) (opnd y))
  | some .string,.add=>QB (.bin .cat (opnd x) (opnd y))
  | some .string,.eql=>QB (.bin (.eqS QG) (opnd x) (opnd y))
  | some .string,.neq=>QB (.bin (.eqS QF) (opnd x) (opnd y))
  | _,_=>QC
 | .load t a=>wE P t (opnd a)
 | .nilCheck x=>QB (.un .nilPtr (opnd x))
 | .fieldAddr s x f=>
  match P.underlying s with
  | some (.struct fields)=>match fields[f]? with
   | some g=>match dp P g.type with
    | some (_+1)=>QB (.un (.fld g.offset) (opnd x))
    | _=>QC
   | none=>QC
  | _=>QC
 | .field s x f=>
  match P.underlying s with
  | some (.struct fields)=>match fields[f]? with
   | some g=>match rq P g.type,dp P g.type with
    | some QF,QB n=>QB (.un (.parts g.offset n) (opnd x))
    | some QG,QB _=>QB (.un (.part g.offset) (opnd x))
    | _,_=>QC
   | none=>QC
  | _=>QC
 | .indexAddr t x i=>
  match P.underlying t with
  | some (.slice e)=>(dp P e).map λn=>.bin (.idx n) (opnd x) (opnd i)
  | some (.array k e)=>if k<=1 then QC else(dp P e).map λn=>.bin (.aidx k n) (opnd x) (opnd i)
  | _=>QC
 | .extract x i=>QB (.un (.ext i) (opnd x))
 | .convert s d x=>
  match P.underlying s,P.underlying d with
  | some (.int _),QB (.int k)=>QB (.un (.conv k) (opnd x))
  | _,_=>QC
 | .makeFunc (.func f) first captured=>if first.isEmpty then QB (.un (.fn f) (captured.toList.foldl (λe x=>.snoc e (opnd x)) (.con (.tuple #[])))) else QC
 | .call { callee:=.builtin .len,args,argTypes }=>
  match args.toList,argTypes[0]? with
  | [x],QB t=>match P.underlying t with
   | some (.slice _)=>QB (.un .len (opnd x))
   | some .string=>QB (.un .lenStr (opnd x))
   | some (.map _ _)=>QB (.un .lenMap (opnd x))
   | _=>QC
  | _,_=>QC
 | .call { callee:=.builtin .min,args,.. }=>
  match args.toList with
  | [x,y]=>QB (.bin .min (opnd x) (opnd y))
  | _=>QC
 | .call { callee:=.builtin .max,args,.. }=>
  match args.toList with
  | [x,y]=>QB (.bin .max (opnd x) (opnd y))
  | _=>QC
 | .slice t x lo hi QC=>
  match P.underlying t with
  | some (.slice e)=>match dp P e with
   | some n=>
    let x1:=match hi with | some j=>.bin .hi (opnd x) (opnd j) | none=>opnd x
    match lo with
    | some i=>QB (.bin (.lo n) x1 (opnd i))
    | none=>match hi with | some _=>QB x1 | none=>QC
   | none=>QC
  | _=>QC
 | _=>QC
section
variable{P:Program}{w:World}
variable{b:Bool}
theorem qg{t:TypeId}(h:rq P t=QB b):(isAgg t).run P w = .ok b w:=by
 unfold rq at h;cases hu:P.underlying t with
 | none=>simp[hu]at h
 | some d=>cases d<;>simp[hu]at h<;>subst h<;>simp[isAgg,run_underlying hu]
variable{n:Nat}
theorem run_sizeOf{t:TypeId}(h:dp P t=QB n):(sizeOf t).run P w = .ok n w:=by
 unfold dp at h;cases hu:P.info? t with
 | none=>simp[hu]at h
 | some i=>simp[hu]at h;subst h;simp[sizeOf,typeInfo,hu]
theorem run_loadCellsFrom(a:Addr) : ∀(n i:Nat) (acc cs:Array Value),dy (vw w.heap) a i n acc=QB cs->(loadCellsFrom a i n acc).run P w = .ok cs w
 | 0,i,acc,cs,h=>by simp[dy]at h;subst h;simp[loadCellsFrom]
 | n+1,i,acc,cs,h=>by
  unfold dy at h;cases hc:aj (vw w.heap) (a.add i)with
  | none=>simp[hc]at h
  | some v=>simp only[hc]at h;have hc':w.cell? (a.add i)=QB v:=hc;simp[loadCellsFrom,hc',run_loadCellsFrom a n (i+1) (acc.push v) cs h]
theorem run_load{t:TypeId}{x:E}{e:E}{ρ:Nat->Option Value}{v u:Value}(he:wE P t x=QB e)(hx:ev ρ (vw w.heap) x=QB u)(hv:ev ρ (vw w.heap) e=QB v):
  (Instr.loadAt t u).run P w = .ok v w:=by
 unfold wE at he;cases ha:rq P t with
 | none=>simp[ha]at he
 | some b=>
  cases hs:dp P t with
  | none=>cases b<;>simp[ha,hs]at he
  | some n=>
   cases b
   ·simp[ha,hs]at he;subst he;simp only[ev,hx]at hv;cases u<;>simp[Un.ev,vP]at hv;rename_i a;cases a with
    | none=>simp at hv
    | some a=>simp only[Nn]at hv;have hc:w.cell? a=QB v:=hv;simp[Instr.loadAt,Instr.sureAddr,loadVar,qg ha,hc]
   simp[ha,hs]at he;subst he;simp only[ev,hx]at hv;cases u<;>simp[Un.ev,vP]at hv;rename_i a;cases a with
   | none=>simp at hv
   | some a=>simp only[Nn,M5]at hv;obtain⟨cs,hcs,rfl⟩:=hv;have:=run_loadCellsFrom (P:=P) (w:=w) a n 0 #[] cs hcs;simp[Instr.loadAt,Instr.sureAddr,loadVar,qg ha,run_sizeOf hs,loadCells,this]
abbrev bC(a:Act):Nat->Option Value:=λt=>a.tmps[t]?
theorem bf{a:Act}{h:View}{x:Operand}{v:Value}(hv:ev (bC a) h (opnd x)=QB v):a.eval x=v:=by
 cases x with
 | tmp t=>simp only[opnd,ev,bC]at hv;simp[Act.eval,hv]
 | const u=>simp only[opnd,ev,MX]at hv;simp[Act.eval,hv]
 | global g=>simp only[opnd,ev,MX]at hv;simp[Act.eval,hv]
 | func f=>simp only[opnd,ev,MX]at hv;simp[Act.eval,hv]
theorem qe{v:Value}{p:IntKind × Int}(h:vI v=QB p):v = .int p.1 p.2:=by cases v<;>simp[vI]at h;subst h;rfl
theorem zh{v:Value}{p:Bool}(h:vB v=QB p):v = .bool p:=by cases v<;>simp[vB]at h;subst h;rfl
theorem sk{v:Value}{p:ByteArray}(h:vS v=QB p):v = .string p:=by cases v<;>simp[vS]at h;subst h;rfl
theorem yW{v:Value}{p:Addr}(h:vP v=QB p):v = QE (QB p):=by cases v<;>simp[vP]at h;rename_i a;cases a<;>simp at h;subst h;rfl
theorem sA{v:Value}{p:Option Addr × Nat × Nat}(h:vL v=QB p):v = .slice p.1 p.2.1 p.2.2:=by cases v<;>simp[vL]at h;subst h;rfl
theorem CX{v:Value}{p:Array Value}(h:vA v=QB p):v = .agg p:=by cases v<;>simp[vA]at h;subst h;rfl
theorem Dq{v:Value}{p:Array Value}(h:vT v=QB p):v = .tuple p:=by cases v<;>simp[vT]at h;subst h;rfl
theorem Jr{v:Value}{p:Option Nat}(h:vM v=QB p):v = .map p:=by cases v<;>simp[vM]at h;subst h;rfl
theorem kc{ρ:Nat->Option Value}{h:View}{o:Un}{x:E}{v:Value}(hv:ev ρ h (.un o x)=QB v): ∃u,ev ρ h x=QB u/\o.ev h u=QB v:=by
 simp only[ev]at hv;split at hv
 ·exact⟨_,by assumption,hv⟩
 cases hv
theorem ig{ρ:Nat->Option Value}{h:View}{o:Bn}{x y:E}{v:Value}(hv:ev ρ h (.bin o x y)=QB v): ∃u u',ev ρ h x=QB u/\ev ρ h y=QB u'/\o.ev u u'=QB v:=by
 simp only[ev]at hv;split at hv
 ·exact⟨_,_,by assumption,by assumption,hv⟩
 cases hv
theorem qy{v u r:Value}{f:IntKind->Int->Int->Option Value}(h:i2 v u f=QB r): ∃k a b,v = .int k a/\u = .int k b/\f k a b=QB r:=by
 simp only[i2,Nh]at h;obtain⟨p,hp,q,hq,h⟩:=h;split at h
 ·rename_i e;exact⟨p.1,p.2,q.2,qe hp,by rw[e];exact qe hq,h⟩
 cases h
section binops
variable{o:Oper}{a:Act}{v:Value}{x y:Operand}{t u:TypeId}{op:BinOp}{n:Bool}
theorem EK(ho:o.op = .binOp op t x y u)(hv:ev (bC a) (vw w.heap) (.bin (.cmp op) (opnd x) (opnd y))=QB v):(execOp a.eval o).run P w = .ok (.value v) w:=by obtain⟨p,q,hp,hq,hpq⟩:=ig hv;simp only[Bn.ev]at hpq;obtain⟨k,i,j,rfl,rfl,h⟩:=qy hpq;simp only[M5]at h;obtain⟨b,hb,rfl⟩:=h;have e1:=bf hp;have e2:=bf hq;cases op<;>simp[cmpI]at hb<;>subst hb<;>simp[execOp,ho,eqGuard,e1,e2,binOp,Op.intCmp]
theorem Br(ho:o.op = .binOp op t x y u)(hv:ev (bC a) (vw w.heap) (.bin (.arith op) (opnd x) (opnd y))=QB v):(execOp a.eval o).run P w = .ok (.value v) w:=by obtain⟨p,q,hp,hq,hpq⟩:=ig hv;simp only[Bn.ev]at hpq;obtain⟨k,i,j,rfl,rfl,h⟩:=qy hpq;simp only[M5]at h;obtain⟨b,hb,rfl⟩:=h;have e1:=bf hp;have e2:=bf hq;cases op<;>simp[wJ]at hb<;>subst hb<;>simp[execOp,ho,eqGuard,e1,e2,binOp,Op.intArith]
theorem Ei(ho:o.op = .binOp op t x y u)(hv:ev (bC a) (vw w.heap) (.bin (.div op) (opnd x) (opnd y))=QB v):(execOp a.eval o).run P w = .ok (.value v) w:=by obtain⟨p,q,hp,hq,hpq⟩:=ig hv;simp only[Bn.ev]at hpq;obtain⟨k,i,j,rfl,rfl,h⟩:=qy hpq;simp only[M5]at h;obtain⟨b,hb,rfl⟩:=h;have e1:=bf hp;have e2:=bf hq;cases op<;>simp[divI]at hb<;>obtain⟨hz,rfl⟩:=hb<;>simp[execOp,ho,eqGuard,e1,e2,binOp,Op.intDiv,hz]
theorem Cu(ho:o.op = .binOp op t x y u)(hv:ev (bC a) (vw w.heap) (.bin (.bits op) (opnd x) (opnd y))=QB v):(execOp a.eval o).run P w = .ok (.value v) w:=by obtain⟨p,q,hp,hq,hpq⟩:=ig hv;simp only[Bn.ev]at hpq;obtain⟨k,i,j,rfl,rfl,h⟩:=qy hpq;simp only[M5]at h;obtain⟨b,hb,rfl⟩:=h;have e1:=bf hp;have e2:=bf hq;cases op<;>simp only[Ds,MX,reduceCtorEq]at hb<;>subst hb<;>simp[execOp,ho,eqGuard,e1,e2,binOp,Op.intBits]
theorem run_equal_bool(hu:P.underlying t=QB .bool)(i j:Bool):(Op.equal t (.bool i) (.bool j)).run P w = .ok (i == j) w:=by
 have key : ∀d,(Op.equalIn (d+1) t (.bool i) (.bool j)).run P w = .ok (i == j) w:=λd=>by simp only[Op.equalIn];simp[run_underlying hu]
 exact key 9999
theorem yc(hu:P.underlying t=QB .bool)(hop:op=if n then .neq else .eql)(ho:o.op = .binOp op t x y u)(hv:ev (bC a) (vw w.heap) (.bin (.eqB n) (opnd x) (opnd y))=QB v):(execOp a.eval o).run P w = .ok (.value v) w:=by obtain⟨p,q,hp,hq,hpq⟩:=ig hv;simp only[Bn.ev,Nh,M5]at hpq;obtain⟨i,hi,j,hj,rfl⟩:=hpq;obtain rfl:=zh hi;obtain rfl:=zh hj;have e1:=bf hp;have e2:=bf hq;have e3:=run_equal_bool (w:=w) hu i j;cases n<;>simp at hop<;>subst hop<;>simp[execOp,ho,eqGuard,e1,e2,binOp,e3]
theorem xO(hop:op=if n then .neq else .eql)(hu:P.underlying t=QB .string)(ho:o.op = .binOp op t x y u)(hv:ev (bC a) (vw w.heap) (.bin (.eqS n) (opnd x) (opnd y))=QB v):(execOp a.eval o).run P w = .ok (.value v) w:=by obtain⟨p,q,hp,hq,hpq⟩:=ig hv;simp only[Bn.ev,Nh,M5]at hpq;obtain⟨i,hi,j,hj,rfl⟩:=hpq;obtain rfl:=sk hi;obtain rfl:=sk hj;have e1:=bf hp;have e2:=bf hq;cases n<;>simp at hop<;>subst hop<;>simp[execOp,ho,eqGuard,e1,e2,binOp,Op.stringOp]
theorem D9(ho:o.op = .binOp .add t x y u)(hv:ev (bC a) (vw w.heap) (.bin .cat (opnd x) (opnd y))=QB v):(execOp a.eval o).run P w = .ok (.value v) w:=by
 obtain⟨p,q,hp,hq,hpq⟩:=ig hv;simp only[Bn.ev,Nh]at hpq;obtain⟨i,hi,j,hj,h⟩:=hpq;obtain rfl:=sk hi;obtain rfl:=sk hj;split at h
 ·rename_i hs;cases h;have e1:=bf hp;have e2:=bf hq;have:((i.size:Int)+j.size)<=9223372036854775807:=by omega
  simp[execOp,ho,eqGuard,e1,e2,binOp,Op.stringOp,IntKind.max,IntKind.signed,IntKind.bits];exact this
 cases h
end binops
end
section
variable{P:Program}{w:World}{o:Oper}{a:Act}{v:Value}
theorem Cs{x:Operand}(ho:o.op = .move x)(hv:ev (bC a) (vw w.heap) (opnd x)=QB v):(execOp a.eval o).run P w = .ok (.value v) w:=by simp[execOp,ho,bf hv]
theorem y9{x:Operand}(ho:o.op = .assign x)(hv:ev (bC a) (vw w.heap) (opnd x)=QB v):(execOp a.eval o).run P w = .ok (.value v) w:=by simp[execOp,ho,bf hv]
theorem Cw{c x y:Operand}(ho:o.op = .pick c x y)(hv:ev (bC a) (vw w.heap) (.ite (opnd c) (opnd x) (opnd y))=QB v):(execOp a.eval o).run P w = .ok (.value v) w:=by
 simp only[ev]at hv;split at hv
 ·rename_i hc;simp[execOp,ho,bf hc,asBool,bf hv]
 ·rename_i hc;simp[execOp,ho,bf hc,asBool,bf hv]
 cases hv
theorem EI{t:TypeId}{x:Operand}(ho:o.op = .unOp .not t x)(hv:ev (bC a) (vw w.heap) (.un .not (opnd x))=QB v):(execOp a.eval o).run P w = .ok (.value v) w:=by obtain⟨u,hu,h⟩:=kc hv;simp only[Un.ev,M5]at h;obtain⟨b,hb,rfl⟩:=h;obtain rfl:=zh hb;simp[execOp,ho,bf hu,Op.unary]
theorem D3{x:Operand}(ho:o.op = .nilCheck x)(hv:ev (bC a) (vw w.heap) (.un .nilPtr (opnd x))=QB v):(execOp a.eval o).run P w = .ok (.value v) w:=by obtain⟨u,hu,h⟩:=kc hv;simp only[Un.ev,M5]at h;obtain⟨b,hb,rfl⟩:=h;obtain rfl:=yW hb;simp[execOp,ho,bf hu]
theorem Ef{x:Operand}{i:Nat}(ho:o.op = .extract x i)(hv:ev (bC a) (vw w.heap) (.un (.ext i) (opnd x))=QB v):(execOp a.eval o).run P w = .ok (.value v) w:=by obtain⟨u,hu,h⟩:=kc hv;simp only[Un.ev,Nh]at h;obtain⟨b,hb,h⟩:=h;obtain rfl:=Dq hb;simp[execOp,ho,bf hu,Instr.extract,h]
theorem BM{s d:TypeId}{x:Operand}{k k':IntKind}(hs:P.underlying s=QB (.int k'))(hd:P.underlying d=QB (.int k))(ho:o.op = .convert s d x)(hv:ev (bC a) (vw w.heap) (.un (.conv k) (opnd x))=QB v):(execOp a.eval o).run P w = .ok (.value v) w:=by obtain⟨u,hu,h⟩:=kc hv;simp only[Un.ev,M5]at h;obtain⟨b,hb,rfl⟩:=h;obtain h1:=qe hb;subst h1;simp[execOp,ho,bf hu,convert,run_underlying hs,run_underlying hd,Conv.intToInt]
variable{n:Nat}{fields:Array Field}
theorem uS{s:TypeId}{x:Operand}{f:Nat}{g:Field}(hs:P.underlying s=QB (.struct fields))(hf:fields[f]? = QB g)(hz:dp P g.type=QB (n+1))(ho:o.op = .fieldAddr s x f)(hv:ev (bC a) (vw w.heap) (.un (.fld g.offset) (opnd x))=QB v):(execOp a.eval o).run P w = .ok (.value v) w:=by obtain⟨u,hu,h⟩:=kc hv;simp only[Un.ev,M5]at h;obtain⟨b,hb,rfl⟩:=h;obtain rfl:=yW hb;simp[execOp,ho,bf hu,Instr.fieldAt,run_underlying hs,hf,Instr.sureAddr,fieldPlace,run_sizeOf hz]
theorem Cz{s:TypeId}{x:Operand}{f:Nat}{g:Field}(hs:P.underlying s=QB (.struct fields))(hf:fields[f]? = QB g)(ha:rq P g.type=QB QG)(_hz:dp P g.type=QB n)(ho:o.op = .field s x f)(hv:ev (bC a) (vw w.heap) (.un (.part g.offset) (opnd x))=QB v):(execOp a.eval o).run P w = .ok (.value v) w:=by obtain⟨u,hu,h⟩:=kc hv;simp only[Un.ev,Nh]at h;obtain⟨b,hb,h⟩:=h;obtain rfl:=CX hb;simp[execOp,ho,bf hu,Instr.field,run_underlying hs,hf,asAgg,part,qg ha,h]
theorem Bw{s:TypeId}{x:Operand}{f:Nat}{g:Field}(hs:P.underlying s=QB (.struct fields))(hf:fields[f]? = QB g)(ha:rq P g.type=QB QF)(hz:dp P g.type=QB n)(ho:o.op = .field s x f)(hv:ev (bC a) (vw w.heap) (.un (.parts g.offset n) (opnd x))=QB v):(execOp a.eval o).run P w = .ok (.value v) w:=by obtain⟨u,hu,h⟩:=kc hv;simp only[Un.ev,M5]at h;obtain⟨b,hb,rfl⟩:=h;obtain rfl:=CX hb;simp[execOp,ho,bf hu,Instr.field,run_underlying hs,hf,asAgg,part,qg ha,run_sizeOf hz]
theorem D1{t e:TypeId}{x i:Operand}(ht:P.underlying t=QB (.slice e))(hz:dp P e=QB n)(ho:o.op = .indexAddr t x i)(hv:ev (bC a) (vw w.heap) (.bin (.idx n) (opnd x) (opnd i))=QB v):(execOp a.eval o).run P w = .ok (.value v) w:=by
 obtain⟨p,q,hp,hq,h⟩:=ig hv;simp only[Bn.ev,Nh]at h;obtain⟨l,hl,k,hk,d,hd,h⟩:=h;obtain rfl:=sA hl;have hk':=qe hk;split at h
 ·rename_i hb;simp only[MX]at h;subst h;have e1:=bf hp;have e2:=bf hq;rw[hk']at e2;simp[execOp,ho,e1,e2,Instr.indexAt,asIntOf,run_underlying ht,hd,hb.1,hb.2,run_sizeOf hz]
 cases h
theorem CH{t e:TypeId}{x i:Operand}{m:Nat}(ht:P.underlying t=QB (.array m e))(hz:dp P e=QB n)(ho:o.op = .indexAddr t x i)(hv:ev (bC a) (vw w.heap) (.bin (.aidx m n) (opnd x) (opnd i))=QB v):(execOp a.eval o).run P w = .ok (.value v) w:=by
 obtain⟨p,q,hp,hq,h⟩:=ig hv;simp only[Bn.ev,Nh]at h;obtain⟨l,hl,k,hk,h⟩:=h;obtain rfl:=yW hl;have hk':=qe hk;split at h
 ·rename_i hb;simp only[MX]at h;subst h;have e1:=bf hp;have e2:=bf hq;rw[hk']at e2;simp[execOp,ho,e1,e2,Instr.indexAt,asIntOf,run_underlying ht,Instr.sureAddr,hb.1,hb.2,run_sizeOf hz]
 cases h
theorem EW{T:Array TypeId}{t e:TypeId}{x:Operand}{A:Array Operand}(hT:T[0]? = QB t)(hA:A.toList=[x])(ht:P.underlying t=QB (.slice e))(ho:o.op = .call { callee:=.builtin .len,args:=A,argTypes:=T })(hv:ev (bC a) (vw w.heap) (.un .len (opnd x))=QB v):(execOp a.eval o).run P w = .ok (.value v) w:=by
 obtain⟨u,hu,h⟩:=kc hv;simp only[Un.ev,M5]at h;obtain⟨l,hl,rfl⟩:=h;obtain rfl:=sA hl;have hA':A = #[x]:=by rw[<-Array.toArray_toList (xs:=A),hA]
 subst hA';simp[execOp,ho,resolve,invoke,builtin,Builtin.len_,hT,run_underlying ht,bf hu,goInt]
theorem y7{T:Array TypeId}{t:TypeId}{x:Operand}{A:Array Operand}(hT:T[0]? = QB t)(hA:A.toList=[x])(ht:P.underlying t=QB .string)(ho:o.op = .call { callee:=.builtin .len,args:=A,argTypes:=T })(hv:ev (bC a) (vw w.heap) (.un .lenStr (opnd x))=QB v):(execOp a.eval o).run P w = .ok (.value v) w:=by
 obtain⟨u,hu,h⟩:=kc hv;simp only[Un.ev,M5]at h;obtain⟨l,hl,rfl⟩:=h;obtain rfl:=sk hl;have hA':A = #[x]:=by rw[<-Array.toArray_toList (xs:=A),hA]
 subst hA';simp[execOp,ho,resolve,invoke,builtin,Builtin.len_,hT,run_underlying ht,bf hu,goInt]
theorem zj{T:Array TypeId}{t k e:TypeId}{x:Operand}{A:Array Operand}(hT:T[0]? = QB t)(hA:A.toList=[x])(ht:P.underlying t=QB (.map k e))(ho:o.op = .call { callee:=.builtin .len,args:=A,argTypes:=T })(hv:ev (bC a) (vw w.heap) (.un .lenMap (opnd x))=QB v):(execOp a.eval o).run P w = .ok (.value v) w:=by
 obtain⟨u,hu,h⟩:=kc hv;simp only[Un.ev,Nh]at h;obtain⟨l,hl,h⟩:=h;obtain rfl:=Jr hl;have hA':A = #[x]:=by rw[<-Array.toArray_toList (xs:=A),hA]
 subst hA';cases l with
 | none=>simp only[MX]at h;subst h;simp[execOp,ho,resolve,invoke,builtin,Builtin.len_,hT,run_underlying ht,bf hu,goInt]
 | some r=>
  simp only[M5,mapH,vw]at h;obtain⟨⟨es,c⟩,h1,rfl⟩:=h;split at h1
  ·rename_i es' c' hh;simp only[MX,Og]at h1;obtain⟨rfl,rfl⟩:=h1;simp[execOp,ho,resolve,invoke,builtin,Builtin.len_,hT,run_underlying ht,bf hu,goInt,getObj,Sem.run,hh]
  cases h1
theorem EH{T:Array TypeId}{x y:Operand}{A:Array Operand}(hA:A.toList=[x,y])(ho:o.op = .call { callee:=.builtin .min,args:=A,argTypes:=T })(hv:ev (bC a) (vw w.heap) (.bin .min (opnd x) (opnd y))=QB v):(execOp a.eval o).run P w = .ok (.value v) w:=by
 obtain⟨p,q,hp,hq,hpq⟩:=ig hv;simp only[Bn.ev]at hpq;obtain⟨k,i,j,rfl,rfl,h⟩:=qy hpq;simp only[MX]at h;subst h;have hA':A = #[x,y]:=by rw[<-Array.toArray_toList (xs:=A),hA]
 subst hA';simp[execOp,ho,resolve,invoke,builtin,Builtin.min_,Builtin.min2,bf hp,bf hq]
theorem E0{T:Array TypeId}{x y:Operand}{A:Array Operand}(hA:A.toList=[x,y])(ho:o.op = .call { callee:=.builtin .max,args:=A,argTypes:=T })(hv:ev (bC a) (vw w.heap) (.bin .max (opnd x) (opnd y))=QB v):(execOp a.eval o).run P w = .ok (.value v) w:=by
 obtain⟨p,q,hp,hq,hpq⟩:=ig hv;simp only[Bn.ev]at hpq;obtain⟨k,i,j,rfl,rfl,h⟩:=qy hpq;simp only[MX]at h;subst h;have hA':A = #[x,y]:=by rw[<-Array.toArray_toList (xs:=A),hA]
 subst hA';simp[execOp,ho,resolve,invoke,builtin,Builtin.max_,Builtin.max2,bf hp,bf hq]
theorem AT : ∀(l:List Operand) (e:E) (acc:Array Value) (v:Value),ev (bC a) (vw w.heap) e=QB (.tuple acc)->ev (bC a) (vw w.heap) (l.foldl (λe x=>.snoc e (opnd x)) e)=QB v->
  v = .tuple (acc++(l.map a.eval).toArray)
 | [],e,acc,v,h0,h=>by simp at h;rw[h0]at h;simp at h;subst h;simp
 | x::l,e,acc,v,h0,h=>by
  simp only[NF]at h;cases hx:ev (bC a) (vw w.heap) (opnd x)with
  | none=>
   exfalso;have : ∀(l:List Operand) (e:E),ev (bC a) (vw w.heap) e=QC->ev (bC a) (vw w.heap) (l.foldl (λe x=>.snoc e (opnd x)) e)=none:=by
    intro l;induction l with
    | nil=>intro e he;simpa using he
    | cons y l ih=>intro e he;simp only[NF];exact ih _ (by simp[ev,he])
   rw[this l _ (by simp[ev,h0,hx])]at h;cases h
  | some u=>have:=AT l (.snoc e (opnd x)) (acc.push u) v (by simp[ev,h0,hx]) h;rw[this,<-bf hx];simp
theorem FH{f:FuncId}{first captured:Array Operand}(hf:first.isEmpty=QF)(ho:o.op = .makeFunc (.func f) first captured)(hv:ev (bC a) (vw w.heap) (.un (.fn f) (captured.toList.foldl (λe x=>.snoc e (opnd x)) (.con (.tuple #[]))))=QB v):(execOp a.eval o).run P w = .ok (.value v) w:=by
 obtain⟨u,hu,h⟩:=kc hv;simp only[Un.ev,M5]at h;obtain⟨l,hl,rfl⟩:=h;obtain rfl:=Dq hl;have h1:=AT captured.toList _ #[] _ (by simp[ev]) hu;have hf':first = #[]:=by simpa using hf
 subst hf';simp only[Value.tuple.injEq]at h1;subst h1;have e:Array.map a.eval captured=(List.map a.eval captured.toList).toArray:=by rw[<-Array.toList_inj];simp
 simp[execOp,ho,Instr.makeFunc,e]
theorem run_sliceBound{i:Operand}{q:IntKind × Int}{u:Value}(hq:ev (bC a) (vw w.heap) (opnd i)=QB u)(hk:vI u=QB q)(y:Nat)(c:BoundsCode)(hb:0<=q.2/\q.2<=y):
  (Instr.sliceBound (a.eval i) y c).run P w = .ok q.2.toNat w:=by have h1:=qe hk;rw[bf hq,h1];simp[Instr.sliceBound,asIntOf,hb.1,hb.2]
theorem FZ{t e:TypeId}{x j:Operand}(ht:P.underlying t=QB (.slice e))(hz:dp P e=QB n)(ho:o.op = .slice t x QC (QB j) QC)(hv:ev (bC a) (vw w.heap) (.bin .hi (opnd x) (opnd j))=QB v):(execOp a.eval o).run P w = .ok (.value v) w:=by
 obtain⟨p,q,hp,hq,h⟩:=ig hv;simp only[Bn.ev,Nh]at h;obtain⟨l,hl,k,hk,h⟩:=h;obtain rfl:=sA hl;split at h
 ·rename_i hb;simp only[MX]at h;subst h;have e1:=bf hp;have e2:=run_sliceBound (P:=P) hq hk l.2.2 .sliceAcap hb;have e3:=run_sizeOf (w:=w) hz;obtain⟨b,len,cap⟩:=l;simp only at e2;cases b<;>simp[execOp,ho,e1,Instr.sliceAt,Instr.slice,run_underlying ht,Instr.sliceBounds,e2,e3,Addr.add]
 cases h
theorem Hf{t e:TypeId}{x i:Operand}(ht:P.underlying t=QB (.slice e))(hz:dp P e=QB n)(ho:o.op = .slice t x (QB i) QC QC)(hv:ev (bC a) (vw w.heap) (.bin (.lo n) (opnd x) (opnd i))=QB v):(execOp a.eval o).run P w = .ok (.value v) w:=by
 obtain⟨p,q,hp,hq,h⟩:=ig hv;simp only[Bn.ev,Nh]at h;obtain⟨l,hl,k,hk,h⟩:=h;obtain rfl:=sA hl;split at h
 ·rename_i hb;simp only[MX]at h;subst h;have e1:=bf hp;have e2:=run_sliceBound (P:=P) hq hk l.2.1 .sliceB hb;have e3:=run_sizeOf (w:=w) hz;obtain⟨b,len,cap⟩:=l;simp only at e2;simp[execOp,ho,e1,Instr.sliceAt,Instr.slice,run_underlying ht,Instr.sliceBounds,e2,e3]
 cases h
theorem CE{t e:TypeId}{x i j:Operand}(ht:P.underlying t=QB (.slice e))(hz:dp P e=QB n)(ho:o.op = .slice t x (QB i) (QB j) QC)(hv:ev (bC a) (vw w.heap) (.bin (.lo n) (.bin .hi (opnd x) (opnd j)) (opnd i))=QB v):(execOp a.eval o).run P w = .ok (.value v) w:=by
 obtain⟨p,q,hp,hq,h⟩:=ig hv;obtain⟨p',q',hp',hq',h'⟩:=ig hp;simp only[Bn.ev,Nh]at h h';obtain⟨l',hl',k',hk',h'⟩:=h';obtain rfl:=sA hl';split at h'
 ·rename_i hb';simp only[MX]at h';subst h';obtain⟨l,hl,k,hk,h⟩:=h;simp only[vL,MX]at hl;subst hl;split at h
  ·rename_i hb;simp only[MX]at h;subst h;have e1:=bf hp';have e2:=run_sliceBound (P:=P) hq hk k'.2.toNat .sliceB hb;have e2':=run_sliceBound (P:=P) hq' hk' l'.2.2 .sliceAcap hb';have e3:=run_sizeOf (w:=w) hz;obtain⟨b,len,cap⟩:=l';simp only at e2 e2';simp[execOp,ho,e1,Instr.sliceAt,Instr.slice,run_underlying ht,Instr.sliceBounds,e2,e2',e3]
  cases h
 cases h'
theorem yO{t:TypeId}{x:Operand}{e:E}(he:wE P t (opnd x)=QB e)(ho:o.op = .load t x)(hv:ev (bC a) (vw w.heap) e=QB v):(execOp a.eval o).run P w = .ok (.value v) w:=by
 have hx : ∃u,ev (bC a) (vw w.heap) (opnd x)=QB u:=by
  unfold wE at he;split at he
  ·simp only[MX]at he;subst he;obtain⟨u,hu,_⟩:=kc hv;exact⟨u,hu⟩
  ·simp only[MX]at he;subst he;obtain⟨u,hu,_⟩:=kc hv;exact⟨u,hu⟩
  cases he
 obtain⟨u,hu⟩:=hx;have:=run_load he hu hv;simp[execOp,ho,bf hu,this]
theorem qb{e:E}(he:opE P o.op=QB e)(hv:ev (bC a) (vw w.heap) e=QB v):(execOp a.eval o).run P w = .ok (.value v) w:=by
 cases ho:o.op with
 | move x=>rw[ho]at he;simp only[opE,MX]at he;subst he;exact Cs ho hv
 | assign x=>rw[ho]at he;simp only[opE,MX]at he;subst he;exact y9 ho hv
 | pick c x y=>rw[ho]at he;simp only[opE,MX]at he;subst he;exact Cw ho hv
 | unOp op t x=>rw[ho]at he;cases op<;>simp only[opE,MX,reduceCtorEq]at he;subst he;exact EI ho hv
 | binOp op t x y u=>
  rw[ho]at he;simp only[opE]at he;split at he<;>first
   | (simp only[MX]at he;subst he;first | exact Br ho hv | exact Ei ho hv | exact Cu ho hv | exact EK ho hv | exact yc (n:=false) ‹_› rfl ho hv | exact yc (n:=true) ‹_› rfl ho hv | exact D9 ho hv | exact xO (n:=false) rfl ‹_› ho hv | exact xO (n:=true) rfl ‹_› ho hv)
   | cases he
 | load t x=>rw[ho]at he;simp only[opE]at he;exact yO he ho hv
 | nilCheck x=>rw[ho]at he;simp only[opE,MX]at he;subst he;exact D3 ho hv
 | fieldAddr s x f=>
  rw[ho]at he;simp only[opE]at he;split at he
  ·rename_i fields hs;split at he
   ·rename_i g hf;split at he
    ·rename_i n hz;simp only[MX]at he;subst he;exact uS hs hf hz ho hv
    cases he
   cases he
  cases he
 | field s x f=>
  rw[ho]at he;simp only[opE]at he;split at he
  ·rename_i fields hs;split at he
   ·rename_i g hf;split at he
    ·rename_i n ha hz;simp only[MX]at he;subst he;exact Bw hs hf ha hz ho hv
    ·rename_i n ha hz;simp only[MX]at he;subst he;exact Cz hs hf ha hz ho hv
    cases he
   cases he
  cases he
 | indexAddr t x i=>
  rw[ho]at he;simp only[opE]at he;split at he
  ·rename_i el ht;simp only[M5]at he;obtain⟨n,hn,rfl⟩:=he;exact D1 ht hn ho hv
  ·rename_i k el ht;split at he
   ·cases he
   simp only[M5]at he;obtain⟨n,hn,rfl⟩:=he;exact CH ht hn ho hv
  cases he
 | extract x i=>rw[ho]at he;simp only[opE,MX]at he;subst he;exact Ef ho hv
 | convert s d x=>
  rw[ho]at he;simp only[opE]at he;split at he
  ·rename_i k' k hs hd;simp only[MX]at he;subst he;exact BM hs hd ho hv
  cases he
 | makeFunc fn first captured=>
  rw[ho]at he;cases fn<;>simp only[opE,reduceCtorEq]at he;split at he
  ·rename_i hf;simp only[MX]at he;subst he;exact FH hf ho hv
  cases he
 | call c=>
  rw[ho]at he;obtain⟨callee,args,T⟩:=c;cases callee with
  | value f=>simp only[opE,reduceCtorEq]at he
  | invoke r m=>simp only[opE,reduceCtorEq]at he
  | builtin b=>
   cases b<;>simp only[opE,reduceCtorEq]at he;case len=>
    split at he
    ·rename_i x t hA hT;split at he
     ·rename_i el ht;simp only[MX]at he;subst he;exact EW hT hA ht ho hv
     ·rename_i ht;simp only[MX]at he;subst he;exact y7 hT hA ht ho hv
     ·rename_i k el ht;simp only[MX]at he;subst he;exact zj hT hA ht ho hv
     cases he
    cases he
   case min=>
    split at he
    ·rename_i x y hA;simp only[MX]at he;subst he;exact EH hA ho hv
    cases he
   case max=>
    split at he
    ·rename_i x y hA;simp only[MX]at he;subst he;exact E0 hA ho hv
    cases he
 | slice t x lo hi mx=>
  rw[ho]at he;cases mx with
  | some m=>simp only[opE,reduceCtorEq]at he
  | none=>
   simp only[opE]at he;split at he
   ·rename_i el ht;split at he
    ·rename_i n hz;cases lo<;>cases hi<;>simp only[MX,reduceCtorEq]at he
     ·subst he;exact FZ ht hz ho hv
     ·subst he;exact Hf ht hz ho hv
     subst he;exact CE ht hz ho hv
    cases he
   cases he
 | _=>rw[ho]at he;simp only[opE,reduceCtorEq]at he
end
def evs(ρ:Nat->Option Value)(h:View):List E->Option (List Value)
 | []=>QB []
 | e::es=>match ev ρ h e,evs ρ h es with
  | some v,QB vs=>QB (v::vs)
  | _,_=>QC
def updF(ρ:Nat->Option Value)(d:Nat)(u:Value):Nat->Option Value:=λt=>if t=d then QB u else ρ t
def xP(k:E)(c:Nat):Bool:=match k with | .tmp t=>t == c | _=>QG
def E.subst(r:E)(d:Nat)(e:E):E:=
 match r with
 | .tmp t=>if t=d then e else .tmp t
 | .con v=>.con v
 | .un o x=>.un o (x.subst d e)
 | .bin o x y=>.bin o (x.subst d e) (y.subst d e)
 | .snoc x y=>.snoc (x.subst d e) (y.subst d e)
 | .ite k x y=>.ite (k.subst d e) (x.subst d e) (y.subst d e)
 | .gd k b x=>.gd (k.subst d e) b (x.subst d e)
def E.occ(r:E)(d:Nat):Bool:=
 match r with
 | .tmp t=>t == d
 | .con _=>QG
 | .un _ x=>x.occ d
 | .bin _ x y | .snoc x y=>x.occ d||y.occ d
 | .ite k _ _=>k.occ d
 | .gd k _ _=>k.occ d
def E.cV(r:E)(d c:Nat)(b:Bool)(e:E):E:=
 match r with
 | .tmp t=>if t=d then .gd (.tmp c) b e else .tmp t
 | .con v=>.con v
 | .un o x=>.un o (x.cV d c b e)
 | .bin o x y=>.bin o (x.cV d c b e) (y.cV d c b e)
 | .snoc x y=>.snoc (x.cV d c b e) (y.cV d c b e)
 | .ite k x y=>
  if xP k c then(if b then .ite k (x.subst d e) (y.cV d c b e) else .ite k (x.cV d c b e) (y.subst d e))
  else .ite (k.cV d c b e) (x.cV d c b e) (y.cV d c b e)
 | .gd k b' x=>if xP k c&&b' == b then .gd k b' (x.subst d e) else .gd (k.cV d c b e) b' (x.cV d c b e)
def E.occG(r:E)(d c:Nat)(b:Bool):Bool:=
 match r with
 | .tmp t=>t == d
 | .con _=>QG
 | .un _ x=>x.occG d c b
 | .bin _ x y | .snoc x y=>x.occG d c b||y.occG d c b
 | .ite k x y=>if xP k c then(if b then x.occ d else y.occ d) else k.occG d c b
 | .gd k b' x=>if xP k c&&b' == b then x.occ d else k.occG d c b
section
variable{ρ:Nat->Option Value}{h:View}{d c:Nat}{b:Bool}{e:E}{u:Value}
theorem kM{k:E}(hk:xP k c=QF):k = .tmp c:=by cases k<;>simp[xP]at hk;subst hk;rfl
theorem eU(hu:ev ρ h e=QB u) : ∀r:E,ev ρ h (r.subst d e)=ev (updF ρ d u) h r
 | .tmp t=>by simp only[E.subst];split<;>simp_all [ev,updF]
 | .con v=>rfl
 | .un o x=>by simp only[E.subst,ev,eU hu x]
 | .bin o x y=>by simp only[E.subst,ev,eU hu x,eU hu y]
 | .snoc x y=>by simp only[E.subst,ev,eU hu x,eU hu y]
 | .ite k x y=>by simp only[E.subst,ev,eU hu k,eU hu x,eU hu y]
 | .gd k b x=>by simp only[E.subst,ev,eU hu k,eU hu x]
theorem tO(hu:ev ρ h (.gd (.tmp c) b e)=QB u)(hcd:c≠d)(r:E):ev ρ h (r.cV d c b e)=ev (updF ρ d u) h r:=by
 have hρ:updF ρ d u c=ρ c:=by simp[updF,hcd]
 induction r with
 | tmp t=>
  simp only[E.cV];split
  ·rename_i ht;rw[hu];simp[ev,updF,ht]
  rename_i ht;simp[ev,updF,ht]
 | con v=>rfl
 | un o x ih=>simp only[E.cV,ev,ih]
 | bin o x y ihx ihy=>simp only[E.cV,ev,ihx,ihy]
 | snoc x y ihx ihy=>simp only[E.cV,ev,ihx,ihy]
 | ite k x y ihk ihx ihy=>
  simp only[E.cV];split
  ·rename_i hk;obtain rfl:=kM hk;split
   ·rename_i hb;simp only[ev,hρ];split
    ·rename_i hc;simp only[ev,hc,hb,if_true]at hu;exact eU hu x
    ·exact ihy
    rfl
   rename_i hb;simp only[ev,hρ];split
   ·exact ihx
   ·rename_i hc;simp only[ev,hc,hb]at hu;exact eU hu y
   rfl
  simp only[ev,ihk,ihx,ihy]
 | gd k b' x ihk ihx=>
  simp only[E.cV];split
  ·rename_i hk;simp only[M8,beq_iff_eq]at hk;obtain⟨hk,hb'⟩:=hk;obtain rfl:=kM hk;simp only[ev,hρ,hb'];split
   ·rename_i hc;split
    ·rename_i hb;simp only[ev,hc,hb,if_true]at hu;exact eU hu x
    rfl
   ·rename_i hc;split
    ·rfl
    rename_i hb;simp only[ev,hc,hb]at hu;exact eU hu x
   ·rfl
   rfl
  simp only[ev,ihk,ihx]
theorem jI : ∀{r:E} {v:Value},r.occ d=QF->ev ρ h (r.subst d e)=QB v->∃u,ev ρ h e=QB u
 | .tmp t,v,ho,hv=>by simp[E.occ]at ho;simp[E.subst,ho]at hv;exact⟨v,hv⟩
 | .con _,_,ho,_=>by simp[E.occ]at ho
 | .un o x,v,ho,hv=>by simp only[E.occ]at ho;simp only[E.subst]at hv;obtain⟨u,hu,_⟩:=kc hv;exact jI ho hu
 | .bin o x y,v,ho,hv=>by
  simp only[E.occ,NS]at ho;simp only[E.subst]at hv;obtain⟨u,u',hu,hu',_⟩:=ig hv;rcases ho with ho | ho
  ·exact jI ho hu
  exact jI ho hu'
 | .snoc x y,v,ho,hv=>by
  simp only[E.occ,NS]at ho;simp only[E.subst,ev]at hv;split at hv
  ·rename_i hu hu';rcases ho with ho | ho
   ·exact jI ho hu
   exact jI ho hu'
  cases hv
 | .ite k x y,v,ho,hv=>by
  simp only[E.occ]at ho;simp only[E.subst,ev]at hv;split at hv
  ·rename_i hu;exact jI ho hu
  ·rename_i hu;exact jI ho hu
  cases hv
 | .gd k b x,v,ho,hv=>by
  simp only[E.occ]at ho;simp only[E.subst,ev]at hv;split at hv
  ·rename_i hu;exact jI ho hu
  ·rename_i hu;exact jI ho hu
  ·rename_i hu;exact jI ho hu
  cases hv
theorem uV(hc:ρ c=QB (.bool b)):ev ρ h (.gd (.tmp c) b e)=ev ρ h e:=by cases b<;>simp[ev,hc]
theorem j4(hc:ρ c=QB (.bool b)) : ∀{r:E} {v:Value},r.occG d c b=QF->ev ρ h (r.cV d c b e)=QB v->∃u,ev ρ h e=QB u
 | .tmp t,v,ho,hv=>by simp[E.occG]at ho;simp only[E.cV,ho,if_true,uV hc]at hv;exact⟨v,hv⟩
 | .con _,_,ho,_=>by simp[E.occG]at ho
 | .un o x,v,ho,hv=>by simp only[E.occG]at ho;simp only[E.cV]at hv;obtain⟨u,hu,_⟩:=kc hv;exact j4 hc ho hu
 | .bin o x y,v,ho,hv=>by
  simp only[E.occG,NS]at ho;simp only[E.cV]at hv;obtain⟨u,u',hu,hu',_⟩:=ig hv;rcases ho with ho | ho
  ·exact j4 hc ho hu
  exact j4 hc ho hu'
 | .snoc x y,v,ho,hv=>by
  simp only[E.occG,NS]at ho;simp only[E.cV,ev]at hv;split at hv
  ·rename_i hu hu';rcases ho with ho | ho
   ·exact j4 hc ho hu
   exact j4 hc ho hu'
  cases hv
 | .ite k x y,v,ho,hv=>by
  simp only[E.occG]at ho;simp only[E.cV]at hv;split at ho
  ·rename_i hk;rw[if_pos hk]at hv;obtain rfl:=kM hk;cases b
   ·simp only[Ow,if_false]at ho hv;simp only[ev,hc]at hv;exact jI ho hv
   simp only[if_true]at ho hv;simp only[ev,hc]at hv;exact jI ho hv
  rename_i hk;rw[if_neg hk]at hv;simp only[ev]at hv;split at hv
  ·rename_i hu;exact j4 hc ho hu
  ·rename_i hu;exact j4 hc ho hu
  cases hv
 | .gd k b' x,v,ho,hv=>by
  simp only[E.occG]at ho;simp only[E.cV]at hv;split at ho
  ·rename_i hk;rw[if_pos hk]at hv;simp only[M8,beq_iff_eq]at hk;obtain⟨hk,rfl⟩:=hk;obtain rfl:=kM hk;rw[uV hc]at hv;exact jI ho hv
  rename_i hk;rw[if_neg hk]at hv;simp only[ev]at hv;split at hv
  ·rename_i hu;exact j4 hc ho hu
  ·rename_i hu;exact j4 hc ho hu
  ·rename_i hu;exact j4 hc ho hu
  cases hv
theorem gF(hcd:c≠d) : ∀{r:E} {v:Value},r.occG d c b=QF->ev ρ h (r.cV d c b e)=QB v->∃u,ev ρ h (.tmp c)=QB u
 | .tmp t,v,ho,hv=>by
  simp[E.occG]at ho;simp only[E.cV,ho,if_true]at hv;cases hc:ρ c with
  | none=>simp[ev,hc]at hv
  | some u=>exact⟨u,hc⟩
 | .con _,_,ho,_=>by simp[E.occG]at ho
 | .un o x,v,ho,hv=>by simp only[E.occG]at ho;simp only[E.cV]at hv;obtain⟨u,hu,_⟩:=kc hv;exact gF hcd ho hu
 | .bin o x y,v,ho,hv=>by
  simp only[E.occG,NS]at ho;simp only[E.cV]at hv;obtain⟨u,u',hu,hu',_⟩:=ig hv;rcases ho with ho | ho
  ·exact gF hcd ho hu
  exact gF hcd ho hu'
 | .snoc x y,v,ho,hv=>by
  simp only[E.occG,NS]at ho;simp only[E.cV,ev]at hv;split at hv
  ·rename_i hu hu';rcases ho with ho | ho
   ·exact gF hcd ho hu
   exact gF hcd ho hu'
  cases hv
 | .ite k x y,v,ho,hv=>by
  simp only[E.occG]at ho;simp only[E.cV]at hv;split at ho
  ·rename_i hk;rw[if_pos hk]at hv;obtain rfl:=kM hk;cases hc:ρ c with
   | none=>cases b<;>simp[ev,hc]at hv
   | some u=>exact⟨u,hc⟩
  rename_i hk;rw[if_neg hk]at hv;simp only[ev]at hv;split at hv
  ·rename_i hu;exact gF hcd ho hu
  ·rename_i hu;exact gF hcd ho hu
  cases hv
 | .gd k b' x,v,ho,hv=>by
  simp only[E.occG]at ho;simp only[E.cV]at hv;split at ho
  ·rename_i hk;rw[if_pos hk]at hv;simp only[M8,beq_iff_eq]at hk;obtain⟨hk,rfl⟩:=hk;obtain rfl:=kM hk;cases hc:ρ c with
   | none=>simp[ev,hc]at hv
   | some u=>exact⟨u,hc⟩
  rename_i hk;rw[if_neg hk]at hv;simp only[ev]at hv;split at hv
  ·rename_i hu;exact gF hcd ho hu
  ·rename_i hu;exact gF hcd ho hu
  ·rename_i hu;exact gF hcd ho hu
  cases hv
theorem Dp : ∀{l:List E} {vs:List Value},evs ρ h l=QB vs->vs.length=l.length
 | [],vs,hv=>by simp[evs]at hv;subst hv;rfl
 | e::l,vs,hv=>by
  simp only[evs]at hv;split at hv
  ·rename_i hl;simp only[MX]at hv;subst hv;simp[Dp hl]
  cases hv
theorem rY{p:E->Bool}{f:E->E}(hp : ∀r v,p r=QF->ev ρ h (f r)=QB v->∃u,ev ρ h e=QB u) :
  ∀{l:List E} {vs:List Value},l.any p=QF->evs ρ h (l.map f)=QB vs->∃u,ev ρ h e=QB u
 | [],_,ha,_=>by simp at ha
 | r::l,vs,ha,hv=>by
  simp only[N8,evs]at hv;split at hv
  ·rename_i h1 h2;simp only[List.any_cons,NS]at ha;rcases ha with ha | ha
   ·exact hp _ _ ha h1
   exact rY hp ha h2
  cases hv
theorem qv{f:E->E}{ρ':Nat->Option Value}(hf : ∀r,ev ρ h (f r)=ev ρ' h r) : ∀l:List E,evs ρ h (l.map f)=evs ρ' h l
 | []=>rfl
 | r::l=>by simp only[N8,evs,hf r,qv hf l]
theorem rL : ∀{l m:List E} {vs:List Value},evs ρ h (l++m)=QB vs->∃us ws,evs ρ h l=QB us/\evs ρ h m=QB ws/\vs=us++ws
 | [],m,vs,hv=>⟨[],vs,rfl,hv,rfl⟩
 | e::l,m,vs,hv=>by
  simp only[OZ,evs]at hv;split at hv
  ·rename_i v1 vs1 h1 h2;simp only[MX]at hv;subst hv;obtain⟨us,ws,hu,hw,rfl⟩:=rL h2;exact⟨v1::us,ws,by simp[evs,h1,hu],hw,rfl⟩
  cases hv
end
def sf(P:Program)(N:Nat)(ops0:Array Oper)(o:Oper)(r:List E):Option (List E):=
 match o.dst,opE P o.op with
 | some d,QB e=>
  if d<N then
   match o.guard with
   | none=>if r.any (·.occ d) then QB (r.map (·.subst d e)) else QB ((r++[E.tmp d]).map (λx=>x.subst d e))
   | some (j,b)=>match (ops0[j]?).bind (·.dst)with
    | some c=>if c=d then QC else if r.any (·.occG d c b) then QB (r.map (·.cV d c b e)) else QB ((r++[E.tmp d]).map (λx=>x.cV d c b e))
    | none=>QC
  else QC
 | _,_=>QC
def back(P:Program)(N:Nat)(ops0:Array Oper):List Oper->List E->Option (List E)
 | [],r=>QB r
 | o::rest,r=>match back P N ops0 rest r with
  | some r1=>sf P N ops0 o r1
  | none=>QC
def tD(P:Program)(o:Oper):Bool:=match opE P o.op with | some e=>!e.reads | none=>QG
variable{P:Program}
theorem uE{o:Oper}{e:E}(he:opE P o.op=QB e)(hp:tD P o=QF):e.reads=false:=by simpa[tD,he]using hp
def iQ(P:Program)(ops0:Array Oper)(H:View)(o:Oper)(v:Value)(a:Act):Prop:=
 (Region.wanted o (yielded ops0 a.tmps)=QF/\(∀w:World,H.sub (vw w.heap)->(execOp a.eval o).run P w = .ok (.value v) w)/\(tD P o=QF->∀w:World,(execOp a.eval o).run P w = .ok (.value v) w))\/
 (Region.wanted o (yielded ops0 a.tmps)=QG/\v=undef)
def QRun(P:Program)(ops0:Array Oper)(H:View):List Oper->Act->Act->Prop
 | [],a,a'=>a'=a
 | o::rest,a,a'=>∃v,iQ P ops0 H o v a/\QRun P ops0 H rest (a.put o.dst v) a'
theorem E4{a:Act}{d:Nat}{v:Value}(hd:d<a.tmps.size):bC (a.put (QB d) v)=updF (bC a) d v:=by
 funext t;simp only[bC,Act.put,updF,Array.getElem?_setIfInBounds];split
 ·rename_i h;subst h;simp
 rename_i h;rw[if_neg (Ne.symm h)]
variable{ops0:Array Oper}
theorem wZ{N:Nat}{o:Oper}{r r':List E}{a:Act}{vs:List Value}(hN:a.tmps.size=N)(hb:sf P N ops0 o r=QB r')(hv:evs (bC a) H r'=QB vs):
  ∃u,iQ P ops0 H o u a/\(a.put o.dst u).tmps.size=N/\∃us ws,evs (bC (a.put o.dst u)) H r=QB us/\vs=us++ws:=by
 unfold sf at hb;cases hd:o.dst with
 | none=>simp[hd]at hb
 | some d=>
  cases he:opE P o.op with
  | none=>simp[hd,he]at hb
  | some e=>
   simp only[hd,he]at hb;split at hb;case isFalse=>cases hb
   rename_i hlt;have hsz : ∀u,(a.put (QB d) u).tmps.size=N:=λu=>by simp[Act.put,hN]
   have hput : ∀u,bC (a.put (QB d) u)=updF (bC a) d u:=λu=>E4 (by rw[hN];exact hlt);cases hg:o.guard with
   | none=>
    simp only[hg]at hb;have hw:Region.wanted o (yielded ops0 a.tmps)=true:=by simp[Region.wanted,hg]
    have key : ∃u,ev (bC a) H e=QB u/\∃us ws,evs (updF (bC a) d u) H r=QB us/\vs=us++ws:=by
     split at hb
     ·rename_i hany;simp only[MX]at hb;subst hb;obtain⟨u,hu⟩:=rY (e:=e) (λr v h1 h2=>jI h1 h2) hany hv;refine⟨u,hu,vs,[],?_,by simp⟩;rw[qv (eU hu)]at hv;exact hv
     simp only[MX]at hb;subst hb;obtain⟨u,hu⟩:=rY (e:=e) (p:=(·.occ d)) (λr v h1 h2=>jI h1 h2) (by simp[E.occ]) hv;rw[qv (eU hu)]at hv;obtain⟨us,ws,h1,h2,h3⟩:=rL hv;exact⟨u,hu,us,ws,h1,h3⟩
    obtain⟨u,hu,us,ws,h1,h2⟩:=key;exact⟨u,.inl ⟨hw,λw hw'=>qb he (gG hw' hu),λhp w=>qb he (by rw[iM (uE he hp) (h':=H)];exact hu)⟩,hsz u,us,ws,by rw[hput];exact h1,h2⟩
   | some jb=>
    obtain⟨j,b⟩:=jb;simp only[hg]at hb;split at hb;case h_2=>cases hb
    rename_i c hc;split at hb;case isTrue=>cases hb
    rename_i hcd;have hwanted:Region.wanted o (yielded ops0 a.tmps)=QF↔bC a c=QB (.bool b):=by
     simp only[Region.wanted,hg,yielded,hc,Nn,bC,beq_iff_eq];split
     ·rename_i b' hb';rw[hb'];simp
     rename_i hne;constructor
     ·intro h;cases h
     intro h;exact absurd h (hne b)
    have gval : ∀v,ev (bC a) H (.gd (.tmp c) b e)=QB v->iQ P ops0 H o v a:=by
     intro v hv';by_cases hw:Region.wanted o (yielded ops0 a.tmps)=QF
     ·have h1:=hwanted.1 hw;rw[uV h1]at hv';exact .inl ⟨hw,λw hw'=>qb he (gG hw' hv'),λhp w=>qb he (by rw[iM (uE he hp) (h':=H)];exact hv')⟩
     refine .inr ⟨by simpa using hw,?_⟩;have h1:bC a c≠QB (.bool b):=λh=>hw (hwanted.2 h);simp only[ev]at hv';split at hv'
     ·rename_i hcc;cases b
      ·simpa using hv'.symm
      exact absurd hcc h1
     ·rename_i hcc;cases b
      ·exact absurd hcc h1
      simpa using hv'.symm
     ·simpa using hv'.symm
     cases hv'
    have key : ∃u,ev (bC a) H (.gd (.tmp c) b e)=QB u/\∃us ws,evs (updF (bC a) d u) H r=QB us/\vs=us++ws:=by
     split at hb
     ·rename_i hany;simp only[MX]at hb;subst hb;by_cases hw:bC a c=QB (.bool b)
      ·obtain⟨u,hu⟩:=rY (e:=e) (λr v h1 h2=>j4 hw h1 h2) hany hv;have hu':ev (bC a) H (.gd (.tmp c) b e)=QB u:=by rw[uV hw];exact hu
       rw[qv (tO hu' hcd)]at hv;exact⟨u,hu',vs,[],hv,by simp⟩
      cases hcv:bC a c with
      | none=>exfalso;obtain⟨u,hu⟩:=rY (e:=.tmp c) (p:=(·.occG d c b)) (f:=(·.cV d c b e)) (λr v h1 h2=>gF hcd h1 h2) hany hv;simp only[ev]at hu;rw[hcv]at hu;cases hu
      | some cv=>
       have hu':ev (bC a) H (.gd (.tmp c) b e)=QB undef:=by
        simp only[ev,hcv];split
        ·rename_i h1;simp only[MX]at h1;subst h1;cases b
         ·simp
         exact absurd hcv hw
        ·rename_i h1;simp only[MX]at h1;subst h1;cases b
         ·exact absurd hcv hw
         simp
        ·rfl
        rename_i h1;cases h1
       rw[qv (tO hu' hcd)]at hv;exact⟨undef,hu',vs,[],hv,by simp⟩
     simp only[MX]at hb;subst hb;rw[Ov]at hv;obtain⟨us,ws,h1,h2,h3⟩:=rL hv;simp only[N8,List.map_nil,E.cV,if_true,evs]at h2;split at h2
     ·rename_i u _ hu _;rw[qv (tO hu hcd)]at h1;exact⟨u,hu,us,ws,h1,h3⟩
     cases h2
    obtain⟨u,hu,us,ws,h1,h2⟩:=key;exact⟨u,gval u hu,hsz u,us,ws,by rw[hput];exact h1,h2⟩
abbrev Env:=List (Nat × Value)
def look:Env->Nat->Option Value
 | [],_=>QC
 | (k,v)::r,t=>if k=t then QB v else look r t
def setE(ρ:Env)(t:Nat)(v:Value):Env:=
 match ρ with
 | []=>[(t,v)]
 | (k,u)::r=>if k=t then(t,v)::r else if t<k then(t,v)::(k,u)::r else(k,u)::setE r t v
def db(ρ:Env):List (Nat × Value)->Env
 | []=>ρ
 | (t,v)::r=>db (setE ρ t v) r
def bJ(ρ:Env)(ts:List Nat):Env:=ρ.filter λp=>!ts.contains p.1
def putE(ρ:Env)(dst:Option Nat)(keep:Bool)(v:Value):Env:=
 match dst with
 | some d=>if keep then setE ρ d v else bJ ρ [d]
 | none=>ρ
theorem ar(ρ:Env)(t:Nat)(v:Value)(s:Nat):look (setE ρ t v) s=if t=s then QB v else look ρ s:=by
 induction ρ with
 | nil=>simp[setE,look]
 | cons p r ih=>
  obtain⟨k,u⟩:=p;simp only[setE];split
  ·rename_i h;subst h;simp only[look];split<;>rfl
  rename_i h;split
  ·simp only[look]
  simp only[look,ih];by_cases h1:k=s
  ·subst h1;simp[Ne.symm h]
  simp[h1]
theorem mh(ρ:Env)(ts:List Nat)(s:Nat)(v:Value)(h:look (bJ ρ ts) s=QB v):s∉ts/\look ρ s=QB v:=by
 induction ρ with
 | nil=>simp[bJ,look]at h
 | cons p r ih=>
  obtain⟨k,u⟩:=p;simp only[bJ,Pq]at h;split at h
  ·rename_i hk;simp only[look]at h ⊢;split at h
   ·rename_i e;subst e;exact⟨by simpa using hk,by simpa using h⟩
   rename_i e;have:=ih h;exact⟨this.1,by rw[if_neg e];exact this.2⟩
  rename_i hk;have:=ih h;refine⟨this.1,?_⟩;simp only[look];split
  ·rename_i e;subst e;exact absurd (by simpa using hk) this.1
  exact this.2
theorem vu : ∀(vs:List (Nat × Value)) (ρ:Env) (s:Nat) (v:Value),look (db ρ vs) s=QB v->(s,v)∈vs\/look ρ s=QB v
 | [],_,_,_,h=>.inr h
 | (t,u)::r,ρ,s,v,h=>by
  rcases vu r (setE ρ t u) s v h with h2 | h2
  ·exact .inl (Nf _ h2)
  rw[ar]at h2;split at h2
  ·rename_i e;cases h2;rw[<-e];exact .inl (Ng ..)
  exact .inr h2
def Sat(ρ:Env)(a:Act):Prop:=∀t v,look ρ t=QB v->a.tmps[t]? = QB v
theorem iX{ρ ρ':Nat->Option Value}{H:View}(hρ : ∀t v,ρ t=QB v->ρ' t=QB v) : ∀{e:E} {v:Value},ev ρ H e=QB v->ev ρ' H e=QB v
 | .tmp t,v,h=>hρ t v h
 | .con _,_,h=>h
 | .un o x,v,h=>by obtain⟨u,hu,h⟩:=kc h;simp only[ev,iX hρ hu];exact h
 | .bin o x y,v,h=>by obtain⟨u,u',hu,hu',h⟩:=ig h;simp only[ev,iX hρ hu,iX hρ hu'];exact h
 | .snoc x y,v,h=>by
  simp only[ev]at h ⊢;split at h
  ·rename_i u u' hu hu';simp only[iX hρ hu,iX hρ hu'];exact h
  cases h
 | .ite c x y,v,h=>by
  simp only[ev]at h ⊢;split at h
  ·rename_i hu;simp only[iX hρ hu];exact iX hρ h
  ·rename_i hu;simp only[iX hρ hu];exact iX hρ h
  cases h
 | .gd c b x,v,h=>by
  simp only[ev]at h ⊢;split at h
  ·rename_i hu;simp only[iX hρ hu];split at h
   ·rename_i hb;simp only[hb,if_true];exact iX hρ h
   rename_i hb;simp only[hb];exact h
  ·rename_i hu;simp only[iX hρ hu];split at h
   ·rename_i hb;simp only[hb,if_true];exact h
   rename_i hb;simp only[hb];exact iX hρ h
  ·rename_i u h1 h2 hu;simp only[iX hρ hu];exact h
  cases h
def evP(ρ:Nat->Option Value)(H:View):List (Nat × E)->Option (List (Nat × Value))
 | []=>QB []
 | (t,e)::r=>match ev ρ H e,evP ρ H r with
  | some v,QB vs=>QB ((t,v)::vs)
  | _,_=>QC
def okE(ρ:Nat->Option Value)(H:View):List E->Prop
 | []=>True
 | e::r=>(∃v,ev ρ H e=QB v)/\okE ρ H r
theorem yQ{ρ:Nat->Option Value}{H:View} : ∀{ts:List Nat} {es:List E} {vs:List (Nat × Value)},ts.length<=es.length->evP ρ H (ts.zip es)=QB vs->
  evs ρ H (es.take ts.length)=QB (vs.map (·.2))/\vs.map (·.1)=ts
 | [],es,vs,_,h=>by simp[evP]at h;subst h;simp[evs]
 | t::ts,[],vs,hl,_=>by simp at hl
 | t::ts,e::es,vs,hl,h=>by
  simp only[Pv,evP]at h;split at h
  ·rename_i v vs' hv hvs;simp only[MX]at h;subst h;obtain⟨h1,h2⟩:=yQ (by simpa using hl) hvs;simp[evs,hv,h1,h2]
  cases h
theorem Dc{ρ:Nat->Option Value}{H:View} : ∀{es:List E},okE ρ H es->∃vs,evs ρ H es=QB vs
 | [],_=>⟨[],rfl⟩
 | e::es,h=>by obtain⟨⟨v,hv⟩,h⟩:=h;obtain⟨vs,hvs⟩:=Dc h;exact⟨v::vs,by simp[evs,hv,hvs]⟩
theorem DO{ρ:Nat->Option Value}{H:View} : ∀{l m:List E} {us ws:List Value},evs ρ H l=QB us->evs ρ H m=QB ws->evs ρ H (l++m)=QB (us++ws)
 | [],m,us,ws,h1,h2=>by simp[evs]at h1;subst h1;simpa using h2
 | e::l,m,us,ws,h1,h2=>by
  simp only[evs]at h1;split at h1
  ·rename_i v vs hv hvs;simp only[MX]at h1;subst h1;simp only[OZ,evs,hv,DO hvs h2]
  cases h1
theorem qB{ρ ρ':Nat->Option Value}{H:View}(hρ : ∀t v,ρ t=QB v->ρ' t=QB v) : ∀{l:List E} {us:List Value},evs ρ H l=QB us->evs ρ' H l=QB us
 | [],us,h=>h
 | e::l,us,h=>by
  simp only[evs]at h;split at h
  ·rename_i v vs hv hvs;simp only[evs,iX hρ hv,qB hρ hvs];exact h
  cases h
theorem A4{a:Act}{H:View} : ∀{ts:List Nat} {vs:List (Nat × Value)},vs.map (·.1)=ts->evs (bC a) H (ts.map E.tmp)=QB (vs.map (·.2))->∀p∈vs,a.tmps[p.1]? = QB p.2
 | [],vs,h,_,p,hp=>by cases vs<;>simp at h;cases hp
 | t::ts,[],h,_,p,hp=>by cases hp
 | t::ts,q::vs,h,he,p,hp=>by
  simp only[N8,List.cons.injEq]at h;obtain⟨h0,h⟩:=h;simp only[N8,evs]at he;split at he
  ·rename_i v vs' hv hvs;simp only[MX,List.cons.injEq]at he;rcases Nu.1 hp with rfl | hp
   ·simp only[ev,bC]at hv;rw[h0,hv,he.1]
   exact A4 h (by rw[hvs,he.2]) p hp
  cases he
theorem zR : ∀{us:List (Nat × Value)} {t:Nat} {v:Value},look us t=QB v->(t,v)∈us
 | [],_,_,h=>by simp[look]at h
 | (k,u)::r,t,v,h=>by
  simp only[look]at h;split at h
  ·rename_i e;subst e;simp only[MX]at h;subst h;exact Ng ..
  exact Nf _ (zR h)
theorem yk : ∀{us:List (Nat × Value)} {t:Nat},t∈us.map (·.1)->∃v,look us t=QB v
 | [],_,h=>by simp at h
 | (k,u)::r,t,h=>by
  simp only[look];split
  ·exact⟨u,rfl⟩
  rename_i e;simp only[N8,Nu]at h;rcases h with h | h
  ·exact absurd h.symm e
  exact yk h
theorem se{P:Program}{N:Nat}{ops0:Array Oper} : ∀{qs:List Oper} {r r':List E},back P N ops0 qs r=QB r'->r.length<=r'.length
 | [],r,r',h=>by simp[back]at h;subst h;exact MY _
 | o::qs,r,r',h=>by
  simp only[back]at h;split at h
  ·rename_i r1 h1;have:=se h1;refine NB this ?_;unfold sf at h;repeat' (split at h)
   all_goals first
    | (simp only[MX]at h;subst h;simp)
    | cases h
  cases h
theorem xb{P:Program}{N:Nat}{ops0:Array Oper}{H:View} : ∀{qs:List Oper} {r r':List E} {a:Act} {vs:List Value},
  back P N ops0 qs r=QB r'->a.tmps.size=N->evs (bC a) H r'=QB vs->
  ∃a',QRun P ops0 H qs a a'/\a'.tmps.size=N/\a'.defers=a.defers/\(∀t,(∀o∈qs,o.dst≠QB t)->a'.tmps[t]? = a.tmps[t]?)/\
   ∃us ws,evs (bC a') H r=QB us/\vs=us++ws
 | [],r,r',a,vs,h,hN,hv=>by simp[back]at h;subst h;exact⟨a,rfl,hN,rfl,λ_ _=>rfl,vs,[],hv,by simp⟩
 | o::qs,r,r',a,vs,h,hN,hv=>by
  simp only[back]at h;split at h
  ·rename_i r1 h1;obtain⟨u,hy,hsz,us,ws,hus,rfl⟩:=wZ hN h hv;obtain⟨a',hq,hsz',hd,hfr,us',ws',hus',rfl⟩:=xb h1 hsz hus;refine⟨a',⟨u,hy,hq⟩,hsz',?_,?_,us',ws'++ws,hus',by simp⟩
   ·rw[hd];cases o.dst<;>rfl
   intro t ht;rw[hfr t (λo' ho'=>ht o' (Nf _ ho'))];have:=ht o (Ng ..);cases hdst:o.dst with
   | none=>rfl
   | some d=>have hne:d≠t:=λe=>this (by rw[hdst,e]);simp[Act.put,NW hne]
  cases h
def dstsOf(qs:List Oper):List Nat:=qs.filterMap (·.dst)
variable{ts:List Nat}{es:List E}{ρ:Env}
theorem qZ{N:Nat}{qs:List Oper}{a:Act}{us:List (Nat × Value)}(hb:back P N ops0 qs (ts.map E.tmp)=QB es)(hN:a.tmps.size=N)(hρ:Sat ρ a)(hv:evP (look ρ) H (ts.zip es)=QB us)(hc:okE (look ρ) H (es.drop ts.length)):
  ∃a',QRun P ops0 H qs a a'/\a'.tmps.size=N/\a'.defers=a.defers/\Sat (bJ ρ (dstsOf qs)) a'/\(∀p∈us,a'.tmps[p.1]? = QB p.2):=by
 have hl:ts.length<=es.length:=by simpa using se hb
 obtain⟨h1,h2⟩:=yQ hl hv;obtain⟨ws,h3⟩:=Dc hc;have h4:=DO h1 h3;rw[Pj]at h4;have hs : ∀t v,look ρ t=QB v->bC a t=QB v:=λt v h=>hρ t v h;obtain⟨a',hq,hsz,hd,hfr,us',ws',hus,he⟩:=xb hb hN (qB hs h4);refine⟨a',hq,hsz,hd,?_,?_⟩
 ·intro t v h;obtain⟨hk,hl⟩:=mh _ _ _ _ h;rw[hfr t (λo ho hdst=>hk (List.mem_filterMap.2 ⟨o,ho,hdst⟩))];exact hρ t v hl
 have e1:us'=us.map (·.2):=by
  have hlen:us'.length=(us.map (·.2)).length:=by have:=Dp hus;rw[this];simp[<-h2]
  have:=congrArg (List.take us'.length) he;rw[PT,hlen,PT]at this;exact this.symm
 rw[e1]at hus;exact A4 h2 hus
theorem wI{a:Act}{vs:List (Nat × Value)}(h:Sat ρ a)(hv : ∀p∈vs,a.tmps[p.1]? = QB p.2):Sat (db ρ vs) a:=by
 intro t v hl;rcases vu vs ρ t v hl with h1 | h1
 ·exact hv _ h1
 exact h t v h1
theorem AR{a:Act}(h:Sat ρ a):Sat (bJ ρ ts) a:=λt v hl=>h t v (mh _ _ _ _ hl).2
theorem C5{a:Act}{dst:Option Nat}{keep:Bool}{v:Value}(h:Sat ρ a)(hd : ∀d,dst=QB d->d<a.tmps.size):Sat (putE ρ dst keep v) (a.put dst v):=by
 cases dst with
 | none=>exact h
 | some d=>
  have hsz:=hd d rfl;intro t u hl;simp only[putE]at hl;split at hl
  ·rw[ar]at hl;split at hl
   ·rename_i e;subst e;simp only[MX]at hl;subst hl;simp[Act.put,hsz]
   rename_i e;simp only[Act.put,NW e];exact h t u hl
  obtain⟨h1,h2⟩:=mh _ _ _ _ hl;have hne:d≠t:=λe=>h1 (by simp[e]);simp only[Act.put,NW hne];exact h t u h2
def Fw(r:Option Nat):Fence:={ Fence.wide with round:=r }
structure Same(w w':World):Prop where
 os:w'.os=w.os
 output:w'.output=w.output
 tape:w'.tape=w.tape
 size:w.heap.size<=w'.heap.size
 defs : ∀b:Nat,w.heap[b]? = QB (.deferred (QB []))->w'.heap[b]? = QB (.deferred (QB []))
theorem Same.refl(w:World):Same w w:=⟨rfl,rfl,rfl,MY _,λ_ h=>h⟩
theorem Same.trans{a b c:World}(h:Same a b)(k:Same b c):Same a c:=⟨k.os.trans h.os,k.output.trans h.output,k.tape.trans h.tape,NB h.size k.size,λi e=>k.defs i (h.defs i e)⟩
theorem Same.drawn{w:World}{n:Nat}:Same w { w with drawn:=n }:=⟨rfl,rfl,rfl,MY _,λ_ h=>h⟩
theorem Same.mI{w w':World}(h1:w'.os=w.os)(h2:w'.output=w.output)(h3:w'.tape=w.tape)(hs:w.heap.size<=w'.heap.size){g:Nat}{o:Obj}(hg:w.heap[g]? = QB o)(ho:o≠.deferred (QB []))(hk : ∀k,k<w.heap.size->k≠g->w'.heap[k]? = w.heap[k]?):Same w w':=
 ⟨h1,h2,h3,hs,λb hb=>by
  have hne:b≠g:=λe=>by rw[e,hg]at hb;exact ho (Option.some.inj hb)
  rw[hk b (M7.1 hb).1 hne];exact hb⟩
theorem Same.zD{w w':World}(h1:w'.os=w.os)(h2:w'.output=w.output)(h3:w'.tape=w.tape)(hs:w.heap.size<=w'.heap.size)(hk : ∀k,k<w.heap.size->w'.heap[k]? = w.heap[k]?):Same w w':=
 ⟨h1,h2,h3,hs,λb hb=>by rw[hk b (M7.1 hb).1];exact hb⟩
class OP where
 op:List PanicEntry->Heap->Prop
class PP where
 kp:List PanicEntry->Heap->Prop
 /-- What Cm in the bC wherever it may. -/
 fx:Env->Prop
instance (priority:=low) noPP:PP:=⟨λ_ _=>False,λ_=>True⟩
instance (priority:=low) noOP:OP:=⟨λ_ _=>False⟩
def iI[po:OP](P:Program)(s:Sem Next)(h:Heap)(K:Value->Heap->Prop):Prop:=
 ∀w:World,w.heap=h->∀(r:Option Nat) (o:Oper) (a:Act) (K':Act->World->Prop) (Q':Exit->Act->World->Prop),
  (∀v w',K v w'.heap->Same w w'->K' (a.put o.dst v) w')->(∀ch w',po.op ch w'.heap->Same w w'->Q' (.panic ch) a w')->o.uponIn (Fw r) 0 P a K' Q' (s.run P w)
def asg(us:List (Nat × Value)):Operand->Value
 | .tmp t=>(look us t).getD undef
 | .const v=>v
 | .global g=>QE (QB ⟨g,0,QC⟩)
 | .func f=>.func (.func f) #[] #[]
def bg(op : Op)(ty : TypeId)(us : List (Nat × Value)) : Sem Next := execOp (asg us) { dst := QC, op, type := ty, pos := "", after := #[], guard := QC }
def dA:Op->Bool
 | .select .. | .defer _=>QG
 | _=>QF
def tmpsOf(o:Oper):List Nat:=o.op.operands.toList.filterMap fun | .tmp t=>QB t | _=>QC
theorem IC{o:Oper}{a:Act}{us:List (Nat × Value)}(hp:dA o.op=QF)(ht:us.map (·.1)=tmpsOf o)(hv : ∀p∈us,a.tmps[p.1]? = QB p.2):
  execOp a.eval o=bg o.op o.type us:=by
 have h1 : ∀x∈o.op.operands,a.eval x=asg us x:=by
  intro x hx;cases x with
  | tmp t=>
   have hm:t∈us.map (·.1):=by rw[ht];exact List.mem_filterMap.2 ⟨.tmp t,by simpa using hx,rfl⟩
   obtain⟨v,hl⟩:=yk hm;have:=hv _ (zR hl);simp only at this;simp[asg,hl,Act.eval,this]
  | const v=>rfl
  | global g=>rfl
  | func f=>rfl
 rw[execOp_congr o (by intro cs b e;simp[dA,e]at hp) h1];rfl
theorem yn{po:OP}{o:Oper}{a:Act}{us:List (Nat × Value)}{w:World}{r:Option Nat}{K:Value->Heap->Prop}{K':Act->World->Prop}{Q':Exit->Act->World->Prop}(hp:dA o.op=QF)(ht:us.map (·.1)=tmpsOf o)(hv : ∀p∈us,a.tmps[p.1]? = QB p.2)(hr:iI P (bg o.op o.type us) w.heap K)(hK : ∀v w',K v w'.heap->Same w w'->K' (a.put o.dst v) w')(hQ : ∀ch w',po.op ch w'.heap->Same w w'->Q' (.panic ch) a w'):o.wpIn (Fw r) 0 P a w K' Q':=by refine⟨λ_ _=>trivial,?_⟩;rw[Oper.semAt_eq _ _ _ (by intro c e;simp[dA,e]at hp),IC hp ht hv];exact hr w rfl r o a K' Q' hK hQ
inductive Reg where
 | fin (kill:List Nat) (sets:List (Nat × E)) (chk:List E)
 | loud (kill:List Nat) (sets args:List (Nat × E)) (grd:Option (E × Bool)) (chk:List E) (tail:Bool) (op:Op) (ty:TypeId) (dst:Option Nat) (keep:Bool) (next:Reg)
 | both (x y:Reg)
 deriving Inhabited
def part(m:Option View)(h:Heap):View:=m.getD (vw h)
def ov(S:View->View->Prop)(m:Option View)(h:Heap):Prop:=∀H,m=QB H->S H (vw h)
def keeps(m:Option View)(h:Heap):Prop:=ov View.le m h
def nothing:View:=λ_=>QC
abbrev opAt[pp:PP](m:Option View):OP:=⟨λch h=>(m.isNone=QF\/∀ρ,pp.fx ρ)/\pp.kp ch h⟩
abbrev ppD(pp:PP):PP:=⟨λch h=>(∀ρ,pp.fx ρ)/\pp.kp ch h,λ_=>True⟩
def b8[pp:PP](S:View->View->Prop)(P:Program)(m:Option View)(r:Reg)(Q:Env->Heap->Prop)(ρ:Env)(h:Heap):Prop:=
 match r with
 | .fin kill sets chk=>∃vs,evP (look ρ) (part m h) sets=QB vs/\okE (look ρ) (part m h) chk/\Q (db (bJ ρ kill) vs) h
 | .loud kill sets args grd chk tail op ty dst keep next=>
  ∃vs us,evP (look ρ) (part m h) sets=QB vs/\evP (look ρ) (part m h) args=QB us/\okE (look ρ) (part m h) chk/\pp.fx (db (bJ ρ kill) vs)/\
   match grd with
   | none=>@iI (opAt m) P (bg op ty us) h λv h'=>ov S (if tail then QC else m) h'/\b8 S P (if tail then m.map (λ_=>nothing) else m) next Q (putE (db (bJ ρ kill) vs) dst keep v) h'
   | some (g,b)=>∃gv,ev (look ρ) (part m h) g=QB gv/\
    (gv = .bool b->@iI (opAt m) P (bg op ty us) h λv h'=>ov S (if tail then QC else m) h'/\b8 S P (if tail then m.map (λ_=>nothing) else m) next Q (putE (db (bJ ρ kill) vs) dst keep v) h')/\
    (gv≠.bool b->b8 S P (if tail then m.map (λ_=>nothing) else m) next Q (putE (db (bJ ρ kill) vs) dst keep undef) h)
 | .both x y=>b8 S P m x Q ρ h/\b8 S P m y Q ρ h
def fD[pp:PP](P:Program)(m:Option View)(r:Reg)(Q:Env->Heap->Prop)(ρ:Env)(h:Heap):Prop:=b8 View.le P m r Q ρ h
def GG(ops0:Array Oper)(o:Oper):Option Nat:=
 match o.guard with
 | some (j,_)=>(ops0[j]?).bind (·.dst)
 | none=>QC
def zi(ops0:Array Oper)(l:List Oper):List Nat:=l.flatMap λo=>tmpsOf o++(GG ops0 o).toList
def JA(N:Nat):Option Nat->Bool
 | some d=>decide (d<N)
 | none=>QF
def vE(P:Program)(N:Nat)(ops0:Array Oper)(live:List Nat)(qs:List Oper):Option Reg:=
 let outs:=(dstsOf qs).filter live.contains
 match back P N ops0 qs (outs.map E.tmp)with
 | some es=>QB (.fin (dstsOf qs) (outs.zip es) (es.drop outs.length))
 | none=>QC
def wV(P:Program)(N:Nat)(ops0:Array Oper)(live:List Nat)(qs:List Oper)(o:Oper)(rest:List Oper)(tail:Bool)(next:Reg):Option Reg:=
 let need:=live++zi ops0 rest
 let outs:=(dstsOf qs).filter need.contains
 let args:=tmpsOf o
 let keep:=match o.dst with | some d=>need.contains d | none=>QG
 if dA o.op&&JA N o.dst then
  match o.guard with
  | none=>
   match back P N ops0 qs ((outs++args).map E.tmp)with
   | some es=>QB (.loud (dstsOf qs) (outs.zip es) (args.zip (es.drop outs.length)) QC (es.drop (outs++args).length) tail o.op o.type o.dst keep next)
   | none=>QC
  | some (j,b)=>
   match (ops0[j]?).bind (·.dst)with
   | some c=>
    match back P N ops0 qs ((outs++args++[c]).map E.tmp)with
    | some es=>match es.drop (outs++args).length with
     | g::chk=>QB (.loud (dstsOf qs) (outs.zip es) (args.zip (es.drop outs.length)) (QB (g,b)) chk tail o.op o.type o.dst keep next)
     | []=>QC
    | none=>QC
   | none=>QC
 else QC
def isQ(P:Program)(o:Oper):Bool:=(opE P o.op).isSome&&o.dst.isSome
def regU(P:Program)(N:Nat)(ops0:Array Oper)(live:List Nat):Nat->List Oper->Option Reg
 | 0,_=>QC
 | f+1,ops=>
  let qs:=ops.takeWhile (isQ P);match ops.dropWhile (isQ P)with
  | []=>vE P N ops0 live qs
  | o::rest=>match regU P N ops0 live f rest with
   | some next=>wV P N ops0 live qs o rest QG next
   | none=>QC
theorem qD{ρ:Nat->Option Value}{H:View} : ∀{ts ss:List Nat} {es:List E} {us vs:List (Nat × Value)},ts.length<=es.length->
  evP ρ H (ts.zip es)=QB us->evP ρ H (ss.zip (es.drop ts.length))=QB vs->evP ρ H ((ts++ss).zip es)=QB (us++vs)
 | [],ss,es,us,vs,_,h1,h2=>by simp[evP]at h1;subst h1;simpa using h2
 | t::ts,ss,[],us,vs,hl,_,_=>by simp at hl
 | t::ts,ss,e::es,us,vs,hl,h1,h2=>by
  simp only[Pv,evP]at h1;split at h1
  ·rename_i v vs' hv hvs;simp only[MX]at h1;subst h1;simp only[OZ,Pv,evP,hv,qD (by simpa using hl) hvs (by simpa using h2)]
  cases h1
theorem Ap{ρ:Nat->Option Value}{us:List (Nat × Value)}(hl:ts.length<=es.length)(h:evP ρ H (ts.zip es)=QB us):us.map (·.1)=ts:=(yQ hl h).2
variable{live:List Nat}{Q:Env->Heap->Prop}
theorem om{pp:PP}{N:Nat}{qs rest:List Oper}{o:Oper}{tail:Bool}{next R:Reg}(hR:wV P N ops0 live qs o rest tail next=QB R){S:View->View->Prop}{m:Option View}{h:Heap}{a:Act}(hN:a.tmps.size=N)(hρ:Sat ρ a)(hw:b8 S P m R Q ρ h):
  dA o.op=QF/\(∀d,o.dst=QB d->d<N)/\∃a' ρ' us keep,QRun P ops0 (part m h) qs a a'/\a'.tmps.size=N/\a'.defers=a.defers/\Sat ρ' a'/\us.map (·.1)=tmpsOf o/\(∀p∈us,a'.tmps[p.1]? = QB p.2)/\
   pp.fx ρ'/\(Region.wanted o (yielded ops0 a'.tmps)=QF->@iI (opAt m) P (bg o.op o.type us) h λv h'=>ov S (if tail then QC else m) h'/\b8 S P (if tail then m.map (λ_=>nothing) else m) next Q (putE ρ' o.dst keep v) h')/\
   (Region.wanted o (yielded ops0 a'.tmps)=QG->b8 S P (if tail then m.map (λ_=>nothing) else m) next Q (putE ρ' o.dst keep undef) h):=by
 unfold wV at hR;simp only at hR;split at hR;case isFalse=>cases hR
 rename_i hpd;simp only[M8]at hpd;refine⟨hpd.1,?_,?_⟩
 ·intro d hd;have:=hpd.2;simpa[hd,JA]using this
 generalize ho:(dstsOf qs).filter (live++zi ops0 rest).contains=outs at hR;cases hg:o.guard with
 | none=>
  simp only[hg]at hR;split at hR;case h_2=>cases hR
  rename_i es hb;simp only[MX]at hR;subst hR;simp only[b8]at hw;obtain⟨vs,us,h1,h2,h3,hfx,h4⟩:=hw;have hl:(outs++tmpsOf o).length<=es.length:=by simpa using se hb
  have hl1:outs.length<=es.length:=by simp at hl;omega
  obtain⟨a',hq,hsz,hd,hs,hp⟩:=qZ hb hN hρ (qD hl1 h1 h2) h3;refine⟨a',_,us,_,hq,hsz,hd,wI hs (λp hp'=>hp p (NC _ hp')),Ap (by simp at hl ⊢;omega) h2,λp hp'=>hp p (NG _ hp'),hfx,λ_=>h4,λhw=>?_⟩;simp[Region.wanted,hg]at hw
 | some jb=>
  obtain⟨j,b⟩:=jb;simp only[hg]at hR;split at hR;case h_2=>cases hR
  rename_i c hc;split at hR;case h_2=>cases hR
  rename_i es hb;split at hR;case h_2=>cases hR
  rename_i g chk hge;simp only[MX]at hR;subst hR;simp only[b8]at hw;obtain⟨vs,us,h1,h2,h3,hfx,gv,h4,h5,h6⟩:=hw;have hl:(outs++tmpsOf o++[c]).length<=es.length:=by simpa using se hb
  have hl1:outs.length<=es.length:=by simp at hl;omega
  have hl2:(outs++tmpsOf o).length<=es.length:=by simp at hl ⊢;omega
  have e1:evP (look ρ) (part m h) ([c].zip (es.drop (outs++tmpsOf o).length))=QB [(c,gv)]:=by rw[hge];simp[evP,h4]
  have e2:okE (look ρ) (part m h) (es.drop (outs++tmpsOf o++[c]).length):=by
   have:es.drop (outs++tmpsOf o++[c]).length=(es.drop (outs++tmpsOf o).length).drop 1:=by rw[O1,show(outs++tmpsOf o++[c]).length=(outs++tmpsOf o).length+1 from by rw[M3];rfl]
   rw[this,hge];exact h3
  obtain⟨a',hq,hsz,hd,hs,hp⟩:=qZ hb hN hρ (qD hl2 (qD hl1 h1 h2) e1) e2;have hcv:a'.tmps[c]? = QB gv:=hp (c,gv) Sb;have hwant:Region.wanted o (yielded ops0 a'.tmps)=QF↔gv = .bool b:=by simp only[Region.wanted,hg,yielded,hc,Nn,hcv,beq_iff_eq];cases gv<;>simp
  refine⟨a',_,us,_,hq,hsz,hd,wI hs (λp hp'=>hp p (by simp[hp'])),Ap (by simp at hl ⊢;omega) h2,λp hp'=>hp p (by simp[hp']),hfx,λhw=>h5 (hwant.1 hw),λhw=>h6 ?_⟩;intro e;rw[hwant.2 e]at hw;cases hw
theorem pV{pp:PP}{N:Nat}{qs:List Oper}{R:Reg}(hR:vE P N ops0 live qs=QB R){S:View->View->Prop}{m:Option View}{h:Heap}{a:Act}(hN:a.tmps.size=N)(hρ:Sat ρ a)(hw:b8 S P m R Q ρ h):
  ∃a' ρ',QRun P ops0 (part m h) qs a a'/\a'.tmps.size=N/\a'.defers=a.defers/\Sat ρ' a'/\Q ρ' h:=by
 unfold vE at hR;simp only at hR;split at hR;case h_2=>cases hR
 rename_i es hb;simp only[MX]at hR;subst hR;simp only[b8]at hw;obtain⟨vs,h1,h2,h3⟩:=hw;obtain⟨a',hq,hsz,hd,hs,hp⟩:=qZ hb hN hρ h1 h2;exact⟨a',_,hq,hsz,hd,wI hs hp,h3⟩
def iK[pp:PP](N:Nat)(D:List Deferred)(w:World)(Q:Env->Heap->Prop):Exit->Act->World->Prop
 | .normal,a,w'=>∃ρ,Sat ρ a/\a.tmps.size=N/\a.defers=D/\Q ρ w'.heap/\Same w w'
 | .panic ch,a,w'=>∃ρ,Sat ρ a/\a.tmps.size=N/\a.defers=D/\(pp.fx ρ/\pp.kp ch w'.heap)/\Same w w'
 | _,_,_=>False
theorem Ea{op:Op}{e:E}(h:opE P op=QB e):dA op=true:=by cases op<;>first | rfl | simp[opE]at h
theorem tV{P:Program}{r:Option Nat}{ops0:Array Oper}{H:View}{w:World}(hw:H.sub (vw w.heap)){Q:Exit->Act->World->Prop}{rest:List Oper} :
  ∀{qs:List Oper} {a a':Act},(∀o∈qs,isQ P o=QF)->QRun P ops0 H qs a a'->wpListIn (Fw r) 0 P ops0 Q rest a' w->wpListIn (Fw r) 0 P ops0 Q (qs++rest) a w
 | [],a,a',_,hq,h=>by simp only[QRun]at hq;subst hq;exact h
 | o::qs,a,a',hall,hq,h=>by
  obtain⟨v,hy,hq⟩:=hq;have ih:=tV hw (λo' ho'=>hall o' (Nf _ ho')) hq h;have hpl:dA o.op=true:=by have:=hall o (Ng ..);simp only[isQ,M8,Option.isSome_iff_exists]at this;obtain⟨⟨e,he⟩,_⟩:=this;exact Ea he
  simp only[OZ,wpListIn];rcases hy with⟨hwt,hrun,_⟩ | ⟨hwt,rfl⟩
  ·rw[if_pos hwt];refine⟨λ_ _=>trivial,?_⟩;rw[Oper.semAt_eq _ _ _ (by intro c e;simp[dA,e]at hpl),hrun w hw];exact ih
  rw[if_neg (by simp[hwt])];exact⟨λ_ _=>trivial,ih⟩
theorem qH{α:Type}(p:α->Bool) : ∀(l:List α),∀x∈l.takeWhile p,p x=QF
 | [],_,h=>by simp at h
 | y::l,x,h=>by
  simp only[List.takeWhile_cons]at h;split at h
  ·rename_i hy;rcases Nu.1 h with rfl | h
   ·exact hy
   exact qH p l x h
  cases h
theorem rE{pp:PP}{P:Program}{N:Nat}{ops0:Array Oper}{live:List Nat}{r:Option Nat}{Q:Env->Heap->Prop}{D:List Deferred}{w0:World} :
  ∀(f:Nat) {ops:List Oper} {R:Reg} {ρ:Env} {a:Act} {w:World},regU P N ops0 live f ops=QB R->a.tmps.size=N->a.defers=D->Sat ρ a->Same w0 w->fD P QC R Q ρ w.heap->
   wpListIn (Fw r) 0 P ops0 (iK N D w0 Q) ops a w
 | 0,_,_,_,_,_,h,_,_,_,_,_=>by simp[regU]at h
 | f+1,ops,R,ρ,a,w,hR,hN,hD,hρ,hS,hw=>by
  simp only[regU]at hR;have hsplit:=List.takeWhile_append_dropWhile (p:=isQ P) (l:=ops);have hall : ∀o∈ops.takeWhile (isQ P),isQ P o=true:=qH _ _;cases hrest:ops.dropWhile (isQ P)with
  | nil=>simp only[hrest]at hR;obtain⟨a',ρ',hq,hsz,hd,hs,hQ⟩:=pV hR hN hρ hw;rw[hrest]at hsplit;rw[<-hsplit];exact tV (H:=vw w.heap) (View.tj (View.le_refl _)) hall hq ⟨ρ',hs,hsz,hd.trans hD,hQ,hS⟩
  | cons o rest=>
   simp only[hrest]at hR;split at hR;case h_2=>cases hR
   rename_i next hnext
   obtain⟨hp,hdst,a',ρ',us,keep,hq,hsz,hd,hs,hk,hv,hfx,h1,h2⟩:=om hR hN hρ hw;rw[hrest]at hsplit;rw[<-hsplit];refine tV (H:=vw w.heap) (View.tj (View.le_refl _)) hall hq ?_;have hput : ∀v,(a'.put o.dst v).tmps.size=N:=λv=>by cases o.dst<;>simp[Act.put,hsz]
   have hdef : ∀v,(a'.put o.dst v).defers=D:=λv=>by cases ho:o.dst<;>simp[Act.put,hd,hD]
   have hsat : ∀v,Sat (putE ρ' o.dst keep v) (a'.put o.dst v):=λv=>C5 hs (λd hd=>by rw[hsz];exact hdst d hd);simp only[wpListIn];split
   ·rename_i hwt;exact yn hp hk hv (h1 hwt) (λv w' ⟨_,hreg⟩ hsame=>rE f hnext (hput v) (hdef v) (hsat v) (hS.trans hsame) hreg) λch w' hc hsame=>⟨ρ',hs,hsz,hd.trans hD,⟨hfx,hc.2⟩,hS.trans hsame⟩
   rename_i hwt;exact⟨λ_ _=>trivial,rE f hnext (hput _) (hdef _) (hsat _) hS (h2 (by simpa using hwt))⟩
section
variable{P:Program}{ops:Array Oper}{r:Option Nat}{Q:Exit->Act->World->Prop}{G:Array Bool->World->Prop}
abbrev rdy(ops:Array Oper)(listed:Array Bool):List Nat:=Region.ready .any ops listed
def anyG(P:Program)(r:Option Nat)(ops:Array Oper)(Q:Exit->Act->World->Prop)(G:Array Bool->World->Prop):Nat->Array Bool->Act->World->Prop
 | 0,listed,a,w=>G listed w/\rdy ops listed=[]/\Q .normal a w
 | f+1,listed,a,w=>G listed w/\(rdy ops listed=[]->Q .normal a w)/\∀i∈rdy ops listed,wpOpIn (Fw r) 0 P ops Q i (anyG P r ops Q G f (listed.setIfInBounds i QF)) a w
theorem Hv: ∀{f:Nat} {listed:Array Bool} {a:Act} {w:World},anyG P r ops Q G f listed a w->G listed w
 | 0,_,_,_,h=>h.1
 | _+1,_,_,_,h=>h.1
theorem vO : ∀{f:Nat} {listed:Array Bool} {a:Act} {w:World},anyG P r ops Q G f listed a w->wpAnyIn (Fw r) 0 P .any ops Q f listed a w
 | 0,_,_,_,h=>h.2
 | _+1,_,_,_,h=>⟨h.2.1,λi hi=>wpOpIn_mono (λ_ _ h1=>vO h1) (h.2.2 i hi)⟩
def jT(ops:Array Oper)(listed:Array Bool):Prop:=
 ∀j oj,ops[j]? = QB oj->listed.getD j QG=QF->∀e∈oj.after,Region.binds .any e=QF->listed.getD e.on QG=QF
variable{listed:Array Bool}
theorem jT.set{i:Nat}(h:jT ops listed)(hi:i∈rdy ops listed):jT ops (listed.setIfInBounds i QF):=by
 obtain⟨_,oi,hoi,hall⟩:=mem_ready.1 hi;intro j oj hj hl e he hb;by_cases hij:i=j
 ·subst hij;have:oj=oi:=Option.some.inj (hj.symm.trans hoi);subst this;exact getD_set_true (hall e he hb)
 rw[getD_set_ne QG hij]at hl;exact getD_set_true (h j oj hj hl e he hb)
def down(ops:Array Oper):Nat->List Nat->List Nat
 | 0,S=>S
 | j+1,S=>if S.contains j then down ops j (S++match ops[j]? with | some o=>(o.after.toList.filter (Region.binds .any)).map (·.on) | none=>[]) else down ops j S
theorem qm{listed:Array Bool}(hc:jT ops listed) : ∀(n:Nat) (S:List Nat),(∀s∈S,listed.getD s QG=QF)->∀s∈down ops n S,listed.getD s QG=QF
 | 0,_,h,s,hs=>h s hs
 | j+1,S,h,s,hs=>by
  simp only[down]at hs;split at hs
  ·rename_i hj;refine qm hc j _ ?_ s hs;intro t ht;rcases M1.1 ht with ht | ht
   ·exact h t ht
   cases ho:ops[j]? with
   | none=>simp[ho]at ht
   | some o=>simp only[ho,ND,ON]at ht;obtain⟨e,⟨he,hb⟩,rfl⟩:=ht;exact hc j o ho (h j (by simpa using hj)) e (by simpa using he) hb
  exact qm hc j S h s hs
theorem pa{o:Oper}{v:Value}{a a':Act}(hy:iQ P ops H o v a)(he:execOp a'.eval o=execOp a.eval o)(hw:Region.wanted o (yielded ops a'.tmps)=Region.wanted o (yielded ops a.tmps)):iQ P ops H o v a':=by unfold iQ at *;rw[he,hw];exact hy
theorem uL{i:Nat}{o:Oper}{v:Value}{a:Act}{w:World}{K:Act->World->Prop}(hp:dA o.op=QF)(hi:ops[i]? = QB o)(hy:iQ P ops H o v a)(hw:H.sub (vw w.heap))(h:K (a.put o.dst v) w):wpOpIn (Fw r) 0 P ops Q i K a w:=by
 unfold wpOpIn;simp only[hi];rcases hy with⟨hwt,hv,_⟩ | ⟨hwt,rfl⟩
 ·rw[if_pos hwt];refine⟨λ_ _=>trivial,?_⟩;rw[Oper.semAt_eq _ _ _ (by intro c e;simp[dA,e]at hp),hv w hw];exact h
 rw[if_neg (by simp[hwt])];exact⟨λ_ _=>trivial,h⟩
theorem AA{j:Nat}{oi oj:Oper}{v:Value}(hj:ops[j]? = QB oj)(hap:oi.apart ops oj=QF)(hpi:dA oi.op=QF)(hpj:dA oj.op=QF)(hQ : ∀c a d v w,Q (.panic c) (Act.put a d v) w->Q (.panic c) a w){K:Act->World->Prop}{a:Act}{w:World}(hy:iQ P ops H oi v a)(h:wpOpIn (Fw r) 0 P ops Q j K (a.put oi.dst v) w):
  wpOpIn (Fw r) 0 P ops Q j (λa' w'=>iQ P ops H oi v a'/\K (a'.put oi.dst v) w') a w:=by
 obtain⟨h1,h2,h3⟩:=Oper.apart_spec hap;have hsi : ∀cs b,oi.op≠.select cs b:=λcs b e=>by simp[dA,e]at hpi
 have hsj : ∀cs b,oj.op≠.select cs b:=λcs b e=>by simp[dA,e]at hpj
 have hdj : ∀c,oj.op≠.defer c:=λc e=>by simp[dA,e]at hpj
 have keep : ∀(a:Act),iQ P ops H oi v a->∀u,iQ P ops H oi v (a.put oj.dst u):=λa hy u=>pa hy (execOp_put oi hsi a oj.dst u h3) (wanted_put oi a oj.dst u h3);have keepD : ∀d,iQ P ops H oi v { a with defers:=d::a.defers }:=λd=>pa hy rfl rfl;unfold wpOpIn at *;simp only[hj]at *;rw[wanted_put oj a oi.dst v h1,about_put oj w a oi.dst v h1]at h;split
 ·rename_i hw;simp only[hw,if_true]at h;unfold Oper.wpIn at *;rw[about_put oj w a oi.dst v h1]at h;refine⟨h.1,?_⟩;have h:=h.2;rw[Oper.semAt_eq _ _ _ hdj,execOp_put oj hsj a oi.dst v h1]at h;rw[Oper.semAt_eq _ _ _ hdj];generalize (execOp a.eval oj).run P w=r at *;cases r with
  | ok x w'=>
   cases x<;>simp only[Oper.uponIn]at h ⊢;case value u=>exact⟨keep a hy u,by rw[<-Act.put_comm a v u h2];exact h⟩
   case skip=>exact⟨keep a hy _,by rw[<-Act.put_comm a v undef h2];exact h⟩
   case defer d=>refine⟨keep _ (keepD d) _,?_⟩;rw[<-Act.put_comm _ v undef h2,<-Act.put_defers];exact h
   case enter f args=>
    refine⟨h.1,CallsIn.mono h.2 λe w'' he=>?_⟩;cases e with
    | returned u=>exact⟨keep a hy u,by rw[<-Act.put_comm a v u h2];exact he⟩
    | panicked c=>exact hQ _ _ _ _ _ he
    | outgrown=>exact he
   case row row args=>exact⟨h.1,RowsIn.mono h.2 λu w'' he=>⟨keep a hy u,by rw[<-Act.put_comm a v u h2];exact he⟩⟩
   case round l f tmps assign body=>
    refine⟨h.1,RoundIn.mono h.2 λe w'' he=>?_⟩;cases e with
    | returned u=>exact⟨keep a hy u,by rw[<-Act.put_comm a v u h2];exact he⟩
    | panicked c=>exact hQ _ _ _ _ _ he
    | outgrown=>exact he
  | halt x w'=>cases x<;>simp only[Oper.uponIn]at h ⊢;case panic u=>exact hQ _ _ _ _ _ h
 rename_i hw;simp only[hw]at h;exact⟨h.1,keep a hy _,by rw[<-Act.put_comm a v undef h2];exact h.2⟩
theorem oq{i:Nat}{oi:Oper}{v:Value}(hi:ops[i]? = QB oi)(hpl : ∀(j:Nat) (o:Oper),ops[j]? = QB o->dA o.op=QF)(hQ : ∀c a d v w,Q (.panic c) (Act.put a d v) w->Q (.panic c) a w)(hG : ∀listed w,G (listed.setIfInBounds i QF) w->G listed w)(hcov : ∀listed w,jT ops listed->listed.getD i QF=QG->G listed w->H.sub (vw w.heap)):
  ∀(fuel:Nat) (listed:Array Bool) (a:Act) (w:World),jT ops listed->
   (∀j oj,ops[j]? = QB oj->j≠i->listed.getD j QF=QG->(∀e∈oj.after,Region.binds .any e=QF->e.on≠i)->oi.apart ops oj=QF)->
   i∈rdy ops listed->iQ P ops H oi v a->
   anyG P r ops Q G fuel (listed.setIfInBounds i QF) (a.put oi.dst v) w->anyG P r ops Q G (fuel+1) listed a w:=by
 intro fuel;induction fuel with
 | zero=>
  intro listed a w hcl _ hr hy Hs;have hg:=hG _ _ (Hv Hs);refine⟨hg,λh=>(by rw[h]at hr;cases hr),λj hj=>?_⟩;by_cases hji:j=i
  ·subst hji;exact uL (hpl _ _ hi) hi hy (hcov listed w hcl (mem_ready.1 hr).1 hg) Hs
  have:j∈rdy ops (listed.setIfInBounds i QF):=ready_mono hj hji;rw[Hs.2.1]at this;cases this
 | succ fuel ih=>
  intro listed a w hcl hfree hr hy Hs;have hg:=hG _ _ (Hv Hs);refine⟨hg,λh=>(by rw[h]at hr;cases hr),λj hj=>?_⟩;by_cases hji:j=i
  ·subst hji;exact uL (hpl _ _ hi) hi hy (hcov listed w hcl (mem_ready.1 hr).1 hg) Hs
  have h1:=Hs.2.2 j (ready_mono hj hji);obtain⟨hjun,oj,hoj,hall⟩:=mem_ready.1 hj;have hnot : ∀e∈oj.after,Region.binds .any e=QF->e.on≠i:=λe he hb heq=>by
   have h1:=hall e he hb;have h0:=(mem_ready.1 hr).1;rw[heq]at h1;rcases M0 i listed.size with h' | h'
   ·simp[h']at h0 h1;rw[h0]at h1;cases h1
   simp[OJ h']at h1
  have h2:=AA hoj (hfree j oj hoj hji hjun hnot) (hpl _ _ hi) (hpl _ _ hoj) hQ hy h1;have hfree' : ∀k ok,ops[k]? = QB ok->k≠i->(listed.setIfInBounds j QF).getD k QF=QG->
    (∀e∈ok.after,Region.binds .any e=QF->e.on≠i)->oi.apart ops ok=true:=λk ok hk hki hun hno=>by
   refine hfree k ok hk hki ?_ hno;by_cases hjk:j=k
   ·subst hjk;exact hjun
   rw[getD_set_ne QF hjk]at hun;exact hun
  refine wpOpIn_mono (λa' w' h3=>ih (listed.setIfInBounds j QF) a' w' (hcl.set hj) hfree' (ready_mono hr (Ne.symm hji)) h3.1 ?_) h2;rw[Array.setIfInBounds_comm _ _ hji];exact h3.2
end
def zz(P:Program)(ops:Array Oper)(listed:Array Bool):Option Nat:=
 (rdy ops listed).find? λi=>match ops[i]? with | some o=>isQ P o | none=>QG
def covered(P:Program)(ops:Array Oper)(l0:Option Nat)(i:Nat):Bool:=
 match ops[i]? with
 | some o=>tD P o||match l0 with | none=>QF | some l=>(down ops (l+1) [l]).contains i&&i != l
 | none=>QG
def jZ(P:Program)(ops:Array Oper)(l0:Option Nat):Nat->Array Bool->Option (List Nat × Array Bool)
 | 0,listed=>match zz P ops listed with | none=>QB ([],listed) | some _=>QC
 | f+1,listed=>match zz P ops listed with
  | none=>QB ([],listed)
  | some i=>if Region.free .any ops listed i&&covered P ops l0 i&&l0 != QB i then
    match jZ P ops l0 f (listed.setIfInBounds i QF)with
    | some (qs,l1)=>QB (i::qs,l1)
    | none=>QC
   else QC
def iJ(ops:Array Oper)(l:List Nat):List Oper:=l.filterMap (ops[·]?)
def sC(ops:Array Oper)(listed:Array Bool):List Oper:=iJ ops ((List.range ops.size).filter λj=>!listed.getD j QF)
def pA(node:Nat->Option Reg):List Nat->Option Reg
 | []=>QC
 | [i]=>node i
 | i::is=>match node i,pA node is with
  | some x,QB y=>QB (.both x y)
  | _,_=>QC
def regD(P:Program)(N:Nat)(ops:Array Oper)(live:List Nat)(l0:Option Nat):Nat->Array Bool->Option Reg
 | 0,_=>QC
 | f+1,listed=>match jZ P ops l0 ops.size listed with
  | none=>QC
  | some (qs,l1)=>match rdy ops l1 with
   | []=>vE P N ops live (iJ ops qs)
   | rs=>pA (λi=>match ops[i]? with
    | none=>QC
    | some o=>match regD P N ops live l0 f (l1.setIfInBounds i QF)with
     | some next=>wV P N ops live (iJ ops qs) o (sC ops (l1.setIfInBounds i QF)) (l0 == QB i) next
     | none=>QC) rs
def left(ops:Array Oper)(listed:Array Bool):Nat:=(List.range ops.size).countP λj=>!listed.getD j QF
theorem yj{α:Type}{p q:α->Bool} : ∀{l:List α} {x:α},(∀y,q y=QF->p y=QF)->x∈l->p x=QF->q x=QG->l.countP q<l.countP p
 | [],_,_,h,_,_=>by cases h
 | y::l,x,hqp,hx,hp,hq=>by
  have hle:l.countP q<=l.countP p:=List.countP_mono_left (λy _=>hqp y);simp only[List.countP_cons];rcases Nu.1 hx with rfl | hx
  ·simp[hp,hq];omega
  have:=yj hqp hx hp hq;cases hqy:q y
  ·simp;omega
  simp[hqp y hqy];omega
variable{listed:Array Bool}
theorem sV{ops:Array Oper}{i:Nat}(hi:i∈rdy ops listed):left ops (listed.setIfInBounds i QF)<left ops listed:=by
 obtain⟨h0,o,ho,_⟩:=mem_ready.1 hi;refine yj (x:=i) (λy hy=>?_) (N0.2 (M7.1 ho).1) (by simpa using h0) ?_
 ·by_cases h:i=y
  ·subst h;simpa using h0
  rw[getD_set_ne QF h]at hy;exact hy
 have hlt:i<listed.size:=by
  rcases M0 i listed.size with h | h
  ·exact h
  simp[OJ h]at h0
 simp[hlt]
section
variable{P:Program}{N:Nat}{ops:Array Oper}{live:List Nat}{l0:Option Nat}{r:Option Nat}{D:List Deferred}{w0:World}{Q:Env->Heap->Prop}{H:View}
def GH(l0:Option Nat)(H:View)(listed:Array Bool)(w:World):Prop:=H.sub (vw w.heap)\/∃l,l0=QB l/\listed.getD l QG=QF
def GX(l0 o1:Option Nat)(h0:Heap)(H:View)(listed:Array Bool)(w:World):Prop:=GH l0 H listed w/\∀o,o1=QB o->listed.getD o QG=QG->w.heap=h0
def partAt(l0:Option Nat)(H:View)(listed:Array Bool):View:=match l0 with | some l=>if listed.getD l QG then nothing else H | none=>H
theorem zP{i:Nat}(h:zz P ops listed=QB i):i∈rdy ops listed/\∃o,ops[i]? = QB o/\isQ P o=true:=by
 refine⟨P4 h,?_⟩;have:=List.find?_some h;cases ho:ops[i]? with
 | none=>simp[ho]at this
 | some o=>simp[ho]at this;exact⟨o,rfl,this⟩
theorem tc{o1:Option Nat}{h0:Heap}(ho1 : ∀o oo,o1=QB o->ops[o]? = QB oo->isQ P oo=QG)(hpl : ∀(j:Nat) (o:Oper),ops[j]? = QB o->dA o.op=QF) : ∀{f:Nat} {listed l1:Array Bool} {qs:List Nat},jZ P ops l0 f listed=QB (qs,l1)->jT ops listed->
  jT ops l1/\zz P ops l1=QC/\(∀l,l0=QB l->l1.getD l QG=listed.getD l QG)/\(∀l,listed.getD l QG=QF->l1.getD l QG=QF)/\
  ∀{a a':Act} {w:World} {Q':Exit->Act->World->Prop},(∀c a d v w,Q' (.panic c) (Act.put a d v) w->Q' (.panic c) a w)->QRun P ops (partAt l0 H listed) (iJ ops qs) a a'->
   (∀F,left ops l1<=F->anyG P r ops Q' (GX l0 o1 h0 H) F l1 a' w)->∀F,left ops listed<=F->anyG P r ops Q' (GX l0 o1 h0 H) F listed a w
 | 0,listed,l1,qs,h,hc=>by
  simp only[jZ]at h;split at h
  ·rename_i hq;simp only[MX,Og]at h;obtain⟨rfl,rfl⟩:=h;refine⟨hc,hq,λ_ _=>rfl,λ_ h=>h,fun{a a' w Q'} _ hrun hany=>?_⟩;simp only[iJ,Pw,QRun]at hrun;subst hrun;exact hany
  cases h
 | f+1,listed,l1,qs,h,hc=>by
  simp only[jZ]at h;split at h
  ·rename_i hq;simp only[MX,Og]at h;obtain⟨rfl,rfl⟩:=h;refine⟨hc,hq,λ_ _=>rfl,λ_ h=>h,fun{a a' w Q'} _ hrun hany=>?_⟩;simp only[iJ,Pw,QRun]at hrun;subst hrun;exact hany
  rename_i i hq;split at h;case isFalse=>cases h
  rename_i hfc;simp only[M8,bne_iff_ne,ne_eq]at hfc;obtain⟨⟨hfree,hcov⟩,hne⟩:=hfc;split at h;case h_2=>cases h
  rename_i qs' l1' hrec;simp only[MX,Og]at h;obtain⟨rfl,rfl⟩:=h;obtain⟨hi,o,ho,hoq⟩:=zP hq;obtain⟨hc1,hf1,hl1,hup,hstep⟩:=tc ho1 hpl hrec (hc.set hi);have hl0 : ∀l,l0=QB l->(listed.setIfInBounds i QF).getD l QG=listed.getD l false:=λl hl=>getD_set_ne QG (λe=>hne (by rw[hl,e]));refine⟨hc1,hf1,λl hl=>(hl1 l hl).trans (hl0 l hl),λl hl=>hup l (getD_set_true hl),fun{a a' w Q'} hQ hrun hany F hF=>?_⟩;have hrun':QRun P ops (partAt l0 H listed) (o::iJ ops qs') a a':=by simpa[iJ,ho]using hrun
  obtain⟨v,hy,hrun2⟩:=hrun';have hpart:partAt l0 H (listed.setIfInBounds i QF)=partAt l0 H listed:=by
   unfold partAt;cases hl:l0 with
   | none=>rfl
   | some l=>simp only[hl0 l hl]
  have hlt:=sV hi;obtain⟨F',rfl⟩ : ∃F',F=F'+1:=⟨F-1,by omega⟩;have hsub:=hstep (w:=w) hQ (by rw[hpart];exact hrun2) hany F' Q1;have hGset : ∀listed w,GX l0 o1 h0 H (listed.setIfInBounds i QF) w->GX l0 o1 h0 H listed w:=by
   rintro listed w ⟨h,hx⟩;refine⟨?_,λk hk hf=>hx k hk ?_⟩
   ·rcases h with h | ⟨l,hl,h⟩
    ·exact .inl h
    refine .inr ⟨l,hl,?_⟩;rw[getD_set_ne QG (λe=>hne (by rw[hl,e]))]at h;exact h
   rw[getD_set_ne QG (λe=>?_)]
   ·exact hf
   subst e;rw[ho1 i o hk ho]at hoq;cases hoq
  simp only[covered,ho,NS]at hcov;by_cases hpure:tD P o=QF
  ·have hy':iQ P ops nothing o v a:=by
    rcases hy with⟨hw,hv,hp⟩ | hy
    ·exact .inl ⟨hw,λw _=>hp hpure w,hp⟩
    exact .inr hy
   exact oq (H:=nothing) ho hpl hQ hGset (λ_ _ _ _ _=>λ_ _ h=>by cases h) F' listed a w hc (Region.free_spec ho hfree) hi hy' hsub
  have hcov:=hcov.resolve_left hpure;cases hl:l0 with
  | none=>
   subst hl;refine oq (H:=H) ho hpl hQ hGset (λlisted w _ _ hg=>?_) F' listed a w hc (Region.free_spec ho hfree) hi (by simpa[partAt]using hy) hsub;rcases hg.1 with h | ⟨l,h,_⟩
   ·exact h
   cases h
  | some l=>
   subst hl;simp only[M8]at hcov;have hun : ∀listed,jT ops listed->listed.getD i QF=QG->listed.getD l QG=false:=by
    intro listed hc' hi';cases hll:listed.getD l QG with
    | false=>rfl
    | true=>
     have:=qm hc' (l+1) [l] (by simpa using hll) i (by simpa using hcov.1);exfalso;rcases M0 i listed.size with h' | h'
     ·simp[h']at this hi';rw[hi']at this;cases this
     simp[OJ h']at this
   refine oq (H:=H) ho hpl hQ hGset (λlisted w hc' hi' hg=>?_) F' listed a w hc (Region.free_spec ho hfree) hi ?_ hsub
   ·rcases hg.1 with h | ⟨l',h,h'⟩
    ·exact h
    cases h;rw[hun listed hc' hi']at h';cases h'
   have:=hun listed hc (mem_ready.1 hi).1;simpa[partAt,this]using hy
theorem Ad{H:View}{w:World}(hw:H.sub (vw w.heap)) : ∀{qs:List Oper} {a a1 a2:Act},QRun P ops H qs a a1->QRun P ops H qs a a2->a1=a2
 | [],a,a1,a2,h1,h2=>by simp only[QRun]at h1 h2;rw[h1,h2]
 | o::qs,a,a1,a2,⟨v1,hy1,hq1⟩,⟨v2,hy2,hq2⟩=>by
  have e:v1=v2:=by
   rcases hy1 with⟨hw1,hr1,_⟩ | ⟨hw1,rfl⟩<;>rcases hy2 with⟨hw2,hr2,_⟩ | ⟨hw2,rfl⟩
   ·have:=(hr1 w hw).symm.trans (hr2 w hw);simpa using this
   ·rw[hw1]at hw2;cases hw2
   ·rw[hw1]at hw2;cases hw2
   rfl
  subst e;exact Ad hw hq1 hq2
theorem qS{pp:PP}{node:Nat->Option Reg}{m:Option View}{ρ:Env}{h:Heap} : ∀{rs:List Nat} {R:Reg},pA node rs=QB R->b8 View.sub P m R Q ρ h->∀i∈rs,∃X,node i=QB X/\b8 View.sub P m X Q ρ h
 | [],_,h,_,_,_=>by simp[pA]at h
 | [i],R,h,hw,j,hj=>by simp only[MZ]at hj;subst hj;exact⟨R,h,hw⟩
 | i::k::rs,R,h,hw,j,hj=>by
  simp only[pA]at h;split at h
  ·rename_i x y hx hy;simp only[MX]at h;subst h;simp only[b8]at hw;rcases Nu.1 hj with rfl | hj
   ·exact⟨x,hx,hw.1⟩
   exact qS hy hw.2 j hj
  cases h
theorem xi{pp:PP}{c:List PanicEntry}{a:Act}{d:Option Tmp}{v:Value}{w:World}(h:@iK (ppD pp) N D w0 Q (.panic c) (Act.put a d v) w):@iK (ppD pp) N D w0 Q (.panic c) a w:=by
 obtain⟨ρ,_,h2,h3,⟨_,h4⟩,h5⟩:=h;refine⟨[],λt v h=>by simp[look]at h,?_,?_,⟨trivial,h4⟩,h5⟩
 ·cases d<;>simpa[Act.put]using h2
 cases d<;>simpa[Act.put]using h3
theorem nM{pp:PP}{o1:Option Nat}{h0:Heap}(hfst : ∀o oo,o1=QB o->ops[o]? = QB oo->isQ P oo=QG)(hpl : ∀(j:Nat) (o:Oper),ops[j]? = QB o->dA o.op=QF) : ∀(f:Nat) {listed:Array Bool} {R:Reg} {ρ:Env} {a:Act} {w:World},
  regD P N ops live l0 f listed=QB R->jT ops listed->listed.size=ops.size->a.tmps.size=N->a.defers=D->Sat ρ a->Same w0 w->GX l0 o1 h0 H listed w->(∀o,o1=QB o->listed.getD o QG=QF\/∃qs l1,jZ P ops l0 ops.size listed=QB (qs,l1)/\rdy ops l1=[o])->(partAt l0 H listed).sub (vw w.heap)->
  b8 View.sub P (QB (partAt l0 H listed)) R Q ρ w.heap->∀F,left ops listed<=F->anyG P r ops (@iK (ppD pp) N D w0 Q) (GX l0 o1 h0 H) F listed a w
 | 0,_,_,_,_,_,h,_,_,_,_,_,_,_,_,_,_=>by simp[regD]at h
 | f+1,listed,R,ρ,a,w,hR,hc,hLs,hN,hD,hρ,hS,hG,ho2,hX,hw=>by
  simp only[regD]at hR;split at hR;case h_1=>cases hR
  rename_i qs l1 hqs;obtain⟨hc1,_,hl1,hup,hstep⟩:=tc (H:=H) (r:=r) (h0:=h0) hfst hpl hqs hc;have hl1s:l1.size=ops.size:=by
   have : ∀{f:Nat} {listed l1:Array Bool} {qs:List Nat},jZ P ops l0 f listed=QB (qs,l1)->l1.size=listed.size:=by
    intro f;induction f with
    | zero=>
     intro listed l1 qs h;simp only[jZ]at h;split at h
     ·simp only[MX,Og]at h;rw[h.2]
     cases h
    | succ f ih=>
     intro listed l1 qs h;simp only[jZ]at h;split at h
     ·simp only[MX,Og]at h;rw[h.2]
     split at h
     ·split at h
      ·rename_i hh;simp only[MX,Og]at h;rw[<-h.2,ih hh];simp
      cases h
     cases h
   rw[this hqs,hLs]
  have hpart1:partAt l0 H l1=partAt l0 H listed:=by
   unfold partAt;cases hl:l0 with
   | none=>rfl
   | some l=>simp only[hl1 l hl]
  have hG1:GX l0 o1 h0 H l1 w:=by
   refine⟨?_,λk hk hf=>hG.2 k hk ?_⟩
   ·rcases hG.1 with h | ⟨l,hl,h⟩
    ·exact .inl h
    exact .inr ⟨l,hl,by rw[hl1 l hl];exact h⟩
   cases hkk:listed.getD k QG with
   | false=>rfl
   | true=>rw[hup k hkk]at hf;cases hf
  have hpartm:part (QB (partAt l0 H listed)) w.heap=partAt l0 H listed:=rfl;cases hrs:rdy ops l1 with
  | nil=>
   simp only[hrs]at hR;obtain⟨a',ρ',hq,hsz,hd,hs,hQ⟩:=pV hR hN hρ hw;rw[hpartm]at hq;have hpost:@iK (ppD pp) N D w0 Q .normal a' w:=⟨ρ',hs,hsz,hd.trans hD,hQ,hS⟩;refine hstep (λ_ _ _ _ _=>xi) hq (λF _=>?_);cases F with
   | zero=>exact⟨hG1,hrs,hpost⟩
   | succ F=>exact⟨hG1,λ_=>hpost,by rw[hrs];intro i hi;cases hi⟩
  | cons i0 is0=>
   simp only[hrs]at hR;have hbr:=qS hR hw;have hnode : ∀i∈i0::is0,∃o next X,ops[i]? = QB o/\regD P N ops live l0 f (l1.setIfInBounds i QF)=QB next/\
     wV P N ops live (iJ ops qs) o (sC ops (l1.setIfInBounds i QF)) (l0 == QB i) next=QB X/\b8 View.sub P (QB (partAt l0 H listed)) X Q ρ w.heap:=by
    intro i hi;obtain⟨X,hX,hXw⟩:=hbr i hi;cases ho:ops[i]? with
    | none=>simp[ho]at hX
    | some o=>
     simp only[ho]at hX;split at hX
     ·rename_i next hnext
      exact⟨o,next,X,rfl,hnext,hX,hXw⟩
     cases hX
   obtain⟨oo1,next1,X1,ho1,hn1,hX1,hXw1⟩:=hnode i0 (Ng ..);obtain⟨_,_,a',_,_,_,hq,hsz,hd,_,_,_,_,_,_⟩:=om hX1 hN hρ hXw1;rw[hpartm]at hq;refine hstep (λ_ _ _ _ _=>xi) hq (λF hF=>?_);obtain⟨F',rfl⟩ : ∃F',F=F'+1:=by have h1:=sV (ops:=ops) (listed:=l1) (i:=i0) (by rw[hrs];exact Ng ..);exact⟨F-1,by omega⟩
   refine⟨hG1,λh0=>(by rw[hrs]at h0;cases h0),λi hi=>?_⟩;have hi':i∈i0::is0:=by rw[<-hrs];exact hi
   obtain⟨o,next,X,ho,hnext,hX2,hXw⟩:=hnode i hi';obtain⟨hp,hdst,a2,ρ',us,keep,hq2,hsz2,hd2,hs2,hk,hv,_,h1,h2⟩:=om hX2 hN hρ hXw;rw[hpartm]at hq2;obtain rfl:=Ad hX hq2 hq;have hput : ∀v,(a2.put o.dst v).tmps.size=N:=λv=>by cases o.dst<;>simp[Act.put,hsz2]
   have hdef : ∀v,(a2.put o.dst v).defers=D:=λv=>by cases ho:o.dst<;>simp[Act.put,hd2,hD]
   have hsat : ∀v,Sat (putE ρ' o.dst keep v) (a2.put o.dst v):=λv=>C5 hs2 (λd hd=>by rw[hsz2];exact hdst d hd);have hlt:=sV hi;have hun:l1.getD i QF=false:=(mem_ready.1 hi).1;have hisz:i<l1.size:=by
    rcases M0 i l1.size with h | h
    ·exact h
    simp[OJ h]at hun
   have hnew:(l1.setIfInBounds i QF).getD i QG=true:=by simp[hisz]
   have hno : ∀k,o1=QB k->(l1.setIfInBounds i QF).getD k QG=true:=by
    intro k hk;rcases ho2 k hk with h | ⟨qs',l1',e,hr⟩
    ·exact getD_set_true (hup k h)
    rw[hqs]at e;cases e;rw[hr]at hi;rw[<-List.mem_singleton.1 hi];exact hnew
   have hvain : ∀k,o1=QB k->(l1.setIfInBounds i QF).getD k QG=QG->∀w':World,w'.heap=h0:=λk hk hf=>by rw[hno k hk]at hf;cases hf
   have hview : ∀h':Heap,ov View.sub (if(l0 == QB i)=QF then QC else QB (partAt l0 H listed)) h'->∀w':World,w'.heap=h'->
     GX l0 o1 h0 H (l1.setIfInBounds i QF) w'/\(partAt l0 H (l1.setIfInBounds i QF)).sub (vw w'.heap)/\
     (if(l0 == QB i)=QF then(QB (partAt l0 H listed)).map (λ_=>nothing) else QB (partAt l0 H listed))=QB (partAt l0 H (l1.setIfInBounds i QF)):=by
    intro h' hk w' hw';by_cases ht:l0=QB i
    ·subst ht;refine⟨⟨.inr ⟨i,rfl,hnew⟩,λk hk hf=>hvain k hk hf w'⟩,?_,?_⟩
     ·simp only[partAt,hnew,if_true];intro _ _ h;cases h
     simp[partAt,hnew]
    have hne:(l0 == QB i)=false:=by simpa using ht
    rw[hne]at hk;have hle:(partAt l0 H listed).sub (vw h'):=hk _ rfl;have hpe:partAt l0 H (l1.setIfInBounds i QF)=partAt l0 H listed:=by
     rw[<-hpart1];unfold partAt;cases hl:l0 with
     | none=>rfl
     | some l=>have:i≠l:=λe=>ht (by rw[hl,e]);simp only[getD_set_ne QG this]
    refine⟨⟨?_,λk hk hf=>hvain k hk hf w'⟩,by rw[hpe,hw'];exact hle,by simp[hne,hpe]⟩;rcases hG1.1 with _ | ⟨l,hl,h⟩
    ·by_cases hb : ∃l,l0=QB l/\l1.getD l QG=QF
     ·obtain⟨l,hl,h⟩:=hb;exact .inr ⟨l,hl,getD_set_true h⟩
     refine .inl ?_;have:partAt l0 H listed=H:=by
      rw[<-hpart1];unfold partAt;cases hl:l0 with
      | none=>rfl
      | some l=>have:¬l1.getD l QG=true:=λh=>hb ⟨l,hl,h⟩;simp only[this];rfl
     rw[this]at hle;rw[hw'];exact hle
    exact .inr ⟨l,hl,getD_set_true h⟩
   unfold wpOpIn;simp only[ho];split
   ·rename_i hwt;refine yn hp hk hv (h1 hwt) (λv w' ⟨hkeep,hreg⟩ hsame=>?_) λch w' hc hsame=>⟨[],λt v h=>by simp[look]at h,hsz2,hd2.trans hD,⟨trivial,hc.1.resolve_left Sb,hc.2⟩,hS.trans hsame⟩;obtain⟨g1,g2,g3⟩:=hview w'.heap hkeep w' rfl;rw[g3]at hreg;exact nM hfst hpl f hnext (hc1.set hi) (by simp[hl1s]) (hput v) (hdef v) (hsat v) (hS.trans hsame) g1 (λk hk=>.inl (hno k hk)) g2 hreg F' Q1
   rename_i hwt;refine⟨λ_ _=>trivial,?_⟩;have hreg:=h2 (by simpa using hwt);obtain⟨g1,g2,g3⟩:=hview w.heap (by
    split
    ·intro _ h;cases h
    intro Y hY;cases hY;exact hX) w rfl;rw[g3]at hreg;exact nM hfst hpl f hnext (hc1.set hi) (by simp[hl1s]) (hput _) (hdef _) (hsat _) hS g1 (λk hk=>.inl (hno k hk)) g2 hreg F' Q1
theorem zu{pp:PP}{id:Nat}{R:Reg}{a:Act}{w:World}(hm:P.follows .mixedOrders=QF)(hpl:ops.all (λo=>dA o.op)=QF)(hR:regD P N ops live l0 (ops.size+1) (Array.replicate ops.size QG)=QB R)(hN:a.tmps.size=N)(hD:a.defers=D)(hρ:Sat ρ a)(hw : ∃H:View,H.sub (vw w.heap)/\b8 View.sub P (QB H) R Q ρ w.heap):(Code.region id ops QF).wpIn (Fw r) 0 P (iK N D w Q) a w:=by
 obtain⟨H,hH,hw⟩:=hw;have hpl' : ∀(j:Nat) (o:Oper),ops[j]? = QB o->dA o.op=true:=λj o ho=>by obtain⟨hj,rfl⟩:=M7.1 ho;exact Array.all_eq_true.1 hpl j hj
 have hclosed:jT ops (Array.replicate ops.size QG):=by
  intro j oj _ h;rcases M0 j ops.size with h' | h'
  ·simp[h']at h
  simp[h']at h
 have hun : ∀l,(Array.replicate ops.size QG).getD l QG=false:=λl=>by rcases M0 l ops.size with h' | h'<;>simp[h']
 have hpart:partAt l0 H (Array.replicate ops.size QG)=H:=by
  unfold partAt;cases l0 with
  | none=>rfl
  | some l=>simp[hun l]
 have weak : ∀e a' w',@iK (ppD pp) N D w Q e a' w'->iK N D w Q e a' w':=λe a' w' hq=>by cases e<;>first | exact hq | (obtain⟨ρ,h1,h2,h3,⟨_,h4,h5⟩,h6⟩:=hq;exact⟨ρ,h1,h2,h3,⟨h4 ρ,h5⟩,h6⟩)
 refine wpIn_mono (wpIn_region_any hm (vO (G:=GX l0 QC w.heap H) (nM (pp:=pp) (o1:=QC) (h0:=w.heap) (H:=H) (w0:=w) (w:={ w with drawn:=w.drawn+1 }) (λ_ _ h=>by cases h) hpl' _ hR hclosed Sb hN hD hρ Same.drawn ⟨.inl hH,λ_ h=>by cases h⟩ (λ_ h=>by cases h) ?_ ?_ _ ?_))) weak
 ·rw[hpart];exact hH
 ·rw[hpart];exact hw
 refine NB (List.countP_le_length ..) Sb
def nW(P:Program)(ops:Array Oper)(l0:Option Nat)(o1:Nat):Nat->Array Bool->Option (List Nat × Array Bool)
 | 0,listed=>QB ([],listed)
 | f+1,listed=>match (rdy ops listed).find? (λi=>(down ops (o1+1) [o1]).contains i&&(match ops[i]? with | some o=>isQ P o | none=>QG))with
  | none=>QB ([],listed)
  | some i=>if Region.free .any ops listed i&&l0 != QB i then
    match nW P ops l0 o1 f (listed.setIfInBounds i QF)with
    | some (qs,l1)=>QB (i::qs,l1)
    | none=>QC
   else QC
theorem qT{o1:Nat}{h0:Heap}(ho1 : ∀oo,ops[o1]? = QB oo->isQ P oo=QG)(hpl : ∀(j:Nat) (o:Oper),ops[j]? = QB o->dA o.op=QF) : ∀{f:Nat} {listed l1:Array Bool} {qs:List Nat},nW P ops l0 o1 f listed=QB (qs,l1)->jT ops listed->
  jT ops l1/\l1.size=listed.size/\(∀l,l0=QB l->l1.getD l QG=listed.getD l QG)/\
  ∀{a a':Act} {w:World} {Q':Exit->Act->World->Prop},(∀c a d v w,Q' (.panic c) (Act.put a d v) w->Q' (.panic c) a w)->QRun P ops (vw h0) (iJ ops qs) a a'->
   (∀F,left ops l1<=F->anyG P r ops Q' (GX l0 (QB o1) h0 H) F l1 a' w)->∀F,left ops listed<=F->anyG P r ops Q' (GX l0 (QB o1) h0 H) F listed a w
 | 0,listed,l1,qs,h,hc=>by simp only[nW,MX,Og]at h;obtain⟨rfl,rfl⟩:=h;refine⟨hc,rfl,λ_ _=>rfl,fun{a a' w Q'} _ hrun hany=>?_⟩;simp only[iJ,Pw,QRun]at hrun;subst hrun;exact hany
 | f+1,listed,l1,qs,h,hc=>by
  simp only[nW]at h;split at h
  ·simp only[MX,Og]at h;obtain⟨rfl,rfl⟩:=h;refine⟨hc,rfl,λ_ _=>rfl,fun{a a' w Q'} _ hrun hany=>?_⟩;simp only[iJ,Pw,QRun]at hrun;subst hrun;exact hany
  rename_i i hq;split at h;case isFalse=>cases h
  rename_i hfc;simp only[M8,bne_iff_ne,ne_eq]at hfc;obtain⟨hfree,hne⟩:=hfc;split at h;case h_2=>cases h
  rename_i qs' l1' hrec;simp only[MX,Og]at h;obtain⟨rfl,rfl⟩:=h;have hi:=P4 hq;have hq':=List.find?_some hq;obtain⟨o,ho,hoq⟩ : ∃o,ops[i]? = QB o/\isQ P o=true:=by
   cases ho:ops[i]? with
   | none=>simp[ho]at hq'
   | some o=>simp[ho]at hq';exact⟨o,rfl,hq'.2⟩
  have hdn:i∈down ops (o1+1) [o1]:=by simp only[M8]at hq';simpa using hq'.1
  obtain⟨hc1,hs1,hl1,hstep⟩:=qT ho1 hpl hrec (hc.set hi);have hl0 : ∀l,l0=QB l->(listed.setIfInBounds i QF).getD l QG=listed.getD l false:=λl hl=>getD_set_ne QG (λe=>hne (by rw[hl,e]));refine⟨hc1,by rw[hs1];simp,λl hl=>(hl1 l hl).trans (hl0 l hl),fun{a a' w Q'} hQ hrun hany F hF=>?_⟩;have hrun':QRun P ops (vw h0) (o::iJ ops qs') a a':=by simpa[iJ,ho]using hrun
  obtain⟨v,hy,hrun2⟩:=hrun';have hlt:=sV hi;obtain⟨F',rfl⟩ : ∃F',F=F'+1:=⟨F-1,by omega⟩;have hsub:=hstep (w:=w) hQ hrun2 hany F' Q1;have hGset : ∀listed w,GX l0 (QB o1) h0 H (listed.setIfInBounds i QF) w->GX l0 (QB o1) h0 H listed w:=by
   rintro listed w ⟨h,hx⟩;refine⟨?_,λk hk hf=>hx k hk ?_⟩
   ·rcases h with h | ⟨l,hl,h⟩
    ·exact .inl h
    refine .inr ⟨l,hl,?_⟩;rw[getD_set_ne QG (λe=>hne (by rw[hl,e]))]at h;exact h
   rw[getD_set_ne QG (λe=>?_)]
   ·exact hf
   subst e;cases hk;rw[ho1 o ho]at hoq;cases hoq
  refine oq (H:=vw h0) ho hpl hQ hGset (λlisted w hc' hi' hg=>?_) F' listed a w hc (Region.free_spec ho hfree) hi hy hsub;have hun:listed.getD o1 QG=false:=by
   cases hll:listed.getD o1 QG with
   | false=>rfl
   | true=>
    have:=qm hc' (o1+1) [o1] (by simpa using hll) i hdn;exfalso;rcases M0 i listed.size with h' | h'
    ·simp[h']at this hi';rw[hi']at this;cases this
    simp[OJ h']at this
  rw[hg.2 o1 rfl hun];exact View.tj (View.le_refl _)
theorem CF{pp:PP}{id o1:Nat}{R1 R:Reg}{a:Act}{w:World}{qs qs2:List Nat}{l1 l2:Array Bool}{live1:List Nat}(hm:P.follows .mixedOrders=QF)(hpl:ops.all (λo=>dA o.op)=QF)(ho1 : ∀oo,ops[o1]? = QB oo->isQ P oo=QG)(hq:nW P ops l0 o1 ops.size (Array.replicate ops.size QG)=QB (qs,l1))(hF:vE P N ops live1 (iJ ops qs)=QB R1)(hq2:jZ P ops l0 ops.size l1=QB (qs2,l2))(hr:rdy ops l2=[o1])(hR:regD P N ops live l0 (ops.size+1) l1=QB R)(hN:a.tmps.size=N)(hD:a.defers=D)(hρ:Sat ρ a)(hw:fD P QC R1 (λρ' h'=>∃H:View,H.sub (vw h')/\b8 View.sub P (QB H) R Q ρ' h') ρ w.heap):(Code.region id ops QF).wpIn (Fw r) 0 P (iK N D w Q) a w:=by
 have hpl' : ∀(j:Nat) (o:Oper),ops[j]? = QB o->dA o.op=true:=λj o ho=>by obtain⟨hj,rfl⟩:=M7.1 ho;exact Array.all_eq_true.1 hpl j hj
 have hclosed:jT ops (Array.replicate ops.size QG):=by
  intro j oj _ h;rcases M0 j ops.size with h' | h'
  ·simp[h']at h
  simp[h']at h
 have hun : ∀l,(Array.replicate ops.size QG).getD l QG=false:=λl=>by rcases M0 l ops.size with h' | h'<;>simp[h']
 obtain⟨a',ρ',hrun,hsz,hd,hs,H,hH,hw2⟩:=pV hF hN hρ hw;have hrun:QRun P ops (vw w.heap) (iJ ops qs) a a':=hrun;obtain⟨hc1,hs1,hl1,hstep⟩:=qT (H:=H) (r:=r) (h0:=w.heap) ho1 hpl' hq hclosed;have hpart:partAt l0 H l1=H:=by
  unfold partAt;cases hl:l0 with
  | none=>rfl
  | some l=>simp[hl1 l hl,hun l]
 have weak : ∀e a' w',@iK (ppD pp) N D w Q e a' w'->iK N D w Q e a' w':=λe a' w' hq=>by cases e<;>first | exact hq | (obtain⟨ρ,h1,h2,h3,⟨_,h4,h5⟩,h6⟩:=hq;exact⟨ρ,h1,h2,h3,⟨h4 ρ,h5⟩,h6⟩)
 refine wpIn_mono (wpIn_region_any hm (vO (G:=GX l0 (QB o1) w.heap H) (hstep (w:={ w with drawn:=w.drawn+1 }) (Q':=@iK (ppD pp) N D w Q) (λ_ _ _ _ _=>xi) hrun (λF hF=>?_) _ ?_))) weak
 ·refine nM (pp:=pp) (o1:=QB o1) (h0:=w.heap) (H:=H) (w0:=w) (w:={ w with drawn:=w.drawn+1 }) (λo oo e he=>by cases e;exact ho1 oo he) hpl' _ hR hc1 (by rw[hs1];simp) hsz (hd.trans hD) hs Same.drawn ⟨.inl hH,λ_ _ _=>rfl⟩
   (λo e=>by cases e;exact .inr ⟨qs2,l2,hq2,hr⟩) ?_ ?_ F hF
  ·rw[hpart];exact hH
  rw[hpart];exact hw2
 refine NB (List.countP_le_length ..) Sb
theorem Bm{pp:PP}{id:Nat}{R:Reg}{a:Act}{w:World}(hR:regU P N ops live (ops.size+1) ops.toList=QB R)(hN:a.tmps.size=N)(hD:a.defers=D)(hρ:Sat ρ a)(hw:fD P QC R Q ρ w.heap):(Code.region id ops QG).wpIn (Fw r) 0 P (iK N D w Q) a w:=
 wpIn_region_list (rE _ hR hN hD hρ (Same.refl _) hw)
end
def isFn(P : Program)(f : FuncId) : Bool := match P.funcs[f]? with | some fn => fn.name != "runtime.NumGoroutine" && fn.body.isSome | none => QG
variable{n:Nat}
theorem rT{f:FuncId}{args:Array Value}{w:World}{R:Ending->World->Prop}{r:Option Nat}(h:Calls P f args w R):CallsIn (Fw r) n P f args w R:=
 (callsIn_wide (n:=n)).2 h
def aw(P:Program)(f:FuncId)(args:Array Value)(h:Heap)(R:Value->Heap->Prop):Prop:=
 ∀w:World,w.heap=h->Calls P f args w λe w'=>∃v,e = .returned v/\R v w'.heap/\Same w w'
theorem aw.mono{P:Program}{f:FuncId}{args:Array Value}{h:Heap}{R R':Value->Heap->Prop}(hc:aw P f args h R)(hr : ∀v h',R v h'->R' v h'):aw P f args h R':=
 λw hw=>(hc w hw).mono λ_ _ ⟨v,he,hR,hs⟩=>⟨v,he,hr _ _ hR,hs⟩
def jr(P:Program)(f:FuncId)(args:Array Value)(h:Heap)(R:Value->Heap->Prop)(Rp:List PanicEntry->Heap->Prop):Prop:=
 ∀w:World,w.heap=h->Calls P f args w λe w'=>(∃v,e = .returned v/\R v w'.heap/\Same w w')\/∃ch,e = .panicked ch/\Rp ch w'.heap/\Same w w'
theorem View.lt{W:View}{h:Heap}(hw:W.le (vw h)){b:Nat}{o:Obj}(hb:W b=QB o):b<h.size:=by have:=hw b o hb;simp only[vw]at this;exact(M7.1 this).1
theorem View.cT{W:View}{h:Heap}(hw:W.le (vw h)){b:Nat}(hb:h.size<=b):W b=none:=by
 cases hx:W b with
 | none=>rfl
 | some o=>have:=View.lt hw hx;omega
def grow(V:View)(h h':Heap):View:=λb=>if b<h.size then V b else h'[b]?
theorem sD{V:View}{h h':Heap}(hV:V.le (vw h')):(grow V h h').le (vw h'):=λb o hb=>by
 unfold grow at hb;split at hb
 ·exact hV b o hb
 exact hb
theorem bE{V:View}{h h':Heap}(hV:V.le (vw h)):V.le (grow V h h'):=λb o hb=>by have:=View.lt hV hb;unfold grow;rw[if_pos this];exact hb
def Cv(P:Program)(l:Nat)(vs:List Value)(h:Heap)(R:Bool->Heap->Prop):Prop:=
 ∀w:World,w.heap=h->∃f tmps asg body,(Instr.yield l vs.toArray).run P w = .ok (.round l f tmps asg body) w/\
  RoundIn (Fw QC) 0 P l f tmps asg body w λe w'=>∃b,e = .returned (.bool b)/\R b w'.heap/\Same w w'
structure mK(n:Nat)(J:View->Heap->Prop):Prop where
 le : ∀{W:View} {h:Heap},J W h->W.le (vw h)
 move : ∀{W W':View} {h h':Heap},J W h->(∀b,b<n->W' b=W b)->W'.le (vw h')->(∀b,W b=QC->b<h.size->h'[b]? = h[b]?/\W' b=QC)->h.size<=h'.size->J W' h'
def Iter(P:Program)(gf:Nat)(caps:List Value)(V:View)(all:List (List Value)):Prop:=
 ∀(l:Nat) (J:Bool->Nat->View->Heap->Prop) (W:View) (h:Heap),(∀b k,mK h.size (J b k))->V.le W->V l=QC->J QF 0 W h->
  (∀k vs W' h1,(∀b,b<h.size->W' b=W b)->all[k]? = QB vs->J QF k W' h1->Cv P l vs h1 λb h2=>∃W2,(∀i,i≠l->W2 i=W' i)/\(b=QF->W2=W')/\J b (k+1) W2 h2)->
  aw P gf (Value.func (.yield l) #[] #[]::caps).toArray h λ_ h2=>∃b k W',(∀i,i<h.size->i≠l->W' i=W i)/\J b k W' h2/\(b=QF->k=all.length)
inductive LC where
 | skip
 | reg (drawn:Bool) (r:Reg)
 | seq (x y:LC)
 | cond (c:E) (kill:List Nat) (x y:LC)
 | block (id:Nat) (x:LC)
 | loop (x:LC)
 | exit (id:Nat)
 | ret
 | rangef (g:E) (ps:List Nat) (asg body:LC)
 deriving Inhabited
def LC.plain:LC->Bool
 | .rangef _ _ _ _=>QG
 | .seq x y=>x.plain&&y.plain
 | .cond _ _ x y=>x.plain&&y.plain
 | .block _ x | .loop x=>x.plain
 | _=>QF
abbrev Post:=Exit->Env->Heap->Prop
def fN(next:Env->Heap->Prop)(Q:Post):Post
 | .normal,ρ,h=>next ρ h
 | e,ρ,h=>Q e ρ h
def dU(id:Nat)(Q:Post):Post
 | .exit k,ρ,h=>if k=id then Q .normal ρ h else Q (.exit k) ρ h
 | e,ρ,h=>Q e ρ h
def Ct[pp:PP](Q:Post):Post
 | .panic ch,ρ,h=>pp.fx ρ/\pp.kp ch h
 | e,ρ,h=>Q e ρ h
theorem qC{Q:Post}{e:Exit}{h:Heap}(hq:@Ct noPP Q e ρ h):Q e ρ h:=by cases e<;>first | exact hq | exact hq.2.elim
def bh:List Nat->Env->Env
 | [],_=>[]
 | t::ts,ρ=>match look ρ t with
  | some v=>(t,v)::bh ts ρ
  | none=>bh ts ρ
theorem rD{ρ:Env}{t:Nat}{v:Value} : ∀{ks:List Nat},look (bh ks ρ) t=QB v->look ρ t=QB v
 | [],h=>by simp[bh,look]at h
 | k::ks,h=>by
  simp only[bh]at h;split at h
  ·rename_i u hu;simp only[look]at h;split at h
   ·rename_i e;subst e;rw[hu];exact h
   exact rD h
  exact rD h
theorem zY{a:Act}{ks:List Nat}(h:Sat ρ a):Sat (bh ks ρ) a:=λt v hv=>h t v (rD hv)
def nC:Exit->Bool
 | .normal | .exit _ | .ret=>QF
 | _=>QG
def LC.wp[pp:PP](P:Program)(c:LC)(Q:Post)(ρ:Env)(h:Heap):Prop:=
 match c with
 | .skip=>Q .normal ρ h
 | .reg QG r=>fD P QC r (Q .normal) ρ h
 | .reg QF r=>∃H:View,H.sub (vw h)/\b8 View.sub P (QB H) r (Q .normal) ρ h
 | .seq x y=>x.wp P (fN (y.wp P Q) Q) ρ h
 | .cond c kill x y=>∃b,ev (look ρ) (vw h) c=QB (.bool b)/\(b=QF->x.wp P Q (bJ ρ kill) h)/\(b=QG->y.wp P Q (bJ ρ kill) h)
 | .block id x=>x.wp P (dU id Q) ρ h
 | .loop x=>∃(ks:List Nat) (I:Nat->Env->Heap->Prop),(∃n,I n (bh ks ρ) h)/\∀n ρ h,I n ρ h->x.wp P (fN (λρ' h'=>∃m,m<n/\I m (bh ks ρ') h') Q) ρ h
 | .exit id=>Q (.exit id) ρ h
 | .ret=>Q .ret ρ h
 | .rangef g ps asg body=>∃(gf:Nat) (caps:List Value) (V W0:View) (all:List (List Value)) (I:Option Exit->Nat->View->Heap->Prop) (M:Nat->Env->View->Heap->Prop),
   ev (look ρ) (vw h) g=QB (.func (.func gf) #[] caps.toArray)/\isFn P gf=QF/\Iter P gf caps V all/\(∀vs∈all,vs.length=ps.length)/\V.le W0/\(∀e k,mK h.size (I e k))/\I QC 0 W0 h/\
   (∀k ρ1,mK h.size (M k ρ1))/\
   (∀k vs W h1,(∀b,b<h.size->W b=W0 b)->all[k]? = QB vs->I QC k W h1->@LC.wp noPP P asg (λe ρ1 h2=>e = .normal/\M k ρ1 W h2) (db ρ (ps.zip vs)) h1)/\
   (∀k vs ρ1 W h1,(∀b,b<h.size->W b=W0 b)->all[k]? = QB vs->M k ρ1 W h1->@LC.wp noPP P body (λe _ h3=>I (match e with | .normal=>QC | e=>QB e) (k+1) W h3) ρ1 h1)/\
   (∀W h1,(∀b,b<h.size->W b=W0 b)->I QC all.length W h1->Q .normal ρ h1)/\
   (∀e k W h1,nC e=QF->e≠.normal->(∀b,b<h.size->W b=W0 b)->I (QB e) k W h1->Q e ρ h1)
theorem iI.mono{po:OP}{P:Program}{s:Sem Next}{h:Heap}{K K':Value->Heap->Prop}(hr:iI P s h K)(hk : ∀v h',K v h'->K' v h'):iI P s h K':=
 λw hw r o a X Y hX hY=>hr w hw r o a X Y (λv w' hv hs=>hX v w' (hk _ _ hv) hs) hY
section
variable{P:Program}{Q:Post}{ρ:Env}{h:Heap}
theorem iW{pp:PP}{S:View->View->Prop}{Q Q':Env->Heap->Prop}(hq : ∀ρ h,Q ρ h->Q' ρ h) : ∀{r:Reg} {m:Option View} {ρ:Env} {h:Heap},b8 S P m r Q ρ h->b8 S P m r Q' ρ h
 | .fin kill sets chk,m,ρ,h,⟨vs,h1,h2,h3⟩=>⟨vs,h1,h2,hq _ _ h3⟩
 | .loud kill sets args grd chk tail op ty dst keep next,m,ρ,h,hw=>by
  simp only[b8]at hw ⊢;obtain⟨vs,us,h1,h2,h3,hfx,h4⟩:=hw;refine⟨vs,us,h1,h2,h3,hfx,?_⟩;cases grd with
  | none=>exact iI.mono h4 λv h' ⟨g1,g2⟩=>⟨g1,iW hq g2⟩
  | some gb=>obtain⟨gv,g1,g2,g3⟩:=h4;exact⟨gv,g1,λe=>iI.mono (g2 e) λv h' ⟨g1,g2⟩=>⟨g1,iW hq g2⟩,λe=>iW hq (g3 e)⟩
 | .both x y,m,ρ,h,⟨h1,h2⟩=>⟨iW hq h1,iW hq h2⟩
theorem B8{pp:PP}{Q Q':Env->Heap->Prop}(hq : ∀ρ h,Q ρ h->Q' ρ h){r:Reg}{m:Option View}{ρ:Env}{h:Heap}(hw:fD P m r Q ρ h):fD P m r Q' ρ h:=iW hq hw
theorem jO{pp:PP}{S S':View->View->Prop}(hS : ∀H K,S H K->S' H K){Q:Env->Heap->Prop} : ∀{r:Reg} {m:Option View} {ρ:Env} {h:Heap},b8 S P m r Q ρ h->b8 S' P m r Q ρ h
 | .fin kill sets chk,m,ρ,h,⟨vs,h1,h2,h3⟩=>⟨vs,h1,h2,h3⟩
 | .loud kill sets args grd chk tail op ty dst keep next,m,ρ,h,hw=>by
  simp only[b8]at hw ⊢;obtain⟨vs,us,h1,h2,h3,hfx,h4⟩:=hw;refine⟨vs,us,h1,h2,h3,hfx,?_⟩;cases grd with
  | none=>exact iI.mono h4 λv h' ⟨g1,g2⟩=>⟨λH e=>hS _ _ (g1 H e),jO hS g2⟩
  | some gb=>obtain⟨gv,g1,g2,g3⟩:=h4;exact⟨gv,g1,λe=>iI.mono (g2 e) λv h' ⟨g1,g2⟩=>⟨λH e=>hS _ _ (g1 H e),jO hS g2⟩,λe=>jO hS (g3 e)⟩
 | .both x y,m,ρ,h,⟨h1,h2⟩=>⟨jO hS h1,jO hS h2⟩
end
theorem tC{pp:PP}{Q Q':Post}(hq : ∀e ρ h,nC e=QF->Q e ρ h->Q' e ρ h): ∀{x:LC} {ρ:Env} {h:Heap},x.wp P Q ρ h->x.wp P Q' ρ h:=by
 intro x;induction x generalizing Q Q' with
 | skip=>exact λh=>hq _ _ _ rfl h
 | reg d r=>
  intro ρ h hw;cases d with
  | false=>exact B8 (λρ h=>hq .normal ρ h rfl) hw
  | true=>obtain⟨H,hH,hw⟩:=hw;exact⟨H,hH,iW (λρ h=>hq .normal ρ h rfl) hw⟩
 | seq x y ihx ihy=>intro ρ h hw;exact ihx (λe ρ h hp hq'=>by cases e<;>first | exact ihy hq hq' | exact hq _ _ _ hp hq') hw
 | cond c kill x y ihx ihy=>intro ρ h ⟨b,h1,h2,h3⟩;exact⟨b,h1,λe=>ihx hq (h2 e),λe=>ihy hq (h3 e)⟩
 | block i x ih=>
  intro ρ h hw;refine ih (λe ρ h hp hq'=>?_) hw;cases e with
  | exit k=>
   simp only[dU]at hq' ⊢;split
   ·rename_i hk;rw[if_pos hk]at hq';exact hq _ _ _ rfl hq'
   rename_i hk;rw[if_neg hk]at hq';exact hq _ _ _ rfl hq'
  | _=>exact hq _ _ _ hp hq'
 | loop x ih=>intro ρ h ⟨ks,I,h0,hr⟩;exact⟨ks,I,h0,λn ρ h hI=>ih (λe ρ h hp hq'=>by cases e<;>first | exact hq' | exact hq _ _ _ hp hq') (hr n ρ h hI)⟩
 | exit i=>exact λh=>hq _ _ _ rfl h
 | ret=>exact λh=>hq _ _ _ rfl h
 | rangef g ps asg body _ _=>rintro ρ h ⟨gf,caps,V,W0,all,I,A,h1,h2,h3,h4,h5,h6,h7,h8,hm,hm2,h9,h10⟩;exact⟨gf,caps,V,W0,all,I,A,h1,h2,h3,h4,h5,h6,h7,h8,hm,hm2,λW h' a b=>hq _ _ _ rfl (h9 W h' a b),λe k W h' a b c d=>hq _ _ _ a (h10 e k W h' a b c d)⟩
theorem Aq{pp:PP}{P:Program}{Q Q':Post}(hq : ∀e ρ h,Q e ρ h->Q' e ρ h){x:LC}{ρ:Env}{h:Heap}(hw:x.wp P Q ρ h):x.wp P Q' ρ h:=tC (λe ρ h _=>hq e ρ h) hw
theorem jN{b:Frame}{a:Act}{k:List Item}{cs:List Frame}{w:World}{c:Code}:Go.step P (lone (b.atR a (.code (.scope c)::k)) cs w) = .next (lone (b.atR a (.code c::.inScope c::k)) cs w):=
 step_lone_go (by simp[stepG,stepG.exec,Frame.atR])
theorem xE{b:Frame}{a:Act}{k:List Item}{cs:List Frame}{w:World}{c:Code}:Go.step P (lone (b.atR a (.inScope c::k)) cs w) = .next (lone (b.atR a k) cs w):=
 step_lone_go (by simp[stepG,stepG.exec,Frame.atR])
theorem CA{F:Fence}{Q:Exit->Act->World->Prop}{a:Act}{w:World}{c:Code}(h:c.wpIn F n P (λe a w=>(∀l,e≠.goto l)/\Q e a w) a w):(Code.scope c).wpIn F n P Q a w:=by
 intro b k cs hro hb hr;have h0:(lone (b.atR a (.code (.scope c)::k)) cs w).fenced P F:=fenced_calm hb hr rfl;obtain⟨e,a₁,w₁,⟨hp,hq⟩,harr⟩:=h b (.inScope c::k) cs hro hb hr;cases e with
 | normal=>exact⟨.normal,a₁,w₁,hq,.head h0 jN (StepsIn.trans harr (.one (fenced_calm hb hr rfl) xE))⟩
 | exit id=>
  have hx:exitTo id (.inScope c::k)=exitTo id k:=by simp[exitTo]
  exact⟨.exit id,a₁,w₁,hq,λk' hk=>.head h0 jN (harr.1 k' (by rw[hx];exact hk)),
   λhr' hk=>let ⟨k₁,h1,h2⟩:=harr.2 hr' (by rw[hx];exact hk);⟨k₁,h1,.head h0 jN h2⟩⟩
 | goto l=>exact absurd rfl (hp l)
 | ret=>exact⟨_,a₁,w₁,hq,.of_steps (.one h0 jN) harr⟩
 | panic ch=>exact⟨_,a₁,w₁,hq,.of_steps (.one h0 jN) harr⟩
 | outgrown=>exact⟨_,a₁,w₁,hq,.of_steps (.one h0 jN) harr⟩
def oP(P:Program)(ops:Array Oper):Option Nat:=
 let reads:=(List.range ops.size).filter λi=>match ops[i]? with | some o=>isQ P o&&!tD P o | none=>QG
 (List.range ops.size).find? λl=>match ops[l]? with
  | some o=>!isQ P o&&o.guard.isNone&&(let d:=down ops (l+1) [l];reads.all d.contains)
  | none=>QG
def I4(ops:Array Oper)(i:Nat):Bool:=match ops[i]? with | some o=>(match o.op with | .call ⟨.value (.func _),_,_⟩=>QF | _=>QG) | none=>QG
def IG(ops:Array Oper)(i:Nat):Bool:=match ops[i]? with | some o=>(match o.op with | .call ⟨.value (.tmp _),_,_⟩=>QF | _=>QG) | none=>QG
def As(P:Program)(ops:Array Oper)(i:Nat):Bool:=match ops[i]? with | some o=>!isQ P o | none=>QF
def nowR(P:Program)(N:Nat)(ops:Array Oper)(live:List Nat):Option (Reg × Reg):=
 let l0:=oP P ops
 let z:=Array.replicate ops.size QG
 match jZ P ops l0 ops.size z with
 | none=>QC
 | some (_,l)=>match rdy ops l with
  | [o]=>if I4 ops o&&l0 != QB o then
    match jZ P ops l0 ops.size (l.setIfInBounds o QF)with
    | none=>QC
    | some (_,k)=>match rdy ops k with
     | [c]=>if IG ops c&&l0 != QB c then
       match nW P ops l0 o ops.size z with
       | none=>QC
       | some (qs,l1)=>match jZ P ops l0 ops.size l1 with
        | none=>QC
        | some (_,l2)=>match rdy ops l2 with
         | [o2]=>if o2=o/\As P ops o=QF then
           match vE P N ops (live++zi ops (sC ops l1)) (iJ ops qs),regD P N ops live l0 (ops.size+1) l1 with
           | some R1,QB R=>QB (R1,R)
           | _,_=>QC
          else QC
         | _=>QC
      else QC
     | _=>QC
   else QC
  | _=>QC
theorem ER{N:Nat}{ops:Array Oper}{R1 R:Reg}(h:nowR P N ops live=QB (R1,R)): ∃o1 qs qs2 l1 l2,
  (∀oo,ops[o1]? = QB oo->isQ P oo=QG)/\nW P ops (oP P ops) o1 ops.size (Array.replicate ops.size QG)=QB (qs,l1)/\vE P N ops (live++zi ops (sC ops l1)) (iJ ops qs)=QB R1/\
  jZ P ops (oP P ops) ops.size l1=QB (qs2,l2)/\rdy ops l2=[o1]/\regD P N ops live (oP P ops) (ops.size+1) l1=QB R:=by
 unfold nowR at h;simp only at h;repeat' (split at h)
 all_goals cases h
 rename_i hc _ _ hF hR;obtain⟨rfl,hi⟩:=hc;refine⟨_,_,_,_,_,?_,by assumption,hF,by assumption,by assumption,hR⟩;intro oo he;simpa[As,he]using hi
def G1(liveR:List Nat):Operand->List Nat
 | .tmp t=>if liveR.contains t then[] else[t]
 | _=>[]
def fy(P:Program)(N:Nat)(live liveR:List Nat)(inR:Bool):Code->Option LC
 | .skip=>QB .skip
 | .region _ ops draw=>
  if draw then
   if ops.all (λo=>dA o.op) then
    match nowR P N ops live with
    | some (R1,R)=>QB (.seq (.reg QG R1) (.reg QF R))
    | none=>(regD P N ops live (oP P ops) (ops.size+1) (Array.replicate ops.size QG)).map (.reg QF)
   else QC
  else(regU P N ops live (ops.size+1) ops.toList).map (.reg QG)
 | .seq x y=>match fy P N live liveR inR x,fy P N live liveR inR y with
  | some a,QB b=>QB (.seq a b)
  | _,_=>QC
 | .cond c x y=>match fy P N live liveR inR x,fy P N live liveR inR y with
  | some a,QB b=>QB (.cond (opnd c) (G1 liveR c) a b)
  | _,_=>QC
 | .block id x=>(fy P N live liveR inR x).map (.block id)
 | .loop x=>(fy P N live liveR inR x).map .loop
 | .exit id=>QB (.exit id)
 | .ret=>QB .ret
 | .scope x=>fy P N live liveR inR x
 | .label _=>QB .skip
 | .rangeFunc f ps x y=>if inR then QC else if ps.toList.all (· < N) then
   match fy P N live liveR QF x,fy P N live liveR QF y with
   | some a,QB b=>if a.plain&&b.plain then QB (.rangef (opnd f) ps.toList a b) else QC
   | _,_=>QC
  else QC
 | _=>QC
def gB(pl:Bool)(D:List Deferred)(n:Nat)(ds:List Deferred)(h:Heap):Prop:=
 ∃ms:List Nat,ds=ms.map (λm=>{ target:=.collected m,args:=#[] })++D/\(pl=QF->ms=[])/\(∀m∈ms,n<=m/\h[m]? = QB (.deferred (QB [])))/\ms.Nodup
theorem gB.refl(pl:Bool)(D:List Deferred)(n:Nat)(h:Heap):gB pl D n D h:=⟨[],rfl,λ_=>rfl,(λ_ h=>by cases h),PA⟩
theorem gB.trans{p q:Bool}{D ds es:List Deferred}{w0 w1 w2:World}(h:gB p D w0.heap.size ds w1.heap)(k:gB q ds w1.heap.size es w2.heap)(hs:Same w0 w1)(hs2:Same w1 w2):gB (p&&q) D w0.heap.size es w2.heap:=by
 obtain⟨ms,rfl,h1,h2,h3⟩:=h;obtain⟨ns,rfl,k1,k2,k3⟩:=k;refine⟨ns++ms,by simp,λe=>?_,λm hm=>?_,?_⟩
 ·simp only[M8]at e;rw[h1 e.1,k1 e.2];rfl
 ·rcases M1.1 hm with hm | hm
  ·exact⟨NB hs.size (k2 m hm).1,(k2 m hm).2⟩
  exact⟨(h2 m hm).1,hs2.defs m (h2 m hm).2⟩
 refine N3.2 ⟨k3,h3,λa ha b hb e=>?_⟩;subst e;have h4:=(k2 a ha).1;have h5:=(M7.1 (h2 a hb).2).1;omega
theorem gB.weak{p q:Bool}{D ds:List Deferred}{h:Heap}(hpq:q=QF->p=QF)(k:gB p D n ds h):gB q D n ds h:=
 let ⟨ms,h1,h2,h3,h4⟩:=k
 ⟨ms,h1,λe=>h2 (hpq e),h3,h4⟩
def sJ[pp:PP](N:Nat)(pl:Bool)(D:List Deferred)(w0:World)(Q:Post)(e:Exit)(a:Act)(w:World):Prop:=
 ∃ρ,Sat ρ a/\a.tmps.size=N/\gB pl D w0.heap.size a.defers w.heap/\Ct Q e ρ w.heap/\Same w0 w
theorem wpIn_loop_ghost{F:Fence}{k:Nat}{Q:Exit->Act->World->Prop}{c:Code}(I:Nat->Act->World->Prop){a:Act}{w:World}(h₀:I n a w)(round : ∀n a w,I n a w->c.wpIn F k P (Exit.then (λa' w'=>∃m,m<n/\I m a' w') Q) a w):(Code.loop c).wpIn F k P Q a w:=by
 intro b k cs hro hb hr;have key : ∀j a w,I j a w->
   ∃e a' w',Q e a' w'/\ArrivesIn (Machine.fenced P F) P (lone (b.atR a (.code c::.inLoop c::k)) cs w) b k cs e a' w':=by
  intro j;induction j using Nat.strongRecOn with
  | _ j ih=>
   intro a w hI;obtain⟨e,a₁,w₁,hq,harr⟩:=round j a w hI b (.inLoop c::k) cs hro hb hr;cases e with
   | normal=>obtain⟨m,hlt,hI₁⟩:=hq;obtain⟨e₂,a₂,w₂,hq₂,harr₂⟩:=ih m hlt a₁ w₁ hI₁;exact⟨e₂,a₂,w₂,hq₂,.of_steps (StepsIn.trans harr (.one (fenced_calm hb hr rfl) stepR_inLoop)) harr₂⟩
   | exit id=>exact⟨_,a₁,w₁,hq,.pass (x:=.inLoop c) rfl (λ_ _=>.inl Sb) harr⟩
   | goto l=>exact⟨_,a₁,w₁,hq,.pass (x:=.inLoop c) rfl (λ_ _=>.inl Sb) harr⟩
   | ret=>exact⟨_,a₁,w₁,hq,.pass (x:=.inLoop c) rfl (λ_ _=>.inl Sb) harr⟩
   | panic ch=>exact⟨_,a₁,w₁,hq,.pass (x:=.inLoop c) rfl (λ_ _=>.inl Sb) harr⟩
   | outgrown=>exact⟨_,a₁,w₁,hq,.pass (x:=.inLoop c) rfl (λ_ _=>.inl Sb) harr⟩
 obtain⟨e,a',w',hq,harr⟩:=key _ a w h₀;exact⟨e,a',w',hq,.of_steps (.one (fenced_calm hb hr rfl) stepR_loop) harr⟩
section
variable{P:Program}{N:Nat}{live liveR:List Nat}
theorem sJ.weak{pp:PP}{p q:Bool}{D:List Deferred}{w0:World}{Q:Post}{e:Exit}{a:Act}{w:World}(hpq:q=QF->p=QF)(h:sJ N p D w0 Q e a w):sJ N q D w0 Q e a w:=
 let ⟨ρ,h1,h2,h3,h4,h5⟩:=h
 ⟨ρ,h1,h2,h3.weak hpq,h4,h5⟩
theorem G8{vs:List Value}: ∀{ps:List Nat} {ρ:Env} {a:Act},Sat ρ a->(∀p∈ps,p<a.tmps.size)->ps.length=vs.length->
  Sat (db ρ (ps.zip vs)) { tmps:=(ps.zip vs).foldl (λt (p:Nat × Value)=>t.setIfInBounds p.1 p.2) a.tmps,defers:=[] }:=by
 induction vs with
 | nil=>intro ps ρ a h _ hl;cases ps with
  | nil=>exact h
  | cons p ps=>simp at hl
 | cons v vs ih=>intro ps ρ a h hp hl;cases ps with
  | nil=>simp at hl
  | cons p ps=>
   simp only[Pv,db,NF];have:=ih (ps:=ps) (ρ:=setE ρ p v) (a:={ tmps:=a.tmps.setIfInBounds p v,defers:=a.defers }) ?_ (λq hq=>by simpa using hp q (Nf _ hq)) (by simpa using hl)
   ·exact this
   intro t u hu;rw[ar]at hu;split at hu
   ·rename_i e;subst e;cases hu;simp[hp p (Ng ..)]
   rename_i e;simp only[NW e];exact h t u hu
theorem Fo{l:List (Nat × Value)}: ∀{t:Array Value},(l.foldl (λt (p:Nat × Value)=>t.setIfInBounds p.1 p.2) t).size=t.size:=by
 induction l with
 | nil=>intro t;rfl
 | cons p l ih=>intro t;simp only[NF,ih,Array.size_setIfInBounds]
def View.set(W:View)(l:Nat)(o:Obj):View:=λb=>if b=l then QB o else W b
theorem mK.put{l:Nat}{J:View->Heap->Prop}(hJ:mK n J){W:View}{w:World}{o:Obj}(o':Obj)(h:J W w.heap)(hl:W l=QB o)(hn:n<=l):J (W.set l o') (w.putObj l o').heap:=by
 have hle:=hJ.le h;have hlt:l<w.heap.size:=(M7.1 (hle l o hl)).1;refine hJ.move h (λb hb=>by unfold View.set;rw[if_neg Q1]) (λb x hb=>?_) (λb hb _=>?_) (by simp[World.putObj])
 ·unfold View.set at hb;split at hb
  ·rename_i e;subst e;cases hb;exact World.putObj_heap_same hlt
  rename_i e;show(w.putObj l o').heap[b]? = _;rw[World.putObj_heap_other e];exact hle b x hb
 have hne:b≠l:=λe=>by rw[e,hl]at hb;cases hb
 exact⟨World.putObj_heap_other hne,by unfold View.set;rw[if_neg hne];exact hb⟩
theorem Same.put{w:World}{l:Nat}{o o':Obj}(hl:w.heap[l]? = QB o)(ho:o≠.deferred (QB [])):Same w (w.putObj l o'):=
 Same.mI rfl rfl rfl (by simp[World.putObj]) hl ho λk _ hne=>World.putObj_heap_other hne
theorem Bl{pp:PP}{f:Operand}{ps:Array Tmp}{x y:Code}{X Y:LC}(hx : ∀{Q:Post} {ρ:Env} {a:Act} {w:World} {r:Option Nat},@LC.wp noPP P X Q ρ w.heap->Sat ρ a->a.tmps.size=N->x.wpIn (Fw r) 0 P (@sJ noPP N X.plain a.defers w Q) a w)(hy : ∀{Q:Post} {ρ:Env} {a:Act} {w:World} {r:Option Nat},@LC.wp noPP P Y Q ρ w.heap->Sat ρ a->a.tmps.size=N->y.wpIn (Fw r) 0 P (@sJ noPP N Y.plain a.defers w Q) a w)(hps : ∀p∈ps.toList,p<N){Q:Post}{a:Act}{w:World}(hw:(LC.rangef (opnd f) ps.toList X Y).wp P Q ρ w.heap)(hρ:Sat ρ a)(hN:a.tmps.size=N):
  (Code.rangeFunc f ps x y).wpIn (Fw QC) 0 P (sJ N QG a.defers w Q) a w:=by
 simp only[LC.wp]at hw;obtain⟨gf,caps,V,W0,all,I,M,hg,hfn,hIter,hlen,hV,hI,h0,hM,hround,hround2,hdone,hexit⟩:=hw;have hg':=bf (a:=a) (iX (λt v h=>hρ t v h) hg);refine wpIn_rangeFunc λfn _=>?_;obtain⟨rec,hrec⟩ : ∃rec:LoopState->Option Code->Loop,rec=λst pe=>{ state:=st,pending:=pe,fn,tmps:=a.tmps,params:=ps,assign:=x,body:=y,defers:=w.heap.size }:=⟨_,rfl⟩;obtain⟨W1,hW1⟩ : ∃W1,(w.alloc (.deferred (QB []))).alloc (.loop (rec .ready QC))=W1:=⟨_,rfl⟩;have hL1:W1.heap[w.heap.size+1]? = QB (.loop (rec .ready QC)):=by rw[<-hW1];have:=World.alloc_heap_new (w.alloc (.deferred (QB []))) (.loop (rec .ready QC));rwa [World.size_alloc]at this
 have hK1:W1.heap[w.heap.size]? = QB (.deferred (QB [])):=by rw[<-hW1];exact(heap_alloc_old _ _ Sb).trans (World.alloc_heap_new w _)
 have hsz1:W1.heap.size=w.heap.size+2:=by rw[<-hW1];simp
 have hold : ∀k,k<w.heap.size->W1.heap[k]? = w.heap[k]?:=by intro k hk;rw[<-hW1,heap_alloc_old _ _ Q8,heap_alloc_old _ _ hk]
 have hS1:Same w W1:=Same.zD (by rw[<-hW1];rfl) (by rw[<-hW1];rfl) (by rw[<-hW1];rfl) Q1 hold;have hW0:=(hI QC 0).le h0;have hG1:(grow W0 w.heap W1.heap).le (vw W1.heap):=sD λb o hb=>by show W1.heap[b]? = _;rw[hold b (View.lt hW0 hb)];exact hW0 b o hb
 have hI1:I QC 0 (grow W0 w.heap W1.heap) W1.heap:=(hI QC 0).move h0 (λb hb=>by unfold grow;rw[if_pos hb]) hG1 (λb hb hlt=>⟨hold b hlt,by unfold grow;rw[if_pos hlt];exact hb⟩) hS1.size;have hgrowL:grow W0 w.heap W1.heap (w.heap.size+1)=QB (.loop (rec .ready QC)):=by unfold grow;rw[if_neg Q1];exact hL1
 have hgrow0 : ∀b,b<w.heap.size->grow W0 w.heap W1.heap b=W0 b:=λb hb=>by unfold grow;rw[if_pos hb]
 obtain⟨J,hJ⟩ : ∃J:Bool->Nat->View->Heap->Prop,J=λb k W h=>if b=QF then I QC k W h/\W (w.heap.size+1)=QB (.loop (rec .ready QC)) else
   ∃e c,nC e=QF/\e≠.normal/\(e = .ret/\c=Code.ret\/∃id,e = .exit id/\c=Code.exit id)/\I (QB e) k W h/\W (w.heap.size+1)=QB (.loop (rec .done (QB c))):=⟨_,rfl⟩
 refine⟨w.heap.size+1,[{ target:=.collected w.heap.size,args:=#[] }],W1,{ target:=.fn (.func gf) caps.toArray,args:=#[.func (.yield (w.heap.size+1)) #[] #[]] },W1,gf,
  (Value.func (.yield (w.heap.size+1)) #[] #[]::caps).toArray,W1,?_,?_,?_,?_,λh=>by simp[Fw,Fence.wide]at h,?_⟩
 ·rw[<-hW1,hrec];exact run_enterLoop_outer _ _ _ _ _
 ·simp only[resolve,hg'];simp[go_sem]
 ·intro f' _;trivial
 ·unfold isFn at hfn;cases hfn':P.funcs[gf]? with
  | none=>simp[hfn']at hfn
  | some fn'=>simp only[hfn',M8,bne_iff_ne,ne_eq]at hfn;obtain⟨h1,h2⟩:=hfn;simp[invoke,callFunc,program,Sem.run,hfn',h1,Option.isNone];cases hb:fn'.body<;>simp[hb]at h2 ⊢
 have hJ0:J QF 0 (grow W0 w.heap W1.heap) W1.heap:=by rw[hJ];simp only[if_true];exact⟨hI1,hgrowL⟩
 refine rT ((hIter (w.heap.size+1) J (grow W0 w.heap W1.heap) W1.heap ?_ (View.le_trans hV (bE hW0)) (View.cT (View.le_trans hV hW0) Q1) hJ0 ?_ W1 rfl).mono ?_)
 ·intro b k;rw[hJ];cases b with
  | true=>simp only[if_true];exact⟨λh=>(hI QC k).le h.1,λh a1 a2 a3 a4=>⟨(hI QC k).move h.1 (λb hb=>a1 b Q1) a2 a3 a4,by rw[a1 _ Q1];exact h.2⟩⟩
  | false=>simp only[Ow,if_false];exact⟨λ⟨e,c,_,_,_,h,_⟩=>(hI (QB e) k).le h,λ⟨e,c,p1,p2,p3,h,p4⟩ a1 a2 a3 a4=>⟨e,c,p1,p2,p3,(hI (QB e) k).move h (λb hb=>a1 b Q1) a2 a3 a4,by rw[a1 _ Q1];exact p4⟩⟩
 ·intro k vs W' h1 hag hall hJk w' hw';subst hw';rw[hJ]at hJk;simp only[if_true]at hJk;obtain⟨hIk,hWl⟩:=hJk;have hag0 : ∀b,b<w.heap.size->W' b=W0 b:=λb hb=>by rw[hag b Q1,hgrow0 b hb]
  have hle:=(hI QC k).le hIk;have hl:w'.heap[w.heap.size+1]? = QB (.loop (rec .ready QC)):=hle _ _ hWl;have hvl:=hlen vs (Nv hall);have hyd:=run_yield (P:=P) (args:=vs.toArray) hl (by rw[hrec];simpa using hvl);refine⟨_,_,_,_,hyd,roundIn_of_wpIn trivial ?_⟩;rw[hrec];simp only;have hasg:=hround k vs W' w'.heap hag0 hall hIk;have hact:(ps.zip vs.toArray).foldl (λtmps (p:Nat × Value)=>tmps.setIfInBounds p.1 p.2) a.tmps=(ps.toList.zip vs).foldl (λt (p:Nat × Value)=>t.setIfInBounds p.1 p.2) a.tmps:=by rw[<-Array.foldl_toList];simp
  have hsat:=G8 (ps:=ps.toList) (vs:=vs) hρ (λp hp=>by rw[hN];exact hps p hp) hvl.symm;refine wpIn_mono (hx (r:=QB (w.heap.size+1)) (a:={ tmps:=(ps.zip vs.toArray).foldl (λtmps (p:Nat × Value)=>tmps.setIfInBounds p.1 p.2) a.tmps,defers:=[] }) hasg (by rw[hact];exact hsat) (by rw[hact,Fo];exact hN)) ?_;rintro e a1 w1 ⟨ρ1,s1,n1,_,hqq,hS⟩;obtain⟨rfl,hM1⟩:=qC hqq;have hl':w1.heap[w.heap.size+1]? = QB (.loop (rec .ready QC)):=(hM k ρ1).le hM1 _ _ hWl;refine⟨_,run_beginRound hl' (by rw[hrec]),?_⟩;have hI2:=(hM k ρ1).put (.loop (rec .busy QC)) hM1 hWl Q1;have hbusy:({ rec .ready QC with state:=.busy }:Loop)=rec .busy none:=by rw[hrec]
  rw[hbusy];have hbody:=hround2 k vs ρ1 (W'.set (w.heap.size+1) (.loop (rec .busy QC))) _ (λb hb=>by unfold View.set;rw[if_neg Q1];exact hag0 b hb) hall hI2;have hS2:Same w1 (w1.putObj (w.heap.size+1) (.loop (rec .busy QC))):=Same.put hl' Sb;refine wpIn_mono (hy (r:=QB (w.heap.size+1)) (tC (Q':=λe _ h3=>nC e=QF/\I (match e with | .normal=>QC | e=>QB e) (k+1) (W'.set (w.heap.size+1) (.loop (rec .busy QC))) h3) (λe ρ h hp hq=>⟨hp,hq⟩) hbody) s1 n1) ?_;rintro e a3 w3 ⟨ρ3,s3,n3,_,hqq,hS3⟩;obtain⟨hpe,hI3⟩:=qC hqq;have hset:(W'.set (w.heap.size+1) (.loop (rec .busy QC))) (w.heap.size+1)=QB (.loop (rec .busy QC)):=by unfold View.set;rw[if_pos rfl]
  have hset2 : ∀o o',(W'.set (w.heap.size+1) o).set (w.heap.size+1) o'=W'.set (w.heap.size+1) o':=by intro o o';funext b;unfold View.set;split<;>rfl
  have hself:W'.set (w.heap.size+1) (.loop (rec .ready QC))=W':=by
   funext b;unfold View.set;split
   ·rename_i e;subst e;exact hWl.symm
   rfl
  have fin : ∀jump:Option Code,w3.heap[w.heap.size+1]? = QB (.loop (rec .busy QC))->
    (Instr.endRound (w.heap.size+1) jump).run P w3 = .ok (.bool jump.isNone) (w3.putObj (w.heap.size+1) (.loop (rec (if jump.isNone then .ready else .done) jump)))/\Same w' (w3.putObj (w.heap.size+1) (.loop (rec (if jump.isNone then .ready else .done) jump))):=by intro jump h3;have:=run_endRound (P:=P) jump h3;rw[hrec]at this ⊢;rw[hrec]at h3;refine⟨this,((hS.trans hS2).trans hS3).trans (Same.put h3 Sb)⟩
  cases e with
  | normal=>obtain⟨f1,f2⟩:=fin QC ((hI QC (k+1)).le hI3 _ _ hset);refine⟨_,_,f1,QF,rfl,⟨W',λ_ _=>rfl,λ_=>rfl,?_⟩,f2⟩;rw[hJ];simp only[if_true];have:=(hI QC (k+1)).put (.loop (rec .ready QC)) hI3 hset Q1;rw[hset2,hself]at this;exact⟨this,hWl⟩
  | ret=>obtain⟨f1,f2⟩:=fin (QB .ret) ((hI (QB .ret) (k+1)).le hI3 _ _ hset);refine⟨_,_,f1,QG,rfl,⟨W'.set (w.heap.size+1) (.loop (rec .done (QB .ret))),λi hi=>by unfold View.set;rw[if_neg hi],(λh=>by cases h),?_⟩,f2⟩;rw[hJ];simp only[Ow,if_false];have:=(hI (QB .ret) (k+1)).put (.loop (rec .done (QB .ret))) hI3 hset Q1;rw[hset2]at this;exact⟨.ret,.ret,rfl,by simp,.inl ⟨rfl,rfl⟩,this,by unfold View.set;rw[if_pos rfl]⟩
  | exit id=>obtain⟨f1,f2⟩:=fin (QB (.exit id)) ((hI (QB (.exit id)) (k+1)).le hI3 _ _ hset);refine⟨_,_,f1,QG,rfl,⟨W'.set (w.heap.size+1) (.loop (rec .done (QB (.exit id)))),λi hi=>by unfold View.set;rw[if_neg hi],(λh=>by cases h),?_⟩,f2⟩;rw[hJ];simp only[Ow,if_false];have:=(hI (QB (.exit id)) (k+1)).put (.loop (rec .done (QB (.exit id)))) hI3 hset Q1;rw[hset2]at this;exact⟨(.exit id),(.exit id),rfl,by simp,.inr ⟨id,rfl,rfl⟩,this,by unfold View.set;rw[if_pos rfl]⟩
  | goto t=>cases hpe
  | panic ch=>cases hpe
  | outgrown=>cases hpe
 rintro e w2 ⟨v,rfl,⟨b,k,W',hag,hJk,hk⟩,hS⟩;have hag0 : ∀b,b<w.heap.size->W' b=W0 b:=λb hb=>by rw[hag b Q1 Q1,hgrow0 b hb]
 have hD2:=hS.defs _ hK1;have marks : ∀w4:World,(∀k,k≠w.heap.size+1->w4.heap[k]? = w2.heap[k]?)->gB QG a.defers w.heap.size ([{ target:=.collected w.heap.size,args:=#[] }]++a.defers) w4.heap:=
  λw4 h4=>⟨[w.heap.size],rfl,λh=>by(cases h),λm hm=>by simp only[MZ]at hm;subst hm;exact⟨MY _,by rw[h4 _ Q1];exact hD2⟩,by simp⟩;have hsset : ∀o b,b<w.heap.size->(W'.set (w.heap.size+1) o) b=W0 b:=λo b hb=>by unfold View.set;rw[if_neg Q1];exact hag0 b hb
 rw[hJ]at hJk;cases b with
 | true=>simp only[if_true]at hJk;obtain⟨hIk,hWl⟩:=hJk;have hl:=(hI QC k).le hIk _ _ hWl;refine⟨QC,_,by have:=run_endLoop (P:=P) hl (by rw[hrec];simp);rw[hrec]at this;exact this,ρ,hρ,hN,marks _ (λk hk=>World.putObj_heap_other hk),?_,(hS1.trans hS).trans (Same.put hl Sb)⟩;have hkl:=hk rfl;rw[hkl]at hIk;exact hdone _ _ (hsset _) ((hI QC all.length).put _ hIk hWl Q1)
 | false=>
  simp only[Ow,if_false]at hJk;obtain⟨e,c,hpe,hne,hec,hIk,hWl⟩:=hJk;have hl:=(hI (QB e) k).le hIk _ _ hWl;refine⟨QB c,_,by have:=run_endLoop (P:=P) hl (by rw[hrec];simp);rw[hrec]at this;exact this,?_⟩;have hQ:=hexit e k _ _ hpe hne (hsset _) ((hI (QB e) k).put (.loop { state:=.exhausted,pending:=QB c,fn,tmps:=a.tmps,params:=ps,assign:=x,body:=y,defers:=w.heap.size }) hIk hWl Q1);have hS4:=(hS1.trans hS).trans (Same.put (o':=.loop { state:=.exhausted,pending:=QB c,fn,tmps:=a.tmps,params:=ps,assign:=x,body:=y,defers:=w.heap.size }) hl Sb);rcases hec with⟨rfl,rfl⟩ | ⟨id,rfl,rfl⟩
  ·exact wpIn_ret ⟨ρ,hρ,hN,marks _ (λk hk=>World.putObj_heap_other hk),hQ,hS4⟩
  exact wpIn_exit ⟨ρ,hρ,hN,marks _ (λk hk=>World.putObj_heap_other hk),hQ,hS4⟩
theorem dQ{pp:PP}(hm:P.follows .mixedOrders=QF) : ∀(c:Code) {inR:Bool} {L:LC} {Q:Post} {ρ:Env} {a:Act} {w:World} {r:Option Nat},fy P N live liveR inR c=QB L->(inR=QG->r=QC)->L.wp P Q ρ w.heap->Sat ρ a->a.tmps.size=N->
  c.wpIn (Fw r) 0 P (sJ N L.plain a.defers w Q) a w
 | .skip,inR,L,Q,ρ,a,w,r,hL,hr,hw,hρ,hN=>by simp only[fy,MX]at hL;subst hL;exact wpIn_skip ⟨ρ,hρ,hN,gB.refl ..,hw,Same.refl _⟩
 | .region id ops draw,inR,L,Q,ρ,a,w,r,hL,hr,hw,hρ,hN=>by
  have post : ∀e a' w',iK N a.defers w (Q .normal) e a' w'->sJ N QF a.defers w Q e a' w':=by
   intro e a' w' h;cases e<;>first | exact h.elim | skip
   ·obtain⟨ρ',h1,h2,h3,h4,h5⟩:=h;exact⟨ρ',h1,h2,h3▸gB.refl ..,h4,h5⟩
   obtain⟨ρ',h1,h2,h3,h4,h5⟩:=h;exact⟨ρ',h1,h2,h3▸gB.refl ..,h4,h5⟩
  cases draw with
  | true=>
   simp only[fy,if_true]at hL;split at hL;case isFalse=>cases hL
   rename_i hpl;split at hL
   ·rename_i R1 R hn;simp only[MX]at hL;subst hL;obtain⟨o1,qs,qs2,l1,l2,h1,h2,h3,h4,h5,h6⟩:=ER hn;exact wpIn_mono (CF hm hpl h1 h2 h3 h4 h5 h6 hN rfl hρ hw) post
   simp only[M5]at hL;obtain⟨R,hR,rfl⟩:=hL;exact wpIn_mono (zu hm hpl hR hN rfl hρ hw) post
  | false=>simp only[fy,Ow,if_false,M5]at hL;obtain⟨R,hR,rfl⟩:=hL;exact wpIn_mono (Bm hR hN rfl hρ hw) post
 | .seq x y,inR,L,Q,ρ,a,w,r,hL,hr,hw,hρ,hN=>by
  simp only[fy]at hL;split at hL;case h_2=>cases hL
  rename_i A B hA hB;simp only[MX]at hL;subst hL;simp only[LC.wp]at hw;refine wpIn_seq (wpIn_mono (dQ hm x hA hr hw hρ hN) ?_);rintro e a1 w1 ⟨ρ1,h1,h2,h3,h4,h5⟩;cases e with
  | normal=>refine wpIn_mono (dQ hm y hB hr h4 h1 h2) ?_;rintro e a2 w2 ⟨ρ2,g1,g2,g3,g4,g5⟩;exact⟨ρ2,g1,g2,h3.trans g3 h5 g5,g4,h5.trans g5⟩
  | _=>exact⟨ρ1,h1,h2,h3.weak (by simp[LC.plain];exact λh _=>h),h4,h5⟩
 | .cond c x y,inR,L,Q,ρ,a,w,r,hL,hr,hw,hρ,hN=>by
  simp only[fy]at hL;split at hL;case h_2=>cases hL
  rename_i A B hA hB;simp only[MX]at hL;subst hL;simp only[LC.wp]at hw;obtain⟨b,hb,h1,h2⟩:=hw;have hb':=bf (a:=a) (iX (λt v h=>hρ t v h) hb);cases b with
  | true=>exact wpIn_cond hb' (wpIn_mono (dQ hm x hA hr (h1 rfl) (AR hρ) hN) λ_ _ _ h=>h.weak (by simp[LC.plain];exact λh _=>h))
  | false=>exact wpIn_cond hb' (wpIn_mono (dQ hm y hB hr (h2 rfl) (AR hρ) hN) λ_ _ _ h=>h.weak (by simp[LC.plain]))
 | .block id x,inR,L,Q,ρ,a,w,r,hL,hr,hw,hρ,hN=>by
  simp only[fy,M5]at hL;obtain⟨A,hA,rfl⟩:=hL;simp only[LC.wp]at hw;refine wpIn_block (wpIn_mono (dQ hm x hA hr hw hρ hN) ?_);rintro e a1 w1 ⟨ρ1,h1,h2,h3,h4,h5⟩;cases e with
  | exit k=>
   simp only[Ct,dU]at h4;simp only[Exit.inBlock];split
   ·rename_i hk;rw[if_pos hk]at h4;exact⟨ρ1,h1,h2,h3,h4,h5⟩
   rename_i hk;rw[if_neg hk]at h4;exact⟨ρ1,h1,h2,h3,h4,h5⟩
  | _=>exact⟨ρ1,h1,h2,h3,h4,h5⟩
 | .loop x,inR,L,Q,ρ,a,w,r,hL,hr,hw,hρ,hN=>by
  simp only[fy,M5]at hL;obtain⟨A,hA,rfl⟩:=hL;simp only[LC.wp]at hw;obtain⟨ks,I,⟨n,h0⟩,hround⟩:=hw;refine wpIn_loop_ghost (λn a1 w1=>∃ρ1,Sat ρ1 a1/\a1.tmps.size=N/\gB A.plain a.defers w.heap.size a1.defers w1.heap/\I n ρ1 w1.heap/\Same w w1) (n:=n) ⟨bh ks ρ,zY hρ,hN,gB.refl ..,h0,Same.refl _⟩ ?_;rintro n a1 w1 ⟨ρ1,h1,h2,h3,h4,h5⟩;refine wpIn_mono (dQ hm x hA hr (hround n ρ1 w1.heap h4) h1 h2) ?_;rintro e a2 w2 ⟨ρ2,g1,g2,g3,g4,g5⟩;have hm2:gB A.plain a.defers w.heap.size a2.defers w2.heap:=(h3.trans g3 h5 g5).weak Sb;cases e with
  | normal=>obtain⟨m,hlt,hI⟩:=g4;exact⟨m,hlt,bh ks ρ2,zY g1,g2,hm2,hI,h5.trans g5⟩
  | _=>exact⟨ρ2,g1,g2,hm2,g4,h5.trans g5⟩
 | .exit id,inR,L,Q,ρ,a,w,r,hL,hr,hw,hρ,hN=>by simp only[fy,MX]at hL;subst hL;exact wpIn_exit ⟨ρ,hρ,hN,gB.refl ..,hw,Same.refl _⟩
 | .ret,inR,L,Q,ρ,a,w,r,hL,hr,hw,hρ,hN=>by simp only[fy,MX]at hL;subst hL;exact wpIn_ret ⟨ρ,hρ,hN,gB.refl ..,hw,Same.refl _⟩
 | .label l,inR,L,Q,ρ,a,w,r,hL,hr,hw,hρ,hN=>by simp only[fy,MX]at hL;subst hL;exact wpIn_label ⟨ρ,hρ,hN,gB.refl ..,hw,Same.refl _⟩
 | .goto l,_,_,_,_,_,_,_,hL,_,_,_,_=>by simp[fy]at hL
 | .scope c,inR,L,Q,ρ,a,w,r,hL,hr,hw,hρ,hN=>by
  simp only[fy]at hL;have hw2:L.wp P (λe ρ h=>nC e=QF/\Q e ρ h) ρ w.heap:=tC (λe ρ h hp hq=>⟨hp,hq⟩) hw;refine CA (wpIn_mono (dQ hm c hL hr hw2 hρ hN) λe a w ⟨ρ,h1,h2,h3,h4,h5⟩=>?_);cases e with
  | panic ch=>exact⟨λl h=>(by cases h),ρ,h1,h2,h3,h4,h5⟩
  | goto l=>cases h4.1
  | outgrown=>cases h4.1
  | _=>exact⟨λl h=>(by cases h),ρ,h1,h2,h3,h4.2,h5⟩
 | .refuse s,_,_,_,_,_,_,_,hL,_,_,_,_=>by simp[fy]at hL
 | .rangeFunc f ps x y,inR,L,Q,ρ,a,w,r,hL,hr,hw,hρ,hN=>by
  simp only[fy]at hL;split at hL
  ·cases hL
  rename_i hin;obtain rfl:=hr (by simpa using hin);split at hL;case isFalse=>cases hL
  rename_i hps;split at hL;case h_2=>cases hL
  rename_i A B hA hB;split at hL;case isFalse=>cases hL
  simp only[MX]at hL;subst hL;exact Bl (λhw h1 h2=>dQ hm x hA Sb hw h1 h2) (λhw h1 h2=>dQ hm y hB Sb hw h1 h2) (λp hp=>by simpa using N1.1 hps p hp) hw hρ hN
end
def resE(P:Program):ResultVar->Option E
 | .tmp t=>QB (.tmp t)
 | .cell a t=>wE P t (.tmp a)
def pack:List Value->Value
 | [v]=>v
 | vs=>.tuple vs.toArray
structure LFn where
 res:List E
 body:LC
 deriving Inhabited
def oO:Code->List Nat
 | .region _ ops _=>(ops.toList.foldl (fun(p:List Nat × List Nat) o=>((tmpsOf o).foldl (λl t=>if p.2.contains t||l.contains t then l else t::l) p.1,match o.dst with | some d=>d::p.2 | none=>p.2)) ([],[])).1
 | .seq x y=>oO x++oO y
 | .cond _ x y=>oO x++oO y
 | .block _ x | .loop x | .scope x=>oO x
 | .rangeFunc f _ x y=>(match f with | .tmp t=>[t] | _=>[])++oO x++oO y
 | _=>[]
def lM:Code->List Nat
 | .seq x y=>lM x++lM y
 | .cond c x y=>(match c with | .tmp t=>[t] | _=>[])++lM x++lM y
 | .block _ x | .loop x | .scope x=>lM x
 | .rangeFunc _ _ x y=>lM x++lM y
 | _=>[]
def yY(fn:Func)(c:Code):List Nat:=(fn.results.toList.map fun | .tmp t=>t | .cell a _=>a)++(oO c).eraseDups
def aI(P:Program)(fn:Func):Option LFn:=
 match fn.body with
 | some c=>match fn.results.toList.mapM (resE P),fy P fn.ntmps (lM c++yY fn c) (yY fn c) QG c with
  | some res,QB L=>QB ⟨res,L⟩
  | _,_=>QC
 | none=>QC
def ky:Nat->List Value->Env
 | _,[]=>[]
 | k,v::vs=>(k,v)::ky (k+1) vs
def fu(res:List E)(R:Value->Heap->Prop):Post
 | .normal,ρ,h | .ret,ρ,h=>∃vs,evs (look ρ) (vw h) res=QB vs/\R (pack vs) h
 | _,_,_=>False
theorem nV : ∀(vs:List Value) (k t:Nat) (v:Value),look (ky k vs) t=QB v->k<=t/\vs[t-k]? = QB v
 | [],_,_,_,h=>by simp[ky,look]at h
 | u::vs,k,t,v,h=>by
  simp only[ky,look]at h;split at h
  ·rename_i e;subst e;simp only[MX]at h;subst h;exact⟨MY _,by simp⟩
  rename_i e;obtain⟨h1,h2⟩:=nV vs (k+1) t v h;refine⟨by omega,?_⟩;have:t-k=(t-(k+1))+1:=by omega
  rw[this];simpa using h2
theorem DC{P:Program}{a:Act}{w:World}{F:ResultVar->Sem Value}(hF1 : ∀t,F (ResultVar.tmp t)=pure (a.tmps.getD t undef))
  (hF2 : ∀b t,F (ResultVar.cell b t)=(do loadVar t (<-asAddr (a.tmps.getD b undef)))) : ∀{rs:List ResultVar} {es:List E} {vs:List Value},rs.mapM (resE P)=QB es->evs (bC a) (vw w.heap) es=QB vs->
  (rs.mapM F).run P w=Result.ok vs w
 | [],es,vs,h,hv=>by simp at h;subst h;simp[evs]at hv;subst hv;simp
 | x::rs,es,vs,h,hv=>by
  simp only[Qr,Option.bind_eq_bind,Nh]at h;obtain⟨e,he,es',hes,h⟩:=h;simp only[Option.pure_def,MX]at h;subst h;simp only[evs]at hv;split at hv
  ·rename_i v vs' hv1 hv2;simp only[MX]at hv;subst hv;have ih:=DC hF1 hF2 hes hv2;cases x with
   | tmp t=>simp only[resE,MX]at he;subst he;simp only[ev,bC]at hv1;simp[hF1,hv1,ih]
   | cell a' t=>
    simp only[resE]at he;have hx : ∃u,ev (bC a) (vw w.heap) (.tmp a')=QB u:=by
     unfold wE at he;split at he
     ·simp only[MX]at he;subst he;obtain⟨u,hu,_⟩:=kc hv1;exact⟨u,hu⟩
     ·simp only[MX]at he;subst he;obtain⟨u,hu,_⟩:=kc hv1;exact⟨u,hu⟩
     cases he
    obtain⟨u,hu⟩:=hx;have h1:=run_load he hu hv1;simp only[ev,bC]at hu;cases u with
    | pointer o=>
     cases o with
     | none=>simp[Instr.loadAt,Instr.sureAddr,stuck,Sem.run]at h1
     | some ad=>simp[Instr.loadAt,Instr.sureAddr]at h1;simp[hF2,hu,asAddr,h1,ih]
    | _=>simp[Instr.loadAt,Instr.sureAddr,stuck,Sem.run]at h1
  cases hv
theorem I8(vs:List Value):(if h:vs.toArray.size=1 then vs.toArray[0] else Value.tuple vs.toArray)=pack vs:=by
 match vs with
 | []=>rfl
 | [v]=>rfl
 | v::u::l=>simp[pack]
variable{fn:Func}
theorem mM{a:Act}{w:World}{vs:List Value}(h:fn.results.toList.mapM (resE P)=QB es)(hv:evs (bC a) (vw w.heap) es=QB vs):
  (results fn a.tmps).run P w = .ok (pack vs) w:=by unfold results;rw[P5];have h1:=DC (P:=P) (a:=a) (w:=w) (F:=λx=>match x with | .tmp t=>pure (a.tmps.getD t undef) | .cell b t=>do loadVar t (<-asAddr (a.tmps.getD b undef))) (λ_=>rfl) (λ_ _=>rfl) h hv;rw[<-I8];simp only[Sem.run_bind,Sem.run_map];erw [h1];simp[Result.andThen]
variable{args:List Value}
theorem tR{pp:PP}{L:LFn}{Q:Post}{w:World}{c:Code}(hm:P.follows .mixedOrders=QF)(hc:fn.body=QB c)(hL:aI P fn=QB L)(hn:args.length<=fn.ntmps)(hw:L.body.wp P Q (ky 0 args) w.heap):fn.results.toList.mapM (resE P)=QB L.res/\
  c.wpIn (Fw QC) 0 P (sJ fn.ntmps L.body.plain [] w Q) { tmps:=args.toArray++Array.replicate (fn.ntmps-args.toArray.size) undef,defers:=[] } w:=by
 unfold aI at hL;split at hL;case h_2=>cases hL
 rename_i c' hc';rw[hc]at hc';cases hc';split at hL;case h_2=>cases hL
 rename_i res B hres hB;simp only[MX]at hL;subst hL;have hsat:Sat (ky 0 args) { tmps:=args.toArray++Array.replicate (fn.ntmps-args.toArray.size) undef,defers:=[] }:=by
  intro t v hl;obtain⟨_,h2⟩:=nV args 0 t v hl;have:t<args.length:=by
   rcases M0 t args.length with h | h
   ·exact h
   simp[NL h]at h2
  simp only[Qj]at h2;simp only[PF,OR,this,if_true,PG];exact h2
 exact⟨hres,dQ (r:=QC) hm c hB (λ_=>rfl) hw hsat Q8⟩
theorem ry{L:LFn}(hL:aI P fn=QB L): ∃c,fn.body=QB c:=by
 unfold aI at hL;split at hL
 ·rename_i c hc;exact⟨c,hc⟩
 cases hL
theorem xD{f:FuncId}{L:LFn}{h:Heap}{R:Value->Heap->Prop}(hm:P.follows .mixedOrders=QF)(hf:P.funcs[f]? = QB fn)(hL:aI P fn=QB L)(hn:args.length<=fn.ntmps)(hpl:L.body.plain=QF)(hw:L.body.wp P (fu L.res R) (ky 0 args) h):aw P f args.toArray h R:=by
 intro w hwh;subst hwh;obtain⟨c,hc⟩:=ry hL;obtain⟨hres,hwp⟩:=tR hm hc hL hn hw;refine(callsIn_wide (n:=0)).1 (callsIn_of_wp hf hc trivial (wpIn_mono hwp ?_));rintro e a1 w1 ⟨ρ1,h1,h2,⟨ms,h3,hms,_⟩,h4,h5⟩;rw[hms hpl]at h3;have fin:(∃vs,evs (look ρ1) (vw w1.heap) L.res=QB vs/\R (pack vs) w1.heap)->a1.defers=[]/\∃v,(results fn a1.tmps).run P w1 = .ok v w1/\∃u,Ending.returned v = .returned u/\R u w1.heap/\Same w w1:=by rintro⟨vs,g1,g2⟩;exact⟨h3,pack vs,mM hres (qB (λt v h=>h1 t v h) g1),pack vs,rfl,g2,h5⟩
 cases e with
 | normal=>exact fin h4
 | ret=>exact fin h4
 | panic ch=>exact h4.2.elim
 | _=>exact h4.elim
abbrev ppOf(Rp:List PanicEntry->Heap->Prop):PP:=⟨Rp,λ_=>True⟩
theorem wA{f:FuncId}{L:LFn}{h:Heap}{R:Value->Heap->Prop}{Rp:List PanicEntry->Heap->Prop}(hm:P.follows .mixedOrders=QF)(hf:P.funcs[f]? = QB fn)(hL:aI P fn=QB L)(hn:args.length<=fn.ntmps)(hpl:L.body.plain=QF)(hw:@LC.wp (ppOf Rp) P L.body (fu L.res R) (ky 0 args) h):jr P f args.toArray h R Rp:=by
 intro w hwh;subst hwh;obtain⟨c,hc⟩:=ry hL;obtain⟨hres,hwp⟩:=tR hm hc hL hn hw;refine(callsIn_wide (n:=0)).1 (callsIn_of_wp hf hc trivial (wpIn_mono hwp ?_));rintro e a1 w1 ⟨ρ1,h1,h2,⟨ms,h3,hms,_⟩,h4,h5⟩;rw[hms hpl]at h3;have fin:(∃vs,evs (look ρ1) (vw w1.heap) L.res=QB vs/\R (pack vs) w1.heap)->a1.defers=[]/\∃v,(results fn a1.tmps).run P w1 = .ok v w1/\((∃u,Ending.returned v = .returned u/\R u w1.heap/\Same w w1)\/∃ch,Ending.returned v = .panicked ch/\Rp ch w1.heap/\Same w w1):=by rintro⟨vs,g1,g2⟩;exact⟨h3,pack vs,mM hres (qB (λt v h=>h1 t v h) g1),.inl ⟨pack vs,rfl,g2,h5⟩⟩
 cases e with
 | normal=>exact fin h4
 | ret=>exact fin h4
 | panic ch=>exact⟨h3,.inr ⟨ch,rfl,h4.2,h5⟩⟩
 | _=>exact h4.elim
structure oG(n:Nat)(h h':Heap):Prop where
 size:h'.size=h.size
 same : ∀b,b<n\/h[b]?≠QB (.deferred (QB []))->h'[b]? = h[b]?
theorem oG.refl(n:Nat)(h:Heap):oG n h h:=⟨rfl,λ_ _=>rfl⟩
def DM(n:Nat)(res:List E)(R:Value->Heap->Prop):Post
 | .normal,ρ,h | .ret,ρ,h=>∀h',oG n h h'->∃vs,evs (look ρ) (vw h') res=QB vs/\R (pack vs) h'
 | _,_,_=>False
theorem sP{P:Program}{fn:Func}{a:Act}{w0:World}{R:Ending->World->Prop} : ∀(ms:List Nat) (w:World),ms.Nodup->(∀m∈ms,w0.heap.size<=m/\w.heap[m]? = QB (.deferred (QB [])))->Same w0 w->
  (∀w',oG w0.heap.size w.heap w'.heap->Same w0 w'->∃v,(results fn a.tmps).run P w' = .ok v w'/\R (.returned v) w')->
  LeavesInM (Fw QC) 0 P fn a.tmps R (ms.map λm=>{ target:=.collected m,args:=#[] }) .returning w
 | [],w,_,_,hS,h=>h w (oG.refl _ _) hS
 | m::ms,w,hnd,hms,hS,h=>by
  obtain⟨h1,h2⟩:=OO.1 hnd;obtain⟨hm1,hm2⟩:=hms m (Ng ..);have hS1:Same w0 (w.putObj m (.deferred QC)):=⟨hS.os,hS.output,hS.tape,by simpa[World.putObj]using hS.size,λb hb=>by
   have hne:b≠m:=λe=>by have:=(M7.1 hb).1;omega
   rw[World.putObj_heap_other hne];exact hS.defs b hb⟩;refine⟨by simp,.inl ⟨m,_,rfl,run_takeDeferred hm2,sP ms _ h2 (λk hk=>?_) hS1 λw' hsw hS'=>h w' ⟨by rw[hsw.size];simp[World.putObj],λb hb=>?_⟩ hS'⟩⟩
  ·have hne:k≠m:=λe=>h1 (e▸hk);rw[World.putObj_heap_other hne];exact hms k (Nf _ hk)
  have hne:b≠m:=λe=>by
   subst e;rcases hb with hb | hb
   ·omega
   exact hb hm2
  have e:(w.putObj m (.deferred QC)).heap[b]? = w.heap[b]?:=World.putObj_heap_other hne;rw[hsw.same b (by rw[e];exact hb),e]
theorem wm{f:FuncId}{L:LFn}{h:Heap}{R:Value->Heap->Prop}(hm:P.follows .mixedOrders=QF)(hf:P.funcs[f]? = QB fn)(hL:aI P fn=QB L)(hn:args.length<=fn.ntmps)(hw:L.body.wp P (DM h.size L.res R) (ky 0 args) h):aw P f args.toArray h R:=by
 intro w hwh;subst hwh;obtain⟨c,hc⟩:=ry hL;obtain⟨hres,hwp⟩:=tR hm hc hL hn hw;refine(callsIn_wide (n:=0)).1 (callsIn_of_wp_marks hf hc trivial (wpIn_mono hwp ?_));rintro e a1 w1 ⟨ρ1,h1,h2,⟨ms,h3,_,hms,hnd⟩,h4,h5⟩;have fin:(∀h',oG w.heap.size w1.heap h'->∃vs,evs (look ρ1) (vw h') L.res=QB vs/\R (pack vs) h')->LeavesInM (Fw QC) 0 P fn a1.tmps (λe w'=>∃u,e = .returned u/\R u w'.heap/\Same w w') a1.defers .returning w1:=by intro hq;rw[h3,Oh];refine sP ms w1 hnd hms h5 λw' hsw hS=>?_;obtain⟨vs,g1,g2⟩:=hq w'.heap hsw;exact⟨pack vs,mM hres (qB (λt v h=>h1 t v h) g1),pack vs,rfl,g2,hS⟩
 cases e with
 | normal=>exact fin h4
 | ret=>exact fin h4
 | panic ch=>exact h4.2.elim
 | _=>exact h4.elim
def iu(fn:Func):List Nat:=match fn.body with | some c=>lM c++yY fn c | none=>[]
def Ha(fn:Func):List Nat:=match fn.body with | some c=>yY fn c | none=>[]
def yN(fn:Func):Code:=match fn.body with | some (.seq c _)=>c | _=>.skip
def JI(fn:Func):Code:=match fn.body with | some (.seq _ (.seq c _))=>c | _=>.skip
def Hy(fn:Func):Code:=match fn.body with | some (.seq _ (.seq _ c))=>c | _=>.skip
def JL(fn:Func):Code:=match fn.body with | some (.seq _ c)=>c | _=>.skip
def GJ:Code->Array Oper | .region _ ops _=>ops | _=>#[]
def Jz:Code->Nat | .region i _ _=>i | _=>0
def JQ(fn:Func)(i:Nat):Oper:=((GJ (JI fn))[i]?).getD default
def KX(fn:Func)(i:Nat):Oper:=((GJ (yN fn))[i]?).getD default
def LC.tail:LC->LC | .seq _ y=>y | _=>.skip
section
variable{po:OP}{pp:PP}
def sat{α:Type}(o:Option α)(K:α->Prop):Prop:=∃v,o=QB v/\K v
variable{α:Type}
@[simp] theorem jc{v:α}{K:α->Prop}:sat (QB v) K=K v:=by simp[sat]
@[simp] theorem Ls{K:α->Prop}:sat QC K=False:=by simp[sat]
@[congr] theorem Lo{o o':Option α}{K:α->Prop}(h:o=o'):sat o K=sat o' K:=by rw[h]
def mO(o:Option Value)(A B:Prop):Prop:=∃b,o=QB (.bool b)/\(b=QF->A)/\(b=QG->B)
@[simp] theorem BT{A B:Prop}:mO (QB (.bool QF)) A B=A:=by simp[mO]
@[simp] theorem zV{A B:Prop}:mO (QB (.bool QG)) A B=B:=by simp[mO]
@[simp] theorem ku{A B p:Prop}[Decidable p]:mO (QB (.bool (decide p))) A B=((p->A)/\(¬p->B)):=by simp[mO]
variable{b:Bool}
@[simp] theorem Lp{A B:Prop}:mO (QB (.bool (!b))) A B=mO (QB (.bool b)) B A:=by cases b<;>simp[mO]
@[congr] theorem JN{o o':Option Value}{A B:Prop}(h:o=o'):mO o A B=mO o' A B:=by rw[h]
theorem ij{A B:Prop}:mO (QB (.bool b)) A B=((b=QF->A)/\(b=QG->B)):=by simp[mO]
section
variable{P:Program}{Q:Post}{ρ:Env}{h:Heap}
@[congr] theorem Ln{x:LC}{ρ':Env}{h':Heap}(hρ:ρ=ρ')(hh:h=h'):LC.wp P x Q ρ h=LC.wp P x Q ρ' h':=by rw[hρ,hh]
@[congr] theorem JM{m:Option View}{r:Reg}{Q:Env->Heap->Prop}{ρ':Env}{h':Heap}(hρ:ρ=ρ')(hh:h=h'):fD P m r Q ρ h=fD P m r Q ρ' h':=by rw[hρ,hh]
@[simp] theorem oR:LC.wp P .skip Q ρ h=Q .normal ρ h:=rfl
@[simp] theorem Mj:LC.wp P .ret Q ρ h=Q .ret ρ h:=rfl
@[simp] theorem oY{i:Nat}:LC.wp P (.exit i) Q ρ h=Q (.exit i) ρ h:=rfl
@[simp] theorem sU{x y:LC}:LC.wp P (.seq x y) Q ρ h=x.wp P (fN (y.wp P Q) Q) ρ h:=rfl
@[simp] theorem aL{i:Nat}{x:LC}:LC.wp P (.block i x) Q ρ h=x.wp P (dU i Q) ρ h:=rfl
@[simp] theorem kY{r:Reg}:LC.wp P (.reg QG r) Q ρ h=fD P QC r (Q .normal) ρ h:=rfl
variable{kill:List Nat}
@[simp] theorem mf{c:E}{x y:LC}:LC.wp P (.cond c kill x y) Q ρ h=mO (ev (look ρ) (vw h) c) (x.wp P Q (bJ ρ kill) h) (y.wp P Q (bJ ρ kill) h):=rfl
theorem iA{x:LC}(ks:List Nat)(I:Nat->Env->Heap->Prop)(n:Nat)(h0:I n (bh ks ρ) h)(hr : ∀n ρ h,I n ρ h->∀K:Env->Heap->Prop,(∀m ρ' h',m<n->I m (bh ks ρ') h'->K ρ' h')->x.wp P (fN K Q) ρ h):LC.wp P (.loop x) Q ρ h:=
 ⟨ks,I,⟨n,h0⟩,λn ρ h hI=>hr n ρ h hI (λρ' h'=>∃m,m<n/\I m (bh ks ρ') h') λm _ _ hlt hI'=>⟨m,hlt,hI'⟩⟩
@[simp] theorem Ld:bh [] ρ=[]:=rfl
variable{sets:List (Nat × E)}
@[simp] theorem iF{m:Option View}{Q:Env->Heap->Prop}{chk:List E}:
  fD P m (.fin kill sets chk) Q ρ h=sat (evP (look ρ) (part m h) sets) λvs=>okE (look ρ) (part m h) chk/\Q (db (bJ ρ kill) vs) h:=rfl
@[simp] theorem fK:part QC h=vw h:=rfl
@[simp] theorem lV:part (QB H) h=H:=rfl
@[simp] theorem JR{S:View->View->Prop}:ov S QC h=True:=by simp[ov]
@[simp] theorem Ju{S:View->View->Prop}:ov S (QB H) h=S H (vw h):=by simp[ov]
@[simp] theorem Kv:keeps QC h=True:=by simp[keeps]
@[simp] theorem KW:keeps (QB H) h=H.le (vw h):=by simp[keeps]
attribute [simp] setE db putE ky
@[simp] theorem Lt{v:Value}:pack [v]=v:=rfl
@[simp] theorem LY{v u:Value}:pack [v,u] = .tuple #[v,u]:=rfl
@[simp] theorem Ki{v u x:Value}:pack [v,u,x] = .tuple #[v,u,x]:=rfl
@[simp] theorem Lm:pack [] = .tuple #[]:=rfl
@[simp] theorem LK{t:Nat}:look [] t=none:=rfl
@[simp] theorem tX{k t:Nat}{v:Value}:look ((k,v)::ρ) t=if k=t then QB v else look ρ t:=rfl
@[simp] theorem bS{K:Env->Heap->Prop}:fN K Q .normal ρ h=K ρ h:=rfl
@[simp] theorem Lf{K:Env->Heap->Prop}:fN K Q .ret ρ h=Q .ret ρ h:=rfl
@[simp] theorem mC{K:Env->Heap->Prop}{i:Nat}:fN K Q (.exit i) ρ h=Q (.exit i) ρ h:=rfl
@[simp] theorem Jn{i:Nat}:dU i Q .normal ρ h=Q .normal ρ h:=rfl
@[simp] theorem Lh{i:Nat}:dU i Q .ret ρ h=Q .ret ρ h:=rfl
@[simp] theorem mj{i k:Nat}:dU i Q (.exit k) ρ h=if k=i then Q .normal ρ h else Q (.exit k) ρ h:=rfl
@[simp] theorem JY{R:Value->Heap->Prop}:fu es R .ret ρ h=sat (evs (look ρ) (vw h) es) λvs=>R (pack vs) h:=rfl
@[simp] theorem HQ{R:Value->Heap->Prop}:fu es R .normal ρ h=sat (evs (look ρ) (vw h) es) λvs=>R (pack vs) h:=rfl
@[simp] theorem kU{σ:Nat->Option Value}:evP σ H []=QB []:=rfl
@[simp] theorem jD{σ:Nat->Option Value}{t:Nat}{e:E}{l:List (Nat × E)}:evP σ H ((t,e)::l)=(ev σ H e).bind λv=>(evP σ H l).bind λvs=>QB ((t,v)::vs):=by simp only[evP];cases ev σ H e<;>cases evP σ H l<;>rfl
@[simp] theorem Mb{σ:Nat->Option Value}:evs σ H []=QB []:=rfl
@[simp] theorem LS{σ:Nat->Option Value}{e:E}{l:List E}:evs σ H (e::l)=(ev σ H e).bind λv=>(evs σ H l).bind λvs=>QB (v::vs):=by simp only[evs];cases ev σ H e<;>cases evs σ H l<;>rfl
@[simp] theorem kO{σ:Nat->Option Value}:okE σ H []=True:=rfl
@[simp] theorem Lv{σ:Nat->Option Value}{e:E}{l:List E}:okE σ H (e::l)=(sat (ev σ H e) λ_=>okE σ H l):=by simp only[okE,sat];exact propext ⟨λ⟨⟨v,hv⟩,h⟩=>⟨v,hv,h⟩,λ⟨v,hv,h⟩=>⟨⟨v,hv⟩,h⟩⟩
@[simp] theorem ES:bJ [] ts=[]:=rfl
@[simp] theorem mF{k:Nat}{v:Value}:bJ ((k,v)::ρ) ts=if ts.contains k then bJ ρ ts else(k,v)::bJ ρ ts:=by simp only[bJ,Pq];split<;>split<;>simp_all
theorem zo{x:LC}(M:Env->Heap->Prop){N:Env->Heap->Prop}(h1 : ∀K:Env->Heap->Prop,(∀ρ h,M ρ h->K ρ h)->x.wp P (fN K Q) ρ h)(h2 : ∀ρ h,M ρ h->N ρ h):LC.wp P x (fN N Q) ρ h:=
 Aq (λe ρ h hq=>by cases e<;>first | exact h2 _ _ hq | exact hq) (h1 M λ_ _ h=>h)
theorem xG{chk:List E}{vs:List (Nat × Value)}(h1:evP (look ρ) (vw h) sets=QB vs)(h2:okE (look ρ) (vw h) chk)(h3:Q .normal (db (bJ ρ kill) vs) h):
  LC.wp P (.reg QF (.fin kill sets chk)) Q ρ h:=⟨vw h,View.tj (View.le_refl _),vs,h1,h2,h3⟩
@[simp] theorem GC{chk:List E}:LC.wp P (.reg QF (.fin kill sets chk)) Q ρ h=sat (evP (look ρ) (vw h) sets) λvs=>okE (look ρ) (vw h) chk/\Q .normal (db (bJ ρ kill) vs) h:=by
 refine propext ⟨?_,λ⟨vs,h1,h2,h3⟩=>xG h1 h2 h3⟩;rintro⟨H,hH,vs,h1,h2,h3⟩;have e1 : ∀{l:List (Nat × E)} {vs},evP (look ρ) H l=QB vs->evP (look ρ) (vw h) l=QB vs:=by
  intro l;induction l with
  | nil=>intro vs h;exact h
  | cons p l ih=>
   intro vs h;obtain⟨t,e⟩:=p;simp only[evP]at h ⊢;split at h
   ·rename_i v vs' hv hvs;simp only[gG hH hv,ih hvs];exact h
   cases h
 have e2 : ∀{l:List E},okE (look ρ) H l->okE (look ρ) (vw h) l:=by
  intro l;induction l with
  | nil=>intro h;exact h
  | cons e l ih=>intro ⟨⟨v,hv⟩,h⟩;exact⟨⟨v,gG hH hv⟩,ih h⟩
 exact⟨vs,e1 h1,e2 h2,h3⟩
theorem ak{P:Program}{f:FuncId}{L:LFn}{h:Heap}{R:Value->Heap->Prop}(hm:P.follows .mixedOrders=QF)(hf:P.funcs[f]? = QB fn)(hL:aI P fn=QB L)(hn:args.length<=fn.ntmps)(hw : ∀K:Value->Heap->Prop,(∀v h',R v h'->K v h')->@LC.wp noPP P L.body (fu L.res K) (ky 0 args) h)(hpl:L.body.plain=true:=by kernel_rfl):aw P f args.toArray h R:=
 xD hm hf hL hn hpl (hw R λ_ _ h=>h)
theorem iY{P:Program}{f:FuncId}{L:LFn}{h:Heap}{R:Value->Heap->Prop}{Rp:List PanicEntry->Heap->Prop}(hm:P.follows .mixedOrders=QF)(hf:P.funcs[f]? = QB fn)(hL:aI P fn=QB L)(hn:args.length<=fn.ntmps)(hw : ∀(K:Value->Heap->Prop) (Kp:List PanicEntry->Heap->Prop),(∀v h',R v h'->K v h')->(∀ch h',Rp ch h'->Kp ch h')->@LC.wp (ppOf Kp) P L.body (fu L.res K) (ky 0 args) h)(hpl:L.body.plain=true:=by kernel_rfl):jr P f args.toArray h R Rp:=
 wA hm hf hL hn hpl (hw R Rp (λ_ _ h=>h) λ_ _ h=>h)
theorem uP{P:Program}{f:FuncId}{L:LFn}{h:Heap}{R:Value->Heap->Prop}(hm:P.follows .mixedOrders=QF)(hf:P.funcs[f]? = QB fn)(hL:aI P fn=QB L)(hn:args.length<=fn.ntmps)(hw : ∀K:Value->Heap->Prop,(∀v h',R v h'->K v h')->@LC.wp noPP P L.body (DM h.size L.res K) (ky 0 args) h):aw P f args.toArray h R:=
 wm hm hf hL hn (hw R λ_ _ h=>h)
section
variable{σ:Nat->Option Value}{H:View}{x y c:E}{v:Value}{a b:Int}{k:IntKind}
@[simp] theorem mZ{t:Nat}:ev σ H (.tmp t)=σ t:=rfl
@[simp] theorem wX:ev σ H (.con v)=QB v:=rfl
@[simp] theorem LI{o:Un}:ev σ H (.un o x)=(ev σ H x).bind (o.ev H):=by simp only[ev];cases ev σ H x<;>rfl
@[simp] theorem kJ{o:Bn}:ev σ H (.bin o x y)=(ev σ H x).bind λv=>(ev σ H y).bind (o.ev v):=by simp only[ev];cases ev σ H x<;>cases ev σ H y<;>rfl
@[simp] theorem LR(c:Prop)[Decidable c](x y:Bool):(if c then QB (Value.bool x) else QB (Value.bool y))=QB (.bool (if c then x else y)):=by split<;>rfl
@[simp] theorem Ll:ev σ H (.ite c x y)=(ev σ H c).bind λu=>(vB u).bind λb=>if b then ev σ H x else ev σ H y:=by
 simp only[ev];cases ev σ H c with
 | none=>rfl
 | some u=>
  cases u<;>try rfl
  rename_i b;cases b<;>rfl
def gdv(b:Bool):Value->Value->Value
 | .bool d,v=>if d=b then v else undef
 | _,_=>undef
def gdO(b:Bool):Value->Option Value->Option Value
 | .bool d,o=>if d=b then o else QB undef
 | _,_=>QB undef
@[simp] theorem LO{b:Bool}:ev σ H (.gd c b x)=(ev σ H c).bind λu=>gdO b u (ev σ H x):=by
 simp only[ev];cases hc:ev σ H c with
 | none=>rfl
 | some u=>
  cases u<;>try rfl
  rename_i d;cases d<;>cases b<;>rfl
@[simp] theorem LP{b:Bool}{u v:Value}:gdO b u (QB v)=QB (gdv b u v):=by cases u<;>simp only[gdO,gdv];split<;>rfl
@[simp] theorem ML{b:Bool}{o:Option Value}:gdO b (.bool b) o=o:=by simp[gdO]
@[simp] theorem Ms{o:Option Value}:gdO QF (.bool QG) o=QB undef:=rfl
@[simp] theorem Mu{o:Option Value}:gdO QG (.bool QF) o=QB undef:=rfl
@[simp] theorem MH{b:Bool}{v:Value}:gdv b (.bool b) v=v:=by simp[gdv]
@[simp] theorem ME{v:Value}:gdv QF (.bool QG) v=undef:=rfl
@[simp] theorem Mm{v:Value}:gdv QG (.bool QF) v=undef:=rfl
@[simp] theorem MC{p:Option Addr}{m:Nat}:Un.ev H .len (.slice p n m)=QB (Qy Qz n):=rfl
@[simp] theorem MF{b:Bool}:Un.ev H .not (.bool b)=QB (.bool (!b)):=rfl
@[simp] theorem Mi{b:Bool}:vB (.bool b)=QB b:=rfl
@[simp] theorem Mw:vI (.int k a)=QB (k,a):=rfl
@[simp] theorem My{f:IntKind->Int->Int->Option Value}:i2 (.int k a) (.int k b) f=f k a b:=by simp[i2]
@[simp] theorem GA:Bn.ev (.cmp .lss) (.int k a) (.int k b)=QB (.bool (decide (a<b))):=by simp[Bn.ev,cmpI]
@[simp] theorem Mp:Bn.ev (.cmp .leq) (.int k a) (.int k b)=QB (.bool (decide (a<=b))):=by simp[Bn.ev,cmpI]
@[simp] theorem MK:Bn.ev (.cmp .gtr) (.int k a) (.int k b)=QB (.bool (decide (b<a))):=by simp[Bn.ev,cmpI]
@[simp] theorem Mr:Bn.ev (.cmp .geq) (.int k a) (.int k b)=QB (.bool (decide (b<=a))):=by simp[Bn.ev,cmpI]
@[simp] theorem MG:Bn.ev (.cmp .eql) (.int k a) (.int k b)=QB (.bool (decide (a=b))):=by simp[Bn.ev,cmpI];rfl
@[simp] theorem MB:Bn.ev (.cmp .neq) (.int k a) (.int k b)=QB (.bool (!decide (a=b))):=by simp[Bn.ev,cmpI];rfl
@[simp] theorem xk:Bn.ev (.arith .add) (.int k a) (.int k b)=QB (.int k (k.wrap (a+b))):=by simp[Bn.ev,wJ]
@[simp] theorem Mz:Bn.ev (.arith .sub) (.int k a) (.int k b)=QB (.int k (k.wrap (a-b))):=by simp[Bn.ev,wJ]
@[simp] theorem Mx(h:b≠0):Bn.ev (.div .rem) (.int k a) (.int k b)=QB (.int k (a.tmod b)):=by simp[Bn.ev,divI,h]
@[simp] theorem Mo(h:b≠0):Bn.ev (.div .quo) (.int k a) (.int k b)=QB (.int k (k.wrap (a.tdiv b))):=by simp[Bn.ev,divI,h]
@[simp] theorem Kn:Bn.ev .min (.int k a) (.int k b)=QB (.int k (if b<a then b else a)):=by simp[Bn.ev]
@[simp] theorem MI:Bn.ev .max (.int k a) (.int k b)=QB (.int k (if a<b then b else a)):=by simp[Bn.ev]
@[simp] theorem MA{n:Bool}{p q:Bool}:Bn.ev (.eqB n) (.bool p) (.bool q)=QB (.bool ((p == q) != n)):=rfl
@[simp] theorem MJ:Bn.ev (.arith .mul) (.int k a) (.int k b)=QB (.int k (k.wrap (a*b))):=by simp[Bn.ev,wJ]
end
end
end
def View.dO(H:View):View:=λb=>match H b with
 | some (.cells c T fz)=>QB (.cells c T fz)
 | _=>QC
theorem View.uM{b:Nat}{c:Array Value}{T:TypeId}{fz:Nat × Nat}(h:H b=QB (.cells c T fz)):H.dO b=QB (.cells c T fz):=by unfold View.dO;rw[h]
theorem View.rZ:H.dO.le H:=λb o h=>by
 unfold View.dO at h;split at h
 ·rename_i e;rw[e];exact h
 cases h
class Rep(α:Type) where
 n:Nat
 agg:Bool
 rd:View->List Value->α->Prop
 mono : ∀{H K:View} {cs:List Value} {d:α},H.le K->rd H cs d->rd K cs d
 len : ∀{H:View} {cs:List Value} {d:α},rd H cs d->cs.length=n
 one:agg=QG->n=1
 flat : ∀{H:View} {cs:List Value} {d:α},rd H cs d->∀u∈cs,u.oneCell'=QF
 pos:0<n
 dO : ∀{H:View} {cs:List Value} {d:α},rd H cs d->rd H.dO cs d
def Rd{α:Type}[Rep α](H:View)(v:Value)(d:α):Prop:=
 if Rep.agg α then ∃cs:Array Value,v = .agg cs/\Rep.rd H cs.toList d else Rep.rd H [v] d
def fO(H:View)(a:Addr)(cs:List Value):Prop:=
 ∃(c:Array Value) (T:TypeId) (fz:Nat × Nat),a.spot=QC/\H a.block=QB (.cells c T fz)/\(c.toList.drop a.off).take cs.length=cs
def At{α:Type}[Rep α](H:View)(a:Addr)(d:α):Prop:=∃cs,fO H a cs/\Rep.rd H cs d
theorem zI(hk:H.le K){a:Addr}{cs:List Value}(h:fO H a cs):fO K a cs:=
 let ⟨c,T,fz,h1,h2,h3⟩:=h
 ⟨c,T,fz,h1,hk _ _ h2,h3⟩
theorem At.mono{α:Type}[Rep α]{H K:View}(hk:H.le K){a:Addr}{d:α}(h:At H a d):At K a d:=
 let ⟨cs,h1,h2⟩:=h
 ⟨cs,zI hk h1,Rep.mono hk h2⟩
theorem At.dO{α:Type}[Rep α]{H:View}{a:Addr}{d:α}(h:At H a d):At H.dO a d:=by obtain⟨cs,⟨c,T,fz,h1,h2,h3⟩,h4⟩:=h;exact⟨cs,⟨c,T,fz,h1,View.uM h2,h3⟩,Rep.dO h4⟩
theorem Rd.dO{α:Type}[Rep α]{H:View}{v:Value}{d:α}(h:Rd H v d):Rd H.dO v d:=by
 unfold Rd at *;split
 ·rename_i ha;rw[if_pos ha]at h;obtain⟨cs,h1,h2⟩:=h;exact⟨cs,h1,Rep.dO h2⟩
 rename_i ha;rw[if_neg ha]at h;exact Rep.dO h
theorem Rd.mono{α:Type}[Rep α]{H K:View}(hk:H.le K){v:Value}{d:α}(h:Rd H v d):Rd K v d:=by
 unfold Rd at *;split
 ·rename_i ha;rw[if_pos ha]at h;obtain⟨cs,h1,h2⟩:=h;exact⟨cs,h1,Rep.mono hk h2⟩
 rename_i ha;rw[if_neg ha]at h;exact Rep.mono hk h
theorem bs{a:Addr}(h:a.spot=QC)(n:Nat):a.add n=⟨a.block,a.off+n,QC⟩:=by obtain⟨b,o,s⟩:=a;simp only at h;subst h;unfold Addr.add;split<;>simp_all
theorem uN{a:Addr}{cs:List Value}(h:fO H a cs){i:Nat}{v:Value}(hv:cs[i]? = QB v):aj H (a.add i)=QB v:=by
 obtain⟨c,T,fz,hs,hb,he⟩:=h;rw[bs hs];simp only[aj,hb];have hi:i<cs.length:=by
  rcases M0 i cs.length with h | h
  ·exact h
  simp[NL h]at hv
 rw[<-he]at hv;simp only[Ox,hi,if_true,O6]at hv;simpa using hv
theorem zx{a:Addr}{v:Value}(h:fO H a [v]):aj H a=QB v:=by have:=uN h (i:=0) (v:=v) rfl;simpa[Addr.add]using this
theorem ir{H:View}{a:Addr}{cs:List Value}(h:fO H a cs) : ∀(m i:Nat) (acc:Array Value),i+m=cs.length->dy H a i m acc=QB (acc++(cs.drop i).toArray)
 | 0,i,acc,hi=>by
  have:cs.drop i=[]:=by simp;omega
  simp[dy,this]
 | m+1,i,acc,hi=>by
  have hlt:i<cs.length:=by omega
  have e:cs[i]? = QB cs[i]:=N9 hlt;simp only[dy,uN h e];rw[ir h m (i+1) _ Q1];rw[NK hlt];simp
theorem zS{a:Addr}{cs:List Value}(h:fO H a cs)(o m:Nat)(hm:o+m<=cs.length):fO H (a.add o) ((cs.drop o).take m):=by
 obtain⟨c,T,fz,hs,hb,he⟩:=h;rw[bs hs];refine⟨c,T,fz,rfl,hb,?_⟩;have hl:((cs.drop o).take m).length=m:=by simp;omega
 rw[hl];have e1:(cs.drop o).take m=(((c.toList.drop a.off).take cs.length).drop o).take m:=by rw[he]
 rw[e1,Ot,Od,O1];congr 1;omega
variable{α:Type}
theorem At.load[Rep α]{a:Addr}{d:α}(h:At H a d)(ha:Rep.agg α=QG): ∃v,aj H a=QB v/\Rd H v d:=by
 obtain⟨cs,h1,h2⟩:=h;have hl:=Rep.len h2;rw[Rep.one ha]at hl;match cs,hl with
 | [v],_=>exact⟨v,zx h1,by unfold Rd;rw[if_neg (by simp[ha])];exact h2⟩
theorem At.ax{α:Type}[Rep α]{H:View}{a:Addr}{d:α}(h:At H a d)(ha:Rep.agg α=QF) : ∃v,Un.ev H (.ax (Rep.n α)) (QE (QB a))=QB v/\Rd H v d:=by
 obtain⟨cs,h1,h2⟩:=h;have hl:=Rep.len h2;refine⟨.agg cs.toArray,?_,?_⟩
 ·have:=ir h1 cs.length 0 #[] Q1;rw[hl]at this;simp[Un.ev,vP,this]
 unfold Rd;rw[if_pos ha];exact⟨_,rfl,by simpa using h2⟩
instance:Rep Int where
 n:=1
 agg:=false
 rd:=λ_ cs d=>cs=[Qy Qz d]/\-9223372036854775808<=d/\d<=9223372036854775807
 mono:=λ_ h=>h
 len:=λh=>by rw[h.1];rfl
 one:=λ_=>rfl
 flat:=λh u hu=>by rw[h.1]at hu;simp at hu;subst hu;rfl
 pos:=P6
 dO:=λh=>h
structure I32 where
 v:Int
 deriving DecidableEq,Inhabited
instance:Rep I32 where
 n:=1
 agg:=false
 rd:=λ_ cs d=>cs=[Qy QA d.v]/\-2147483648<=d.v/\d.v<=2147483647
 mono:=λ_ h=>h
 len:=λh=>by rw[h.1];rfl
 one:=λ_=>rfl
 flat:=λh u hu=>by rw[h.1]at hu;simp at hu;subst hu;rfl
 pos:=P6
 dO:=λh=>h
instance:Rep Bool where
 n:=1
 agg:=false
 rd:=λ_ cs d=>cs=[.bool d]
 mono:=λ_ h=>h
 len:=λh=>by rw[h];rfl
 one:=λ_=>rfl
 flat:=λh u hu=>by rw[h]at hu;simp at hu;subst hu;rfl
 pos:=P6
 dO:=λh=>h
theorem dJ{v:Value}{d:Int}:Rd H v d↔v = Qy Qz d/\-9223372036854775808<=d/\d<=9223372036854775807:=by simp[Rd,Rep.agg,Rep.rd]
theorem oL{v:Value}{d:I32}:Rd H v d↔v = Qy QA d.v/\-2147483648<=d.v/\d.v<=2147483647:=by simp[Rd,Rep.agg,Rep.rd]
theorem zr{v:Value}{d:Bool}:Rd H v d↔v = .bool d:=by simp[Rd,Rep.agg,Rep.rd]
def SlRd{α:Type}[Rep α](H:View)(v:Value)(l:List α):Prop:=
 ∃a cap,v = .slice a l.length cap/\l.length<=cap/\l.length<=140737488355328/\
  (l=[]\/∃ad,a=QB ad/\ad.spot=QC/\∀(i:Nat) (hi:i<l.length),At H (ad.add (i*Rep.n α)) l[i])
instance {α:Type}[Rep α]:Rep (List α) where
 n:=1
 agg:=false
 rd:=λH cs l=>∃v,cs=[v]/\SlRd H v l
 mono:=λhk h=>by
  obtain⟨v,h1,a,cap,h2,h3,h4,h5⟩:=h
  refine⟨v,h1,a,cap,h2,h3,h4,?_⟩
  rcases h5 with h5 | ⟨ad,h6,h7,h8⟩
  ·exact .inl h5
  ·exact .inr ⟨ad,h6,h7,λi hi=>(h8 i hi).mono hk⟩
 len:=λ⟨v,h,_⟩=>by rw[h];rfl
 one:=λ_=>rfl
 flat:=λ⟨v,h,a,cap,h2,_⟩ u hu=>by rw[h]at hu;simp at hu;subst hu;rw[h2];rfl
 pos:=P6
 dO:=λh=>by
  obtain⟨v,h1,a,cap,h2,h3,h4,h5⟩:=h
  refine⟨v,h1,a,cap,h2,h3,h4,?_⟩
  rcases h5 with h5 | ⟨ad,h6,h7,h8⟩
  ·exact .inl h5
  ·exact .inr ⟨ad,h6,h7,λi hi=>(h8 i hi).dO⟩
theorem fG[Rep α]{v:Value}{l:List α}:Rd H v l↔SlRd H v l:=by simp[Rd,Rep.agg,Rep.rd]
def slA:Value->Addr
 | QD (QB a) _ _=>a
 | _=>default
section
variable{α:Type}[Rep α]{H:View}{v:Value}{l:List α}
theorem SlRd.len(h:SlRd H v l){K:View}:Un.ev K .len v=QB (Qy Qz l.length):=by obtain⟨a,cap,rfl,_⟩:=h;rfl
theorem SlRd.bound(h:SlRd H v l):l.length<=140737488355328:=by obtain⟨a,cap,_,_,h,_⟩:=h;exact h
theorem SlRd.idx(h:SlRd H v l){k:IntKind}{i:Int}(h0:0<=i)(h1:i<l.length):Bn.ev (.idx (Rep.n α)) v (.int k i)=QB (QE (QB ((slA v).add (i.toNat*Rep.n α)))):=by
 obtain⟨a,cap,rfl,_,_,h⟩:=h;rcases h with rfl | ⟨ad,rfl,_,_⟩
 ·simp at h1;omega
 simp[Bn.ev,vL,vI,slA,h0,h1]
theorem SlRd.idx1(h:SlRd H v l)(hn:Rep.n α=1){k:IntKind}{i:Int}(h0:0<=i)(h1:i<l.length):Bn.ev (.idx 1) v (.int k i)=QB (QE (QB ((slA v).add i.toNat))):=by have:=h.idx (k:=k) h0 h1;rw[hn,NN]at this;exact this
theorem SlRd.at(h:SlRd H v l){i:Nat}(hi:i<l.length):At H ((slA v).add (i*Rep.n α)) l[i]:=by
 obtain⟨a,cap,rfl,_,_,h⟩:=h;rcases h with rfl | ⟨ad,rfl,_,h⟩
 ·simp at hi
 exact h i hi
theorem SlRd.mono(h:SlRd H v l){K:View}(hk:H.le K):SlRd K v l:=fG.1 (Rd.mono hk (fG.2 h))
end
theorem SlRd.take{α:Type}[Rep α]{H:View}{v:Value}{l:List α}(h:SlRd H v l){n:Nat}(hn:n<=l.length){kd:IntKind} : ∃u,Bn.ev .hi v (.int kd n)=QB u/\SlRd H u (l.take n):=by
 obtain⟨a,cap,rfl,h1,h2,h3⟩:=h;refine⟨.slice a n cap,by simp[Bn.ev,vL,vI];omega,a,cap,?_,?_,?_,?_⟩
 ·rw[Ny,N7 hn]
 ·rw[Ny];omega
 ·rw[Ny];omega
 rcases h3 with rfl | ⟨ad,rfl,hs,hat⟩
 ·left;simp
 refine .inr ⟨ad,rfl,hs,λi hi=>?_⟩;rw[Ny]at hi;rw[OS];exact hat i Q1
def nth{α:Type}[Inhabited α](l:List α)(i:Nat):α:=l.getD i default
theorem ao[Inhabited α]{l:List α}{i:Nat}(h:i<l.length):nth l i=l[i]:=by simp[nth,h]
theorem aW[Inhabited α]{l:List α}{i:Nat}(h:l.length<=i):nth l i=default:=by simp[nth,h]
theorem bD[Inhabited α]{l:List α}{i:Nat}(h:i<l.length):nth l i∈l:=by rw[ao h];exact Oi h
theorem yH[Inhabited α]{a b:List α}(hl:a.length=b.length)(h : ∀j,j<a.length->nth a j=nth b j):a=b:=by refine NU hl λi h1 h2=>?_;have:=h i h1;rwa [ao h1,ao h2]at this
theorem SlRd.int{H K:View}{v:Value}{l:List Int}(h:SlRd H v l)(hk:H.le K){i:Nat}(hi:i<l.length):aj K ((slA v).add i)=QB (Qy Qz (nth l i)):=by obtain⟨u,h1,h2⟩:=((h.at hi).mono hk).load rfl;rw[dJ]at h2;rw[h2.1,show i*Rep.n Int=i from NN i]at h1;rw[ao hi];exact h1
theorem SlRd.bool{H K:View}{v:Value}{l:List Bool}(h:SlRd H v l)(hk:H.le K){i:Nat}(hi:i<l.length):aj K ((slA v).add i)=QB (.bool (nth l i)):=by obtain⟨u,h1,h2⟩:=((h.at hi).mono hk).load rfl;rw[zr]at h2;rw[h2,show i*Rep.n Bool=i from NN i]at h1;rw[ao hi];exact h1
theorem SlRd.range{v:Value}{l:List Int}(h:SlRd H v l){i:Nat}(hi:i<l.length):-9223372036854775808<=nth l i/\nth l i<=9223372036854775807:=by obtain⟨u,h1,h2⟩:=(h.at hi).load rfl;rw[dJ]at h2;rw[ao hi];exact h2.2
theorem SlRd.rows[Rep α]{v:Value}{g:List (List α)}(h:SlRd H v g): ∃rv:Nat->Value,∀i,i<g.length->(∀K:View,H.le K->aj K ((slA v).add i)=QB (rv i))/\SlRd H (rv i) (nth g i):=by
 have key : ∀i,∃u,i<g.length->(∀K:View,H.le K->aj K ((slA v).add i)=QB u)/\SlRd H u (nth g i):=by
  intro i;by_cases hi:i<g.length
  ·obtain⟨u,h1,h2⟩:=(h.at hi).load rfl;rw[show i*Rep.n (List α)=i from NN i]at h1;refine⟨u,λ_=>⟨λK hk=>ae hk h1,?_⟩⟩;rw[ao hi];exact fG.1 h2
  exact⟨undef,λh=>absurd h hi⟩
 exact⟨λi=>(key i).choose,λi=>(key i).choose_spec⟩
@[simp] theorem Mh{a:Addr}:Un.ev H .load (QE (QB a))=aj H a:=rfl
@[simp] theorem bu{a:Int}(h0:-9223372036854775808<=a)(h1:a<=9223372036854775807):IntKind.i64.wrap a=a:=IntWalk.i64_in _ Q1
end Go.Lft
namespace Go
theorem Qv{p:Prop}(h:p:=by repeat (first | exact Lft.View.le_refl _ | assumption | refine Lft.View.le_trans ?_ (by assumption))):p:=h
theorem Qw{H:Lft.View}:H.le H:=Lft.View.le_refl H
theorem Qx{H K L:Lft.View}(a:H.le K)(b:K.le L):H.le L:=Lft.View.le_trans a b
end Go
