/- A part of the proof: LftE, LftS, LftT, LftB, LftR, LftD, LftC, LftCb, Cbq, LftW, LftV. -/
import Derived.WalkKit
import Derived.CallsIn
import Derived.OrdersIn
import Derived.OwnWalkIn
import Derived.RangeFuncIn
import Derived.RangeFuncRecord
import Derived.RangeFuncLeaves
import Derived.KernelRfl
import Derived.Test.YtmhnaeecolpfkaaGreatDoorProg
import Derived.ChangeKeysEq
import Derived.MapKept
import Derived.RecoverIn
import Derived.Test.YtmhnaeecolpfkaaGreatDoorChecked
import Derived.ProofKit
import Derived.OpenShut
import Derived.HandedShaped
import Derived.LaidMore
import Derived.Shelf.Small.Bits
import Derived.Shelf.Small.Wraps
import Derived.Shelf.Strconv.Itoa0
import Derived.Shelf.Sort.Plain
import Derived.Shelf.Unicode.Latin
import Derived.Shelf.Unicode.Is16White
import Derived.Shelf.Unicode.IsSpaceAny
import Derived.Shelf.Unicode.Is16Any
import Derived.Shelf.Unicode.Is32Any
import Derived.Shelf.Unicode.ExclAny
import Derived.Shelf.Slices.Turned
import Derived.Shelf.Slices.Reverse
import Derived.Ground.Names2Prog
import Derived.Shelf.Slices.CompactI
import Derived.Shelf.Slices.SearchI
import Derived.Shelf.Slices.Cells
import Derived.Shelf.Slices.In.SortNone
import Derived.Maps.RangeRun
import Derived.Laws.BytesArg
import Derived.Test.YtmhnaeecolpfkaaGreatDoorRows
import Derived.Lib.LaidTab
import Derived.Test.YtmhnaeecolpfkaaGreatDoorCards
import Derived.Test.YtmhnaeecolpfkaaGreatDoorTie
import Derived.SevenTiedAt
set_option linter.unusedSimpArgs false
set_option linter.unusedVariables false
open Go.Value renaming int->UH,slice->UM,pointer->UN
open Go.IntKind renaming i64->UI,i32->UJ
open Option renaming some->UK,none->UL
open Bool renaming true->UO,false->UP
namespace Go
abbrev zpa:List (Nat×Nat):=[(0,1),(1,1),(2,1),(3,1),(4,1)]
abbrev zpb:List (Nat×Nat):=[(0,1),(1,1),(2,1),(3,1),(4,1),(5,1),(6,1),(7,1)]
abbrev zpc:List (Nat×Nat):=[(0,1),(1,1),(2,1),(3,5)]
abbrev zpd:List (Nat×Nat):=[(0,1),(1,1)]
abbrev zpe:List (Nat×Nat):=[(0,1),(1,1),(2,1),(3,1)]
abbrev zpf:List (Nat×Nat):=[(0,2),(2,5),(7,4),(11,1),(12,1)]
theorem U0{p:Prop}(h:p:=by kernel_rfl):p:=h
theorem U1{p:Prop}(h:p:=by omega):p:=h
theorem U2{p:Prop}(h:p:=by simp):p:=h
theorem U3{p:Prop}(h:p:=by decide):p:=h
theorem U4{p:Prop}(h:p:=by rfl):p:=h
theorem U5{p:Prop}(h:p:=by intro _;simp):p:=h
theorem U6{p q:Prop}(a:p:=by omega)(b:q:=by omega):p/\q:=⟨a,b⟩
theorem U7{p:Prop}(h:p:=by simp [Value.oneCell']):p:=h
theorem U8{p:Prop}(h:p:=by simp [Value.cells,Value.oneCell']):p:=h
theorem U9{p:Prop}(h:p:=by simp;omega):p:=h
theorem UC{a b:Nat}(h:Nat.ble a b=true:=by kernel_rfl):a<=b:=Nat.le_of_ble_eq_true h
def UG(n m:Nat):Array Bool:=((List.range n).map (Nat.testBit m)).toArray
abbrev ptz(b:Nat):Value:=UN (UK ⟨b,0,UL⟩)
abbrev zz0:Value:=.agg #[UH UI 0,UH UI 0,UH UI 0]
abbrev zz1:Value:=.agg #[UH UI 0,UH UI 0]
abbrev zz2:Value:=.agg #[UH UI 0,UH UI 0,UH UI 0,UH UI 0]
abbrev zz3:Value:=.agg #[UM UL 0 0,UM UL 0 0,UH UI 0,UM UL 0 0,UM UL 0 0,UH UJ 0]
abbrev zz4:Value:=.agg #[UH UI 0,UM UL 0 0]
abbrev zz5:Value:=.agg #[UH UI 0,UH UI 0,UH UI 0,UM UL 0 0,UH UJ 0]
abbrev zz6:Value:=.agg #[UH UI 0,UM UL 0 0,.map UL]
abbrev zz7:Value:=.agg #[UM UL 0 0,UM UL 0 0,UM UL 0 0,UH UI 0,UH UI 0,UH UI 0,UM UL 0 0,UH UJ 0]
abbrev zz8:Value:=.agg #[UH UI 0,UH UI 0,UH UI 0,UH UI 0,UH UI 0,UH UI 0,UH UJ 0,UM UL 0 0]
abbrev zz9:Value:=.agg #[UH UI 0,UM UL 0 0,UM UL 0 0,UH UJ 0]
abbrev zz10:Value:=.agg #[UH UI 0,UH UI 0,UM UL 0 0,UM UL 0 0]
abbrev zz11:Value:=.agg #[UH UI 0,UH UI 0,UH UI 0,UH UI 0,UH UI 0,UH UI 0,UH UI 0,UH UI 0,UH UI 0,UH UI 0,UH UI 0,UH UI 0]
abbrev zz12:Value:=.agg #[UM UL 0 0,UH UI 0,UH UI 0,UM UL 0 0,UH UI 0,UM UL 0 0]
abbrev zz13:Value:=.agg #[UH UI 0,UM UL 0 0,UM UL 0 0,UH UI 0,.map UL,.map UL,.map UL]
abbrev OB:=@Nat.le_of_ble_eq_true
abbrev Q2:=@Option.some.injEq
abbrev Q4:=@Nat.le_refl
abbrev Q5:=@List.forall_mem_cons
abbrev Q6:=@Option.map_eq_some_iff
abbrev Q7:=@List.mem_cons_of_mem
abbrev Q8:=@List.mem_singleton
abbrev Q9:=@Bool.and_eq_true
abbrev Ri:=@Nat.lt_or_ge
abbrev Rj:=@List.mem_append
abbrev Rk:=@Array.getElem?_eq_some_iff
abbrev Rl:=@List.length_append
abbrev Rm:=@List.mem_cons_self
abbrev Rn:=@List.append_assoc
abbrev Ro:=@Option.bind_eq_some_iff
abbrev Rq:=@List.take_of_length_le
abbrev Rr:=@List.take_succ_eq_append_getElem
abbrev Rt:=@Nat.le_trans
abbrev Ru:=@List.mem_cons
abbrev Rv:=@ByteArray.size_append
abbrev Ry:=@List.eq_nil_of_length_eq_zero
abbrev Rz:=@Array.toList_inj
abbrev RA:=@Array.getElem?_eq_getElem
abbrev RB:=@Int.toNat_natCast
abbrev RC:=@Nat.mul_le_mul_right
abbrev RD:=@Option.bind_some
abbrev RE:=@Int.toNat_of_nonneg
abbrev RF:=@List.mem_of_getElem?
abbrev RG:=@List.foldl_cons
abbrev RH:=@List.getElem_of_mem
abbrev RI:=@List.length_singleton
abbrev RJ:=@List.drop_eq_getElem_cons
abbrev RK:=@List.getElem?_eq_getElem
abbrev RL:=@List.length_set
abbrev RM:=@Bool.eq_iff_iff
abbrev RN:=@List.drop_eq_nil_of_le
abbrev RO:=@List.length_take
abbrev RP:=@List.getElem?_eq_none
abbrev RQ:=@List.length_drop
abbrev RR:=@List.take_length
abbrev RS:=@List.all_eq_true
abbrev RU:=@List.count_pos_iff
abbrev RV:=@List.nil_append
abbrev RW:=@List.take_append_of_le_length
abbrev RX:=@List.length_replicate
abbrev RY:=@Nat.mul_one
abbrev RZ:=@List.length_cons
abbrev R1:=@Nat.zero_add
abbrev Sa:=@Bool.or_eq_true
abbrev Sb:=@Nat.succ_mul
abbrev Sc:=@Nat.lt_of_lt_of_le
abbrev Sd:=@Array.getElem?_setIfInBounds_ne
abbrev Se:=@Array.getElem?_toList
abbrev Sf:=@List.mem_map
abbrev Sg:=@Int.eq_ofNat_of_zero_le
abbrev Si:=@List.foldl_append
abbrev Sj:=@List.drop_append_of_le_length
abbrev Sk:=@List.getElem?_eq_some_iff
abbrev Sn:=@List.map_cons
abbrev Sp:=@List.getElem_mem
abbrev Sq:=@List.mem_append_right
abbrev Sr:=@Bool.not_eq_true'
abbrev Ss:=@List.mem_append_left
abbrev St:=@List.getElem?_take
abbrev Su:=@Nat.eq_zero_or_pos
abbrev Sv:=@Nat.min_eq_left
abbrev Sw:=@List.count_cons
abbrev Sx:=@List.drop_take
abbrev Sy:=@List.take_take
abbrev SA:=@List.range_succ
abbrev SB:=@Bool.false_eq_true
abbrev SC:=@Bool.or_eq_false_iff
abbrev SD:=@Nat.zero_le
abbrev SE:=@List.foldlM_cons
abbrev SF:=@Prod.mk.injEq
abbrev SG:=@List.mem_range
abbrev SH:=@List.getElem?_map
abbrev SI:=@List.append_nil
abbrev SJ:=@List.length_map
abbrev SK:=@List.filter_append
abbrev SL:=@Array.getElem?_push_size
abbrev SM:=@List.drop_zero
abbrev SN:=@List.getElem?_of_mem
abbrev SO:=@List.nodup_append
abbrev SP:=@List.mem_filter
abbrev SQ:=@List.getElem_cons_zero
abbrev SR:=@Int.le_refl
abbrev SS:=@List.take_append
abbrev SU:=@List.drop_drop
abbrev SV:=@List.take_zero
abbrev SW:=@List.getD_eq_getElem?_getD
abbrev SX:=@List.take_append_drop
abbrev SY:=@Array.getElem?_modify
abbrev SZ:=@List.mem_of_find?_eq_some
abbrev S0:=@List.nodup_cons
abbrev S1:=@Array.toArray_toList
abbrev S2:=@List.size_toArray
abbrev S3:=@List.flatMap_cons
abbrev S4:=@Array.length_toList
abbrev S5:=@List.ext_getElem
abbrev S6:=@List.drop_append
abbrev S7:=@List.prefix_refl
abbrev S8:=@Option.none_or
abbrev S9:=@Nat.succ_le_succ
abbrev Te:=@List.mem_filterMap
abbrev Tf:=@Array.getElem?_eq_none
abbrev Ti:=@List.getElem?_drop
abbrev Tj:=@List.map_append
abbrev Tl:=@Bool.true_and
abbrev Tm:=@List.findSome?_append
abbrev To:=@List.take_add_one
abbrev Tq:=@Bool.eq_false_iff
abbrev Ts:=@Nat.add_mul
abbrev Tt:=@Nat.mul_le_mul
abbrev Tu:=@List.count_cons_self
abbrev Tv:=@Nat.zero_mul
abbrev Tw:=@Nat.sub_self
abbrev Tx:=@List.not_mem_nil
abbrev Ty:=@List.getElem?_append_left
abbrev Tz:=@List.mem_or_eq_of_mem_set
abbrev TA:=@Array.toList_filter
abbrev TB:=@List.mem_map_of_mem
abbrev TC:=@List.getElem_append_left
abbrev TD:=@List.Nodup.idxOf_getElem
abbrev TE:=@List.length_nil
abbrev TF:=@List.zip_cons_cons
abbrev TG:=@Nat.one_pos
abbrev TH:=@Array.getElem?_setIfInBounds_self
abbrev TI:=@List.set_eq_take_append_cons_drop
abbrev TJ:=@List.take_left
abbrev TK:=@List.nodup_nil
abbrev TL:=@List.getElem_drop
abbrev TM:=@Array.toList_push
abbrev TN:=@List.ext_getElem?
abbrev TP:=@List.filter_congr
abbrev TQ:=@List.find?_append
abbrev TR:=@Nat.mul_succ
abbrev TS:=@Array.getElem?_append
abbrev TU:=@List.getElem?_toArray
abbrev TV:=@List.length_filter_le
abbrev TW:=@Bool.and_eq_false_iff
abbrev TX:=@List.cons_append
abbrev TY:=@List.filter_cons
abbrev TZ:=@List.zipIdx_cons
abbrev T0:=@List.mem_flatMap
abbrev T1:=@List.any_eq_true
abbrev T2:=@List.erase_cons_head
abbrev T3:=@List.take_set_of_le
abbrev T4:=@Nat.add_le_add_left
abbrev T5:=@List.idxOf_lt_length_of_mem
abbrev T6:=@Array.foldl_toList
abbrev T7:=@Array.toList_setIfInBounds
abbrev T8:=@List.foldlM_append
abbrev T9:=@Array.getElem?_append_left
abbrev Uc:=@List.mem_mergeSort
abbrev Ud:=@List.getElem?_append_right
abbrev Ue:=@List.pairwise_cons
abbrev Uf:=@Int.lt_tmod_of_pos
abbrev Ug:=@Int.tmod_lt_of_pos
abbrev Uh:=@Array.mapM_eq_mapM_toList
abbrev Ui:=@List.getElem_append_right
abbrev Uj:=@Function.comp_def
abbrev Uk:=@Nat.one_mul
abbrev Ul:=@Option.isSome_map
abbrev Um:=@Option.isSome_iff_exists
abbrev Uo:=@Nat.le_add_right
abbrev Uq:=@Nat.add_sub_cancel_left
abbrev Ur:=@Option.getD_some
abbrev Us:=@Nat.not_lt
abbrev Ut:=@List.getElem_replicate
abbrev Uu:=@List.range_succ_eq_map
abbrev Uv:=@List.cons.injEq
abbrev Uw:=@List.find?_some
abbrev Ux:=@Nat.not_lt_zero
abbrev Uy:=@List.mapM_cons
abbrev Uz:=@Bool.and_assoc
abbrev UA:=@Bool.false_and
abbrev UB:=@Bool.false_or
end Go
open Go.Proofs
namespace Go.Lft
abbrev Heap:=Array Obj
abbrev View:=Nat->Option Obj
def vw(h:Heap):View:=λb=>h[b]?
def View.le(H K:View):Prop:=∀b o,H b=UK o->K b=UK o
def an(h:View)(a:Addr):Option Value:=
 match h a.block with
 | some (.cells c _ _)=>if a.spot.isSome then UL else c[a.off]?
 | _=>UL
def ee(h:View)(a:Addr)(i:Nat):Nat->Array Value->Option (Array Value)
 | 0,acc=>UK acc
 | n+1,acc=>match an h (a.add i)with
  | some v=>ee h a (i+1) n (acc.push v)
  | none=>UL
def mapH(h:View)(r:Nat):Option (Array MapEntry × Nat):=
 match h r with
 | some (.map es c)=>UK (es,c)
 | _=>UL
inductive Un where
 | not
 | neg (k:IntKind)
 | len
 | lenStr
 | lenMap
 | load
 | bM (n:Nat)
 | fld (off:Nat)
 | part (off:Nat)
 | parts (off n:Nat)
 | conv (k:IntKind)
 | ext (i:Nat)
 | nilPtr
 | fn (f:FuncId)
 | build (zero:Array Value) (places:List (Nat × Nat))
 deriving Inhabited
inductive Bn where
 | arith (op:BinOp)
 | cmp (op:BinOp)
 | div (op:BinOp)
 | bits (op:BinOp)
 | eqB (neg:Bool)
 | eqS (neg:Bool)
 | cat
 | idx (sz:Nat)
 | aidx (n sz:Nat)
 | idxA (n sz:Nat) (agg:Bool)
 | idxS
 | min
 | max
 | lo (sz:Nat)
 | hi
 | loS
 | hiS
 deriving Inhabited
inductive E where
 | tmp (t:Nat)
 | con (v:Value)
 | un (o:Un) (x:E)
 | bin (o:Bn) (x y:E)
 | snoc (x y:E)
 | ite (c x y:E)
 | gd (c:E) (b:Bool) (x:E)
 deriving Inhabited
def vB:Value->Option Bool | .bool b=>UK b | _=>UL
def vI:Value->Option (IntKind × Int) | .int k n=>UK (k,n) | _=>UL
def vS:Value->Option ByteArray | .string s=>UK s | _=>UL
def vP:Value->Option Addr | UN (UK a)=>UK a | _=>UL
def vL:Value->Option (Option Addr × Nat × Nat) | .slice a n c=>UK (a,n,c) | _=>UL
def vA:Value->Option (Array Value) | .agg cs=>UK cs | _=>UL
def vT:Value->Option (Array Value) | .tuple cs=>UK cs | _=>UL
def vM:Value->Option (Option Nat) | .map r=>UK r | _=>UL
def Un.ev(h:View)(o:Un)(v:Value):Option Value:=
 match o with
 | .not=>(vB v).map λb=>.bool (!b)
 | .neg k=>(vI v).bind λp=>if p.1=k then UK (.int k (k.wrap (0-p.2))) else UL
 | .len=>(vL v).map λp=>UH UI p.2.1
 | .lenStr=>(vS v).map λs=>UH UI s.size
 | .lenMap=>(vM v).bind fun
  | none=>UK (UH UI (0:Int))
  | some r=>(mapH h r).map λp=>UH UI p.1.size
 | .load=>(vP v).bind λa=>an h a
 | .bM n=>(vP v).bind λa=>(ee h a 0 n #[]).map .agg
 | .fld off=>(vP v).map λa=>UN (UK (a.add off))
 | .part off=>(vA v).bind λcs=>cs[off]?
 | .parts off n=>(vA v).map λcs=>.agg (cs.extract off (off+n))
 | .conv k=>(vI v).map λp=>.int k (k.wrap p.2)
 | .ext i=>(vT v).bind λvs=>vs[i]?
 | .nilPtr=>(vP v).map λa=>UN (UK a)
 | .fn f=>(vT v).map λvs=>.func (.func f) #[] vs
 | .build zero places=>(vT v).bind λvs=>(Instr.fill (places[·]?) zero ((List.range vs.size).zip vs.toList)).map .agg
def cmpI:BinOp->Int->Int->Option Bool
 | .eql,x,y=>UK (x == y)
 | .neq,x,y=>UK (x != y)
 | .lss,x,y=>UK (x<y)
 | .leq,x,y=>UK (x<=y)
 | .gtr,x,y=>UK (x>y)
 | .geq,x,y=>UK (x>=y)
 | _,_,_=>UL
def zl(k:IntKind):BinOp->Int->Int->Option Int
 | .add,x,y=>UK (k.wrap (x+y))
 | .sub,x,y=>UK (k.wrap (x-y))
 | .mul,x,y=>UK (k.wrap (x*y))
 | _,_,_=>UL
def divI(k:IntKind):BinOp->Int->Int->Option Int
 | .quo,x,y=>if y=0 then UL else UK (k.wrap (x.tdiv y))
 | .rem,x,y=>if y=0 then UL else UK (x.tmod y)
 | _,_,_=>UL
def NP(k:IntKind):BinOp->Int->Int->Option Int
 | .and,x,y=>UK (k.wrap ((BitVec.ofInt k.bits x&&& BitVec.ofInt k.bits y).toNat))
 | .or,x,y=>UK (k.wrap ((BitVec.ofInt k.bits x||| BitVec.ofInt k.bits y).toNat))
 | .xor,x,y=>UK (k.wrap ((BitVec.ofInt k.bits x ^^^ BitVec.ofInt k.bits y).toNat))
 | .andNot,x,y=>UK (k.wrap ((BitVec.ofInt k.bits x&&& ~~~BitVec.ofInt k.bits y).toNat))
 | _,_,_=>UL
def i2(v u:Value)(f:IntKind->Int->Int->Option Value):Option Value:=
 (vI v).bind λp=>(vI u).bind λq=>if p.1=q.1 then f p.1 p.2 q.2 else UL
def Bn.ev(o:Bn)(v u:Value):Option Value:=
 match o with
 | .arith op=>i2 v u λk a b=>(zl k op a b).map (.int k)
 | .div op=>i2 v u λk a b=>(divI k op a b).map (.int k)
 | .bits op=>i2 v u λk a b=>(NP k op a b).map (.int k)
 | .cmp op=>i2 v u λ_ a b=>(cmpI op a b).map .bool
 | .min=>i2 v u λk a b=>UK (.int k (if b<a then b else a))
 | .max=>i2 v u λk a b=>UK (.int k (if a<b then b else a))
 | .eqB neg=>(vB v).bind λa=>(vB u).map λb=>.bool ((a == b) != neg)
 | .eqS neg=>(vS v).bind λa=>(vS u).map λb=>.bool ((a.toList == b.toList) != neg)
 | .cat=>(vS v).bind λa=>(vS u).bind λb=>if a.size+b.size<=9223372036854775807 then UK (.string (a++b)) else UL
 | .idx sz=>(vL v).bind λp=>(vI u).bind λq=>p.1.bind λa=>if 0<=q.2/\q.2<p.2.1 then UK (UN (UK (a.add (q.2.toNat*sz)))) else UL
 | .aidx n sz=>(vP v).bind λa=>(vI u).bind λq=>if 0<=q.2/\q.2<n then UK (UN (UK (a.add (q.2.toNat*sz)))) else UL
 | .idxA n sz agg=>(vA v).bind λcs=>(vI u).bind λq=>if 0<=q.2/\q.2<n then(if agg then UK (.agg (cs.extract (q.2.toNat*sz) (q.2.toNat*sz+sz))) else cs[q.2.toNat*sz]?) else UL
 | .idxS=>(vS v).bind λs=>(vI u).bind λq=>if 0<=q.2 then(s[q.2.toNat]?).map λb=>.int .u8 b.toNat else UL
 | .hi=>(vL v).bind λp=>(vI u).bind λq=>if 0<=q.2/\q.2<=p.2.2 then UK (.slice p.1 q.2.toNat p.2.2) else UL
 | .lo sz=>(vL v).bind λp=>(vI u).bind λq=>if 0<=q.2/\q.2<=p.2.1 then UK (.slice (if p.2.2=q.2.toNat then p.1 else p.1.map (·.add (q.2.toNat*sz))) (p.2.1-q.2.toNat) (p.2.2-q.2.toNat)) else UL
 | .hiS=>(vS v).bind λs=>(vI u).bind λq=>if 0<=q.2/\q.2<=s.size then UK (.string (s.extract 0 q.2.toNat)) else UL
 | .loS=>(vS v).bind λs=>(vI u).bind λq=>if 0<=q.2/\q.2<=s.size then UK (.string (s.extract q.2.toNat s.size)) else UL
def ev(ρ:Nat->Option Value)(h:View):E->Option Value
 | .tmp t=>ρ t
 | .con v=>UK v
 | .un o x=>match ev ρ h x with
  | some v=>o.ev h v
  | none=>UL
 | .bin o x y=>match ev ρ h x,ev ρ h y with
  | some v,UK u=>o.ev v u
  | _,_=>UL
 | .snoc x y=>match ev ρ h x,ev ρ h y with
  | some (.tuple vs),UK u=>UK (.tuple (vs.push u))
  | _,_=>UL
 | .ite c x y=>match ev ρ h c with
  | some (.bool UO)=>ev ρ h x
  | some (.bool UP)=>ev ρ h y
  | _=>UL
 | .gd c b x=>match ev ρ h c with
  | some (.bool UO)=>if b then ev ρ h x else UK undef
  | some (.bool UP)=>if b then UK undef else ev ρ h x
  | some _=>UK undef
  | none=>UL
def Un.reads:Un->Bool
 | .load | .bM _ | .lenMap=>UO
 | _=>UP
def E.reads:E->Bool
 | .tmp _ | .con _=>UP
 | .un o x=>o.reads||x.reads
 | .bin _ x y | .snoc x y=>x.reads||y.reads
 | .ite c x y=>c.reads||x.reads||y.reads
 | .gd c _ x=>c.reads||x.reads
theorem Un.iL{o:Un}(ho:o.reads=UP)(h h':View)(v:Value):o.ev h v=o.ev h' v:=by cases o<;>simp[Un.reads]at ho<;>rfl
theorem iL{ρ:Nat->Option Value}{h h':View} : ∀{e:E},e.reads=UP->ev ρ h e=ev ρ h' e
 | .tmp _,_=>rfl
 | .con _,_=>rfl
 | .un o x,hr=>by
  simp only[E.reads,SC]at hr;simp only[ev,iL (h:=h) (h':=h') hr.2];split
  ·exact Un.iL hr.1 _ _ _
  rfl
 | .bin o x y,hr=>by simp only[E.reads,SC]at hr;simp only[ev,iL (h:=h) (h':=h') hr.1,iL (h:=h) (h':=h') hr.2]
 | .snoc x y,hr=>by simp only[E.reads,SC]at hr;simp only[ev,iL (h:=h) (h':=h') hr.1,iL (h:=h) (h':=h') hr.2]
 | .ite c x y,hr=>by simp only[E.reads,SC]at hr;simp only[ev,iL (h:=h) (h':=h') hr.1.1,iL (h:=h) (h':=h') hr.1.2,iL (h:=h) (h':=h') hr.2]
 | .gd c b x,hr=>by simp only[E.reads,SC]at hr;simp only[ev,iL (h:=h) (h':=h') hr.1,iL (h:=h) (h':=h') hr.2]
theorem View.le_refl(H:View):H.le H:=λ_ _ h=>h
variable{H K:View}
theorem View.le_trans{L:View}(h:H.le K)(k:K.le L):H.le L:=λb o e=>k b o (h b o e)
theorem ae(hk:H.le K){a:Addr}{v:Value}(h:an H a=UK v):an K a=UK v:=by
 unfold an at *;cases hb:H a.block with
 | none=>simp[hb]at h
 | some o=>simp only[hb]at h;simp only[hk _ _ hb];exact h
theorem qM{H K:View}(hk:H.le K){a:Addr} : ∀{n i:Nat} {acc cs:Array Value},ee H a i n acc=UK cs->ee K a i n acc=UK cs
 | 0,_,_,_,h=>h
 | n+1,i,acc,cs,h=>by
  simp only[ee]at *;cases hc:an H (a.add i)with
  | none=>simp[hc]at h
  | some v=>simp only[hc]at h;simp only[ae hk hc];exact qM hk h
theorem Ip(hk:H.le K){r:Nat}{p:Array MapEntry × Nat}(h:mapH H r=UK p):mapH K r=UK p:=by
 unfold mapH at *;cases hb:H r with
 | none=>simp[hb]at h
 | some o=>simp only[hb]at h;simp only[hk _ _ hb];exact h
theorem Un.ed(hk:H.le K){o:Un}{v u:Value}(h:o.ev H v=UK u):o.ev K v=UK u:=by
 cases o<;>first | exact h | skip
 case load=>simp only[Un.ev,Ro]at *;obtain⟨a,ha,hc⟩:=h;exact⟨a,ha,ae hk hc⟩
 case bM n=>simp only[Un.ev,Ro,Q6]at *;obtain⟨a,ha,cs,hc,he⟩:=h;exact⟨a,ha,cs,qM hk hc,he⟩
 case lenMap=>
  simp only[Un.ev,Ro]at *;obtain⟨r,hr,h⟩:=h;refine⟨r,hr,?_⟩;cases r with
  | none=>exact h
  | some r=>simp only[Q6]at *;obtain⟨p,hp,he⟩:=h;exact⟨p,Ip hk hp,he⟩
theorem ed{ρ:Nat->Option Value}{H K:View}(hk:H.le K) : ∀{e:E} {v:Value},ev ρ H e=UK v->ev ρ K e=UK v
 | .tmp _,_,h=>h
 | .con _,_,h=>h
 | .un o x,v,h=>by
  simp only[ev]at *;split at h
  ·rename_i u hu;simp only[ed hk hu];exact Un.ed hk h
  cases h
 | .bin o x y,v,h=>by
  simp only[ev]at *;split at h
  ·rename_i u u' hu hu';simp only[ed hk hu,ed hk hu'];exact h
  cases h
 | .snoc x y,v,h=>by
  simp only[ev]at *;split at h
  ·rename_i u u' hu hu';simp only[ed hk hu,ed hk hu'];exact h
  cases h
 | .ite c x y,v,h=>by
  simp only[ev]at *;split at h
  ·rename_i hu;simp only[ed hk hu];exact ed hk h
  ·rename_i hu;simp only[ed hk hu];exact ed hk h
  cases h
 | .gd c b x,v,h=>by
  simp only[ev]at *;split at h
  ·rename_i hu;simp only[ed hk hu];split at h
   ·rename_i hb;simp only[hb,if_true];exact ed hk h
   rename_i hb;simp only[hb];exact h
  ·rename_i hu;simp only[ed hk hu];split at h
   ·rename_i hb;simp only[hb,if_true];exact h
   rename_i hb;simp only[hb];exact ed hk h
  ·rename_i u h1 h2 hu;simp only[ed hk hu];exact h
  cases h
def View.sub(H K:View):Prop:=∀b o,H b=UK o->∃o',K b=UK o'/\(o'=o\/∃c c' t fz,o = .cells c t fz/\o' = .cells c' t fz/\∃r:List Value,c'.toList=c.toList++r)
theorem View.yC(h:H.le K):H.sub K:=λb o hb=>⟨o,h b o hb,.inl rfl⟩
theorem Ba(hk:H.sub K){a:Addr}{v:Value}(h:an H a=UK v):an K a=UK v:=by
 unfold an at *;cases hb:H a.block with
 | none=>simp[hb]at h
 | some o=>
  simp only[hb]at h;obtain⟨o',h1,h2⟩:=hk _ _ hb;simp only[h1];rcases h2 with rfl | ⟨c,c',t,fz,rfl,rfl,r,hr⟩
  ·exact h
  simp only at h ⊢;split at h
  ·cases h
  rename_i hs;rw[if_neg hs];rw[<-Array.getElem?_toList]at h ⊢;rw[hr,Ty (by
   rcases Ri a.off c.toList.length with hl | hl
   ·exact hl
   rw[RP hl]at h;cases h)];exact h
theorem qT{H K:View}(hk:H.sub K){a:Addr} : ∀{n i:Nat} {acc cs:Array Value},ee H a i n acc=UK cs->ee K a i n acc=UK cs
 | 0,_,_,_,h=>h
 | n+1,i,acc,cs,h=>by
  simp only[ee]at *;cases hc:an H (a.add i)with
  | none=>simp[hc]at h
  | some v=>simp only[hc]at h;simp only[Ba hk hc];exact qT hk h
theorem Lg(hk:H.sub K){r:Nat}{p:Array MapEntry × Nat}(h:mapH H r=UK p):mapH K r=UK p:=by
 unfold mapH at *;cases hb:H r with
 | none=>simp[hb]at h
 | some o=>
  simp only[hb]at h;obtain⟨o',h1,h2⟩:=hk _ _ hb;simp only[h1];rcases h2 with rfl | ⟨c,c',t,fz,rfl,rfl,r,hr⟩
  ·exact h
  cases h
theorem Un.gI(hk:H.sub K){o:Un}{v u:Value}(h:o.ev H v=UK u):o.ev K v=UK u:=by
 cases o<;>first | exact h | skip
 case load=>simp only[Un.ev,Ro]at *;obtain⟨a,ha,hc⟩:=h;exact⟨a,ha,Ba hk hc⟩
 case bM n=>simp only[Un.ev,Ro,Q6]at *;obtain⟨a,ha,cs,hc,he⟩:=h;exact⟨a,ha,cs,qT hk hc,he⟩
 case lenMap=>
  simp only[Un.ev,Ro]at *;obtain⟨r,hr,h⟩:=h;refine⟨r,hr,?_⟩;cases r with
  | none=>exact h
  | some r=>simp only[Q6]at *;obtain⟨p,hp,he⟩:=h;exact⟨p,Lg hk hp,he⟩
theorem gI{ρ:Nat->Option Value}{H K:View}(hk:H.sub K) : ∀{e:E} {v:Value},ev ρ H e=UK v->ev ρ K e=UK v
 | .tmp _,_,h=>h
 | .con _,_,h=>h
 | .un o x,v,h=>by
  simp only[ev]at *;split at h
  ·rename_i u hu;simp only[gI hk hu];exact Un.gI hk h
  cases h
 | .bin o x y,v,h=>by
  simp only[ev]at *;split at h
  ·rename_i u u' hu hu';simp only[gI hk hu,gI hk hu'];exact h
  cases h
 | .snoc x y,v,h=>by
  simp only[ev]at *;split at h
  ·rename_i u u' hu hu';simp only[gI hk hu,gI hk hu'];exact h
  cases h
 | .ite c x y,v,h=>by
  simp only[ev]at *;split at h
  ·rename_i hu;simp only[gI hk hu];exact gI hk h
  ·rename_i hu;simp only[gI hk hu];exact gI hk h
  cases h
 | .gd c b x,v,h=>by
  simp only[ev]at *;split at h
  ·rename_i hu;simp only[gI hk hu];split at h
   ·rename_i hb;simp only[hb,if_true];exact gI hk h
   rename_i hb;simp only[hb];exact h
  ·rename_i hu;simp only[gI hk hu];split at h
   ·rename_i hb;simp only[hb,if_true];exact h
   rename_i hb;simp only[hb];exact gI hk h
  ·rename_i u h1 h2 hu;simp only[gI hk hu];exact h
  cases h
def opnd:Operand->E
 | .tmp t=>.tmp t
 | .const v=>.con v
 | .global g=>.con (UN (UK ⟨g,0,UL⟩))
 | .func f=>.con (.func (.func f) #[] #[])
def nO(P:Program)(t:TypeId):Option Bool:=
 match P.underlying t with
 | some (.struct _) | some (.array _ _)=>UK UO
 | some _=>UK UP
 | none=>UL
def cU(P:Program)(t:TypeId):Option Nat:=(P.info? t).map (·.size)
def zT(P:Program)(t:TypeId)(x:E):Option E:=
 match nO P t,cU P t with
 | some UO,UK n=>UK (.un (.bM n) x)
 | some UP,UK _=>UK (.un .load x)
 | _,_=>UL
def opE(P:Program):Op->Option E
 | .move x | .assign x=>UK (opnd x)
 | .pick c a b=>UK (.ite (opnd c) (opnd a) (opnd b))
 | .unOp .not _ x=>UK (.un .not (opnd x))
 | .binOp op t x y _=>
  match P.underlying t,op with
  | some (.int _),.add | some (.int _),.sub | some (.int _),.mul=>UK (.bin (.arith op) (opnd x) (opnd y))
  | some (.int _),.quo | some (.int _),.rem=>UK (.bin (.div op) (opnd x) (opnd y))
  | some (.int _),.and | some (.int _),.or | some (.int _),.xor | some (.int _),.andNot=>UK (.bin (.bits op) (opnd x) (opnd y))
  | some (.int _),.eql | some (.int _),.neq | some (.int _),.lss | some (.int _),.leq | some (.int _),.gtr | some (.int _),.geq=>UK (.bin (.cmp op) (opnd x) (opnd y))
  | some .bool,.eql=>UK (.bin (.eqB UP) (opnd x) (opnd y))
  | some .bool,.neq=>UK (.bin (.eqB UO) (opnd x) (opnd y))
  | some .string,.add=>UK (.bin .cat (opnd x) (opnd y))
  | some .string,.eql=>UK (.bin (.eqS UP) (opnd x) (opnd y))
  | some .string,.neq=>UK (.bin (.eqS UO) (opnd x) (opnd y))
  | _,_=>UL
 | .load t a=>zT P t (opnd a)
 | .nilCheck x=>UK (.un .nilPtr (opnd x))
 | .fieldAddr s x f=>
  match P.underlying s with
  | some (.struct fields)=>match fields[f]? with
   | some g=>match cU P g.type with
    | some (_+1)=>UK (.un (.fld g.offset) (opnd x))
    | _=>UL
   | none=>UL
  | _=>UL
 | .field s x f=>
  match P.underlying s with
  | some (.struct fields)=>match fields[f]? with
   | some g=>match nO P g.type,cU P g.type with
    | some UO,UK n=>UK (.un (.parts g.offset n) (opnd x))
    | some UP,UK _=>UK (.un (.part g.offset) (opnd x))
    | _,_=>UL
   | none=>UL
  | _=>UL
 | .indexAddr t x i=>
  match P.underlying t with
  | some (.slice e)=>(cU P e).map λn=>.bin (.idx n) (opnd x) (opnd i)
  | some (.array k e)=>if k<=1 then UL else(cU P e).map λn=>.bin (.aidx k n) (opnd x) (opnd i)
  | _=>UL
 | .extract x i=>UK (.un (.ext i) (opnd x))
 | .convert s d x=>
  match P.underlying s,P.underlying d with
  | some (.int _),UK (.int k)=>UK (.un (.conv k) (opnd x))
  | _,_=>UL
 | .makeFunc (.func f) first captured=>if first.isEmpty then UK (.un (.fn f) (captured.toList.foldl (λe x=>.snoc e (opnd x)) (.con (.tuple #[])))) else UL
 | .call { callee:=.builtin .len,args,argTypes }=>
  match args.toList,argTypes[0]? with
  | [x],UK t=>match P.underlying t with
   | some (.slice _)=>UK (.un .len (opnd x))
   | some .string=>UK (.un .lenStr (opnd x))
   | some (.map _ _)=>UK (.un .lenMap (opnd x))
   | _=>UL
  | _,_=>UL
 | .call { callee:=.builtin .min,args,.. }=>
  match args.toList with
  | [x,y]=>UK (.bin .min (opnd x) (opnd y))
  | _=>UL
 | .call { callee:=.builtin .max,args,.. }=>
  match args.toList with
  | [x,y]=>UK (.bin .max (opnd x) (opnd y))
  | _=>UL
 | .slice t x lo hi UL=>
  match P.underlying t with
  | some (.slice e)=>match cU P e with
   | some n=>
    let x1:=match hi with | some j=>.bin .hi (opnd x) (opnd j) | none=>opnd x
    match lo with
    | some i=>UK (.bin (.lo n) x1 (opnd i))
    | none=>match hi with | some _=>UK x1 | none=>UL
   | none=>UL
  | _=>UL
 | _=>UL
section
variable{P:Program}{w:World}
theorem pj{t:TypeId}{b:Bool}(h:nO P t=UK b):(isAgg t).run P w = .ok b w:=by
 unfold nO at h;cases hu:P.underlying t with
 | none=>simp[hu]at h
 | some d=>cases d<;>simp[hu]at h<;>subst h<;>simp[isAgg,run_underlying hu]
variable{n:Nat}
theorem run_sizeOf{t:TypeId}(h:cU P t=UK n):(sizeOf t).run P w = .ok n w:=by
 unfold cU at h;cases hu:P.info? t with
 | none=>simp[hu]at h
 | some i=>simp[hu]at h;subst h;simp[sizeOf,typeInfo,hu]
theorem run_loadCellsFrom(a:Addr) : ∀(n i:Nat) (acc cs:Array Value),ee (vw w.heap) a i n acc=UK cs->(loadCellsFrom a i n acc).run P w = .ok cs w
 | 0,i,acc,cs,h=>by simp[ee]at h;subst h;simp[loadCellsFrom]
 | n+1,i,acc,cs,h=>by
  unfold ee at h;cases hc:an (vw w.heap) (a.add i)with
  | none=>simp[hc]at h
  | some v=>simp only[hc]at h;have hc':w.cell? (a.add i)=UK v:=hc;simp[loadCellsFrom,hc',run_loadCellsFrom a n (i+1) (acc.push v) cs h]
theorem run_load{t:TypeId}{x:E}{e:E}{ρ:Nat->Option Value}{v u:Value}(he:zT P t x=UK e)(hx:ev ρ (vw w.heap) x=UK u)(hv:ev ρ (vw w.heap) e=UK v):
  (Instr.loadAt t u).run P w = .ok v w:=by
 unfold zT at he;cases ha:nO P t with
 | none=>simp[ha]at he
 | some b=>
  cases hs:cU P t with
  | none=>cases b<;>simp[ha,hs]at he
  | some n=>
   cases b
   ·simp[ha,hs]at he;subst he;simp only[ev,hx]at hv;cases u<;>simp[Un.ev,vP]at hv;rename_i a;cases a with
    | none=>simp at hv
    | some a=>simp only[RD]at hv;have hc:w.cell? a=UK v:=hv;simp[Instr.loadAt,Instr.sureAddr,loadVar,pj ha,hc]
   simp[ha,hs]at he;subst he;simp only[ev,hx]at hv;cases u<;>simp[Un.ev,vP]at hv;rename_i a;cases a with
   | none=>simp at hv
   | some a=>simp only[RD,Q6]at hv;obtain⟨cs,hcs,rfl⟩:=hv;have:=run_loadCellsFrom (P:=P) (w:=w) a n 0 #[] cs hcs;simp[Instr.loadAt,Instr.sureAddr,loadVar,pj ha,run_sizeOf hs,loadCells,this]
abbrev cz(a:Act):Nat->Option Value:=λt=>a.tmps[t]?
theorem bP{a:Act}{h:View}{x:Operand}{v:Value}(hv:ev (cz a) h (opnd x)=UK v):a.eval x=v:=by
 cases x with
 | tmp t=>simp only[opnd,ev,cz]at hv;simp[Act.eval,hv]
 | const u=>simp only[opnd,ev,Q2]at hv;simp[Act.eval,hv]
 | global g=>simp only[opnd,ev,Q2]at hv;simp[Act.eval,hv]
 | func f=>simp only[opnd,ev,Q2]at hv;simp[Act.eval,hv]
theorem te{v:Value}{p:IntKind × Int}(h:vI v=UK p):v = .int p.1 p.2:=by cases v<;>simp[vI]at h;subst h;rfl
theorem Cr{v:Value}{p:Bool}(h:vB v=UK p):v = .bool p:=by cases v<;>simp[vB]at h;subst h;rfl
theorem vz{v:Value}{p:ByteArray}(h:vS v=UK p):v = .string p:=by cases v<;>simp[vS]at h;subst h;rfl
theorem Ci{v:Value}{p:Addr}(h:vP v=UK p):v = UN (UK p):=by cases v<;>simp[vP]at h;rename_i a;cases a<;>simp at h;subst h;rfl
theorem uQ{v:Value}{p:Option Addr × Nat × Nat}(h:vL v=UK p):v = .slice p.1 p.2.1 p.2.2:=by cases v<;>simp[vL]at h;subst h;rfl
theorem GN{v:Value}{p:Array Value}(h:vA v=UK p):v = .agg p:=by cases v<;>simp[vA]at h;subst h;rfl
theorem Gx{v:Value}{p:Array Value}(h:vT v=UK p):v = .tuple p:=by cases v<;>simp[vT]at h;subst h;rfl
theorem Lo{v:Value}{p:Option Nat}(h:vM v=UK p):v = .map p:=by cases v<;>simp[vM]at h;subst h;rfl
theorem kP{ρ:Nat->Option Value}{h:View}{o:Un}{x:E}{v:Value}(hv:ev ρ h (.un o x)=UK v): ∃u,ev ρ h x=UK u/\o.ev h u=UK v:=by
 simp only[ev]at hv;split at hv
 ·exact⟨_,by assumption,hv⟩
 cases hv
theorem gT{ρ:Nat->Option Value}{h:View}{o:Bn}{x y:E}{v:Value}(hv:ev ρ h (.bin o x y)=UK v): ∃u u',ev ρ h x=UK u/\ev ρ h y=UK u'/\o.ev u u'=UK v:=by
 simp only[ev]at hv;split at hv
 ·exact⟨_,_,by assumption,by assumption,hv⟩
 cases hv
theorem td{v u r:Value}{f:IntKind->Int->Int->Option Value}(h:i2 v u f=UK r): ∃k a b,v = .int k a/\u = .int k b/\f k a b=UK r:=by
 simp only[i2,Ro]at h;obtain⟨p,hp,q,hq,h⟩:=h;split at h
 ·rename_i e;exact⟨p.1,p.2,q.2,te hp,by rw[e];exact te hq,h⟩
 cases h
section binops
variable{o:Oper}{a:Act}{v:Value}{x y:Operand}{t u:TypeId}{op:BinOp}{n:Bool}
theorem HO(ho:o.op = .binOp op t x y u)(hv:ev (cz a) (vw w.heap) (.bin (.cmp op) (opnd x) (opnd y))=UK v):(execOp a.eval o).run P w = .ok (.value v) w:=by obtain⟨p,q,hp,hq,hpq⟩:=gT hv;simp only[Bn.ev]at hpq;obtain⟨k,i,j,rfl,rfl,h⟩:=td hpq;simp only[Q6]at h;obtain⟨b,hb,rfl⟩:=h;have e1:=bP hp;have e2:=bP hq;cases op<;>simp[cmpI]at hb<;>subst hb<;>simp[execOp,ho,eqGuard,e1,e2,binOp,Op.intCmp]
theorem Dz(ho:o.op = .binOp op t x y u)(hv:ev (cz a) (vw w.heap) (.bin (.arith op) (opnd x) (opnd y))=UK v):(execOp a.eval o).run P w = .ok (.value v) w:=by obtain⟨p,q,hp,hq,hpq⟩:=gT hv;simp only[Bn.ev]at hpq;obtain⟨k,i,j,rfl,rfl,h⟩:=td hpq;simp only[Q6]at h;obtain⟨b,hb,rfl⟩:=h;have e1:=bP hp;have e2:=bP hq;cases op<;>simp[zl]at hb<;>subst hb<;>simp[execOp,ho,eqGuard,e1,e2,binOp,Op.intArith]
theorem Ic(ho:o.op = .binOp op t x y u)(hv:ev (cz a) (vw w.heap) (.bin (.div op) (opnd x) (opnd y))=UK v):(execOp a.eval o).run P w = .ok (.value v) w:=by obtain⟨p,q,hp,hq,hpq⟩:=gT hv;simp only[Bn.ev]at hpq;obtain⟨k,i,j,rfl,rfl,h⟩:=td hpq;simp only[Q6]at h;obtain⟨b,hb,rfl⟩:=h;have e1:=bP hp;have e2:=bP hq;cases op<;>simp[divI]at hb<;>obtain⟨hz,rfl⟩:=hb<;>simp[execOp,ho,eqGuard,e1,e2,binOp,Op.intDiv,hz]
theorem Fh(ho:o.op = .binOp op t x y u)(hv:ev (cz a) (vw w.heap) (.bin (.bits op) (opnd x) (opnd y))=UK v):(execOp a.eval o).run P w = .ok (.value v) w:=by obtain⟨p,q,hp,hq,hpq⟩:=gT hv;simp only[Bn.ev]at hpq;obtain⟨k,i,j,rfl,rfl,h⟩:=td hpq;simp only[Q6]at h;obtain⟨b,hb,rfl⟩:=h;have e1:=bP hp;have e2:=bP hq;cases op<;>simp only[NP,Q2,reduceCtorEq]at hb<;>subst hb<;>simp[execOp,ho,eqGuard,e1,e2,binOp,Op.intBits]
theorem run_equal_bool(hu:P.underlying t=UK .bool)(i j:Bool):(Op.equal t (.bool i) (.bool j)).run P w = .ok (i == j) w:=by
 have key : ∀d,(Op.equalIn (d+1) t (.bool i) (.bool j)).run P w = .ok (i == j) w:=λd=>by simp only[Op.equalIn];simp[run_underlying hu]
 exact key 9999
theorem BD(hu:P.underlying t=UK .bool)(hop:op=if n then .neq else .eql)(ho:o.op = .binOp op t x y u)(hv:ev (cz a) (vw w.heap) (.bin (.eqB n) (opnd x) (opnd y))=UK v):(execOp a.eval o).run P w = .ok (.value v) w:=by obtain⟨p,q,hp,hq,hpq⟩:=gT hv;simp only[Bn.ev,Ro,Q6]at hpq;obtain⟨i,hi,j,hj,rfl⟩:=hpq;obtain rfl:=Cr hi;obtain rfl:=Cr hj;have e1:=bP hp;have e2:=bP hq;have e3:=run_equal_bool (w:=w) hu i j;cases n<;>simp at hop<;>subst hop<;>simp[execOp,ho,eqGuard,e1,e2,binOp,e3]
theorem Aq(hop:op=if n then .neq else .eql)(hu:P.underlying t=UK .string)(ho:o.op = .binOp op t x y u)(hv:ev (cz a) (vw w.heap) (.bin (.eqS n) (opnd x) (opnd y))=UK v):(execOp a.eval o).run P w = .ok (.value v) w:=by obtain⟨p,q,hp,hq,hpq⟩:=gT hv;simp only[Bn.ev,Ro,Q6]at hpq;obtain⟨i,hi,j,hj,rfl⟩:=hpq;obtain rfl:=vz hi;obtain rfl:=vz hj;have e1:=bP hp;have e2:=bP hq;cases n<;>simp at hop<;>subst hop<;>simp[execOp,ho,eqGuard,e1,e2,binOp,Op.stringOp]
theorem HQ(ho:o.op = .binOp .add t x y u)(hv:ev (cz a) (vw w.heap) (.bin .cat (opnd x) (opnd y))=UK v):(execOp a.eval o).run P w = .ok (.value v) w:=by
 obtain⟨p,q,hp,hq,hpq⟩:=gT hv;simp only[Bn.ev,Ro]at hpq;obtain⟨i,hi,j,hj,h⟩:=hpq;obtain rfl:=vz hi;obtain rfl:=vz hj;split at h
 ·rename_i hs;cases h;have e1:=bP hp;have e2:=bP hq;have:((i.size:Int)+j.size)<=9223372036854775807:=by omega
  simp[execOp,ho,eqGuard,e1,e2,binOp,Op.stringOp,IntKind.max,IntKind.signed,IntKind.bits];exact this
 cases h
end binops
end
section
variable{P:Program}{w:World}{o:Oper}{a:Act}{v:Value}
theorem FT{x:Operand}(ho:o.op = .move x)(hv:ev (cz a) (vw w.heap) (opnd x)=UK v):(execOp a.eval o).run P w = .ok (.value v) w:=by simp[execOp,ho,bP hv]
theorem CD{x:Operand}(ho:o.op = .assign x)(hv:ev (cz a) (vw w.heap) (opnd x)=UK v):(execOp a.eval o).run P w = .ok (.value v) w:=by simp[execOp,ho,bP hv]
theorem Gb{c x y:Operand}(ho:o.op = .pick c x y)(hv:ev (cz a) (vw w.heap) (.ite (opnd c) (opnd x) (opnd y))=UK v):(execOp a.eval o).run P w = .ok (.value v) w:=by
 simp only[ev]at hv;split at hv
 ·rename_i hc;simp[execOp,ho,bP hc,asBool,bP hv]
 ·rename_i hc;simp[execOp,ho,bP hc,asBool,bP hv]
 cases hv
theorem Hq{t:TypeId}{x:Operand}(ho:o.op = .unOp .not t x)(hv:ev (cz a) (vw w.heap) (.un .not (opnd x))=UK v):(execOp a.eval o).run P w = .ok (.value v) w:=by obtain⟨u,hu,h⟩:=kP hv;simp only[Un.ev,Q6]at h;obtain⟨b,hb,rfl⟩:=h;obtain rfl:=Cr hb;simp[execOp,ho,bP hu,Op.unary]
theorem H2{x:Operand}(ho:o.op = .nilCheck x)(hv:ev (cz a) (vw w.heap) (.un .nilPtr (opnd x))=UK v):(execOp a.eval o).run P w = .ok (.value v) w:=by obtain⟨u,hu,h⟩:=kP hv;simp only[Un.ev,Q6]at h;obtain⟨b,hb,rfl⟩:=h;obtain rfl:=Ci hb;simp[execOp,ho,bP hu]
theorem HX{x:Operand}{i:Nat}(ho:o.op = .extract x i)(hv:ev (cz a) (vw w.heap) (.un (.ext i) (opnd x))=UK v):(execOp a.eval o).run P w = .ok (.value v) w:=by obtain⟨u,hu,h⟩:=kP hv;simp only[Un.ev,Ro]at h;obtain⟨b,hb,h⟩:=h;obtain rfl:=Gx hb;simp[execOp,ho,bP hu,Instr.extract,h]
theorem Fk{s d:TypeId}{x:Operand}{k k':IntKind}(hs:P.underlying s=UK (.int k'))(hd:P.underlying d=UK (.int k))(ho:o.op = .convert s d x)(hv:ev (cz a) (vw w.heap) (.un (.conv k) (opnd x))=UK v):(execOp a.eval o).run P w = .ok (.value v) w:=by obtain⟨u,hu,h⟩:=kP hv;simp only[Un.ev,Q6]at h;obtain⟨b,hb,rfl⟩:=h;obtain h1:=te hb;subst h1;simp[execOp,ho,bP hu,convert,run_underlying hs,run_underlying hd,Conv.intToInt]
variable{n:Nat}{fields:Array Field}
theorem ya{s:TypeId}{x:Operand}{f:Nat}{g:Field}(hs:P.underlying s=UK (.struct fields))(hf:fields[f]? = UK g)(hz:cU P g.type=UK (n+1))(ho:o.op = .fieldAddr s x f)(hv:ev (cz a) (vw w.heap) (.un (.fld g.offset) (opnd x))=UK v):(execOp a.eval o).run P w = .ok (.value v) w:=by obtain⟨u,hu,h⟩:=kP hv;simp only[Un.ev,Q6]at h;obtain⟨b,hb,rfl⟩:=h;obtain rfl:=Ci hb;simp[execOp,ho,bP hu,Instr.fieldAt,run_underlying hs,hf,Instr.sureAddr,fieldPlace,run_sizeOf hz]
theorem F7{s:TypeId}{x:Operand}{f:Nat}{g:Field}(hs:P.underlying s=UK (.struct fields))(hf:fields[f]? = UK g)(ha:nO P g.type=UK UP)(_hz:cU P g.type=UK n)(ho:o.op = .field s x f)(hv:ev (cz a) (vw w.heap) (.un (.part g.offset) (opnd x))=UK v):(execOp a.eval o).run P w = .ok (.value v) w:=by obtain⟨u,hu,h⟩:=kP hv;simp only[Un.ev,Ro]at h;obtain⟨b,hb,h⟩:=h;obtain rfl:=GN hb;simp[execOp,ho,bP hu,Instr.field,run_underlying hs,hf,asAgg,part,pj ha,h]
theorem Em{s:TypeId}{x:Operand}{f:Nat}{g:Field}(hs:P.underlying s=UK (.struct fields))(hf:fields[f]? = UK g)(ha:nO P g.type=UK UO)(hz:cU P g.type=UK n)(ho:o.op = .field s x f)(hv:ev (cz a) (vw w.heap) (.un (.parts g.offset n) (opnd x))=UK v):(execOp a.eval o).run P w = .ok (.value v) w:=by obtain⟨u,hu,h⟩:=kP hv;simp only[Un.ev,Q6]at h;obtain⟨b,hb,rfl⟩:=h;obtain rfl:=GN hb;simp[execOp,ho,bP hu,Instr.field,run_underlying hs,hf,asAgg,part,pj ha,run_sizeOf hz]
theorem Ia{t e:TypeId}{x i:Operand}(ht:P.underlying t=UK (.slice e))(hz:cU P e=UK n)(ho:o.op = .indexAddr t x i)(hv:ev (cz a) (vw w.heap) (.bin (.idx n) (opnd x) (opnd i))=UK v):(execOp a.eval o).run P w = .ok (.value v) w:=by
 obtain⟨p,q,hp,hq,h⟩:=gT hv;simp only[Bn.ev,Ro]at h;obtain⟨l,hl,k,hk,d,hd,h⟩:=h;obtain rfl:=uQ hl;have hk':=te hk;split at h
 ·rename_i hb;simp only[Q2]at h;subst h;have e1:=bP hp;have e2:=bP hq;rw[hk']at e2;simp[execOp,ho,e1,e2,Instr.indexAt,asIntOf,run_underlying ht,hd,hb.1,hb.2,run_sizeOf hz]
 cases h
theorem Fl{t e:TypeId}{x i:Operand}{m:Nat}(ht:P.underlying t=UK (.array m e))(hz:cU P e=UK n)(ho:o.op = .indexAddr t x i)(hv:ev (cz a) (vw w.heap) (.bin (.aidx m n) (opnd x) (opnd i))=UK v):(execOp a.eval o).run P w = .ok (.value v) w:=by
 obtain⟨p,q,hp,hq,h⟩:=gT hv;simp only[Bn.ev,Ro]at h;obtain⟨l,hl,k,hk,h⟩:=h;obtain rfl:=Ci hl;have hk':=te hk;split at h
 ·rename_i hb;simp only[Q2]at h;subst h;have e1:=bP hp;have e2:=bP hq;rw[hk']at e2;simp[execOp,ho,e1,e2,Instr.indexAt,asIntOf,run_underlying ht,Instr.sureAddr,hb.1,hb.2,run_sizeOf hz]
 cases h
theorem HN{T:Array TypeId}{t e:TypeId}{x:Operand}{A:Array Operand}(hT:T[0]? = UK t)(hA:A.toList=[x])(ht:P.underlying t=UK (.slice e))(ho:o.op = .call { callee:=.builtin .len,args:=A,argTypes:=T })(hv:ev (cz a) (vw w.heap) (.un .len (opnd x))=UK v):(execOp a.eval o).run P w = .ok (.value v) w:=by
 obtain⟨u,hu,h⟩:=kP hv;simp only[Un.ev,Q6]at h;obtain⟨l,hl,rfl⟩:=h;obtain rfl:=uQ hl;have hA':A = #[x]:=by rw[<-Array.toArray_toList (xs:=A),hA]
 subst hA';simp[execOp,ho,resolve,invoke,builtin,Builtin.len_,hT,run_underlying ht,bP hu,goInt]
theorem BQ{T:Array TypeId}{t:TypeId}{x:Operand}{A:Array Operand}(hT:T[0]? = UK t)(hA:A.toList=[x])(ht:P.underlying t=UK .string)(ho:o.op = .call { callee:=.builtin .len,args:=A,argTypes:=T })(hv:ev (cz a) (vw w.heap) (.un .lenStr (opnd x))=UK v):(execOp a.eval o).run P w = .ok (.value v) w:=by
 obtain⟨u,hu,h⟩:=kP hv;simp only[Un.ev,Q6]at h;obtain⟨l,hl,rfl⟩:=h;obtain rfl:=vz hl;have hA':A = #[x]:=by rw[<-Array.toArray_toList (xs:=A),hA]
 subst hA';simp[execOp,ho,resolve,invoke,builtin,Builtin.len_,hT,run_underlying ht,bP hu,goInt]
theorem Cm{T:Array TypeId}{t k e:TypeId}{x:Operand}{A:Array Operand}(hT:T[0]? = UK t)(hA:A.toList=[x])(ht:P.underlying t=UK (.map k e))(ho:o.op = .call { callee:=.builtin .len,args:=A,argTypes:=T })(hv:ev (cz a) (vw w.heap) (.un .lenMap (opnd x))=UK v):(execOp a.eval o).run P w = .ok (.value v) w:=by
 obtain⟨u,hu,h⟩:=kP hv;simp only[Un.ev,Ro]at h;obtain⟨l,hl,h⟩:=h;obtain rfl:=Lo hl;have hA':A = #[x]:=by rw[<-Array.toArray_toList (xs:=A),hA]
 subst hA';cases l with
 | none=>simp only[Q2]at h;subst h;simp[execOp,ho,resolve,invoke,builtin,Builtin.len_,hT,run_underlying ht,bP hu,goInt]
 | some r=>
  simp only[Q6,mapH,vw]at h;obtain⟨⟨es,c⟩,h1,rfl⟩:=h;split at h1
  ·rename_i es' c' hh;simp only[Q2,SF]at h1;obtain⟨rfl,rfl⟩:=h1;simp[execOp,ho,resolve,invoke,builtin,Builtin.len_,hT,run_underlying ht,bP hu,goInt,getObj,Sem.run,hh]
  cases h1
theorem Ii{T:Array TypeId}{x y:Operand}{A:Array Operand}(hA:A.toList=[x,y])(ho:o.op = .call { callee:=.builtin .min,args:=A,argTypes:=T })(hv:ev (cz a) (vw w.heap) (.bin .min (opnd x) (opnd y))=UK v):(execOp a.eval o).run P w = .ok (.value v) w:=by
 obtain⟨p,q,hp,hq,hpq⟩:=gT hv;simp only[Bn.ev]at hpq;obtain⟨k,i,j,rfl,rfl,h⟩:=td hpq;simp only[Q2]at h;subst h;have hA':A = #[x,y]:=by rw[<-Array.toArray_toList (xs:=A),hA]
 subst hA';simp[execOp,ho,resolve,invoke,builtin,Builtin.min_,Builtin.min2,bP hp,bP hq]
theorem IC{T:Array TypeId}{x y:Operand}{A:Array Operand}(hA:A.toList=[x,y])(ho:o.op = .call { callee:=.builtin .max,args:=A,argTypes:=T })(hv:ev (cz a) (vw w.heap) (.bin .max (opnd x) (opnd y))=UK v):(execOp a.eval o).run P w = .ok (.value v) w:=by
 obtain⟨p,q,hp,hq,hpq⟩:=gT hv;simp only[Bn.ev]at hpq;obtain⟨k,i,j,rfl,rfl,h⟩:=td hpq;simp only[Q2]at h;subst h;have hA':A = #[x,y]:=by rw[<-Array.toArray_toList (xs:=A),hA]
 subst hA';simp[execOp,ho,resolve,invoke,builtin,Builtin.max_,Builtin.max2,bP hp,bP hq]
theorem Ez : ∀(l:List Operand) (e:E) (acc:Array Value) (v:Value),ev (cz a) (vw w.heap) e=UK (.tuple acc)->ev (cz a) (vw w.heap) (l.foldl (λe x=>.snoc e (opnd x)) e)=UK v->
  v = .tuple (acc++(l.map a.eval).toArray)
 | [],e,acc,v,h0,h=>by simp at h;rw[h0]at h;simp at h;subst h;simp
 | x::l,e,acc,v,h0,h=>by
  simp only[RG]at h;cases hx:ev (cz a) (vw w.heap) (opnd x)with
  | none=>
   exfalso;have : ∀(l:List Operand) (e:E),ev (cz a) (vw w.heap) e=UL->ev (cz a) (vw w.heap) (l.foldl (λe x=>.snoc e (opnd x)) e)=none:=by
    intro l;induction l with
    | nil=>intro e he;simpa using he
    | cons y l ih=>intro e he;simp only[RG];exact ih _ (by simp[ev,he])
   rw[this l _ (by simp[ev,h0,hx])]at h;cases h
  | some u=>have:=Ez l (.snoc e (opnd x)) (acc.push u) v (by simp[ev,h0,hx]) h;rw[this,<-bP hx];simp
theorem K6{f:FuncId}{first captured:Array Operand}(hf:first.isEmpty=UO)(ho:o.op = .makeFunc (.func f) first captured)(hv:ev (cz a) (vw w.heap) (.un (.fn f) (captured.toList.foldl (λe x=>.snoc e (opnd x)) (.con (.tuple #[]))))=UK v):(execOp a.eval o).run P w = .ok (.value v) w:=by
 obtain⟨u,hu,h⟩:=kP hv;simp only[Un.ev,Q6]at h;obtain⟨l,hl,rfl⟩:=h;obtain rfl:=Gx hl;have h1:=Ez captured.toList _ #[] _ (by simp[ev]) hu;have hf':first = #[]:=by simpa using hf
 subst hf';simp only[Value.tuple.injEq]at h1;subst h1;have e:Array.map a.eval captured=(List.map a.eval captured.toList).toArray:=by rw[<-Array.toList_inj];simp
 simp[execOp,ho,Instr.makeFunc,e]
theorem run_sliceBound{i:Operand}{q:IntKind × Int}{u:Value}(hq:ev (cz a) (vw w.heap) (opnd i)=UK u)(hk:vI u=UK q)(y:Nat)(c:BoundsCode)(hb:0<=q.2/\q.2<=y):
  (Instr.sliceBound (a.eval i) y c).run P w = .ok q.2.toNat w:=by have h1:=te hk;rw[bP hq,h1];simp[Instr.sliceBound,asIntOf,hb.1,hb.2]
theorem Ld{t e:TypeId}{x j:Operand}(ht:P.underlying t=UK (.slice e))(hz:cU P e=UK n)(ho:o.op = .slice t x UL (UK j) UL)(hv:ev (cz a) (vw w.heap) (.bin .hi (opnd x) (opnd j))=UK v):(execOp a.eval o).run P w = .ok (.value v) w:=by
 obtain⟨p,q,hp,hq,h⟩:=gT hv;simp only[Bn.ev,Ro]at h;obtain⟨l,hl,k,hk,h⟩:=h;obtain rfl:=uQ hl;split at h
 ·rename_i hb;simp only[Q2]at h;subst h;have e1:=bP hp;have e2:=run_sliceBound (P:=P) hq hk l.2.2 .sliceAcap hb;have e3:=run_sizeOf (w:=w) hz;obtain⟨b,len,cap⟩:=l;simp only at e2;cases b<;>simp[execOp,ho,e1,Instr.sliceAt,Instr.slice,run_underlying ht,Instr.sliceBounds,e2,e3,Addr.add]
 cases h
theorem Lh{t e:TypeId}{x i:Operand}(ht:P.underlying t=UK (.slice e))(hz:cU P e=UK n)(ho:o.op = .slice t x (UK i) UL UL)(hv:ev (cz a) (vw w.heap) (.bin (.lo n) (opnd x) (opnd i))=UK v):(execOp a.eval o).run P w = .ok (.value v) w:=by
 obtain⟨p,q,hp,hq,h⟩:=gT hv;simp only[Bn.ev,Ro]at h;obtain⟨l,hl,k,hk,h⟩:=h;obtain rfl:=uQ hl;split at h
 ·rename_i hb;simp only[Q2]at h;subst h;have e1:=bP hp;have e2:=run_sliceBound (P:=P) hq hk l.2.1 .sliceB hb;have e3:=run_sizeOf (w:=w) hz;obtain⟨b,len,cap⟩:=l;simp only at e2;simp[execOp,ho,e1,Instr.sliceAt,Instr.slice,run_underlying ht,Instr.sliceBounds,e2,e3]
 cases h
theorem FF{t e:TypeId}{x i j:Operand}(ht:P.underlying t=UK (.slice e))(hz:cU P e=UK n)(ho:o.op = .slice t x (UK i) (UK j) UL)(hv:ev (cz a) (vw w.heap) (.bin (.lo n) (.bin .hi (opnd x) (opnd j)) (opnd i))=UK v):(execOp a.eval o).run P w = .ok (.value v) w:=by
 obtain⟨p,q,hp,hq,h⟩:=gT hv;obtain⟨p',q',hp',hq',h'⟩:=gT hp;simp only[Bn.ev,Ro]at h h';obtain⟨l',hl',k',hk',h'⟩:=h';obtain rfl:=uQ hl';split at h'
 ·rename_i hb';simp only[Q2]at h';subst h';obtain⟨l,hl,k,hk,h⟩:=h;simp only[vL,Q2]at hl;subst hl;split at h
  ·rename_i hb;simp only[Q2]at h;subst h;have e1:=bP hp';have e2:=run_sliceBound (P:=P) hq hk k'.2.toNat .sliceB hb;have e2':=run_sliceBound (P:=P) hq' hk' l'.2.2 .sliceAcap hb';have e3:=run_sizeOf (w:=w) hz;obtain⟨b,len,cap⟩:=l';simp only at e2 e2';simp[execOp,ho,e1,Instr.sliceAt,Instr.slice,run_underlying ht,Instr.sliceBounds,e2,e2',e3]
  cases h
 cases h'
theorem CP{t:TypeId}{x:Operand}{e:E}(he:zT P t (opnd x)=UK e)(ho:o.op = .load t x)(hv:ev (cz a) (vw w.heap) e=UK v):(execOp a.eval o).run P w = .ok (.value v) w:=by
 have hx : ∃u,ev (cz a) (vw w.heap) (opnd x)=UK u:=by
  unfold zT at he;split at he
  ·simp only[Q2]at he;subst he;obtain⟨u,hu,_⟩:=kP hv;exact⟨u,hu⟩
  ·simp only[Q2]at he;subst he;obtain⟨u,hu,_⟩:=kP hv;exact⟨u,hu⟩
  cases he
 obtain⟨u,hu⟩:=hx;have:=run_load he hu hv;simp[execOp,ho,bP hu,this]
theorem th{e:E}(he:opE P o.op=UK e)(hv:ev (cz a) (vw w.heap) e=UK v):(execOp a.eval o).run P w = .ok (.value v) w:=by
 cases ho:o.op with
 | move x=>rw[ho]at he;simp only[opE,Q2]at he;subst he;exact FT ho hv
 | assign x=>rw[ho]at he;simp only[opE,Q2]at he;subst he;exact CD ho hv
 | pick c x y=>rw[ho]at he;simp only[opE,Q2]at he;subst he;exact Gb ho hv
 | unOp op t x=>rw[ho]at he;cases op<;>simp only[opE,Q2,reduceCtorEq]at he;subst he;exact Hq ho hv
 | binOp op t x y u=>
  rw[ho]at he;simp only[opE]at he;split at he<;>first
   | (simp only[Q2]at he;subst he;first | exact Dz ho hv | exact Ic ho hv | exact Fh ho hv | exact HO ho hv | exact BD (n:=false) ‹_› rfl ho hv | exact BD (n:=true) ‹_› rfl ho hv | exact HQ ho hv | exact Aq (n:=false) rfl ‹_› ho hv | exact Aq (n:=true) rfl ‹_› ho hv)
   | cases he
 | load t x=>rw[ho]at he;simp only[opE]at he;exact CP he ho hv
 | nilCheck x=>rw[ho]at he;simp only[opE,Q2]at he;subst he;exact H2 ho hv
 | fieldAddr s x f=>
  rw[ho]at he;simp only[opE]at he;split at he
  ·rename_i fields hs;split at he
   ·rename_i g hf;split at he
    ·rename_i n hz;simp only[Q2]at he;subst he;exact ya hs hf hz ho hv
    cases he
   cases he
  cases he
 | field s x f=>
  rw[ho]at he;simp only[opE]at he;split at he
  ·rename_i fields hs;split at he
   ·rename_i g hf;split at he
    ·rename_i n ha hz;simp only[Q2]at he;subst he;exact Em hs hf ha hz ho hv
    ·rename_i n ha hz;simp only[Q2]at he;subst he;exact F7 hs hf ha hz ho hv
    cases he
   cases he
  cases he
 | indexAddr t x i=>
  rw[ho]at he;simp only[opE]at he;split at he
  ·rename_i el ht;simp only[Q6]at he;obtain⟨n,hn,rfl⟩:=he;exact Ia ht hn ho hv
  ·rename_i k el ht;split at he
   ·cases he
   simp only[Q6]at he;obtain⟨n,hn,rfl⟩:=he;exact Fl ht hn ho hv
  cases he
 | extract x i=>rw[ho]at he;simp only[opE,Q2]at he;subst he;exact HX ho hv
 | convert s d x=>
  rw[ho]at he;simp only[opE]at he;split at he
  ·rename_i k' k hs hd;simp only[Q2]at he;subst he;exact Fk hs hd ho hv
  cases he
 | makeFunc fn first captured=>
  rw[ho]at he;cases fn<;>simp only[opE,reduceCtorEq]at he;split at he
  ·rename_i hf;simp only[Q2]at he;subst he;exact K6 hf ho hv
  cases he
 | call c=>
  rw[ho]at he;obtain⟨callee,args,T⟩:=c;cases callee with
  | value f=>simp only[opE,reduceCtorEq]at he
  | invoke r m=>simp only[opE,reduceCtorEq]at he
  | builtin b=>
   cases b<;>simp only[opE,reduceCtorEq]at he;case len=>
    split at he
    ·rename_i x t hA hT;split at he
     ·rename_i el ht;simp only[Q2]at he;subst he;exact HN hT hA ht ho hv
     ·rename_i ht;simp only[Q2]at he;subst he;exact BQ hT hA ht ho hv
     ·rename_i k el ht;simp only[Q2]at he;subst he;exact Cm hT hA ht ho hv
     cases he
    cases he
   case min=>
    split at he
    ·rename_i x y hA;simp only[Q2]at he;subst he;exact Ii hA ho hv
    cases he
   case max=>
    split at he
    ·rename_i x y hA;simp only[Q2]at he;subst he;exact IC hA ho hv
    cases he
 | slice t x lo hi mx=>
  rw[ho]at he;cases mx with
  | some m=>simp only[opE,reduceCtorEq]at he
  | none=>
   simp only[opE]at he;split at he
   ·rename_i el ht;split at he
    ·rename_i n hz;cases lo<;>cases hi<;>simp only[Q2,reduceCtorEq]at he
     ·subst he;exact Ld ht hz ho hv
     ·subst he;exact Lh ht hz ho hv
     subst he;exact FF ht hz ho hv
    cases he
   cases he
 | _=>rw[ho]at he;simp only[opE,reduceCtorEq]at he
end
def evs(ρ:Nat->Option Value)(h:View):List E->Option (List Value)
 | []=>UK []
 | e::es=>match ev ρ h e,evs ρ h es with
  | some v,UK vs=>UK (v::vs)
  | _,_=>UL
def updF(ρ:Nat->Option Value)(d:Nat)(u:Value):Nat->Option Value:=λt=>if t=d then UK u else ρ t
def Bu(k:E)(c:Nat):Bool:=match k with | .tmp t=>t == c | _=>UP
def E.subst(r:E)(d:Nat)(e:E):E:=
 match r with
 | .tmp t=>if t=d then e else .tmp t
 | .con v=>.con v
 | .un o x=>.un o (x.subst d e)
 | .bin o x y=>.bin o (x.subst d e) (y.subst d e)
 | .snoc x y=>.snoc (x.subst d e) (y.subst d e)
 | .ite k x y=>.ite (k.subst d e) (x.subst d e) (y.subst d e)
 | .gd k b x=>.gd (k.subst d e) b (x.subst d e)
def E.occ(r:E)(d:Nat):Bool:=
 match r with
 | .tmp t=>t == d
 | .con _=>UP
 | .un _ x=>x.occ d
 | .bin _ x y | .snoc x y=>x.occ d||y.occ d
 | .ite k _ _=>k.occ d
 | .gd k _ _=>k.occ d
def E.dy(r:E)(d c:Nat)(b:Bool)(e:E):E:=
 match r with
 | .tmp t=>if t=d then .gd (.tmp c) b e else .tmp t
 | .con v=>.con v
 | .un o x=>.un o (x.dy d c b e)
 | .bin o x y=>.bin o (x.dy d c b e) (y.dy d c b e)
 | .snoc x y=>.snoc (x.dy d c b e) (y.dy d c b e)
 | .ite k x y=>
  if Bu k c then(if b then .ite k (x.subst d e) (y.dy d c b e) else .ite k (x.dy d c b e) (y.subst d e))
  else .ite (k.dy d c b e) (x.dy d c b e) (y.dy d c b e)
 | .gd k b' x=>if Bu k c&&b' == b then .gd k b' (x.subst d e) else .gd (k.dy d c b e) b' (x.dy d c b e)
def E.occG(r:E)(d c:Nat)(b:Bool):Bool:=
 match r with
 | .tmp t=>t == d
 | .con _=>UP
 | .un _ x=>x.occG d c b
 | .bin _ x y | .snoc x y=>x.occG d c b||y.occG d c b
 | .ite k x y=>if Bu k c then(if b then x.occ d else y.occ d) else k.occG d c b
 | .gd k b' x=>if Bu k c&&b' == b then x.occ d else k.occG d c b
section
variable{ρ:Nat->Option Value}{h:View}{d c:Nat}{b:Bool}{e:E}{u:Value}
theorem lG{k:E}(hk:Bu k c=UO):k = .tmp c:=by cases k<;>simp[Bu]at hk;subst hk;rfl
theorem fl(hu:ev ρ h e=UK u) : ∀r:E,ev ρ h (r.subst d e)=ev (updF ρ d u) h r
 | .tmp t=>by simp only[E.subst];split<;>simp_all [ev,updF]
 | .con v=>rfl
 | .un o x=>by simp only[E.subst,ev,fl hu x]
 | .bin o x y=>by simp only[E.subst,ev,fl hu x,fl hu y]
 | .snoc x y=>by simp only[E.subst,ev,fl hu x,fl hu y]
 | .ite k x y=>by simp only[E.subst,ev,fl hu k,fl hu x,fl hu y]
 | .gd k b x=>by simp only[E.subst,ev,fl hu k,fl hu x]
theorem xf(hu:ev ρ h (.gd (.tmp c) b e)=UK u)(hcd:c≠d)(r:E):ev ρ h (r.dy d c b e)=ev (updF ρ d u) h r:=by
 have hρ:updF ρ d u c=ρ c:=by simp[updF,hcd]
 induction r with
 | tmp t=>
  simp only[E.dy];split
  ·rename_i ht;rw[hu];simp[ev,updF,ht]
  rename_i ht;simp[ev,updF,ht]
 | con v=>rfl
 | un o x ih=>simp only[E.dy,ev,ih]
 | bin o x y ihx ihy=>simp only[E.dy,ev,ihx,ihy]
 | snoc x y ihx ihy=>simp only[E.dy,ev,ihx,ihy]
 | ite k x y ihk ihx ihy=>
  simp only[E.dy];split
  ·rename_i hk;obtain rfl:=lG hk;split
   ·rename_i hb;simp only[ev,hρ];split
    ·rename_i hc;simp only[ev,hc,hb,if_true]at hu;exact fl hu x
    ·exact ihy
    rfl
   rename_i hb;simp only[ev,hρ];split
   ·exact ihx
   ·rename_i hc;simp only[ev,hc,hb]at hu;exact fl hu y
   rfl
  simp only[ev,ihk,ihx,ihy]
 | gd k b' x ihk ihx=>
  simp only[E.dy];split
  ·rename_i hk;simp only[Q9,beq_iff_eq]at hk;obtain⟨hk,hb'⟩:=hk;obtain rfl:=lG hk;simp only[ev,hρ,hb'];split
   ·rename_i hc;split
    ·rename_i hb;simp only[ev,hc,hb,if_true]at hu;exact fl hu x
    rfl
   ·rename_i hc;split
    ·rfl
    rename_i hb;simp only[ev,hc,hb]at hu;exact fl hu x
   ·rfl
   rfl
  simp only[ev,ihk,ihx]
theorem kf : ∀{r:E} {v:Value},r.occ d=UO->ev ρ h (r.subst d e)=UK v->∃u,ev ρ h e=UK u
 | .tmp t,v,ho,hv=>by simp[E.occ]at ho;simp[E.subst,ho]at hv;exact⟨v,hv⟩
 | .con _,_,ho,_=>by simp[E.occ]at ho
 | .un o x,v,ho,hv=>by simp only[E.occ]at ho;simp only[E.subst]at hv;obtain⟨u,hu,_⟩:=kP hv;exact kf ho hu
 | .bin o x y,v,ho,hv=>by
  simp only[E.occ,Sa]at ho;simp only[E.subst]at hv;obtain⟨u,u',hu,hu',_⟩:=gT hv;rcases ho with ho | ho
  ·exact kf ho hu
  exact kf ho hu'
 | .snoc x y,v,ho,hv=>by
  simp only[E.occ,Sa]at ho;simp only[E.subst,ev]at hv;split at hv
  ·rename_i hu hu';rcases ho with ho | ho
   ·exact kf ho hu
   exact kf ho hu'
  cases hv
 | .ite k x y,v,ho,hv=>by
  simp only[E.occ]at ho;simp only[E.subst,ev]at hv;split at hv
  ·rename_i hu;exact kf ho hu
  ·rename_i hu;exact kf ho hu
  cases hv
 | .gd k b x,v,ho,hv=>by
  simp only[E.occ]at ho;simp only[E.subst,ev]at hv;split at hv
  ·rename_i hu;exact kf ho hu
  ·rename_i hu;exact kf ho hu
  ·rename_i hu;exact kf ho hu
  cases hv
theorem ye(hc:ρ c=UK (.bool b)):ev ρ h (.gd (.tmp c) b e)=ev ρ h e:=by cases b<;>simp[ev,hc]
theorem kT(hc:ρ c=UK (.bool b)) : ∀{r:E} {v:Value},r.occG d c b=UO->ev ρ h (r.dy d c b e)=UK v->∃u,ev ρ h e=UK u
 | .tmp t,v,ho,hv=>by simp[E.occG]at ho;simp only[E.dy,ho,if_true,ye hc]at hv;exact⟨v,hv⟩
 | .con _,_,ho,_=>by simp[E.occG]at ho
 | .un o x,v,ho,hv=>by simp only[E.occG]at ho;simp only[E.dy]at hv;obtain⟨u,hu,_⟩:=kP hv;exact kT hc ho hu
 | .bin o x y,v,ho,hv=>by
  simp only[E.occG,Sa]at ho;simp only[E.dy]at hv;obtain⟨u,u',hu,hu',_⟩:=gT hv;rcases ho with ho | ho
  ·exact kT hc ho hu
  exact kT hc ho hu'
 | .snoc x y,v,ho,hv=>by
  simp only[E.occG,Sa]at ho;simp only[E.dy,ev]at hv;split at hv
  ·rename_i hu hu';rcases ho with ho | ho
   ·exact kT hc ho hu
   exact kT hc ho hu'
  cases hv
 | .ite k x y,v,ho,hv=>by
  simp only[E.occG]at ho;simp only[E.dy]at hv;split at ho
  ·rename_i hk;rw[if_pos hk]at hv;obtain rfl:=lG hk;cases b
   ·simp only[SB,if_false]at ho hv;simp only[ev,hc]at hv;exact kf ho hv
   simp only[if_true]at ho hv;simp only[ev,hc]at hv;exact kf ho hv
  rename_i hk;rw[if_neg hk]at hv;simp only[ev]at hv;split at hv
  ·rename_i hu;exact kT hc ho hu
  ·rename_i hu;exact kT hc ho hu
  cases hv
 | .gd k b' x,v,ho,hv=>by
  simp only[E.occG]at ho;simp only[E.dy]at hv;split at ho
  ·rename_i hk;rw[if_pos hk]at hv;simp only[Q9,beq_iff_eq]at hk;obtain⟨hk,rfl⟩:=hk;obtain rfl:=lG hk;rw[ye hc]at hv;exact kf ho hv
  rename_i hk;rw[if_neg hk]at hv;simp only[ev]at hv;split at hv
  ·rename_i hu;exact kT hc ho hu
  ·rename_i hu;exact kT hc ho hu
  ·rename_i hu;exact kT hc ho hu
  cases hv
theorem gF(hcd:c≠d) : ∀{r:E} {v:Value},r.occG d c b=UO->ev ρ h (r.dy d c b e)=UK v->∃u,ev ρ h (.tmp c)=UK u
 | .tmp t,v,ho,hv=>by
  simp[E.occG]at ho;simp only[E.dy,ho,if_true]at hv;cases hc:ρ c with
  | none=>simp[ev,hc]at hv
  | some u=>exact⟨u,hc⟩
 | .con _,_,ho,_=>by simp[E.occG]at ho
 | .un o x,v,ho,hv=>by simp only[E.occG]at ho;simp only[E.dy]at hv;obtain⟨u,hu,_⟩:=kP hv;exact gF hcd ho hu
 | .bin o x y,v,ho,hv=>by
  simp only[E.occG,Sa]at ho;simp only[E.dy]at hv;obtain⟨u,u',hu,hu',_⟩:=gT hv;rcases ho with ho | ho
  ·exact gF hcd ho hu
  exact gF hcd ho hu'
 | .snoc x y,v,ho,hv=>by
  simp only[E.occG,Sa]at ho;simp only[E.dy,ev]at hv;split at hv
  ·rename_i hu hu';rcases ho with ho | ho
   ·exact gF hcd ho hu
   exact gF hcd ho hu'
  cases hv
 | .ite k x y,v,ho,hv=>by
  simp only[E.occG]at ho;simp only[E.dy]at hv;split at ho
  ·rename_i hk;rw[if_pos hk]at hv;obtain rfl:=lG hk;cases hc:ρ c with
   | none=>cases b<;>simp[ev,hc]at hv
   | some u=>exact⟨u,hc⟩
  rename_i hk;rw[if_neg hk]at hv;simp only[ev]at hv;split at hv
  ·rename_i hu;exact gF hcd ho hu
  ·rename_i hu;exact gF hcd ho hu
  cases hv
 | .gd k b' x,v,ho,hv=>by
  simp only[E.occG]at ho;simp only[E.dy]at hv;split at ho
  ·rename_i hk;rw[if_pos hk]at hv;simp only[Q9,beq_iff_eq]at hk;obtain⟨hk,rfl⟩:=hk;obtain rfl:=lG hk;cases hc:ρ c with
   | none=>simp[ev,hc]at hv
   | some u=>exact⟨u,hc⟩
  rename_i hk;rw[if_neg hk]at hv;simp only[ev]at hv;split at hv
  ·rename_i hu;exact gF hcd ho hu
  ·rename_i hu;exact gF hcd ho hu
  ·rename_i hu;exact gF hcd ho hu
  cases hv
theorem Hd : ∀{l:List E} {vs:List Value},evs ρ h l=UK vs->vs.length=l.length
 | [],vs,hv=>by simp[evs]at hv;subst hv;rfl
 | e::l,vs,hv=>by
  simp only[evs]at hv;split at hv
  ·rename_i hl;simp only[Q2]at hv;subst hv;simp[Hd hl]
  cases hv
theorem uL{p:E->Bool}{f:E->E}(hp : ∀r v,p r=UO->ev ρ h (f r)=UK v->∃u,ev ρ h e=UK u) :
  ∀{l:List E} {vs:List Value},l.any p=UO->evs ρ h (l.map f)=UK vs->∃u,ev ρ h e=UK u
 | [],_,ha,_=>by simp at ha
 | r::l,vs,ha,hv=>by
  simp only[Sn,evs]at hv;split at hv
  ·rename_i h1 h2;simp only[List.any_cons,Sa]at ha;rcases ha with ha | ha
   ·exact hp _ _ ha h1
   exact uL hp ha h2
  cases hv
theorem sG{f:E->E}{ρ':Nat->Option Value}(hf : ∀r,ev ρ h (f r)=ev ρ' h r) : ∀l:List E,evs ρ h (l.map f)=evs ρ' h l
 | []=>rfl
 | r::l=>by simp only[Sn,evs,hf r,sG hf l]
theorem uj : ∀{l m:List E} {vs:List Value},evs ρ h (l++m)=UK vs->∃us ws,evs ρ h l=UK us/\evs ρ h m=UK ws/\vs=us++ws
 | [],m,vs,hv=>⟨[],vs,rfl,hv,rfl⟩
 | e::l,m,vs,hv=>by
  simp only[TX,evs]at hv;split at hv
  ·rename_i v1 vs1 h1 h2;simp only[Q2]at hv;subst hv;obtain⟨us,ws,hu,hw,rfl⟩:=uj h2;exact⟨v1::us,ws,by simp[evs,h1,hu],hw,rfl⟩
  cases hv
end
def uE(P:Program)(N:Nat)(ops0:Array Oper)(o:Oper)(r:List E):Option (List E):=
 match o.dst,opE P o.op with
 | some d,UK e=>
  if d<N then
   match o.guard with
   | none=>if r.any (·.occ d) then UK (r.map (·.subst d e)) else UK ((r++[E.tmp d]).map (λx=>x.subst d e))
   | some (j,b)=>match (ops0[j]?).bind (·.dst)with
    | some c=>if c=d then UL else if r.any (·.occG d c b) then UK (r.map (·.dy d c b e)) else UK ((r++[E.tmp d]).map (λx=>x.dy d c b e))
    | none=>UL
  else UL
 | _,_=>UL
def back(P:Program)(N:Nat)(ops0:Array Oper):List Oper->List E->Option (List E)
 | [],r=>UK r
 | o::rest,r=>match back P N ops0 rest r with
  | some r1=>uE P N ops0 o r1
  | none=>UL
def vV(P:Program)(o:Oper):Bool:=match opE P o.op with | some e=>!e.reads | none=>UP
variable{P:Program}
theorem xD{o:Oper}{e:E}(he:opE P o.op=UK e)(hp:vV P o=UO):e.reads=false:=by simpa[vV,he]using hp
def iO(P:Program)(ops0:Array Oper)(H:View)(o:Oper)(v:Value)(a:Act):Prop:=
 (Region.wanted o (yielded ops0 a.tmps)=UO/\(∀w:World,H.sub (vw w.heap)->(execOp a.eval o).run P w = .ok (.value v) w)/\(vV P o=UO->∀w:World,(execOp a.eval o).run P w = .ok (.value v) w))\/
 (Region.wanted o (yielded ops0 a.tmps)=UP/\v=undef)
def QRun(P:Program)(ops0:Array Oper)(H:View):List Oper->Act->Act->Prop
 | [],a,a'=>a'=a
 | o::rest,a,a'=>∃v,iO P ops0 H o v a/\QRun P ops0 H rest (a.put o.dst v) a'
theorem HU{a:Act}{d:Nat}{v:Value}(hd:d<a.tmps.size):cz (a.put (UK d) v)=updF (cz a) d v:=by
 funext t;simp only[cz,Act.put,updF,Array.getElem?_setIfInBounds];split
 ·rename_i h;subst h;simp
 rename_i h;rw[if_neg (Ne.symm h)]
variable{N:Nat}{ops0:Array Oper}
theorem zS{o:Oper}{r r':List E}{a:Act}{vs:List Value}(hN:a.tmps.size=N)(hb:uE P N ops0 o r=UK r')(hv:evs (cz a) H r'=UK vs):
  ∃u,iO P ops0 H o u a/\(a.put o.dst u).tmps.size=N/\∃us ws,evs (cz (a.put o.dst u)) H r=UK us/\vs=us++ws:=by
 unfold uE at hb;cases hd:o.dst with
 | none=>simp[hd]at hb
 | some d=>
  cases he:opE P o.op with
  | none=>simp[hd,he]at hb
  | some e=>
   simp only[hd,he]at hb;split at hb;case isFalse=>cases hb
   rename_i hlt;have hsz : ∀u,(a.put (UK d) u).tmps.size=N:=λu=>by simp[Act.put,hN]
   have hput : ∀u,cz (a.put (UK d) u)=updF (cz a) d u:=λu=>HU (by rw[hN];exact hlt);cases hg:o.guard with
   | none=>
    simp only[hg]at hb;have hw:Region.wanted o (yielded ops0 a.tmps)=true:=by simp[Region.wanted,hg]
    have key : ∃u,ev (cz a) H e=UK u/\∃us ws,evs (updF (cz a) d u) H r=UK us/\vs=us++ws:=by
     split at hb
     ·rename_i hany;simp only[Q2]at hb;subst hb;obtain⟨u,hu⟩:=uL (e:=e) (λr v h1 h2=>kf h1 h2) hany hv;refine⟨u,hu,vs,[],?_,by simp⟩;rw[sG (fl hu)]at hv;exact hv
     simp only[Q2]at hb;subst hb;obtain⟨u,hu⟩:=uL (e:=e) (p:=(·.occ d)) (λr v h1 h2=>kf h1 h2) (by simp[E.occ]) hv;rw[sG (fl hu)]at hv;obtain⟨us,ws,h1,h2,h3⟩:=uj hv;exact⟨u,hu,us,ws,h1,h3⟩
    obtain⟨u,hu,us,ws,h1,h2⟩:=key;exact⟨u,.inl ⟨hw,λw hw'=>th he (gI hw' hu),λhp w=>th he (by rw[iL (xD he hp) (h':=H)];exact hu)⟩,hsz u,us,ws,by rw[hput];exact h1,h2⟩
   | some jb=>
    obtain⟨j,b⟩:=jb;simp only[hg]at hb;split at hb;case h_2=>cases hb
    rename_i c hc;split at hb;case isTrue=>cases hb
    rename_i hcd;have hwanted:Region.wanted o (yielded ops0 a.tmps)=UO↔cz a c=UK (.bool b):=by
     simp only[Region.wanted,hg,yielded,hc,RD,cz,beq_iff_eq];split
     ·rename_i b' hb';rw[hb'];simp
     rename_i hne;constructor
     ·intro h;cases h
     intro h;exact absurd h (hne b)
    have gval : ∀v,ev (cz a) H (.gd (.tmp c) b e)=UK v->iO P ops0 H o v a:=by
     intro v hv';by_cases hw:Region.wanted o (yielded ops0 a.tmps)=UO
     ·have h1:=hwanted.1 hw;rw[ye h1]at hv';exact .inl ⟨hw,λw hw'=>th he (gI hw' hv'),λhp w=>th he (by rw[iL (xD he hp) (h':=H)];exact hv')⟩
     refine .inr ⟨by simpa using hw,?_⟩;have h1:cz a c≠UK (.bool b):=λh=>hw (hwanted.2 h);simp only[ev]at hv';split at hv'
     ·rename_i hcc;cases b
      ·simpa using hv'.symm
      exact absurd hcc h1
     ·rename_i hcc;cases b
      ·exact absurd hcc h1
      simpa using hv'.symm
     ·simpa using hv'.symm
     cases hv'
    have key : ∃u,ev (cz a) H (.gd (.tmp c) b e)=UK u/\∃us ws,evs (updF (cz a) d u) H r=UK us/\vs=us++ws:=by
     split at hb
     ·rename_i hany;simp only[Q2]at hb;subst hb;by_cases hw:cz a c=UK (.bool b)
      ·obtain⟨u,hu⟩:=uL (e:=e) (λr v h1 h2=>kT hw h1 h2) hany hv;have hu':ev (cz a) H (.gd (.tmp c) b e)=UK u:=by rw[ye hw];exact hu
       rw[sG (xf hu' hcd)]at hv;exact⟨u,hu',vs,[],hv,by simp⟩
      cases hcv:cz a c with
      | none=>exfalso;obtain⟨u,hu⟩:=uL (e:=.tmp c) (p:=(·.occG d c b)) (f:=(·.dy d c b e)) (λr v h1 h2=>gF hcd h1 h2) hany hv;simp only[ev]at hu;rw[hcv]at hu;cases hu
      | some cv=>
       have hu':ev (cz a) H (.gd (.tmp c) b e)=UK undef:=by
        simp only[ev,hcv];split
        ·rename_i h1;simp only[Q2]at h1;subst h1;cases b
         ·simp
         exact absurd hcv hw
        ·rename_i h1;simp only[Q2]at h1;subst h1;cases b
         ·exact absurd hcv hw
         simp
        ·rfl
        rename_i h1;cases h1
       rw[sG (xf hu' hcd)]at hv;exact⟨undef,hu',vs,[],hv,by simp⟩
     simp only[Q2]at hb;subst hb;rw[Tj]at hv;obtain⟨us,ws,h1,h2,h3⟩:=uj hv;simp only[Sn,List.map_nil,E.dy,if_true,evs]at h2;split at h2
     ·rename_i u _ hu _;rw[sG (xf hu hcd)]at h1;exact⟨u,hu,us,ws,h1,h3⟩
     cases h2
    obtain⟨u,hu,us,ws,h1,h2⟩:=key;exact⟨u,gval u hu,hsz u,us,ws,by rw[hput];exact h1,h2⟩
abbrev Env:=List (Nat × Value)
def look:Env->Nat->Option Value
 | [],_=>UL
 | (k,v)::r,t=>if k=t then UK v else look r t
def setE(ρ:Env)(t:Nat)(v:Value):Env:=
 match ρ with
 | []=>[(t,v)]
 | (k,u)::r=>if k=t then(t,v)::r else if t<k then(t,v)::(k,u)::r else(k,u)::setE r t v
def dE(ρ:Env):List (Nat × Value)->Env
 | []=>ρ
 | (t,v)::r=>dE (setE ρ t v) r
def cJ(ρ:Env)(ts:List Nat):Env:=ρ.filter λp=>!ts.contains p.1
def putE(ρ:Env)(dst:Option Nat)(keep:Bool)(v:Value):Env:=
 match dst with
 | some d=>if keep then setE ρ d v else cJ ρ [d]
 | none=>ρ
theorem af(ρ:Env)(t:Nat)(v:Value)(s:Nat):look (setE ρ t v) s=if t=s then UK v else look ρ s:=by
 induction ρ with
 | nil=>simp[setE,look]
 | cons p r ih=>
  obtain⟨k,u⟩:=p;simp only[setE];split
  ·rename_i h;subst h;simp only[look];split<;>rfl
  rename_i h;split
  ·simp only[look]
  simp only[look,ih];by_cases h1:k=s
  ·subst h1;simp[Ne.symm h]
  simp[h1]
theorem np(ρ:Env)(ts:List Nat)(s:Nat)(v:Value)(h:look (cJ ρ ts) s=UK v):s∉ts/\look ρ s=UK v:=by
 induction ρ with
 | nil=>simp[cJ,look]at h
 | cons p r ih=>
  obtain⟨k,u⟩:=p;simp only[cJ,TY]at h;split at h
  ·rename_i hk;simp only[look]at h ⊢;split at h
   ·rename_i e;subst e;exact⟨by simpa using hk,by simpa using h⟩
   rename_i e;have:=ih h;exact⟨this.1,by rw[if_neg e];exact this.2⟩
  rename_i hk;have:=ih h;refine⟨this.1,?_⟩;simp only[look];split
  ·rename_i e;subst e;exact absurd (by simpa using hk) this.1
  exact this.2
theorem zg : ∀(vs:List (Nat × Value)) (ρ:Env) (s:Nat) (v:Value),look (dE ρ vs) s=UK v->(s,v)∈vs\/look ρ s=UK v
 | [],_,_,_,h=>.inr h
 | (t,u)::r,ρ,s,v,h=>by
  rcases zg r (setE ρ t u) s v h with h2 | h2
  ·exact .inl (Q7 _ h2)
  rw[af]at h2;split at h2
  ·rename_i e;cases h2;rw[<-e];exact .inl (Rm ..)
  exact .inr h2
def Sat(ρ:Env)(a:Act):Prop:=∀t v,look ρ t=UK v->a.tmps[t]? = UK v
theorem je{ρ ρ':Nat->Option Value}{H:View}(hρ : ∀t v,ρ t=UK v->ρ' t=UK v) : ∀{e:E} {v:Value},ev ρ H e=UK v->ev ρ' H e=UK v
 | .tmp t,v,h=>hρ t v h
 | .con _,_,h=>h
 | .un o x,v,h=>by obtain⟨u,hu,h⟩:=kP h;simp only[ev,je hρ hu];exact h
 | .bin o x y,v,h=>by obtain⟨u,u',hu,hu',h⟩:=gT h;simp only[ev,je hρ hu,je hρ hu'];exact h
 | .snoc x y,v,h=>by
  simp only[ev]at h ⊢;split at h
  ·rename_i u u' hu hu';simp only[je hρ hu,je hρ hu'];exact h
  cases h
 | .ite c x y,v,h=>by
  simp only[ev]at h ⊢;split at h
  ·rename_i hu;simp only[je hρ hu];exact je hρ h
  ·rename_i hu;simp only[je hρ hu];exact je hρ h
  cases h
 | .gd c b x,v,h=>by
  simp only[ev]at h ⊢;split at h
  ·rename_i hu;simp only[je hρ hu];split at h
   ·rename_i hb;simp only[hb,if_true];exact je hρ h
   rename_i hb;simp only[hb];exact h
  ·rename_i hu;simp only[je hρ hu];split at h
   ·rename_i hb;simp only[hb,if_true];exact h
   rename_i hb;simp only[hb];exact je hρ h
  ·rename_i u h1 h2 hu;simp only[je hρ hu];exact h
  cases h
def evP(ρ:Nat->Option Value)(H:View):List (Nat × E)->Option (List (Nat × Value))
 | []=>UK []
 | (t,e)::r=>match ev ρ H e,evP ρ H r with
  | some v,UK vs=>UK ((t,v)::vs)
  | _,_=>UL
def okE(ρ:Nat->Option Value)(H:View):List E->Prop
 | []=>True
 | e::r=>(∃v,ev ρ H e=UK v)/\okE ρ H r
theorem BV{ρ:Nat->Option Value}{H:View} : ∀{ts:List Nat} {es:List E} {vs:List (Nat × Value)},ts.length<=es.length->evP ρ H (ts.zip es)=UK vs->
  evs ρ H (es.take ts.length)=UK (vs.map (·.2))/\vs.map (·.1)=ts
 | [],es,vs,_,h=>by simp[evP]at h;subst h;simp[evs]
 | t::ts,[],vs,hl,_=>by simp at hl
 | t::ts,e::es,vs,hl,h=>by
  simp only[TF,evP]at h;split at h
  ·rename_i v vs' hv hvs;simp only[Q2]at h;subst h;obtain⟨h1,h2⟩:=BV (by simpa using hl) hvs;simp[evs,hv,h1,h2]
  cases h
theorem Gl{ρ:Nat->Option Value}{H:View} : ∀{es:List E},okE ρ H es->∃vs,evs ρ H es=UK vs
 | [],_=>⟨[],rfl⟩
 | e::es,h=>by obtain⟨⟨v,hv⟩,h⟩:=h;obtain⟨vs,hvs⟩:=Gl h;exact⟨v::vs,by simp[evs,hv,hvs]⟩
theorem GP{ρ:Nat->Option Value}{H:View} : ∀{l m:List E} {us ws:List Value},evs ρ H l=UK us->evs ρ H m=UK ws->evs ρ H (l++m)=UK (us++ws)
 | [],m,us,ws,h1,h2=>by simp[evs]at h1;subst h1;simpa using h2
 | e::l,m,us,ws,h1,h2=>by
  simp only[evs]at h1;split at h1
  ·rename_i v vs hv hvs;simp only[Q2]at h1;subst h1;simp only[TX,evs,hv,GP hvs h2]
  cases h1
theorem sQ{ρ ρ':Nat->Option Value}{H:View}(hρ : ∀t v,ρ t=UK v->ρ' t=UK v) : ∀{l:List E} {us:List Value},evs ρ H l=UK us->evs ρ' H l=UK us
 | [],us,h=>h
 | e::l,us,h=>by
  simp only[evs]at h;split at h
  ·rename_i v vs hv hvs;simp only[evs,je hρ hv,sQ hρ hvs];exact h
  cases h
theorem EZ{a:Act}{H:View} : ∀{ts:List Nat} {vs:List (Nat × Value)},vs.map (·.1)=ts->evs (cz a) H (ts.map E.tmp)=UK (vs.map (·.2))->∀p∈vs,a.tmps[p.1]? = UK p.2
 | [],vs,h,_,p,hp=>by cases vs<;>simp at h;cases hp
 | t::ts,[],h,_,p,hp=>by cases hp
 | t::ts,q::vs,h,he,p,hp=>by
  simp only[Sn,Uv]at h;obtain⟨h0,h⟩:=h;simp only[Sn,evs]at he;split at he
  ·rename_i v vs' hv hvs;simp only[Q2,Uv]at he;rcases Ru.1 hp with rfl | hp
   ·simp only[ev,cz]at hv;rw[h0,hv,he.1]
   exact EZ h (by rw[hvs,he.2]) p hp
  cases he
theorem Ew : ∀{us:List (Nat × Value)} {t:Nat} {v:Value},look us t=UK v->(t,v)∈us
 | [],_,_,h=>by simp[look]at h
 | (k,u)::r,t,v,h=>by
  simp only[look]at h;split at h
  ·rename_i e;subst e;simp only[Q2]at h;subst h;exact Rm ..
  exact Q7 _ (Ew h)
theorem A9 : ∀{us:List (Nat × Value)} {t:Nat},t∈us.map (·.1)->∃v,look us t=UK v
 | [],_,h=>by simp at h
 | (k,u)::r,t,h=>by
  simp only[look];split
  ·exact⟨u,rfl⟩
  rename_i e;simp only[Sn,Ru]at h;rcases h with h | h
  ·exact absurd h.symm e
  exact A9 h
theorem uJ{P:Program}{N:Nat}{ops0:Array Oper} : ∀{qs:List Oper} {r r':List E},back P N ops0 qs r=UK r'->r.length<=r'.length
 | [],r,r',h=>by simp[back]at h;subst h;exact Q4 _
 | o::qs,r,r',h=>by
  simp only[back]at h;split at h
  ·rename_i r1 h1;have:=uJ h1;refine Rt this ?_;unfold uE at h;repeat' (split at h)
   all_goals first
    | (simp only[Q2]at h;subst h;simp)
    | cases h
  cases h
theorem zF{P:Program}{N:Nat}{ops0:Array Oper}{H:View} : ∀{qs:List Oper} {r r':List E} {a:Act} {vs:List Value},
  back P N ops0 qs r=UK r'->a.tmps.size=N->evs (cz a) H r'=UK vs->
  ∃a',QRun P ops0 H qs a a'/\a'.tmps.size=N/\a'.defers=a.defers/\(∀t,(∀o∈qs,o.dst≠UK t)->a'.tmps[t]? = a.tmps[t]?)/\
   ∃us ws,evs (cz a') H r=UK us/\vs=us++ws
 | [],r,r',a,vs,h,hN,hv=>by simp[back]at h;subst h;exact⟨a,rfl,hN,rfl,λ_ _=>rfl,vs,[],hv,by simp⟩
 | o::qs,r,r',a,vs,h,hN,hv=>by
  simp only[back]at h;split at h
  ·rename_i r1 h1;obtain⟨u,hy,hsz,us,ws,hus,rfl⟩:=zS hN h hv;obtain⟨a',hq,hsz',hd,hfr,us',ws',hus',rfl⟩:=zF h1 hsz hus;refine⟨a',⟨u,hy,hq⟩,hsz',?_,?_,us',ws'++ws,hus',by simp⟩
   ·rw[hd];cases o.dst<;>rfl
   intro t ht;rw[hfr t (λo' ho'=>ht o' (Q7 _ ho'))];have:=ht o (Rm ..);cases hdst:o.dst with
   | none=>rfl
   | some d=>have hne:d≠t:=λe=>this (by rw[hdst,e]);simp[Act.put,Sd hne]
  cases h
def dstsOf(qs:List Oper):List Nat:=qs.filterMap (·.dst)
variable{ρ:Env}
theorem tK{qs:List Oper}{ts:List Nat}{es:List E}{a:Act}{us:List (Nat × Value)}(hb:back P N ops0 qs (ts.map E.tmp)=UK es)(hN:a.tmps.size=N)(hρ:Sat ρ a)(hv:evP (look ρ) H (ts.zip es)=UK us)(hc:okE (look ρ) H (es.drop ts.length)):
  ∃a',QRun P ops0 H qs a a'/\a'.tmps.size=N/\a'.defers=a.defers/\Sat (cJ ρ (dstsOf qs)) a'/\(∀p∈us,a'.tmps[p.1]? = UK p.2):=by
 have hl:ts.length<=es.length:=by simpa using uJ hb
 obtain⟨h1,h2⟩:=BV hl hv;obtain⟨ws,h3⟩:=Gl hc;have h4:=GP h1 h3;rw[SX]at h4;have hs : ∀t v,look ρ t=UK v->cz a t=UK v:=λt v h=>hρ t v h;obtain⟨a',hq,hsz,hd,hfr,us',ws',hus,he⟩:=zF hb hN (sQ hs h4);refine⟨a',hq,hsz,hd,?_,?_⟩
 ·intro t v h;obtain⟨hk,hl⟩:=np _ _ _ _ h;rw[hfr t (λo ho hdst=>hk (Te.2 ⟨o,ho,hdst⟩))];exact hρ t v hl
 have e1:us'=us.map (·.2):=by
  have hlen:us'.length=(us.map (·.2)).length:=by have:=Hd hus;rw[this];simp[<-h2]
  have:=congrArg (List.take us'.length) he;rw[TJ,hlen,TJ]at this;exact this.symm
 rw[e1]at hus;exact EZ h2 hus
theorem zv{a:Act}{vs:List (Nat × Value)}(h:Sat ρ a)(hv : ∀p∈vs,a.tmps[p.1]? = UK p.2):Sat (dE ρ vs) a:=by
 intro t v hl;rcases zg vs ρ t v hl with h1 | h1
 ·exact hv _ h1
 exact h t v h1
theorem Dw{a:Act}{ts:List Nat}(h:Sat ρ a):Sat (cJ ρ ts) a:=λt v hl=>h t v (np _ _ _ _ hl).2
theorem GL{a:Act}{dst:Option Nat}{keep:Bool}{v:Value}(h:Sat ρ a)(hd : ∀d,dst=UK d->d<a.tmps.size):Sat (putE ρ dst keep v) (a.put dst v):=by
 cases dst with
 | none=>exact h
 | some d=>
  have hsz:=hd d rfl;intro t u hl;simp only[putE]at hl;split at hl
  ·rw[af]at hl;split at hl
   ·rename_i e;subst e;simp only[Q2]at hl;subst hl;simp[Act.put,hsz]
   rename_i e;simp only[Act.put,Sd e];exact h t u hl
  obtain⟨h1,h2⟩:=np _ _ _ _ hl;have hne:d≠t:=λe=>h1 (by simp[e]);simp only[Act.put,Sd hne];exact h t u h2
def Fw(r:Option Nat):Fence:={ Fence.wide with round:=r }
structure Same(w w':World):Prop where
 os:w'.os=w.os
 output:w'.output=w.output
 tape:w'.tape=w.tape
 size:w.heap.size<=w'.heap.size
 defs : ∀b:Nat,w.heap[b]? = UK (.deferred (UK []))->w'.heap[b]? = UK (.deferred (UK []))
theorem Same.refl(w:World):Same w w:=⟨rfl,rfl,rfl,Q4 _,λ_ h=>h⟩
theorem Same.trans{a b c:World}(h:Same a b)(k:Same b c):Same a c:=⟨k.os.trans h.os,k.output.trans h.output,k.tape.trans h.tape,Rt h.size k.size,λi e=>k.defs i (h.defs i e)⟩
theorem Same.drawn{w:World}{n:Nat}:Same w { w with drawn:=n }:=⟨rfl,rfl,rfl,Q4 _,λ_ h=>h⟩
theorem Same.oQ{w w':World}(h1:w'.os=w.os)(h2:w'.output=w.output)(h3:w'.tape=w.tape)(hs:w.heap.size<=w'.heap.size){g:Nat}{o:Obj}(hg:w.heap[g]? = UK o)(ho:o≠.deferred (UK []))(hk : ∀k,k<w.heap.size->k≠g->w'.heap[k]? = w.heap[k]?):Same w w':=
 ⟨h1,h2,h3,hs,λb hb=>by
  have hne:b≠g:=λe=>by rw[e,hg]at hb;exact ho (Option.some.inj hb)
  rw[hk b (Rk.1 hb).1 hne];exact hb⟩
theorem Same.Cl{w w':World}(h1:w'.os=w.os)(h2:w'.output=w.output)(h3:w'.tape=w.tape)(hs:w.heap.size<=w'.heap.size)(hk : ∀k,k<w.heap.size->w'.heap[k]? = w.heap[k]?):Same w w':=
 ⟨h1,h2,h3,hs,λb hb=>by rw[hk b (Rk.1 hb).1];exact hb⟩
class OP where
 op:List PanicEntry->Heap->Prop
class PP where
 kp:List PanicEntry->Heap->Prop
 /-- What stands in the cz wherever it may. -/
 fx:Env->Prop
instance (priority:=low) noPP:PP:=⟨λ_ _=>False,λ_=>True⟩
instance (priority:=low) noOP:OP:=⟨λ_ _=>False⟩
def iG[po:OP](P:Program)(s:Sem Next)(h:Heap)(K:Value->Heap->Prop):Prop:=
 ∀w:World,w.heap=h->∀(r:Option Nat) (o:Oper) (a:Act) (K':Act->World->Prop) (Q':Exit->Act->World->Prop),
  (∀v w',K v w'.heap->Same w w'->K' (a.put o.dst v) w')->(∀ch w',po.op ch w'.heap->Same w w'->Q' (.panic ch) a w')->o.uponIn (Fw r) 0 P a K' Q' (s.run P w)
def asg(us:List (Nat × Value)):Operand->Value
 | .tmp t=>(look us t).getD undef
 | .const v=>v
 | .global g=>UN (UK ⟨g,0,UL⟩)
 | .func f=>.func (.func f) #[] #[]
def bL(op : Op)(ty : TypeId)(us : List (Nat × Value)) : Sem Next := execOp (asg us) { dst := UL, op, type := ty, pos := "", after := #[], guard := UL }
def eA:Op->Bool
 | .select .. | .defer _=>UP
 | _=>UO
def tmpsOf(o:Oper):List Nat:=o.op.operands.toList.filterMap fun | .tmp t=>UK t | _=>UL
theorem MN{o:Oper}{a:Act}{us:List (Nat × Value)}(hp:eA o.op=UO)(ht:us.map (·.1)=tmpsOf o)(hv : ∀p∈us,a.tmps[p.1]? = UK p.2):
  execOp a.eval o=bL o.op o.type us:=by
 have h1 : ∀x∈o.op.operands,a.eval x=asg us x:=by
  intro x hx;cases x with
  | tmp t=>
   have hm:t∈us.map (·.1):=by rw[ht];exact Te.2 ⟨.tmp t,by simpa using hx,rfl⟩
   obtain⟨v,hl⟩:=A9 hm;have:=hv _ (Ew hl);simp only at this;simp[asg,hl,Act.eval,this]
  | const v=>rfl
  | global g=>rfl
  | func f=>rfl
 rw[execOp_congr o (by intro cs b e;simp[eA,e]at hp) h1];rfl
theorem A2{po:OP}{o:Oper}{a:Act}{us:List (Nat × Value)}{w:World}{r:Option Nat}{K:Value->Heap->Prop}{K':Act->World->Prop}{Q':Exit->Act->World->Prop}(hp:eA o.op=UO)(ht:us.map (·.1)=tmpsOf o)(hv : ∀p∈us,a.tmps[p.1]? = UK p.2)(hr:iG P (bL o.op o.type us) w.heap K)(hK : ∀v w',K v w'.heap->Same w w'->K' (a.put o.dst v) w')(hQ : ∀ch w',po.op ch w'.heap->Same w w'->Q' (.panic ch) a w'):o.wpIn (Fw r) 0 P a w K' Q':=by refine⟨λ_ _=>trivial,?_⟩;rw[Oper.semAt_eq _ _ _ (by intro c e;simp[eA,e]at hp),MN hp ht hv];exact hr w rfl r o a K' Q' hK hQ
inductive Reg where
 | fin (kill:List Nat) (sets:List (Nat × E)) (chk:List E)
 | loud (kill:List Nat) (sets args:List (Nat × E)) (grd:Option (E × Bool)) (chk:List E) (tail:Bool) (op:Op) (ty:TypeId) (dst:Option Nat) (keep:Bool) (next:Reg)
 | both (x y:Reg)
 deriving Inhabited
def part(m:Option View)(h:Heap):View:=m.getD (vw h)
def pR(S:View->View->Prop)(m:Option View)(h:Heap):Prop:=∀H,m=UK H->S H (vw h)
def keeps(m:Option View)(h:Heap):Prop:=pR View.le m h
def nothing:View:=λ_=>UL
abbrev opAt[pp:PP](m:Option View):OP:=⟨λch h=>(m.isNone=UO\/∀ρ,pp.fx ρ)/\pp.kp ch h⟩
abbrev ppD(pp:PP):PP:=⟨λch h=>(∀ρ,pp.fx ρ)/\pp.kp ch h,λ_=>True⟩
def dd[pp:PP](S:View->View->Prop)(P:Program)(m:Option View)(r:Reg)(Q:Env->Heap->Prop)(ρ:Env)(h:Heap):Prop:=
 match r with
 | .fin kill sets chk=>∃vs,evP (look ρ) (part m h) sets=UK vs/\okE (look ρ) (part m h) chk/\Q (dE (cJ ρ kill) vs) h
 | .loud kill sets args grd chk tail op ty dst keep next=>
  ∃vs us,evP (look ρ) (part m h) sets=UK vs/\evP (look ρ) (part m h) args=UK us/\okE (look ρ) (part m h) chk/\pp.fx (dE (cJ ρ kill) vs)/\
   match grd with
   | none=>@iG (opAt m) P (bL op ty us) h λv h'=>pR S (if tail then UL else m) h'/\dd S P (if tail then m.map (λ_=>nothing) else m) next Q (putE (dE (cJ ρ kill) vs) dst keep v) h'
   | some (g,b)=>∃gv,ev (look ρ) (part m h) g=UK gv/\
    (gv = .bool b->@iG (opAt m) P (bL op ty us) h λv h'=>pR S (if tail then UL else m) h'/\dd S P (if tail then m.map (λ_=>nothing) else m) next Q (putE (dE (cJ ρ kill) vs) dst keep v) h')/\
    (gv≠.bool b->dd S P (if tail then m.map (λ_=>nothing) else m) next Q (putE (dE (cJ ρ kill) vs) dst keep undef) h)
 | .both x y=>dd S P m x Q ρ h/\dd S P m y Q ρ h
def eV[pp:PP](P:Program)(m:Option View)(r:Reg)(Q:Env->Heap->Prop)(ρ:Env)(h:Heap):Prop:=dd View.le P m r Q ρ h
def Jv(ops0:Array Oper)(o:Oper):Option Nat:=
 match o.guard with
 | some (j,_)=>(ops0[j]?).bind (·.dst)
 | none=>UL
def JD(ops0:Array Oper)(l:List Oper):List Nat:=l.flatMap λo=>tmpsOf o++(Jv ops0 o).toList
def NC(N:Nat):Option Nat->Bool
 | some d=>decide (d<N)
 | none=>UO
def C5(P:Program)(N:Nat)(ops0:Array Oper)(live:List Nat)(qs:List Oper):Option Reg:=
 let outs:=(dstsOf qs).filter live.contains
 match back P N ops0 qs (outs.map E.tmp)with
 | some es=>UK (.fin (dstsOf qs) (outs.zip es) (es.drop outs.length))
 | none=>UL
def wV(P:Program)(N:Nat)(ops0:Array Oper)(live:List Nat)(qs:List Oper)(o:Oper)(rest:List Oper)(tail:Bool)(next:Reg):Option Reg:=
 let need:=live++JD ops0 rest
 let outs:=(dstsOf qs).filter need.contains
 let args:=tmpsOf o
 let keep:=match o.dst with | some d=>need.contains d | none=>UP
 if eA o.op&&NC N o.dst then
  match o.guard with
  | none=>
   match back P N ops0 qs ((outs++args).map E.tmp)with
   | some es=>UK (.loud (dstsOf qs) (outs.zip es) (args.zip (es.drop outs.length)) UL (es.drop (outs++args).length) tail o.op o.type o.dst keep next)
   | none=>UL
  | some (j,b)=>
   match (ops0[j]?).bind (·.dst)with
   | some c=>
    match back P N ops0 qs ((outs++args++[c]).map E.tmp)with
    | some es=>match es.drop (outs++args).length with
     | g::chk=>UK (.loud (dstsOf qs) (outs.zip es) (args.zip (es.drop outs.length)) (UK (g,b)) chk tail o.op o.type o.dst keep next)
     | []=>UL
    | none=>UL
   | none=>UL
 else UL
def isQ(P:Program)(o:Oper):Bool:=(opE P o.op).isSome&&o.dst.isSome
def regU(P:Program)(N:Nat)(ops0:Array Oper)(live:List Nat):Nat->List Oper->Option Reg
 | 0,_=>UL
 | f+1,ops=>
  let qs:=ops.takeWhile (isQ P);match ops.dropWhile (isQ P)with
  | []=>C5 P N ops0 live qs
  | o::rest=>match regU P N ops0 live f rest with
   | some next=>wV P N ops0 live qs o rest UP next
   | none=>UL
theorem ta{ρ:Nat->Option Value}{H:View} : ∀{ts ss:List Nat} {es:List E} {us vs:List (Nat × Value)},ts.length<=es.length->
  evP ρ H (ts.zip es)=UK us->evP ρ H (ss.zip (es.drop ts.length))=UK vs->evP ρ H ((ts++ss).zip es)=UK (us++vs)
 | [],ss,es,us,vs,_,h1,h2=>by simp[evP]at h1;subst h1;simpa using h2
 | t::ts,ss,[],us,vs,hl,_,_=>by simp at hl
 | t::ts,ss,e::es,us,vs,hl,h1,h2=>by
  simp only[TF,evP]at h1;split at h1
  ·rename_i v vs' hv hvs;simp only[Q2]at h1;subst h1;simp only[TX,TF,evP,hv,ta (by simpa using hl) hvs (by simpa using h2)]
  cases h1
theorem Ey{ρ:Nat->Option Value}{ts:List Nat}{es:List E}{us:List (Nat × Value)}(hl:ts.length<=es.length)(h:evP ρ H (ts.zip es)=UK us):us.map (·.1)=ts:=(BV hl h).2
variable{live:List Nat}
theorem pP{pp:PP}{qs rest:List Oper}{o:Oper}{tail:Bool}{next R:Reg}(hR:wV P N ops0 live qs o rest tail next=UK R){S:View->View->Prop}{m:Option View}{Q:Env->Heap->Prop}{h:Heap}{a:Act}(hN:a.tmps.size=N)(hρ:Sat ρ a)(hw:dd S P m R Q ρ h):
  eA o.op=UO/\(∀d,o.dst=UK d->d<N)/\∃a' ρ' us keep,QRun P ops0 (part m h) qs a a'/\a'.tmps.size=N/\a'.defers=a.defers/\Sat ρ' a'/\us.map (·.1)=tmpsOf o/\(∀p∈us,a'.tmps[p.1]? = UK p.2)/\
   pp.fx ρ'/\(Region.wanted o (yielded ops0 a'.tmps)=UO->@iG (opAt m) P (bL o.op o.type us) h λv h'=>pR S (if tail then UL else m) h'/\dd S P (if tail then m.map (λ_=>nothing) else m) next Q (putE ρ' o.dst keep v) h')/\
   (Region.wanted o (yielded ops0 a'.tmps)=UP->dd S P (if tail then m.map (λ_=>nothing) else m) next Q (putE ρ' o.dst keep undef) h):=by
 unfold wV at hR;simp only at hR;split at hR;case isFalse=>cases hR
 rename_i hpd;simp only[Q9]at hpd;refine⟨hpd.1,?_,?_⟩
 ·intro d hd;have:=hpd.2;simpa[hd,NC]using this
 generalize ho:(dstsOf qs).filter (live++JD ops0 rest).contains=outs at hR;cases hg:o.guard with
 | none=>
  simp only[hg]at hR;split at hR;case h_2=>cases hR
  rename_i es hb;simp only[Q2]at hR;subst hR;simp only[dd]at hw;obtain⟨vs,us,h1,h2,h3,hfx,h4⟩:=hw;have hl:(outs++tmpsOf o).length<=es.length:=by simpa using uJ hb
  have hl1:outs.length<=es.length:=by simp at hl;omega
  obtain⟨a',hq,hsz,hd,hs,hp⟩:=tK hb hN hρ (ta hl1 h1 h2) h3;refine⟨a',_,us,_,hq,hsz,hd,zv hs (λp hp'=>hp p (Ss _ hp')),Ey (by simp at hl ⊢;omega) h2,λp hp'=>hp p (Sq _ hp'),hfx,λ_=>h4,λhw=>?_⟩;simp[Region.wanted,hg]at hw
 | some jb=>
  obtain⟨j,b⟩:=jb;simp only[hg]at hR;split at hR;case h_2=>cases hR
  rename_i c hc;split at hR;case h_2=>cases hR
  rename_i es hb;split at hR;case h_2=>cases hR
  rename_i g chk hge;simp only[Q2]at hR;subst hR;simp only[dd]at hw;obtain⟨vs,us,h1,h2,h3,hfx,gv,h4,h5,h6⟩:=hw;have hl:(outs++tmpsOf o++[c]).length<=es.length:=by simpa using uJ hb
  have hl1:outs.length<=es.length:=by simp at hl;omega
  have hl2:(outs++tmpsOf o).length<=es.length:=by simp at hl ⊢;omega
  have e1:evP (look ρ) (part m h) ([c].zip (es.drop (outs++tmpsOf o).length))=UK [(c,gv)]:=by rw[hge];simp[evP,h4]
  have e2:okE (look ρ) (part m h) (es.drop (outs++tmpsOf o++[c]).length):=by
   have:es.drop (outs++tmpsOf o++[c]).length=(es.drop (outs++tmpsOf o).length).drop 1:=by rw[SU,show(outs++tmpsOf o++[c]).length=(outs++tmpsOf o).length+1 from by rw[Rl];rfl]
   rw[this,hge];exact h3
  obtain⟨a',hq,hsz,hd,hs,hp⟩:=tK hb hN hρ (ta hl2 (ta hl1 h1 h2) e1) e2;have hcv:a'.tmps[c]? = UK gv:=hp (c,gv) U2;have hwant:Region.wanted o (yielded ops0 a'.tmps)=UO↔gv = .bool b:=by simp only[Region.wanted,hg,yielded,hc,RD,hcv,beq_iff_eq];cases gv<;>simp
  refine⟨a',_,us,_,hq,hsz,hd,zv hs (λp hp'=>hp p (by simp[hp'])),Ey (by simp at hl ⊢;omega) h2,λp hp'=>hp p (by simp[hp']),hfx,λhw=>h5 (hwant.1 hw),λhw=>h6 ?_⟩;intro e;rw[hwant.2 e]at hw;cases hw
theorem xN{pp:PP}{qs:List Oper}{R:Reg}(hR:C5 P N ops0 live qs=UK R){S:View->View->Prop}{m:Option View}{Q:Env->Heap->Prop}{h:Heap}{a:Act}(hN:a.tmps.size=N)(hρ:Sat ρ a)(hw:dd S P m R Q ρ h):
  ∃a' ρ',QRun P ops0 (part m h) qs a a'/\a'.tmps.size=N/\a'.defers=a.defers/\Sat ρ' a'/\Q ρ' h:=by
 unfold C5 at hR;simp only at hR;split at hR;case h_2=>cases hR
 rename_i es hb;simp only[Q2]at hR;subst hR;simp only[dd]at hw;obtain⟨vs,h1,h2,h3⟩:=hw;obtain⟨a',hq,hsz,hd,hs,hp⟩:=tK hb hN hρ h1 h2;exact⟨a',_,hq,hsz,hd,zv hs hp,h3⟩
def lZ[pp:PP](N:Nat)(D:List Deferred)(w:World)(Q:Env->Heap->Prop):Exit->Act->World->Prop
 | .normal,a,w'=>∃ρ,Sat ρ a/\a.tmps.size=N/\a.defers=D/\Q ρ w'.heap/\Same w w'
 | .panic ch,a,w'=>∃ρ,Sat ρ a/\a.tmps.size=N/\a.defers=D/\(pp.fx ρ/\pp.kp ch w'.heap)/\Same w w'
 | _,_,_=>False
theorem Hl{op:Op}{e:E}(h:opE P op=UK e):eA op=true:=by cases op<;>first | rfl | simp[opE]at h
theorem xb{P:Program}{r:Option Nat}{ops0:Array Oper}{H:View}{w:World}(hw:H.sub (vw w.heap)){Q:Exit->Act->World->Prop}{rest:List Oper} :
  ∀{qs:List Oper} {a a':Act},(∀o∈qs,isQ P o=UO)->QRun P ops0 H qs a a'->wpListIn (Fw r) 0 P ops0 Q rest a' w->wpListIn (Fw r) 0 P ops0 Q (qs++rest) a w
 | [],a,a',_,hq,h=>by simp only[QRun]at hq;subst hq;exact h
 | o::qs,a,a',hall,hq,h=>by
  obtain⟨v,hy,hq⟩:=hq;have ih:=xb hw (λo' ho'=>hall o' (Q7 _ ho')) hq h;have hpl:eA o.op=true:=by have:=hall o (Rm ..);simp only[isQ,Q9,Um]at this;obtain⟨⟨e,he⟩,_⟩:=this;exact Hl he
  simp only[TX,wpListIn];rcases hy with⟨hwt,hrun,_⟩ | ⟨hwt,rfl⟩
  ·rw[if_pos hwt];refine⟨λ_ _=>trivial,?_⟩;rw[Oper.semAt_eq _ _ _ (by intro c e;simp[eA,e]at hpl),hrun w hw];exact ih
  rw[if_neg (by simp[hwt])];exact⟨λ_ _=>trivial,ih⟩
theorem tA{α:Type}(p:α->Bool) : ∀(l:List α),∀x∈l.takeWhile p,p x=UO
 | [],_,h=>by simp at h
 | y::l,x,h=>by
  simp only[List.takeWhile_cons]at h;split at h
  ·rename_i hy;rcases Ru.1 h with rfl | h
   ·exact hy
   exact tA p l x h
  cases h
theorem tZ{pp:PP}{P:Program}{N:Nat}{ops0:Array Oper}{live:List Nat}{r:Option Nat}{Q:Env->Heap->Prop}{D:List Deferred}{w0:World} :
  ∀(f:Nat) {ops:List Oper} {R:Reg} {ρ:Env} {a:Act} {w:World},regU P N ops0 live f ops=UK R->a.tmps.size=N->a.defers=D->Sat ρ a->Same w0 w->eV P UL R Q ρ w.heap->
   wpListIn (Fw r) 0 P ops0 (lZ N D w0 Q) ops a w
 | 0,_,_,_,_,_,h,_,_,_,_,_=>by simp[regU]at h
 | f+1,ops,R,ρ,a,w,hR,hN,hD,hρ,hS,hw=>by
  simp only[regU]at hR;have hsplit:=List.takeWhile_append_dropWhile (p:=isQ P) (l:=ops);have hall : ∀o∈ops.takeWhile (isQ P),isQ P o=true:=tA _ _;cases hrest:ops.dropWhile (isQ P)with
  | nil=>simp only[hrest]at hR;obtain⟨a',ρ',hq,hsz,hd,hs,hQ⟩:=xN hR hN hρ hw;rw[hrest]at hsplit;rw[<-hsplit];exact xb (H:=vw w.heap) (View.yC (View.le_refl _)) hall hq ⟨ρ',hs,hsz,hd.trans hD,hQ,hS⟩
  | cons o rest=>
   simp only[hrest]at hR;split at hR;case h_2=>cases hR
   rename_i next hnext
   obtain⟨hp,hdst,a',ρ',us,keep,hq,hsz,hd,hs,hk,hv,hfx,h1,h2⟩:=pP hR hN hρ hw;rw[hrest]at hsplit;rw[<-hsplit];refine xb (H:=vw w.heap) (View.yC (View.le_refl _)) hall hq ?_;have hput : ∀v,(a'.put o.dst v).tmps.size=N:=λv=>by cases o.dst<;>simp[Act.put,hsz]
   have hdef : ∀v,(a'.put o.dst v).defers=D:=λv=>by cases ho:o.dst<;>simp[Act.put,hd,hD]
   have hsat : ∀v,Sat (putE ρ' o.dst keep v) (a'.put o.dst v):=λv=>GL hs (λd hd=>by rw[hsz];exact hdst d hd);simp only[wpListIn];split
   ·rename_i hwt;exact A2 hp hk hv (h1 hwt) (λv w' ⟨_,hreg⟩ hsame=>tZ f hnext (hput v) (hdef v) (hsat v) (hS.trans hsame) hreg) λch w' hc hsame=>⟨ρ',hs,hsz,hd.trans hD,⟨hfx,hc.2⟩,hS.trans hsame⟩
   rename_i hwt;exact⟨λ_ _=>trivial,tZ f hnext (hput _) (hdef _) (hsat _) hS (h2 (by simpa using hwt))⟩
section
variable{P:Program}{ops:Array Oper}{r:Option Nat}{Q:Exit->Act->World->Prop}{G:Array Bool->World->Prop}
abbrev rdy(ops:Array Oper)(listed:Array Bool):List Nat:=Region.ready .any ops listed
def anyG(P:Program)(r:Option Nat)(ops:Array Oper)(Q:Exit->Act->World->Prop)(G:Array Bool->World->Prop):Nat->Array Bool->Act->World->Prop
 | 0,listed,a,w=>G listed w/\rdy ops listed=[]/\Q .normal a w
 | f+1,listed,a,w=>G listed w/\(rdy ops listed=[]->Q .normal a w)/\∀i∈rdy ops listed,wpOpIn (Fw r) 0 P ops Q i (anyG P r ops Q G f (listed.setIfInBounds i UO)) a w
theorem KV: ∀{f:Nat} {listed:Array Bool} {a:Act} {w:World},anyG P r ops Q G f listed a w->G listed w
 | 0,_,_,_,h=>h.1
 | _+1,_,_,_,h=>h.1
theorem DE : ∀{f:Nat} {listed:Array Bool} {a:Act} {w:World},anyG P r ops Q G f listed a w->wpAnyIn (Fw r) 0 P .any ops Q f listed a w
 | 0,_,_,_,h=>h.2
 | _+1,_,_,_,h=>⟨h.2.1,λi hi=>wpOpIn_mono (λ_ _ h1=>DE h1) (h.2.2 i hi)⟩
def nG(ops:Array Oper)(listed:Array Bool):Prop:=
 ∀j oj,ops[j]? = UK oj->listed.getD j UP=UO->∀e∈oj.after,Region.binds .any e=UO->listed.getD e.on UP=UO
variable{listed:Array Bool}
theorem nG.set{i:Nat}(h:nG ops listed)(hi:i∈rdy ops listed):nG ops (listed.setIfInBounds i UO):=by
 obtain⟨_,oi,hoi,hall⟩:=mem_ready.1 hi;intro j oj hj hl e he hb;by_cases hij:i=j
 ·subst hij;have:oj=oi:=Option.some.inj (hj.symm.trans hoi);subst this;exact getD_set_true (hall e he hb)
 rw[getD_set_ne UP hij]at hl;exact getD_set_true (h j oj hj hl e he hb)
def down(ops:Array Oper):Nat->List Nat->List Nat
 | 0,S=>S
 | j+1,S=>if S.contains j then down ops j (S++match ops[j]? with | some o=>(o.after.toList.filter (Region.binds .any)).map (·.on) | none=>[]) else down ops j S
theorem wz{listed:Array Bool}(hc:nG ops listed) : ∀(n:Nat) (S:List Nat),(∀s∈S,listed.getD s UP=UO)->∀s∈down ops n S,listed.getD s UP=UO
 | 0,_,h,s,hs=>h s hs
 | j+1,S,h,s,hs=>by
  simp only[down]at hs;split at hs
  ·rename_i hj;refine wz hc j _ ?_ s hs;intro t ht;rcases Rj.1 ht with ht | ht
   ·exact h t ht
   cases ho:ops[j]? with
   | none=>simp[ho]at ht
   | some o=>simp only[ho,Sf,SP]at ht;obtain⟨e,⟨he,hb⟩,rfl⟩:=ht;exact hc j o ho (h j (by simpa using hj)) e (by simpa using he) hb
  exact wz hc j S h s hs
theorem rR{o:Oper}{v:Value}{a a':Act}(hy:iO P ops H o v a)(he:execOp a'.eval o=execOp a.eval o)(hw:Region.wanted o (yielded ops a'.tmps)=Region.wanted o (yielded ops a.tmps)):iO P ops H o v a':=by unfold iO at *;rw[he,hw];exact hy
theorem xO{i:Nat}{o:Oper}{v:Value}{a:Act}{w:World}{K:Act->World->Prop}(hp:eA o.op=UO)(hi:ops[i]? = UK o)(hy:iO P ops H o v a)(hw:H.sub (vw w.heap))(h:K (a.put o.dst v) w):wpOpIn (Fw r) 0 P ops Q i K a w:=by
 unfold wpOpIn;simp only[hi];rcases hy with⟨hwt,hv,_⟩ | ⟨hwt,rfl⟩
 ·rw[if_pos hwt];refine⟨λ_ _=>trivial,?_⟩;rw[Oper.semAt_eq _ _ _ (by intro c e;simp[eA,e]at hp),hv w hw];exact h
 rw[if_neg (by simp[hwt])];exact⟨λ_ _=>trivial,h⟩
theorem En{j:Nat}{oi oj:Oper}{v:Value}(hj:ops[j]? = UK oj)(hap:oi.apart ops oj=UO)(hpi:eA oi.op=UO)(hpj:eA oj.op=UO)(hQ : ∀c a d v w,Q (.panic c) (Act.put a d v) w->Q (.panic c) a w){K:Act->World->Prop}{a:Act}{w:World}(hy:iO P ops H oi v a)(h:wpOpIn (Fw r) 0 P ops Q j K (a.put oi.dst v) w):
  wpOpIn (Fw r) 0 P ops Q j (λa' w'=>iO P ops H oi v a'/\K (a'.put oi.dst v) w') a w:=by
 obtain⟨h1,h2,h3⟩:=Oper.apart_spec hap;have hsi : ∀cs b,oi.op≠.select cs b:=λcs b e=>by simp[eA,e]at hpi
 have hsj : ∀cs b,oj.op≠.select cs b:=λcs b e=>by simp[eA,e]at hpj
 have hdj : ∀c,oj.op≠.defer c:=λc e=>by simp[eA,e]at hpj
 have keep : ∀(a:Act),iO P ops H oi v a->∀u,iO P ops H oi v (a.put oj.dst u):=λa hy u=>rR hy (execOp_put oi hsi a oj.dst u h3) (wanted_put oi a oj.dst u h3);have keepD : ∀d,iO P ops H oi v { a with defers:=d::a.defers }:=λd=>rR hy rfl rfl;unfold wpOpIn at *;simp only[hj]at *;rw[wanted_put oj a oi.dst v h1,about_put oj w a oi.dst v h1]at h;split
 ·rename_i hw;simp only[hw,if_true]at h;unfold Oper.wpIn at *;rw[about_put oj w a oi.dst v h1]at h;refine⟨h.1,?_⟩;have h:=h.2;rw[Oper.semAt_eq _ _ _ hdj,execOp_put oj hsj a oi.dst v h1]at h;rw[Oper.semAt_eq _ _ _ hdj];generalize (execOp a.eval oj).run P w=r at *;cases r with
  | ok x w'=>
   cases x<;>simp only[Oper.uponIn]at h ⊢;case value u=>exact⟨keep a hy u,by rw[<-Act.put_comm a v u h2];exact h⟩
   case skip=>exact⟨keep a hy _,by rw[<-Act.put_comm a v undef h2];exact h⟩
   case defer d=>refine⟨keep _ (keepD d) _,?_⟩;rw[<-Act.put_comm _ v undef h2,<-Act.put_defers];exact h
   case enter f args=>
    refine⟨h.1,CallsIn.mono h.2 λe w'' he=>?_⟩;cases e with
    | returned u=>exact⟨keep a hy u,by rw[<-Act.put_comm a v u h2];exact he⟩
    | panicked c=>exact hQ _ _ _ _ _ he
    | outgrown=>exact he
   case row row args=>exact⟨h.1,RowsIn.mono h.2 λu w'' he=>⟨keep a hy u,by rw[<-Act.put_comm a v u h2];exact he⟩⟩
   case round l f tmps assign body=>
    refine⟨h.1,RoundIn.mono h.2 λe w'' he=>?_⟩;cases e with
    | returned u=>exact⟨keep a hy u,by rw[<-Act.put_comm a v u h2];exact he⟩
    | panicked c=>exact hQ _ _ _ _ _ he
    | outgrown=>exact he
  | halt x w'=>cases x<;>simp only[Oper.uponIn]at h ⊢;case panic u=>exact hQ _ _ _ _ _ h
 rename_i hw;simp only[hw]at h;exact⟨h.1,keep a hy _,by rw[<-Act.put_comm a v undef h2];exact h.2⟩
theorem tW{i:Nat}{oi:Oper}{v:Value}(hi:ops[i]? = UK oi)(hpl : ∀(j:Nat) (o:Oper),ops[j]? = UK o->eA o.op=UO)(hQ : ∀c a d v w,Q (.panic c) (Act.put a d v) w->Q (.panic c) a w)(hG : ∀listed w,G (listed.setIfInBounds i UO) w->G listed w)(hcov : ∀listed w,nG ops listed->listed.getD i UO=UP->G listed w->H.sub (vw w.heap)):
  ∀(fuel:Nat) (listed:Array Bool) (a:Act) (w:World),nG ops listed->
   (∀j oj,ops[j]? = UK oj->j≠i->listed.getD j UO=UP->(∀e∈oj.after,Region.binds .any e=UO->e.on≠i)->oi.apart ops oj=UO)->
   i∈rdy ops listed->iO P ops H oi v a->
   anyG P r ops Q G fuel (listed.setIfInBounds i UO) (a.put oi.dst v) w->anyG P r ops Q G (fuel+1) listed a w:=by
 intro fuel;induction fuel with
 | zero=>
  intro listed a w hcl _ hr hy Hs;have hg:=hG _ _ (KV Hs);refine⟨hg,λh=>(by rw[h]at hr;cases hr),λj hj=>?_⟩;by_cases hji:j=i
  ·subst hji;exact xO (hpl _ _ hi) hi hy (hcov listed w hcl (mem_ready.1 hr).1 hg) Hs
  have:j∈rdy ops (listed.setIfInBounds i UO):=ready_mono hj hji;rw[Hs.2.1]at this;cases this
 | succ fuel ih=>
  intro listed a w hcl hfree hr hy Hs;have hg:=hG _ _ (KV Hs);refine⟨hg,λh=>(by rw[h]at hr;cases hr),λj hj=>?_⟩;by_cases hji:j=i
  ·subst hji;exact xO (hpl _ _ hi) hi hy (hcov listed w hcl (mem_ready.1 hr).1 hg) Hs
  have h1:=Hs.2.2 j (ready_mono hj hji);obtain⟨hjun,oj,hoj,hall⟩:=mem_ready.1 hj;have hnot : ∀e∈oj.after,Region.binds .any e=UO->e.on≠i:=λe he hb heq=>by
   have h1:=hall e he hb;have h0:=(mem_ready.1 hr).1;rw[heq]at h1;rcases Ri i listed.size with h' | h'
   ·simp[h']at h0 h1;rw[h0]at h1;cases h1
   simp[Tf h']at h1
  have h2:=En hoj (hfree j oj hoj hji hjun hnot) (hpl _ _ hi) (hpl _ _ hoj) hQ hy h1;have hfree' : ∀k ok,ops[k]? = UK ok->k≠i->(listed.setIfInBounds j UO).getD k UO=UP->
    (∀e∈ok.after,Region.binds .any e=UO->e.on≠i)->oi.apart ops ok=true:=λk ok hk hki hun hno=>by
   refine hfree k ok hk hki ?_ hno;by_cases hjk:j=k
   ·subst hjk;exact hjun
   rw[getD_set_ne UO hjk]at hun;exact hun
  refine wpOpIn_mono (λa' w' h3=>ih (listed.setIfInBounds j UO) a' w' (hcl.set hj) hfree' (ready_mono hr (Ne.symm hji)) h3.1 ?_) h2;rw[Array.setIfInBounds_comm _ _ hji];exact h3.2
end
def BN(P:Program)(ops:Array Oper)(listed:Array Bool):Option Nat:=
 (rdy ops listed).find? λi=>match ops[i]? with | some o=>isQ P o | none=>UP
def covered(P:Program)(ops:Array Oper)(l0:Option Nat)(i:Nat):Bool:=
 match ops[i]? with
 | some o=>vV P o||match l0 with | none=>UO | some l=>(down ops (l+1) [l]).contains i&&i != l
 | none=>UP
def qB(P:Program)(ops:Array Oper)(l0:Option Nat):Nat->Array Bool->Option (List Nat × Array Bool)
 | 0,listed=>match BN P ops listed with | none=>UK ([],listed) | some _=>UL
 | f+1,listed=>match BN P ops listed with
  | none=>UK ([],listed)
  | some i=>if Region.free .any ops listed i&&covered P ops l0 i&&l0 != UK i then
    match qB P ops l0 f (listed.setIfInBounds i UO)with
    | some (qs,l1)=>UK (i::qs,l1)
    | none=>UL
   else UL
def nH(ops:Array Oper)(l:List Nat):List Oper:=l.filterMap (ops[·]?)
def zc(ops:Array Oper)(listed:Array Bool):List Oper:=nH ops ((List.range ops.size).filter λj=>!listed.getD j UO)
def jK(node:Nat->Option Reg):List Nat->Option Reg
 | []=>UL
 | [i]=>node i
 | i::is=>match node i,jK node is with
  | some x,UK y=>UK (.both x y)
  | _,_=>UL
def regD(P:Program)(N:Nat)(ops:Array Oper)(live:List Nat)(l0:Option Nat):Nat->Array Bool->Option Reg
 | 0,_=>UL
 | f+1,listed=>match qB P ops l0 ops.size listed with
  | none=>UL
  | some (qs,l1)=>match rdy ops l1 with
   | []=>C5 P N ops live (nH ops qs)
   | rs=>jK (λi=>match ops[i]? with
    | none=>UL
    | some o=>match regD P N ops live l0 f (l1.setIfInBounds i UO)with
     | some next=>wV P N ops live (nH ops qs) o (zc ops (l1.setIfInBounds i UO)) (l0 == UK i) next
     | none=>UL) rs
def left(ops:Array Oper)(listed:Array Bool):Nat:=(List.range ops.size).countP λj=>!listed.getD j UO
theorem BC{α:Type}{p q:α->Bool} : ∀{l:List α} {x:α},(∀y,q y=UO->p y=UO)->x∈l->p x=UO->q x=UP->l.countP q<l.countP p
 | [],_,_,h,_,_=>by cases h
 | y::l,x,hqp,hx,hp,hq=>by
  have hle:l.countP q<=l.countP p:=List.countP_mono_left (λy _=>hqp y);simp only[List.countP_cons];rcases Ru.1 hx with rfl | hx
  ·simp[hp,hq];omega
  have:=BC hqp hx hp hq;cases hqy:q y
  ·simp;omega
  simp[hqp y hqy];omega
variable{listed:Array Bool}
theorem zK{ops:Array Oper}{i:Nat}(hi:i∈rdy ops listed):left ops (listed.setIfInBounds i UO)<left ops listed:=by
 obtain⟨h0,o,ho,_⟩:=mem_ready.1 hi;refine BC (x:=i) (λy hy=>?_) (SG.2 (Rk.1 ho).1) (by simpa using h0) ?_
 ·by_cases h:i=y
  ·subst h;simpa using h0
  rw[getD_set_ne UO h]at hy;exact hy
 have hlt:i<listed.size:=by
  rcases Ri i listed.size with h | h
  ·exact h
  simp[Tf h]at h0
 simp[hlt]
section
variable{P:Program}{N:Nat}{ops:Array Oper}{live:List Nat}{l0:Option Nat}{r:Option Nat}{D:List Deferred}{w0:World}{Q:Env->Heap->Prop}{H:View}
def GH(l0:Option Nat)(H:View)(listed:Array Bool)(w:World):Prop:=H.sub (vw w.heap)\/∃l,l0=UK l/\listed.getD l UP=UO
def partAt(l0:Option Nat)(H:View)(listed:Array Bool):View:=match l0 with | some l=>if listed.getD l UP then nothing else H | none=>H
theorem Dk{i:Nat}(h:BN P ops listed=UK i):i∈rdy ops listed/\∃o,ops[i]? = UK o/\isQ P o=true:=by
 refine⟨SZ h,?_⟩;have:=Uw h;cases ho:ops[i]? with
 | none=>simp[ho]at this
 | some o=>simp[ho]at this;exact⟨o,rfl,this⟩
theorem vk(hpl : ∀(j:Nat) (o:Oper),ops[j]? = UK o->eA o.op=UO) : ∀{f:Nat} {listed l1:Array Bool} {qs:List Nat},qB P ops l0 f listed=UK (qs,l1)->nG ops listed->
  nG ops l1/\BN P ops l1=UL/\(∀l,l0=UK l->l1.getD l UP=listed.getD l UP)/\
  ∀{a a':Act} {w:World} {Q':Exit->Act->World->Prop},(∀c a d v w,Q' (.panic c) (Act.put a d v) w->Q' (.panic c) a w)->QRun P ops (partAt l0 H listed) (nH ops qs) a a'->
   (∀F,left ops l1<=F->anyG P r ops Q' (GH l0 H) F l1 a' w)->∀F,left ops listed<=F->anyG P r ops Q' (GH l0 H) F listed a w
 | 0,listed,l1,qs,h,hc=>by
  simp only[qB]at h;split at h
  ·rename_i hq;simp only[Q2,SF]at h;obtain⟨rfl,rfl⟩:=h;refine⟨hc,hq,λ_ _=>rfl,fun{a a' w Q'} _ hrun hany=>?_⟩;simp only[nH,List.filterMap_nil,QRun]at hrun;subst hrun;exact hany
  cases h
 | f+1,listed,l1,qs,h,hc=>by
  simp only[qB]at h;split at h
  ·rename_i hq;simp only[Q2,SF]at h;obtain⟨rfl,rfl⟩:=h;refine⟨hc,hq,λ_ _=>rfl,fun{a a' w Q'} _ hrun hany=>?_⟩;simp only[nH,List.filterMap_nil,QRun]at hrun;subst hrun;exact hany
  rename_i i hq;split at h;case isFalse=>cases h
  rename_i hfc;simp only[Q9,bne_iff_ne,ne_eq]at hfc;obtain⟨⟨hfree,hcov⟩,hne⟩:=hfc;split at h;case h_2=>cases h
  rename_i qs' l1' hrec;simp only[Q2,SF]at h;obtain⟨rfl,rfl⟩:=h;obtain⟨hi,o,ho,hoq⟩:=Dk hq;obtain⟨hc1,hf1,hl1,hstep⟩:=vk hpl hrec (hc.set hi);have hl0 : ∀l,l0=UK l->(listed.setIfInBounds i UO).getD l UP=listed.getD l false:=λl hl=>getD_set_ne UP (λe=>hne (by rw[hl,e]));refine⟨hc1,hf1,λl hl=>(hl1 l hl).trans (hl0 l hl),fun{a a' w Q'} hQ hrun hany F hF=>?_⟩;have hrun':QRun P ops (partAt l0 H listed) (o::nH ops qs') a a':=by simpa[nH,ho]using hrun
  obtain⟨v,hy,hrun2⟩:=hrun';have hpart:partAt l0 H (listed.setIfInBounds i UO)=partAt l0 H listed:=by
   unfold partAt;cases l0 with
   | none=>rfl
   | some l=>simp only[hl0 l rfl]
  have hlt:=zK hi;obtain⟨F',rfl⟩ : ∃F',F=F'+1:=⟨F-1,by omega⟩;have hsub:=hstep (w:=w) hQ (by rw[hpart];exact hrun2) hany F' U1;have hGset : ∀listed w,GH l0 H (listed.setIfInBounds i UO) w->GH l0 H listed w:=by
   rintro listed w (h | ⟨l,hl,h⟩)
   ·exact .inl h
   refine .inr ⟨l,hl,?_⟩;rw[getD_set_ne UP (λe=>hne (by rw[hl,e]))]at h;exact h
  simp only[covered,ho,Sa]at hcov;by_cases hpure:vV P o=UO
  ·have hy':iO P ops nothing o v a:=by
    rcases hy with⟨hw,hv,hp⟩ | hy
    ·exact .inl ⟨hw,λw _=>hp hpure w,hp⟩
    exact .inr hy
   exact tW (H:=nothing) ho hpl hQ hGset (λ_ _ _ _ _=>λ_ _ h=>by cases h) F' listed a w hc (Region.free_spec ho hfree) hi hy' hsub
  have hcov:=hcov.resolve_left hpure;cases hl:l0 with
  | none=>
   subst hl;refine tW (H:=H) ho hpl hQ hGset (λlisted w _ _ hg=>?_) F' listed a w hc (Region.free_spec ho hfree) hi (by simpa[partAt]using hy) hsub;rcases hg with h | ⟨l,h,_⟩
   ·exact h
   cases h
  | some l=>
   subst hl;simp only[Q9]at hcov;have hun : ∀listed,nG ops listed->listed.getD i UO=UP->listed.getD l UP=false:=by
    intro listed hc' hi';cases hll:listed.getD l UP with
    | false=>rfl
    | true=>
     have:=wz hc' (l+1) [l] (by simpa using hll) i (by simpa using hcov.1);exfalso;rcases Ri i listed.size with h' | h'
     ·simp[h']at this hi';rw[hi']at this;cases this
     simp[Tf h']at this
   refine tW (H:=H) ho hpl hQ hGset (λlisted w hc' hi' hg=>?_) F' listed a w hc (Region.free_spec ho hfree) hi ?_ hsub
   ·rcases hg with h | ⟨l',h,h'⟩
    ·exact h
    cases h;rw[hun listed hc' hi']at h';cases h'
   have:=hun listed hc (mem_ready.1 hi).1;simpa[partAt,this]using hy
theorem Du{H:View}{w:World}(hw:H.sub (vw w.heap)) : ∀{qs:List Oper} {a a1 a2:Act},QRun P ops H qs a a1->QRun P ops H qs a a2->a1=a2
 | [],a,a1,a2,h1,h2=>by simp only[QRun]at h1 h2;rw[h1,h2]
 | o::qs,a,a1,a2,⟨v1,hy1,hq1⟩,⟨v2,hy2,hq2⟩=>by
  have e:v1=v2:=by
   rcases hy1 with⟨hw1,hr1,_⟩ | ⟨hw1,rfl⟩<;>rcases hy2 with⟨hw2,hr2,_⟩ | ⟨hw2,rfl⟩
   ·have:=(hr1 w hw).symm.trans (hr2 w hw);simpa using this
   ·rw[hw1]at hw2;cases hw2
   ·rw[hw1]at hw2;cases hw2
   rfl
  subst e;exact Du hw hq1 hq2
theorem tC{pp:PP}{node:Nat->Option Reg}{m:Option View}{ρ:Env}{h:Heap} : ∀{rs:List Nat} {R:Reg},jK node rs=UK R->dd View.sub P m R Q ρ h->∀i∈rs,∃X,node i=UK X/\dd View.sub P m X Q ρ h
 | [],_,h,_,_,_=>by simp[jK]at h
 | [i],R,h,hw,j,hj=>by simp only[Q8]at hj;subst hj;exact⟨R,h,hw⟩
 | i::k::rs,R,h,hw,j,hj=>by
  simp only[jK]at h;split at h
  ·rename_i x y hx hy;simp only[Q2]at h;subst h;simp only[dd]at hw;rcases Ru.1 hj with rfl | hj
   ·exact⟨x,hx,hw.1⟩
   exact tC hy hw.2 j hj
  cases h
theorem D2{pp:PP}{c:List PanicEntry}{a:Act}{d:Option Tmp}{v:Value}{w:World}(h:@lZ (ppD pp) N D w0 Q (.panic c) (Act.put a d v) w):@lZ (ppD pp) N D w0 Q (.panic c) a w:=by
 obtain⟨ρ,_,h2,h3,⟨_,h4⟩,h5⟩:=h;refine⟨[],λt v h=>by simp[look]at h,?_,?_,⟨trivial,h4⟩,h5⟩
 ·cases d<;>simpa[Act.put]using h2
 cases d<;>simpa[Act.put]using h3
theorem ud{pp:PP}(hpl : ∀(j:Nat) (o:Oper),ops[j]? = UK o->eA o.op=UO) : ∀(f:Nat) {listed:Array Bool} {R:Reg} {ρ:Env} {a:Act} {w:World},
  regD P N ops live l0 f listed=UK R->nG ops listed->listed.size=ops.size->a.tmps.size=N->a.defers=D->Sat ρ a->Same w0 w->GH l0 H listed w->(partAt l0 H listed).sub (vw w.heap)->
  dd View.sub P (UK (partAt l0 H listed)) R Q ρ w.heap->∀F,left ops listed<=F->anyG P r ops (@lZ (ppD pp) N D w0 Q) (GH l0 H) F listed a w
 | 0,_,_,_,_,_,h,_,_,_,_,_,_,_,_,_=>by simp[regD]at h
 | f+1,listed,R,ρ,a,w,hR,hc,hLs,hN,hD,hρ,hS,hG,hX,hw=>by
  simp only[regD]at hR;split at hR;case h_1=>cases hR
  rename_i qs l1 hqs;obtain⟨hc1,_,hl1,hstep⟩:=vk (H:=H) (r:=r) hpl hqs hc;have hl1s:l1.size=ops.size:=by
   have : ∀{f:Nat} {listed l1:Array Bool} {qs:List Nat},qB P ops l0 f listed=UK (qs,l1)->l1.size=listed.size:=by
    intro f;induction f with
    | zero=>
     intro listed l1 qs h;simp only[qB]at h;split at h
     ·simp only[Q2,SF]at h;rw[h.2]
     cases h
    | succ f ih=>
     intro listed l1 qs h;simp only[qB]at h;split at h
     ·simp only[Q2,SF]at h;rw[h.2]
     split at h
     ·split at h
      ·rename_i hh;simp only[Q2,SF]at h;rw[<-h.2,ih hh];simp
      cases h
     cases h
   rw[this hqs,hLs]
  have hpart1:partAt l0 H l1=partAt l0 H listed:=by
   unfold partAt;cases hl:l0 with
   | none=>rfl
   | some l=>simp only[hl1 l hl]
  have hG1:GH l0 H l1 w:=by
   rcases hG with h | ⟨l,hl,h⟩
   ·exact .inl h
   exact .inr ⟨l,hl,by rw[hl1 l hl];exact h⟩
  have hpartm:part (UK (partAt l0 H listed)) w.heap=partAt l0 H listed:=rfl;cases hrs:rdy ops l1 with
  | nil=>
   simp only[hrs]at hR;obtain⟨a',ρ',hq,hsz,hd,hs,hQ⟩:=xN hR hN hρ hw;rw[hpartm]at hq;have hpost:@lZ (ppD pp) N D w0 Q .normal a' w:=⟨ρ',hs,hsz,hd.trans hD,hQ,hS⟩;refine hstep (λ_ _ _ _ _=>D2) hq (λF _=>?_);cases F with
   | zero=>exact⟨hG1,hrs,hpost⟩
   | succ F=>exact⟨hG1,λ_=>hpost,by rw[hrs];intro i hi;cases hi⟩
  | cons i0 is0=>
   simp only[hrs]at hR;have hbr:=tC hR hw;have hnode : ∀i∈i0::is0,∃o next X,ops[i]? = UK o/\regD P N ops live l0 f (l1.setIfInBounds i UO)=UK next/\
     wV P N ops live (nH ops qs) o (zc ops (l1.setIfInBounds i UO)) (l0 == UK i) next=UK X/\dd View.sub P (UK (partAt l0 H listed)) X Q ρ w.heap:=by
    intro i hi;obtain⟨X,hX,hXw⟩:=hbr i hi;cases ho:ops[i]? with
    | none=>simp[ho]at hX
    | some o=>
     simp only[ho]at hX;split at hX
     ·rename_i next hnext
      exact⟨o,next,X,rfl,hnext,hX,hXw⟩
     cases hX
   obtain⟨o1,next1,X1,ho1,hn1,hX1,hXw1⟩:=hnode i0 (Rm ..);obtain⟨_,_,a',_,_,_,hq,hsz,hd,_,_,_,_,_,_⟩:=pP hX1 hN hρ hXw1;rw[hpartm]at hq;refine hstep (λ_ _ _ _ _=>D2) hq (λF hF=>?_);obtain⟨F',rfl⟩ : ∃F',F=F'+1:=by have h1:=zK (ops:=ops) (listed:=l1) (i:=i0) (by rw[hrs];exact Rm ..);exact⟨F-1,by omega⟩
   refine⟨hG1,λh0=>(by rw[hrs]at h0;cases h0),λi hi=>?_⟩;have hi':i∈i0::is0:=by rw[<-hrs];exact hi
   obtain⟨o,next,X,ho,hnext,hX2,hXw⟩:=hnode i hi';obtain⟨hp,hdst,a2,ρ',us,keep,hq2,hsz2,hd2,hs2,hk,hv,_,h1,h2⟩:=pP hX2 hN hρ hXw;rw[hpartm]at hq2;obtain rfl:=Du hX hq2 hq;have hput : ∀v,(a2.put o.dst v).tmps.size=N:=λv=>by cases o.dst<;>simp[Act.put,hsz2]
   have hdef : ∀v,(a2.put o.dst v).defers=D:=λv=>by cases ho:o.dst<;>simp[Act.put,hd2,hD]
   have hsat : ∀v,Sat (putE ρ' o.dst keep v) (a2.put o.dst v):=λv=>GL hs2 (λd hd=>by rw[hsz2];exact hdst d hd);have hlt:=zK hi;have hun:l1.getD i UO=false:=(mem_ready.1 hi).1;have hisz:i<l1.size:=by
    rcases Ri i l1.size with h | h
    ·exact h
    simp[Tf h]at hun
   have hnew:(l1.setIfInBounds i UO).getD i UP=true:=by simp[hisz]
   have hview : ∀h':Heap,pR View.sub (if(l0 == UK i)=UO then UL else UK (partAt l0 H listed)) h'->∀w':World,w'.heap=h'->
     GH l0 H (l1.setIfInBounds i UO) w'/\(partAt l0 H (l1.setIfInBounds i UO)).sub (vw w'.heap)/\
     (if(l0 == UK i)=UO then(UK (partAt l0 H listed)).map (λ_=>nothing) else UK (partAt l0 H listed))=UK (partAt l0 H (l1.setIfInBounds i UO)):=by
    intro h' hk w' hw';by_cases ht:l0=UK i
    ·subst ht;refine⟨.inr ⟨i,rfl,hnew⟩,?_,?_⟩
     ·simp only[partAt,hnew,if_true];intro _ _ h;cases h
     simp[partAt,hnew]
    have hne:(l0 == UK i)=false:=by simpa using ht
    rw[hne]at hk;have hle:(partAt l0 H listed).sub (vw h'):=hk _ rfl;have hpe:partAt l0 H (l1.setIfInBounds i UO)=partAt l0 H listed:=by
     rw[<-hpart1];unfold partAt;cases hl:l0 with
     | none=>rfl
     | some l=>have:i≠l:=λe=>ht (by rw[hl,e]);simp only[getD_set_ne UP this]
    refine⟨?_,by rw[hpe,hw'];exact hle,by simp[hne,hpe]⟩;rcases hG1 with _ | ⟨l,hl,h⟩
    ·by_cases hb : ∃l,l0=UK l/\l1.getD l UP=UO
     ·obtain⟨l,hl,h⟩:=hb;exact .inr ⟨l,hl,getD_set_true h⟩
     refine .inl ?_;have:partAt l0 H listed=H:=by
      rw[<-hpart1];unfold partAt;cases hl:l0 with
      | none=>rfl
      | some l=>have:¬l1.getD l UP=true:=λh=>hb ⟨l,hl,h⟩;simp only[this];rfl
     rw[this]at hle;rw[hw'];exact hle
    exact .inr ⟨l,hl,getD_set_true h⟩
   unfold wpOpIn;simp only[ho];split
   ·rename_i hwt;refine A2 hp hk hv (h1 hwt) (λv w' ⟨hkeep,hreg⟩ hsame=>?_) λch w' hc hsame=>⟨[],λt v h=>by simp[look]at h,hsz2,hd2.trans hD,⟨trivial,hc.1.resolve_left U2,hc.2⟩,hS.trans hsame⟩;obtain⟨g1,g2,g3⟩:=hview w'.heap hkeep w' rfl;rw[g3]at hreg;exact ud hpl f hnext (hc1.set hi) (by simp[hl1s]) (hput v) (hdef v) (hsat v) (hS.trans hsame) g1 g2 hreg F' U1
   rename_i hwt;refine⟨λ_ _=>trivial,?_⟩;have hreg:=h2 (by simpa using hwt);obtain⟨g1,g2,g3⟩:=hview w.heap (by
    split
    ·intro _ h;cases h
    intro Y hY;cases hY;exact hX) w rfl;rw[g3]at hreg;exact ud hpl f hnext (hc1.set hi) (by simp[hl1s]) (hput _) (hdef _) (hsat _) hS g1 g2 hreg F' U1
theorem Cy{pp:PP}{id:Nat}{R:Reg}{a:Act}{w:World}(hm:P.follows .mixedOrders=UO)(hpl:ops.all (λo=>eA o.op)=UO)(hR:regD P N ops live l0 (ops.size+1) (Array.replicate ops.size UP)=UK R)(hN:a.tmps.size=N)(hD:a.defers=D)(hρ:Sat ρ a)(hw : ∃H:View,H.sub (vw w.heap)/\dd View.sub P (UK H) R Q ρ w.heap):(Code.region id ops UO).wpIn (Fw r) 0 P (lZ N D w Q) a w:=by
 obtain⟨H,hH,hw⟩:=hw;have hpl' : ∀(j:Nat) (o:Oper),ops[j]? = UK o->eA o.op=true:=λj o ho=>by obtain⟨hj,rfl⟩:=Rk.1 ho;exact Array.all_eq_true.1 hpl j hj
 have hclosed:nG ops (Array.replicate ops.size UP):=by
  intro j oj _ h;rcases Ri j ops.size with h' | h'
  ·simp[h']at h
  simp[h']at h
 have hun : ∀l,(Array.replicate ops.size UP).getD l UP=false:=λl=>by rcases Ri l ops.size with h' | h'<;>simp[h']
 have hpart:partAt l0 H (Array.replicate ops.size UP)=H:=by
  unfold partAt;cases l0 with
  | none=>rfl
  | some l=>simp[hun l]
 have weak : ∀e a' w',@lZ (ppD pp) N D w Q e a' w'->lZ N D w Q e a' w':=λe a' w' hq=>by cases e<;>first | exact hq | (obtain⟨ρ,h1,h2,h3,⟨_,h4,h5⟩,h6⟩:=hq;exact⟨ρ,h1,h2,h3,⟨h4 ρ,h5⟩,h6⟩)
 refine wpIn_mono (wpIn_region_any hm (DE (G:=GH l0 H) (ud (pp:=pp) (H:=H) (w0:=w) (w:={ w with drawn:=w.drawn+1 }) hpl' _ hR hclosed U2 hN hD hρ Same.drawn (.inl hH) ?_ ?_ _ ?_))) weak
 ·rw[hpart];exact hH
 ·rw[hpart];exact hw
 refine Rt (List.countP_le_length ..) U2
theorem Ds{pp:PP}{id:Nat}{R:Reg}{a:Act}{w:World}(hR:regU P N ops live (ops.size+1) ops.toList=UK R)(hN:a.tmps.size=N)(hD:a.defers=D)(hρ:Sat ρ a)(hw:eV P UL R Q ρ w.heap):(Code.region id ops UP).wpIn (Fw r) 0 P (lZ N D w Q) a w:=
 wpIn_region_list (tZ _ hR hN hD hρ (Same.refl _) hw)
end
def isFn(P : Program)(f : FuncId) : Bool := match P.funcs[f]? with | some fn => fn.name != "runtime.NumGoroutine" && fn.body.isSome | none => UP
variable{n:Nat}
theorem tS{f:FuncId}{args:Array Value}{w:World}{R:Ending->World->Prop}{r:Option Nat}(h:Calls P f args w R):CallsIn (Fw r) n P f args w R:=
 (callsIn_wide (n:=n)).2 h
def ay(P:Program)(f:FuncId)(args:Array Value)(h:Heap)(R:Value->Heap->Prop):Prop:=
 ∀w:World,w.heap=h->Calls P f args w λe w'=>∃v,e = .returned v/\R v w'.heap/\Same w w'
theorem ay.mono{P:Program}{f:FuncId}{args:Array Value}{h:Heap}{R R':Value->Heap->Prop}(hc:ay P f args h R)(hr : ∀v h',R v h'->R' v h'):ay P f args h R':=
 λw hw=>(hc w hw).mono λ_ _ ⟨v,he,hR,hs⟩=>⟨v,he,hr _ _ hR,hs⟩
def jo(P:Program)(f:FuncId)(args:Array Value)(h:Heap)(R:Value->Heap->Prop)(Rp:List PanicEntry->Heap->Prop):Prop:=
 ∀w:World,w.heap=h->Calls P f args w λe w'=>(∃v,e = .returned v/\R v w'.heap/\Same w w')\/∃ch,e = .panicked ch/\Rp ch w'.heap/\Same w w'
theorem View.lt{W:View}{h:Heap}(hw:W.le (vw h)){b:Nat}{o:Obj}(hb:W b=UK o):b<h.size:=by have:=hw b o hb;simp only[vw]at this;exact(Rk.1 this).1
theorem View.b8{W:View}{h:Heap}(hw:W.le (vw h)){b:Nat}(hb:h.size<=b):W b=none:=by
 cases hx:W b with
 | none=>rfl
 | some o=>have:=View.lt hw hx;omega
def grow(V:View)(h h':Heap):View:=λb=>if b<h.size then V b else h'[b]?
theorem kR{V:View}{h h':Heap}(hV:V.le (vw h')):(grow V h h').le (vw h'):=λb o hb=>by
 unfold grow at hb;split at hb
 ·exact hV b o hb
 exact hb
theorem bo{V:View}{h h':Heap}(hV:V.le (vw h)):V.le (grow V h h'):=λb o hb=>by have:=View.lt hV hb;unfold grow;rw[if_pos this];exact hb
def E6(P:Program)(l:Nat)(vs:List Value)(h:Heap)(R:Bool->Heap->Prop):Prop:=
 ∀w:World,w.heap=h->∃f tmps asg body,(Instr.yield l vs.toArray).run P w = .ok (.round l f tmps asg body) w/\
  RoundIn (Fw UL) 0 P l f tmps asg body w λe w'=>∃b,e = .returned (.bool b)/\R b w'.heap/\Same w w'
structure oJ(n:Nat)(J:View->Heap->Prop):Prop where
 le : ∀{W:View} {h:Heap},J W h->W.le (vw h)
 move : ∀{W W':View} {h h':Heap},J W h->(∀b,b<n->W' b=W b)->W'.le (vw h')->(∀b,W b=UL->b<h.size->h'[b]? = h[b]?/\W' b=UL)->h.size<=h'.size->J W' h'
def Iter(P:Program)(gf:Nat)(caps:List Value)(V:View)(all:List (List Value)):Prop:=
 ∀(l:Nat) (J:Bool->Nat->View->Heap->Prop) (W:View) (h:Heap),(∀b k,oJ h.size (J b k))->V.le W->V l=UL->J UO 0 W h->
  (∀k vs W' h1,(∀b,b<h.size->W' b=W b)->all[k]? = UK vs->J UO k W' h1->E6 P l vs h1 λb h2=>∃W2,(∀i,i≠l->W2 i=W' i)/\(b=UO->W2=W')/\J b (k+1) W2 h2)->
  ay P gf (Value.func (.yield l) #[] #[]::caps).toArray h λ_ h2=>∃b k W',(∀i,i<h.size->i≠l->W' i=W i)/\J b k W' h2/\(b=UO->k=all.length)
inductive LC where
 | skip
 | reg (drawn:Bool) (r:Reg)
 | seq (x y:LC)
 | cond (c:E) (kill:List Nat) (x y:LC)
 | block (id:Nat) (x:LC)
 | loop (x:LC)
 | exit (id:Nat)
 | ret
 | rangef (g:E) (ps:List Nat) (asg body:LC)
 deriving Inhabited
def LC.plain:LC->Bool
 | .rangef _ _ _ _=>UP
 | .seq x y=>x.plain&&y.plain
 | .cond _ _ x y=>x.plain&&y.plain
 | .block _ x | .loop x=>x.plain
 | _=>UO
abbrev Post:=Exit->Env->Heap->Prop
def fJ(next:Env->Heap->Prop)(Q:Post):Post
 | .normal,ρ,h=>next ρ h
 | e,ρ,h=>Q e ρ h
def dT(id:Nat)(Q:Post):Post
 | .exit k,ρ,h=>if k=id then Q .normal ρ h else Q (.exit k) ρ h
 | e,ρ,h=>Q e ρ h
def postOf[pp:PP](Q:Post):Post
 | .panic ch,ρ,h=>pp.fx ρ/\pp.kp ch h
 | e,ρ,h=>Q e ρ h
theorem sK{Q:Post}{e:Exit}{h:Heap}(hq:@postOf noPP Q e ρ h):Q e ρ h:=by cases e<;>first | exact hq | exact hq.2.elim
def aX:List Nat->Env->Env
 | [],_=>[]
 | t::ts,ρ=>match look ρ t with
  | some v=>(t,v)::aX ts ρ
  | none=>aX ts ρ
theorem tL{ρ:Env}{t:Nat}{v:Value} : ∀{ks:List Nat},look (aX ks ρ) t=UK v->look ρ t=UK v
 | [],h=>by simp[aX,look]at h
 | k::ks,h=>by
  simp only[aX]at h;split at h
  ·rename_i u hu;simp only[look]at h;split at h
   ·rename_i e;subst e;rw[hu];exact h
   exact tL h
  exact tL h
theorem Db{a:Act}{ks:List Nat}(h:Sat ρ a):Sat (aX ks ρ) a:=λt v hv=>h t v (tL hv)
def oW:Exit->Bool
 | .normal | .exit _ | .ret=>UO
 | _=>UP
def LC.wp[pp:PP](P:Program)(c:LC)(Q:Post)(ρ:Env)(h:Heap):Prop:=
 match c with
 | .skip=>Q .normal ρ h
 | .reg UP r=>eV P UL r (Q .normal) ρ h
 | .reg UO r=>∃H:View,H.sub (vw h)/\dd View.sub P (UK H) r (Q .normal) ρ h
 | .seq x y=>x.wp P (fJ (y.wp P Q) Q) ρ h
 | .cond c kill x y=>∃b,ev (look ρ) (vw h) c=UK (.bool b)/\(b=UO->x.wp P Q (cJ ρ kill) h)/\(b=UP->y.wp P Q (cJ ρ kill) h)
 | .block id x=>x.wp P (dT id Q) ρ h
 | .loop x=>∃(ks:List Nat) (I:Nat->Env->Heap->Prop),(∃n,I n (aX ks ρ) h)/\∀n ρ h,I n ρ h->x.wp P (fJ (λρ' h'=>∃m,m<n/\I m (aX ks ρ') h') Q) ρ h
 | .exit id=>Q (.exit id) ρ h
 | .ret=>Q .ret ρ h
 | .rangef g ps asg body=>∃(gf:Nat) (caps:List Value) (V W0:View) (all:List (List Value)) (I:Option Exit->Nat->View->Heap->Prop) (A:Nat->Env),
   ev (look ρ) (vw h) g=UK (.func (.func gf) #[] caps.toArray)/\isFn P gf=UO/\Iter P gf caps V all/\(∀vs∈all,vs.length=ps.length)/\V.le W0/\(∀e k,oJ h.size (I e k))/\I UL 0 W0 h/\
   (∀k vs W h1,(∀b,b<h.size->W b=W0 b)->all[k]? = UK vs->I UL k W h1->
    @LC.wp noPP P asg (λe ρ1 h2=>e = .normal/\h2=h1/\ρ1=A k) (dE ρ (ps.zip vs)) h1/\
    @LC.wp noPP P body (λe _ h3=>I (match e with | .normal=>UL | e=>UK e) (k+1) W h3) (A k) h1)/\
   (∀W h1,(∀b,b<h.size->W b=W0 b)->I UL all.length W h1->Q .normal ρ h1)/\
   (∀e k W h1,oW e=UO->e≠.normal->(∀b,b<h.size->W b=W0 b)->I (UK e) k W h1->Q e ρ h1)
theorem iG.mono{po:OP}{P:Program}{s:Sem Next}{h:Heap}{K K':Value->Heap->Prop}(hr:iG P s h K)(hk : ∀v h',K v h'->K' v h'):iG P s h K':=
 λw hw r o a X Y hX hY=>hr w hw r o a X Y (λv w' hv hs=>hX v w' (hk _ _ hv) hs) hY
section
variable{P:Program}{Q:Post}{ρ:Env}{h:Heap}
theorem iX{pp:PP}{S:View->View->Prop}{Q Q':Env->Heap->Prop}(hq : ∀ρ h,Q ρ h->Q' ρ h) : ∀{r:Reg} {m:Option View} {ρ:Env} {h:Heap},dd S P m r Q ρ h->dd S P m r Q' ρ h
 | .fin kill sets chk,m,ρ,h,⟨vs,h1,h2,h3⟩=>⟨vs,h1,h2,hq _ _ h3⟩
 | .loud kill sets args grd chk tail op ty dst keep next,m,ρ,h,hw=>by
  simp only[dd]at hw ⊢;obtain⟨vs,us,h1,h2,h3,hfx,h4⟩:=hw;refine⟨vs,us,h1,h2,h3,hfx,?_⟩;cases grd with
  | none=>exact iG.mono h4 λv h' ⟨g1,g2⟩=>⟨g1,iX hq g2⟩
  | some gb=>obtain⟨gv,g1,g2,g3⟩:=h4;exact⟨gv,g1,λe=>iG.mono (g2 e) λv h' ⟨g1,g2⟩=>⟨g1,iX hq g2⟩,λe=>iX hq (g3 e)⟩
 | .both x y,m,ρ,h,⟨h1,h2⟩=>⟨iX hq h1,iX hq h2⟩
theorem F0{pp:PP}{Q Q':Env->Heap->Prop}(hq : ∀ρ h,Q ρ h->Q' ρ h){r:Reg}{m:Option View}{ρ:Env}{h:Heap}(hw:eV P m r Q ρ h):eV P m r Q' ρ h:=iX hq hw
theorem kC{pp:PP}{S S':View->View->Prop}(hS : ∀H K,S H K->S' H K){Q:Env->Heap->Prop} : ∀{r:Reg} {m:Option View} {ρ:Env} {h:Heap},dd S P m r Q ρ h->dd S' P m r Q ρ h
 | .fin kill sets chk,m,ρ,h,⟨vs,h1,h2,h3⟩=>⟨vs,h1,h2,h3⟩
 | .loud kill sets args grd chk tail op ty dst keep next,m,ρ,h,hw=>by
  simp only[dd]at hw ⊢;obtain⟨vs,us,h1,h2,h3,hfx,h4⟩:=hw;refine⟨vs,us,h1,h2,h3,hfx,?_⟩;cases grd with
  | none=>exact iG.mono h4 λv h' ⟨g1,g2⟩=>⟨λH e=>hS _ _ (g1 H e),kC hS g2⟩
  | some gb=>obtain⟨gv,g1,g2,g3⟩:=h4;exact⟨gv,g1,λe=>iG.mono (g2 e) λv h' ⟨g1,g2⟩=>⟨λH e=>hS _ _ (g1 H e),kC hS g2⟩,λe=>kC hS (g3 e)⟩
 | .both x y,m,ρ,h,⟨h1,h2⟩=>⟨kC hS h1,kC hS h2⟩
end
theorem vW{pp:PP}{Q Q':Post}(hq : ∀e ρ h,oW e=UO->Q e ρ h->Q' e ρ h): ∀{x:LC} {ρ:Env} {h:Heap},x.wp P Q ρ h->x.wp P Q' ρ h:=by
 intro x;induction x generalizing Q Q' with
 | skip=>exact λh=>hq _ _ _ rfl h
 | reg d r=>
  intro ρ h hw;cases d with
  | false=>exact F0 (λρ h=>hq .normal ρ h rfl) hw
  | true=>obtain⟨H,hH,hw⟩:=hw;exact⟨H,hH,iX (λρ h=>hq .normal ρ h rfl) hw⟩
 | seq x y ihx ihy=>intro ρ h hw;exact ihx (λe ρ h hp hq'=>by cases e<;>first | exact ihy hq hq' | exact hq _ _ _ hp hq') hw
 | cond c kill x y ihx ihy=>intro ρ h ⟨b,h1,h2,h3⟩;exact⟨b,h1,λe=>ihx hq (h2 e),λe=>ihy hq (h3 e)⟩
 | block i x ih=>
  intro ρ h hw;refine ih (λe ρ h hp hq'=>?_) hw;cases e with
  | exit k=>
   simp only[dT]at hq' ⊢;split
   ·rename_i hk;rw[if_pos hk]at hq';exact hq _ _ _ rfl hq'
   rename_i hk;rw[if_neg hk]at hq';exact hq _ _ _ rfl hq'
  | _=>exact hq _ _ _ hp hq'
 | loop x ih=>intro ρ h ⟨ks,I,h0,hr⟩;exact⟨ks,I,h0,λn ρ h hI=>ih (λe ρ h hp hq'=>by cases e<;>first | exact hq' | exact hq _ _ _ hp hq') (hr n ρ h hI)⟩
 | exit i=>exact λh=>hq _ _ _ rfl h
 | ret=>exact λh=>hq _ _ _ rfl h
 | rangef g ps asg body _ _=>rintro ρ h ⟨gf,caps,V,W0,all,I,A,h1,h2,h3,h4,h5,h6,h7,h8,h9,h10⟩;exact⟨gf,caps,V,W0,all,I,A,h1,h2,h3,h4,h5,h6,h7,h8,λW h' a b=>hq _ _ _ rfl (h9 W h' a b),λe k W h' a b c d=>hq _ _ _ a (h10 e k W h' a b c d)⟩
theorem KE{pp:PP}{Q Q':Post}(hq : ∀e ρ h,Q e ρ h->Q' e ρ h){x:LC}{h:Heap}(hw:x.wp P Q ρ h):x.wp P Q' ρ h:=vW (λe ρ h _=>hq e ρ h) hw
theorem kF{b:Frame}{a:Act}{k:List Item}{cs:List Frame}{w:World}{c:Code}:Go.step P (lone (b.atR a (.code (.scope c)::k)) cs w) = .next (lone (b.atR a (.code c::.inScope c::k)) cs w):=
 step_lone_go (by simp[stepG,stepG.exec,Frame.atR])
theorem Ad{b:Frame}{a:Act}{k:List Item}{cs:List Frame}{w:World}{c:Code}:Go.step P (lone (b.atR a (.inScope c::k)) cs w) = .next (lone (b.atR a k) cs w):=
 step_lone_go (by simp[stepG,stepG.exec,Frame.atR])
theorem FB{F:Fence}{Q:Exit->Act->World->Prop}{a:Act}{w:World}{c:Code}(h:c.wpIn F n P (λe a w=>(∀l,e≠.goto l)/\Q e a w) a w):(Code.scope c).wpIn F n P Q a w:=by
 intro b k cs hro hb hr;have h0:(lone (b.atR a (.code (.scope c)::k)) cs w).fenced P F:=fenced_calm hb hr rfl;obtain⟨e,a₁,w₁,⟨hp,hq⟩,harr⟩:=h b (.inScope c::k) cs hro hb hr;cases e with
 | normal=>exact⟨.normal,a₁,w₁,hq,.head h0 kF (StepsIn.trans harr (.one (fenced_calm hb hr rfl) Ad))⟩
 | exit id=>
  have hx:exitTo id (.inScope c::k)=exitTo id k:=by simp[exitTo]
  exact⟨.exit id,a₁,w₁,hq,λk' hk=>.head h0 kF (harr.1 k' (by rw[hx];exact hk)),
   λhr' hk=>let ⟨k₁,h1,h2⟩:=harr.2 hr' (by rw[hx];exact hk);⟨k₁,h1,.head h0 kF h2⟩⟩
 | goto l=>exact absurd rfl (hp l)
 | ret=>exact⟨_,a₁,w₁,hq,.of_steps (.one h0 kF) harr⟩
 | panic ch=>exact⟨_,a₁,w₁,hq,.of_steps (.one h0 kF) harr⟩
 | outgrown=>exact⟨_,a₁,w₁,hq,.of_steps (.one h0 kF) harr⟩
def C8(P:Program)(ops:Array Oper):Option Nat:=
 let reads:=(List.range ops.size).filter λi=>match ops[i]? with | some o=>isQ P o&&!vV P o | none=>UP
 (List.range ops.size).find? λl=>match ops[l]? with
  | some o=>!isQ P o&&o.guard.isNone&&(let d:=down ops (l+1) [l];reads.all d.contains)
  | none=>UP
def yL(liveR:List Nat):Operand->List Nat
 | .tmp t=>if liveR.contains t then[] else[t]
 | _=>[]
def eG(P:Program)(N:Nat)(live liveR:List Nat)(inR:Bool):Code->Option LC
 | .skip=>UK .skip
 | .region _ ops draw=>
  if draw then
   if ops.all (λo=>eA o.op) then
    (regD P N ops live (C8 P ops) (ops.size+1) (Array.replicate ops.size UP)).map (.reg UO)
   else UL
  else(regU P N ops live (ops.size+1) ops.toList).map (.reg UP)
 | .seq x y=>match eG P N live liveR inR x,eG P N live liveR inR y with
  | some a,UK b=>UK (.seq a b)
  | _,_=>UL
 | .cond c x y=>match eG P N live liveR inR x,eG P N live liveR inR y with
  | some a,UK b=>UK (.cond (opnd c) (yL liveR c) a b)
  | _,_=>UL
 | .block id x=>(eG P N live liveR inR x).map (.block id)
 | .loop x=>(eG P N live liveR inR x).map .loop
 | .exit id=>UK (.exit id)
 | .ret=>UK .ret
 | .scope x=>eG P N live liveR inR x
 | .label _=>UK .skip
 | .rangeFunc f ps x y=>if inR then UL else if ps.toList.all (· < N) then
   match eG P N live liveR UO x,eG P N live liveR UO y with
   | some a,UK b=>if a.plain&&b.plain then UK (.rangef (opnd f) ps.toList a b) else UL
   | _,_=>UL
  else UL
 | _=>UL
def gJ(pl:Bool)(D:List Deferred)(n:Nat)(ds:List Deferred)(h:Heap):Prop:=
 ∃ms:List Nat,ds=ms.map (λm=>{ target:=.collected m,args:=#[] })++D/\(pl=UO->ms=[])/\(∀m∈ms,n<=m/\h[m]? = UK (.deferred (UK [])))/\ms.Nodup
theorem gJ.refl(pl:Bool)(D:List Deferred)(n:Nat)(h:Heap):gJ pl D n D h:=⟨[],rfl,λ_=>rfl,(λ_ h=>by cases h),TK⟩
theorem gJ.trans{p q:Bool}{D ds es:List Deferred}{w0 w1 w2:World}(h:gJ p D w0.heap.size ds w1.heap)(k:gJ q ds w1.heap.size es w2.heap)(hs:Same w0 w1)(hs2:Same w1 w2):gJ (p&&q) D w0.heap.size es w2.heap:=by
 obtain⟨ms,rfl,h1,h2,h3⟩:=h;obtain⟨ns,rfl,k1,k2,k3⟩:=k;refine⟨ns++ms,by simp,λe=>?_,λm hm=>?_,?_⟩
 ·simp only[Q9]at e;rw[h1 e.1,k1 e.2];rfl
 ·rcases Rj.1 hm with hm | hm
  ·exact⟨Rt hs.size (k2 m hm).1,(k2 m hm).2⟩
  exact⟨(h2 m hm).1,hs2.defs m (h2 m hm).2⟩
 refine SO.2 ⟨k3,h3,λa ha b hb e=>?_⟩;subst e;have h4:=(k2 a ha).1;have h5:=(Rk.1 (h2 a hb).2).1;omega
theorem gJ.weak{p q:Bool}{D ds:List Deferred}{h:Heap}(hpq:q=UO->p=UO)(k:gJ p D n ds h):gJ q D n ds h:=
 let ⟨ms,h1,h2,h3,h4⟩:=k
 ⟨ms,h1,λe=>h2 (hpq e),h3,h4⟩
def vG[pp:PP](N:Nat)(pl:Bool)(D:List Deferred)(w0:World)(Q:Post)(e:Exit)(a:Act)(w:World):Prop:=
 ∃ρ,Sat ρ a/\a.tmps.size=N/\gJ pl D w0.heap.size a.defers w.heap/\postOf Q e ρ w.heap/\Same w0 w
theorem wpIn_loop_ghost{F:Fence}{k:Nat}{Q:Exit->Act->World->Prop}{c:Code}(I:Nat->Act->World->Prop){a:Act}{w:World}(h₀:I n a w)(round : ∀n a w,I n a w->c.wpIn F k P (Exit.then (λa' w'=>∃m,m<n/\I m a' w') Q) a w):(Code.loop c).wpIn F k P Q a w:=by
 intro b k cs hro hb hr;have key : ∀j a w,I j a w->
   ∃e a' w',Q e a' w'/\ArrivesIn (Machine.fenced P F) P (lone (b.atR a (.code c::.inLoop c::k)) cs w) b k cs e a' w':=by
  intro j;induction j using Nat.strongRecOn with
  | _ j ih=>
   intro a w hI;obtain⟨e,a₁,w₁,hq,harr⟩:=round j a w hI b (.inLoop c::k) cs hro hb hr;cases e with
   | normal=>obtain⟨m,hlt,hI₁⟩:=hq;obtain⟨e₂,a₂,w₂,hq₂,harr₂⟩:=ih m hlt a₁ w₁ hI₁;exact⟨e₂,a₂,w₂,hq₂,.of_steps (StepsIn.trans harr (.one (fenced_calm hb hr rfl) stepR_inLoop)) harr₂⟩
   | exit id=>exact⟨_,a₁,w₁,hq,.pass (x:=.inLoop c) rfl (λ_ _=>.inl U2) harr⟩
   | goto l=>exact⟨_,a₁,w₁,hq,.pass (x:=.inLoop c) rfl (λ_ _=>.inl U2) harr⟩
   | ret=>exact⟨_,a₁,w₁,hq,.pass (x:=.inLoop c) rfl (λ_ _=>.inl U2) harr⟩
   | panic ch=>exact⟨_,a₁,w₁,hq,.pass (x:=.inLoop c) rfl (λ_ _=>.inl U2) harr⟩
   | outgrown=>exact⟨_,a₁,w₁,hq,.pass (x:=.inLoop c) rfl (λ_ _=>.inl U2) harr⟩
 obtain⟨e,a',w',hq,harr⟩:=key _ a w h₀;exact⟨e,a',w',hq,.of_steps (.one (fenced_calm hb hr rfl) stepR_loop) harr⟩
section
variable{P:Program}{N:Nat}{live liveR:List Nat}
theorem vG.weak{pp:PP}{p q:Bool}{D:List Deferred}{w0:World}{Q:Post}{e:Exit}{a:Act}{w:World}(hpq:q=UO->p=UO)(h:vG N p D w0 Q e a w):vG N q D w0 Q e a w:=
 let ⟨ρ,h1,h2,h3,h4,h5⟩:=h
 ⟨ρ,h1,h2,h3.weak hpq,h4,h5⟩
theorem Li{vs:List Value}: ∀{ps:List Nat} {ρ:Env} {a:Act},Sat ρ a->(∀p∈ps,p<a.tmps.size)->ps.length=vs.length->
  Sat (dE ρ (ps.zip vs)) { tmps:=(ps.zip vs).foldl (λt (p:Nat × Value)=>t.setIfInBounds p.1 p.2) a.tmps,defers:=[] }:=by
 induction vs with
 | nil=>intro ps ρ a h _ hl;cases ps with
  | nil=>exact h
  | cons p ps=>simp at hl
 | cons v vs ih=>intro ps ρ a h hp hl;cases ps with
  | nil=>simp at hl
  | cons p ps=>
   simp only[TF,dE,RG];have:=ih (ps:=ps) (ρ:=setE ρ p v) (a:={ tmps:=a.tmps.setIfInBounds p v,defers:=a.defers }) ?_ (λq hq=>by simpa using hp q (Q7 _ hq)) (by simpa using hl)
   ·exact this
   intro t u hu;rw[af]at hu;split at hu
   ·rename_i e;subst e;cases hu;simp[hp p (Rm ..)]
   rename_i e;simp only[Sd e];exact h t u hu
theorem HR{l:List (Nat × Value)}: ∀{t:Array Value},(l.foldl (λt (p:Nat × Value)=>t.setIfInBounds p.1 p.2) t).size=t.size:=by
 induction l with
 | nil=>intro t;rfl
 | cons p l ih=>intro t;simp only[RG,ih,Array.size_setIfInBounds]
def View.set(W:View)(l:Nat)(o:Obj):View:=λb=>if b=l then UK o else W b
theorem oJ.put{l:Nat}{J:View->Heap->Prop}(hJ:oJ n J){W:View}{w:World}{o:Obj}(o':Obj)(h:J W w.heap)(hl:W l=UK o)(hn:n<=l):J (W.set l o') (w.putObj l o').heap:=by
 have hle:=hJ.le h;have hlt:l<w.heap.size:=(Rk.1 (hle l o hl)).1;refine hJ.move h (λb hb=>by unfold View.set;rw[if_neg U1]) (λb x hb=>?_) (λb hb _=>?_) (by simp[World.putObj])
 ·unfold View.set at hb;split at hb
  ·rename_i e;subst e;cases hb;exact World.putObj_heap_same hlt
  rename_i e;show(w.putObj l o').heap[b]? = _;rw[World.putObj_heap_other e];exact hle b x hb
 have hne:b≠l:=λe=>by rw[e,hl]at hb;cases hb
 exact⟨World.putObj_heap_other hne,by unfold View.set;rw[if_neg hne];exact hb⟩
theorem Same.put{w:World}{l:Nat}{o o':Obj}(hl:w.heap[l]? = UK o)(ho:o≠.deferred (UK [])):Same w (w.putObj l o'):=
 Same.oQ rfl rfl rfl (by simp[World.putObj]) hl ho λk _ hne=>World.putObj_heap_other hne
theorem DK{pp:PP}{f:Operand}{ps:Array Tmp}{x y:Code}{X Y:LC}(hx : ∀{Q:Post} {ρ:Env} {a:Act} {w:World} {r:Option Nat},@LC.wp noPP P X Q ρ w.heap->Sat ρ a->a.tmps.size=N->x.wpIn (Fw r) 0 P (@vG noPP N X.plain a.defers w Q) a w)(hy : ∀{Q:Post} {ρ:Env} {a:Act} {w:World} {r:Option Nat},@LC.wp noPP P Y Q ρ w.heap->Sat ρ a->a.tmps.size=N->y.wpIn (Fw r) 0 P (@vG noPP N Y.plain a.defers w Q) a w)(hps : ∀p∈ps.toList,p<N){Q:Post}{a:Act}{w:World}(hw:(LC.rangef (opnd f) ps.toList X Y).wp P Q ρ w.heap)(hρ:Sat ρ a)(hN:a.tmps.size=N):
  (Code.rangeFunc f ps x y).wpIn (Fw UL) 0 P (vG N UP a.defers w Q) a w:=by
 simp only[LC.wp]at hw;obtain⟨gf,caps,V,W0,all,I,A,hg,hfn,hIter,hlen,hV,hI,h0,hround,hdone,hexit⟩:=hw;have hg':=bP (a:=a) (je (λt v h=>hρ t v h) hg);refine wpIn_rangeFunc λfn _=>?_;obtain⟨rec,hrec⟩ : ∃rec:LoopState->Option Code->Loop,rec=λst pe=>{ state:=st,pending:=pe,fn,tmps:=a.tmps,params:=ps,assign:=x,body:=y,defers:=w.heap.size }:=⟨_,rfl⟩;obtain⟨W1,hW1⟩ : ∃W1,(w.alloc (.deferred (UK []))).alloc (.loop (rec .ready UL))=W1:=⟨_,rfl⟩;have hL1:W1.heap[w.heap.size+1]? = UK (.loop (rec .ready UL)):=by rw[<-hW1];have:=World.alloc_heap_new (w.alloc (.deferred (UK []))) (.loop (rec .ready UL));rwa [World.size_alloc]at this
 have hK1:W1.heap[w.heap.size]? = UK (.deferred (UK [])):=by rw[<-hW1];exact(heap_alloc_old _ _ U2).trans (World.alloc_heap_new w _)
 have hsz1:W1.heap.size=w.heap.size+2:=by rw[<-hW1];simp
 have hold : ∀k,k<w.heap.size->W1.heap[k]? = w.heap[k]?:=by intro k hk;rw[<-hW1,heap_alloc_old _ _ U9,heap_alloc_old _ _ hk]
 have hS1:Same w W1:=Same.Cl (by rw[<-hW1];rfl) (by rw[<-hW1];rfl) (by rw[<-hW1];rfl) U1 hold;have hW0:=(hI UL 0).le h0;have hG1:(grow W0 w.heap W1.heap).le (vw W1.heap):=kR λb o hb=>by show W1.heap[b]? = _;rw[hold b (View.lt hW0 hb)];exact hW0 b o hb
 have hI1:I UL 0 (grow W0 w.heap W1.heap) W1.heap:=(hI UL 0).move h0 (λb hb=>by unfold grow;rw[if_pos hb]) hG1 (λb hb hlt=>⟨hold b hlt,by unfold grow;rw[if_pos hlt];exact hb⟩) hS1.size;have hgrowL:grow W0 w.heap W1.heap (w.heap.size+1)=UK (.loop (rec .ready UL)):=by unfold grow;rw[if_neg U1];exact hL1
 have hgrow0 : ∀b,b<w.heap.size->grow W0 w.heap W1.heap b=W0 b:=λb hb=>by unfold grow;rw[if_pos hb]
 obtain⟨J,hJ⟩ : ∃J:Bool->Nat->View->Heap->Prop,J=λb k W h=>if b=UO then I UL k W h/\W (w.heap.size+1)=UK (.loop (rec .ready UL)) else
   ∃e c,oW e=UO/\e≠.normal/\(e = .ret/\c=Code.ret\/∃id,e = .exit id/\c=Code.exit id)/\I (UK e) k W h/\W (w.heap.size+1)=UK (.loop (rec .done (UK c))):=⟨_,rfl⟩
 refine⟨w.heap.size+1,[{ target:=.collected w.heap.size,args:=#[] }],W1,{ target:=.fn (.func gf) caps.toArray,args:=#[.func (.yield (w.heap.size+1)) #[] #[]] },W1,gf,
  (Value.func (.yield (w.heap.size+1)) #[] #[]::caps).toArray,W1,?_,?_,?_,?_,λh=>by simp[Fw,Fence.wide]at h,?_⟩
 ·rw[<-hW1,hrec];exact run_enterLoop_outer _ _ _ _ _
 ·simp only[resolve,hg'];simp[go_sem]
 ·intro f' _;trivial
 ·unfold isFn at hfn;cases hfn':P.funcs[gf]? with
  | none=>simp[hfn']at hfn
  | some fn'=>simp only[hfn',Q9,bne_iff_ne,ne_eq]at hfn;obtain⟨h1,h2⟩:=hfn;simp[invoke,callFunc,program,Sem.run,hfn',h1,Option.isNone];cases hb:fn'.body<;>simp[hb]at h2 ⊢
 have hJ0:J UO 0 (grow W0 w.heap W1.heap) W1.heap:=by rw[hJ];simp only[if_true];exact⟨hI1,hgrowL⟩
 refine tS ((hIter (w.heap.size+1) J (grow W0 w.heap W1.heap) W1.heap ?_ (View.le_trans hV (bo hW0)) (View.b8 (View.le_trans hV hW0) U1) hJ0 ?_ W1 rfl).mono ?_)
 ·intro b k;rw[hJ];cases b with
  | true=>simp only[if_true];exact⟨λh=>(hI UL k).le h.1,λh a1 a2 a3 a4=>⟨(hI UL k).move h.1 (λb hb=>a1 b U1) a2 a3 a4,by rw[a1 _ U1];exact h.2⟩⟩
  | false=>simp only[SB,if_false];exact⟨λ⟨e,c,_,_,_,h,_⟩=>(hI (UK e) k).le h,λ⟨e,c,p1,p2,p3,h,p4⟩ a1 a2 a3 a4=>⟨e,c,p1,p2,p3,(hI (UK e) k).move h (λb hb=>a1 b U1) a2 a3 a4,by rw[a1 _ U1];exact p4⟩⟩
 ·intro k vs W' h1 hag hall hJk w' hw';subst hw';rw[hJ]at hJk;simp only[if_true]at hJk;obtain⟨hIk,hWl⟩:=hJk;have hag0 : ∀b,b<w.heap.size->W' b=W0 b:=λb hb=>by rw[hag b U1,hgrow0 b hb]
  have hle:=(hI UL k).le hIk;have hl:w'.heap[w.heap.size+1]? = UK (.loop (rec .ready UL)):=hle _ _ hWl;have hvl:=hlen vs (RF hall);have hyd:=run_yield (P:=P) (args:=vs.toArray) hl (by rw[hrec];simpa using hvl);refine⟨_,_,_,_,hyd,roundIn_of_wpIn trivial ?_⟩;rw[hrec];simp only;obtain⟨hasg,_⟩:=hround k vs W' w'.heap hag0 hall hIk;have hact:(ps.zip vs.toArray).foldl (λtmps (p:Nat × Value)=>tmps.setIfInBounds p.1 p.2) a.tmps=(ps.toList.zip vs).foldl (λt (p:Nat × Value)=>t.setIfInBounds p.1 p.2) a.tmps:=by rw[<-Array.foldl_toList];simp
  have hsat:=Li (ps:=ps.toList) (vs:=vs) hρ (λp hp=>by rw[hN];exact hps p hp) hvl.symm;refine wpIn_mono (hx (r:=UK (w.heap.size+1)) (a:={ tmps:=(ps.zip vs.toArray).foldl (λtmps (p:Nat × Value)=>tmps.setIfInBounds p.1 p.2) a.tmps,defers:=[] }) hasg (by rw[hact];exact hsat) (by rw[hact,HR];exact hN)) ?_;rintro e a1 w1 ⟨ρ1,s1,n1,_,hqq,hS⟩;obtain⟨rfl,hh,rfl⟩:=sK hqq;have hl':w1.heap[w.heap.size+1]? = UK (.loop (rec .ready UL)):=by rw[hh];exact hl
  refine⟨_,run_beginRound hl' (by rw[hrec]),?_⟩;have hIk1:I UL k W' w1.heap:=by rw[hh];exact hIk
  have hI2:=(hI UL k).put (.loop (rec .busy UL)) hIk1 hWl U1;have hbusy:({ rec .ready UL with state:=.busy }:Loop)=rec .busy none:=by rw[hrec]
  rw[hbusy];obtain⟨_,hbody⟩:=hround k vs (W'.set (w.heap.size+1) (.loop (rec .busy UL))) _ (λb hb=>by unfold View.set;rw[if_neg U1];exact hag0 b hb) hall hI2;have hS2:Same w1 (w1.putObj (w.heap.size+1) (.loop (rec .busy UL))):=Same.put hl' U2;refine wpIn_mono (hy (r:=UK (w.heap.size+1)) (vW (Q':=λe _ h3=>oW e=UO/\I (match e with | .normal=>UL | e=>UK e) (k+1) (W'.set (w.heap.size+1) (.loop (rec .busy UL))) h3) (λe ρ h hp hq=>⟨hp,hq⟩) hbody) s1 n1) ?_;rintro e a3 w3 ⟨ρ3,s3,n3,_,hqq,hS3⟩;obtain⟨hpe,hI3⟩:=sK hqq;have hset:(W'.set (w.heap.size+1) (.loop (rec .busy UL))) (w.heap.size+1)=UK (.loop (rec .busy UL)):=by unfold View.set;rw[if_pos rfl]
  have hset2 : ∀o o',(W'.set (w.heap.size+1) o).set (w.heap.size+1) o'=W'.set (w.heap.size+1) o':=by intro o o';funext b;unfold View.set;split<;>rfl
  have hself:W'.set (w.heap.size+1) (.loop (rec .ready UL))=W':=by
   funext b;unfold View.set;split
   ·rename_i e;subst e;exact hWl.symm
   rfl
  have fin : ∀jump:Option Code,w3.heap[w.heap.size+1]? = UK (.loop (rec .busy UL))->
    (Instr.endRound (w.heap.size+1) jump).run P w3 = .ok (.bool jump.isNone) (w3.putObj (w.heap.size+1) (.loop (rec (if jump.isNone then .ready else .done) jump)))/\Same w' (w3.putObj (w.heap.size+1) (.loop (rec (if jump.isNone then .ready else .done) jump))):=by intro jump h3;have:=run_endRound (P:=P) jump h3;rw[hrec]at this ⊢;rw[hrec]at h3;refine⟨this,((hS.trans hS2).trans hS3).trans (Same.put h3 U2)⟩
  cases e with
  | normal=>obtain⟨f1,f2⟩:=fin UL ((hI UL (k+1)).le hI3 _ _ hset);refine⟨_,_,f1,UO,rfl,⟨W',λ_ _=>rfl,λ_=>rfl,?_⟩,f2⟩;rw[hJ];simp only[if_true];have:=(hI UL (k+1)).put (.loop (rec .ready UL)) hI3 hset U1;rw[hset2,hself]at this;exact⟨this,hWl⟩
  | ret=>obtain⟨f1,f2⟩:=fin (UK .ret) ((hI (UK .ret) (k+1)).le hI3 _ _ hset);refine⟨_,_,f1,UP,rfl,⟨W'.set (w.heap.size+1) (.loop (rec .done (UK .ret))),λi hi=>by unfold View.set;rw[if_neg hi],(λh=>by cases h),?_⟩,f2⟩;rw[hJ];simp only[SB,if_false];have:=(hI (UK .ret) (k+1)).put (.loop (rec .done (UK .ret))) hI3 hset U1;rw[hset2]at this;exact⟨.ret,.ret,rfl,by simp,.inl ⟨rfl,rfl⟩,this,by unfold View.set;rw[if_pos rfl]⟩
  | exit id=>obtain⟨f1,f2⟩:=fin (UK (.exit id)) ((hI (UK (.exit id)) (k+1)).le hI3 _ _ hset);refine⟨_,_,f1,UP,rfl,⟨W'.set (w.heap.size+1) (.loop (rec .done (UK (.exit id)))),λi hi=>by unfold View.set;rw[if_neg hi],(λh=>by cases h),?_⟩,f2⟩;rw[hJ];simp only[SB,if_false];have:=(hI (UK (.exit id)) (k+1)).put (.loop (rec .done (UK (.exit id)))) hI3 hset U1;rw[hset2]at this;exact⟨(.exit id),(.exit id),rfl,by simp,.inr ⟨id,rfl,rfl⟩,this,by unfold View.set;rw[if_pos rfl]⟩
  | goto t=>cases hpe
  | panic ch=>cases hpe
  | outgrown=>cases hpe
 rintro e w2 ⟨v,rfl,⟨b,k,W',hag,hJk,hk⟩,hS⟩;have hag0 : ∀b,b<w.heap.size->W' b=W0 b:=λb hb=>by rw[hag b U1 U1,hgrow0 b hb]
 have hD2:=hS.defs _ hK1;have marks : ∀w4:World,(∀k,k≠w.heap.size+1->w4.heap[k]? = w2.heap[k]?)->gJ UP a.defers w.heap.size ([{ target:=.collected w.heap.size,args:=#[] }]++a.defers) w4.heap:=
  λw4 h4=>⟨[w.heap.size],rfl,λh=>by(cases h),λm hm=>by simp only[Q8]at hm;subst hm;exact⟨Q4 _,by rw[h4 _ U1];exact hD2⟩,by simp⟩;have hsset : ∀o b,b<w.heap.size->(W'.set (w.heap.size+1) o) b=W0 b:=λo b hb=>by unfold View.set;rw[if_neg U1];exact hag0 b hb
 rw[hJ]at hJk;cases b with
 | true=>simp only[if_true]at hJk;obtain⟨hIk,hWl⟩:=hJk;have hl:=(hI UL k).le hIk _ _ hWl;refine⟨UL,_,by have:=run_endLoop (P:=P) hl (by rw[hrec];simp);rw[hrec]at this;exact this,ρ,hρ,hN,marks _ (λk hk=>World.putObj_heap_other hk),?_,(hS1.trans hS).trans (Same.put hl U2)⟩;have hkl:=hk rfl;rw[hkl]at hIk;exact hdone _ _ (hsset _) ((hI UL all.length).put _ hIk hWl U1)
 | false=>
  simp only[SB,if_false]at hJk;obtain⟨e,c,hpe,hne,hec,hIk,hWl⟩:=hJk;have hl:=(hI (UK e) k).le hIk _ _ hWl;refine⟨UK c,_,by have:=run_endLoop (P:=P) hl (by rw[hrec];simp);rw[hrec]at this;exact this,?_⟩;have hQ:=hexit e k _ _ hpe hne (hsset _) ((hI (UK e) k).put (.loop { state:=.exhausted,pending:=UK c,fn,tmps:=a.tmps,params:=ps,assign:=x,body:=y,defers:=w.heap.size }) hIk hWl U1);have hS4:=(hS1.trans hS).trans (Same.put (o':=.loop { state:=.exhausted,pending:=UK c,fn,tmps:=a.tmps,params:=ps,assign:=x,body:=y,defers:=w.heap.size }) hl U2);rcases hec with⟨rfl,rfl⟩ | ⟨id,rfl,rfl⟩
  ·exact wpIn_ret ⟨ρ,hρ,hN,marks _ (λk hk=>World.putObj_heap_other hk),hQ,hS4⟩
  exact wpIn_exit ⟨ρ,hρ,hN,marks _ (λk hk=>World.putObj_heap_other hk),hQ,hS4⟩
theorem eg{pp:PP}(hm:P.follows .mixedOrders=UO) : ∀(c:Code) {inR:Bool} {L:LC} {Q:Post} {ρ:Env} {a:Act} {w:World} {r:Option Nat},eG P N live liveR inR c=UK L->(inR=UP->r=UL)->L.wp P Q ρ w.heap->Sat ρ a->a.tmps.size=N->
  c.wpIn (Fw r) 0 P (vG N L.plain a.defers w Q) a w
 | .skip,inR,L,Q,ρ,a,w,r,hL,hr,hw,hρ,hN=>by simp only[eG,Q2]at hL;subst hL;exact wpIn_skip ⟨ρ,hρ,hN,gJ.refl ..,hw,Same.refl _⟩
 | .region id ops draw,inR,L,Q,ρ,a,w,r,hL,hr,hw,hρ,hN=>by
  have post : ∀e a' w',lZ N a.defers w (Q .normal) e a' w'->vG N UO a.defers w Q e a' w':=by
   intro e a' w' h;cases e<;>first | exact h.elim | skip
   ·obtain⟨ρ',h1,h2,h3,h4,h5⟩:=h;exact⟨ρ',h1,h2,h3▸gJ.refl ..,h4,h5⟩
   obtain⟨ρ',h1,h2,h3,h4,h5⟩:=h;exact⟨ρ',h1,h2,h3▸gJ.refl ..,h4,h5⟩
  cases draw with
  | true=>
   simp only[eG,if_true]at hL;split at hL;case isFalse=>cases hL
   rename_i hpl;simp only[Q6]at hL;obtain⟨R,hR,rfl⟩:=hL;exact wpIn_mono (Cy hm hpl hR hN rfl hρ hw) post
  | false=>simp only[eG,SB,if_false,Q6]at hL;obtain⟨R,hR,rfl⟩:=hL;exact wpIn_mono (Ds hR hN rfl hρ hw) post
 | .seq x y,inR,L,Q,ρ,a,w,r,hL,hr,hw,hρ,hN=>by
  simp only[eG]at hL;split at hL;case h_2=>cases hL
  rename_i A B hA hB;simp only[Q2]at hL;subst hL;simp only[LC.wp]at hw;refine wpIn_seq (wpIn_mono (eg hm x hA hr hw hρ hN) ?_);rintro e a1 w1 ⟨ρ1,h1,h2,h3,h4,h5⟩;cases e with
  | normal=>refine wpIn_mono (eg hm y hB hr h4 h1 h2) ?_;rintro e a2 w2 ⟨ρ2,g1,g2,g3,g4,g5⟩;exact⟨ρ2,g1,g2,h3.trans g3 h5 g5,g4,h5.trans g5⟩
  | _=>exact⟨ρ1,h1,h2,h3.weak (by simp[LC.plain];exact λh _=>h),h4,h5⟩
 | .cond c x y,inR,L,Q,ρ,a,w,r,hL,hr,hw,hρ,hN=>by
  simp only[eG]at hL;split at hL;case h_2=>cases hL
  rename_i A B hA hB;simp only[Q2]at hL;subst hL;simp only[LC.wp]at hw;obtain⟨b,hb,h1,h2⟩:=hw;have hb':=bP (a:=a) (je (λt v h=>hρ t v h) hb);cases b with
  | true=>exact wpIn_cond hb' (wpIn_mono (eg hm x hA hr (h1 rfl) (Dw hρ) hN) λ_ _ _ h=>h.weak (by simp[LC.plain];exact λh _=>h))
  | false=>exact wpIn_cond hb' (wpIn_mono (eg hm y hB hr (h2 rfl) (Dw hρ) hN) λ_ _ _ h=>h.weak (by simp[LC.plain]))
 | .block id x,inR,L,Q,ρ,a,w,r,hL,hr,hw,hρ,hN=>by
  simp only[eG,Q6]at hL;obtain⟨A,hA,rfl⟩:=hL;simp only[LC.wp]at hw;refine wpIn_block (wpIn_mono (eg hm x hA hr hw hρ hN) ?_);rintro e a1 w1 ⟨ρ1,h1,h2,h3,h4,h5⟩;cases e with
  | exit k=>
   simp only[postOf,dT]at h4;simp only[Exit.inBlock];split
   ·rename_i hk;rw[if_pos hk]at h4;exact⟨ρ1,h1,h2,h3,h4,h5⟩
   rename_i hk;rw[if_neg hk]at h4;exact⟨ρ1,h1,h2,h3,h4,h5⟩
  | _=>exact⟨ρ1,h1,h2,h3,h4,h5⟩
 | .loop x,inR,L,Q,ρ,a,w,r,hL,hr,hw,hρ,hN=>by
  simp only[eG,Q6]at hL;obtain⟨A,hA,rfl⟩:=hL;simp only[LC.wp]at hw;obtain⟨ks,I,⟨n,h0⟩,hround⟩:=hw;refine wpIn_loop_ghost (λn a1 w1=>∃ρ1,Sat ρ1 a1/\a1.tmps.size=N/\gJ A.plain a.defers w.heap.size a1.defers w1.heap/\I n ρ1 w1.heap/\Same w w1) (n:=n) ⟨aX ks ρ,Db hρ,hN,gJ.refl ..,h0,Same.refl _⟩ ?_;rintro n a1 w1 ⟨ρ1,h1,h2,h3,h4,h5⟩;refine wpIn_mono (eg hm x hA hr (hround n ρ1 w1.heap h4) h1 h2) ?_;rintro e a2 w2 ⟨ρ2,g1,g2,g3,g4,g5⟩;have hm2:gJ A.plain a.defers w.heap.size a2.defers w2.heap:=(h3.trans g3 h5 g5).weak U2;cases e with
  | normal=>obtain⟨m,hlt,hI⟩:=g4;exact⟨m,hlt,aX ks ρ2,Db g1,g2,hm2,hI,h5.trans g5⟩
  | _=>exact⟨ρ2,g1,g2,hm2,g4,h5.trans g5⟩
 | .exit id,inR,L,Q,ρ,a,w,r,hL,hr,hw,hρ,hN=>by simp only[eG,Q2]at hL;subst hL;exact wpIn_exit ⟨ρ,hρ,hN,gJ.refl ..,hw,Same.refl _⟩
 | .ret,inR,L,Q,ρ,a,w,r,hL,hr,hw,hρ,hN=>by simp only[eG,Q2]at hL;subst hL;exact wpIn_ret ⟨ρ,hρ,hN,gJ.refl ..,hw,Same.refl _⟩
 | .label l,inR,L,Q,ρ,a,w,r,hL,hr,hw,hρ,hN=>by simp only[eG,Q2]at hL;subst hL;exact wpIn_label ⟨ρ,hρ,hN,gJ.refl ..,hw,Same.refl _⟩
 | .goto l,_,_,_,_,_,_,_,hL,_,_,_,_=>by simp[eG]at hL
 | .scope c,inR,L,Q,ρ,a,w,r,hL,hr,hw,hρ,hN=>by
  simp only[eG]at hL;have hw2:L.wp P (λe ρ h=>oW e=UO/\Q e ρ h) ρ w.heap:=vW (λe ρ h hp hq=>⟨hp,hq⟩) hw;refine FB (wpIn_mono (eg hm c hL hr hw2 hρ hN) λe a w ⟨ρ,h1,h2,h3,h4,h5⟩=>?_);cases e with
  | panic ch=>exact⟨λl h=>(by cases h),ρ,h1,h2,h3,h4,h5⟩
  | goto l=>cases h4.1
  | outgrown=>cases h4.1
  | _=>exact⟨λl h=>(by cases h),ρ,h1,h2,h3,h4.2,h5⟩
 | .refuse s,_,_,_,_,_,_,_,hL,_,_,_,_=>by simp[eG]at hL
 | .rangeFunc f ps x y,inR,L,Q,ρ,a,w,r,hL,hr,hw,hρ,hN=>by
  simp only[eG]at hL;split at hL
  ·cases hL
  rename_i hin;obtain rfl:=hr (by simpa using hin);split at hL;case isFalse=>cases hL
  rename_i hps;split at hL;case h_2=>cases hL
  rename_i A B hA hB;split at hL;case isFalse=>cases hL
  simp only[Q2]at hL;subst hL;exact DK (λhw h1 h2=>eg hm x hA U2 hw h1 h2) (λhw h1 h2=>eg hm y hB U2 hw h1 h2) (λp hp=>by simpa using RS.1 hps p hp) hw hρ hN
end
def resE(P:Program):ResultVar->Option E
 | .tmp t=>UK (.tmp t)
 | .cell a t=>zT P t (.tmp a)
def pack:List Value->Value
 | [v]=>v
 | vs=>.tuple vs.toArray
structure LFn where
 res:List E
 body:LC
 deriving Inhabited
def sy:Code->List Nat
 | .region _ ops _=>(ops.toList.foldl (fun(p:List Nat × List Nat) o=>((tmpsOf o).foldl (λl t=>if p.2.contains t||l.contains t then l else t::l) p.1,match o.dst with | some d=>d::p.2 | none=>p.2)) ([],[])).1
 | .seq x y=>sy x++sy y
 | .cond _ x y=>sy x++sy y
 | .block _ x | .loop x | .scope x=>sy x
 | .rangeFunc f _ x y=>(match f with | .tmp t=>[t] | _=>[])++sy x++sy y
 | _=>[]
def lR:Code->List Nat
 | .seq x y=>lR x++lR y
 | .cond c x y=>(match c with | .tmp t=>[t] | _=>[])++lR x++lR y
 | .block _ x | .loop x | .scope x=>lR x
 | .rangeFunc _ _ x y=>lR x++lR y
 | _=>[]
def xa(fn:Func)(c:Code):List Nat:=(fn.results.toList.map fun | .tmp t=>t | .cell a _=>a)++(sy c).eraseDups
def aN(P:Program)(fn:Func):Option LFn:=
 match fn.body with
 | some c=>match fn.results.toList.mapM (resE P),eG P fn.ntmps (lR c++xa fn c) (xa fn c) UP c with
  | some res,UK L=>UK ⟨res,L⟩
  | _,_=>UL
 | none=>UL
def ln:Nat->List Value->Env
 | _,[]=>[]
 | k,v::vs=>(k,v)::ln (k+1) vs
def dY(res:List E)(R:Value->Heap->Prop):Post
 | .normal,ρ,h | .ret,ρ,h=>∃vs,evs (look ρ) (vw h) res=UK vs/\R (pack vs) h
 | _,_,_=>False
theorem qo : ∀(vs:List Value) (k t:Nat) (v:Value),look (ln k vs) t=UK v->k<=t/\vs[t-k]? = UK v
 | [],_,_,_,h=>by simp[ln,look]at h
 | u::vs,k,t,v,h=>by
  simp only[ln,look]at h;split at h
  ·rename_i e;subst e;simp only[Q2]at h;subst h;exact⟨Q4 _,by simp⟩
  rename_i e;obtain⟨h1,h2⟩:=qo vs (k+1) t v h;refine⟨by omega,?_⟩;have:t-k=(t-(k+1))+1:=by omega
  rw[this];simpa using h2
theorem Hb{P:Program}{a:Act}{w:World}{F:ResultVar->Sem Value}(hF1 : ∀t,F (ResultVar.tmp t)=pure (a.tmps.getD t undef))
  (hF2 : ∀b t,F (ResultVar.cell b t)=(do loadVar t (<-asAddr (a.tmps.getD b undef)))) : ∀{rs:List ResultVar} {es:List E} {vs:List Value},rs.mapM (resE P)=UK es->evs (cz a) (vw w.heap) es=UK vs->
  (rs.mapM F).run P w=Result.ok vs w
 | [],es,vs,h,hv=>by simp at h;subst h;simp[evs]at hv;subst hv;simp
 | x::rs,es,vs,h,hv=>by
  simp only[Uy,Option.bind_eq_bind,Ro]at h;obtain⟨e,he,es',hes,h⟩:=h;simp only[Option.pure_def,Q2]at h;subst h;simp only[evs]at hv;split at hv
  ·rename_i v vs' hv1 hv2;simp only[Q2]at hv;subst hv;have ih:=Hb hF1 hF2 hes hv2;cases x with
   | tmp t=>simp only[resE,Q2]at he;subst he;simp only[ev,cz]at hv1;simp[hF1,hv1,ih]
   | cell a' t=>
    simp only[resE]at he;have hx : ∃u,ev (cz a) (vw w.heap) (.tmp a')=UK u:=by
     unfold zT at he;split at he
     ·simp only[Q2]at he;subst he;obtain⟨u,hu,_⟩:=kP hv1;exact⟨u,hu⟩
     ·simp only[Q2]at he;subst he;obtain⟨u,hu,_⟩:=kP hv1;exact⟨u,hu⟩
     cases he
    obtain⟨u,hu⟩:=hx;have h1:=run_load he hu hv1;simp only[ev,cz]at hu;cases u with
    | pointer o=>
     cases o with
     | none=>simp[Instr.loadAt,Instr.sureAddr,stuck,Sem.run]at h1
     | some ad=>simp[Instr.loadAt,Instr.sureAddr]at h1;simp[hF2,hu,asAddr,h1,ih]
    | _=>simp[Instr.loadAt,Instr.sureAddr,stuck,Sem.run]at h1
  cases hv
theorem Mg(vs:List Value):(if h:vs.toArray.size=1 then vs.toArray[0] else Value.tuple vs.toArray)=pack vs:=by
 match vs with
 | []=>rfl
 | [v]=>rfl
 | v::u::l=>simp[pack]
variable{fn:Func}
theorem oL{a:Act}{w:World}{es:List E}{vs:List Value}(h:fn.results.toList.mapM (resE P)=UK es)(hv:evs (cz a) (vw w.heap) es=UK vs):
  (results fn a.tmps).run P w = .ok (pack vs) w:=by unfold results;rw[Uh];have h1:=Hb (P:=P) (a:=a) (w:=w) (F:=λx=>match x with | .tmp t=>pure (a.tmps.getD t undef) | .cell b t=>do loadVar t (<-asAddr (a.tmps.getD b undef))) (λ_=>rfl) (λ_ _=>rfl) h hv;rw[<-Mg];simp only[Sem.run_bind,Sem.run_map];erw [h1];simp[Result.andThen]
variable{args:List Value}
theorem wA{pp:PP}{L:LFn}{Q:Post}{w:World}{c:Code}(hm:P.follows .mixedOrders=UO)(hc:fn.body=UK c)(hL:aN P fn=UK L)(hn:args.length<=fn.ntmps)(hw:L.body.wp P Q (ln 0 args) w.heap):fn.results.toList.mapM (resE P)=UK L.res/\
  c.wpIn (Fw UL) 0 P (vG fn.ntmps L.body.plain [] w Q) { tmps:=args.toArray++Array.replicate (fn.ntmps-args.toArray.size) undef,defers:=[] } w:=by
 unfold aN at hL;split at hL;case h_2=>cases hL
 rename_i c' hc';rw[hc]at hc';cases hc';split at hL;case h_2=>cases hL
 rename_i res B hres hB;simp only[Q2]at hL;subst hL;have hsat:Sat (ln 0 args) { tmps:=args.toArray++Array.replicate (fn.ntmps-args.toArray.size) undef,defers:=[] }:=by
  intro t v hl;obtain⟨_,h2⟩:=qo args 0 t v hl;have:t<args.length:=by
   rcases Ri t args.length with h | h
   ·exact h
   simp[RP h]at h2
  simp only[Nat.sub_zero]at h2;simp only[TS,S2,this,if_true,TU];exact h2
 exact⟨hres,eg (r:=UL) hm c hB (λ_=>rfl) hw hsat U9⟩
theorem tV{L:LFn}(hL:aN P fn=UK L): ∃c,fn.body=UK c:=by
 unfold aN at hL;split at hL
 ·rename_i c hc;exact⟨c,hc⟩
 cases hL
theorem Ac{f:FuncId}{L:LFn}{h:Heap}{R:Value->Heap->Prop}(hm:P.follows .mixedOrders=UO)(hf:P.funcs[f]? = UK fn)(hL:aN P fn=UK L)(hn:args.length<=fn.ntmps)(hpl:L.body.plain=UO)(hw:L.body.wp P (dY L.res R) (ln 0 args) h):ay P f args.toArray h R:=by
 intro w hwh;subst hwh;obtain⟨c,hc⟩:=tV hL;obtain⟨hres,hwp⟩:=wA hm hc hL hn hw;refine(callsIn_wide (n:=0)).1 (callsIn_of_wp hf hc trivial (wpIn_mono hwp ?_));rintro e a1 w1 ⟨ρ1,h1,h2,⟨ms,h3,hms,_⟩,h4,h5⟩;rw[hms hpl]at h3;have fin:(∃vs,evs (look ρ1) (vw w1.heap) L.res=UK vs/\R (pack vs) w1.heap)->a1.defers=[]/\∃v,(results fn a1.tmps).run P w1 = .ok v w1/\∃u,Ending.returned v = .returned u/\R u w1.heap/\Same w w1:=by rintro⟨vs,g1,g2⟩;exact⟨h3,pack vs,oL hres (sQ (λt v h=>h1 t v h) g1),pack vs,rfl,g2,h5⟩
 cases e with
 | normal=>exact fin h4
 | ret=>exact fin h4
 | panic ch=>exact h4.2.elim
 | _=>exact h4.elim
abbrev ppOf(Rp:List PanicEntry->Heap->Prop):PP:=⟨Rp,λ_=>True⟩
theorem yP{f:FuncId}{L:LFn}{h:Heap}{R:Value->Heap->Prop}{Rp:List PanicEntry->Heap->Prop}(hm:P.follows .mixedOrders=UO)(hf:P.funcs[f]? = UK fn)(hL:aN P fn=UK L)(hn:args.length<=fn.ntmps)(hpl:L.body.plain=UO)(hw:@LC.wp (ppOf Rp) P L.body (dY L.res R) (ln 0 args) h):jo P f args.toArray h R Rp:=by
 intro w hwh;subst hwh;obtain⟨c,hc⟩:=tV hL;obtain⟨hres,hwp⟩:=wA hm hc hL hn hw;refine(callsIn_wide (n:=0)).1 (callsIn_of_wp hf hc trivial (wpIn_mono hwp ?_));rintro e a1 w1 ⟨ρ1,h1,h2,⟨ms,h3,hms,_⟩,h4,h5⟩;rw[hms hpl]at h3;have fin:(∃vs,evs (look ρ1) (vw w1.heap) L.res=UK vs/\R (pack vs) w1.heap)->a1.defers=[]/\∃v,(results fn a1.tmps).run P w1 = .ok v w1/\((∃u,Ending.returned v = .returned u/\R u w1.heap/\Same w w1)\/∃ch,Ending.returned v = .panicked ch/\Rp ch w1.heap/\Same w w1):=by rintro⟨vs,g1,g2⟩;exact⟨h3,pack vs,oL hres (sQ (λt v h=>h1 t v h) g1),.inl ⟨pack vs,rfl,g2,h5⟩⟩
 cases e with
 | normal=>exact fin h4
 | ret=>exact fin h4
 | panic ch=>exact⟨h3,.inr ⟨ch,rfl,h4.2,h5⟩⟩
 | _=>exact h4.elim
structure nC(n:Nat)(h h':Heap):Prop where
 size:h'.size=h.size
 same : ∀b,b<n\/h[b]?≠UK (.deferred (UK []))->h'[b]? = h[b]?
theorem nC.refl(n:Nat)(h:Heap):nC n h h:=⟨rfl,λ_ _=>rfl⟩
def BR(n:Nat)(res:List E)(R:Value->Heap->Prop):Post
 | .normal,ρ,h | .ret,ρ,h=>∀h',nC n h h'->∃vs,evs (look ρ) (vw h') res=UK vs/\R (pack vs) h'
 | _,_,_=>False
theorem vR{P:Program}{fn:Func}{a:Act}{w0:World}{R:Ending->World->Prop} : ∀(ms:List Nat) (w:World),ms.Nodup->(∀m∈ms,w0.heap.size<=m/\w.heap[m]? = UK (.deferred (UK [])))->Same w0 w->
  (∀w',nC w0.heap.size w.heap w'.heap->Same w0 w'->∃v,(results fn a.tmps).run P w' = .ok v w'/\R (.returned v) w')->
  LeavesInM (Fw UL) 0 P fn a.tmps R (ms.map λm=>{ target:=.collected m,args:=#[] }) .returning w
 | [],w,_,_,hS,h=>h w (nC.refl _ _) hS
 | m::ms,w,hnd,hms,hS,h=>by
  obtain⟨h1,h2⟩:=S0.1 hnd;obtain⟨hm1,hm2⟩:=hms m (Rm ..);have hS1:Same w0 (w.putObj m (.deferred UL)):=⟨hS.os,hS.output,hS.tape,by simpa[World.putObj]using hS.size,λb hb=>by
   have hne:b≠m:=λe=>by have:=(Rk.1 hb).1;omega
   rw[World.putObj_heap_other hne];exact hS.defs b hb⟩;refine⟨by simp,.inl ⟨m,_,rfl,run_takeDeferred hm2,vR ms _ h2 (λk hk=>?_) hS1 λw' hsw hS'=>h w' ⟨by rw[hsw.size];simp[World.putObj],λb hb=>?_⟩ hS'⟩⟩
  ·have hne:k≠m:=λe=>h1 (e▸hk);rw[World.putObj_heap_other hne];exact hms k (Q7 _ hk)
  have hne:b≠m:=λe=>by
   subst e;rcases hb with hb | hb
   ·omega
   exact hb hm2
  have e:(w.putObj m (.deferred UL)).heap[b]? = w.heap[b]?:=World.putObj_heap_other hne;rw[hsw.same b (by rw[e];exact hb),e]
theorem zW{f:FuncId}{L:LFn}{h:Heap}{R:Value->Heap->Prop}(hm:P.follows .mixedOrders=UO)(hf:P.funcs[f]? = UK fn)(hL:aN P fn=UK L)(hn:args.length<=fn.ntmps)(hw:L.body.wp P (BR h.size L.res R) (ln 0 args) h):ay P f args.toArray h R:=by
 intro w hwh;subst hwh;obtain⟨c,hc⟩:=tV hL;obtain⟨hres,hwp⟩:=wA hm hc hL hn hw;refine(callsIn_wide (n:=0)).1 (callsIn_of_wp_marks hf hc trivial (wpIn_mono hwp ?_));rintro e a1 w1 ⟨ρ1,h1,h2,⟨ms,h3,_,hms,hnd⟩,h4,h5⟩;have fin:(∀h',nC w.heap.size w1.heap h'->∃vs,evs (look ρ1) (vw h') L.res=UK vs/\R (pack vs) h')->LeavesInM (Fw UL) 0 P fn a1.tmps (λe w'=>∃u,e = .returned u/\R u w'.heap/\Same w w') a1.defers .returning w1:=by intro hq;rw[h3,SI];refine vR ms w1 hnd hms h5 λw' hsw hS=>?_;obtain⟨vs,g1,g2⟩:=hq w'.heap hsw;exact⟨pack vs,oL hres (sQ (λt v h=>h1 t v h) g1),pack vs,rfl,g2,hS⟩
 cases e with
 | normal=>exact fin h4
 | ret=>exact fin h4
 | panic ch=>exact h4.2.elim
 | _=>exact h4.elim
def iT(fn:Func):List Nat:=match fn.body with | some c=>lR c++xa fn c | none=>[]
def EN(fn:Func):List Nat:=match fn.body with | some c=>xa fn c | none=>[]
def CV(fn:Func):Code:=match fn.body with | some (.seq c _)=>c | _=>.skip
def Nw(fn:Func):Code:=match fn.body with | some (.seq _ (.seq c _))=>c | _=>.skip
def Jb(fn:Func):Code:=match fn.body with | some (.seq _ (.seq _ c))=>c | _=>.skip
def Nn(fn:Func):Code:=match fn.body with | some (.seq _ c)=>c | _=>.skip
def JT:Code->Array Oper | .region _ ops _=>ops | _=>#[]
def Ni:Code->Nat | .region i _ _=>i | _=>0
def NQ(fn:Func)(i:Nat):Oper:=((JT (Nw fn))[i]?).getD default
def OM(fn:Func)(i:Nat):Oper:=((JT (CV fn))[i]?).getD default
def LC.tail:LC->LC | .seq _ y=>y | _=>.skip
section
variable{P:Program}{A B:List Nat}{x y:LC}{c d:Code}
structure FO where
 b:Nat
 o:Oper
 q:Option (Nat × E)
 a:Nat
def fAft(o:Oper):Nat:=(o.after.toList.filter (Region.binds .any)).foldl (λm x=>m||| 1 <<< x.on) 0
def fOps(P:Program):Nat->List Oper->List FO
 | _,[]=>[]
 | i,o::l=>⟨1 <<< i,o,(match o.dst,opE P o.op with | some d,UK e=>UK (d,e) | _,_=>UL),fAft o⟩::fOps P (i+1) l
def fHas(L b:Nat):Bool:=L&&& b != 0
def fQs:List FO->Nat->List FO × Nat
 | [],L=>([],L)
 | x::l,L=>match x.q with
  | none=>fQs l L
  | some _=>if !fHas L x.b&&(x.a&&& L == x.a) then(match fQs l (L||| x.b)with | (r,m)=>(x::r,m)) else fQs l L
def Ku(ops:List FO)(j:Nat):Option Nat:=match ops[j]? with | some x=>x.o.dst | none=>UL
def PJ(ops:List FO)(x:FO)(r:List E):List E:=match x.q with
 | none=>r
 | some (d,e)=>match x.o.guard with
  | none=>if r.any (·.occ d) then r.map (·.subst d e) else r++[e]
  | some (j,b)=>match Ku ops j with
   | some c=>if r.any (·.occG d c b) then r.map (·.dy d c b e) else(r++[E.tmp d]).map (·.dy d c b e)
   | none=>r
def G9(ops:List FO):List FO->List E->List E
 | [],r=>r
 | x::l,r=>PJ ops x (G9 ops l r)
def fDst:List FO->List Nat
 | []=>[]
 | x::l=>match x.o.dst with | some d=>d::fDst l | none=>fDst l
def fFin(ops:List FO)(live:List Nat)(qs:List FO):Reg:=
 let outs:=(fDst qs).filter live.contains
 let es:=G9 ops qs (outs.map E.tmp)
 .fin (fDst qs) (outs.zip es) (es.drop outs.length)
def N2(ops:List FO):List FO->List Nat
 | []=>[]
 | x::l=>tmpsOf x.o++((match x.o.guard with | some (j,_)=>(Ku ops j).toList | none=>[])++N2 ops l)
def Ny(ops:List FO)(live:List Nat)(qs:List FO)(x:FO)(rest:List FO)(tail:Bool)(next:Reg):Reg:=
 let us:=N2 ops rest
 let need:=λd=>live.contains d||us.contains d
 let outs:=(fDst qs).filter need
 let args:=tmpsOf x.o
 let keep:=match x.o.dst with | some d=>need d | none=>UP
 match x.o.guard with
 | none=>let es:=G9 ops qs (outs.map E.tmp++args.map E.tmp);.loud (fDst qs) (outs.zip es) (args.zip (es.drop outs.length)) UL (es.drop (outs.length+args.length)) tail x.o.op x.o.type x.o.dst keep next
 | some (j,b)=>match Ku ops j with
  | none=>next
  | some c=>
   let es:=G9 ops qs (outs.map E.tmp++(args.map E.tmp++[E.tmp c]));match es.drop (outs.length+args.length)with
   | g::chk=>.loud (fDst qs) (outs.zip es) (args.zip (es.drop outs.length)) (UK (g,b)) chk tail x.o.op x.o.type x.o.dst keep next
   | []=>next
def fU(ops:List FO)(live:List Nat):Nat->List FO->Reg
 | 0,_=>default
 | f+1,l=>
  let qs:=l.takeWhile (·.q.isSome);match l.dropWhile (·.q.isSome)with
  | []=>fFin ops live qs
  | x::rest=>Ny ops live qs x rest UP (fU ops live f rest)
def NO:List Reg->Reg
 | []=>default
 | [x]=>x
 | x::l=>.both x (NO l)
def fD(ops:List FO)(live:List Nat)(t:Nat):Nat->Nat->Reg
 | 0,_=>default
 | f+1,L=>match fQs ops L with
  | (qs,m)=>match ops.filter λx=>!fHas m x.b&&(x.a&&& m == x.a)with
   | []=>fFin ops live qs
   | rs=>NO (rs.map λx=>Ny ops live qs x (ops.filter λy=>!fHas (m||| x.b) y.b) (t == x.b) (fD ops live t f (m||| x.b)))
def NX(R:Nat):List FO->List Nat->Nat
 | [],_=>0
 | x::l,D=>let d:=(D.zipIdx.foldl (λm p=>if fHas x.a (1 <<< p.2) then m||| p.1 else m) x.b);if x.q.isNone&&x.o.guard.isNone&&(R&&& d == R) then x.b else NX R l (D++[d])
def Ck:List FO->Nat
 | []=>0
 | x::l=>match x.q with | some (_,e)=>if e.reads then x.b||| Ck l else Ck l | none=>Ck l
def fReg(P:Program)(live:List Nat)(l:List Oper)(draw:Bool):LC:=
 let ops:=fOps P 0 l
 if draw then .reg UO (fD ops live (NX (Ck ops) ops []) (l.length+1) 0) else .reg UP (fU ops live (l.length+1) ops)
def fC(P:Program)(A B:List Nat):Code->LC
 | .region _ ops draw=>fReg P A ops.toList draw
 | .seq x y=>.seq (fC P A B x) (fC P A B y)
 | .cond c x y=>.cond (opnd c) (yL B c) (fC P A B x) (fC P A B y)
 | .block i x=>.block i (fC P A B x)
 | .loop x=>.loop (fC P A B x)
 | .exit i=>.exit i
 | .ret=>.ret
 | .scope x=>fC P A B x
 | _=>.skip
def nsc:Code->Code
 | .scope x=>nsc x
 | .seq x y=>.seq (nsc x) (nsc y)
 | .cond c x y=>.cond c (nsc x) (nsc y)
 | .block i x=>.block i (nsc x)
 | .loop x=>.loop (nsc x)
 | c=>c
def cAt:Code->List Nat->Code
 | .scope x,l=>cAt x l
 | .seq x y,k::l=>if k=0 then cAt x l else cAt y l
 | .cond _ x y,k::l=>if k=0 then cAt x l else cAt y l
 | .block _ x,_::l=>cAt x l
 | .loop x,_::l=>cAt x l
 | c,_=>nsc c
def codeF(fn:Func):Code:=match fn.body with | some c=>c | none=>.skip
def fF(P:Program)(f:Func):LFn:=⟨(f.results.toList.mapM (resE P)).getD [],fC P (iT f) (EN f) (codeF f)⟩
structure Lf(P:Program)(A B:List Nat)(c:Code)(x:LC):Prop where
 h:fC P A B c=x
theorem lfS(h1:Lf P A B c x)(h2:Lf P A B d y):Lf P A B (.seq c d) (.seq x y):=⟨by simp only[fC];rw[h1.h,h2.h]⟩
theorem lfK{o:Operand}{e:E}{k:List Nat}(h1:Lf P A B c x)(h2:Lf P A B d y)(h0:opnd o=e:=by cbv)(h3:yL B o=k:=by cbv):Lf P A B (.cond o c d) (.cond e k x y):=⟨by subst h0;subst h3;simp only[fC];rw[h1.h,h2.h]⟩
theorem lfc(h:fC P A B c=x:=by cbv):Lf P A B c x:=⟨h⟩
theorem lfB{i:Nat}(h1:Lf P A B c x):Lf P A B (.block i c) (.block i x):=⟨by simp only[fC];rw[h1.h]⟩
theorem lfO(x:LC)(h1:fC P A B c=x:=by kernel_rfl):Lf P A B (.loop c) (.loop x):=⟨by simp only[fC];rw[h1]⟩
theorem mkA{α:Type}{l:List α}:Array.mk l=l.toArray:=rfl
abbrev lkF(P:Program)(f:Func){b c:LFn}(_:fF P f=c:=by cbv)(_:c=b:=by((try simp only[mkA]);rfl)):LFn:=b
abbrev lkL(P:Program)(f:Func)(A B:List Nat)(p:List Nat){b c:LC}(_:Lf P A B (cAt (codeF f) p) c)(_:c=b:=by((try simp only[mkA]);rfl)):LC:=b
abbrev lkG(P:Program)(f:Func)(A B:List Nat){a:List E}{b c:LC}(_:Lf P A B (nsc (codeF f)) c)(_:(f.results.toList.mapM (resE P)).getD []=a:=by cbv)(_:c=b:=by((try simp only[mkA]);rfl)):LFn:=⟨a,b⟩
abbrev lkA(f:Func){b:List Nat}(_:iT f=b:=by cbv):List Nat:=b
abbrev lkB(f:Func){b:List Nat}(_:EN f=b:=by cbv):List Nat:=b
def Aw(t : TypeInfo) : TypeInfo := { t with str := "", zero := UL, methods := #[] }
abbrev lkQ(a:List TypeInfo){b:List TypeInfo}(_:a=b:=by cbv):List TypeInfo:=b
abbrev lkT(a:Array TypeInfo){b:Array TypeInfo}(_:a=b:=by cbv):Array TypeInfo:=b
end
end Go.Lft
namespace Go.Lft
section
set_option maxRecDepth 100000
def QT0:List TypeInfo:=lkQ ((Tryz.progTables.types.toList.take 60).map Aw)
def QT1:List TypeInfo:=lkQ (((Tryz.progTables.types.toList.drop 60).take 60).map Aw)
def QT2:List TypeInfo:=lkQ (((Tryz.progTables.types.toList.drop 120).take 60).map Aw)
def QT3:List TypeInfo:=lkQ (((Tryz.progTables.types.toList.drop 180).take 60).map Aw)
def QT4:List TypeInfo:=lkQ (((Tryz.progTables.types.toList.drop 240).take 60).map Aw)
def QT5:List TypeInfo:=lkQ ((Tryz.progTables.types.toList.drop 300).map Aw)
def QTT:Array TypeInfo:=lkT (QT0++QT1++QT2++QT3++QT4++QT5).toArray
def QP:Program:={ (default:Program)with types:=QTT }
end
section
variable{po:OP}{pp:PP}
def sat{α:Type}(o:Option α)(K:α->Prop):Prop:=∃v,o=UK v/\K v
variable{α:Type}
@[simp] theorem lh{v:α}{K:α->Prop}:sat (UK v) K=K v:=by simp[sat]
@[simp] theorem PI{K:α->Prop}:sat UL K=False:=by simp[sat]
@[congr] theorem Pq{o o':Option α}{K:α->Prop}(h:o=o'):sat o K=sat o' K:=by rw[h]
def oc(o:Option Value)(A B:Prop):Prop:=∃b,o=UK (.bool b)/\(b=UO->A)/\(b=UP->B)
@[simp] theorem Fj{A B:Prop}:oc (UK (.bool UO)) A B=A:=by simp[oc]
@[simp] theorem EK{A B:Prop}:oc (UK (.bool UP)) A B=B:=by simp[oc]
@[simp] theorem mU{A B p:Prop}[Decidable p]:oc (UK (.bool (decide p))) A B=((p->A)/\(¬p->B)):=by simp[oc]
variable{b:Bool}
@[simp] theorem Px{A B:Prop}:oc (UK (.bool (!b))) A B=oc (UK (.bool b)) B A:=by cases b<;>simp[oc]
@[congr] theorem NF{o o':Option Value}{A B:Prop}(h:o=o'):oc o A B=oc o' A B:=by rw[h]
theorem lM{A B:Prop}:oc (UK (.bool b)) A B=((b=UO->A)/\(b=UP->B)):=by simp[oc]
section
variable{P:Program}{Q:Post}{ρ:Env}{h:Heap}
@[congr] theorem Pd{x:LC}{ρ':Env}{h':Heap}(hρ:ρ=ρ')(hh:h=h'):LC.wp P x Q ρ h=LC.wp P x Q ρ' h':=by rw[hρ,hh]
@[congr] theorem NH{m:Option View}{r:Reg}{Q:Env->Heap->Prop}{ρ':Env}{h':Heap}(hρ:ρ=ρ')(hh:h=h'):eV P m r Q ρ h=eV P m r Q ρ' h':=by rw[hρ,hh]
@[simp] theorem uC:LC.wp P .skip Q ρ h=Q .normal ρ h:=rfl
@[simp] theorem Qs:LC.wp P .ret Q ρ h=Q .ret ρ h:=rfl
@[simp] theorem uZ{i:Nat}:LC.wp P (.exit i) Q ρ h=Q (.exit i) ρ h:=rfl
@[simp] theorem uV{x y:LC}:LC.wp P (.seq x y) Q ρ h=x.wp P (fJ (y.wp P Q) Q) ρ h:=rfl
@[simp] theorem aW{i:Nat}{x:LC}:LC.wp P (.block i x) Q ρ h=x.wp P (dT i Q) ρ h:=rfl
@[simp] theorem mX{r:Reg}:LC.wp P (.reg UP r) Q ρ h=eV P UL r (Q .normal) ρ h:=rfl
variable{kill:List Nat}
@[simp] theorem nB{c:E}{x y:LC}:LC.wp P (.cond c kill x y) Q ρ h=oc (ev (look ρ) (vw h) c) (x.wp P Q (cJ ρ kill) h) (y.wp P Q (cJ ρ kill) h):=rfl
theorem ik{x:LC}(ks:List Nat)(I:Nat->Env->Heap->Prop)(n:Nat)(h0:I n (aX ks ρ) h)(hr : ∀n ρ h,I n ρ h->∀K:Env->Heap->Prop,(∀m ρ' h',m<n->I m (aX ks ρ') h'->K ρ' h')->x.wp P (fJ K Q) ρ h):LC.wp P (.loop x) Q ρ h:=
 ⟨ks,I,⟨n,h0⟩,λn ρ h hI=>hr n ρ h hI (λρ' h'=>∃m,m<n/\I m (aX ks ρ') h') λm _ _ hlt hI'=>⟨m,hlt,hI'⟩⟩
@[simp] theorem Pn:aX [] ρ=[]:=rfl
variable{sets:List (Nat × E)}
@[simp] theorem kJ{m:Option View}{Q:Env->Heap->Prop}{chk:List E}:
  eV P m (.fin kill sets chk) Q ρ h=sat (evP (look ρ) (part m h) sets) λvs=>okE (look ρ) (part m h) chk/\Q (dE (cJ ρ kill) vs) h:=rfl
@[simp] theorem iF:part UL h=vw h:=rfl
variable{H:View}
@[simp] theorem nf:part (UK H) h=H:=rfl
@[simp] theorem NT{S:View->View->Prop}:pR S UL h=True:=by simp[pR]
@[simp] theorem Nr{S:View->View->Prop}:pR S (UK H) h=S H (vw h):=by simp[pR]
@[simp] theorem N8:keeps UL h=True:=by simp[keeps]
@[simp] theorem OQ:keeps (UK H) h=H.le (vw h):=by simp[keeps]
attribute [simp] setE dE putE ln
@[simp] theorem PC{v:Value}:pack [v]=v:=rfl
@[simp] theorem PW{v u:Value}:pack [v,u] = .tuple #[v,u]:=rfl
@[simp] theorem On{v u x:Value}:pack [v,u,x] = .tuple #[v,u,x]:=rfl
@[simp] theorem Pf:pack [] = .tuple #[]:=rfl
@[simp] theorem PY{t:Nat}:look [] t=none:=rfl
@[simp] theorem wP{k t:Nat}{v:Value}:look ((k,v)::ρ) t=if k=t then UK v else look ρ t:=rfl
@[simp] theorem gr{K:Env->Heap->Prop}:fJ K Q .normal ρ h=K ρ h:=rfl
@[simp] theorem Pv{K:Env->Heap->Prop}:fJ K Q .ret ρ h=Q .ret ρ h:=rfl
@[simp] theorem qv{K:Env->Heap->Prop}{i:Nat}:fJ K Q (.exit i) ρ h=Q (.exit i) ρ h:=rfl
@[simp] theorem LJ{i:Nat}:dT i Q .normal ρ h=Q .normal ρ h:=rfl
@[simp] theorem Pp{i:Nat}:dT i Q .ret ρ h=Q .ret ρ h:=rfl
@[simp] theorem pN{i k:Nat}:dT i Q (.exit k) ρ h=if k=i then Q .normal ρ h else Q (.exit k) ρ h:=rfl
@[simp] theorem N7{es:List E}{R:Value->Heap->Prop}:dY es R .ret ρ h=sat (evs (look ρ) (vw h) es) λvs=>R (pack vs) h:=rfl
@[simp] theorem Lm{es:List E}{R:Value->Heap->Prop}:dY es R .normal ρ h=sat (evs (look ρ) (vw h) es) λvs=>R (pack vs) h:=rfl
@[simp] theorem n7{σ:Nat->Option Value}:evP σ H []=UK []:=rfl
@[simp] theorem ml{σ:Nat->Option Value}{t:Nat}{e:E}{l:List (Nat × E)}:evP σ H ((t,e)::l)=(ev σ H e).bind λv=>(evP σ H l).bind λvs=>UK ((t,v)::vs):=by simp only[evP];cases ev σ H e<;>cases evP σ H l<;>rfl
@[simp] theorem Qn{σ:Nat->Option Value}:evs σ H []=UK []:=rfl
@[simp] theorem PH{σ:Nat->Option Value}{e:E}{l:List E}:evs σ H (e::l)=(ev σ H e).bind λv=>(evs σ H l).bind λvs=>UK (v::vs):=by simp only[evs];cases ev σ H e<;>cases evs σ H l<;>rfl
@[simp] theorem oe{σ:Nat->Option Value}:okE σ H []=True:=rfl
@[simp] theorem PX{σ:Nat->Option Value}{e:E}{l:List E}:okE σ H (e::l)=(sat (ev σ H e) λ_=>okE σ H l):=by simp only[okE,sat];exact propext ⟨λ⟨⟨v,hv⟩,h⟩=>⟨v,hv,h⟩,λ⟨v,hv,h⟩=>⟨⟨v,hv⟩,h⟩⟩
@[simp] theorem II{ts:List Nat}:cJ [] ts=[]:=rfl
@[simp] theorem nK{k:Nat}{v:Value}{ts:List Nat}:cJ ((k,v)::ρ) ts=if ts.contains k then cJ ρ ts else(k,v)::cJ ρ ts:=by simp only[cJ,TY];split<;>split<;>simp_all
theorem gC{x:LC}(M:Env->Heap->Prop){N:Env->Heap->Prop}(h1 : ∀K:Env->Heap->Prop,(∀ρ h,M ρ h->K ρ h)->x.wp P (fJ K Q) ρ h)(h2 : ∀ρ h,M ρ h->N ρ h):LC.wp P x (fJ N Q) ρ h:=
 KE (λe ρ h hq=>by cases e<;>first | exact h2 _ _ hq | exact hq) (h1 M λ_ _ h=>h)
theorem Ab{chk:List E}{vs:List (Nat × Value)}(h1:evP (look ρ) (vw h) sets=UK vs)(h2:okE (look ρ) (vw h) chk)(h3:Q .normal (dE (cJ ρ kill) vs) h):
  LC.wp P (.reg UO (.fin kill sets chk)) Q ρ h:=⟨vw h,View.yC (View.le_refl _),vs,h1,h2,h3⟩
@[simp] theorem J5{chk:List E}:LC.wp P (.reg UO (.fin kill sets chk)) Q ρ h=sat (evP (look ρ) (vw h) sets) λvs=>okE (look ρ) (vw h) chk/\Q .normal (dE (cJ ρ kill) vs) h:=by
 refine propext ⟨?_,λ⟨vs,h1,h2,h3⟩=>Ab h1 h2 h3⟩;rintro⟨H,hH,vs,h1,h2,h3⟩;have e1 : ∀{l:List (Nat × E)} {vs},evP (look ρ) H l=UK vs->evP (look ρ) (vw h) l=UK vs:=by
  intro l;induction l with
  | nil=>intro vs h;exact h
  | cons p l ih=>
   intro vs h;obtain⟨t,e⟩:=p;simp only[evP]at h ⊢;split at h
   ·rename_i v vs' hv hvs;simp only[gI hH hv,ih hvs];exact h
   cases h
 have e2 : ∀{l:List E},okE (look ρ) H l->okE (look ρ) (vw h) l:=by
  intro l;induction l with
  | nil=>intro h;exact h
  | cons e l ih=>intro ⟨⟨v,hv⟩,h⟩;exact⟨⟨v,gI hH hv⟩,ih h⟩
 exact⟨vs,e1 h1,e2 h2,h3⟩
variable{args:List Value}
theorem aq{P:Program}{f:FuncId}{fn:Func}{L:LFn}{h:Heap}{R:Value->Heap->Prop}(hm:P.follows .mixedOrders=UO)(hf:P.funcs[f]? = UK fn)(hL:aN P fn=UK L)(hn:args.length<=fn.ntmps)(hw : ∀K:Value->Heap->Prop,(∀v h',R v h'->K v h')->@LC.wp noPP P L.body (dY L.res K) (ln 0 args) h)(hpl:L.body.plain=true:=by kernel_rfl):ay P f args.toArray h R:=
 Ac hm hf hL hn hpl (hw R λ_ _ h=>h)
theorem iW{P:Program}{f:FuncId}{fn:Func}{L:LFn}{h:Heap}{R:Value->Heap->Prop}{Rp:List PanicEntry->Heap->Prop}(hm:P.follows .mixedOrders=UO)(hf:P.funcs[f]? = UK fn)(hL:aN P fn=UK L)(hn:args.length<=fn.ntmps)(hw : ∀(K:Value->Heap->Prop) (Kp:List PanicEntry->Heap->Prop),(∀v h',R v h'->K v h')->(∀ch h',Rp ch h'->Kp ch h')->@LC.wp (ppOf Kp) P L.body (dY L.res K) (ln 0 args) h)(hpl:L.body.plain=true:=by kernel_rfl):jo P f args.toArray h R Rp:=
 yP hm hf hL hn hpl (hw R Rp (λ_ _ h=>h) λ_ _ h=>h)
theorem rU{P:Program}{f:FuncId}{fn:Func}{L:LFn}{h:Heap}{R:Value->Heap->Prop}(hm:P.follows .mixedOrders=UO)(hf:P.funcs[f]? = UK fn)(hL:aN P fn=UK L)(hn:args.length<=fn.ntmps)(hw : ∀K:Value->Heap->Prop,(∀v h',R v h'->K v h')->@LC.wp noPP P L.body (BR h.size L.res K) (ln 0 args) h):ay P f args.toArray h R:=
 zW hm hf hL hn (hw R λ_ _ h=>h)
section
variable{σ:Nat->Option Value}{H:View}{x y c:E}{v:Value}{a b:Int}{k:IntKind}
@[simp] theorem qX{t:Nat}:ev σ H (.tmp t)=σ t:=rfl
@[simp] theorem CL:ev σ H (.con v)=UK v:=rfl
@[simp] theorem PV{o:Un}:ev σ H (.un o x)=(ev σ H x).bind (o.ev H):=by simp only[ev];cases ev σ H x<;>rfl
@[simp] theorem ni{o:Bn}:ev σ H (.bin o x y)=(ev σ H x).bind λv=>(ev σ H y).bind (o.ev v):=by simp only[ev];cases ev σ H x<;>cases ev σ H y<;>rfl
@[simp] theorem P2(c:Prop)[Decidable c](x y:Bool):(if c then UK (Value.bool x) else UK (Value.bool y))=UK (.bool (if c then x else y)):=by split<;>rfl
@[simp] theorem Pj:ev σ H (.ite c x y)=(ev σ H c).bind λu=>(vB u).bind λb=>if b then ev σ H x else ev σ H y:=by
 simp only[ev];cases ev σ H c with
 | none=>rfl
 | some u=>
  cases u<;>try rfl
  rename_i b;cases b<;>rfl
def gdv(b:Bool):Value->Value->Value
 | .bool d,v=>if d=b then v else undef
 | _,_=>undef
def gdO(b:Bool):Value->Option Value->Option Value
 | .bool d,o=>if d=b then o else UK undef
 | _,_=>UK undef
@[simp] theorem P4{b:Bool}:ev σ H (.gd c b x)=(ev σ H c).bind λu=>gdO b u (ev σ H x):=by
 simp only[ev];cases hc:ev σ H c with
 | none=>rfl
 | some u=>
  cases u<;>try rfl
  rename_i d;cases d<;>cases b<;>rfl
@[simp] theorem Qg{b:Bool}{u v:Value}:gdO b u (UK v)=UK (gdv b u v):=by cases u<;>simp only[gdO,gdv];split<;>rfl
@[simp] theorem Qy{b:Bool}{o:Option Value}:gdO b (.bool b) o=o:=by simp[gdO]
@[simp] theorem QJ{o:Option Value}:gdO UO (.bool UP) o=UK undef:=rfl
@[simp] theorem Qx{o:Option Value}:gdO UP (.bool UO) o=UK undef:=rfl
@[simp] theorem QU{b:Bool}{v:Value}:gdv b (.bool b) v=v:=by simp[gdv]
@[simp] theorem QO{v:Value}:gdv UO (.bool UP) v=undef:=rfl
@[simp] theorem QA{v:Value}:gdv UP (.bool UO) v=undef:=rfl
@[simp] theorem QQ{p:Option Addr}{n m:Nat}:Un.ev H .len (.slice p n m)=UK (UH UI n):=rfl
@[simp] theorem QL{b:Bool}:Un.ev H .not (.bool b)=UK (.bool (!b)):=rfl
@[simp] theorem Qk{b:Bool}:vB (.bool b)=UK b:=rfl
@[simp] theorem QB:vI (.int k a)=UK (k,a):=rfl
@[simp] theorem QG{f:IntKind->Int->Int->Option Value}:i2 (.int k a) (.int k b) f=f k a b:=by simp[i2]
@[simp] theorem Jy:Bn.ev (.cmp .lss) (.int k a) (.int k b)=UK (.bool (decide (a<b))):=by simp[Bn.ev,cmpI]
@[simp] theorem Qz:Bn.ev (.cmp .leq) (.int k a) (.int k b)=UK (.bool (decide (a<=b))):=by simp[Bn.ev,cmpI]
@[simp] theorem QN:Bn.ev (.cmp .gtr) (.int k a) (.int k b)=UK (.bool (decide (b<a))):=by simp[Bn.ev,cmpI]
@[simp] theorem Qv:Bn.ev (.cmp .geq) (.int k a) (.int k b)=UK (.bool (decide (b<=a))):=by simp[Bn.ev,cmpI]
@[simp] theorem QD:Bn.ev (.cmp .eql) (.int k a) (.int k b)=UK (.bool (decide (a=b))):=by simp[Bn.ev,cmpI];rfl
@[simp] theorem QT:Bn.ev (.cmp .neq) (.int k a) (.int k b)=UK (.bool (!decide (a=b))):=by simp[Bn.ev,cmpI];rfl
@[simp] theorem BK:Bn.ev (.arith .add) (.int k a) (.int k b)=UK (.int k (k.wrap (a+b))):=by simp[Bn.ev,zl]
@[simp] theorem QR:Bn.ev (.arith .sub) (.int k a) (.int k b)=UK (.int k (k.wrap (a-b))):=by simp[Bn.ev,zl]
@[simp] theorem Qw(h:b≠0):Bn.ev (.div .rem) (.int k a) (.int k b)=UK (.int k (a.tmod b)):=by simp[Bn.ev,divI,h]
@[simp] theorem QE(h:b≠0):Bn.ev (.div .quo) (.int k a) (.int k b)=UK (.int k (k.wrap (a.tdiv b))):=by simp[Bn.ev,divI,h]
@[simp] theorem O5:Bn.ev .min (.int k a) (.int k b)=UK (.int k (if b<a then b else a)):=by simp[Bn.ev]
@[simp] theorem QS:Bn.ev .max (.int k a) (.int k b)=UK (.int k (if a<b then b else a)):=by simp[Bn.ev]
@[simp] theorem QM{n:Bool}{p q:Bool}:Bn.ev (.eqB n) (.bool p) (.bool q)=UK (.bool ((p == q) != n)):=rfl
@[simp] theorem QK:Bn.ev (.arith .mul) (.int k a) (.int k b)=UK (.int k (k.wrap (a*b))):=by simp[Bn.ev,zl]
end
end
end
def View.bT(H:View):View:=λb=>match H b with
 | some (.cells c T fz)=>UK (.cells c T fz)
 | _=>UL
variable{H:View}
theorem View.xS{b:Nat}{c:Array Value}{T:TypeId}{fz:Nat × Nat}(h:H b=UK (.cells c T fz)):H.bT b=UK (.cells c T fz):=by unfold View.bT;rw[h]
theorem View.mB:H.bT.le H:=λb o h=>by
 unfold View.bT at h;split at h
 ·rename_i e;rw[e];exact h
 cases h
class Rep(α:Type) where
 n:Nat
 agg:Bool
 rd:View->List Value->α->Prop
 mono : ∀{H K:View} {cs:List Value} {d:α},H.le K->rd H cs d->rd K cs d
 len : ∀{H:View} {cs:List Value} {d:α},rd H cs d->cs.length=n
 one:agg=UP->n=1
 flat : ∀{H:View} {cs:List Value} {d:α},rd H cs d->∀u∈cs,u.oneCell'=UO
 pos:0<n
 bT : ∀{H:View} {cs:List Value} {d:α},rd H cs d->rd H.bT cs d
def Rd{α:Type}[Rep α](H:View)(v:Value)(d:α):Prop:=
 if Rep.agg α then ∃cs:Array Value,v = .agg cs/\Rep.rd H cs.toList d else Rep.rd H [v] d
def gE(H:View)(a:Addr)(cs:List Value):Prop:=
 ∃(c:Array Value) (T:TypeId) (fz:Nat × Nat),a.spot=UL/\H a.block=UK (.cells c T fz)/\(c.toList.drop a.off).take cs.length=cs
def At{α:Type}[Rep α](H:View)(a:Addr)(d:α):Prop:=∃cs,gE H a cs/\Rep.rd H cs d
variable{K:View}
theorem BH(hk:H.le K){a:Addr}{cs:List Value}(h:gE H a cs):gE K a cs:=
 let ⟨c,T,fz,h1,h2,h3⟩:=h
 ⟨c,T,fz,h1,hk _ _ h2,h3⟩
theorem At.mono{α:Type}[Rep α]{H K:View}(hk:H.le K){a:Addr}{d:α}(h:At H a d):At K a d:=
 let ⟨cs,h1,h2⟩:=h
 ⟨cs,BH hk h1,Rep.mono hk h2⟩
theorem At.bT{α:Type}[Rep α]{H:View}{a:Addr}{d:α}(h:At H a d):At H.bT a d:=by obtain⟨cs,⟨c,T,fz,h1,h2,h3⟩,h4⟩:=h;exact⟨cs,⟨c,T,fz,h1,View.xS h2,h3⟩,Rep.bT h4⟩
theorem Rd.bT{α:Type}[Rep α]{H:View}{v:Value}{d:α}(h:Rd H v d):Rd H.bT v d:=by
 unfold Rd at *;split
 ·rename_i ha;rw[if_pos ha]at h;obtain⟨cs,h1,h2⟩:=h;exact⟨cs,h1,Rep.bT h2⟩
 rename_i ha;rw[if_neg ha]at h;exact Rep.bT h
theorem Rd.mono{α:Type}[Rep α]{H K:View}(hk:H.le K){v:Value}{d:α}(h:Rd H v d):Rd K v d:=by
 unfold Rd at *;split
 ·rename_i ha;rw[if_pos ha]at h;obtain⟨cs,h1,h2⟩:=h;exact⟨cs,h1,Rep.mono hk h2⟩
 rename_i ha;rw[if_neg ha]at h;exact Rep.mono hk h
theorem bC{a:Addr}(h:a.spot=UL)(n:Nat):a.add n=⟨a.block,a.off+n,UL⟩:=by obtain⟨b,o,s⟩:=a;simp only at h;subst h;unfold Addr.add;split<;>simp_all
theorem jf{a:Addr}{cs:List Value}(h:gE H a cs){i:Nat}{v:Value}(hv:cs[i]? = UK v):an H (a.add i)=UK v:=by
 obtain⟨c,T,fz,hs,hb,he⟩:=h;rw[bC hs];simp only[an,hb];have hi:i<cs.length:=by
  rcases Ri i cs.length with h | h
  ·exact h
  simp[RP h]at hv
 rw[<-he]at hv;simp only[St,hi,if_true,Ti]at hv;simpa using hv
theorem uN{a:Addr}{v:Value}(h:gE H a [v]):an H a=UK v:=by have:=jf h (i:=0) (v:=v) rfl;simpa[Addr.add]using this
theorem fP{H:View}{a:Addr}{cs:List Value}(h:gE H a cs) : ∀(m i:Nat) (acc:Array Value),i+m=cs.length->ee H a i m acc=UK (acc++(cs.drop i).toArray)
 | 0,i,acc,hi=>by
  have:cs.drop i=[]:=by simp;omega
  simp[ee,this]
 | m+1,i,acc,hi=>by
  have hlt:i<cs.length:=by omega
  have e:cs[i]? = UK cs[i]:=RK hlt;simp only[ee,jf h e];rw[fP h m (i+1) _ U1];rw[RJ hlt];simp
theorem EJ{a:Addr}{cs:List Value}(h:gE H a cs)(o m:Nat)(hm:o+m<=cs.length):gE H (a.add o) ((cs.drop o).take m):=by
 obtain⟨c,T,fz,hs,hb,he⟩:=h;rw[bC hs];refine⟨c,T,fz,rfl,hb,?_⟩;have hl:((cs.drop o).take m).length=m:=by simp;omega
 rw[hl];have e1:(cs.drop o).take m=(((c.toList.drop a.off).take cs.length).drop o).take m:=by rw[he]
 rw[e1,Sx,Sy,SU];congr 1;omega
variable{α:Type}
theorem At.load[Rep α]{a:Addr}{d:α}(h:At H a d)(ha:Rep.agg α=UP): ∃v,an H a=UK v/\Rd H v d:=by
 obtain⟨cs,h1,h2⟩:=h;have hl:=Rep.len h2;rw[Rep.one ha]at hl;match cs,hl with
 | [v],_=>exact⟨v,uN h1,by unfold Rd;rw[if_neg (by simp[ha])];exact h2⟩
theorem At.bM{α:Type}[Rep α]{H:View}{a:Addr}{d:α}(h:At H a d)(ha:Rep.agg α=UO) : ∃v,Un.ev H (.bM (Rep.n α)) (UN (UK a))=UK v/\Rd H v d:=by
 obtain⟨cs,h1,h2⟩:=h;have hl:=Rep.len h2;refine⟨.agg cs.toArray,?_,?_⟩
 ·have:=fP h1 cs.length 0 #[] U1;rw[hl]at this;simp[Un.ev,vP,this]
 unfold Rd;rw[if_pos ha];exact⟨_,rfl,by simpa using h2⟩
instance:Rep Int where
 n:=1
 agg:=false
 rd:=λ_ cs d=>cs=[UH UI d]/\-9223372036854775808<=d/\d<=9223372036854775807
 mono:=λ_ h=>h
 len:=λh=>by rw[h.1];rfl
 one:=λ_=>rfl
 flat:=λh u hu=>by rw[h.1]at hu;simp at hu;subst hu;rfl
 pos:=TG
 bT:=λh=>h
structure I32 where
 v:Int
 deriving DecidableEq,Inhabited
instance:Rep I32 where
 n:=1
 agg:=false
 rd:=λ_ cs d=>cs=[UH UJ d.v]/\-2147483648<=d.v/\d.v<=2147483647
 mono:=λ_ h=>h
 len:=λh=>by rw[h.1];rfl
 one:=λ_=>rfl
 flat:=λh u hu=>by rw[h.1]at hu;simp at hu;subst hu;rfl
 pos:=TG
 bT:=λh=>h
instance:Rep Bool where
 n:=1
 agg:=false
 rd:=λ_ cs d=>cs=[.bool d]
 mono:=λ_ h=>h
 len:=λh=>by rw[h];rfl
 one:=λ_=>rfl
 flat:=λh u hu=>by rw[h]at hu;simp at hu;subst hu;rfl
 pos:=TG
 bT:=λh=>h
theorem bw{v:Value}{d:Int}:Rd H v d↔v = UH UI d/\-9223372036854775808<=d/\d<=9223372036854775807:=by simp[Rd,Rep.agg,Rep.rd]
theorem FU{v:Value}{d:I32}:Rd H v d↔v = UH UJ d.v/\-2147483648<=d.v/\d.v<=2147483647:=by simp[Rd,Rep.agg,Rep.rd]
theorem qn{v:Value}{d:Bool}:Rd H v d↔v = .bool d:=by simp[Rd,Rep.agg,Rep.rd]
def SlRd{α:Type}[Rep α](H:View)(v:Value)(l:List α):Prop:=
 ∃a cap,v = .slice a l.length cap/\l.length<=cap/\l.length<=140737488355328/\
  (l=[]\/∃ad,a=UK ad/\ad.spot=UL/\∀(i:Nat) (hi:i<l.length),At H (ad.add (i*Rep.n α)) l[i])
instance {α:Type}[Rep α]:Rep (List α) where
 n:=1
 agg:=false
 rd:=λH cs l=>∃v,cs=[v]/\SlRd H v l
 mono:=λhk h=>by
  obtain⟨v,h1,a,cap,h2,h3,h4,h5⟩:=h
  refine⟨v,h1,a,cap,h2,h3,h4,?_⟩
  rcases h5 with h5 | ⟨ad,h6,h7,h8⟩
  ·exact .inl h5
  ·exact .inr ⟨ad,h6,h7,λi hi=>(h8 i hi).mono hk⟩
 len:=λ⟨v,h,_⟩=>by rw[h];rfl
 one:=λ_=>rfl
 flat:=λ⟨v,h,a,cap,h2,_⟩ u hu=>by rw[h]at hu;simp at hu;subst hu;rw[h2];rfl
 pos:=TG
 bT:=λh=>by
  obtain⟨v,h1,a,cap,h2,h3,h4,h5⟩:=h
  refine⟨v,h1,a,cap,h2,h3,h4,?_⟩
  rcases h5 with h5 | ⟨ad,h6,h7,h8⟩
  ·exact .inl h5
  ·exact .inr ⟨ad,h6,h7,λi hi=>(h8 i hi).bT⟩
theorem dD[Rep α]{v:Value}{l:List α}:Rd H v l↔SlRd H v l:=by simp[Rd,Rep.agg,Rep.rd]
def slA:Value->Addr
 | UM (UK a) _ _=>a
 | _=>default
section
variable{α:Type}[Rep α]{H:View}{v:Value}{l:List α}
theorem SlRd.len(h:SlRd H v l){K:View}:Un.ev K .len v=UK (UH UI l.length):=by obtain⟨a,cap,rfl,_⟩:=h;rfl
theorem SlRd.bound(h:SlRd H v l):l.length<=140737488355328:=by obtain⟨a,cap,_,_,h,_⟩:=h;exact h
theorem SlRd.idx(h:SlRd H v l){k:IntKind}{i:Int}(h0:0<=i)(h1:i<l.length):Bn.ev (.idx (Rep.n α)) v (.int k i)=UK (UN (UK ((slA v).add (i.toNat*Rep.n α)))):=by
 obtain⟨a,cap,rfl,_,_,h⟩:=h;rcases h with rfl | ⟨ad,rfl,_,_⟩
 ·simp at h1;omega
 simp[Bn.ev,vL,vI,slA,h0,h1]
theorem SlRd.idx1(h:SlRd H v l)(hn:Rep.n α=1){k:IntKind}{i:Int}(h0:0<=i)(h1:i<l.length):Bn.ev (.idx 1) v (.int k i)=UK (UN (UK ((slA v).add i.toNat))):=by have:=h.idx (k:=k) h0 h1;rw[hn,RY]at this;exact this
theorem SlRd.at(h:SlRd H v l){i:Nat}(hi:i<l.length):At H ((slA v).add (i*Rep.n α)) l[i]:=by
 obtain⟨a,cap,rfl,_,_,h⟩:=h;rcases h with rfl | ⟨ad,rfl,_,h⟩
 ·simp at hi
 exact h i hi
theorem SlRd.mono(h:SlRd H v l){K:View}(hk:H.le K):SlRd K v l:=dD.1 (Rd.mono hk (dD.2 h))
end
theorem SlRd.take{α:Type}[Rep α]{H:View}{v:Value}{l:List α}(h:SlRd H v l){n:Nat}(hn:n<=l.length){kd:IntKind} : ∃u,Bn.ev .hi v (.int kd n)=UK u/\SlRd H u (l.take n):=by
 obtain⟨a,cap,rfl,h1,h2,h3⟩:=h;refine⟨.slice a n cap,by simp[Bn.ev,vL,vI];omega,a,cap,?_,?_,?_,?_⟩
 ·rw[RO,Sv hn]
 ·rw[RO];omega
 ·rw[RO];omega
 rcases h3 with rfl | ⟨ad,rfl,hs,hat⟩
 ·left;simp
 refine .inr ⟨ad,rfl,hs,λi hi=>?_⟩;rw[RO]at hi;rw[List.getElem_take];exact hat i U1
def nth{α:Type}[Inhabited α](l:List α)(i:Nat):α:=l.getD i default
theorem aC[Inhabited α]{l:List α}{i:Nat}(h:i<l.length):nth l i=l[i]:=by simp[nth,h]
theorem dt[Inhabited α]{l:List α}{i:Nat}(h:l.length<=i):nth l i=default:=by simp[nth,h]
theorem bF[Inhabited α]{l:List α}{i:Nat}(h:i<l.length):nth l i∈l:=by rw[aC h];exact Sp h
theorem AL[Inhabited α]{a b:List α}(hl:a.length=b.length)(h : ∀j,j<a.length->nth a j=nth b j):a=b:=by refine S5 hl λi h1 h2=>?_;have:=h i h1;rwa [aC h1,aC h2]at this
theorem SlRd.int{H K:View}{v:Value}{l:List Int}(h:SlRd H v l)(hk:H.le K){i:Nat}(hi:i<l.length):an K ((slA v).add i)=UK (UH UI (nth l i)):=by obtain⟨u,h1,h2⟩:=((h.at hi).mono hk).load rfl;rw[bw]at h2;rw[h2.1,show i*Rep.n Int=i from RY i]at h1;rw[aC hi];exact h1
theorem SlRd.bool{H K:View}{v:Value}{l:List Bool}(h:SlRd H v l)(hk:H.le K){i:Nat}(hi:i<l.length):an K ((slA v).add i)=UK (.bool (nth l i)):=by obtain⟨u,h1,h2⟩:=((h.at hi).mono hk).load rfl;rw[qn]at h2;rw[h2,show i*Rep.n Bool=i from RY i]at h1;rw[aC hi];exact h1
theorem SlRd.range{v:Value}{l:List Int}(h:SlRd H v l){i:Nat}(hi:i<l.length):-9223372036854775808<=nth l i/\nth l i<=9223372036854775807:=by obtain⟨u,h1,h2⟩:=(h.at hi).load rfl;rw[bw]at h2;rw[aC hi];exact h2.2
theorem SlRd.rows[Rep α]{v:Value}{g:List (List α)}(h:SlRd H v g): ∃rv:Nat->Value,∀i,i<g.length->(∀K:View,H.le K->an K ((slA v).add i)=UK (rv i))/\SlRd H (rv i) (nth g i):=by
 have key : ∀i,∃u,i<g.length->(∀K:View,H.le K->an K ((slA v).add i)=UK u)/\SlRd H u (nth g i):=by
  intro i;by_cases hi:i<g.length
  ·obtain⟨u,h1,h2⟩:=(h.at hi).load rfl;rw[show i*Rep.n (List α)=i from RY i]at h1;refine⟨u,λ_=>⟨λK hk=>ae hk h1,?_⟩⟩;rw[aC hi];exact dD.1 h2
  exact⟨undef,λh=>absurd h hi⟩
 exact⟨λi=>(key i).choose,λi=>(key i).choose_spec⟩
@[simp] theorem Qm{a:Addr}:Un.ev H .load (UN (UK a))=an H a:=rfl
@[simp] theorem bc{a:Int}(h0:-9223372036854775808<=a)(h1:a<=9223372036854775807):IntKind.i64.wrap a=a:=IntWalk.i64_in _ U1
end Go.Lft
namespace Go
theorem UD{p:Prop}(h:p:=by repeat (first | exact Lft.View.le_refl _ | assumption | refine Lft.View.le_trans ?_ (by assumption))):p:=h
theorem UE{H:Lft.View}:H.le H:=Lft.View.le_refl H
theorem UF{H K L:Lft.View}(a:H.le K)(b:K.le L):H.le L:=Lft.View.le_trans a b
end Go
