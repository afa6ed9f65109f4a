/- A part of the proof: LftE, LftS, LftT, LftB, LftR, LftD, LftC, LftCb, Cbq, LftW, LftV. -/
import Derived.WalkKit
import Derived.CallsIn
import Derived.OrdersIn
import Derived.OwnWalkIn
import Derived.RangeFuncIn
import Derived.RangeFuncRecord
import Derived.RangeFuncLeaves
import Derived.KernelRfl
import Derived.Test.YtmhnaeecolpfkaaGreatDoorProg
import Derived.ChangeKeysEq
import Derived.MapKept
import Derived.RecoverIn
import Derived.Test.YtmhnaeecolpfkaaGreatDoorChecked
import Derived.ProofKit
import Derived.OpenShut
import Derived.HandedShaped
import Derived.LaidMore
import Derived.Shelf.Small.Bits
import Derived.Shelf.Small.Wraps
import Derived.Shelf.Strconv.Itoa0
import Derived.Shelf.Sort.Plain
import Derived.Shelf.Unicode.Latin
import Derived.Shelf.Unicode.Is16White
import Derived.Shelf.Unicode.IsSpaceAny
import Derived.Shelf.Unicode.Is16Any
import Derived.Shelf.Unicode.Is32Any
import Derived.Shelf.Unicode.ExclAny
import Derived.Shelf.Slices.Turned
import Derived.Shelf.Slices.Reverse
import Derived.Ground.Names2Prog
import Derived.Shelf.Slices.CompactI
import Derived.Shelf.Slices.SearchI
import Derived.Shelf.Slices.Cells
import Derived.Shelf.Slices.In.SortNone
import Derived.Maps.RangeRun
import Derived.Laws.BytesArg
import Derived.Test.YtmhnaeecolpfkaaGreatDoorRows
import Derived.Lib.LaidTab
import Derived.Test.YtmhnaeecolpfkaaGreatDoorCards
import Derived.Test.YtmhnaeecolpfkaaGreatDoorTie
import Derived.SevenTiedAt
set_option linter.unusedSimpArgs false
set_option linter.unusedVariables false
open Go.Value renaming int->Vz,slice->VE,pointer->VF
open Go.IntKind renaming i64->VA,i32->VB
open Option renaming some->VC,none->VD
open Bool renaming true->VG,false->VH
namespace Go
abbrev zpa:List (Nat×Nat):=[(0,1),(1,1),(2,1),(3,1),(4,1)]
abbrev zpb:List (Nat×Nat):=[(0,1),(1,1),(2,1),(3,1),(4,1),(5,1),(6,1),(7,1)]
abbrev zpc:List (Nat×Nat):=[(0,1),(1,1),(2,1),(3,5)]
abbrev zpd:List (Nat×Nat):=[(0,1),(1,1)]
abbrev zpe:List (Nat×Nat):=[(0,1),(1,1),(2,1),(3,1)]
abbrev zpf:List (Nat×Nat):=[(0,2),(2,5),(7,4),(11,1),(12,1)]
theorem V0{p:Prop}(h:p:=by kernel_rfl):p:=h
theorem V4{p:Prop}(h:p:=by omega):p:=h
theorem V5{p:Prop}(h:p:=by simp):p:=h
theorem V6{p:Prop}(h:p:=by decide):p:=h
theorem V7{p:Prop}(h:p:=by rfl):p:=h
theorem V8{p:Prop}(h:p:=by intro _;simp):p:=h
theorem V9{p q:Prop}(a:p:=by omega)(b:q:=by omega):p/\q:=⟨a,b⟩
theorem Vr{p:Prop}(h:p:=by simp [Value.oneCell']):p:=h
theorem Vs{p:Prop}(h:p:=by simp [Value.cells,Value.oneCell']):p:=h
theorem Vt{p:Prop}(h:p:=by simp;omega):p:=h
theorem Vu{a b:Nat}(h:Nat.ble a b=true:=by kernel_rfl):a<=b:=Nat.le_of_ble_eq_true h
def Vy(n m:Nat):Array Bool:=((List.range n).map (Nat.testBit m)).toArray
abbrev ptz(b:Nat):Value:=VF (VC ⟨b,0,VD⟩)
abbrev zz0:Value:=.agg #[Vz VA 0,Vz VA 0,Vz VA 0]
abbrev zz1:Value:=.agg #[Vz VA 0,Vz VA 0]
abbrev zz2:Value:=.agg #[Vz VA 0,Vz VA 0,Vz VA 0,Vz VA 0]
abbrev zz3:Value:=.agg #[VE VD 0 0,VE VD 0 0,Vz VA 0,VE VD 0 0,VE VD 0 0,Vz VB 0]
abbrev zz4:Value:=.agg #[Vz VA 0,VE VD 0 0]
abbrev zz5:Value:=.agg #[Vz VA 0,Vz VA 0,Vz VA 0,VE VD 0 0,Vz VB 0]
abbrev zz6:Value:=.agg #[Vz VA 0,VE VD 0 0,.map VD]
abbrev zz7:Value:=.agg #[VE VD 0 0,VE VD 0 0,VE VD 0 0,Vz VA 0,Vz VA 0,Vz VA 0,VE VD 0 0,Vz VB 0]
abbrev zz8:Value:=.agg #[Vz VA 0,Vz VA 0,Vz VA 0,Vz VA 0,Vz VA 0,Vz VA 0,Vz VB 0,VE VD 0 0]
abbrev zz9:Value:=.agg #[Vz VA 0,VE VD 0 0,VE VD 0 0,Vz VB 0]
abbrev zz10:Value:=.agg #[Vz VA 0,Vz VA 0,VE VD 0 0,VE VD 0 0]
abbrev zz11:Value:=.agg #[Vz VA 0,Vz VA 0,Vz VA 0,Vz VA 0,Vz VA 0,Vz VA 0,Vz VA 0,Vz VA 0,Vz VA 0,Vz VA 0,Vz VA 0,Vz VA 0]
abbrev zz12:Value:=.agg #[VE VD 0 0,Vz VA 0,Vz VA 0,VE VD 0 0,Vz VA 0,VE VD 0 0]
abbrev zz13:Value:=.agg #[Vz VA 0,VE VD 0 0,VE VD 0 0,Vz VA 0,.map VD,.map VD,.map VD]
abbrev OB:=@Nat.le_of_ble_eq_true
abbrev RW:=@Option.some.injEq
abbrev RX:=@Nat.le_refl
abbrev RY:=@List.mem_singleton
abbrev RZ:=@List.forall_mem_cons
abbrev R1:=@List.mem_append
abbrev Sa:=@List.mem_cons_of_mem
abbrev Sb:=@Nat.lt_or_ge
abbrev Sc:=@Option.map_eq_some_iff
abbrev Se:=@Bool.and_eq_true
abbrev Sf:=@List.length_append
abbrev Sg:=@List.mem_cons_self
abbrev Si:=@List.take_succ_eq_append_getElem
abbrev Sj:=@Array.getElem?_eq_some_iff
abbrev Sk:=@List.append_assoc
abbrev Sn:=@Int.toNat_natCast
abbrev Sp:=@List.mem_cons
abbrev Sq:=@Option.bind_eq_some_iff
abbrev Sr:=@List.take_of_length_le
abbrev Ss:=@List.eq_nil_of_length_eq_zero
abbrev St:=@Nat.le_trans
abbrev Su:=@List.length_singleton
abbrev Sv:=@Array.getElem?_eq_getElem
abbrev Sw:=@Array.toList_inj
abbrev Sx:=@List.foldl_cons
abbrev Sy:=@List.getElem_of_mem
abbrev SA:=@Option.bind_some
abbrev SB:=@Int.toNat_of_nonneg
abbrev SC:=@List.length_set
abbrev SD:=@List.drop_eq_getElem_cons
abbrev SE:=@List.mem_of_getElem?
abbrev SF:=@List.take_length
abbrev SG:=@Nat.mul_le_mul_right
abbrev SH:=@List.length_take
abbrev SI:=@Bool.eq_iff_iff
abbrev SJ:=@List.getElem?_eq_getElem
abbrev SK:=@List.mem_append_left
abbrev SL:=@List.length_cons
abbrev SM:=@List.getElem?_eq_none
abbrev SN:=@List.length_replicate
abbrev SO:=@List.drop_eq_nil_of_le
abbrev SP:=@List.length_drop
abbrev SQ:=@List.mem_append_right
abbrev SR:=@List.all_eq_true
abbrev SS:=@List.count_pos_iff
abbrev SU:=@List.take_append_of_le_length
abbrev SV:=@List.nil_append
abbrev SW:=@Nat.eq_zero_or_pos
abbrev SX:=@Nat.mul_one
abbrev SY:=@List.foldl_append
abbrev SZ:=@List.mem_map
abbrev S0:=@Int.eq_ofNat_of_zero_le
abbrev S1:=@Bool.or_eq_true
abbrev S2:=@Nat.lt_of_lt_of_le
abbrev S3:=@Array.getElem?_setIfInBounds_ne
abbrev S4:=@Array.getElem?_toList
abbrev S5:=@Nat.succ_mul
abbrev S6:=@List.drop_append_of_le_length
abbrev S7:=@List.getElem?_eq_some_iff
abbrev S8:=@List.map_cons
abbrev S9:=@List.getElem_mem
abbrev Te:=@List.mem_flatMap
abbrev Tf:=@Int.le_refl
abbrev Ti:=@List.nodup_append
abbrev Tj:=@Nat.zero_add
abbrev Tm:=@Bool.not_eq_true'
abbrev Ts:=@Bool.false_eq_true
abbrev Tu:=@List.getElem?_take
abbrev Tv:=@Nat.zero_le
abbrev Tw:=@Nat.min_eq_left
abbrev Tx:=@Nat.not_lt_zero
abbrev Ty:=@List.count_cons
abbrev Tz:=@List.flatMap_append
abbrev TA:=@List.mem_range
abbrev TB:=@List.drop_take
abbrev TC:=@List.take_take
abbrev TD:=@List.range_succ
abbrev TE:=@Bool.or_eq_false_iff
abbrev TF:=@List.foldlM_cons
abbrev TG:=@List.getElem?_map
abbrev TH:=@List.flatMap_cons
abbrev TI:=@List.length_map
abbrev TJ:=@List.ext_getElem
abbrev TK:=@List.take_append
abbrev TL:=@List.filter_append
abbrev TM:=@Prod.mk.injEq
abbrev TN:=@List.getElem?_of_mem
abbrev TP:=@List.map_append
abbrev TQ:=@List.mem_filter
abbrev TR:=@List.append_nil
abbrev TS:=@List.getElem_cons_zero
abbrev TU:=@List.drop_drop
abbrev TV:=@List.nodup_nil
abbrev TW:=@List.drop_zero
abbrev TX:=@List.getD_eq_getElem?_getD
abbrev TY:=@List.take_append_drop
abbrev TZ:=@Array.getElem?_modify
abbrev T0:=@List.mem_of_find?_eq_some
abbrev T1:=@List.nodup_cons
abbrev T2:=@Array.toArray_toList
abbrev T3:=@List.size_toArray
abbrev T4:=@Bool.eq_false_iff
abbrev T5:=@List.getElem_append_left
abbrev T6:=@Array.length_toList
abbrev T7:=@List.drop_append
abbrev T8:=@List.take_zero
abbrev T9:=@Nat.mul_le_mul
abbrev Uc:=@List.prefix_refl
abbrev Ud:=@Option.none_or
abbrev Ue:=@List.mem_filterMap
abbrev Uf:=@Array.getElem?_eq_none
abbrev Ug:=@List.getElem?_drop
abbrev Uh:=@Nat.mul_succ
abbrev Ui:=@Bool.true_and
abbrev Uj:=@List.findSome?_append
abbrev Uk:=@Nat.add_mul
abbrev Ul:=@List.count_cons_self
abbrev Um:=@Nat.zero_mul
abbrev Uo:=@Nat.sub_self
abbrev Uq:=@List.not_mem_nil
abbrev Ur:=@List.getElem?_append_left
abbrev Us:=@List.getElem_append_right
abbrev Ut:=@List.mem_or_eq_of_mem_set
abbrev Uu:=@Array.toList_filter
abbrev Uv:=@List.mem_map_of_mem
abbrev Uw:=@Array.getElem?_push_size
abbrev Ux:=@List.Nodup.idxOf_getElem
abbrev Uy:=@List.length_nil
abbrev Uz:=@List.zip_cons_cons
abbrev UA:=@Array.getElem?_setIfInBounds_self
abbrev UB:=@List.set_eq_take_append_cons_drop
abbrev UC:=@List.take_left
abbrev UD:=@List.getElem_drop
abbrev UE:=@Array.toList_push
abbrev UF:=@List.ext_getElem?
abbrev UG:=@List.take_add_one
abbrev UH:=@List.filter_congr
abbrev UI:=@List.find?_append
abbrev UJ:=@List.drop_of_length_le
abbrev UK:=@Array.getElem?_append
abbrev UL:=@List.getElem?_toArray
abbrev UM:=@List.length_filter_le
abbrev UN:=@Bool.and_eq_false_iff
abbrev UO:=@List.cons_append
abbrev UP:=@List.filter_cons
abbrev UQ:=@List.zipIdx_cons
abbrev UR:=@List.any_eq_true
abbrev US:=@Nat.one_pos
abbrev UT:=@List.erase_cons_head
abbrev UU:=@List.take_set_of_le
abbrev UW:=@Nat.add_le_add_left
abbrev UX:=@List.idxOf_lt_length_of_mem
abbrev UY:=@Array.foldl_toList
abbrev UZ:=@Array.toList_setIfInBounds
abbrev U0:=@List.foldlM_append
abbrev U1:=@Array.getElem?_append_left
abbrev U2:=@List.mem_mergeSort
abbrev U3:=@List.getElem?_append_right
abbrev U4:=@List.pairwise_cons
abbrev U5:=@Array.mapM_eq_mapM_toList
abbrev U6:=@List.getElem_take
abbrev U7:=@Function.comp_def
abbrev U8:=@Nat.one_mul
abbrev U9:=@Option.isSome_map
abbrev Vd:=@Option.isSome_iff_exists
abbrev Ve:=@List.getElem_map
abbrev Vf:=@Nat.le_add_right
abbrev Vg:=@Nat.add_sub_cancel_left
abbrev Vh:=@Option.getD_some
abbrev Vi:=@List.getElem_replicate
abbrev Vj:=@List.range_succ_eq_map
abbrev Vk:=@List.find?_some
abbrev Vl:=@List.mapM_cons
abbrev Vm:=@List.foldl_nil
abbrev Vn:=@Bool.and_assoc
abbrev Vo:=@Bool.false_and
abbrev Vp:=@Bool.false_or
abbrev Vq:=@Nat.not_lt
end Go
open Go.Proofs
namespace Go.Lft
abbrev Heap:=Array Obj
abbrev View:=Nat->Option Obj
def vw(h:Heap):View:=λb=>h[b]?
def View.le(H K:View):Prop:=∀b o,H b=VC o->K b=VC o
def aq(h:View)(a:Addr):Option Value:=
 match h a.block with
 | some (.cells c _ _)=>if a.spot.isSome then VD else c[a.off]?
 | _=>VD
def dY(h:View)(a:Addr)(i:Nat):Nat->Array Value->Option (Array Value)
 | 0,acc=>VC acc
 | n+1,acc=>match aq h (a.add i)with
  | some v=>dY h a (i+1) n (acc.push v)
  | none=>VD
def mapH(h:View)(r:Nat):Option (Array MapEntry × Nat):=
 match h r with
 | some (.map es c)=>VC (es,c)
 | _=>VD
inductive Un where
 | not
 | neg (k:IntKind)
 | len
 | lenStr
 | lenMap
 | load
 | bI (n:Nat)
 | fld (off:Nat)
 | part (off:Nat)
 | parts (off n:Nat)
 | conv (k:IntKind)
 | ext (i:Nat)
 | nilPtr
 | fn (f:FuncId)
 | build (zero:Array Value) (places:List (Nat × Nat))
 deriving Inhabited
inductive Bn where
 | arith (op:BinOp)
 | cmp (op:BinOp)
 | div (op:BinOp)
 | bits (op:BinOp)
 | eqB (neg:Bool)
 | eqS (neg:Bool)
 | cat
 | idx (sz:Nat)
 | aidx (n sz:Nat)
 | idxA (n sz:Nat) (agg:Bool)
 | idxS
 | min
 | max
 | lo (sz:Nat)
 | hi
 | loS
 | hiS
 deriving Inhabited
inductive E where
 | tmp (t:Nat)
 | con (v:Value)
 | un (o:Un) (x:E)
 | bin (o:Bn) (x y:E)
 | snoc (x y:E)
 | ite (c x y:E)
 | gd (c:E) (b:Bool) (x:E)
 deriving Inhabited
def vB:Value->Option Bool | .bool b=>VC b | _=>VD
def vI:Value->Option (IntKind × Int) | .int k n=>VC (k,n) | _=>VD
def vS:Value->Option ByteArray | .string s=>VC s | _=>VD
def vP:Value->Option Addr | VF (VC a)=>VC a | _=>VD
def vL:Value->Option (Option Addr × Nat × Nat) | .slice a n c=>VC (a,n,c) | _=>VD
def vA:Value->Option (Array Value) | .agg cs=>VC cs | _=>VD
def vT:Value->Option (Array Value) | .tuple cs=>VC cs | _=>VD
def vM:Value->Option (Option Nat) | .map r=>VC r | _=>VD
def Un.ev(h:View)(o:Un)(v:Value):Option Value:=
 match o with
 | .not=>(vB v).map λb=>.bool (!b)
 | .neg k=>(vI v).bind λp=>if p.1=k then VC (.int k (k.wrap (0-p.2))) else VD
 | .len=>(vL v).map λp=>Vz VA p.2.1
 | .lenStr=>(vS v).map λs=>Vz VA s.size
 | .lenMap=>(vM v).bind fun
  | none=>VC (Vz VA (0:Int))
  | some r=>(mapH h r).map λp=>Vz VA p.1.size
 | .load=>(vP v).bind λa=>aq h a
 | .bI n=>(vP v).bind λa=>(dY h a 0 n #[]).map .agg
 | .fld off=>(vP v).map λa=>VF (VC (a.add off))
 | .part off=>(vA v).bind λcs=>cs[off]?
 | .parts off n=>(vA v).map λcs=>.agg (cs.extract off (off+n))
 | .conv k=>(vI v).map λp=>.int k (k.wrap p.2)
 | .ext i=>(vT v).bind λvs=>vs[i]?
 | .nilPtr=>(vP v).map λa=>VF (VC a)
 | .fn f=>(vT v).map λvs=>.func (.func f) #[] vs
 | .build zero places=>(vT v).bind λvs=>(Instr.fill (places[·]?) zero ((List.range vs.size).zip vs.toList)).map .agg
def cmpI:BinOp->Int->Int->Option Bool
 | .eql,x,y=>VC (x == y)
 | .neq,x,y=>VC (x != y)
 | .lss,x,y=>VC (x<y)
 | .leq,x,y=>VC (x<=y)
 | .gtr,x,y=>VC (x>y)
 | .geq,x,y=>VC (x>=y)
 | _,_,_=>VD
def zD(k:IntKind):BinOp->Int->Int->Option Int
 | .add,x,y=>VC (k.wrap (x+y))
 | .sub,x,y=>VC (k.wrap (x-y))
 | .mul,x,y=>VC (k.wrap (x*y))
 | _,_,_=>VD
def divI(k:IntKind):BinOp->Int->Int->Option Int
 | .quo,x,y=>if y=0 then VD else VC (k.wrap (x.tdiv y))
 | .rem,x,y=>if y=0 then VD else VC (x.tmod y)
 | _,_,_=>VD
def N5(k:IntKind):BinOp->Int->Int->Option Int
 | .and,x,y=>VC (k.wrap ((BitVec.ofInt k.bits x&&& BitVec.ofInt k.bits y).toNat))
 | .or,x,y=>VC (k.wrap ((BitVec.ofInt k.bits x||| BitVec.ofInt k.bits y).toNat))
 | .xor,x,y=>VC (k.wrap ((BitVec.ofInt k.bits x ^^^ BitVec.ofInt k.bits y).toNat))
 | .andNot,x,y=>VC (k.wrap ((BitVec.ofInt k.bits x&&& ~~~BitVec.ofInt k.bits y).toNat))
 | _,_,_=>VD
def i2(v u:Value)(f:IntKind->Int->Int->Option Value):Option Value:=
 (vI v).bind λp=>(vI u).bind λq=>if p.1=q.1 then f p.1 p.2 q.2 else VD
def Bn.ev(o:Bn)(v u:Value):Option Value:=
 match o with
 | .arith op=>i2 v u λk a b=>(zD k op a b).map (.int k)
 | .div op=>i2 v u λk a b=>(divI k op a b).map (.int k)
 | .bits op=>i2 v u λk a b=>(N5 k op a b).map (.int k)
 | .cmp op=>i2 v u λ_ a b=>(cmpI op a b).map .bool
 | .min=>i2 v u λk a b=>VC (.int k (if b<a then b else a))
 | .max=>i2 v u λk a b=>VC (.int k (if a<b then b else a))
 | .eqB neg=>(vB v).bind λa=>(vB u).map λb=>.bool ((a == b) != neg)
 | .eqS neg=>(vS v).bind λa=>(vS u).map λb=>.bool ((a.toList == b.toList) != neg)
 | .cat=>(vS v).bind λa=>(vS u).bind λb=>if a.size+b.size<=9223372036854775807 then VC (.string (a++b)) else VD
 | .idx sz=>(vL v).bind λp=>(vI u).bind λq=>p.1.bind λa=>if 0<=q.2/\q.2<p.2.1 then VC (VF (VC (a.add (q.2.toNat*sz)))) else VD
 | .aidx n sz=>(vP v).bind λa=>(vI u).bind λq=>if 0<=q.2/\q.2<n then VC (VF (VC (a.add (q.2.toNat*sz)))) else VD
 | .idxA n sz agg=>(vA v).bind λcs=>(vI u).bind λq=>if 0<=q.2/\q.2<n then(if agg then VC (.agg (cs.extract (q.2.toNat*sz) (q.2.toNat*sz+sz))) else cs[q.2.toNat*sz]?) else VD
 | .idxS=>(vS v).bind λs=>(vI u).bind λq=>if 0<=q.2 then(s[q.2.toNat]?).map λb=>.int .u8 b.toNat else VD
 | .hi=>(vL v).bind λp=>(vI u).bind λq=>if 0<=q.2/\q.2<=p.2.2 then VC (.slice p.1 q.2.toNat p.2.2) else VD
 | .lo sz=>(vL v).bind λp=>(vI u).bind λq=>if 0<=q.2/\q.2<=p.2.1 then VC (.slice (if p.2.2=q.2.toNat then p.1 else p.1.map (·.add (q.2.toNat*sz))) (p.2.1-q.2.toNat) (p.2.2-q.2.toNat)) else VD
 | .hiS=>(vS v).bind λs=>(vI u).bind λq=>if 0<=q.2/\q.2<=s.size then VC (.string (s.extract 0 q.2.toNat)) else VD
 | .loS=>(vS v).bind λs=>(vI u).bind λq=>if 0<=q.2/\q.2<=s.size then VC (.string (s.extract q.2.toNat s.size)) else VD
def ev(ρ:Nat->Option Value)(h:View):E->Option Value
 | .tmp t=>ρ t
 | .con v=>VC v
 | .un o x=>match ev ρ h x with
  | some v=>o.ev h v
  | none=>VD
 | .bin o x y=>match ev ρ h x,ev ρ h y with
  | some v,VC u=>o.ev v u
  | _,_=>VD
 | .snoc x y=>match ev ρ h x,ev ρ h y with
  | some (.tuple vs),VC u=>VC (.tuple (vs.push u))
  | _,_=>VD
 | .ite c x y=>match ev ρ h c with
  | some (.bool VG)=>ev ρ h x
  | some (.bool VH)=>ev ρ h y
  | _=>VD
 | .gd c b x=>match ev ρ h c with
  | some (.bool VG)=>if b then ev ρ h x else VC undef
  | some (.bool VH)=>if b then VC undef else ev ρ h x
  | some _=>VC undef
  | none=>VD
def Un.reads:Un->Bool
 | .load | .bI _ | .lenMap=>VG
 | _=>VH
def E.reads:E->Bool
 | .tmp _ | .con _=>VH
 | .un o x=>o.reads||x.reads
 | .bin _ x y | .snoc x y=>x.reads||y.reads
 | .ite c x y=>c.reads||x.reads||y.reads
 | .gd c _ x=>c.reads||x.reads
theorem Un.jd{o:Un}(ho:o.reads=VH)(h h':View)(v:Value):o.ev h v=o.ev h' v:=by cases o<;>simp[Un.reads]at ho<;>rfl
theorem jd{ρ:Nat->Option Value}{h h':View} : ∀{e:E},e.reads=VH->ev ρ h e=ev ρ h' e
 | .tmp _,_=>rfl
 | .con _,_=>rfl
 | .un o x,hr=>by
  simp only[E.reads,TE]at hr;simp only[ev,jd (h:=h) (h':=h') hr.2];split
  ·exact Un.jd hr.1 _ _ _
  rfl
 | .bin o x y,hr=>by simp only[E.reads,TE]at hr;simp only[ev,jd (h:=h) (h':=h') hr.1,jd (h:=h) (h':=h') hr.2]
 | .snoc x y,hr=>by simp only[E.reads,TE]at hr;simp only[ev,jd (h:=h) (h':=h') hr.1,jd (h:=h) (h':=h') hr.2]
 | .ite c x y,hr=>by simp only[E.reads,TE]at hr;simp only[ev,jd (h:=h) (h':=h') hr.1.1,jd (h:=h) (h':=h') hr.1.2,jd (h:=h) (h':=h') hr.2]
 | .gd c b x,hr=>by simp only[E.reads,TE]at hr;simp only[ev,jd (h:=h) (h':=h') hr.1,jd (h:=h) (h':=h') hr.2]
theorem View.le_refl(H:View):H.le H:=λ_ _ h=>h
variable{H K:View}
theorem View.le_trans{L:View}(h:H.le K)(k:K.le L):H.le L:=λb o e=>k b o (h b o e)
theorem ae(hk:H.le K){a:Addr}{v:Value}(h:aq H a=VC v):aq K a=VC v:=by
 unfold aq at *;cases hb:H a.block with
 | none=>simp[hb]at h
 | some o=>simp only[hb]at h;simp only[hk _ _ hb];exact h
theorem rG{H K:View}(hk:H.le K){a:Addr} : ∀{n i:Nat} {acc cs:Array Value},dY H a i n acc=VC cs->dY K a i n acc=VC cs
 | 0,_,_,_,h=>h
 | n+1,i,acc,cs,h=>by
  simp only[dY]at *;cases hc:aq H (a.add i)with
  | none=>simp[hc]at h
  | some v=>simp only[hc]at h;simp only[ae hk hc];exact rG hk h
theorem II(hk:H.le K){r:Nat}{p:Array MapEntry × Nat}(h:mapH H r=VC p):mapH K r=VC p:=by
 unfold mapH at *;cases hb:H r with
 | none=>simp[hb]at h
 | some o=>simp only[hb]at h;simp only[hk _ _ hb];exact h
theorem Un.dW(hk:H.le K){o:Un}{v u:Value}(h:o.ev H v=VC u):o.ev K v=VC u:=by
 cases o<;>first | exact h | skip
 case load=>simp only[Un.ev,Sq]at *;obtain⟨a,ha,hc⟩:=h;exact⟨a,ha,ae hk hc⟩
 case bI n=>simp only[Un.ev,Sq,Sc]at *;obtain⟨a,ha,cs,hc,he⟩:=h;exact⟨a,ha,cs,rG hk hc,he⟩
 case lenMap=>
  simp only[Un.ev,Sq]at *;obtain⟨r,hr,h⟩:=h;refine⟨r,hr,?_⟩;cases r with
  | none=>exact h
  | some r=>simp only[Sc]at *;obtain⟨p,hp,he⟩:=h;exact⟨p,II hk hp,he⟩
theorem dW{ρ:Nat->Option Value}{H K:View}(hk:H.le K) : ∀{e:E} {v:Value},ev ρ H e=VC v->ev ρ K e=VC v
 | .tmp _,_,h=>h
 | .con _,_,h=>h
 | .un o x,v,h=>by
  simp only[ev]at *;split at h
  ·rename_i u hu;simp only[dW hk hu];exact Un.dW hk h
  cases h
 | .bin o x y,v,h=>by
  simp only[ev]at *;split at h
  ·rename_i u u' hu hu';simp only[dW hk hu,dW hk hu'];exact h
  cases h
 | .snoc x y,v,h=>by
  simp only[ev]at *;split at h
  ·rename_i u u' hu hu';simp only[dW hk hu,dW hk hu'];exact h
  cases h
 | .ite c x y,v,h=>by
  simp only[ev]at *;split at h
  ·rename_i hu;simp only[dW hk hu];exact dW hk h
  ·rename_i hu;simp only[dW hk hu];exact dW hk h
  cases h
 | .gd c b x,v,h=>by
  simp only[ev]at *;split at h
  ·rename_i hu;simp only[dW hk hu];split at h
   ·rename_i hb;simp only[hb,if_true];exact dW hk h
   rename_i hb;simp only[hb];exact h
  ·rename_i hu;simp only[dW hk hu];split at h
   ·rename_i hb;simp only[hb,if_true];exact h
   rename_i hb;simp only[hb];exact dW hk h
  ·rename_i u h1 h2 hu;simp only[dW hk hu];exact h
  cases h
def View.sub(H K:View):Prop:=∀b o,H b=VC o->∃o',K b=VC o'/\(o'=o\/∃c c' t fz,o = .cells c t fz/\o' = .cells c' t fz/\∃r:List Value,c'.toList=c.toList++r)
theorem View.zv(h:H.le K):H.sub K:=λb o hb=>⟨o,h b o hb,.inl rfl⟩
theorem AI(hk:H.sub K){a:Addr}{v:Value}(h:aq H a=VC v):aq K a=VC v:=by
 unfold aq at *;cases hb:H a.block with
 | none=>simp[hb]at h
 | some o=>
  simp only[hb]at h;obtain⟨o',h1,h2⟩:=hk _ _ hb;simp only[h1];rcases h2 with rfl | ⟨c,c',t,fz,rfl,rfl,r,hr⟩
  ·exact h
  simp only at h ⊢;split at h
  ·cases h
  rename_i hs;rw[if_neg hs];rw[<-Array.getElem?_toList]at h ⊢;rw[hr,Ur (by
   rcases Sb a.off c.toList.length with hl | hl
   ·exact hl
   rw[SM hl]at h;cases h)];exact h
theorem sY{H K:View}(hk:H.sub K){a:Addr} : ∀{n i:Nat} {acc cs:Array Value},dY H a i n acc=VC cs->dY K a i n acc=VC cs
 | 0,_,_,_,h=>h
 | n+1,i,acc,cs,h=>by
  simp only[dY]at *;cases hc:aq H (a.add i)with
  | none=>simp[hc]at h
  | some v=>simp only[hc]at h;simp only[AI hk hc];exact sY hk h
theorem LP(hk:H.sub K){r:Nat}{p:Array MapEntry × Nat}(h:mapH H r=VC p):mapH K r=VC p:=by
 unfold mapH at *;cases hb:H r with
 | none=>simp[hb]at h
 | some o=>
  simp only[hb]at h;obtain⟨o',h1,h2⟩:=hk _ _ hb;simp only[h1];rcases h2 with rfl | ⟨c,c',t,fz,rfl,rfl,r,hr⟩
  ·exact h
  cases h
theorem Un.gY(hk:H.sub K){o:Un}{v u:Value}(h:o.ev H v=VC u):o.ev K v=VC u:=by
 cases o<;>first | exact h | skip
 case load=>simp only[Un.ev,Sq]at *;obtain⟨a,ha,hc⟩:=h;exact⟨a,ha,AI hk hc⟩
 case bI n=>simp only[Un.ev,Sq,Sc]at *;obtain⟨a,ha,cs,hc,he⟩:=h;exact⟨a,ha,cs,sY hk hc,he⟩
 case lenMap=>
  simp only[Un.ev,Sq]at *;obtain⟨r,hr,h⟩:=h;refine⟨r,hr,?_⟩;cases r with
  | none=>exact h
  | some r=>simp only[Sc]at *;obtain⟨p,hp,he⟩:=h;exact⟨p,LP hk hp,he⟩
theorem gY{ρ:Nat->Option Value}{H K:View}(hk:H.sub K) : ∀{e:E} {v:Value},ev ρ H e=VC v->ev ρ K e=VC v
 | .tmp _,_,h=>h
 | .con _,_,h=>h
 | .un o x,v,h=>by
  simp only[ev]at *;split at h
  ·rename_i u hu;simp only[gY hk hu];exact Un.gY hk h
  cases h
 | .bin o x y,v,h=>by
  simp only[ev]at *;split at h
  ·rename_i u u' hu hu';simp only[gY hk hu,gY hk hu'];exact h
  cases h
 | .snoc x y,v,h=>by
  simp only[ev]at *;split at h
  ·rename_i u u' hu hu';simp only[gY hk hu,gY hk hu'];exact h
  cases h
 | .ite c x y,v,h=>by
  simp only[ev]at *;split at h
  ·rename_i hu;simp only[gY hk hu];exact gY hk h
  ·rename_i hu;simp only[gY hk hu];exact gY hk h
  cases h
 | .gd c b x,v,h=>by
  simp only[ev]at *;split at h
  ·rename_i hu;simp only[gY hk hu];split at h
   ·rename_i hb;simp only[hb,if_true];exact gY hk h
   rename_i hb;simp only[hb];exact h
  ·rename_i hu;simp only[gY hk hu];split at h
   ·rename_i hb;simp only[hb,if_true];exact h
   rename_i hb;simp only[hb];exact gY hk h
  ·rename_i u h1 h2 hu;simp only[gY hk hu];exact h
  cases h
def opnd:Operand->E
 | .tmp t=>.tmp t
 | .const v=>.con v
 | .global g=>.con (VF (VC ⟨g,0,VD⟩))
 | .func f=>.con (.func (.func f) #[] #[])
def pH(P:Program)(t:TypeId):Option Bool:=
 match P.underlying t with
 | some (.struct _) | some (.array _ _)=>VC VG
 | some _=>VC VH
 | none=>VD
def da(P:Program)(t:TypeId):Option Nat:=(P.info? t).map (·.size)
def zb(P:Program)(t:TypeId)(x:E):Option E:=
 match pH P t,da P t with
 | some VG,VC n=>VC (.un (.bI n) x)
 | some VH,VC _=>VC (.un .load x)
 | _,_=>VD
def opE(P:Program):Op->Option E
 | .move x | .assign x=>VC (opnd x)
 | .pick c a b=>VC (.ite (opnd c) (opnd a) (opnd b))
 | .unOp .not _ x=>VC (.un .not (opnd x))
 | .binOp op t x y _=>
  match P.underlying t,op with
  | some (.int _),.add | some (.int _),.sub | some (.int _),.mul=>VC (.bin (.arith op) (opnd x) (opnd y))
  | some (.int _),.quo | some (.int _),.rem=>VC (.bin (.div op) (opnd x) (opnd y))
  | some (.int _),.and | some (.int _),.or | some (.int _),.xor | some (.int _),.andNot=>VC (.bin (.bits op) (opnd x) (opnd y))
  | some (.int _),.eql | some (.int _),.neq | some (.int _),.lss | some (.int _),.leq | some (.int _),.gtr | some (.int _),.geq=>VC (.bin (.cmp op) (opnd x) (opnd y))
  | some .bool,.eql=>VC (.bin (.eqB VH) (opnd x) (opnd y))
  | some .bool,.neq=>VC (.bin (.eqB VG) (opnd x) (opnd y))
  | some .string,.add=>VC (.bin .cat (opnd x) (opnd y))
  | some .string,.eql=>VC (.bin (.eqS VH) (opnd x) (opnd y))
  | some .string,.neq=>VC (.bin (.eqS VG) (opnd x) (opnd y))
  | _,_=>VD
 | .load t a=>zb P t (opnd a)
 | .nilCheck x=>VC (.un .nilPtr (opnd x))
 | .fieldAddr s x f=>
  match P.underlying s with
  | some (.struct fields)=>match fields[f]? with
   | some g=>match da P g.type with
    | some (_+1)=>VC (.un (.fld g.offset) (opnd x))
    | _=>VD
   | none=>VD
  | _=>VD
 | .field s x f=>
  match P.underlying s with
  | some (.struct fields)=>match fields[f]? with
   | some g=>match pH P g.type,da P g.type with
    | some VG,VC n=>VC (.un (.parts g.offset n) (opnd x))
    | some VH,VC _=>VC (.un (.part g.offset) (opnd x))
    | _,_=>VD
   | none=>VD
  | _=>VD
 | .indexAddr t x i=>
  match P.underlying t with
  | some (.slice e)=>(da P e).map λn=>.bin (.idx n) (opnd x) (opnd i)
  | some (.array k e)=>if k<=1 then VD else(da P e).map λn=>.bin (.aidx k n) (opnd x) (opnd i)
  | _=>VD
 | .extract x i=>VC (.un (.ext i) (opnd x))
 | .convert s d x=>
  match P.underlying s,P.underlying d with
  | some (.int _),VC (.int k)=>VC (.un (.conv k) (opnd x))
  | _,_=>VD
 | .makeFunc (.func f) first captured=>if first.isEmpty then VC (.un (.fn f) (captured.toList.foldl (λe x=>.snoc e (opnd x)) (.con (.tuple #[])))) else VD
 | .call { callee:=.builtin .len,args,argTypes }=>
  match args.toList,argTypes[0]? with
  | [x],VC t=>match P.underlying t with
   | some (.slice _)=>VC (.un .len (opnd x))
   | some .string=>VC (.un .lenStr (opnd x))
   | some (.map _ _)=>VC (.un .lenMap (opnd x))
   | _=>VD
  | _,_=>VD
 | .call { callee:=.builtin .min,args,.. }=>
  match args.toList with
  | [x,y]=>VC (.bin .min (opnd x) (opnd y))
  | _=>VD
 | .call { callee:=.builtin .max,args,.. }=>
  match args.toList with
  | [x,y]=>VC (.bin .max (opnd x) (opnd y))
  | _=>VD
 | .slice t x lo hi VD=>
  match P.underlying t with
  | some (.slice e)=>match da P e with
   | some n=>
    let x1:=match hi with | some j=>.bin .hi (opnd x) (opnd j) | none=>opnd x
    match lo with
    | some i=>VC (.bin (.lo n) x1 (opnd i))
    | none=>match hi with | some _=>VC x1 | none=>VD
   | none=>VD
  | _=>VD
 | _=>VD
section
variable{P:Program}{w:World}
theorem qx{t:TypeId}{b:Bool}(h:pH P t=VC b):(isAgg t).run P w = .ok b w:=by
 unfold pH at h;cases hu:P.underlying t with
 | none=>simp[hu]at h
 | some d=>cases d<;>simp[hu]at h<;>subst h<;>simp[isAgg,run_underlying hu]
variable{n:Nat}
theorem run_sizeOf{t:TypeId}(h:da P t=VC n):(sizeOf t).run P w = .ok n w:=by
 unfold da at h;cases hu:P.info? t with
 | none=>simp[hu]at h
 | some i=>simp[hu]at h;subst h;simp[sizeOf,typeInfo,hu]
theorem run_loadCellsFrom(a:Addr) : ∀(n i:Nat) (acc cs:Array Value),dY (vw w.heap) a i n acc=VC cs->(loadCellsFrom a i n acc).run P w = .ok cs w
 | 0,i,acc,cs,h=>by simp[dY]at h;subst h;simp[loadCellsFrom]
 | n+1,i,acc,cs,h=>by
  unfold dY at h;cases hc:aq (vw w.heap) (a.add i)with
  | none=>simp[hc]at h
  | some v=>simp only[hc]at h;have hc':w.cell? (a.add i)=VC v:=hc;simp[loadCellsFrom,hc',run_loadCellsFrom a n (i+1) (acc.push v) cs h]
theorem run_load{t:TypeId}{x:E}{e:E}{ρ:Nat->Option Value}{v u:Value}(he:zb P t x=VC e)(hx:ev ρ (vw w.heap) x=VC u)(hv:ev ρ (vw w.heap) e=VC v):
  (Instr.loadAt t u).run P w = .ok v w:=by
 unfold zb at he;cases ha:pH P t with
 | none=>simp[ha]at he
 | some b=>
  cases hs:da P t with
  | none=>cases b<;>simp[ha,hs]at he
  | some n=>
   cases b
   ·simp[ha,hs]at he;subst he;simp only[ev,hx]at hv;cases u<;>simp[Un.ev,vP]at hv;rename_i a;cases a with
    | none=>simp at hv
    | some a=>simp only[SA]at hv;have hc:w.cell? a=VC v:=hv;simp[Instr.loadAt,Instr.sureAddr,loadVar,qx ha,hc]
   simp[ha,hs]at he;subst he;simp only[ev,hx]at hv;cases u<;>simp[Un.ev,vP]at hv;rename_i a;cases a with
   | none=>simp at hv
   | some a=>simp only[SA,Sc]at hv;obtain⟨cs,hcs,rfl⟩:=hv;have:=run_loadCellsFrom (P:=P) (w:=w) a n 0 #[] cs hcs;simp[Instr.loadAt,Instr.sureAddr,loadVar,qx ha,run_sizeOf hs,loadCells,this]
abbrev cA(a:Act):Nat->Option Value:=λt=>a.tmps[t]?
theorem bR{a:Act}{h:View}{x:Operand}{v:Value}(hv:ev (cA a) h (opnd x)=VC v):a.eval x=v:=by
 cases x with
 | tmp t=>simp only[opnd,ev,cA]at hv;simp[Act.eval,hv]
 | const u=>simp only[opnd,ev,RW]at hv;simp[Act.eval,hv]
 | global g=>simp only[opnd,ev,RW]at hv;simp[Act.eval,hv]
 | func f=>simp only[opnd,ev,RW]at hv;simp[Act.eval,hv]
theorem tM{v:Value}{p:IntKind × Int}(h:vI v=VC p):v = .int p.1 p.2:=by cases v<;>simp[vI]at h;subst h;rfl
theorem CX{v:Value}{p:Bool}(h:vB v=VC p):v = .bool p:=by cases v<;>simp[vB]at h;subst h;rfl
theorem wA{v:Value}{p:ByteArray}(h:vS v=VC p):v = .string p:=by cases v<;>simp[vS]at h;subst h;rfl
theorem CM{v:Value}{p:Addr}(h:vP v=VC p):v = VF (VC p):=by cases v<;>simp[vP]at h;rename_i a;cases a<;>simp at h;subst h;rfl
theorem vJ{v:Value}{p:Option Addr × Nat × Nat}(h:vL v=VC p):v = .slice p.1 p.2.1 p.2.2:=by cases v<;>simp[vL]at h;subst h;rfl
theorem Hp{v:Value}{p:Array Value}(h:vA v=VC p):v = .agg p:=by cases v<;>simp[vA]at h;subst h;rfl
theorem HH{v:Value}{p:Array Value}(h:vT v=VC p):v = .tuple p:=by cases v<;>simp[vT]at h;subst h;rfl
theorem Nn{v:Value}{p:Option Nat}(h:vM v=VC p):v = .map p:=by cases v<;>simp[vM]at h;subst h;rfl
theorem ld{ρ:Nat->Option Value}{h:View}{o:Un}{x:E}{v:Value}(hv:ev ρ h (.un o x)=VC v): ∃u,ev ρ h x=VC u/\o.ev h u=VC v:=by
 simp only[ev]at hv;split at hv
 ·exact⟨_,by assumption,hv⟩
 cases hv
theorem iB{ρ:Nat->Option Value}{h:View}{o:Bn}{x y:E}{v:Value}(hv:ev ρ h (.bin o x y)=VC v): ∃u u',ev ρ h x=VC u/\ev ρ h y=VC u'/\o.ev u u'=VC v:=by
 simp only[ev]at hv;split at hv
 ·exact⟨_,_,by assumption,by assumption,hv⟩
 cases hv
theorem tw{v u r:Value}{f:IntKind->Int->Int->Option Value}(h:i2 v u f=VC r): ∃k a b,v = .int k a/\u = .int k b/\f k a b=VC r:=by
 simp only[i2,Sq]at h;obtain⟨p,hp,q,hq,h⟩:=h;split at h
 ·rename_i e;exact⟨p.1,p.2,q.2,tM hp,by rw[e];exact tM hq,h⟩
 cases h
section binops
variable{o:Oper}{a:Act}{v:Value}{x y:Operand}{t u:TypeId}{op:BinOp}{n:Bool}
theorem Iu(ho:o.op = .binOp op t x y u)(hv:ev (cA a) (vw w.heap) (.bin (.cmp op) (opnd x) (opnd y))=VC v):(execOp a.eval o).run P w = .ok (.value v) w:=by obtain⟨p,q,hp,hq,hpq⟩:=iB hv;simp only[Bn.ev]at hpq;obtain⟨k,i,j,rfl,rfl,h⟩:=tw hpq;simp only[Sc]at h;obtain⟨b,hb,rfl⟩:=h;have e1:=bR hp;have e2:=bR hq;cases op<;>simp[cmpI]at hb<;>subst hb<;>simp[execOp,ho,eqGuard,e1,e2,binOp,Op.intCmp]
theorem Dv(ho:o.op = .binOp op t x y u)(hv:ev (cA a) (vw w.heap) (.bin (.arith op) (opnd x) (opnd y))=VC v):(execOp a.eval o).run P w = .ok (.value v) w:=by obtain⟨p,q,hp,hq,hpq⟩:=iB hv;simp only[Bn.ev]at hpq;obtain⟨k,i,j,rfl,rfl,h⟩:=tw hpq;simp only[Sc]at h;obtain⟨b,hb,rfl⟩:=h;have e1:=bR hp;have e2:=bR hq;cases op<;>simp[zD]at hb<;>subst hb<;>simp[execOp,ho,eqGuard,e1,e2,binOp,Op.intArith]
theorem I2(ho:o.op = .binOp op t x y u)(hv:ev (cA a) (vw w.heap) (.bin (.div op) (opnd x) (opnd y))=VC v):(execOp a.eval o).run P w = .ok (.value v) w:=by obtain⟨p,q,hp,hq,hpq⟩:=iB hv;simp only[Bn.ev]at hpq;obtain⟨k,i,j,rfl,rfl,h⟩:=tw hpq;simp only[Sc]at h;obtain⟨b,hb,rfl⟩:=h;have e1:=bR hp;have e2:=bR hq;cases op<;>simp[divI]at hb<;>obtain⟨hz,rfl⟩:=hb<;>simp[execOp,ho,eqGuard,e1,e2,binOp,Op.intDiv,hz]
theorem FW(ho:o.op = .binOp op t x y u)(hv:ev (cA a) (vw w.heap) (.bin (.bits op) (opnd x) (opnd y))=VC v):(execOp a.eval o).run P w = .ok (.value v) w:=by obtain⟨p,q,hp,hq,hpq⟩:=iB hv;simp only[Bn.ev]at hpq;obtain⟨k,i,j,rfl,rfl,h⟩:=tw hpq;simp only[Sc]at h;obtain⟨b,hb,rfl⟩:=h;have e1:=bR hp;have e2:=bR hq;cases op<;>simp only[N5,RW,reduceCtorEq]at hb<;>subst hb<;>simp[execOp,ho,eqGuard,e1,e2,binOp,Op.intBits]
theorem run_equal_bool(hu:P.underlying t=VC .bool)(i j:Bool):(Op.equal t (.bool i) (.bool j)).run P w = .ok (i == j) w:=by
 have key : ∀d,(Op.equalIn (d+1) t (.bool i) (.bool j)).run P w = .ok (i == j) w:=λd=>by simp only[Op.equalIn];simp[run_underlying hu]
 exact key 9999
theorem AM(hu:P.underlying t=VC .bool)(hop:op=if n then .neq else .eql)(ho:o.op = .binOp op t x y u)(hv:ev (cA a) (vw w.heap) (.bin (.eqB n) (opnd x) (opnd y))=VC v):(execOp a.eval o).run P w = .ok (.value v) w:=by obtain⟨p,q,hp,hq,hpq⟩:=iB hv;simp only[Bn.ev,Sq,Sc]at hpq;obtain⟨i,hi,j,hj,rfl⟩:=hpq;obtain rfl:=CX hi;obtain rfl:=CX hj;have e1:=bR hp;have e2:=bR hq;have e3:=run_equal_bool (w:=w) hu i j;cases n<;>simp at hop<;>subst hop<;>simp[execOp,ho,eqGuard,e1,e2,binOp,e3]
theorem A3(hop:op=if n then .neq else .eql)(hu:P.underlying t=VC .string)(ho:o.op = .binOp op t x y u)(hv:ev (cA a) (vw w.heap) (.bin (.eqS n) (opnd x) (opnd y))=VC v):(execOp a.eval o).run P w = .ok (.value v) w:=by obtain⟨p,q,hp,hq,hpq⟩:=iB hv;simp only[Bn.ev,Sq,Sc]at hpq;obtain⟨i,hi,j,hj,rfl⟩:=hpq;obtain rfl:=wA hi;obtain rfl:=wA hj;have e1:=bR hp;have e2:=bR hq;cases n<;>simp at hop<;>subst hop<;>simp[execOp,ho,eqGuard,e1,e2,binOp,Op.stringOp]
theorem HS(ho:o.op = .binOp .add t x y u)(hv:ev (cA a) (vw w.heap) (.bin .cat (opnd x) (opnd y))=VC v):(execOp a.eval o).run P w = .ok (.value v) w:=by
 obtain⟨p,q,hp,hq,hpq⟩:=iB hv;simp only[Bn.ev,Sq]at hpq;obtain⟨i,hi,j,hj,h⟩:=hpq;obtain rfl:=wA hi;obtain rfl:=wA hj;split at h
 ·rename_i hs;cases h;have e1:=bR hp;have e2:=bR hq;have:((i.size:Int)+j.size)<=9223372036854775807:=by omega
  simp[execOp,ho,eqGuard,e1,e2,binOp,Op.stringOp,IntKind.max,IntKind.signed,IntKind.bits];exact this
 cases h
end binops
end
section
variable{P:Program}{w:World}{o:Oper}{a:Act}{v:Value}
theorem Fz{x:Operand}(ho:o.op = .move x)(hv:ev (cA a) (vw w.heap) (opnd x)=VC v):(execOp a.eval o).run P w = .ok (.value v) w:=by simp[execOp,ho,bR hv]
theorem C9{x:Operand}(ho:o.op = .assign x)(hv:ev (cA a) (vw w.heap) (opnd x)=VC v):(execOp a.eval o).run P w = .ok (.value v) w:=by simp[execOp,ho,bR hv]
theorem F7{c x y:Operand}(ho:o.op = .pick c x y)(hv:ev (cA a) (vw w.heap) (.ite (opnd c) (opnd x) (opnd y))=VC v):(execOp a.eval o).run P w = .ok (.value v) w:=by
 simp only[ev]at hv;split at hv
 ·rename_i hc;simp[execOp,ho,bR hc,asBool,bR hv]
 ·rename_i hc;simp[execOp,ho,bR hc,asBool,bR hv]
 cases hv
theorem H0{t:TypeId}{x:Operand}(ho:o.op = .unOp .not t x)(hv:ev (cA a) (vw w.heap) (.un .not (opnd x))=VC v):(execOp a.eval o).run P w = .ok (.value v) w:=by obtain⟨u,hu,h⟩:=ld hv;simp only[Un.ev,Sc]at h;obtain⟨b,hb,rfl⟩:=h;obtain rfl:=CX hb;simp[execOp,ho,bR hu,Op.unary]
theorem H2{x:Operand}(ho:o.op = .nilCheck x)(hv:ev (cA a) (vw w.heap) (.un .nilPtr (opnd x))=VC v):(execOp a.eval o).run P w = .ok (.value v) w:=by obtain⟨u,hu,h⟩:=ld hv;simp only[Un.ev,Sc]at h;obtain⟨b,hb,rfl⟩:=h;obtain rfl:=CM hb;simp[execOp,ho,bR hu]
theorem Jb{x:Operand}{i:Nat}(ho:o.op = .extract x i)(hv:ev (cA a) (vw w.heap) (.un (.ext i) (opnd x))=VC v):(execOp a.eval o).run P w = .ok (.value v) w:=by obtain⟨u,hu,h⟩:=ld hv;simp only[Un.ev,Sq]at h;obtain⟨b,hb,h⟩:=h;obtain rfl:=HH hb;simp[execOp,ho,bR hu,Instr.extract,h]
theorem GB{s d:TypeId}{x:Operand}{k k':IntKind}(hs:P.underlying s=VC (.int k'))(hd:P.underlying d=VC (.int k))(ho:o.op = .convert s d x)(hv:ev (cA a) (vw w.heap) (.un (.conv k) (opnd x))=VC v):(execOp a.eval o).run P w = .ok (.value v) w:=by obtain⟨u,hu,h⟩:=ld hv;simp only[Un.ev,Sc]at h;obtain⟨b,hb,rfl⟩:=h;obtain h1:=tM hb;subst h1;simp[execOp,ho,bR hu,convert,run_underlying hs,run_underlying hd,Conv.intToInt]
variable{n:Nat}{fields:Array Field}
theorem yC{s:TypeId}{x:Operand}{f:Nat}{g:Field}(hs:P.underlying s=VC (.struct fields))(hf:fields[f]? = VC g)(hz:da P g.type=VC (n+1))(ho:o.op = .fieldAddr s x f)(hv:ev (cA a) (vw w.heap) (.un (.fld g.offset) (opnd x))=VC v):(execOp a.eval o).run P w = .ok (.value v) w:=by obtain⟨u,hu,h⟩:=ld hv;simp only[Un.ev,Sc]at h;obtain⟨b,hb,rfl⟩:=h;obtain rfl:=CM hb;simp[execOp,ho,bR hu,Instr.fieldAt,run_underlying hs,hf,Instr.sureAddr,fieldPlace,run_sizeOf hz]
theorem F6{s:TypeId}{x:Operand}{f:Nat}{g:Field}(hs:P.underlying s=VC (.struct fields))(hf:fields[f]? = VC g)(ha:pH P g.type=VC VH)(_hz:da P g.type=VC n)(ho:o.op = .field s x f)(hv:ev (cA a) (vw w.heap) (.un (.part g.offset) (opnd x))=VC v):(execOp a.eval o).run P w = .ok (.value v) w:=by obtain⟨u,hu,h⟩:=ld hv;simp only[Un.ev,Sq]at h;obtain⟨b,hb,h⟩:=h;obtain rfl:=Hp hb;simp[execOp,ho,bR hu,Instr.field,run_underlying hs,hf,asAgg,part,qx ha,h]
theorem Eu{s:TypeId}{x:Operand}{f:Nat}{g:Field}(hs:P.underlying s=VC (.struct fields))(hf:fields[f]? = VC g)(ha:pH P g.type=VC VG)(hz:da P g.type=VC n)(ho:o.op = .field s x f)(hv:ev (cA a) (vw w.heap) (.un (.parts g.offset n) (opnd x))=VC v):(execOp a.eval o).run P w = .ok (.value v) w:=by obtain⟨u,hu,h⟩:=ld hv;simp only[Un.ev,Sc]at h;obtain⟨b,hb,rfl⟩:=h;obtain rfl:=Hp hb;simp[execOp,ho,bR hu,Instr.field,run_underlying hs,hf,asAgg,part,qx ha,run_sizeOf hz]
theorem H8{t e:TypeId}{x i:Operand}(ht:P.underlying t=VC (.slice e))(hz:da P e=VC n)(ho:o.op = .indexAddr t x i)(hv:ev (cA a) (vw w.heap) (.bin (.idx n) (opnd x) (opnd i))=VC v):(execOp a.eval o).run P w = .ok (.value v) w:=by
 obtain⟨p,q,hp,hq,h⟩:=iB hv;simp only[Bn.ev,Sq]at h;obtain⟨l,hl,k,hk,d,hd,h⟩:=h;obtain rfl:=vJ hl;have hk':=tM hk;split at h
 ·rename_i hb;simp only[RW]at h;subst h;have e1:=bR hp;have e2:=bR hq;rw[hk']at e2;simp[execOp,ho,e1,e2,Instr.indexAt,asIntOf,run_underlying ht,hd,hb.1,hb.2,run_sizeOf hz]
 cases h
theorem GG{t e:TypeId}{x i:Operand}{m:Nat}(ht:P.underlying t=VC (.array m e))(hz:da P e=VC n)(ho:o.op = .indexAddr t x i)(hv:ev (cA a) (vw w.heap) (.bin (.aidx m n) (opnd x) (opnd i))=VC v):(execOp a.eval o).run P w = .ok (.value v) w:=by
 obtain⟨p,q,hp,hq,h⟩:=iB hv;simp only[Bn.ev,Sq]at h;obtain⟨l,hl,k,hk,h⟩:=h;obtain rfl:=CM hl;have hk':=tM hk;split at h
 ·rename_i hb;simp only[RW]at h;subst h;have e1:=bR hp;have e2:=bR hq;rw[hk']at e2;simp[execOp,ho,e1,e2,Instr.indexAt,asIntOf,run_underlying ht,Instr.sureAddr,hb.1,hb.2,run_sizeOf hz]
 cases h
theorem IW{T:Array TypeId}{t e:TypeId}{x:Operand}{A:Array Operand}(hT:T[0]? = VC t)(hA:A.toList=[x])(ht:P.underlying t=VC (.slice e))(ho:o.op = .call { callee:=.builtin .len,args:=A,argTypes:=T })(hv:ev (cA a) (vw w.heap) (.un .len (opnd x))=VC v):(execOp a.eval o).run P w = .ok (.value v) w:=by
 obtain⟨u,hu,h⟩:=ld hv;simp only[Un.ev,Sc]at h;obtain⟨l,hl,rfl⟩:=h;obtain rfl:=vJ hl;have hA':A = #[x]:=by rw[<-Array.toArray_toList (xs:=A),hA]
 subst hA';simp[execOp,ho,resolve,invoke,builtin,Builtin.len_,hT,run_underlying ht,bR hu,goInt]
theorem Cy{T:Array TypeId}{t:TypeId}{x:Operand}{A:Array Operand}(hT:T[0]? = VC t)(hA:A.toList=[x])(ht:P.underlying t=VC .string)(ho:o.op = .call { callee:=.builtin .len,args:=A,argTypes:=T })(hv:ev (cA a) (vw w.heap) (.un .lenStr (opnd x))=VC v):(execOp a.eval o).run P w = .ok (.value v) w:=by
 obtain⟨u,hu,h⟩:=ld hv;simp only[Un.ev,Sc]at h;obtain⟨l,hl,rfl⟩:=h;obtain rfl:=wA hl;have hA':A = #[x]:=by rw[<-Array.toArray_toList (xs:=A),hA]
 subst hA';simp[execOp,ho,resolve,invoke,builtin,Builtin.len_,hT,run_underlying ht,bR hu,goInt]
theorem C2{T:Array TypeId}{t k e:TypeId}{x:Operand}{A:Array Operand}(hT:T[0]? = VC t)(hA:A.toList=[x])(ht:P.underlying t=VC (.map k e))(ho:o.op = .call { callee:=.builtin .len,args:=A,argTypes:=T })(hv:ev (cA a) (vw w.heap) (.un .lenMap (opnd x))=VC v):(execOp a.eval o).run P w = .ok (.value v) w:=by
 obtain⟨u,hu,h⟩:=ld hv;simp only[Un.ev,Sq]at h;obtain⟨l,hl,h⟩:=h;obtain rfl:=Nn hl;have hA':A = #[x]:=by rw[<-Array.toArray_toList (xs:=A),hA]
 subst hA';cases l with
 | none=>simp only[RW]at h;subst h;simp[execOp,ho,resolve,invoke,builtin,Builtin.len_,hT,run_underlying ht,bR hu,goInt]
 | some r=>
  simp only[Sc,mapH,vw]at h;obtain⟨⟨es,c⟩,h1,rfl⟩:=h;split at h1
  ·rename_i es' c' hh;simp only[RW,TM]at h1;obtain⟨rfl,rfl⟩:=h1;simp[execOp,ho,resolve,invoke,builtin,Builtin.len_,hT,run_underlying ht,bR hu,goInt,getObj,Sem.run,hh]
  cases h1
theorem HZ{T:Array TypeId}{x y:Operand}{A:Array Operand}(hA:A.toList=[x,y])(ho:o.op = .call { callee:=.builtin .min,args:=A,argTypes:=T })(hv:ev (cA a) (vw w.heap) (.bin .min (opnd x) (opnd y))=VC v):(execOp a.eval o).run P w = .ok (.value v) w:=by
 obtain⟨p,q,hp,hq,hpq⟩:=iB hv;simp only[Bn.ev]at hpq;obtain⟨k,i,j,rfl,rfl,h⟩:=tw hpq;simp only[RW]at h;subst h;have hA':A = #[x,y]:=by rw[<-Array.toArray_toList (xs:=A),hA]
 subst hA';simp[execOp,ho,resolve,invoke,builtin,Builtin.min_,Builtin.min2,bR hp,bR hq]
theorem H9{T:Array TypeId}{x y:Operand}{A:Array Operand}(hA:A.toList=[x,y])(ho:o.op = .call { callee:=.builtin .max,args:=A,argTypes:=T })(hv:ev (cA a) (vw w.heap) (.bin .max (opnd x) (opnd y))=VC v):(execOp a.eval o).run P w = .ok (.value v) w:=by
 obtain⟨p,q,hp,hq,hpq⟩:=iB hv;simp only[Bn.ev]at hpq;obtain⟨k,i,j,rfl,rfl,h⟩:=tw hpq;simp only[RW]at h;subst h;have hA':A = #[x,y]:=by rw[<-Array.toArray_toList (xs:=A),hA]
 subst hA';simp[execOp,ho,resolve,invoke,builtin,Builtin.max_,Builtin.max2,bR hp,bR hq]
theorem Fc : ∀(l:List Operand) (e:E) (acc:Array Value) (v:Value),ev (cA a) (vw w.heap) e=VC (.tuple acc)->ev (cA a) (vw w.heap) (l.foldl (λe x=>.snoc e (opnd x)) e)=VC v->
  v = .tuple (acc++(l.map a.eval).toArray)
 | [],e,acc,v,h0,h=>by simp at h;rw[h0]at h;simp at h;subst h;simp
 | x::l,e,acc,v,h0,h=>by
  simp only[Sx]at h;cases hx:ev (cA a) (vw w.heap) (opnd x)with
  | none=>
   exfalso;have : ∀(l:List Operand) (e:E),ev (cA a) (vw w.heap) e=VD->ev (cA a) (vw w.heap) (l.foldl (λe x=>.snoc e (opnd x)) e)=none:=by
    intro l;induction l with
    | nil=>intro e he;simpa using he
    | cons y l ih=>intro e he;simp only[Sx];exact ih _ (by simp[ev,he])
   rw[this l _ (by simp[ev,h0,hx])]at h;cases h
  | some u=>have:=Fc l (.snoc e (opnd x)) (acc.push u) v (by simp[ev,h0,hx]) h;rw[this,<-bR hx];simp
theorem KO{f:FuncId}{first captured:Array Operand}(hf:first.isEmpty=VG)(ho:o.op = .makeFunc (.func f) first captured)(hv:ev (cA a) (vw w.heap) (.un (.fn f) (captured.toList.foldl (λe x=>.snoc e (opnd x)) (.con (.tuple #[]))))=VC v):(execOp a.eval o).run P w = .ok (.value v) w:=by
 obtain⟨u,hu,h⟩:=ld hv;simp only[Un.ev,Sc]at h;obtain⟨l,hl,rfl⟩:=h;obtain rfl:=HH hl;have h1:=Fc captured.toList _ #[] _ (by simp[ev]) hu;have hf':first = #[]:=by simpa using hf
 subst hf';simp only[Value.tuple.injEq]at h1;subst h1;have e:Array.map a.eval captured=(List.map a.eval captured.toList).toArray:=by rw[<-Array.toList_inj];simp
 simp[execOp,ho,Instr.makeFunc,e]
theorem run_sliceBound{i:Operand}{q:IntKind × Int}{u:Value}(hq:ev (cA a) (vw w.heap) (opnd i)=VC u)(hk:vI u=VC q)(y:Nat)(c:BoundsCode)(hb:0<=q.2/\q.2<=y):
  (Instr.sliceBound (a.eval i) y c).run P w = .ok q.2.toNat w:=by have h1:=tM hk;rw[bR hq,h1];simp[Instr.sliceBound,asIntOf,hb.1,hb.2]
theorem JD{t e:TypeId}{x j:Operand}(ht:P.underlying t=VC (.slice e))(hz:da P e=VC n)(ho:o.op = .slice t x VD (VC j) VD)(hv:ev (cA a) (vw w.heap) (.bin .hi (opnd x) (opnd j))=VC v):(execOp a.eval o).run P w = .ok (.value v) w:=by
 obtain⟨p,q,hp,hq,h⟩:=iB hv;simp only[Bn.ev,Sq]at h;obtain⟨l,hl,k,hk,h⟩:=h;obtain rfl:=vJ hl;split at h
 ·rename_i hb;simp only[RW]at h;subst h;have e1:=bR hp;have e2:=run_sliceBound (P:=P) hq hk l.2.2 .sliceAcap hb;have e3:=run_sizeOf (w:=w) hz;obtain⟨b,len,cap⟩:=l;simp only at e2;cases b<;>simp[execOp,ho,e1,Instr.sliceAt,Instr.slice,run_underlying ht,Instr.sliceBounds,e2,e3,Addr.add]
 cases h
theorem Lu{t e:TypeId}{x i:Operand}(ht:P.underlying t=VC (.slice e))(hz:da P e=VC n)(ho:o.op = .slice t x (VC i) VD VD)(hv:ev (cA a) (vw w.heap) (.bin (.lo n) (opnd x) (opnd i))=VC v):(execOp a.eval o).run P w = .ok (.value v) w:=by
 obtain⟨p,q,hp,hq,h⟩:=iB hv;simp only[Bn.ev,Sq]at h;obtain⟨l,hl,k,hk,h⟩:=h;obtain rfl:=vJ hl;split at h
 ·rename_i hb;simp only[RW]at h;subst h;have e1:=bR hp;have e2:=run_sliceBound (P:=P) hq hk l.2.1 .sliceB hb;have e3:=run_sizeOf (w:=w) hz;obtain⟨b,len,cap⟩:=l;simp only at e2;simp[execOp,ho,e1,Instr.sliceAt,Instr.slice,run_underlying ht,Instr.sliceBounds,e2,e3]
 cases h
theorem Gw{t e:TypeId}{x i j:Operand}(ht:P.underlying t=VC (.slice e))(hz:da P e=VC n)(ho:o.op = .slice t x (VC i) (VC j) VD)(hv:ev (cA a) (vw w.heap) (.bin (.lo n) (.bin .hi (opnd x) (opnd j)) (opnd i))=VC v):(execOp a.eval o).run P w = .ok (.value v) w:=by
 obtain⟨p,q,hp,hq,h⟩:=iB hv;obtain⟨p',q',hp',hq',h'⟩:=iB hp;simp only[Bn.ev,Sq]at h h';obtain⟨l',hl',k',hk',h'⟩:=h';obtain rfl:=vJ hl';split at h'
 ·rename_i hb';simp only[RW]at h';subst h';obtain⟨l,hl,k,hk,h⟩:=h;simp only[vL,RW]at hl;subst hl;split at h
  ·rename_i hb;simp only[RW]at h;subst h;have e1:=bR hp';have e2:=run_sliceBound (P:=P) hq hk k'.2.toNat .sliceB hb;have e2':=run_sliceBound (P:=P) hq' hk' l'.2.2 .sliceAcap hb';have e3:=run_sizeOf (w:=w) hz;obtain⟨b,len,cap⟩:=l';simp only at e2 e2';simp[execOp,ho,e1,Instr.sliceAt,Instr.slice,run_underlying ht,Instr.sliceBounds,e2,e2',e3]
  cases h
 cases h'
theorem CI{t:TypeId}{x:Operand}{e:E}(he:zb P t (opnd x)=VC e)(ho:o.op = .load t x)(hv:ev (cA a) (vw w.heap) e=VC v):(execOp a.eval o).run P w = .ok (.value v) w:=by
 have hx : ∃u,ev (cA a) (vw w.heap) (opnd x)=VC u:=by
  unfold zb at he;split at he
  ·simp only[RW]at he;subst he;obtain⟨u,hu,_⟩:=ld hv;exact⟨u,hu⟩
  ·simp only[RW]at he;subst he;obtain⟨u,hu,_⟩:=ld hv;exact⟨u,hu⟩
  cases he
 obtain⟨u,hu⟩:=hx;have:=run_load he hu hv;simp[execOp,ho,bR hu,this]
theorem tu{e:E}(he:opE P o.op=VC e)(hv:ev (cA a) (vw w.heap) e=VC v):(execOp a.eval o).run P w = .ok (.value v) w:=by
 cases ho:o.op with
 | move x=>rw[ho]at he;simp only[opE,RW]at he;subst he;exact Fz ho hv
 | assign x=>rw[ho]at he;simp only[opE,RW]at he;subst he;exact C9 ho hv
 | pick c x y=>rw[ho]at he;simp only[opE,RW]at he;subst he;exact F7 ho hv
 | unOp op t x=>rw[ho]at he;cases op<;>simp only[opE,RW,reduceCtorEq]at he;subst he;exact H0 ho hv
 | binOp op t x y u=>
  rw[ho]at he;simp only[opE]at he;split at he<;>first
   | (simp only[RW]at he;subst he;first | exact Dv ho hv | exact I2 ho hv | exact FW ho hv | exact Iu ho hv | exact AM (n:=false) ‹_› rfl ho hv | exact AM (n:=true) ‹_› rfl ho hv | exact HS ho hv | exact A3 (n:=false) rfl ‹_› ho hv | exact A3 (n:=true) rfl ‹_› ho hv)
   | cases he
 | load t x=>rw[ho]at he;simp only[opE]at he;exact CI he ho hv
 | nilCheck x=>rw[ho]at he;simp only[opE,RW]at he;subst he;exact H2 ho hv
 | fieldAddr s x f=>
  rw[ho]at he;simp only[opE]at he;split at he
  ·rename_i fields hs;split at he
   ·rename_i g hf;split at he
    ·rename_i n hz;simp only[RW]at he;subst he;exact yC hs hf hz ho hv
    cases he
   cases he
  cases he
 | field s x f=>
  rw[ho]at he;simp only[opE]at he;split at he
  ·rename_i fields hs;split at he
   ·rename_i g hf;split at he
    ·rename_i n ha hz;simp only[RW]at he;subst he;exact Eu hs hf ha hz ho hv
    ·rename_i n ha hz;simp only[RW]at he;subst he;exact F6 hs hf ha hz ho hv
    cases he
   cases he
  cases he
 | indexAddr t x i=>
  rw[ho]at he;simp only[opE]at he;split at he
  ·rename_i el ht;simp only[Sc]at he;obtain⟨n,hn,rfl⟩:=he;exact H8 ht hn ho hv
  ·rename_i k el ht;split at he
   ·cases he
   simp only[Sc]at he;obtain⟨n,hn,rfl⟩:=he;exact GG ht hn ho hv
  cases he
 | extract x i=>rw[ho]at he;simp only[opE,RW]at he;subst he;exact Jb ho hv
 | convert s d x=>
  rw[ho]at he;simp only[opE]at he;split at he
  ·rename_i k' k hs hd;simp only[RW]at he;subst he;exact GB hs hd ho hv
  cases he
 | makeFunc fn first captured=>
  rw[ho]at he;cases fn<;>simp only[opE,reduceCtorEq]at he;split at he
  ·rename_i hf;simp only[RW]at he;subst he;exact KO hf ho hv
  cases he
 | call c=>
  rw[ho]at he;obtain⟨callee,args,T⟩:=c;cases callee with
  | value f=>simp only[opE,reduceCtorEq]at he
  | invoke r m=>simp only[opE,reduceCtorEq]at he
  | builtin b=>
   cases b<;>simp only[opE,reduceCtorEq]at he;case len=>
    split at he
    ·rename_i x t hA hT;split at he
     ·rename_i el ht;simp only[RW]at he;subst he;exact IW hT hA ht ho hv
     ·rename_i ht;simp only[RW]at he;subst he;exact Cy hT hA ht ho hv
     ·rename_i k el ht;simp only[RW]at he;subst he;exact C2 hT hA ht ho hv
     cases he
    cases he
   case min=>
    split at he
    ·rename_i x y hA;simp only[RW]at he;subst he;exact HZ hA ho hv
    cases he
   case max=>
    split at he
    ·rename_i x y hA;simp only[RW]at he;subst he;exact H9 hA ho hv
    cases he
 | slice t x lo hi mx=>
  rw[ho]at he;cases mx with
  | some m=>simp only[opE,reduceCtorEq]at he
  | none=>
   simp only[opE]at he;split at he
   ·rename_i el ht;split at he
    ·rename_i n hz;cases lo<;>cases hi<;>simp only[RW,reduceCtorEq]at he
     ·subst he;exact JD ht hz ho hv
     ·subst he;exact Lu ht hz ho hv
     subst he;exact Gw ht hz ho hv
    cases he
   cases he
 | _=>rw[ho]at he;simp only[opE,reduceCtorEq]at he
end
def evs(ρ:Nat->Option Value)(h:View):List E->Option (List Value)
 | []=>VC []
 | e::es=>match ev ρ h e,evs ρ h es with
  | some v,VC vs=>VC (v::vs)
  | _,_=>VD
def updF(ρ:Nat->Option Value)(d:Nat)(u:Value):Nat->Option Value:=λt=>if t=d then VC u else ρ t
def BW(k:E)(c:Nat):Bool:=match k with | .tmp t=>t == c | _=>VH
def E.subst(r:E)(d:Nat)(e:E):E:=
 match r with
 | .tmp t=>if t=d then e else .tmp t
 | .con v=>.con v
 | .un o x=>.un o (x.subst d e)
 | .bin o x y=>.bin o (x.subst d e) (y.subst d e)
 | .snoc x y=>.snoc (x.subst d e) (y.subst d e)
 | .ite k x y=>.ite (k.subst d e) (x.subst d e) (y.subst d e)
 | .gd k b x=>.gd (k.subst d e) b (x.subst d e)
def E.occ(r:E)(d:Nat):Bool:=
 match r with
 | .tmp t=>t == d
 | .con _=>VH
 | .un _ x=>x.occ d
 | .bin _ x y | .snoc x y=>x.occ d||y.occ d
 | .ite k _ _=>k.occ d
 | .gd k _ _=>k.occ d
def E.dz(r:E)(d c:Nat)(b:Bool)(e:E):E:=
 match r with
 | .tmp t=>if t=d then .gd (.tmp c) b e else .tmp t
 | .con v=>.con v
 | .un o x=>.un o (x.dz d c b e)
 | .bin o x y=>.bin o (x.dz d c b e) (y.dz d c b e)
 | .snoc x y=>.snoc (x.dz d c b e) (y.dz d c b e)
 | .ite k x y=>
  if BW k c then(if b then .ite k (x.subst d e) (y.dz d c b e) else .ite k (x.dz d c b e) (y.subst d e))
  else .ite (k.dz d c b e) (x.dz d c b e) (y.dz d c b e)
 | .gd k b' x=>if BW k c&&b' == b then .gd k b' (x.subst d e) else .gd (k.dz d c b e) b' (x.dz d c b e)
def E.occG(r:E)(d c:Nat)(b:Bool):Bool:=
 match r with
 | .tmp t=>t == d
 | .con _=>VH
 | .un _ x=>x.occG d c b
 | .bin _ x y | .snoc x y=>x.occG d c b||y.occG d c b
 | .ite k x y=>if BW k c then(if b then x.occ d else y.occ d) else k.occG d c b
 | .gd k b' x=>if BW k c&&b' == b then x.occ d else k.occG d c b
section
variable{ρ:Nat->Option Value}{h:View}{d c:Nat}{b:Bool}{e:E}{u:Value}
theorem lZ{k:E}(hk:BW k c=VG):k = .tmp c:=by cases k<;>simp[BW]at hk;subst hk;rfl
theorem fy(hu:ev ρ h e=VC u) : ∀r:E,ev ρ h (r.subst d e)=ev (updF ρ d u) h r
 | .tmp t=>by simp only[E.subst];split<;>simp_all [ev,updF]
 | .con v=>rfl
 | .un o x=>by simp only[E.subst,ev,fy hu x]
 | .bin o x y=>by simp only[E.subst,ev,fy hu x,fy hu y]
 | .snoc x y=>by simp only[E.subst,ev,fy hu x,fy hu y]
 | .ite k x y=>by simp only[E.subst,ev,fy hu k,fy hu x,fy hu y]
 | .gd k b x=>by simp only[E.subst,ev,fy hu k,fy hu x]
theorem xc(hu:ev ρ h (.gd (.tmp c) b e)=VC u)(hcd:c≠d)(r:E):ev ρ h (r.dz d c b e)=ev (updF ρ d u) h r:=by
 have hρ:updF ρ d u c=ρ c:=by simp[updF,hcd]
 induction r with
 | tmp t=>
  simp only[E.dz];split
  ·rename_i ht;rw[hu];simp[ev,updF,ht]
  rename_i ht;simp[ev,updF,ht]
 | con v=>rfl
 | un o x ih=>simp only[E.dz,ev,ih]
 | bin o x y ihx ihy=>simp only[E.dz,ev,ihx,ihy]
 | snoc x y ihx ihy=>simp only[E.dz,ev,ihx,ihy]
 | ite k x y ihk ihx ihy=>
  simp only[E.dz];split
  ·rename_i hk;obtain rfl:=lZ hk;split
   ·rename_i hb;simp only[ev,hρ];split
    ·rename_i hc;simp only[ev,hc,hb,if_true]at hu;exact fy hu x
    ·exact ihy
    rfl
   rename_i hb;simp only[ev,hρ];split
   ·exact ihx
   ·rename_i hc;simp only[ev,hc,hb]at hu;exact fy hu y
   rfl
  simp only[ev,ihk,ihx,ihy]
 | gd k b' x ihk ihx=>
  simp only[E.dz];split
  ·rename_i hk;simp only[Se,beq_iff_eq]at hk;obtain⟨hk,hb'⟩:=hk;obtain rfl:=lZ hk;simp only[ev,hρ,hb'];split
   ·rename_i hc;split
    ·rename_i hb;simp only[ev,hc,hb,if_true]at hu;exact fy hu x
    rfl
   ·rename_i hc;split
    ·rfl
    rename_i hb;simp only[ev,hc,hb]at hu;exact fy hu x
   ·rfl
   rfl
  simp only[ev,ihk,ihx]
theorem kH : ∀{r:E} {v:Value},r.occ d=VG->ev ρ h (r.subst d e)=VC v->∃u,ev ρ h e=VC u
 | .tmp t,v,ho,hv=>by simp[E.occ]at ho;simp[E.subst,ho]at hv;exact⟨v,hv⟩
 | .con _,_,ho,_=>by simp[E.occ]at ho
 | .un o x,v,ho,hv=>by simp only[E.occ]at ho;simp only[E.subst]at hv;obtain⟨u,hu,_⟩:=ld hv;exact kH ho hu
 | .bin o x y,v,ho,hv=>by
  simp only[E.occ,S1]at ho;simp only[E.subst]at hv;obtain⟨u,u',hu,hu',_⟩:=iB hv;rcases ho with ho | ho
  ·exact kH ho hu
  exact kH ho hu'
 | .snoc x y,v,ho,hv=>by
  simp only[E.occ,S1]at ho;simp only[E.subst,ev]at hv;split at hv
  ·rename_i hu hu';rcases ho with ho | ho
   ·exact kH ho hu
   exact kH ho hu'
  cases hv
 | .ite k x y,v,ho,hv=>by
  simp only[E.occ]at ho;simp only[E.subst,ev]at hv;split at hv
  ·rename_i hu;exact kH ho hu
  ·rename_i hu;exact kH ho hu
  cases hv
 | .gd k b x,v,ho,hv=>by
  simp only[E.occ]at ho;simp only[E.subst,ev]at hv;split at hv
  ·rename_i hu;exact kH ho hu
  ·rename_i hu;exact kH ho hu
  ·rename_i hu;exact kH ho hu
  cases hv
theorem yQ(hc:ρ c=VC (.bool b)):ev ρ h (.gd (.tmp c) b e)=ev ρ h e:=by cases b<;>simp[ev,hc]
theorem lq(hc:ρ c=VC (.bool b)) : ∀{r:E} {v:Value},r.occG d c b=VG->ev ρ h (r.dz d c b e)=VC v->∃u,ev ρ h e=VC u
 | .tmp t,v,ho,hv=>by simp[E.occG]at ho;simp only[E.dz,ho,if_true,yQ hc]at hv;exact⟨v,hv⟩
 | .con _,_,ho,_=>by simp[E.occG]at ho
 | .un o x,v,ho,hv=>by simp only[E.occG]at ho;simp only[E.dz]at hv;obtain⟨u,hu,_⟩:=ld hv;exact lq hc ho hu
 | .bin o x y,v,ho,hv=>by
  simp only[E.occG,S1]at ho;simp only[E.dz]at hv;obtain⟨u,u',hu,hu',_⟩:=iB hv;rcases ho with ho | ho
  ·exact lq hc ho hu
  exact lq hc ho hu'
 | .snoc x y,v,ho,hv=>by
  simp only[E.occG,S1]at ho;simp only[E.dz,ev]at hv;split at hv
  ·rename_i hu hu';rcases ho with ho | ho
   ·exact lq hc ho hu
   exact lq hc ho hu'
  cases hv
 | .ite k x y,v,ho,hv=>by
  simp only[E.occG]at ho;simp only[E.dz]at hv;split at ho
  ·rename_i hk;rw[if_pos hk]at hv;obtain rfl:=lZ hk;cases b
   ·simp only[Ts,if_false]at ho hv;simp only[ev,hc]at hv;exact kH ho hv
   simp only[if_true]at ho hv;simp only[ev,hc]at hv;exact kH ho hv
  rename_i hk;rw[if_neg hk]at hv;simp only[ev]at hv;split at hv
  ·rename_i hu;exact lq hc ho hu
  ·rename_i hu;exact lq hc ho hu
  cases hv
 | .gd k b' x,v,ho,hv=>by
  simp only[E.occG]at ho;simp only[E.dz]at hv;split at ho
  ·rename_i hk;rw[if_pos hk]at hv;simp only[Se,beq_iff_eq]at hk;obtain⟨hk,rfl⟩:=hk;obtain rfl:=lZ hk;rw[yQ hc]at hv;exact kH ho hv
  rename_i hk;rw[if_neg hk]at hv;simp only[ev]at hv;split at hv
  ·rename_i hu;exact lq hc ho hu
  ·rename_i hu;exact lq hc ho hu
  ·rename_i hu;exact lq hc ho hu
  cases hv
theorem gS(hcd:c≠d) : ∀{r:E} {v:Value},r.occG d c b=VG->ev ρ h (r.dz d c b e)=VC v->∃u,ev ρ h (.tmp c)=VC u
 | .tmp t,v,ho,hv=>by
  simp[E.occG]at ho;simp only[E.dz,ho,if_true]at hv;cases hc:ρ c with
  | none=>simp[ev,hc]at hv
  | some u=>exact⟨u,hc⟩
 | .con _,_,ho,_=>by simp[E.occG]at ho
 | .un o x,v,ho,hv=>by simp only[E.occG]at ho;simp only[E.dz]at hv;obtain⟨u,hu,_⟩:=ld hv;exact gS hcd ho hu
 | .bin o x y,v,ho,hv=>by
  simp only[E.occG,S1]at ho;simp only[E.dz]at hv;obtain⟨u,u',hu,hu',_⟩:=iB hv;rcases ho with ho | ho
  ·exact gS hcd ho hu
  exact gS hcd ho hu'
 | .snoc x y,v,ho,hv=>by
  simp only[E.occG,S1]at ho;simp only[E.dz,ev]at hv;split at hv
  ·rename_i hu hu';rcases ho with ho | ho
   ·exact gS hcd ho hu
   exact gS hcd ho hu'
  cases hv
 | .ite k x y,v,ho,hv=>by
  simp only[E.occG]at ho;simp only[E.dz]at hv;split at ho
  ·rename_i hk;rw[if_pos hk]at hv;obtain rfl:=lZ hk;cases hc:ρ c with
   | none=>cases b<;>simp[ev,hc]at hv
   | some u=>exact⟨u,hc⟩
  rename_i hk;rw[if_neg hk]at hv;simp only[ev]at hv;split at hv
  ·rename_i hu;exact gS hcd ho hu
  ·rename_i hu;exact gS hcd ho hu
  cases hv
 | .gd k b' x,v,ho,hv=>by
  simp only[E.occG]at ho;simp only[E.dz]at hv;split at ho
  ·rename_i hk;rw[if_pos hk]at hv;simp only[Se,beq_iff_eq]at hk;obtain⟨hk,rfl⟩:=hk;obtain rfl:=lZ hk;cases hc:ρ c with
   | none=>simp[ev,hc]at hv
   | some u=>exact⟨u,hc⟩
  rename_i hk;rw[if_neg hk]at hv;simp only[ev]at hv;split at hv
  ·rename_i hu;exact gS hcd ho hu
  ·rename_i hu;exact gS hcd ho hu
  ·rename_i hu;exact gS hcd ho hu
  cases hv
theorem G3 : ∀{l:List E} {vs:List Value},evs ρ h l=VC vs->vs.length=l.length
 | [],vs,hv=>by simp[evs]at hv;subst hv;rfl
 | e::l,vs,hv=>by
  simp only[evs]at hv;split at hv
  ·rename_i hl;simp only[RW]at hv;subst hv;simp[G3 hl]
  cases hv
theorem vE{p:E->Bool}{f:E->E}(hp : ∀r v,p r=VG->ev ρ h (f r)=VC v->∃u,ev ρ h e=VC u) :
  ∀{l:List E} {vs:List Value},l.any p=VG->evs ρ h (l.map f)=VC vs->∃u,ev ρ h e=VC u
 | [],_,ha,_=>by simp at ha
 | r::l,vs,ha,hv=>by
  simp only[S8,evs]at hv;split at hv
  ·rename_i h1 h2;simp only[List.any_cons,S1]at ha;rcases ha with ha | ha
   ·exact hp _ _ ha h1
   exact vE hp ha h2
  cases hv
theorem tC{f:E->E}{ρ':Nat->Option Value}(hf : ∀r,ev ρ h (f r)=ev ρ' h r) : ∀l:List E,evs ρ h (l.map f)=evs ρ' h l
 | []=>rfl
 | r::l=>by simp only[S8,evs,hf r,tC hf l]
theorem uO : ∀{l m:List E} {vs:List Value},evs ρ h (l++m)=VC vs->∃us ws,evs ρ h l=VC us/\evs ρ h m=VC ws/\vs=us++ws
 | [],m,vs,hv=>⟨[],vs,rfl,hv,rfl⟩
 | e::l,m,vs,hv=>by
  simp only[UO,evs]at hv;split at hv
  ·rename_i v1 vs1 h1 h2;simp only[RW]at hv;subst hv;obtain⟨us,ws,hu,hw,rfl⟩:=uO h2;exact⟨v1::us,ws,by simp[evs,h1,hu],hw,rfl⟩
  cases hv
end
def wO(P:Program)(N:Nat)(ops0:Array Oper)(o:Oper)(r:List E):Option (List E):=
 match o.dst,opE P o.op with
 | some d,VC e=>
  if d<N then
   match o.guard with
   | none=>if r.any (·.occ d) then VC (r.map (·.subst d e)) else VC ((r++[E.tmp d]).map (λx=>x.subst d e))
   | some (j,b)=>match (ops0[j]?).bind (·.dst)with
    | some c=>if c=d then VD else if r.any (·.occG d c b) then VC (r.map (·.dz d c b e)) else VC ((r++[E.tmp d]).map (λx=>x.dz d c b e))
    | none=>VD
  else VD
 | _,_=>VD
def back(P:Program)(N:Nat)(ops0:Array Oper):List Oper->List E->Option (List E)
 | [],r=>VC r
 | o::rest,r=>match back P N ops0 rest r with
  | some r1=>wO P N ops0 o r1
  | none=>VD
def xM(P:Program)(o:Oper):Bool:=match opE P o.op with | some e=>!e.reads | none=>VH
variable{P:Program}
theorem xW{o:Oper}{e:E}(he:opE P o.op=VC e)(hp:xM P o=VG):e.reads=false:=by simpa[xM,he]using hp
def iX(P:Program)(ops0:Array Oper)(H:View)(o:Oper)(v:Value)(a:Act):Prop:=
 (Region.wanted o (yielded ops0 a.tmps)=VG/\(∀w:World,H.sub (vw w.heap)->(execOp a.eval o).run P w = .ok (.value v) w)/\(xM P o=VG->∀w:World,(execOp a.eval o).run P w = .ok (.value v) w))\/
 (Region.wanted o (yielded ops0 a.tmps)=VH/\v=undef)
def QRun(P:Program)(ops0:Array Oper)(H:View):List Oper->Act->Act->Prop
 | [],a,a'=>a'=a
 | o::rest,a,a'=>∃v,iX P ops0 H o v a/\QRun P ops0 H rest (a.put o.dst v) a'
theorem Ie{a:Act}{d:Nat}{v:Value}(hd:d<a.tmps.size):cA (a.put (VC d) v)=updF (cA a) d v:=by
 funext t;simp only[cA,Act.put,updF,Array.getElem?_setIfInBounds];split
 ·rename_i h;subst h;simp
 rename_i h;rw[if_neg (Ne.symm h)]
variable{N:Nat}{ops0:Array Oper}
theorem zL{o:Oper}{r r':List E}{a:Act}{vs:List Value}(hN:a.tmps.size=N)(hb:wO P N ops0 o r=VC r')(hv:evs (cA a) H r'=VC vs):
  ∃u,iX P ops0 H o u a/\(a.put o.dst u).tmps.size=N/\∃us ws,evs (cA (a.put o.dst u)) H r=VC us/\vs=us++ws:=by
 unfold wO at hb;cases hd:o.dst with
 | none=>simp[hd]at hb
 | some d=>
  cases he:opE P o.op with
  | none=>simp[hd,he]at hb
  | some e=>
   simp only[hd,he]at hb;split at hb;case isFalse=>cases hb
   rename_i hlt;have hsz : ∀u,(a.put (VC d) u).tmps.size=N:=λu=>by simp[Act.put,hN]
   have hput : ∀u,cA (a.put (VC d) u)=updF (cA a) d u:=λu=>Ie (by rw[hN];exact hlt);cases hg:o.guard with
   | none=>
    simp only[hg]at hb;have hw:Region.wanted o (yielded ops0 a.tmps)=true:=by simp[Region.wanted,hg]
    have key : ∃u,ev (cA a) H e=VC u/\∃us ws,evs (updF (cA a) d u) H r=VC us/\vs=us++ws:=by
     split at hb
     ·rename_i hany;simp only[RW]at hb;subst hb;obtain⟨u,hu⟩:=vE (e:=e) (λr v h1 h2=>kH h1 h2) hany hv;refine⟨u,hu,vs,[],?_,by simp⟩;rw[tC (fy hu)]at hv;exact hv
     simp only[RW]at hb;subst hb;obtain⟨u,hu⟩:=vE (e:=e) (p:=(·.occ d)) (λr v h1 h2=>kH h1 h2) (by simp[E.occ]) hv;rw[tC (fy hu)]at hv;obtain⟨us,ws,h1,h2,h3⟩:=uO hv;exact⟨u,hu,us,ws,h1,h3⟩
    obtain⟨u,hu,us,ws,h1,h2⟩:=key;exact⟨u,.inl ⟨hw,λw hw'=>tu he (gY hw' hu),λhp w=>tu he (by rw[jd (xW he hp) (h':=H)];exact hu)⟩,hsz u,us,ws,by rw[hput];exact h1,h2⟩
   | some jb=>
    obtain⟨j,b⟩:=jb;simp only[hg]at hb;split at hb;case h_2=>cases hb
    rename_i c hc;split at hb;case isTrue=>cases hb
    rename_i hcd;have hwanted:Region.wanted o (yielded ops0 a.tmps)=VG↔cA a c=VC (.bool b):=by
     simp only[Region.wanted,hg,yielded,hc,SA,cA,beq_iff_eq];split
     ·rename_i b' hb';rw[hb'];simp
     rename_i hne;constructor
     ·intro h;cases h
     intro h;exact absurd h (hne b)
    have gval : ∀v,ev (cA a) H (.gd (.tmp c) b e)=VC v->iX P ops0 H o v a:=by
     intro v hv';by_cases hw:Region.wanted o (yielded ops0 a.tmps)=VG
     ·have h1:=hwanted.1 hw;rw[yQ h1]at hv';exact .inl ⟨hw,λw hw'=>tu he (gY hw' hv'),λhp w=>tu he (by rw[jd (xW he hp) (h':=H)];exact hv')⟩
     refine .inr ⟨by simpa using hw,?_⟩;have h1:cA a c≠VC (.bool b):=λh=>hw (hwanted.2 h);simp only[ev]at hv';split at hv'
     ·rename_i hcc;cases b
      ·simpa using hv'.symm
      exact absurd hcc h1
     ·rename_i hcc;cases b
      ·exact absurd hcc h1
      simpa using hv'.symm
     ·simpa using hv'.symm
     cases hv'
    have key : ∃u,ev (cA a) H (.gd (.tmp c) b e)=VC u/\∃us ws,evs (updF (cA a) d u) H r=VC us/\vs=us++ws:=by
     split at hb
     ·rename_i hany;simp only[RW]at hb;subst hb;by_cases hw:cA a c=VC (.bool b)
      ·obtain⟨u,hu⟩:=vE (e:=e) (λr v h1 h2=>lq hw h1 h2) hany hv;have hu':ev (cA a) H (.gd (.tmp c) b e)=VC u:=by rw[yQ hw];exact hu
       rw[tC (xc hu' hcd)]at hv;exact⟨u,hu',vs,[],hv,by simp⟩
      cases hcv:cA a c with
      | none=>exfalso;obtain⟨u,hu⟩:=vE (e:=.tmp c) (p:=(·.occG d c b)) (f:=(·.dz d c b e)) (λr v h1 h2=>gS hcd h1 h2) hany hv;simp only[ev]at hu;rw[hcv]at hu;cases hu
      | some cv=>
       have hu':ev (cA a) H (.gd (.tmp c) b e)=VC undef:=by
        simp only[ev,hcv];split
        ·rename_i h1;simp only[RW]at h1;subst h1;cases b
         ·simp
         exact absurd hcv hw
        ·rename_i h1;simp only[RW]at h1;subst h1;cases b
         ·exact absurd hcv hw
         simp
        ·rfl
        rename_i h1;cases h1
       rw[tC (xc hu' hcd)]at hv;exact⟨undef,hu',vs,[],hv,by simp⟩
     simp only[RW]at hb;subst hb;rw[TP]at hv;obtain⟨us,ws,h1,h2,h3⟩:=uO hv;simp only[S8,List.map_nil,E.dz,if_true,evs]at h2;split at h2
     ·rename_i u _ hu _;rw[tC (xc hu hcd)]at h1;exact⟨u,hu,us,ws,h1,h3⟩
     cases h2
    obtain⟨u,hu,us,ws,h1,h2⟩:=key;exact⟨u,gval u hu,hsz u,us,ws,by rw[hput];exact h1,h2⟩
abbrev Env:=List (Nat × Value)
def look:Env->Nat->Option Value
 | [],_=>VD
 | (k,v)::r,t=>if k=t then VC v else look r t
def setE(ρ:Env)(t:Nat)(v:Value):Env:=
 match ρ with
 | []=>[(t,v)]
 | (k,u)::r=>if k=t then(t,v)::r else if t<k then(t,v)::(k,u)::r else(k,u)::setE r t v
def dC(ρ:Env):List (Nat × Value)->Env
 | []=>ρ
 | (t,v)::r=>dC (setE ρ t v) r
def cK(ρ:Env)(ts:List Nat):Env:=ρ.filter λp=>!ts.contains p.1
def putE(ρ:Env)(dst:Option Nat)(keep:Bool)(v:Value):Env:=
 match dst with
 | some d=>if keep then setE ρ d v else cK ρ [d]
 | none=>ρ
theorem af(ρ:Env)(t:Nat)(v:Value)(s:Nat):look (setE ρ t v) s=if t=s then VC v else look ρ s:=by
 induction ρ with
 | nil=>simp[setE,look]
 | cons p r ih=>
  obtain⟨k,u⟩:=p;simp only[setE];split
  ·rename_i h;subst h;simp only[look];split<;>rfl
  rename_i h;split
  ·simp only[look]
  simp only[look,ih];by_cases h1:k=s
  ·subst h1;simp[Ne.symm h]
  simp[h1]
theorem oJ(ρ:Env)(ts:List Nat)(s:Nat)(v:Value)(h:look (cK ρ ts) s=VC v):s∉ts/\look ρ s=VC v:=by
 induction ρ with
 | nil=>simp[cK,look]at h
 | cons p r ih=>
  obtain⟨k,u⟩:=p;simp only[cK,UP]at h;split at h
  ·rename_i hk;simp only[look]at h ⊢;split at h
   ·rename_i e;subst e;exact⟨by simpa using hk,by simpa using h⟩
   rename_i e;have:=ih h;exact⟨this.1,by rw[if_neg e];exact this.2⟩
  rename_i hk;have:=ih h;refine⟨this.1,?_⟩;simp only[look];split
  ·rename_i e;subst e;exact absurd (by simpa using hk) this.1
  exact this.2
theorem y5 : ∀(vs:List (Nat × Value)) (ρ:Env) (s:Nat) (v:Value),look (dC ρ vs) s=VC v->(s,v)∈vs\/look ρ s=VC v
 | [],_,_,_,h=>.inr h
 | (t,u)::r,ρ,s,v,h=>by
  rcases y5 r (setE ρ t u) s v h with h2 | h2
  ·exact .inl (Sa _ h2)
  rw[af]at h2;split at h2
  ·rename_i e;cases h2;rw[<-e];exact .inl (Sg ..)
  exact .inr h2
def Sat(ρ:Env)(a:Act):Prop:=∀t v,look ρ t=VC v->a.tmps[t]? = VC v
theorem jt{ρ ρ':Nat->Option Value}{H:View}(hρ : ∀t v,ρ t=VC v->ρ' t=VC v) : ∀{e:E} {v:Value},ev ρ H e=VC v->ev ρ' H e=VC v
 | .tmp t,v,h=>hρ t v h
 | .con _,_,h=>h
 | .un o x,v,h=>by obtain⟨u,hu,h⟩:=ld h;simp only[ev,jt hρ hu];exact h
 | .bin o x y,v,h=>by obtain⟨u,u',hu,hu',h⟩:=iB h;simp only[ev,jt hρ hu,jt hρ hu'];exact h
 | .snoc x y,v,h=>by
  simp only[ev]at h ⊢;split at h
  ·rename_i u u' hu hu';simp only[jt hρ hu,jt hρ hu'];exact h
  cases h
 | .ite c x y,v,h=>by
  simp only[ev]at h ⊢;split at h
  ·rename_i hu;simp only[jt hρ hu];exact jt hρ h
  ·rename_i hu;simp only[jt hρ hu];exact jt hρ h
  cases h
 | .gd c b x,v,h=>by
  simp only[ev]at h ⊢;split at h
  ·rename_i hu;simp only[jt hρ hu];split at h
   ·rename_i hb;simp only[hb,if_true];exact jt hρ h
   rename_i hb;simp only[hb];exact h
  ·rename_i hu;simp only[jt hρ hu];split at h
   ·rename_i hb;simp only[hb,if_true];exact h
   rename_i hb;simp only[hb];exact jt hρ h
  ·rename_i u h1 h2 hu;simp only[jt hρ hu];exact h
  cases h
def evP(ρ:Nat->Option Value)(H:View):List (Nat × E)->Option (List (Nat × Value))
 | []=>VC []
 | (t,e)::r=>match ev ρ H e,evP ρ H r with
  | some v,VC vs=>VC ((t,v)::vs)
  | _,_=>VD
def okE(ρ:Nat->Option Value)(H:View):List E->Prop
 | []=>True
 | e::r=>(∃v,ev ρ H e=VC v)/\okE ρ H r
theorem Cu{ρ:Nat->Option Value}{H:View} : ∀{ts:List Nat} {es:List E} {vs:List (Nat × Value)},ts.length<=es.length->evP ρ H (ts.zip es)=VC vs->
  evs ρ H (es.take ts.length)=VC (vs.map (·.2))/\vs.map (·.1)=ts
 | [],es,vs,_,h=>by simp[evP]at h;subst h;simp[evs]
 | t::ts,[],vs,hl,_=>by simp at hl
 | t::ts,e::es,vs,hl,h=>by
  simp only[Uz,evP]at h;split at h
  ·rename_i v vs' hv hvs;simp only[RW]at h;subst h;obtain⟨h1,h2⟩:=Cu (by simpa using hl) hvs;simp[evs,hv,h1,h2]
  cases h
theorem G6{ρ:Nat->Option Value}{H:View} : ∀{es:List E},okE ρ H es->∃vs,evs ρ H es=VC vs
 | [],_=>⟨[],rfl⟩
 | e::es,h=>by obtain⟨⟨v,hv⟩,h⟩:=h;obtain⟨vs,hvs⟩:=G6 h;exact⟨v::vs,by simp[evs,hv,hvs]⟩
theorem Hu{ρ:Nat->Option Value}{H:View} : ∀{l m:List E} {us ws:List Value},evs ρ H l=VC us->evs ρ H m=VC ws->evs ρ H (l++m)=VC (us++ws)
 | [],m,us,ws,h1,h2=>by simp[evs]at h1;subst h1;simpa using h2
 | e::l,m,us,ws,h1,h2=>by
  simp only[evs]at h1;split at h1
  ·rename_i v vs hv hvs;simp only[RW]at h1;subst h1;simp only[UO,evs,hv,Hu hvs h2]
  cases h1
theorem tz{ρ ρ':Nat->Option Value}{H:View}(hρ : ∀t v,ρ t=VC v->ρ' t=VC v) : ∀{l:List E} {us:List Value},evs ρ H l=VC us->evs ρ' H l=VC us
 | [],us,h=>h
 | e::l,us,h=>by
  simp only[evs]at h;split at h
  ·rename_i v vs hv hvs;simp only[evs,jt hρ hv,tz hρ hvs];exact h
  cases h
theorem Ff{a:Act}{H:View} : ∀{ts:List Nat} {vs:List (Nat × Value)},vs.map (·.1)=ts->evs (cA a) H (ts.map E.tmp)=VC (vs.map (·.2))->∀p∈vs,a.tmps[p.1]? = VC p.2
 | [],vs,h,_,p,hp=>by cases vs<;>simp at h;cases hp
 | t::ts,[],h,_,p,hp=>by cases hp
 | t::ts,q::vs,h,he,p,hp=>by
  simp only[S8,List.cons.injEq]at h;obtain⟨h0,h⟩:=h;simp only[S8,evs]at he;split at he
  ·rename_i v vs' hv hvs;simp only[RW,List.cons.injEq]at he;rcases Sp.1 hp with rfl | hp
   ·simp only[ev,cA]at hv;rw[h0,hv,he.1]
   exact Ff h (by rw[hvs,he.2]) p hp
  cases he
theorem DV : ∀{us:List (Nat × Value)} {t:Nat} {v:Value},look us t=VC v->(t,v)∈us
 | [],_,_,h=>by simp[look]at h
 | (k,u)::r,t,v,h=>by
  simp only[look]at h;split at h
  ·rename_i e;subst e;simp only[RW]at h;subst h;exact Sg ..
  exact Sa _ (DV h)
theorem AS : ∀{us:List (Nat × Value)} {t:Nat},t∈us.map (·.1)->∃v,look us t=VC v
 | [],_,h=>by simp at h
 | (k,u)::r,t,h=>by
  simp only[look];split
  ·exact⟨u,rfl⟩
  rename_i e;simp only[S8,Sp]at h;rcases h with h | h
  ·exact absurd h.symm e
  exact AS h
theorem wN{P:Program}{N:Nat}{ops0:Array Oper} : ∀{qs:List Oper} {r r':List E},back P N ops0 qs r=VC r'->r.length<=r'.length
 | [],r,r',h=>by simp[back]at h;subst h;exact RX _
 | o::qs,r,r',h=>by
  simp only[back]at h;split at h
  ·rename_i r1 h1;have:=wN h1;refine St this ?_;unfold wO at h;repeat' (split at h)
   all_goals first
    | (simp only[RW]at h;subst h;simp)
    | cases h
  cases h
theorem zO{P:Program}{N:Nat}{ops0:Array Oper}{H:View} : ∀{qs:List Oper} {r r':List E} {a:Act} {vs:List Value},
  back P N ops0 qs r=VC r'->a.tmps.size=N->evs (cA a) H r'=VC vs->
  ∃a',QRun P ops0 H qs a a'/\a'.tmps.size=N/\a'.defers=a.defers/\(∀t,(∀o∈qs,o.dst≠VC t)->a'.tmps[t]? = a.tmps[t]?)/\
   ∃us ws,evs (cA a') H r=VC us/\vs=us++ws
 | [],r,r',a,vs,h,hN,hv=>by simp[back]at h;subst h;exact⟨a,rfl,hN,rfl,λ_ _=>rfl,vs,[],hv,by simp⟩
 | o::qs,r,r',a,vs,h,hN,hv=>by
  simp only[back]at h;split at h
  ·rename_i r1 h1;obtain⟨u,hy,hsz,us,ws,hus,rfl⟩:=zL hN h hv;obtain⟨a',hq,hsz',hd,hfr,us',ws',hus',rfl⟩:=zO h1 hsz hus;refine⟨a',⟨u,hy,hq⟩,hsz',?_,?_,us',ws'++ws,hus',by simp⟩
   ·rw[hd];cases o.dst<;>rfl
   intro t ht;rw[hfr t (λo' ho'=>ht o' (Sa _ ho'))];have:=ht o (Sg ..);cases hdst:o.dst with
   | none=>rfl
   | some d=>have hne:d≠t:=λe=>this (by rw[hdst,e]);simp[Act.put,S3 hne]
  cases h
def dstsOf(qs:List Oper):List Nat:=qs.filterMap (·.dst)
variable{ρ:Env}
theorem uV{qs:List Oper}{ts:List Nat}{es:List E}{a:Act}{us:List (Nat × Value)}(hb:back P N ops0 qs (ts.map E.tmp)=VC es)(hN:a.tmps.size=N)(hρ:Sat ρ a)(hv:evP (look ρ) H (ts.zip es)=VC us)(hc:okE (look ρ) H (es.drop ts.length)):
  ∃a',QRun P ops0 H qs a a'/\a'.tmps.size=N/\a'.defers=a.defers/\Sat (cK ρ (dstsOf qs)) a'/\(∀p∈us,a'.tmps[p.1]? = VC p.2):=by
 have hl:ts.length<=es.length:=by simpa using wN hb
 obtain⟨h1,h2⟩:=Cu hl hv;obtain⟨ws,h3⟩:=G6 hc;have h4:=Hu h1 h3;rw[TY]at h4;have hs : ∀t v,look ρ t=VC v->cA a t=VC v:=λt v h=>hρ t v h;obtain⟨a',hq,hsz,hd,hfr,us',ws',hus,he⟩:=zO hb hN (tz hs h4);refine⟨a',hq,hsz,hd,?_,?_⟩
 ·intro t v h;obtain⟨hk,hl⟩:=oJ _ _ _ _ h;rw[hfr t (λo ho hdst=>hk (Ue.2 ⟨o,ho,hdst⟩))];exact hρ t v hl
 have e1:us'=us.map (·.2):=by
  have hlen:us'.length=(us.map (·.2)).length:=by have:=G3 hus;rw[this];simp[<-h2]
  have:=congrArg (List.take us'.length) he;rw[UC,hlen,UC]at this;exact this.symm
 rw[e1]at hus;exact Ff h2 hus
theorem Aw{a:Act}{vs:List (Nat × Value)}(h:Sat ρ a)(hv : ∀p∈vs,a.tmps[p.1]? = VC p.2):Sat (dC ρ vs) a:=by
 intro t v hl;rcases y5 vs ρ t v hl with h1 | h1
 ·exact hv _ h1
 exact h t v h1
theorem DD{a:Act}{ts:List Nat}(h:Sat ρ a):Sat (cK ρ ts) a:=λt v hl=>h t v (oJ _ _ _ _ hl).2
theorem GQ{a:Act}{dst:Option Nat}{keep:Bool}{v:Value}(h:Sat ρ a)(hd : ∀d,dst=VC d->d<a.tmps.size):Sat (putE ρ dst keep v) (a.put dst v):=by
 cases dst with
 | none=>exact h
 | some d=>
  have hsz:=hd d rfl;intro t u hl;simp only[putE]at hl;split at hl
  ·rw[af]at hl;split at hl
   ·rename_i e;subst e;simp only[RW]at hl;subst hl;simp[Act.put,hsz]
   rename_i e;simp only[Act.put,S3 e];exact h t u hl
  obtain⟨h1,h2⟩:=oJ _ _ _ _ hl;have hne:d≠t:=λe=>h1 (by simp[e]);simp only[Act.put,S3 hne];exact h t u h2
def Fw(r:Option Nat):Fence:={ Fence.wide with round:=r }
structure Same(w w':World):Prop where
 os:w'.os=w.os
 output:w'.output=w.output
 tape:w'.tape=w.tape
 size:w.heap.size<=w'.heap.size
 defs : ∀b:Nat,w.heap[b]? = VC (.deferred (VC []))->w'.heap[b]? = VC (.deferred (VC []))
theorem Same.refl(w:World):Same w w:=⟨rfl,rfl,rfl,RX _,λ_ h=>h⟩
theorem Same.trans{a b c:World}(h:Same a b)(k:Same b c):Same a c:=⟨k.os.trans h.os,k.output.trans h.output,k.tape.trans h.tape,St h.size k.size,λi e=>k.defs i (h.defs i e)⟩
theorem Same.drawn{w:World}{n:Nat}:Same w { w with drawn:=n }:=⟨rfl,rfl,rfl,RX _,λ_ h=>h⟩
theorem Same.pC{w w':World}(h1:w'.os=w.os)(h2:w'.output=w.output)(h3:w'.tape=w.tape)(hs:w.heap.size<=w'.heap.size){g:Nat}{o:Obj}(hg:w.heap[g]? = VC o)(ho:o≠.deferred (VC []))(hk : ∀k,k<w.heap.size->k≠g->w'.heap[k]? = w.heap[k]?):Same w w':=
 ⟨h1,h2,h3,hs,λb hb=>by
  have hne:b≠g:=λe=>by rw[e,hg]at hb;exact ho (Option.some.inj hb)
  rw[hk b (Sj.1 hb).1 hne];exact hb⟩
theorem Same.CV{w w':World}(h1:w'.os=w.os)(h2:w'.output=w.output)(h3:w'.tape=w.tape)(hs:w.heap.size<=w'.heap.size)(hk : ∀k,k<w.heap.size->w'.heap[k]? = w.heap[k]?):Same w w':=
 ⟨h1,h2,h3,hs,λb hb=>by rw[hk b (Sj.1 hb).1];exact hb⟩
class OP where
 op:List PanicEntry->Heap->Prop
class PP where
 kp:List PanicEntry->Heap->Prop
 /-- What stands in the cA wherever it may. -/
 fx:Env->Prop
instance (priority:=low) noPP:PP:=⟨λ_ _=>False,λ_=>True⟩
instance (priority:=low) noOP:OP:=⟨λ_ _=>False⟩
def iS[po:OP](P:Program)(s:Sem Next)(h:Heap)(K:Value->Heap->Prop):Prop:=
 ∀w:World,w.heap=h->∀(r:Option Nat) (o:Oper) (a:Act) (K':Act->World->Prop) (Q':Exit->Act->World->Prop),
  (∀v w',K v w'.heap->Same w w'->K' (a.put o.dst v) w')->(∀ch w',po.op ch w'.heap->Same w w'->Q' (.panic ch) a w')->o.uponIn (Fw r) 0 P a K' Q' (s.run P w)
def asg(us:List (Nat × Value)):Operand->Value
 | .tmp t=>(look us t).getD undef
 | .const v=>v
 | .global g=>VF (VC ⟨g,0,VD⟩)
 | .func f=>.func (.func f) #[] #[]
def bQ(op : Op)(ty : TypeId)(us : List (Nat × Value)) : Sem Next := execOp (asg us) { dst := VD, op, type := ty, pos := "", after := #[], guard := VD }
def ez:Op->Bool
 | .select .. | .defer _=>VH
 | _=>VG
def tmpsOf(o:Oper):List Nat:=o.op.operands.toList.filterMap fun | .tmp t=>VC t | _=>VD
theorem Mb{o:Oper}{a:Act}{us:List (Nat × Value)}(hp:ez o.op=VG)(ht:us.map (·.1)=tmpsOf o)(hv : ∀p∈us,a.tmps[p.1]? = VC p.2):
  execOp a.eval o=bQ o.op o.type us:=by
 have h1 : ∀x∈o.op.operands,a.eval x=asg us x:=by
  intro x hx;cases x with
  | tmp t=>
   have hm:t∈us.map (·.1):=by rw[ht];exact Ue.2 ⟨.tmp t,by simpa using hx,rfl⟩
   obtain⟨v,hl⟩:=AS hm;have:=hv _ (DV hl);simp only at this;simp[asg,hl,Act.eval,this]
  | const v=>rfl
  | global g=>rfl
  | func f=>rfl
 rw[execOp_congr o (by intro cs b e;simp[ez,e]at hp) h1];rfl
theorem BP{po:OP}{o:Oper}{a:Act}{us:List (Nat × Value)}{w:World}{r:Option Nat}{K:Value->Heap->Prop}{K':Act->World->Prop}{Q':Exit->Act->World->Prop}(hp:ez o.op=VG)(ht:us.map (·.1)=tmpsOf o)(hv : ∀p∈us,a.tmps[p.1]? = VC p.2)(hr:iS P (bQ o.op o.type us) w.heap K)(hK : ∀v w',K v w'.heap->Same w w'->K' (a.put o.dst v) w')(hQ : ∀ch w',po.op ch w'.heap->Same w w'->Q' (.panic ch) a w'):o.wpIn (Fw r) 0 P a w K' Q':=by refine⟨λ_ _=>trivial,?_⟩;rw[Oper.semAt_eq _ _ _ (by intro c e;simp[ez,e]at hp),Mb hp ht hv];exact hr w rfl r o a K' Q' hK hQ
inductive Reg where
 | fin (kill:List Nat) (sets:List (Nat × E)) (chk:List E)
 | loud (kill:List Nat) (sets args:List (Nat × E)) (grd:Option (E × Bool)) (chk:List E) (tail:Bool) (op:Op) (ty:TypeId) (dst:Option Nat) (keep:Bool) (next:Reg)
 | both (x y:Reg)
 deriving Inhabited
def part(m:Option View)(h:Heap):View:=m.getD (vw h)
def qK(S:View->View->Prop)(m:Option View)(h:Heap):Prop:=∀H,m=VC H->S H (vw h)
def keeps(m:Option View)(h:Heap):Prop:=qK View.le m h
def nothing:View:=λ_=>VD
abbrev opAt[pp:PP](m:Option View):OP:=⟨λch h=>(m.isNone=VG\/∀ρ,pp.fx ρ)/\pp.kp ch h⟩
abbrev ppD(pp:PP):PP:=⟨λch h=>(∀ρ,pp.fx ρ)/\pp.kp ch h,λ_=>True⟩
def dd[pp:PP](S:View->View->Prop)(P:Program)(m:Option View)(r:Reg)(Q:Env->Heap->Prop)(ρ:Env)(h:Heap):Prop:=
 match r with
 | .fin kill sets chk=>∃vs,evP (look ρ) (part m h) sets=VC vs/\okE (look ρ) (part m h) chk/\Q (dC (cK ρ kill) vs) h
 | .loud kill sets args grd chk tail op ty dst keep next=>
  ∃vs us,evP (look ρ) (part m h) sets=VC vs/\evP (look ρ) (part m h) args=VC us/\okE (look ρ) (part m h) chk/\pp.fx (dC (cK ρ kill) vs)/\
   match grd with
   | none=>@iS (opAt m) P (bQ op ty us) h λv h'=>qK S (if tail then VD else m) h'/\dd S P (if tail then m.map (λ_=>nothing) else m) next Q (putE (dC (cK ρ kill) vs) dst keep v) h'
   | some (g,b)=>∃gv,ev (look ρ) (part m h) g=VC gv/\
    (gv = .bool b->@iS (opAt m) P (bQ op ty us) h λv h'=>qK S (if tail then VD else m) h'/\dd S P (if tail then m.map (λ_=>nothing) else m) next Q (putE (dC (cK ρ kill) vs) dst keep v) h')/\
    (gv≠.bool b->dd S P (if tail then m.map (λ_=>nothing) else m) next Q (putE (dC (cK ρ kill) vs) dst keep undef) h)
 | .both x y=>dd S P m x Q ρ h/\dd S P m y Q ρ h
def eZ[pp:PP](P:Program)(m:Option View)(r:Reg)(Q:Env->Heap->Prop)(ρ:Env)(h:Heap):Prop:=dd View.le P m r Q ρ h
def Jx(ops0:Array Oper)(o:Oper):Option Nat:=
 match o.guard with
 | some (j,_)=>(ops0[j]?).bind (·.dst)
 | none=>VD
def J2(ops0:Array Oper)(l:List Oper):List Nat:=l.flatMap λo=>tmpsOf o++(Jx ops0 o).toList
def OE(N:Nat):Option Nat->Bool
 | some d=>decide (d<N)
 | none=>VG
def Dh(P:Program)(N:Nat)(ops0:Array Oper)(live:List Nat)(qs:List Oper):Option Reg:=
 let outs:=(dstsOf qs).filter live.contains
 match back P N ops0 qs (outs.map E.tmp)with
 | some es=>VC (.fin (dstsOf qs) (outs.zip es) (es.drop outs.length))
 | none=>VD
def xL(P:Program)(N:Nat)(ops0:Array Oper)(live:List Nat)(qs:List Oper)(o:Oper)(rest:List Oper)(tail:Bool)(next:Reg):Option Reg:=
 let need:=live++J2 ops0 rest
 let outs:=(dstsOf qs).filter need.contains
 let args:=tmpsOf o
 let keep:=match o.dst with | some d=>need.contains d | none=>VH
 if ez o.op&&OE N o.dst then
  match o.guard with
  | none=>
   match back P N ops0 qs ((outs++args).map E.tmp)with
   | some es=>VC (.loud (dstsOf qs) (outs.zip es) (args.zip (es.drop outs.length)) VD (es.drop (outs++args).length) tail o.op o.type o.dst keep next)
   | none=>VD
  | some (j,b)=>
   match (ops0[j]?).bind (·.dst)with
   | some c=>
    match back P N ops0 qs ((outs++args++[c]).map E.tmp)with
    | some es=>match es.drop (outs++args).length with
     | g::chk=>VC (.loud (dstsOf qs) (outs.zip es) (args.zip (es.drop outs.length)) (VC (g,b)) chk tail o.op o.type o.dst keep next)
     | []=>VD
    | none=>VD
   | none=>VD
 else VD
def isQ(P:Program)(o:Oper):Bool:=(opE P o.op).isSome&&o.dst.isSome
def regU(P:Program)(N:Nat)(ops0:Array Oper)(live:List Nat):Nat->List Oper->Option Reg
 | 0,_=>VD
 | f+1,ops=>
  let qs:=ops.takeWhile (isQ P);match ops.dropWhile (isQ P)with
  | []=>Dh P N ops0 live qs
  | o::rest=>match regU P N ops0 live f rest with
   | some next=>xL P N ops0 live qs o rest VH next
   | none=>VD
theorem tx{ρ:Nat->Option Value}{H:View} : ∀{ts ss:List Nat} {es:List E} {us vs:List (Nat × Value)},ts.length<=es.length->
  evP ρ H (ts.zip es)=VC us->evP ρ H (ss.zip (es.drop ts.length))=VC vs->evP ρ H ((ts++ss).zip es)=VC (us++vs)
 | [],ss,es,us,vs,_,h1,h2=>by simp[evP]at h1;subst h1;simpa using h2
 | t::ts,ss,[],us,vs,hl,_,_=>by simp at hl
 | t::ts,ss,e::es,us,vs,hl,h1,h2=>by
  simp only[Uz,evP]at h1;split at h1
  ·rename_i v vs' hv hvs;simp only[RW]at h1;subst h1;simp only[UO,Uz,evP,hv,tx (by simpa using hl) hvs (by simpa using h2)]
  cases h1
theorem DB{ρ:Nat->Option Value}{ts:List Nat}{es:List E}{us:List (Nat × Value)}(hl:ts.length<=es.length)(h:evP ρ H (ts.zip es)=VC us):us.map (·.1)=ts:=(Cu hl h).2
variable{live:List Nat}
theorem qI{pp:PP}{qs rest:List Oper}{o:Oper}{tail:Bool}{next R:Reg}(hR:xL P N ops0 live qs o rest tail next=VC R){S:View->View->Prop}{m:Option View}{Q:Env->Heap->Prop}{h:Heap}{a:Act}(hN:a.tmps.size=N)(hρ:Sat ρ a)(hw:dd S P m R Q ρ h):
  ez o.op=VG/\(∀d,o.dst=VC d->d<N)/\∃a' ρ' us keep,QRun P ops0 (part m h) qs a a'/\a'.tmps.size=N/\a'.defers=a.defers/\Sat ρ' a'/\us.map (·.1)=tmpsOf o/\(∀p∈us,a'.tmps[p.1]? = VC p.2)/\
   pp.fx ρ'/\(Region.wanted o (yielded ops0 a'.tmps)=VG->@iS (opAt m) P (bQ o.op o.type us) h λv h'=>qK S (if tail then VD else m) h'/\dd S P (if tail then m.map (λ_=>nothing) else m) next Q (putE ρ' o.dst keep v) h')/\
   (Region.wanted o (yielded ops0 a'.tmps)=VH->dd S P (if tail then m.map (λ_=>nothing) else m) next Q (putE ρ' o.dst keep undef) h):=by
 unfold xL at hR;simp only at hR;split at hR;case isFalse=>cases hR
 rename_i hpd;simp only[Se]at hpd;refine⟨hpd.1,?_,?_⟩
 ·intro d hd;have:=hpd.2;simpa[hd,OE]using this
 generalize ho:(dstsOf qs).filter (live++J2 ops0 rest).contains=outs at hR;cases hg:o.guard with
 | none=>
  simp only[hg]at hR;split at hR;case h_2=>cases hR
  rename_i es hb;simp only[RW]at hR;subst hR;simp only[dd]at hw;obtain⟨vs,us,h1,h2,h3,hfx,h4⟩:=hw;have hl:(outs++tmpsOf o).length<=es.length:=by simpa using wN hb
  have hl1:outs.length<=es.length:=by simp at hl;omega
  obtain⟨a',hq,hsz,hd,hs,hp⟩:=uV hb hN hρ (tx hl1 h1 h2) h3;refine⟨a',_,us,_,hq,hsz,hd,Aw hs (λp hp'=>hp p (SK _ hp')),DB (by simp at hl ⊢;omega) h2,λp hp'=>hp p (SQ _ hp'),hfx,λ_=>h4,λhw=>?_⟩;simp[Region.wanted,hg]at hw
 | some jb=>
  obtain⟨j,b⟩:=jb;simp only[hg]at hR;split at hR;case h_2=>cases hR
  rename_i c hc;split at hR;case h_2=>cases hR
  rename_i es hb;split at hR;case h_2=>cases hR
  rename_i g chk hge;simp only[RW]at hR;subst hR;simp only[dd]at hw;obtain⟨vs,us,h1,h2,h3,hfx,gv,h4,h5,h6⟩:=hw;have hl:(outs++tmpsOf o++[c]).length<=es.length:=by simpa using wN hb
  have hl1:outs.length<=es.length:=by simp at hl;omega
  have hl2:(outs++tmpsOf o).length<=es.length:=by simp at hl ⊢;omega
  have e1:evP (look ρ) (part m h) ([c].zip (es.drop (outs++tmpsOf o).length))=VC [(c,gv)]:=by rw[hge];simp[evP,h4]
  have e2:okE (look ρ) (part m h) (es.drop (outs++tmpsOf o++[c]).length):=by
   have:es.drop (outs++tmpsOf o++[c]).length=(es.drop (outs++tmpsOf o).length).drop 1:=by rw[TU,show(outs++tmpsOf o++[c]).length=(outs++tmpsOf o).length+1 from by rw[Sf];rfl]
   rw[this,hge];exact h3
  obtain⟨a',hq,hsz,hd,hs,hp⟩:=uV hb hN hρ (tx hl2 (tx hl1 h1 h2) e1) e2;have hcv:a'.tmps[c]? = VC gv:=hp (c,gv) V5;have hwant:Region.wanted o (yielded ops0 a'.tmps)=VG↔gv = .bool b:=by simp only[Region.wanted,hg,yielded,hc,SA,hcv,beq_iff_eq];cases gv<;>simp
  refine⟨a',_,us,_,hq,hsz,hd,Aw hs (λp hp'=>hp p (by simp[hp'])),DB (by simp at hl ⊢;omega) h2,λp hp'=>hp p (by simp[hp']),hfx,λhw=>h5 (hwant.1 hw),λhw=>h6 ?_⟩;intro e;rw[hwant.2 e]at hw;cases hw
theorem xY{pp:PP}{qs:List Oper}{R:Reg}(hR:Dh P N ops0 live qs=VC R){S:View->View->Prop}{m:Option View}{Q:Env->Heap->Prop}{h:Heap}{a:Act}(hN:a.tmps.size=N)(hρ:Sat ρ a)(hw:dd S P m R Q ρ h):
  ∃a' ρ',QRun P ops0 (part m h) qs a a'/\a'.tmps.size=N/\a'.defers=a.defers/\Sat ρ' a'/\Q ρ' h:=by
 unfold Dh at hR;simp only at hR;split at hR;case h_2=>cases hR
 rename_i es hb;simp only[RW]at hR;subst hR;simp only[dd]at hw;obtain⟨vs,h1,h2,h3⟩:=hw;obtain⟨a',hq,hsz,hd,hs,hp⟩:=uV hb hN hρ h1 h2;exact⟨a',_,hq,hsz,hd,Aw hs hp,h3⟩
def mK[pp:PP](N:Nat)(D:List Deferred)(w:World)(Q:Env->Heap->Prop):Exit->Act->World->Prop
 | .normal,a,w'=>∃ρ,Sat ρ a/\a.tmps.size=N/\a.defers=D/\Q ρ w'.heap/\Same w w'
 | .panic ch,a,w'=>∃ρ,Sat ρ a/\a.tmps.size=N/\a.defers=D/\(pp.fx ρ/\pp.kp ch w'.heap)/\Same w w'
 | _,_,_=>False
theorem HO{op:Op}{e:E}(h:opE P op=VC e):ez op=true:=by cases op<;>first | rfl | simp[opE]at h
theorem xa{P:Program}{r:Option Nat}{ops0:Array Oper}{H:View}{w:World}(hw:H.sub (vw w.heap)){Q:Exit->Act->World->Prop}{rest:List Oper} :
  ∀{qs:List Oper} {a a':Act},(∀o∈qs,isQ P o=VG)->QRun P ops0 H qs a a'->wpListIn (Fw r) 0 P ops0 Q rest a' w->wpListIn (Fw r) 0 P ops0 Q (qs++rest) a w
 | [],a,a',_,hq,h=>by simp only[QRun]at hq;subst hq;exact h
 | o::qs,a,a',hall,hq,h=>by
  obtain⟨v,hy,hq⟩:=hq;have ih:=xa hw (λo' ho'=>hall o' (Sa _ ho')) hq h;have hpl:ez o.op=true:=by have:=hall o (Sg ..);simp only[isQ,Se,Vd]at this;obtain⟨⟨e,he⟩,_⟩:=this;exact HO he
  simp only[UO,wpListIn];rcases hy with⟨hwt,hrun,_⟩ | ⟨hwt,rfl⟩
  ·rw[if_pos hwt];refine⟨λ_ _=>trivial,?_⟩;rw[Oper.semAt_eq _ _ _ (by intro c e;simp[ez,e]at hpl),hrun w hw];exact ih
  rw[if_neg (by simp[hwt])];exact⟨λ_ _=>trivial,ih⟩
theorem tQ{α:Type}(p:α->Bool) : ∀(l:List α),∀x∈l.takeWhile p,p x=VG
 | [],_,h=>by simp at h
 | y::l,x,h=>by
  simp only[List.takeWhile_cons]at h;split at h
  ·rename_i hy;rcases Sp.1 h with rfl | h
   ·exact hy
   exact tQ p l x h
  cases h
theorem uv{pp:PP}{P:Program}{N:Nat}{ops0:Array Oper}{live:List Nat}{r:Option Nat}{Q:Env->Heap->Prop}{D:List Deferred}{w0:World} :
  ∀(f:Nat) {ops:List Oper} {R:Reg} {ρ:Env} {a:Act} {w:World},regU P N ops0 live f ops=VC R->a.tmps.size=N->a.defers=D->Sat ρ a->Same w0 w->eZ P VD R Q ρ w.heap->
   wpListIn (Fw r) 0 P ops0 (mK N D w0 Q) ops a w
 | 0,_,_,_,_,_,h,_,_,_,_,_=>by simp[regU]at h
 | f+1,ops,R,ρ,a,w,hR,hN,hD,hρ,hS,hw=>by
  simp only[regU]at hR;have hsplit:=List.takeWhile_append_dropWhile (p:=isQ P) (l:=ops);have hall : ∀o∈ops.takeWhile (isQ P),isQ P o=true:=tQ _ _;cases hrest:ops.dropWhile (isQ P)with
  | nil=>simp only[hrest]at hR;obtain⟨a',ρ',hq,hsz,hd,hs,hQ⟩:=xY hR hN hρ hw;rw[hrest]at hsplit;rw[<-hsplit];exact xa (H:=vw w.heap) (View.zv (View.le_refl _)) hall hq ⟨ρ',hs,hsz,hd.trans hD,hQ,hS⟩
  | cons o rest=>
   simp only[hrest]at hR;split at hR;case h_2=>cases hR
   rename_i next hnext
   obtain⟨hp,hdst,a',ρ',us,keep,hq,hsz,hd,hs,hk,hv,hfx,h1,h2⟩:=qI hR hN hρ hw;rw[hrest]at hsplit;rw[<-hsplit];refine xa (H:=vw w.heap) (View.zv (View.le_refl _)) hall hq ?_;have hput : ∀v,(a'.put o.dst v).tmps.size=N:=λv=>by cases o.dst<;>simp[Act.put,hsz]
   have hdef : ∀v,(a'.put o.dst v).defers=D:=λv=>by cases ho:o.dst<;>simp[Act.put,hd,hD]
   have hsat : ∀v,Sat (putE ρ' o.dst keep v) (a'.put o.dst v):=λv=>GQ hs (λd hd=>by rw[hsz];exact hdst d hd);simp only[wpListIn];split
   ·rename_i hwt;exact BP hp hk hv (h1 hwt) (λv w' ⟨_,hreg⟩ hsame=>uv f hnext (hput v) (hdef v) (hsat v) (hS.trans hsame) hreg) λch w' hc hsame=>⟨ρ',hs,hsz,hd.trans hD,⟨hfx,hc.2⟩,hS.trans hsame⟩
   rename_i hwt;exact⟨λ_ _=>trivial,uv f hnext (hput _) (hdef _) (hsat _) hS (h2 (by simpa using hwt))⟩
section
variable{P:Program}{ops:Array Oper}{r:Option Nat}{Q:Exit->Act->World->Prop}{G:Array Bool->World->Prop}
abbrev rdy(ops:Array Oper)(listed:Array Bool):List Nat:=Region.ready .any ops listed
def anyG(P:Program)(r:Option Nat)(ops:Array Oper)(Q:Exit->Act->World->Prop)(G:Array Bool->World->Prop):Nat->Array Bool->Act->World->Prop
 | 0,listed,a,w=>G listed w/\rdy ops listed=[]/\Q .normal a w
 | f+1,listed,a,w=>G listed w/\(rdy ops listed=[]->Q .normal a w)/\∀i∈rdy ops listed,wpOpIn (Fw r) 0 P ops Q i (anyG P r ops Q G f (listed.setIfInBounds i VG)) a w
theorem Lo: ∀{f:Nat} {listed:Array Bool} {a:Act} {w:World},anyG P r ops Q G f listed a w->G listed w
 | 0,_,_,_,h=>h.1
 | _+1,_,_,_,h=>h.1
theorem Ea : ∀{f:Nat} {listed:Array Bool} {a:Act} {w:World},anyG P r ops Q G f listed a w->wpAnyIn (Fw r) 0 P .any ops Q f listed a w
 | 0,_,_,_,h=>h.2
 | _+1,_,_,_,h=>⟨h.2.1,λi hi=>wpOpIn_mono (λ_ _ h1=>Ea h1) (h.2.2 i hi)⟩
def oH(ops:Array Oper)(listed:Array Bool):Prop:=
 ∀j oj,ops[j]? = VC oj->listed.getD j VH=VG->∀e∈oj.after,Region.binds .any e=VG->listed.getD e.on VH=VG
variable{listed:Array Bool}
theorem oH.set{i:Nat}(h:oH ops listed)(hi:i∈rdy ops listed):oH ops (listed.setIfInBounds i VG):=by
 obtain⟨_,oi,hoi,hall⟩:=mem_ready.1 hi;intro j oj hj hl e he hb;by_cases hij:i=j
 ·subst hij;have:oj=oi:=Option.some.inj (hj.symm.trans hoi);subst this;exact getD_set_true (hall e he hb)
 rw[getD_set_ne VH hij]at hl;exact getD_set_true (h j oj hj hl e he hb)
def down(ops:Array Oper):Nat->List Nat->List Nat
 | 0,S=>S
 | j+1,S=>if S.contains j then down ops j (S++match ops[j]? with | some o=>(o.after.toList.filter (Region.binds .any)).map (·.on) | none=>[]) else down ops j S
theorem xN{listed:Array Bool}(hc:oH ops listed) : ∀(n:Nat) (S:List Nat),(∀s∈S,listed.getD s VH=VG)->∀s∈down ops n S,listed.getD s VH=VG
 | 0,_,h,s,hs=>h s hs
 | j+1,S,h,s,hs=>by
  simp only[down]at hs;split at hs
  ·rename_i hj;refine xN hc j _ ?_ s hs;intro t ht;rcases R1.1 ht with ht | ht
   ·exact h t ht
   cases ho:ops[j]? with
   | none=>simp[ho]at ht
   | some o=>simp only[ho,SZ,TQ]at ht;obtain⟨e,⟨he,hb⟩,rfl⟩:=ht;exact hc j o ho (h j (by simpa using hj)) e (by simpa using he) hb
  exact xN hc j S h s hs
theorem se{o:Oper}{v:Value}{a a':Act}(hy:iX P ops H o v a)(he:execOp a'.eval o=execOp a.eval o)(hw:Region.wanted o (yielded ops a'.tmps)=Region.wanted o (yielded ops a.tmps)):iX P ops H o v a':=by unfold iX at *;rw[he,hw];exact hy
theorem ye{i:Nat}{o:Oper}{v:Value}{a:Act}{w:World}{K:Act->World->Prop}(hp:ez o.op=VG)(hi:ops[i]? = VC o)(hy:iX P ops H o v a)(hw:H.sub (vw w.heap))(h:K (a.put o.dst v) w):wpOpIn (Fw r) 0 P ops Q i K a w:=by
 unfold wpOpIn;simp only[hi];rcases hy with⟨hwt,hv,_⟩ | ⟨hwt,rfl⟩
 ·rw[if_pos hwt];refine⟨λ_ _=>trivial,?_⟩;rw[Oper.semAt_eq _ _ _ (by intro c e;simp[ez,e]at hp),hv w hw];exact h
 rw[if_neg (by simp[hwt])];exact⟨λ_ _=>trivial,h⟩
theorem Et{j:Nat}{oi oj:Oper}{v:Value}(hj:ops[j]? = VC oj)(hap:oi.apart ops oj=VG)(hpi:ez oi.op=VG)(hpj:ez oj.op=VG)(hQ : ∀c a d v w,Q (.panic c) (Act.put a d v) w->Q (.panic c) a w){K:Act->World->Prop}{a:Act}{w:World}(hy:iX P ops H oi v a)(h:wpOpIn (Fw r) 0 P ops Q j K (a.put oi.dst v) w):
  wpOpIn (Fw r) 0 P ops Q j (λa' w'=>iX P ops H oi v a'/\K (a'.put oi.dst v) w') a w:=by
 obtain⟨h1,h2,h3⟩:=Oper.apart_spec hap;have hsi : ∀cs b,oi.op≠.select cs b:=λcs b e=>by simp[ez,e]at hpi
 have hsj : ∀cs b,oj.op≠.select cs b:=λcs b e=>by simp[ez,e]at hpj
 have hdj : ∀c,oj.op≠.defer c:=λc e=>by simp[ez,e]at hpj
 have keep : ∀(a:Act),iX P ops H oi v a->∀u,iX P ops H oi v (a.put oj.dst u):=λa hy u=>se hy (execOp_put oi hsi a oj.dst u h3) (wanted_put oi a oj.dst u h3);have keepD : ∀d,iX P ops H oi v { a with defers:=d::a.defers }:=λd=>se hy rfl rfl;unfold wpOpIn at *;simp only[hj]at *;rw[wanted_put oj a oi.dst v h1,about_put oj w a oi.dst v h1]at h;split
 ·rename_i hw;simp only[hw,if_true]at h;unfold Oper.wpIn at *;rw[about_put oj w a oi.dst v h1]at h;refine⟨h.1,?_⟩;have h:=h.2;rw[Oper.semAt_eq _ _ _ hdj,execOp_put oj hsj a oi.dst v h1]at h;rw[Oper.semAt_eq _ _ _ hdj];generalize (execOp a.eval oj).run P w=r at *;cases r with
  | ok x w'=>
   cases x<;>simp only[Oper.uponIn]at h ⊢;case value u=>exact⟨keep a hy u,by rw[<-Act.put_comm a v u h2];exact h⟩
   case skip=>exact⟨keep a hy _,by rw[<-Act.put_comm a v undef h2];exact h⟩
   case defer d=>refine⟨keep _ (keepD d) _,?_⟩;rw[<-Act.put_comm _ v undef h2,<-Act.put_defers];exact h
   case enter f args=>
    refine⟨h.1,CallsIn.mono h.2 λe w'' he=>?_⟩;cases e with
    | returned u=>exact⟨keep a hy u,by rw[<-Act.put_comm a v u h2];exact he⟩
    | panicked c=>exact hQ _ _ _ _ _ he
    | outgrown=>exact he
   case row row args=>exact⟨h.1,RowsIn.mono h.2 λu w'' he=>⟨keep a hy u,by rw[<-Act.put_comm a v u h2];exact he⟩⟩
   case round l f tmps assign body=>
    refine⟨h.1,RoundIn.mono h.2 λe w'' he=>?_⟩;cases e with
    | returned u=>exact⟨keep a hy u,by rw[<-Act.put_comm a v u h2];exact he⟩
    | panicked c=>exact hQ _ _ _ _ _ he
    | outgrown=>exact he
  | halt x w'=>cases x<;>simp only[Oper.uponIn]at h ⊢;case panic u=>exact hQ _ _ _ _ _ h
 rename_i hw;simp only[hw]at h;exact⟨h.1,keep a hy _,by rw[<-Act.put_comm a v undef h2];exact h.2⟩
theorem uQ{i:Nat}{oi:Oper}{v:Value}(hi:ops[i]? = VC oi)(hpl : ∀(j:Nat) (o:Oper),ops[j]? = VC o->ez o.op=VG)(hQ : ∀c a d v w,Q (.panic c) (Act.put a d v) w->Q (.panic c) a w)(hG : ∀listed w,G (listed.setIfInBounds i VG) w->G listed w)(hcov : ∀listed w,oH ops listed->listed.getD i VG=VH->G listed w->H.sub (vw w.heap)):
  ∀(fuel:Nat) (listed:Array Bool) (a:Act) (w:World),oH ops listed->
   (∀j oj,ops[j]? = VC oj->j≠i->listed.getD j VG=VH->(∀e∈oj.after,Region.binds .any e=VG->e.on≠i)->oi.apart ops oj=VG)->
   i∈rdy ops listed->iX P ops H oi v a->
   anyG P r ops Q G fuel (listed.setIfInBounds i VG) (a.put oi.dst v) w->anyG P r ops Q G (fuel+1) listed a w:=by
 intro fuel;induction fuel with
 | zero=>
  intro listed a w hcl _ hr hy Hs;have hg:=hG _ _ (Lo Hs);refine⟨hg,λh=>(by rw[h]at hr;cases hr),λj hj=>?_⟩;by_cases hji:j=i
  ·subst hji;exact ye (hpl _ _ hi) hi hy (hcov listed w hcl (mem_ready.1 hr).1 hg) Hs
  have:j∈rdy ops (listed.setIfInBounds i VG):=ready_mono hj hji;rw[Hs.2.1]at this;cases this
 | succ fuel ih=>
  intro listed a w hcl hfree hr hy Hs;have hg:=hG _ _ (Lo Hs);refine⟨hg,λh=>(by rw[h]at hr;cases hr),λj hj=>?_⟩;by_cases hji:j=i
  ·subst hji;exact ye (hpl _ _ hi) hi hy (hcov listed w hcl (mem_ready.1 hr).1 hg) Hs
  have h1:=Hs.2.2 j (ready_mono hj hji);obtain⟨hjun,oj,hoj,hall⟩:=mem_ready.1 hj;have hnot : ∀e∈oj.after,Region.binds .any e=VG->e.on≠i:=λe he hb heq=>by
   have h1:=hall e he hb;have h0:=(mem_ready.1 hr).1;rw[heq]at h1;rcases Sb i listed.size with h' | h'
   ·simp[h']at h0 h1;rw[h0]at h1;cases h1
   simp[Uf h']at h1
  have h2:=Et hoj (hfree j oj hoj hji hjun hnot) (hpl _ _ hi) (hpl _ _ hoj) hQ hy h1;have hfree' : ∀k ok,ops[k]? = VC ok->k≠i->(listed.setIfInBounds j VG).getD k VG=VH->
    (∀e∈ok.after,Region.binds .any e=VG->e.on≠i)->oi.apart ops ok=true:=λk ok hk hki hun hno=>by
   refine hfree k ok hk hki ?_ hno;by_cases hjk:j=k
   ·subst hjk;exact hjun
   rw[getD_set_ne VG hjk]at hun;exact hun
  refine wpOpIn_mono (λa' w' h3=>ih (listed.setIfInBounds j VG) a' w' (hcl.set hj) hfree' (ready_mono hr (Ne.symm hji)) h3.1 ?_) h2;rw[Array.setIfInBounds_comm _ _ hji];exact h3.2
end
def CA(P:Program)(ops:Array Oper)(listed:Array Bool):Option Nat:=
 (rdy ops listed).find? λi=>match ops[i]? with | some o=>isQ P o | none=>VH
def covered(P:Program)(ops:Array Oper)(l0:Option Nat)(i:Nat):Bool:=
 match ops[i]? with
 | some o=>xM P o||match l0 with | none=>VG | some l=>(down ops (l+1) [l]).contains i&&i != l
 | none=>VH
def rA(P:Program)(ops:Array Oper)(l0:Option Nat):Nat->Array Bool->Option (List Nat × Array Bool)
 | 0,listed=>match CA P ops listed with | none=>VC ([],listed) | some _=>VD
 | f+1,listed=>match CA P ops listed with
  | none=>VC ([],listed)
  | some i=>if Region.free .any ops listed i&&covered P ops l0 i&&l0 != VC i then
    match rA P ops l0 f (listed.setIfInBounds i VG)with
    | some (qs,l1)=>VC (i::qs,l1)
    | none=>VD
   else VD
def oD(ops:Array Oper)(l:List Nat):List Oper:=l.filterMap (ops[·]?)
def An(ops:Array Oper)(listed:Array Bool):List Oper:=oD ops ((List.range ops.size).filter λj=>!listed.getD j VG)
def jX(node:Nat->Option Reg):List Nat->Option Reg
 | []=>VD
 | [i]=>node i
 | i::is=>match node i,jX node is with
  | some x,VC y=>VC (.both x y)
  | _,_=>VD
def regD(P:Program)(N:Nat)(ops:Array Oper)(live:List Nat)(l0:Option Nat):Nat->Array Bool->Option Reg
 | 0,_=>VD
 | f+1,listed=>match rA P ops l0 ops.size listed with
  | none=>VD
  | some (qs,l1)=>match rdy ops l1 with
   | []=>Dh P N ops live (oD ops qs)
   | rs=>jX (λi=>match ops[i]? with
    | none=>VD
    | some o=>match regD P N ops live l0 f (l1.setIfInBounds i VG)with
     | some next=>xL P N ops live (oD ops qs) o (An ops (l1.setIfInBounds i VG)) (l0 == VC i) next
     | none=>VD) rs
def left(ops:Array Oper)(listed:Array Bool):Nat:=(List.range ops.size).countP λj=>!listed.getD j VG
theorem BU{α:Type}{p q:α->Bool} : ∀{l:List α} {x:α},(∀y,q y=VG->p y=VG)->x∈l->p x=VG->q x=VH->l.countP q<l.countP p
 | [],_,_,h,_,_=>by cases h
 | y::l,x,hqp,hx,hp,hq=>by
  have hle:l.countP q<=l.countP p:=List.countP_mono_left (λy _=>hqp y);simp only[List.countP_cons];rcases Sp.1 hx with rfl | hx
  ·simp[hp,hq];omega
  have:=BU hqp hx hp hq;cases hqy:q y
  ·simp;omega
  simp[hqp y hqy];omega
variable{listed:Array Bool}
theorem yY{ops:Array Oper}{i:Nat}(hi:i∈rdy ops listed):left ops (listed.setIfInBounds i VG)<left ops listed:=by
 obtain⟨h0,o,ho,_⟩:=mem_ready.1 hi;refine BU (x:=i) (λy hy=>?_) (TA.2 (Sj.1 ho).1) (by simpa using h0) ?_
 ·by_cases h:i=y
  ·subst h;simpa using h0
  rw[getD_set_ne VG h]at hy;exact hy
 have hlt:i<listed.size:=by
  rcases Sb i listed.size with h | h
  ·exact h
  simp[Uf h]at h0
 simp[hlt]
section
variable{P:Program}{N:Nat}{ops:Array Oper}{live:List Nat}{l0:Option Nat}{r:Option Nat}{D:List Deferred}{w0:World}{Q:Env->Heap->Prop}{H:View}
def GH(l0:Option Nat)(H:View)(listed:Array Bool)(w:World):Prop:=H.sub (vw w.heap)\/∃l,l0=VC l/\listed.getD l VH=VG
def partAt(l0:Option Nat)(H:View)(listed:Array Bool):View:=match l0 with | some l=>if listed.getD l VH then nothing else H | none=>H
theorem Eo{i:Nat}(h:CA P ops listed=VC i):i∈rdy ops listed/\∃o,ops[i]? = VC o/\isQ P o=true:=by
 refine⟨T0 h,?_⟩;have:=Vk h;cases ho:ops[i]? with
 | none=>simp[ho]at this
 | some o=>simp[ho]at this;exact⟨o,rfl,this⟩
theorem vF(hpl : ∀(j:Nat) (o:Oper),ops[j]? = VC o->ez o.op=VG) : ∀{f:Nat} {listed l1:Array Bool} {qs:List Nat},rA P ops l0 f listed=VC (qs,l1)->oH ops listed->
  oH ops l1/\CA P ops l1=VD/\(∀l,l0=VC l->l1.getD l VH=listed.getD l VH)/\
  ∀{a a':Act} {w:World} {Q':Exit->Act->World->Prop},(∀c a d v w,Q' (.panic c) (Act.put a d v) w->Q' (.panic c) a w)->QRun P ops (partAt l0 H listed) (oD ops qs) a a'->
   (∀F,left ops l1<=F->anyG P r ops Q' (GH l0 H) F l1 a' w)->∀F,left ops listed<=F->anyG P r ops Q' (GH l0 H) F listed a w
 | 0,listed,l1,qs,h,hc=>by
  simp only[rA]at h;split at h
  ·rename_i hq;simp only[RW,TM]at h;obtain⟨rfl,rfl⟩:=h;refine⟨hc,hq,λ_ _=>rfl,fun{a a' w Q'} _ hrun hany=>?_⟩;simp only[oD,List.filterMap_nil,QRun]at hrun;subst hrun;exact hany
  cases h
 | f+1,listed,l1,qs,h,hc=>by
  simp only[rA]at h;split at h
  ·rename_i hq;simp only[RW,TM]at h;obtain⟨rfl,rfl⟩:=h;refine⟨hc,hq,λ_ _=>rfl,fun{a a' w Q'} _ hrun hany=>?_⟩;simp only[oD,List.filterMap_nil,QRun]at hrun;subst hrun;exact hany
  rename_i i hq;split at h;case isFalse=>cases h
  rename_i hfc;simp only[Se,bne_iff_ne,ne_eq]at hfc;obtain⟨⟨hfree,hcov⟩,hne⟩:=hfc;split at h;case h_2=>cases h
  rename_i qs' l1' hrec;simp only[RW,TM]at h;obtain⟨rfl,rfl⟩:=h;obtain⟨hi,o,ho,hoq⟩:=Eo hq;obtain⟨hc1,hf1,hl1,hstep⟩:=vF hpl hrec (hc.set hi);have hl0 : ∀l,l0=VC l->(listed.setIfInBounds i VG).getD l VH=listed.getD l false:=λl hl=>getD_set_ne VH (λe=>hne (by rw[hl,e]));refine⟨hc1,hf1,λl hl=>(hl1 l hl).trans (hl0 l hl),fun{a a' w Q'} hQ hrun hany F hF=>?_⟩;have hrun':QRun P ops (partAt l0 H listed) (o::oD ops qs') a a':=by simpa[oD,ho]using hrun
  obtain⟨v,hy,hrun2⟩:=hrun';have hpart:partAt l0 H (listed.setIfInBounds i VG)=partAt l0 H listed:=by
   unfold partAt;cases l0 with
   | none=>rfl
   | some l=>simp only[hl0 l rfl]
  have hlt:=yY hi;obtain⟨F',rfl⟩ : ∃F',F=F'+1:=⟨F-1,by omega⟩;have hsub:=hstep (w:=w) hQ (by rw[hpart];exact hrun2) hany F' V4;have hGset : ∀listed w,GH l0 H (listed.setIfInBounds i VG) w->GH l0 H listed w:=by
   rintro listed w (h | ⟨l,hl,h⟩)
   ·exact .inl h
   refine .inr ⟨l,hl,?_⟩;rw[getD_set_ne VH (λe=>hne (by rw[hl,e]))]at h;exact h
  simp only[covered,ho,S1]at hcov;by_cases hpure:xM P o=VG
  ·have hy':iX P ops nothing o v a:=by
    rcases hy with⟨hw,hv,hp⟩ | hy
    ·exact .inl ⟨hw,λw _=>hp hpure w,hp⟩
    exact .inr hy
   exact uQ (H:=nothing) ho hpl hQ hGset (λ_ _ _ _ _=>λ_ _ h=>by cases h) F' listed a w hc (Region.free_spec ho hfree) hi hy' hsub
  have hcov:=hcov.resolve_left hpure;cases hl:l0 with
  | none=>
   subst hl;refine uQ (H:=H) ho hpl hQ hGset (λlisted w _ _ hg=>?_) F' listed a w hc (Region.free_spec ho hfree) hi (by simpa[partAt]using hy) hsub;rcases hg with h | ⟨l,h,_⟩
   ·exact h
   cases h
  | some l=>
   subst hl;simp only[Se]at hcov;have hun : ∀listed,oH ops listed->listed.getD i VG=VH->listed.getD l VH=false:=by
    intro listed hc' hi';cases hll:listed.getD l VH with
    | false=>rfl
    | true=>
     have:=xN hc' (l+1) [l] (by simpa using hll) i (by simpa using hcov.1);exfalso;rcases Sb i listed.size with h' | h'
     ·simp[h']at this hi';rw[hi']at this;cases this
     simp[Uf h']at this
   refine uQ (H:=H) ho hpl hQ hGset (λlisted w hc' hi' hg=>?_) F' listed a w hc (Region.free_spec ho hfree) hi ?_ hsub
   ·rcases hg with h | ⟨l',h,h'⟩
    ·exact h
    cases h;rw[hun listed hc' hi']at h';cases h'
   have:=hun listed hc (mem_ready.1 hi).1;simpa[partAt,this]using hy
theorem EH{H:View}{w:World}(hw:H.sub (vw w.heap)) : ∀{qs:List Oper} {a a1 a2:Act},QRun P ops H qs a a1->QRun P ops H qs a a2->a1=a2
 | [],a,a1,a2,h1,h2=>by simp only[QRun]at h1 h2;rw[h1,h2]
 | o::qs,a,a1,a2,⟨v1,hy1,hq1⟩,⟨v2,hy2,hq2⟩=>by
  have e:v1=v2:=by
   rcases hy1 with⟨hw1,hr1,_⟩ | ⟨hw1,rfl⟩<;>rcases hy2 with⟨hw2,hr2,_⟩ | ⟨hw2,rfl⟩
   ·have:=(hr1 w hw).symm.trans (hr2 w hw);simpa using this
   ·rw[hw1]at hw2;cases hw2
   ·rw[hw1]at hw2;cases hw2
   rfl
  subst e;exact EH hw hq1 hq2
theorem tV{pp:PP}{node:Nat->Option Reg}{m:Option View}{ρ:Env}{h:Heap} : ∀{rs:List Nat} {R:Reg},jX node rs=VC R->dd View.sub P m R Q ρ h->∀i∈rs,∃X,node i=VC X/\dd View.sub P m X Q ρ h
 | [],_,h,_,_,_=>by simp[jX]at h
 | [i],R,h,hw,j,hj=>by simp only[RY]at hj;subst hj;exact⟨R,h,hw⟩
 | i::k::rs,R,h,hw,j,hj=>by
  simp only[jX]at h;split at h
  ·rename_i x y hx hy;simp only[RW]at h;subst h;simp only[dd]at hw;rcases Sp.1 hj with rfl | hj
   ·exact⟨x,hx,hw.1⟩
   exact tV hy hw.2 j hj
  cases h
theorem ET{pp:PP}{c:List PanicEntry}{a:Act}{d:Option Tmp}{v:Value}{w:World}(h:@mK (ppD pp) N D w0 Q (.panic c) (Act.put a d v) w):@mK (ppD pp) N D w0 Q (.panic c) a w:=by
 obtain⟨ρ,_,h2,h3,⟨_,h4⟩,h5⟩:=h;refine⟨[],λt v h=>by simp[look]at h,?_,?_,⟨trivial,h4⟩,h5⟩
 ·cases d<;>simpa[Act.put]using h2
 cases d<;>simpa[Act.put]using h3
theorem uu{pp:PP}(hpl : ∀(j:Nat) (o:Oper),ops[j]? = VC o->ez o.op=VG) : ∀(f:Nat) {listed:Array Bool} {R:Reg} {ρ:Env} {a:Act} {w:World},
  regD P N ops live l0 f listed=VC R->oH ops listed->listed.size=ops.size->a.tmps.size=N->a.defers=D->Sat ρ a->Same w0 w->GH l0 H listed w->(partAt l0 H listed).sub (vw w.heap)->
  dd View.sub P (VC (partAt l0 H listed)) R Q ρ w.heap->∀F,left ops listed<=F->anyG P r ops (@mK (ppD pp) N D w0 Q) (GH l0 H) F listed a w
 | 0,_,_,_,_,_,h,_,_,_,_,_,_,_,_,_=>by simp[regD]at h
 | f+1,listed,R,ρ,a,w,hR,hc,hLs,hN,hD,hρ,hS,hG,hX,hw=>by
  simp only[regD]at hR;split at hR;case h_1=>cases hR
  rename_i qs l1 hqs;obtain⟨hc1,_,hl1,hstep⟩:=vF (H:=H) (r:=r) hpl hqs hc;have hl1s:l1.size=ops.size:=by
   have : ∀{f:Nat} {listed l1:Array Bool} {qs:List Nat},rA P ops l0 f listed=VC (qs,l1)->l1.size=listed.size:=by
    intro f;induction f with
    | zero=>
     intro listed l1 qs h;simp only[rA]at h;split at h
     ·simp only[RW,TM]at h;rw[h.2]
     cases h
    | succ f ih=>
     intro listed l1 qs h;simp only[rA]at h;split at h
     ·simp only[RW,TM]at h;rw[h.2]
     split at h
     ·split at h
      ·rename_i hh;simp only[RW,TM]at h;rw[<-h.2,ih hh];simp
      cases h
     cases h
   rw[this hqs,hLs]
  have hpart1:partAt l0 H l1=partAt l0 H listed:=by
   unfold partAt;cases hl:l0 with
   | none=>rfl
   | some l=>simp only[hl1 l hl]
  have hG1:GH l0 H l1 w:=by
   rcases hG with h | ⟨l,hl,h⟩
   ·exact .inl h
   exact .inr ⟨l,hl,by rw[hl1 l hl];exact h⟩
  have hpartm:part (VC (partAt l0 H listed)) w.heap=partAt l0 H listed:=rfl;cases hrs:rdy ops l1 with
  | nil=>
   simp only[hrs]at hR;obtain⟨a',ρ',hq,hsz,hd,hs,hQ⟩:=xY hR hN hρ hw;rw[hpartm]at hq;have hpost:@mK (ppD pp) N D w0 Q .normal a' w:=⟨ρ',hs,hsz,hd.trans hD,hQ,hS⟩;refine hstep (λ_ _ _ _ _=>ET) hq (λF _=>?_);cases F with
   | zero=>exact⟨hG1,hrs,hpost⟩
   | succ F=>exact⟨hG1,λ_=>hpost,by rw[hrs];intro i hi;cases hi⟩
  | cons i0 is0=>
   simp only[hrs]at hR;have hbr:=tV hR hw;have hnode : ∀i∈i0::is0,∃o next X,ops[i]? = VC o/\regD P N ops live l0 f (l1.setIfInBounds i VG)=VC next/\
     xL P N ops live (oD ops qs) o (An ops (l1.setIfInBounds i VG)) (l0 == VC i) next=VC X/\dd View.sub P (VC (partAt l0 H listed)) X Q ρ w.heap:=by
    intro i hi;obtain⟨X,hX,hXw⟩:=hbr i hi;cases ho:ops[i]? with
    | none=>simp[ho]at hX
    | some o=>
     simp only[ho]at hX;split at hX
     ·rename_i next hnext
      exact⟨o,next,X,rfl,hnext,hX,hXw⟩
     cases hX
   obtain⟨o1,next1,X1,ho1,hn1,hX1,hXw1⟩:=hnode i0 (Sg ..);obtain⟨_,_,a',_,_,_,hq,hsz,hd,_,_,_,_,_,_⟩:=qI hX1 hN hρ hXw1;rw[hpartm]at hq;refine hstep (λ_ _ _ _ _=>ET) hq (λF hF=>?_);obtain⟨F',rfl⟩ : ∃F',F=F'+1:=by have h1:=yY (ops:=ops) (listed:=l1) (i:=i0) (by rw[hrs];exact Sg ..);exact⟨F-1,by omega⟩
   refine⟨hG1,λh0=>(by rw[hrs]at h0;cases h0),λi hi=>?_⟩;have hi':i∈i0::is0:=by rw[<-hrs];exact hi
   obtain⟨o,next,X,ho,hnext,hX2,hXw⟩:=hnode i hi';obtain⟨hp,hdst,a2,ρ',us,keep,hq2,hsz2,hd2,hs2,hk,hv,_,h1,h2⟩:=qI hX2 hN hρ hXw;rw[hpartm]at hq2;obtain rfl:=EH hX hq2 hq;have hput : ∀v,(a2.put o.dst v).tmps.size=N:=λv=>by cases o.dst<;>simp[Act.put,hsz2]
   have hdef : ∀v,(a2.put o.dst v).defers=D:=λv=>by cases ho:o.dst<;>simp[Act.put,hd2,hD]
   have hsat : ∀v,Sat (putE ρ' o.dst keep v) (a2.put o.dst v):=λv=>GQ hs2 (λd hd=>by rw[hsz2];exact hdst d hd);have hlt:=yY hi;have hun:l1.getD i VG=false:=(mem_ready.1 hi).1;have hisz:i<l1.size:=by
    rcases Sb i l1.size with h | h
    ·exact h
    simp[Uf h]at hun
   have hnew:(l1.setIfInBounds i VG).getD i VH=true:=by simp[hisz]
   have hview : ∀h':Heap,qK View.sub (if(l0 == VC i)=VG then VD else VC (partAt l0 H listed)) h'->∀w':World,w'.heap=h'->
     GH l0 H (l1.setIfInBounds i VG) w'/\(partAt l0 H (l1.setIfInBounds i VG)).sub (vw w'.heap)/\
     (if(l0 == VC i)=VG then(VC (partAt l0 H listed)).map (λ_=>nothing) else VC (partAt l0 H listed))=VC (partAt l0 H (l1.setIfInBounds i VG)):=by
    intro h' hk w' hw';by_cases ht:l0=VC i
    ·subst ht;refine⟨.inr ⟨i,rfl,hnew⟩,?_,?_⟩
     ·simp only[partAt,hnew,if_true];intro _ _ h;cases h
     simp[partAt,hnew]
    have hne:(l0 == VC i)=false:=by simpa using ht
    rw[hne]at hk;have hle:(partAt l0 H listed).sub (vw h'):=hk _ rfl;have hpe:partAt l0 H (l1.setIfInBounds i VG)=partAt l0 H listed:=by
     rw[<-hpart1];unfold partAt;cases hl:l0 with
     | none=>rfl
     | some l=>have:i≠l:=λe=>ht (by rw[hl,e]);simp only[getD_set_ne VH this]
    refine⟨?_,by rw[hpe,hw'];exact hle,by simp[hne,hpe]⟩;rcases hG1 with _ | ⟨l,hl,h⟩
    ·by_cases hb : ∃l,l0=VC l/\l1.getD l VH=VG
     ·obtain⟨l,hl,h⟩:=hb;exact .inr ⟨l,hl,getD_set_true h⟩
     refine .inl ?_;have:partAt l0 H listed=H:=by
      rw[<-hpart1];unfold partAt;cases hl:l0 with
      | none=>rfl
      | some l=>have:¬l1.getD l VH=true:=λh=>hb ⟨l,hl,h⟩;simp only[this];rfl
     rw[this]at hle;rw[hw'];exact hle
    exact .inr ⟨l,hl,getD_set_true h⟩
   unfold wpOpIn;simp only[ho];split
   ·rename_i hwt;refine BP hp hk hv (h1 hwt) (λv w' ⟨hkeep,hreg⟩ hsame=>?_) λch w' hc hsame=>⟨[],λt v h=>by simp[look]at h,hsz2,hd2.trans hD,⟨trivial,hc.1.resolve_left V5,hc.2⟩,hS.trans hsame⟩;obtain⟨g1,g2,g3⟩:=hview w'.heap hkeep w' rfl;rw[g3]at hreg;exact uu hpl f hnext (hc1.set hi) (by simp[hl1s]) (hput v) (hdef v) (hsat v) (hS.trans hsame) g1 g2 hreg F' V4
   rename_i hwt;refine⟨λ_ _=>trivial,?_⟩;have hreg:=h2 (by simpa using hwt);obtain⟨g1,g2,g3⟩:=hview w.heap (by
    split
    ·intro _ h;cases h
    intro Y hY;cases hY;exact hX) w rfl;rw[g3]at hreg;exact uu hpl f hnext (hc1.set hi) (by simp[hl1s]) (hput _) (hdef _) (hsat _) hS g1 g2 hreg F' V4
theorem Cc{pp:PP}{id:Nat}{R:Reg}{a:Act}{w:World}(hm:P.follows .mixedOrders=VG)(hpl:ops.all (λo=>ez o.op)=VG)(hR:regD P N ops live l0 (ops.size+1) (Array.replicate ops.size VH)=VC R)(hN:a.tmps.size=N)(hD:a.defers=D)(hρ:Sat ρ a)(hw : ∃H:View,H.sub (vw w.heap)/\dd View.sub P (VC H) R Q ρ w.heap):(Code.region id ops VG).wpIn (Fw r) 0 P (mK N D w Q) a w:=by
 obtain⟨H,hH,hw⟩:=hw;have hpl' : ∀(j:Nat) (o:Oper),ops[j]? = VC o->ez o.op=true:=λj o ho=>by obtain⟨hj,rfl⟩:=Sj.1 ho;exact Array.all_eq_true.1 hpl j hj
 have hclosed:oH ops (Array.replicate ops.size VH):=by
  intro j oj _ h;rcases Sb j ops.size with h' | h'
  ·simp[h']at h
  simp[h']at h
 have hun : ∀l,(Array.replicate ops.size VH).getD l VH=false:=λl=>by rcases Sb l ops.size with h' | h'<;>simp[h']
 have hpart:partAt l0 H (Array.replicate ops.size VH)=H:=by
  unfold partAt;cases l0 with
  | none=>rfl
  | some l=>simp[hun l]
 have weak : ∀e a' w',@mK (ppD pp) N D w Q e a' w'->mK N D w Q e a' w':=λe a' w' hq=>by cases e<;>first | exact hq | (obtain⟨ρ,h1,h2,h3,⟨_,h4,h5⟩,h6⟩:=hq;exact⟨ρ,h1,h2,h3,⟨h4 ρ,h5⟩,h6⟩)
 refine wpIn_mono (wpIn_region_any hm (Ea (G:=GH l0 H) (uu (pp:=pp) (H:=H) (w0:=w) (w:={ w with drawn:=w.drawn+1 }) hpl' _ hR hclosed V5 hN hD hρ Same.drawn (.inl hH) ?_ ?_ _ ?_))) weak
 ·rw[hpart];exact hH
 ·rw[hpart];exact hw
 refine St (List.countP_le_length ..) V5
theorem EU{pp:PP}{id:Nat}{R:Reg}{a:Act}{w:World}(hR:regU P N ops live (ops.size+1) ops.toList=VC R)(hN:a.tmps.size=N)(hD:a.defers=D)(hρ:Sat ρ a)(hw:eZ P VD R Q ρ w.heap):(Code.region id ops VH).wpIn (Fw r) 0 P (mK N D w Q) a w:=
 wpIn_region_list (uv _ hR hN hD hρ (Same.refl _) hw)
end
def isFn(P : Program)(f : FuncId) : Bool := match P.funcs[f]? with | some fn => fn.name != "runtime.NumGoroutine" && fn.body.isSome | none => VH
variable{n:Nat}
theorem uG{f:FuncId}{args:Array Value}{w:World}{R:Ending->World->Prop}{r:Option Nat}(h:Calls P f args w R):CallsIn (Fw r) n P f args w R:=
 (callsIn_wide (n:=n)).2 h
def ay(P:Program)(f:FuncId)(args:Array Value)(h:Heap)(R:Value->Heap->Prop):Prop:=
 ∀w:World,w.heap=h->Calls P f args w λe w'=>∃v,e = .returned v/\R v w'.heap/\Same w w'
theorem ay.mono{P:Program}{f:FuncId}{args:Array Value}{h:Heap}{R R':Value->Heap->Prop}(hc:ay P f args h R)(hr : ∀v h',R v h'->R' v h'):ay P f args h R':=
 λw hw=>(hc w hw).mono λ_ _ ⟨v,he,hR,hs⟩=>⟨v,he,hr _ _ hR,hs⟩
def jG(P:Program)(f:FuncId)(args:Array Value)(h:Heap)(R:Value->Heap->Prop)(Rp:List PanicEntry->Heap->Prop):Prop:=
 ∀w:World,w.heap=h->Calls P f args w λe w'=>(∃v,e = .returned v/\R v w'.heap/\Same w w')\/∃ch,e = .panicked ch/\Rp ch w'.heap/\Same w w'
theorem View.lt{W:View}{h:Heap}(hw:W.le (vw h)){b:Nat}{o:Obj}(hb:W b=VC o):b<h.size:=by have:=hw b o hb;simp only[vw]at this;exact(Sj.1 this).1
theorem View.bS{W:View}{h:Heap}(hw:W.le (vw h)){b:Nat}(hb:h.size<=b):W b=none:=by
 cases hx:W b with
 | none=>rfl
 | some o=>have:=View.lt hw hx;omega
def grow(V:View)(h h':Heap):View:=λb=>if b<h.size then V b else h'[b]?
theorem km{V:View}{h h':Heap}(hV:V.le (vw h')):(grow V h h').le (vw h'):=λb o hb=>by
 unfold grow at hb;split at hb
 ·exact hV b o hb
 exact hb
theorem bC{V:View}{h h':Heap}(hV:V.le (vw h)):V.le (grow V h h'):=λb o hb=>by have:=View.lt hV hb;unfold grow;rw[if_pos this];exact hb
def Fv(P:Program)(l:Nat)(vs:List Value)(h:Heap)(R:Bool->Heap->Prop):Prop:=
 ∀w:World,w.heap=h->∃f tmps asg body,(Instr.yield l vs.toArray).run P w = .ok (.round l f tmps asg body) w/\
  RoundIn (Fw VD) 0 P l f tmps asg body w λe w'=>∃b,e = .returned (.bool b)/\R b w'.heap/\Same w w'
structure oN(n:Nat)(J:View->Heap->Prop):Prop where
 le : ∀{W:View} {h:Heap},J W h->W.le (vw h)
 move : ∀{W W':View} {h h':Heap},J W h->(∀b,b<n->W' b=W b)->W'.le (vw h')->(∀b,W b=VD->b<h.size->h'[b]? = h[b]?/\W' b=VD)->h.size<=h'.size->J W' h'
def Iter(P:Program)(gf:Nat)(caps:List Value)(V:View)(all:List (List Value)):Prop:=
 ∀(l:Nat) (J:Bool->Nat->View->Heap->Prop) (W:View) (h:Heap),(∀b k,oN h.size (J b k))->V.le W->V l=VD->J VG 0 W h->
  (∀k vs W' h1,(∀b,b<h.size->W' b=W b)->all[k]? = VC vs->J VG k W' h1->Fv P l vs h1 λb h2=>∃W2,(∀i,i≠l->W2 i=W' i)/\(b=VG->W2=W')/\J b (k+1) W2 h2)->
  ay P gf (Value.func (.yield l) #[] #[]::caps).toArray h λ_ h2=>∃b k W',(∀i,i<h.size->i≠l->W' i=W i)/\J b k W' h2/\(b=VG->k=all.length)
inductive LC where
 | skip
 | reg (drawn:Bool) (r:Reg)
 | seq (x y:LC)
 | cond (c:E) (kill:List Nat) (x y:LC)
 | block (id:Nat) (x:LC)
 | loop (x:LC)
 | exit (id:Nat)
 | ret
 | rangef (g:E) (ps:List Nat) (asg body:LC)
 deriving Inhabited
def LC.plain:LC->Bool
 | .rangef _ _ _ _=>VH
 | .seq x y=>x.plain&&y.plain
 | .cond _ _ x y=>x.plain&&y.plain
 | .block _ x | .loop x=>x.plain
 | _=>VG
abbrev Post:=Exit->Env->Heap->Prop
def fL(next:Env->Heap->Prop)(Q:Post):Post
 | .normal,ρ,h=>next ρ h
 | e,ρ,h=>Q e ρ h
def eY(id:Nat)(Q:Post):Post
 | .exit k,ρ,h=>if k=id then Q .normal ρ h else Q (.exit k) ρ h
 | e,ρ,h=>Q e ρ h
def postOf[pp:PP](Q:Post):Post
 | .panic ch,ρ,h=>pp.fx ρ/\pp.kp ch h
 | e,ρ,h=>Q e ρ h
theorem tI{Q:Post}{e:Exit}{h:Heap}(hq:@postOf noPP Q e ρ h):Q e ρ h:=by cases e<;>first | exact hq | exact hq.2.elim
def aY:List Nat->Env->Env
 | [],_=>[]
 | t::ts,ρ=>match look ρ t with
  | some v=>(t,v)::aY ts ρ
  | none=>aY ts ρ
theorem uK{ρ:Env}{t:Nat}{v:Value} : ∀{ks:List Nat},look (aY ks ρ) t=VC v->look ρ t=VC v
 | [],h=>by simp[aY,look]at h
 | k::ks,h=>by
  simp only[aY]at h;split at h
  ·rename_i u hu;simp only[look]at h;split at h
   ·rename_i e;subst e;rw[hu];exact h
   exact uK h
  exact uK h
theorem Ev{a:Act}{ks:List Nat}(h:Sat ρ a):Sat (aY ks ρ) a:=λt v hv=>h t v (uK hv)
def pS:Exit->Bool
 | .normal | .exit _ | .ret=>VG
 | _=>VH
def LC.wp[pp:PP](P:Program)(c:LC)(Q:Post)(ρ:Env)(h:Heap):Prop:=
 match c with
 | .skip=>Q .normal ρ h
 | .reg VH r=>eZ P VD r (Q .normal) ρ h
 | .reg VG r=>∃H:View,H.sub (vw h)/\dd View.sub P (VC H) r (Q .normal) ρ h
 | .seq x y=>x.wp P (fL (y.wp P Q) Q) ρ h
 | .cond c kill x y=>∃b,ev (look ρ) (vw h) c=VC (.bool b)/\(b=VG->x.wp P Q (cK ρ kill) h)/\(b=VH->y.wp P Q (cK ρ kill) h)
 | .block id x=>x.wp P (eY id Q) ρ h
 | .loop x=>∃(ks:List Nat) (I:Nat->Env->Heap->Prop),(∃n,I n (aY ks ρ) h)/\∀n ρ h,I n ρ h->x.wp P (fL (λρ' h'=>∃m,m<n/\I m (aY ks ρ') h') Q) ρ h
 | .exit id=>Q (.exit id) ρ h
 | .ret=>Q .ret ρ h
 | .rangef g ps asg body=>∃(gf:Nat) (caps:List Value) (V W0:View) (all:List (List Value)) (I:Option Exit->Nat->View->Heap->Prop) (A:Nat->Env),
   ev (look ρ) (vw h) g=VC (.func (.func gf) #[] caps.toArray)/\isFn P gf=VG/\Iter P gf caps V all/\(∀vs∈all,vs.length=ps.length)/\V.le W0/\(∀e k,oN h.size (I e k))/\I VD 0 W0 h/\
   (∀k vs W h1,(∀b,b<h.size->W b=W0 b)->all[k]? = VC vs->I VD k W h1->
    @LC.wp noPP P asg (λe ρ1 h2=>e = .normal/\h2=h1/\ρ1=A k) (dC ρ (ps.zip vs)) h1/\
    @LC.wp noPP P body (λe _ h3=>I (match e with | .normal=>VD | e=>VC e) (k+1) W h3) (A k) h1)/\
   (∀W h1,(∀b,b<h.size->W b=W0 b)->I VD all.length W h1->Q .normal ρ h1)/\
   (∀e k W h1,pS e=VG->e≠.normal->(∀b,b<h.size->W b=W0 b)->I (VC e) k W h1->Q e ρ h1)
theorem iS.mono{po:OP}{P:Program}{s:Sem Next}{h:Heap}{K K':Value->Heap->Prop}(hr:iS P s h K)(hk : ∀v h',K v h'->K' v h'):iS P s h K':=
 λw hw r o a X Y hX hY=>hr w hw r o a X Y (λv w' hv hs=>hX v w' (hk _ _ hv) hs) hY
section
variable{P:Program}{Q:Post}{ρ:Env}{h:Heap}
theorem jv{pp:PP}{S:View->View->Prop}{Q Q':Env->Heap->Prop}(hq : ∀ρ h,Q ρ h->Q' ρ h) : ∀{r:Reg} {m:Option View} {ρ:Env} {h:Heap},dd S P m r Q ρ h->dd S P m r Q' ρ h
 | .fin kill sets chk,m,ρ,h,⟨vs,h1,h2,h3⟩=>⟨vs,h1,h2,hq _ _ h3⟩
 | .loud kill sets args grd chk tail op ty dst keep next,m,ρ,h,hw=>by
  simp only[dd]at hw ⊢;obtain⟨vs,us,h1,h2,h3,hfx,h4⟩:=hw;refine⟨vs,us,h1,h2,h3,hfx,?_⟩;cases grd with
  | none=>exact iS.mono h4 λv h' ⟨g1,g2⟩=>⟨g1,jv hq g2⟩
  | some gb=>obtain⟨gv,g1,g2,g3⟩:=h4;exact⟨gv,g1,λe=>iS.mono (g2 e) λv h' ⟨g1,g2⟩=>⟨g1,jv hq g2⟩,λe=>jv hq (g3 e)⟩
 | .both x y,m,ρ,h,⟨h1,h2⟩=>⟨jv hq h1,jv hq h2⟩
theorem FN{pp:PP}{Q Q':Env->Heap->Prop}(hq : ∀ρ h,Q ρ h->Q' ρ h){r:Reg}{m:Option View}{ρ:Env}{h:Heap}(hw:eZ P m r Q ρ h):eZ P m r Q' ρ h:=jv hq hw
theorem kQ{pp:PP}{S S':View->View->Prop}(hS : ∀H K,S H K->S' H K){Q:Env->Heap->Prop} : ∀{r:Reg} {m:Option View} {ρ:Env} {h:Heap},dd S P m r Q ρ h->dd S' P m r Q ρ h
 | .fin kill sets chk,m,ρ,h,⟨vs,h1,h2,h3⟩=>⟨vs,h1,h2,h3⟩
 | .loud kill sets args grd chk tail op ty dst keep next,m,ρ,h,hw=>by
  simp only[dd]at hw ⊢;obtain⟨vs,us,h1,h2,h3,hfx,h4⟩:=hw;refine⟨vs,us,h1,h2,h3,hfx,?_⟩;cases grd with
  | none=>exact iS.mono h4 λv h' ⟨g1,g2⟩=>⟨λH e=>hS _ _ (g1 H e),kQ hS g2⟩
  | some gb=>obtain⟨gv,g1,g2,g3⟩:=h4;exact⟨gv,g1,λe=>iS.mono (g2 e) λv h' ⟨g1,g2⟩=>⟨λH e=>hS _ _ (g1 H e),kQ hS g2⟩,λe=>kQ hS (g3 e)⟩
 | .both x y,m,ρ,h,⟨h1,h2⟩=>⟨kQ hS h1,kQ hS h2⟩
end
theorem xx{pp:PP}{Q Q':Post}(hq : ∀e ρ h,pS e=VG->Q e ρ h->Q' e ρ h): ∀{x:LC} {ρ:Env} {h:Heap},x.wp P Q ρ h->x.wp P Q' ρ h:=by
 intro x;induction x generalizing Q Q' with
 | skip=>exact λh=>hq _ _ _ rfl h
 | reg d r=>
  intro ρ h hw;cases d with
  | false=>exact FN (λρ h=>hq .normal ρ h rfl) hw
  | true=>obtain⟨H,hH,hw⟩:=hw;exact⟨H,hH,jv (λρ h=>hq .normal ρ h rfl) hw⟩
 | seq x y ihx ihy=>intro ρ h hw;exact ihx (λe ρ h hp hq'=>by cases e<;>first | exact ihy hq hq' | exact hq _ _ _ hp hq') hw
 | cond c kill x y ihx ihy=>intro ρ h ⟨b,h1,h2,h3⟩;exact⟨b,h1,λe=>ihx hq (h2 e),λe=>ihy hq (h3 e)⟩
 | block i x ih=>
  intro ρ h hw;refine ih (λe ρ h hp hq'=>?_) hw;cases e with
  | exit k=>
   simp only[eY]at hq' ⊢;split
   ·rename_i hk;rw[if_pos hk]at hq';exact hq _ _ _ rfl hq'
   rename_i hk;rw[if_neg hk]at hq';exact hq _ _ _ rfl hq'
  | _=>exact hq _ _ _ hp hq'
 | loop x ih=>intro ρ h ⟨ks,I,h0,hr⟩;exact⟨ks,I,h0,λn ρ h hI=>ih (λe ρ h hp hq'=>by cases e<;>first | exact hq' | exact hq _ _ _ hp hq') (hr n ρ h hI)⟩
 | exit i=>exact λh=>hq _ _ _ rfl h
 | ret=>exact λh=>hq _ _ _ rfl h
 | rangef g ps asg body _ _=>rintro ρ h ⟨gf,caps,V,W0,all,I,A,h1,h2,h3,h4,h5,h6,h7,h8,h9,h10⟩;exact⟨gf,caps,V,W0,all,I,A,h1,h2,h3,h4,h5,h6,h7,h8,λW h' a b=>hq _ _ _ rfl (h9 W h' a b),λe k W h' a b c d=>hq _ _ _ a (h10 e k W h' a b c d)⟩
theorem Lp{pp:PP}{Q Q':Post}(hq : ∀e ρ h,Q e ρ h->Q' e ρ h){x:LC}{h:Heap}(hw:x.wp P Q ρ h):x.wp P Q' ρ h:=xx (λe ρ h _=>hq e ρ h) hw
theorem kR{b:Frame}{a:Act}{k:List Item}{cs:List Frame}{w:World}{c:Code}:Go.step P (lone (b.atR a (.code (.scope c)::k)) cs w) = .next (lone (b.atR a (.code c::.inScope c::k)) cs w):=
 step_lone_go (by simp[stepG,stepG.exec,Frame.atR])
theorem AE{b:Frame}{a:Act}{k:List Item}{cs:List Frame}{w:World}{c:Code}:Go.step P (lone (b.atR a (.inScope c::k)) cs w) = .next (lone (b.atR a k) cs w):=
 step_lone_go (by simp[stepG,stepG.exec,Frame.atR])
theorem Gk{F:Fence}{Q:Exit->Act->World->Prop}{a:Act}{w:World}{c:Code}(h:c.wpIn F n P (λe a w=>(∀l,e≠.goto l)/\Q e a w) a w):(Code.scope c).wpIn F n P Q a w:=by
 intro b k cs hro hb hr;have h0:(lone (b.atR a (.code (.scope c)::k)) cs w).fenced P F:=fenced_calm hb hr rfl;obtain⟨e,a₁,w₁,⟨hp,hq⟩,harr⟩:=h b (.inScope c::k) cs hro hb hr;cases e with
 | normal=>exact⟨.normal,a₁,w₁,hq,.head h0 kR (StepsIn.trans harr (.one (fenced_calm hb hr rfl) AE))⟩
 | exit id=>
  have hx:exitTo id (.inScope c::k)=exitTo id k:=by simp[exitTo]
  exact⟨.exit id,a₁,w₁,hq,λk' hk=>.head h0 kR (harr.1 k' (by rw[hx];exact hk)),
   λhr' hk=>let ⟨k₁,h1,h2⟩:=harr.2 hr' (by rw[hx];exact hk);⟨k₁,h1,.head h0 kR h2⟩⟩
 | goto l=>exact absurd rfl (hp l)
 | ret=>exact⟨_,a₁,w₁,hq,.of_steps (.one h0 kR) harr⟩
 | panic ch=>exact⟨_,a₁,w₁,hq,.of_steps (.one h0 kR) harr⟩
 | outgrown=>exact⟨_,a₁,w₁,hq,.of_steps (.one h0 kR) harr⟩
def EN(P:Program)(ops:Array Oper):Option Nat:=
 let reads:=(List.range ops.size).filter λi=>match ops[i]? with | some o=>isQ P o&&!xM P o | none=>VH
 (List.range ops.size).find? λl=>match ops[l]? with
  | some o=>!isQ P o&&o.guard.isNone&&(let d:=down ops (l+1) [l];reads.all d.contains)
  | none=>VH
def zn(liveR:List Nat):Operand->List Nat
 | .tmp t=>if liveR.contains t then[] else[t]
 | _=>[]
def eE(P:Program)(N:Nat)(live liveR:List Nat)(inR:Bool):Code->Option LC
 | .skip=>VC .skip
 | .region _ ops draw=>
  if draw then
   if ops.all (λo=>ez o.op) then
    (regD P N ops live (EN P ops) (ops.size+1) (Array.replicate ops.size VH)).map (.reg VG)
   else VD
  else(regU P N ops live (ops.size+1) ops.toList).map (.reg VH)
 | .seq x y=>match eE P N live liveR inR x,eE P N live liveR inR y with
  | some a,VC b=>VC (.seq a b)
  | _,_=>VD
 | .cond c x y=>match eE P N live liveR inR x,eE P N live liveR inR y with
  | some a,VC b=>VC (.cond (opnd c) (zn liveR c) a b)
  | _,_=>VD
 | .block id x=>(eE P N live liveR inR x).map (.block id)
 | .loop x=>(eE P N live liveR inR x).map .loop
 | .exit id=>VC (.exit id)
 | .ret=>VC .ret
 | .scope x=>eE P N live liveR inR x
 | .label _=>VC .skip
 | .rangeFunc f ps x y=>if inR then VD else if ps.toList.all (· < N) then
   match eE P N live liveR VG x,eE P N live liveR VG y with
   | some a,VC b=>if a.plain&&b.plain then VC (.rangef (opnd f) ps.toList a b) else VD
   | _,_=>VD
  else VD
 | _=>VD
def gV(pl:Bool)(D:List Deferred)(n:Nat)(ds:List Deferred)(h:Heap):Prop:=
 ∃ms:List Nat,ds=ms.map (λm=>{ target:=.collected m,args:=#[] })++D/\(pl=VG->ms=[])/\(∀m∈ms,n<=m/\h[m]? = VC (.deferred (VC [])))/\ms.Nodup
theorem gV.refl(pl:Bool)(D:List Deferred)(n:Nat)(h:Heap):gV pl D n D h:=⟨[],rfl,λ_=>rfl,(λ_ h=>by cases h),TV⟩
theorem gV.trans{p q:Bool}{D ds es:List Deferred}{w0 w1 w2:World}(h:gV p D w0.heap.size ds w1.heap)(k:gV q ds w1.heap.size es w2.heap)(hs:Same w0 w1)(hs2:Same w1 w2):gV (p&&q) D w0.heap.size es w2.heap:=by
 obtain⟨ms,rfl,h1,h2,h3⟩:=h;obtain⟨ns,rfl,k1,k2,k3⟩:=k;refine⟨ns++ms,by simp,λe=>?_,λm hm=>?_,?_⟩
 ·simp only[Se]at e;rw[h1 e.1,k1 e.2];rfl
 ·rcases R1.1 hm with hm | hm
  ·exact⟨St hs.size (k2 m hm).1,(k2 m hm).2⟩
  exact⟨(h2 m hm).1,hs2.defs m (h2 m hm).2⟩
 refine Ti.2 ⟨k3,h3,λa ha b hb e=>?_⟩;subst e;have h4:=(k2 a ha).1;have h5:=(Sj.1 (h2 a hb).2).1;omega
theorem gV.weak{p q:Bool}{D ds:List Deferred}{h:Heap}(hpq:q=VG->p=VG)(k:gV p D n ds h):gV q D n ds h:=
 let ⟨ms,h1,h2,h3,h4⟩:=k
 ⟨ms,h1,λe=>h2 (hpq e),h3,h4⟩
def vZ[pp:PP](N:Nat)(pl:Bool)(D:List Deferred)(w0:World)(Q:Post)(e:Exit)(a:Act)(w:World):Prop:=
 ∃ρ,Sat ρ a/\a.tmps.size=N/\gV pl D w0.heap.size a.defers w.heap/\postOf Q e ρ w.heap/\Same w0 w
theorem wpIn_loop_ghost{F:Fence}{k:Nat}{Q:Exit->Act->World->Prop}{c:Code}(I:Nat->Act->World->Prop){a:Act}{w:World}(h₀:I n a w)(round : ∀n a w,I n a w->c.wpIn F k P (Exit.then (λa' w'=>∃m,m<n/\I m a' w') Q) a w):(Code.loop c).wpIn F k P Q a w:=by
 intro b k cs hro hb hr;have key : ∀j a w,I j a w->
   ∃e a' w',Q e a' w'/\ArrivesIn (Machine.fenced P F) P (lone (b.atR a (.code c::.inLoop c::k)) cs w) b k cs e a' w':=by
  intro j;induction j using Nat.strongRecOn with
  | _ j ih=>
   intro a w hI;obtain⟨e,a₁,w₁,hq,harr⟩:=round j a w hI b (.inLoop c::k) cs hro hb hr;cases e with
   | normal=>obtain⟨m,hlt,hI₁⟩:=hq;obtain⟨e₂,a₂,w₂,hq₂,harr₂⟩:=ih m hlt a₁ w₁ hI₁;exact⟨e₂,a₂,w₂,hq₂,.of_steps (StepsIn.trans harr (.one (fenced_calm hb hr rfl) stepR_inLoop)) harr₂⟩
   | exit id=>exact⟨_,a₁,w₁,hq,.pass (x:=.inLoop c) rfl (λ_ _=>.inl V5) harr⟩
   | goto l=>exact⟨_,a₁,w₁,hq,.pass (x:=.inLoop c) rfl (λ_ _=>.inl V5) harr⟩
   | ret=>exact⟨_,a₁,w₁,hq,.pass (x:=.inLoop c) rfl (λ_ _=>.inl V5) harr⟩
   | panic ch=>exact⟨_,a₁,w₁,hq,.pass (x:=.inLoop c) rfl (λ_ _=>.inl V5) harr⟩
   | outgrown=>exact⟨_,a₁,w₁,hq,.pass (x:=.inLoop c) rfl (λ_ _=>.inl V5) harr⟩
 obtain⟨e,a',w',hq,harr⟩:=key _ a w h₀;exact⟨e,a',w',hq,.of_steps (.one (fenced_calm hb hr rfl) stepR_loop) harr⟩
section
variable{P:Program}{N:Nat}{live liveR:List Nat}
theorem vZ.weak{pp:PP}{p q:Bool}{D:List Deferred}{w0:World}{Q:Post}{e:Exit}{a:Act}{w:World}(hpq:q=VG->p=VG)(h:vZ N p D w0 Q e a w):vZ N q D w0 Q e a w:=
 let ⟨ρ,h1,h2,h3,h4,h5⟩:=h
 ⟨ρ,h1,h2,h3.weak hpq,h4,h5⟩
theorem LY{vs:List Value}: ∀{ps:List Nat} {ρ:Env} {a:Act},Sat ρ a->(∀p∈ps,p<a.tmps.size)->ps.length=vs.length->
  Sat (dC ρ (ps.zip vs)) { tmps:=(ps.zip vs).foldl (λt (p:Nat × Value)=>t.setIfInBounds p.1 p.2) a.tmps,defers:=[] }:=by
 induction vs with
 | nil=>intro ps ρ a h _ hl;cases ps with
  | nil=>exact h
  | cons p ps=>simp at hl
 | cons v vs ih=>intro ps ρ a h hp hl;cases ps with
  | nil=>simp at hl
  | cons p ps=>
   simp only[Uz,dC,Sx];have:=ih (ps:=ps) (ρ:=setE ρ p v) (a:={ tmps:=a.tmps.setIfInBounds p v,defers:=a.defers }) ?_ (λq hq=>by simpa using hp q (Sa _ hq)) (by simpa using hl)
   ·exact this
   intro t u hu;rw[af]at hu;split at hu
   ·rename_i e;subst e;cases hu;simp[hp p (Sg ..)]
   rename_i e;simp only[S3 e];exact h t u hu
theorem Ih{l:List (Nat × Value)}: ∀{t:Array Value},(l.foldl (λt (p:Nat × Value)=>t.setIfInBounds p.1 p.2) t).size=t.size:=by
 induction l with
 | nil=>intro t;rfl
 | cons p l ih=>intro t;simp only[Sx,ih,Array.size_setIfInBounds]
def View.set(W:View)(l:Nat)(o:Obj):View:=λb=>if b=l then VC o else W b
theorem oN.put{l:Nat}{J:View->Heap->Prop}(hJ:oN n J){W:View}{w:World}{o:Obj}(o':Obj)(h:J W w.heap)(hl:W l=VC o)(hn:n<=l):J (W.set l o') (w.putObj l o').heap:=by
 have hle:=hJ.le h;have hlt:l<w.heap.size:=(Sj.1 (hle l o hl)).1;refine hJ.move h (λb hb=>by unfold View.set;rw[if_neg V4]) (λb x hb=>?_) (λb hb _=>?_) (by simp[World.putObj])
 ·unfold View.set at hb;split at hb
  ·rename_i e;subst e;cases hb;exact World.putObj_heap_same hlt
  rename_i e;show(w.putObj l o').heap[b]? = _;rw[World.putObj_heap_other e];exact hle b x hb
 have hne:b≠l:=λe=>by rw[e,hl]at hb;cases hb
 exact⟨World.putObj_heap_other hne,by unfold View.set;rw[if_neg hne];exact hb⟩
theorem Same.put{w:World}{l:Nat}{o o':Obj}(hl:w.heap[l]? = VC o)(ho:o≠.deferred (VC [])):Same w (w.putObj l o'):=
 Same.pC rfl rfl rfl (by simp[World.putObj]) hl ho λk _ hne=>World.putObj_heap_other hne
theorem E7{pp:PP}{f:Operand}{ps:Array Tmp}{x y:Code}{X Y:LC}(hx : ∀{Q:Post} {ρ:Env} {a:Act} {w:World} {r:Option Nat},@LC.wp noPP P X Q ρ w.heap->Sat ρ a->a.tmps.size=N->x.wpIn (Fw r) 0 P (@vZ noPP N X.plain a.defers w Q) a w)(hy : ∀{Q:Post} {ρ:Env} {a:Act} {w:World} {r:Option Nat},@LC.wp noPP P Y Q ρ w.heap->Sat ρ a->a.tmps.size=N->y.wpIn (Fw r) 0 P (@vZ noPP N Y.plain a.defers w Q) a w)(hps : ∀p∈ps.toList,p<N){Q:Post}{a:Act}{w:World}(hw:(LC.rangef (opnd f) ps.toList X Y).wp P Q ρ w.heap)(hρ:Sat ρ a)(hN:a.tmps.size=N):
  (Code.rangeFunc f ps x y).wpIn (Fw VD) 0 P (vZ N VH a.defers w Q) a w:=by
 simp only[LC.wp]at hw;obtain⟨gf,caps,V,W0,all,I,A,hg,hfn,hIter,hlen,hV,hI,h0,hround,hdone,hexit⟩:=hw;have hg':=bR (a:=a) (jt (λt v h=>hρ t v h) hg);refine wpIn_rangeFunc λfn _=>?_;obtain⟨rec,hrec⟩ : ∃rec:LoopState->Option Code->Loop,rec=λst pe=>{ state:=st,pending:=pe,fn,tmps:=a.tmps,params:=ps,assign:=x,body:=y,defers:=w.heap.size }:=⟨_,rfl⟩;obtain⟨W1,hW1⟩ : ∃W1,(w.alloc (.deferred (VC []))).alloc (.loop (rec .ready VD))=W1:=⟨_,rfl⟩;have hL1:W1.heap[w.heap.size+1]? = VC (.loop (rec .ready VD)):=by rw[<-hW1];have:=World.alloc_heap_new (w.alloc (.deferred (VC []))) (.loop (rec .ready VD));rwa [World.size_alloc]at this
 have hK1:W1.heap[w.heap.size]? = VC (.deferred (VC [])):=by rw[<-hW1];exact(heap_alloc_old _ _ V5).trans (World.alloc_heap_new w _)
 have hsz1:W1.heap.size=w.heap.size+2:=by rw[<-hW1];simp
 have hold : ∀k,k<w.heap.size->W1.heap[k]? = w.heap[k]?:=by intro k hk;rw[<-hW1,heap_alloc_old _ _ Vt,heap_alloc_old _ _ hk]
 have hS1:Same w W1:=Same.CV (by rw[<-hW1];rfl) (by rw[<-hW1];rfl) (by rw[<-hW1];rfl) V4 hold;have hW0:=(hI VD 0).le h0;have hG1:(grow W0 w.heap W1.heap).le (vw W1.heap):=km λb o hb=>by show W1.heap[b]? = _;rw[hold b (View.lt hW0 hb)];exact hW0 b o hb
 have hI1:I VD 0 (grow W0 w.heap W1.heap) W1.heap:=(hI VD 0).move h0 (λb hb=>by unfold grow;rw[if_pos hb]) hG1 (λb hb hlt=>⟨hold b hlt,by unfold grow;rw[if_pos hlt];exact hb⟩) hS1.size;have hgrowL:grow W0 w.heap W1.heap (w.heap.size+1)=VC (.loop (rec .ready VD)):=by unfold grow;rw[if_neg V4];exact hL1
 have hgrow0 : ∀b,b<w.heap.size->grow W0 w.heap W1.heap b=W0 b:=λb hb=>by unfold grow;rw[if_pos hb]
 obtain⟨J,hJ⟩ : ∃J:Bool->Nat->View->Heap->Prop,J=λb k W h=>if b=VG then I VD k W h/\W (w.heap.size+1)=VC (.loop (rec .ready VD)) else
   ∃e c,pS e=VG/\e≠.normal/\(e = .ret/\c=Code.ret\/∃id,e = .exit id/\c=Code.exit id)/\I (VC e) k W h/\W (w.heap.size+1)=VC (.loop (rec .done (VC c))):=⟨_,rfl⟩
 refine⟨w.heap.size+1,[{ target:=.collected w.heap.size,args:=#[] }],W1,{ target:=.fn (.func gf) caps.toArray,args:=#[.func (.yield (w.heap.size+1)) #[] #[]] },W1,gf,
  (Value.func (.yield (w.heap.size+1)) #[] #[]::caps).toArray,W1,?_,?_,?_,?_,λh=>by simp[Fw,Fence.wide]at h,?_⟩
 ·rw[<-hW1,hrec];exact run_enterLoop_outer _ _ _ _ _
 ·simp only[resolve,hg'];simp[go_sem]
 ·intro f' _;trivial
 ·unfold isFn at hfn;cases hfn':P.funcs[gf]? with
  | none=>simp[hfn']at hfn
  | some fn'=>simp only[hfn',Se,bne_iff_ne,ne_eq]at hfn;obtain⟨h1,h2⟩:=hfn;simp[invoke,callFunc,program,Sem.run,hfn',h1,Option.isNone];cases hb:fn'.body<;>simp[hb]at h2 ⊢
 have hJ0:J VG 0 (grow W0 w.heap W1.heap) W1.heap:=by rw[hJ];simp only[if_true];exact⟨hI1,hgrowL⟩
 refine uG ((hIter (w.heap.size+1) J (grow W0 w.heap W1.heap) W1.heap ?_ (View.le_trans hV (bC hW0)) (View.bS (View.le_trans hV hW0) V4) hJ0 ?_ W1 rfl).mono ?_)
 ·intro b k;rw[hJ];cases b with
  | true=>simp only[if_true];exact⟨λh=>(hI VD k).le h.1,λh a1 a2 a3 a4=>⟨(hI VD k).move h.1 (λb hb=>a1 b V4) a2 a3 a4,by rw[a1 _ V4];exact h.2⟩⟩
  | false=>simp only[Ts,if_false];exact⟨λ⟨e,c,_,_,_,h,_⟩=>(hI (VC e) k).le h,λ⟨e,c,p1,p2,p3,h,p4⟩ a1 a2 a3 a4=>⟨e,c,p1,p2,p3,(hI (VC e) k).move h (λb hb=>a1 b V4) a2 a3 a4,by rw[a1 _ V4];exact p4⟩⟩
 ·intro k vs W' h1 hag hall hJk w' hw';subst hw';rw[hJ]at hJk;simp only[if_true]at hJk;obtain⟨hIk,hWl⟩:=hJk;have hag0 : ∀b,b<w.heap.size->W' b=W0 b:=λb hb=>by rw[hag b V4,hgrow0 b hb]
  have hle:=(hI VD k).le hIk;have hl:w'.heap[w.heap.size+1]? = VC (.loop (rec .ready VD)):=hle _ _ hWl;have hvl:=hlen vs (SE hall);have hyd:=run_yield (P:=P) (args:=vs.toArray) hl (by rw[hrec];simpa using hvl);refine⟨_,_,_,_,hyd,roundIn_of_wpIn trivial ?_⟩;rw[hrec];simp only;obtain⟨hasg,_⟩:=hround k vs W' w'.heap hag0 hall hIk;have hact:(ps.zip vs.toArray).foldl (λtmps (p:Nat × Value)=>tmps.setIfInBounds p.1 p.2) a.tmps=(ps.toList.zip vs).foldl (λt (p:Nat × Value)=>t.setIfInBounds p.1 p.2) a.tmps:=by rw[<-Array.foldl_toList];simp
  have hsat:=LY (ps:=ps.toList) (vs:=vs) hρ (λp hp=>by rw[hN];exact hps p hp) hvl.symm;refine wpIn_mono (hx (r:=VC (w.heap.size+1)) (a:={ tmps:=(ps.zip vs.toArray).foldl (λtmps (p:Nat × Value)=>tmps.setIfInBounds p.1 p.2) a.tmps,defers:=[] }) hasg (by rw[hact];exact hsat) (by rw[hact,Ih];exact hN)) ?_;rintro e a1 w1 ⟨ρ1,s1,n1,_,hqq,hS⟩;obtain⟨rfl,hh,rfl⟩:=tI hqq;have hl':w1.heap[w.heap.size+1]? = VC (.loop (rec .ready VD)):=by rw[hh];exact hl
  refine⟨_,run_beginRound hl' (by rw[hrec]),?_⟩;have hIk1:I VD k W' w1.heap:=by rw[hh];exact hIk
  have hI2:=(hI VD k).put (.loop (rec .busy VD)) hIk1 hWl V4;have hbusy:({ rec .ready VD with state:=.busy }:Loop)=rec .busy none:=by rw[hrec]
  rw[hbusy];obtain⟨_,hbody⟩:=hround k vs (W'.set (w.heap.size+1) (.loop (rec .busy VD))) _ (λb hb=>by unfold View.set;rw[if_neg V4];exact hag0 b hb) hall hI2;have hS2:Same w1 (w1.putObj (w.heap.size+1) (.loop (rec .busy VD))):=Same.put hl' V5;refine wpIn_mono (hy (r:=VC (w.heap.size+1)) (xx (Q':=λe _ h3=>pS e=VG/\I (match e with | .normal=>VD | e=>VC e) (k+1) (W'.set (w.heap.size+1) (.loop (rec .busy VD))) h3) (λe ρ h hp hq=>⟨hp,hq⟩) hbody) s1 n1) ?_;rintro e a3 w3 ⟨ρ3,s3,n3,_,hqq,hS3⟩;obtain⟨hpe,hI3⟩:=tI hqq;have hset:(W'.set (w.heap.size+1) (.loop (rec .busy VD))) (w.heap.size+1)=VC (.loop (rec .busy VD)):=by unfold View.set;rw[if_pos rfl]
  have hset2 : ∀o o',(W'.set (w.heap.size+1) o).set (w.heap.size+1) o'=W'.set (w.heap.size+1) o':=by intro o o';funext b;unfold View.set;split<;>rfl
  have hself:W'.set (w.heap.size+1) (.loop (rec .ready VD))=W':=by
   funext b;unfold View.set;split
   ·rename_i e;subst e;exact hWl.symm
   rfl
  have fin : ∀jump:Option Code,w3.heap[w.heap.size+1]? = VC (.loop (rec .busy VD))->
    (Instr.endRound (w.heap.size+1) jump).run P w3 = .ok (.bool jump.isNone) (w3.putObj (w.heap.size+1) (.loop (rec (if jump.isNone then .ready else .done) jump)))/\Same w' (w3.putObj (w.heap.size+1) (.loop (rec (if jump.isNone then .ready else .done) jump))):=by intro jump h3;have:=run_endRound (P:=P) jump h3;rw[hrec]at this ⊢;rw[hrec]at h3;refine⟨this,((hS.trans hS2).trans hS3).trans (Same.put h3 V5)⟩
  cases e with
  | normal=>obtain⟨f1,f2⟩:=fin VD ((hI VD (k+1)).le hI3 _ _ hset);refine⟨_,_,f1,VG,rfl,⟨W',λ_ _=>rfl,λ_=>rfl,?_⟩,f2⟩;rw[hJ];simp only[if_true];have:=(hI VD (k+1)).put (.loop (rec .ready VD)) hI3 hset V4;rw[hset2,hself]at this;exact⟨this,hWl⟩
  | ret=>obtain⟨f1,f2⟩:=fin (VC .ret) ((hI (VC .ret) (k+1)).le hI3 _ _ hset);refine⟨_,_,f1,VH,rfl,⟨W'.set (w.heap.size+1) (.loop (rec .done (VC .ret))),λi hi=>by unfold View.set;rw[if_neg hi],(λh=>by cases h),?_⟩,f2⟩;rw[hJ];simp only[Ts,if_false];have:=(hI (VC .ret) (k+1)).put (.loop (rec .done (VC .ret))) hI3 hset V4;rw[hset2]at this;exact⟨.ret,.ret,rfl,by simp,.inl ⟨rfl,rfl⟩,this,by unfold View.set;rw[if_pos rfl]⟩
  | exit id=>obtain⟨f1,f2⟩:=fin (VC (.exit id)) ((hI (VC (.exit id)) (k+1)).le hI3 _ _ hset);refine⟨_,_,f1,VH,rfl,⟨W'.set (w.heap.size+1) (.loop (rec .done (VC (.exit id)))),λi hi=>by unfold View.set;rw[if_neg hi],(λh=>by cases h),?_⟩,f2⟩;rw[hJ];simp only[Ts,if_false];have:=(hI (VC (.exit id)) (k+1)).put (.loop (rec .done (VC (.exit id)))) hI3 hset V4;rw[hset2]at this;exact⟨(.exit id),(.exit id),rfl,by simp,.inr ⟨id,rfl,rfl⟩,this,by unfold View.set;rw[if_pos rfl]⟩
  | goto t=>cases hpe
  | panic ch=>cases hpe
  | outgrown=>cases hpe
 rintro e w2 ⟨v,rfl,⟨b,k,W',hag,hJk,hk⟩,hS⟩;have hag0 : ∀b,b<w.heap.size->W' b=W0 b:=λb hb=>by rw[hag b V4 V4,hgrow0 b hb]
 have hD2:=hS.defs _ hK1;have marks : ∀w4:World,(∀k,k≠w.heap.size+1->w4.heap[k]? = w2.heap[k]?)->gV VH a.defers w.heap.size ([{ target:=.collected w.heap.size,args:=#[] }]++a.defers) w4.heap:=
  λw4 h4=>⟨[w.heap.size],rfl,λh=>by(cases h),λm hm=>by simp only[RY]at hm;subst hm;exact⟨RX _,by rw[h4 _ V4];exact hD2⟩,by simp⟩;have hsset : ∀o b,b<w.heap.size->(W'.set (w.heap.size+1) o) b=W0 b:=λo b hb=>by unfold View.set;rw[if_neg V4];exact hag0 b hb
 rw[hJ]at hJk;cases b with
 | true=>simp only[if_true]at hJk;obtain⟨hIk,hWl⟩:=hJk;have hl:=(hI VD k).le hIk _ _ hWl;refine⟨VD,_,by have:=run_endLoop (P:=P) hl (by rw[hrec];simp);rw[hrec]at this;exact this,ρ,hρ,hN,marks _ (λk hk=>World.putObj_heap_other hk),?_,(hS1.trans hS).trans (Same.put hl V5)⟩;have hkl:=hk rfl;rw[hkl]at hIk;exact hdone _ _ (hsset _) ((hI VD all.length).put _ hIk hWl V4)
 | false=>
  simp only[Ts,if_false]at hJk;obtain⟨e,c,hpe,hne,hec,hIk,hWl⟩:=hJk;have hl:=(hI (VC e) k).le hIk _ _ hWl;refine⟨VC c,_,by have:=run_endLoop (P:=P) hl (by rw[hrec];simp);rw[hrec]at this;exact this,?_⟩;have hQ:=hexit e k _ _ hpe hne (hsset _) ((hI (VC e) k).put (.loop { state:=.exhausted,pending:=VC c,fn,tmps:=a.tmps,params:=ps,assign:=x,body:=y,defers:=w.heap.size }) hIk hWl V4);have hS4:=(hS1.trans hS).trans (Same.put (o':=.loop { state:=.exhausted,pending:=VC c,fn,tmps:=a.tmps,params:=ps,assign:=x,body:=y,defers:=w.heap.size }) hl V5);rcases hec with⟨rfl,rfl⟩ | ⟨id,rfl,rfl⟩
  ·exact wpIn_ret ⟨ρ,hρ,hN,marks _ (λk hk=>World.putObj_heap_other hk),hQ,hS4⟩
  exact wpIn_exit ⟨ρ,hρ,hN,marks _ (λk hk=>World.putObj_heap_other hk),hQ,hS4⟩
theorem ee{pp:PP}(hm:P.follows .mixedOrders=VG) : ∀(c:Code) {inR:Bool} {L:LC} {Q:Post} {ρ:Env} {a:Act} {w:World} {r:Option Nat},eE P N live liveR inR c=VC L->(inR=VH->r=VD)->L.wp P Q ρ w.heap->Sat ρ a->a.tmps.size=N->
  c.wpIn (Fw r) 0 P (vZ N L.plain a.defers w Q) a w
 | .skip,inR,L,Q,ρ,a,w,r,hL,hr,hw,hρ,hN=>by simp only[eE,RW]at hL;subst hL;exact wpIn_skip ⟨ρ,hρ,hN,gV.refl ..,hw,Same.refl _⟩
 | .region id ops draw,inR,L,Q,ρ,a,w,r,hL,hr,hw,hρ,hN=>by
  have post : ∀e a' w',mK N a.defers w (Q .normal) e a' w'->vZ N VG a.defers w Q e a' w':=by
   intro e a' w' h;cases e<;>first | exact h.elim | skip
   ·obtain⟨ρ',h1,h2,h3,h4,h5⟩:=h;exact⟨ρ',h1,h2,h3▸gV.refl ..,h4,h5⟩
   obtain⟨ρ',h1,h2,h3,h4,h5⟩:=h;exact⟨ρ',h1,h2,h3▸gV.refl ..,h4,h5⟩
  cases draw with
  | true=>
   simp only[eE,if_true]at hL;split at hL;case isFalse=>cases hL
   rename_i hpl;simp only[Sc]at hL;obtain⟨R,hR,rfl⟩:=hL;exact wpIn_mono (Cc hm hpl hR hN rfl hρ hw) post
  | false=>simp only[eE,Ts,if_false,Sc]at hL;obtain⟨R,hR,rfl⟩:=hL;exact wpIn_mono (EU hR hN rfl hρ hw) post
 | .seq x y,inR,L,Q,ρ,a,w,r,hL,hr,hw,hρ,hN=>by
  simp only[eE]at hL;split at hL;case h_2=>cases hL
  rename_i A B hA hB;simp only[RW]at hL;subst hL;simp only[LC.wp]at hw;refine wpIn_seq (wpIn_mono (ee hm x hA hr hw hρ hN) ?_);rintro e a1 w1 ⟨ρ1,h1,h2,h3,h4,h5⟩;cases e with
  | normal=>refine wpIn_mono (ee hm y hB hr h4 h1 h2) ?_;rintro e a2 w2 ⟨ρ2,g1,g2,g3,g4,g5⟩;exact⟨ρ2,g1,g2,h3.trans g3 h5 g5,g4,h5.trans g5⟩
  | _=>exact⟨ρ1,h1,h2,h3.weak (by simp[LC.plain];exact λh _=>h),h4,h5⟩
 | .cond c x y,inR,L,Q,ρ,a,w,r,hL,hr,hw,hρ,hN=>by
  simp only[eE]at hL;split at hL;case h_2=>cases hL
  rename_i A B hA hB;simp only[RW]at hL;subst hL;simp only[LC.wp]at hw;obtain⟨b,hb,h1,h2⟩:=hw;have hb':=bR (a:=a) (jt (λt v h=>hρ t v h) hb);cases b with
  | true=>exact wpIn_cond hb' (wpIn_mono (ee hm x hA hr (h1 rfl) (DD hρ) hN) λ_ _ _ h=>h.weak (by simp[LC.plain];exact λh _=>h))
  | false=>exact wpIn_cond hb' (wpIn_mono (ee hm y hB hr (h2 rfl) (DD hρ) hN) λ_ _ _ h=>h.weak (by simp[LC.plain]))
 | .block id x,inR,L,Q,ρ,a,w,r,hL,hr,hw,hρ,hN=>by
  simp only[eE,Sc]at hL;obtain⟨A,hA,rfl⟩:=hL;simp only[LC.wp]at hw;refine wpIn_block (wpIn_mono (ee hm x hA hr hw hρ hN) ?_);rintro e a1 w1 ⟨ρ1,h1,h2,h3,h4,h5⟩;cases e with
  | exit k=>
   simp only[postOf,eY]at h4;simp only[Exit.inBlock];split
   ·rename_i hk;rw[if_pos hk]at h4;exact⟨ρ1,h1,h2,h3,h4,h5⟩
   rename_i hk;rw[if_neg hk]at h4;exact⟨ρ1,h1,h2,h3,h4,h5⟩
  | _=>exact⟨ρ1,h1,h2,h3,h4,h5⟩
 | .loop x,inR,L,Q,ρ,a,w,r,hL,hr,hw,hρ,hN=>by
  simp only[eE,Sc]at hL;obtain⟨A,hA,rfl⟩:=hL;simp only[LC.wp]at hw;obtain⟨ks,I,⟨n,h0⟩,hround⟩:=hw;refine wpIn_loop_ghost (λn a1 w1=>∃ρ1,Sat ρ1 a1/\a1.tmps.size=N/\gV A.plain a.defers w.heap.size a1.defers w1.heap/\I n ρ1 w1.heap/\Same w w1) (n:=n) ⟨aY ks ρ,Ev hρ,hN,gV.refl ..,h0,Same.refl _⟩ ?_;rintro n a1 w1 ⟨ρ1,h1,h2,h3,h4,h5⟩;refine wpIn_mono (ee hm x hA hr (hround n ρ1 w1.heap h4) h1 h2) ?_;rintro e a2 w2 ⟨ρ2,g1,g2,g3,g4,g5⟩;have hm2:gV A.plain a.defers w.heap.size a2.defers w2.heap:=(h3.trans g3 h5 g5).weak V5;cases e with
  | normal=>obtain⟨m,hlt,hI⟩:=g4;exact⟨m,hlt,aY ks ρ2,Ev g1,g2,hm2,hI,h5.trans g5⟩
  | _=>exact⟨ρ2,g1,g2,hm2,g4,h5.trans g5⟩
 | .exit id,inR,L,Q,ρ,a,w,r,hL,hr,hw,hρ,hN=>by simp only[eE,RW]at hL;subst hL;exact wpIn_exit ⟨ρ,hρ,hN,gV.refl ..,hw,Same.refl _⟩
 | .ret,inR,L,Q,ρ,a,w,r,hL,hr,hw,hρ,hN=>by simp only[eE,RW]at hL;subst hL;exact wpIn_ret ⟨ρ,hρ,hN,gV.refl ..,hw,Same.refl _⟩
 | .label l,inR,L,Q,ρ,a,w,r,hL,hr,hw,hρ,hN=>by simp only[eE,RW]at hL;subst hL;exact wpIn_label ⟨ρ,hρ,hN,gV.refl ..,hw,Same.refl _⟩
 | .goto l,_,_,_,_,_,_,_,hL,_,_,_,_=>by simp[eE]at hL
 | .scope c,inR,L,Q,ρ,a,w,r,hL,hr,hw,hρ,hN=>by
  simp only[eE]at hL;have hw2:L.wp P (λe ρ h=>pS e=VG/\Q e ρ h) ρ w.heap:=xx (λe ρ h hp hq=>⟨hp,hq⟩) hw;refine Gk (wpIn_mono (ee hm c hL hr hw2 hρ hN) λe a w ⟨ρ,h1,h2,h3,h4,h5⟩=>?_);cases e with
  | panic ch=>exact⟨λl h=>(by cases h),ρ,h1,h2,h3,h4,h5⟩
  | goto l=>cases h4.1
  | outgrown=>cases h4.1
  | _=>exact⟨λl h=>(by cases h),ρ,h1,h2,h3,h4.2,h5⟩
 | .refuse s,_,_,_,_,_,_,_,hL,_,_,_,_=>by simp[eE]at hL
 | .rangeFunc f ps x y,inR,L,Q,ρ,a,w,r,hL,hr,hw,hρ,hN=>by
  simp only[eE]at hL;split at hL
  ·cases hL
  rename_i hin;obtain rfl:=hr (by simpa using hin);split at hL;case isFalse=>cases hL
  rename_i hps;split at hL;case h_2=>cases hL
  rename_i A B hA hB;split at hL;case isFalse=>cases hL
  simp only[RW]at hL;subst hL;exact E7 (λhw h1 h2=>ee hm x hA V5 hw h1 h2) (λhw h1 h2=>ee hm y hB V5 hw h1 h2) (λp hp=>by simpa using SR.1 hps p hp) hw hρ hN
end
def resE(P:Program):ResultVar->Option E
 | .tmp t=>VC (.tmp t)
 | .cell a t=>zb P t (.tmp a)
def pack:List Value->Value
 | [v]=>v
 | vs=>.tuple vs.toArray
structure LFn where
 res:List E
 body:LC
 deriving Inhabited
def rN:Code->List Nat
 | .region _ ops _=>(ops.toList.foldl (fun(p:List Nat × List Nat) o=>((tmpsOf o).foldl (λl t=>if p.2.contains t||l.contains t then l else t::l) p.1,match o.dst with | some d=>d::p.2 | none=>p.2)) ([],[])).1
 | .seq x y=>rN x++rN y
 | .cond _ x y=>rN x++rN y
 | .block _ x | .loop x | .scope x=>rN x
 | .rangeFunc f _ x y=>(match f with | .tmp t=>[t] | _=>[])++rN x++rN y
 | _=>[]
def mJ:Code->List Nat
 | .seq x y=>mJ x++mJ y
 | .cond c x y=>(match c with | .tmp t=>[t] | _=>[])++mJ x++mJ y
 | .block _ x | .loop x | .scope x=>mJ x
 | .rangeFunc _ _ x y=>mJ x++mJ y
 | _=>[]
def xo(fn:Func)(c:Code):List Nat:=(fn.results.toList.map fun | .tmp t=>t | .cell a _=>a)++(rN c).eraseDups
def aP(P:Program)(fn:Func):Option LFn:=
 match fn.body with
 | some c=>match fn.results.toList.mapM (resE P),eE P fn.ntmps (mJ c++xo fn c) (xo fn c) VH c with
  | some res,VC L=>VC ⟨res,L⟩
  | _,_=>VD
 | none=>VD
def lN:Nat->List Value->Env
 | _,[]=>[]
 | k,v::vs=>(k,v)::lN (k+1) vs
def dR(res:List E)(R:Value->Heap->Prop):Post
 | .normal,ρ,h | .ret,ρ,h=>∃vs,evs (look ρ) (vw h) res=VC vs/\R (pack vs) h
 | _,_,_=>False
theorem rB : ∀(vs:List Value) (k t:Nat) (v:Value),look (lN k vs) t=VC v->k<=t/\vs[t-k]? = VC v
 | [],_,_,_,h=>by simp[lN,look]at h
 | u::vs,k,t,v,h=>by
  simp only[lN,look]at h;split at h
  ·rename_i e;subst e;simp only[RW]at h;subst h;exact⟨RX _,by simp⟩
  rename_i e;obtain⟨h1,h2⟩:=rB vs (k+1) t v h;refine⟨by omega,?_⟩;have:t-k=(t-(k+1))+1:=by omega
  rw[this];simpa using h2
theorem HD{P:Program}{a:Act}{w:World}{F:ResultVar->Sem Value}(hF1 : ∀t,F (ResultVar.tmp t)=pure (a.tmps.getD t undef))
  (hF2 : ∀b t,F (ResultVar.cell b t)=(do loadVar t (<-asAddr (a.tmps.getD b undef)))) : ∀{rs:List ResultVar} {es:List E} {vs:List Value},rs.mapM (resE P)=VC es->evs (cA a) (vw w.heap) es=VC vs->
  (rs.mapM F).run P w=Result.ok vs w
 | [],es,vs,h,hv=>by simp at h;subst h;simp[evs]at hv;subst hv;simp
 | x::rs,es,vs,h,hv=>by
  simp only[Vl,Option.bind_eq_bind,Sq]at h;obtain⟨e,he,es',hes,h⟩:=h;simp only[Option.pure_def,RW]at h;subst h;simp only[evs]at hv;split at hv
  ·rename_i v vs' hv1 hv2;simp only[RW]at hv;subst hv;have ih:=HD hF1 hF2 hes hv2;cases x with
   | tmp t=>simp only[resE,RW]at he;subst he;simp only[ev,cA]at hv1;simp[hF1,hv1,ih]
   | cell a' t=>
    simp only[resE]at he;have hx : ∃u,ev (cA a) (vw w.heap) (.tmp a')=VC u:=by
     unfold zb at he;split at he
     ·simp only[RW]at he;subst he;obtain⟨u,hu,_⟩:=ld hv1;exact⟨u,hu⟩
     ·simp only[RW]at he;subst he;obtain⟨u,hu,_⟩:=ld hv1;exact⟨u,hu⟩
     cases he
    obtain⟨u,hu⟩:=hx;have h1:=run_load he hu hv1;simp only[ev,cA]at hu;cases u with
    | pointer o=>
     cases o with
     | none=>simp[Instr.loadAt,Instr.sureAddr,stuck,Sem.run]at h1
     | some ad=>simp[Instr.loadAt,Instr.sureAddr]at h1;simp[hF2,hu,asAddr,h1,ih]
    | _=>simp[Instr.loadAt,Instr.sureAddr,stuck,Sem.run]at h1
  cases hv
theorem NY(vs:List Value):(if h:vs.toArray.size=1 then vs.toArray[0] else Value.tuple vs.toArray)=pack vs:=by
 match vs with
 | []=>rfl
 | [v]=>rfl
 | v::u::l=>simp[pack]
variable{fn:Func}
theorem px{a:Act}{w:World}{es:List E}{vs:List Value}(h:fn.results.toList.mapM (resE P)=VC es)(hv:evs (cA a) (vw w.heap) es=VC vs):
  (results fn a.tmps).run P w = .ok (pack vs) w:=by unfold results;rw[U5];have h1:=HD (P:=P) (a:=a) (w:=w) (F:=λx=>match x with | .tmp t=>pure (a.tmps.getD t undef) | .cell b t=>do loadVar t (<-asAddr (a.tmps.getD b undef))) (λ_=>rfl) (λ_ _=>rfl) h hv;rw[<-NY];simp only[Sem.run_bind,Sem.run_map];erw [h1];simp[Result.andThen]
variable{args:List Value}
theorem xK{pp:PP}{L:LFn}{Q:Post}{w:World}{c:Code}(hm:P.follows .mixedOrders=VG)(hc:fn.body=VC c)(hL:aP P fn=VC L)(hn:args.length<=fn.ntmps)(hw:L.body.wp P Q (lN 0 args) w.heap):fn.results.toList.mapM (resE P)=VC L.res/\
  c.wpIn (Fw VD) 0 P (vZ fn.ntmps L.body.plain [] w Q) { tmps:=args.toArray++Array.replicate (fn.ntmps-args.toArray.size) undef,defers:=[] } w:=by
 unfold aP at hL;split at hL;case h_2=>cases hL
 rename_i c' hc';rw[hc]at hc';cases hc';split at hL;case h_2=>cases hL
 rename_i res B hres hB;simp only[RW]at hL;subst hL;have hsat:Sat (lN 0 args) { tmps:=args.toArray++Array.replicate (fn.ntmps-args.toArray.size) undef,defers:=[] }:=by
  intro t v hl;obtain⟨_,h2⟩:=rB args 0 t v hl;have:t<args.length:=by
   rcases Sb t args.length with h | h
   ·exact h
   simp[SM h]at h2
  simp only[Nat.sub_zero]at h2;simp only[UK,T3,this,if_true,UL];exact h2
 exact⟨hres,ee (r:=VD) hm c hB (λ_=>rfl) hw hsat Vt⟩
theorem vc{L:LFn}(hL:aP P fn=VC L): ∃c,fn.body=VC c:=by
 unfold aP at hL;split at hL
 ·rename_i c hc;exact⟨c,hc⟩
 cases hL
theorem AF{f:FuncId}{L:LFn}{h:Heap}{R:Value->Heap->Prop}(hm:P.follows .mixedOrders=VG)(hf:P.funcs[f]? = VC fn)(hL:aP P fn=VC L)(hn:args.length<=fn.ntmps)(hpl:L.body.plain=VG)(hw:L.body.wp P (dR L.res R) (lN 0 args) h):ay P f args.toArray h R:=by
 intro w hwh;subst hwh;obtain⟨c,hc⟩:=vc hL;obtain⟨hres,hwp⟩:=xK hm hc hL hn hw;refine(callsIn_wide (n:=0)).1 (callsIn_of_wp hf hc trivial (wpIn_mono hwp ?_));rintro e a1 w1 ⟨ρ1,h1,h2,⟨ms,h3,hms,_⟩,h4,h5⟩;rw[hms hpl]at h3;have fin:(∃vs,evs (look ρ1) (vw w1.heap) L.res=VC vs/\R (pack vs) w1.heap)->a1.defers=[]/\∃v,(results fn a1.tmps).run P w1 = .ok v w1/\∃u,Ending.returned v = .returned u/\R u w1.heap/\Same w w1:=by rintro⟨vs,g1,g2⟩;exact⟨h3,pack vs,px hres (tz (λt v h=>h1 t v h) g1),pack vs,rfl,g2,h5⟩
 cases e with
 | normal=>exact fin h4
 | ret=>exact fin h4
 | panic ch=>exact h4.2.elim
 | _=>exact h4.elim
abbrev ppOf(Rp:List PanicEntry->Heap->Prop):PP:=⟨Rp,λ_=>True⟩
theorem Ax{f:FuncId}{L:LFn}{h:Heap}{R:Value->Heap->Prop}{Rp:List PanicEntry->Heap->Prop}(hm:P.follows .mixedOrders=VG)(hf:P.funcs[f]? = VC fn)(hL:aP P fn=VC L)(hn:args.length<=fn.ntmps)(hpl:L.body.plain=VG)(hw:@LC.wp (ppOf Rp) P L.body (dR L.res R) (lN 0 args) h):jG P f args.toArray h R Rp:=by
 intro w hwh;subst hwh;obtain⟨c,hc⟩:=vc hL;obtain⟨hres,hwp⟩:=xK hm hc hL hn hw;refine(callsIn_wide (n:=0)).1 (callsIn_of_wp hf hc trivial (wpIn_mono hwp ?_));rintro e a1 w1 ⟨ρ1,h1,h2,⟨ms,h3,hms,_⟩,h4,h5⟩;rw[hms hpl]at h3;have fin:(∃vs,evs (look ρ1) (vw w1.heap) L.res=VC vs/\R (pack vs) w1.heap)->a1.defers=[]/\∃v,(results fn a1.tmps).run P w1 = .ok v w1/\((∃u,Ending.returned v = .returned u/\R u w1.heap/\Same w w1)\/∃ch,Ending.returned v = .panicked ch/\Rp ch w1.heap/\Same w w1):=by rintro⟨vs,g1,g2⟩;exact⟨h3,pack vs,px hres (tz (λt v h=>h1 t v h) g1),.inl ⟨pack vs,rfl,g2,h5⟩⟩
 cases e with
 | normal=>exact fin h4
 | ret=>exact fin h4
 | panic ch=>exact⟨h3,.inr ⟨ch,rfl,h4.2,h5⟩⟩
 | _=>exact h4.elim
structure oh(n:Nat)(h h':Heap):Prop where
 size:h'.size=h.size
 same : ∀b,b<n\/h[b]?≠VC (.deferred (VC []))->h'[b]? = h[b]?
theorem oh.refl(n:Nat)(h:Heap):oh n h h:=⟨rfl,λ_ _=>rfl⟩
def Dc(n:Nat)(res:List E)(R:Value->Heap->Prop):Post
 | .normal,ρ,h | .ret,ρ,h=>∀h',oh n h h'->∃vs,evs (look ρ) (vw h') res=VC vs/\R (pack vs) h'
 | _,_,_=>False
theorem wE{P:Program}{fn:Func}{a:Act}{w0:World}{R:Ending->World->Prop} : ∀(ms:List Nat) (w:World),ms.Nodup->(∀m∈ms,w0.heap.size<=m/\w.heap[m]? = VC (.deferred (VC [])))->Same w0 w->
  (∀w',oh w0.heap.size w.heap w'.heap->Same w0 w'->∃v,(results fn a.tmps).run P w' = .ok v w'/\R (.returned v) w')->
  LeavesInM (Fw VD) 0 P fn a.tmps R (ms.map λm=>{ target:=.collected m,args:=#[] }) .returning w
 | [],w,_,_,hS,h=>h w (oh.refl _ _) hS
 | m::ms,w,hnd,hms,hS,h=>by
  obtain⟨h1,h2⟩:=T1.1 hnd;obtain⟨hm1,hm2⟩:=hms m (Sg ..);have hS1:Same w0 (w.putObj m (.deferred VD)):=⟨hS.os,hS.output,hS.tape,by simpa[World.putObj]using hS.size,λb hb=>by
   have hne:b≠m:=λe=>by have:=(Sj.1 hb).1;omega
   rw[World.putObj_heap_other hne];exact hS.defs b hb⟩;refine⟨by simp,.inl ⟨m,_,rfl,run_takeDeferred hm2,wE ms _ h2 (λk hk=>?_) hS1 λw' hsw hS'=>h w' ⟨by rw[hsw.size];simp[World.putObj],λb hb=>?_⟩ hS'⟩⟩
  ·have hne:k≠m:=λe=>h1 (e▸hk);rw[World.putObj_heap_other hne];exact hms k (Sa _ hk)
  have hne:b≠m:=λe=>by
   subst e;rcases hb with hb | hb
   ·omega
   exact hb hm2
  have e:(w.putObj m (.deferred VD)).heap[b]? = w.heap[b]?:=World.putObj_heap_other hne;rw[hsw.same b (by rw[e];exact hb),e]
theorem zG{f:FuncId}{L:LFn}{h:Heap}{R:Value->Heap->Prop}(hm:P.follows .mixedOrders=VG)(hf:P.funcs[f]? = VC fn)(hL:aP P fn=VC L)(hn:args.length<=fn.ntmps)(hw:L.body.wp P (Dc h.size L.res R) (lN 0 args) h):ay P f args.toArray h R:=by
 intro w hwh;subst hwh;obtain⟨c,hc⟩:=vc hL;obtain⟨hres,hwp⟩:=xK hm hc hL hn hw;refine(callsIn_wide (n:=0)).1 (callsIn_of_wp_marks hf hc trivial (wpIn_mono hwp ?_));rintro e a1 w1 ⟨ρ1,h1,h2,⟨ms,h3,_,hms,hnd⟩,h4,h5⟩;have fin:(∀h',oh w.heap.size w1.heap h'->∃vs,evs (look ρ1) (vw h') L.res=VC vs/\R (pack vs) h')->LeavesInM (Fw VD) 0 P fn a1.tmps (λe w'=>∃u,e = .returned u/\R u w'.heap/\Same w w') a1.defers .returning w1:=by intro hq;rw[h3,TR];refine wE ms w1 hnd hms h5 λw' hsw hS=>?_;obtain⟨vs,g1,g2⟩:=hq w'.heap hsw;exact⟨pack vs,px hres (tz (λt v h=>h1 t v h) g1),pack vs,rfl,g2,hS⟩
 cases e with
 | normal=>exact fin h4
 | ret=>exact fin h4
 | panic ch=>exact h4.2.elim
 | _=>exact h4.elim
def gW(fn:Func):List Nat:=match fn.body with | some c=>mJ c++xo fn c | none=>[]
def DH(fn:Func):List Nat:=match fn.body with | some c=>xo fn c | none=>[]
def CC(fn:Func):Code:=match fn.body with | some (.seq c _)=>c | _=>.skip
def OR(fn:Func):Code:=match fn.body with | some (.seq _ (.seq c _))=>c | _=>.skip
def JK(fn:Func):Code:=match fn.body with | some (.seq _ (.seq _ c))=>c | _=>.skip
def Oo(fn:Func):Code:=match fn.body with | some (.seq _ c)=>c | _=>.skip
def KU:Code->Array Oper | .region _ ops _=>ops | _=>#[]
def OI:Code->Nat | .region i _ _=>i | _=>0
def OL(fn:Func)(i:Nat):Oper:=((KU (OR fn))[i]?).getD default
def PQ(fn:Func)(i:Nat):Oper:=((KU (CC fn))[i]?).getD default
def LC.tail:LC->LC | .seq _ y=>y | _=>.skip
section
variable{P:Program}{A B:List Nat}{x y:LC}{c d:Code}
structure FO where
 b:Nat
 o:Oper
 q:Option (Nat × E)
 a:Nat
def fAft(o:Oper):Nat:=(o.after.toList.filter (Region.binds .any)).foldl (λm x=>m||| 1 <<< x.on) 0
def fOps(P:Program):Nat->List Oper->List FO
 | _,[]=>[]
 | i,o::l=>⟨1 <<< i,o,(match o.dst,opE P o.op with | some d,VC e=>VC (d,e) | _,_=>VD),fAft o⟩::fOps P (i+1) l
def fHas(L b:Nat):Bool:=L&&& b != 0
def fQs:List FO->Nat->List FO × Nat
 | [],L=>([],L)
 | x::l,L=>match x.q with
  | none=>fQs l L
  | some _=>if !fHas L x.b&&(x.a&&& L == x.a) then(match fQs l (L||| x.b)with | (r,m)=>(x::r,m)) else fQs l L
def Lb(ops:List FO)(j:Nat):Option Nat:=match ops[j]? with | some x=>x.o.dst | none=>VD
def Qq(ops:List FO)(x:FO)(r:List E):List E:=match x.q with
 | none=>r
 | some (d,e)=>match x.o.guard with
  | none=>if r.any (·.occ d) then r.map (·.subst d e) else r++[e]
  | some (j,b)=>match Lb ops j with
   | some c=>if r.any (·.occG d c b) then r.map (·.dz d c b e) else(r++[E.tmp d]).map (·.dz d c b e)
   | none=>r
def G8(ops:List FO):List FO->List E->List E
 | [],r=>r
 | x::l,r=>Qq ops x (G8 ops l r)
def fDst:List FO->List Nat
 | []=>[]
 | x::l=>match x.o.dst with | some d=>d::fDst l | none=>fDst l
def fFin(ops:List FO)(live:List Nat)(qs:List FO):Reg:=
 let outs:=(fDst qs).filter live.contains
 let es:=G8 ops qs (outs.map E.tmp)
 .fin (fDst qs) (outs.zip es) (es.drop outs.length)
def N6(ops:List FO):List FO->List Nat
 | []=>[]
 | x::l=>tmpsOf x.o++((match x.o.guard with | some (j,_)=>(Lb ops j).toList | none=>[])++N6 ops l)
def Oa(ops:List FO)(live:List Nat)(qs:List FO)(x:FO)(rest:List FO)(tail:Bool)(next:Reg):Reg:=
 let us:=N6 ops rest
 let need:=λd=>live.contains d||us.contains d
 let outs:=(fDst qs).filter need
 let args:=tmpsOf x.o
 let keep:=match x.o.dst with | some d=>need d | none=>VH
 match x.o.guard with
 | none=>let es:=G8 ops qs (outs.map E.tmp++args.map E.tmp);.loud (fDst qs) (outs.zip es) (args.zip (es.drop outs.length)) VD (es.drop (outs.length+args.length)) tail x.o.op x.o.type x.o.dst keep next
 | some (j,b)=>match Lb ops j with
  | none=>next
  | some c=>
   let es:=G8 ops qs (outs.map E.tmp++(args.map E.tmp++[E.tmp c]));match es.drop (outs.length+args.length)with
   | g::chk=>.loud (fDst qs) (outs.zip es) (args.zip (es.drop outs.length)) (VC (g,b)) chk tail x.o.op x.o.type x.o.dst keep next
   | []=>next
def fU(ops:List FO)(live:List Nat):Nat->List FO->Reg
 | 0,_=>default
 | f+1,l=>
  let qs:=l.takeWhile (·.q.isSome);match l.dropWhile (·.q.isSome)with
  | []=>fFin ops live qs
  | x::rest=>Oa ops live qs x rest VH (fU ops live f rest)
def Oi:List Reg->Reg
 | []=>default
 | [x]=>x
 | x::l=>.both x (Oi l)
def fD(ops:List FO)(live:List Nat)(t:Nat):Nat->Nat->Reg
 | 0,_=>default
 | f+1,L=>match fQs ops L with
  | (qs,m)=>match ops.filter λx=>!fHas m x.b&&(x.a&&& m == x.a)with
   | []=>fFin ops live qs
   | rs=>Oi (rs.map λx=>Oa ops live qs x (ops.filter λy=>!fHas (m||| x.b) y.b) (t == x.b) (fD ops live t f (m||| x.b)))
def N9(R:Nat):List FO->List Nat->Nat
 | [],_=>0
 | x::l,D=>let d:=(D.zipIdx.foldl (λm p=>if fHas x.a (1 <<< p.2) then m||| p.1 else m) x.b);if x.q.isNone&&x.o.guard.isNone&&(R&&& d == R) then x.b else N9 R l (D++[d])
def C1:List FO->Nat
 | []=>0
 | x::l=>match x.q with | some (_,e)=>if e.reads then x.b||| C1 l else C1 l | none=>C1 l
def fReg(P:Program)(live:List Nat)(l:List Oper)(draw:Bool):LC:=
 let ops:=fOps P 0 l
 if draw then .reg VG (fD ops live (N9 (C1 ops) ops []) (l.length+1) 0) else .reg VH (fU ops live (l.length+1) ops)
def fC(P:Program)(A B:List Nat):Code->LC
 | .region _ ops draw=>fReg P A ops.toList draw
 | .seq x y=>.seq (fC P A B x) (fC P A B y)
 | .cond c x y=>.cond (opnd c) (zn B c) (fC P A B x) (fC P A B y)
 | .block i x=>.block i (fC P A B x)
 | .loop x=>.loop (fC P A B x)
 | .exit i=>.exit i
 | .ret=>.ret
 | .scope x=>fC P A B x
 | _=>.skip
def nsc:Code->Code
 | .scope x=>nsc x
 | .seq x y=>.seq (nsc x) (nsc y)
 | .cond c x y=>.cond c (nsc x) (nsc y)
 | .block i x=>.block i (nsc x)
 | .loop x=>.loop (nsc x)
 | c=>c
def cAt:Code->List Nat->Code
 | .scope x,l=>cAt x l
 | .seq x y,k::l=>if k=0 then cAt x l else cAt y l
 | .cond _ x y,k::l=>if k=0 then cAt x l else cAt y l
 | .block _ x,_::l=>cAt x l
 | .loop x,_::l=>cAt x l
 | c,_=>nsc c
def codeF(fn:Func):Code:=match fn.body with | some c=>c | none=>.skip
def fF(P:Program)(f:Func):LFn:=⟨(f.results.toList.mapM (resE P)).getD [],fC P (gW f) (DH f) (codeF f)⟩
structure Lf(P:Program)(A B:List Nat)(c:Code)(x:LC):Prop where
 h:fC P A B c=x
theorem lfS(h1:Lf P A B c x)(h2:Lf P A B d y):Lf P A B (.seq c d) (.seq x y):=⟨by simp only[fC];rw[h1.h,h2.h]⟩
theorem lfK{o:Operand}{e:E}{k:List Nat}(h1:Lf P A B c x)(h2:Lf P A B d y)(h0:opnd o=e:=by cbv)(h3:zn B o=k:=by cbv):Lf P A B (.cond o c d) (.cond e k x y):=⟨by subst h0;subst h3;simp only[fC];rw[h1.h,h2.h]⟩
theorem lfc(h:fC P A B c=x:=by cbv):Lf P A B c x:=⟨h⟩
theorem lfB{i:Nat}(h1:Lf P A B c x):Lf P A B (.block i c) (.block i x):=⟨by simp only[fC];rw[h1.h]⟩
theorem lfO(x:LC)(h1:fC P A B c=x:=by kernel_rfl):Lf P A B (.loop c) (.loop x):=⟨by simp only[fC];rw[h1]⟩
theorem mkA{α:Type}{l:List α}:Array.mk l=l.toArray:=rfl
abbrev lkF(P:Program)(f:Func){b c:LFn}(_:fF P f=c:=by cbv)(_:c=b:=by((try simp only[mkA]);rfl)):LFn:=b
abbrev lkL(P:Program)(f:Func)(A B:List Nat)(p:List Nat){b c:LC}(_:Lf P A B (cAt (codeF f) p) c)(_:c=b:=by((try simp only[mkA]);rfl)):LC:=b
abbrev lkG(P:Program)(f:Func)(A B:List Nat){a:List E}{b c:LC}(_:Lf P A B (nsc (codeF f)) c)(_:(f.results.toList.mapM (resE P)).getD []=a:=by cbv)(_:c=b:=by((try simp only[mkA]);rfl)):LFn:=⟨a,b⟩
abbrev lkA(f:Func){b:List Nat}(_:gW f=b:=by cbv):List Nat:=b
abbrev lkB(f:Func){b:List Nat}(_:DH f=b:=by cbv):List Nat:=b
def BK(t : TypeInfo) : TypeInfo := { t with str := "", zero := VD, methods := #[] }
abbrev lkQ(a:List TypeInfo){b:List TypeInfo}(_:a=b:=by cbv):List TypeInfo:=b
abbrev lkT(a:Array TypeInfo){b:Array TypeInfo}(_:a=b:=by cbv):Array TypeInfo:=b
end
end Go.Lft
namespace Go.Lft
section
set_option maxRecDepth 100000
def QT0:List TypeInfo:=lkQ ((Tryz.progTables.types.toList.take 60).map BK)
def QT1:List TypeInfo:=lkQ (((Tryz.progTables.types.toList.drop 60).take 60).map BK)
def QT2:List TypeInfo:=lkQ (((Tryz.progTables.types.toList.drop 120).take 60).map BK)
def QT3:List TypeInfo:=lkQ (((Tryz.progTables.types.toList.drop 180).take 60).map BK)
def QT4:List TypeInfo:=lkQ (((Tryz.progTables.types.toList.drop 240).take 60).map BK)
def QT5:List TypeInfo:=lkQ ((Tryz.progTables.types.toList.drop 300).map BK)
def QTT:Array TypeInfo:=lkT (QT0++QT1++QT2++QT3++QT4++QT5).toArray
def QP:Program:={ (default:Program)with types:=QTT }
end
section
variable{po:OP}{pp:PP}
def sat{α:Type}(o:Option α)(K:α->Prop):Prop:=∃v,o=VC v/\K v
variable{α:Type}
@[simp] theorem lA{v:α}{K:α->Prop}:sat (VC v) K=K v:=by simp[sat]
@[simp] theorem QB{K:α->Prop}:sat VD K=False:=by simp[sat]
@[congr] theorem P7{o o':Option α}{K:α->Prop}(h:o=o'):sat o K=sat o' K:=by rw[h]
def pj(o:Option Value)(A B:Prop):Prop:=∃b,o=VC (.bool b)/\(b=VG->A)/\(b=VH->B)
@[simp] theorem Gl{A B:Prop}:pj (VC (.bool VG)) A B=A:=by simp[pj]
@[simp] theorem Dn{A B:Prop}:pj (VC (.bool VH)) A B=B:=by simp[pj]
@[simp] theorem nG{A B p:Prop}[Decidable p]:pj (VC (.bool (decide p))) A B=((p->A)/\(¬p->B)):=by simp[pj]
variable{b:Bool}
@[simp] theorem P6{A B:Prop}:pj (VC (.bool (!b))) A B=pj (VC (.bool b)) B A:=by cases b<;>simp[pj]
@[congr] theorem OK{o o':Option Value}{A B:Prop}(h:o=o'):pj o A B=pj o' A B:=by rw[h]
theorem mg{A B:Prop}:pj (VC (.bool b)) A B=((b=VG->A)/\(b=VH->B)):=by simp[pj]
section
variable{P:Program}{Q:Post}{ρ:Env}{h:Heap}
@[congr] theorem P2{x:LC}{ρ':Env}{h':Heap}(hρ:ρ=ρ')(hh:h=h'):LC.wp P x Q ρ h=LC.wp P x Q ρ' h':=by rw[hρ,hh]
@[congr] theorem OM{m:Option View}{r:Reg}{Q:Env->Heap->Prop}{ρ':Env}{h':Heap}(hρ:ρ=ρ')(hh:h=h'):eZ P m r Q ρ h=eZ P m r Q ρ' h':=by rw[hρ,hh]
@[simp] theorem wG:LC.wp P .skip Q ρ h=Q .normal ρ h:=rfl
@[simp] theorem Rh:LC.wp P .ret Q ρ h=Q .ret ρ h:=rfl
@[simp] theorem we{i:Nat}:LC.wp P (.exit i) Q ρ h=Q (.exit i) ρ h:=rfl
@[simp] theorem wI{x y:LC}:LC.wp P (.seq x y) Q ρ h=x.wp P (fL (y.wp P Q) Q) ρ h:=rfl
@[simp] theorem aX{i:Nat}{x:LC}:LC.wp P (.block i x) Q ρ h=x.wp P (eY i Q) ρ h:=rfl
@[simp] theorem nK{r:Reg}:LC.wp P (.reg VH r) Q ρ h=eZ P VD r (Q .normal) ρ h:=rfl
variable{kill:List Nat}
@[simp] theorem oE{c:E}{x y:LC}:LC.wp P (.cond c kill x y) Q ρ h=pj (ev (look ρ) (vw h) c) (x.wp P Q (cK ρ kill) h) (y.wp P Q (cK ρ kill) h):=rfl
theorem js{x:LC}(ks:List Nat)(I:Nat->Env->Heap->Prop)(n:Nat)(h0:I n (aY ks ρ) h)(hr : ∀n ρ h,I n ρ h->∀K:Env->Heap->Prop,(∀m ρ' h',m<n->I m (aY ks ρ') h'->K ρ' h')->x.wp P (fL K Q) ρ h):LC.wp P (.loop x) Q ρ h:=
 ⟨ks,I,⟨n,h0⟩,λn ρ h hI=>hr n ρ h hI (λρ' h'=>∃m,m<n/\I m (aY ks ρ') h') λm _ _ hlt hI'=>⟨m,hlt,hI'⟩⟩
@[simp] theorem P8:aY [] ρ=[]:=rfl
variable{sets:List (Nat × E)}
@[simp] theorem kN{m:Option View}{Q:Env->Heap->Prop}{chk:List E}:
  eZ P m (.fin kill sets chk) Q ρ h=sat (evP (look ρ) (part m h) sets) λvs=>okE (look ρ) (part m h) chk/\Q (dC (cK ρ kill) vs) h:=rfl
@[simp] theorem iQ:part VD h=vw h:=rfl
variable{H:View}
@[simp] theorem nP:part (VC H) h=H:=rfl
@[simp] theorem Og{S:View->View->Prop}:qK S VD h=True:=by simp[qK]
@[simp] theorem Oq{S:View->View->Prop}:qK S (VC H) h=S H (vw h):=by simp[qK]
@[simp] theorem OT:keeps VD h=True:=by simp[keeps]
@[simp] theorem Pt:keeps (VC H) h=H.le (vw h):=by simp[keeps]
attribute [simp] setE dC putE lN
@[simp] theorem QQ{v:Value}:pack [v]=v:=rfl
@[simp] theorem QU{v u:Value}:pack [v,u] = .tuple #[v,u]:=rfl
@[simp] theorem O7{v u x:Value}:pack [v,u,x] = .tuple #[v,u,x]:=rfl
@[simp] theorem Qa:pack [] = .tuple #[]:=rfl
@[simp] theorem QO{t:Nat}:look [] t=none:=rfl
@[simp] theorem xz{k t:Nat}{v:Value}:look ((k,v)::ρ) t=if k=t then VC v else look ρ t:=rfl
@[simp] theorem gp{K:Env->Heap->Prop}:fL K Q .normal ρ h=K ρ h:=rfl
@[simp] theorem Qd{K:Env->Heap->Prop}:fL K Q .ret ρ h=Q .ret ρ h:=rfl
@[simp] theorem ry{K:Env->Heap->Prop}{i:Nat}:fL K Q (.exit i) ρ h=Q (.exit i) ρ h:=rfl
@[simp] theorem M3{i:Nat}:eY i Q .normal ρ h=Q .normal ρ h:=rfl
@[simp] theorem P1{i:Nat}:eY i Q .ret ρ h=Q .ret ρ h:=rfl
@[simp] theorem qA{i k:Nat}:eY i Q (.exit k) ρ h=if k=i then Q .normal ρ h else Q (.exit k) ρ h:=rfl
@[simp] theorem OZ{es:List E}{R:Value->Heap->Prop}:dR es R .ret ρ h=sat (evs (look ρ) (vw h) es) λvs=>R (pack vs) h:=rfl
@[simp] theorem Ma{es:List E}{R:Value->Heap->Prop}:dR es R .normal ρ h=sat (evs (look ρ) (vw h) es) λvs=>R (pack vs) h:=rfl
@[simp] theorem pA{σ:Nat->Option Value}:evP σ H []=VC []:=rfl
@[simp] theorem mS{σ:Nat->Option Value}{t:Nat}{e:E}{l:List (Nat × E)}:evP σ H ((t,e)::l)=(ev σ H e).bind λv=>(evP σ H l).bind λvs=>VC ((t,v)::vs):=by simp only[evP];cases ev σ H e<;>cases evP σ H l<;>rfl
@[simp] theorem Q2{σ:Nat->Option Value}:evs σ H []=VC []:=rfl
@[simp] theorem Qm{σ:Nat->Option Value}{e:E}{l:List E}:evs σ H (e::l)=(ev σ H e).bind λv=>(evs σ H l).bind λvs=>VC (v::vs):=by simp only[evs];cases ev σ H e<;>cases evs σ H l<;>rfl
@[simp] theorem oV{σ:Nat->Option Value}:okE σ H []=True:=rfl
@[simp] theorem QE{σ:Nat->Option Value}{e:E}{l:List E}:okE σ H (e::l)=(sat (ev σ H e) λ_=>okE σ H l):=by simp only[okE,sat];exact propext ⟨λ⟨⟨v,hv⟩,h⟩=>⟨v,hv,h⟩,λ⟨v,hv,h⟩=>⟨⟨v,hv⟩,h⟩⟩
@[simp] theorem Je{ts:List Nat}:cK [] ts=[]:=rfl
@[simp] theorem oG{k:Nat}{v:Value}{ts:List Nat}:cK ((k,v)::ρ) ts=if ts.contains k then cK ρ ts else(k,v)::cK ρ ts:=by simp only[cK,UP];split<;>split<;>simp_all
theorem gP{x:LC}(M:Env->Heap->Prop){N:Env->Heap->Prop}(h1 : ∀K:Env->Heap->Prop,(∀ρ h,M ρ h->K ρ h)->x.wp P (fL K Q) ρ h)(h2 : ∀ρ h,M ρ h->N ρ h):LC.wp P x (fL N Q) ρ h:=
 Lp (λe ρ h hq=>by cases e<;>first | exact h2 _ _ hq | exact hq) (h1 M λ_ _ h=>h)
theorem AD{chk:List E}{vs:List (Nat × Value)}(h1:evP (look ρ) (vw h) sets=VC vs)(h2:okE (look ρ) (vw h) chk)(h3:Q .normal (dC (cK ρ kill) vs) h):
  LC.wp P (.reg VG (.fin kill sets chk)) Q ρ h:=⟨vw h,View.zv (View.le_refl _),vs,h1,h2,h3⟩
@[simp] theorem Ln{chk:List E}:LC.wp P (.reg VG (.fin kill sets chk)) Q ρ h=sat (evP (look ρ) (vw h) sets) λvs=>okE (look ρ) (vw h) chk/\Q .normal (dC (cK ρ kill) vs) h:=by
 refine propext ⟨?_,λ⟨vs,h1,h2,h3⟩=>AD h1 h2 h3⟩;rintro⟨H,hH,vs,h1,h2,h3⟩;have e1 : ∀{l:List (Nat × E)} {vs},evP (look ρ) H l=VC vs->evP (look ρ) (vw h) l=VC vs:=by
  intro l;induction l with
  | nil=>intro vs h;exact h
  | cons p l ih=>
   intro vs h;obtain⟨t,e⟩:=p;simp only[evP]at h ⊢;split at h
   ·rename_i v vs' hv hvs;simp only[gY hH hv,ih hvs];exact h
   cases h
 have e2 : ∀{l:List E},okE (look ρ) H l->okE (look ρ) (vw h) l:=by
  intro l;induction l with
  | nil=>intro h;exact h
  | cons e l ih=>intro ⟨⟨v,hv⟩,h⟩;exact⟨⟨v,gY hH hv⟩,ih h⟩
 exact⟨vs,e1 h1,e2 h2,h3⟩
variable{args:List Value}
theorem ao{P:Program}{f:FuncId}{fn:Func}{L:LFn}{h:Heap}{R:Value->Heap->Prop}(hm:P.follows .mixedOrders=VG)(hf:P.funcs[f]? = VC fn)(hL:aP P fn=VC L)(hn:args.length<=fn.ntmps)(hw : ∀K:Value->Heap->Prop,(∀v h',R v h'->K v h')->@LC.wp noPP P L.body (dR L.res K) (lN 0 args) h)(hpl:L.body.plain=true:=by kernel_rfl):ay P f args.toArray h R:=
 AF hm hf hL hn hpl (hw R λ_ _ h=>h)
theorem jk{P:Program}{f:FuncId}{fn:Func}{L:LFn}{h:Heap}{R:Value->Heap->Prop}{Rp:List PanicEntry->Heap->Prop}(hm:P.follows .mixedOrders=VG)(hf:P.funcs[f]? = VC fn)(hL:aP P fn=VC L)(hn:args.length<=fn.ntmps)(hw : ∀(K:Value->Heap->Prop) (Kp:List PanicEntry->Heap->Prop),(∀v h',R v h'->K v h')->(∀ch h',Rp ch h'->Kp ch h')->@LC.wp (ppOf Kp) P L.body (dR L.res K) (lN 0 args) h)(hpl:L.body.plain=true:=by kernel_rfl):jG P f args.toArray h R Rp:=
 Ax hm hf hL hn hpl (hw R Rp (λ_ _ h=>h) λ_ _ h=>h)
theorem rX{P:Program}{f:FuncId}{fn:Func}{L:LFn}{h:Heap}{R:Value->Heap->Prop}(hm:P.follows .mixedOrders=VG)(hf:P.funcs[f]? = VC fn)(hL:aP P fn=VC L)(hn:args.length<=fn.ntmps)(hw : ∀K:Value->Heap->Prop,(∀v h',R v h'->K v h')->@LC.wp noPP P L.body (Dc h.size L.res K) (lN 0 args) h):ay P f args.toArray h R:=
 zG hm hf hL hn (hw R λ_ _ h=>h)
section
variable{σ:Nat->Option Value}{H:View}{x y c:E}{v:Value}{a b:Int}{k:IntKind}
@[simp] theorem rY{t:Nat}:ev σ H (.tmp t)=σ t:=rfl
@[simp] theorem Ce:ev σ H (.con v)=VC v:=rfl
@[simp] theorem QA{o:Un}:ev σ H (.un o x)=(ev σ H x).bind (o.ev H):=by simp only[ev];cases ev σ H x<;>rfl
@[simp] theorem nO{o:Bn}:ev σ H (.bin o x y)=(ev σ H x).bind λv=>(ev σ H y).bind (o.ev v):=by simp only[ev];cases ev σ H x<;>cases ev σ H y<;>rfl
@[simp] theorem QN(c:Prop)[Decidable c](x y:Bool):(if c then VC (Value.bool x) else VC (Value.bool y))=VC (.bool (if c then x else y)):=by split<;>rfl
@[simp] theorem PY:ev σ H (.ite c x y)=(ev σ H c).bind λu=>(vB u).bind λb=>if b then ev σ H x else ev σ H y:=by
 simp only[ev];cases ev σ H c with
 | none=>rfl
 | some u=>
  cases u<;>try rfl
  rename_i b;cases b<;>rfl
def gdv(b:Bool):Value->Value->Value
 | .bool d,v=>if d=b then v else undef
 | _,_=>undef
def gdO(b:Bool):Value->Option Value->Option Value
 | .bool d,o=>if d=b then o else VC undef
 | _,_=>VC undef
@[simp] theorem QJ{b:Bool}:ev σ H (.gd c b x)=(ev σ H c).bind λu=>gdO b u (ev σ H x):=by
 simp only[ev];cases hc:ev σ H c with
 | none=>rfl
 | some u=>
  cases u<;>try rfl
  rename_i d;cases d<;>cases b<;>rfl
@[simp] theorem QW{b:Bool}{u v:Value}:gdO b u (VC v)=VC (gdv b u v):=by cases u<;>simp only[gdO,gdv];split<;>rfl
@[simp] theorem RL{b:Bool}{o:Option Value}:gdO b (.bool b) o=o:=by simp[gdO]
@[simp] theorem RN{o:Option Value}:gdO VG (.bool VH) o=VC undef:=rfl
@[simp] theorem RJ{o:Option Value}:gdO VH (.bool VG) o=VC undef:=rfl
@[simp] theorem Rv{b:Bool}{v:Value}:gdv b (.bool b) v=v:=by simp[gdv]
@[simp] theorem Rm{v:Value}:gdv VG (.bool VH) v=undef:=rfl
@[simp] theorem Rn{v:Value}:gdv VH (.bool VG) v=undef:=rfl
@[simp] theorem RD{p:Option Addr}{n m:Nat}:Un.ev H .len (.slice p n m)=VC (Vz VA n):=rfl
@[simp] theorem RB{b:Bool}:Un.ev H .not (.bool b)=VC (.bool (!b)):=rfl
@[simp] theorem Rj{b:Bool}:vB (.bool b)=VC b:=rfl
@[simp] theorem Rq:vI (.int k a)=VC (k,a):=rfl
@[simp] theorem Ru{f:IntKind->Int->Int->Option Value}:i2 (.int k a) (.int k b) f=f k a b:=by simp[i2]
@[simp] theorem JX:Bn.ev (.cmp .lss) (.int k a) (.int k b)=VC (.bool (decide (a<b))):=by simp[Bn.ev,cmpI]
@[simp] theorem Rt:Bn.ev (.cmp .leq) (.int k a) (.int k b)=VC (.bool (decide (a<=b))):=by simp[Bn.ev,cmpI]
@[simp] theorem Ro:Bn.ev (.cmp .gtr) (.int k a) (.int k b)=VC (.bool (decide (b<a))):=by simp[Bn.ev,cmpI]
@[simp] theorem RM:Bn.ev (.cmp .geq) (.int k a) (.int k b)=VC (.bool (decide (b<=a))):=by simp[Bn.ev,cmpI]
@[simp] theorem RO:Bn.ev (.cmp .eql) (.int k a) (.int k b)=VC (.bool (decide (a=b))):=by simp[Bn.ev,cmpI];rfl
@[simp] theorem RH:Bn.ev (.cmp .neq) (.int k a) (.int k b)=VC (.bool (!decide (a=b))):=by simp[Bn.ev,cmpI];rfl
@[simp] theorem C3:Bn.ev (.arith .add) (.int k a) (.int k b)=VC (.int k (k.wrap (a+b))):=by simp[Bn.ev,zD]
@[simp] theorem RK:Bn.ev (.arith .sub) (.int k a) (.int k b)=VC (.int k (k.wrap (a-b))):=by simp[Bn.ev,zD]
@[simp] theorem RP(h:b≠0):Bn.ev (.div .rem) (.int k a) (.int k b)=VC (.int k (a.tmod b)):=by simp[Bn.ev,divI,h]
@[simp] theorem RE(h:b≠0):Bn.ev (.div .quo) (.int k a) (.int k b)=VC (.int k (k.wrap (a.tdiv b))):=by simp[Bn.ev,divI,h]
@[simp] theorem PG:Bn.ev .min (.int k a) (.int k b)=VC (.int k (if b<a then b else a)):=by simp[Bn.ev]
@[simp] theorem RG:Bn.ev .max (.int k a) (.int k b)=VC (.int k (if a<b then b else a)):=by simp[Bn.ev]
@[simp] theorem Rr{n:Bool}{p q:Bool}:Bn.ev (.eqB n) (.bool p) (.bool q)=VC (.bool ((p == q) != n)):=rfl
@[simp] theorem RI:Bn.ev (.arith .mul) (.int k a) (.int k b)=VC (.int k (k.wrap (a*b))):=by simp[Bn.ev,zD]
end
end
end
def View.cf(H:View):View:=λb=>match H b with
 | some (.cells c T fz)=>VC (.cells c T fz)
 | _=>VD
variable{H:View}
theorem View.Dq{b:Nat}{c:Array Value}{T:TypeId}{fz:Nat × Nat}(h:H b=VC (.cells c T fz)):H.cf b=VC (.cells c T fz):=by unfold View.cf;rw[h]
theorem View.mX:H.cf.le H:=λb o h=>by
 unfold View.cf at h;split at h
 ·rename_i e;rw[e];exact h
 cases h
class Rep(α:Type) where
 n:Nat
 agg:Bool
 rd:View->List Value->α->Prop
 mono : ∀{H K:View} {cs:List Value} {d:α},H.le K->rd H cs d->rd K cs d
 len : ∀{H:View} {cs:List Value} {d:α},rd H cs d->cs.length=n
 one:agg=VH->n=1
 flat : ∀{H:View} {cs:List Value} {d:α},rd H cs d->∀u∈cs,u.oneCell'=VG
 pos:0<n
 cf : ∀{H:View} {cs:List Value} {d:α},rd H cs d->rd H.cf cs d
def Rd{α:Type}[Rep α](H:View)(v:Value)(d:α):Prop:=
 if Rep.agg α then ∃cs:Array Value,v = .agg cs/\Rep.rd H cs.toList d else Rep.rd H [v] d
def gN(H:View)(a:Addr)(cs:List Value):Prop:=
 ∃(c:Array Value) (T:TypeId) (fz:Nat × Nat),a.spot=VD/\H a.block=VC (.cells c T fz)/\(c.toList.drop a.off).take cs.length=cs
def At{α:Type}[Rep α](H:View)(a:Addr)(d:α):Prop:=∃cs,gN H a cs/\Rep.rd H cs d
variable{K:View}
theorem C6(hk:H.le K){a:Addr}{cs:List Value}(h:gN H a cs):gN K a cs:=
 let ⟨c,T,fz,h1,h2,h3⟩:=h
 ⟨c,T,fz,h1,hk _ _ h2,h3⟩
theorem At.mono{α:Type}[Rep α]{H K:View}(hk:H.le K){a:Addr}{d:α}(h:At H a d):At K a d:=
 let ⟨cs,h1,h2⟩:=h
 ⟨cs,C6 hk h1,Rep.mono hk h2⟩
theorem At.cf{α:Type}[Rep α]{H:View}{a:Addr}{d:α}(h:At H a d):At H.cf a d:=by obtain⟨cs,⟨c,T,fz,h1,h2,h3⟩,h4⟩:=h;exact⟨cs,⟨c,T,fz,h1,View.Dq h2,h3⟩,Rep.cf h4⟩
theorem Rd.cf{α:Type}[Rep α]{H:View}{v:Value}{d:α}(h:Rd H v d):Rd H.cf v d:=by
 unfold Rd at *;split
 ·rename_i ha;rw[if_pos ha]at h;obtain⟨cs,h1,h2⟩:=h;exact⟨cs,h1,Rep.cf h2⟩
 rename_i ha;rw[if_neg ha]at h;exact Rep.cf h
theorem Rd.mono{α:Type}[Rep α]{H K:View}(hk:H.le K){v:Value}{d:α}(h:Rd H v d):Rd K v d:=by
 unfold Rd at *;split
 ·rename_i ha;rw[if_pos ha]at h;obtain⟨cs,h1,h2⟩:=h;exact⟨cs,h1,Rep.mono hk h2⟩
 rename_i ha;rw[if_neg ha]at h;exact Rep.mono hk h
theorem bF{a:Addr}(h:a.spot=VD)(n:Nat):a.add n=⟨a.block,a.off+n,VD⟩:=by obtain⟨b,o,s⟩:=a;simp only at h;subst h;unfold Addr.add;split<;>simp_all
theorem kO{a:Addr}{cs:List Value}(h:gN H a cs){i:Nat}{v:Value}(hv:cs[i]? = VC v):aq H (a.add i)=VC v:=by
 obtain⟨c,T,fz,hs,hb,he⟩:=h;rw[bF hs];simp only[aq,hb];have hi:i<cs.length:=by
  rcases Sb i cs.length with h | h
  ·exact h
  simp[SM h]at hv
 rw[<-he]at hv;simp only[Tu,hi,if_true,Ug]at hv;simpa using hv
theorem C8{a:Addr}{v:Value}(h:gN H a [v]):aq H a=VC v:=by have:=kO h (i:=0) (v:=v) rfl;simpa[Addr.add]using this
theorem gm{H:View}{a:Addr}{cs:List Value}(h:gN H a cs) : ∀(m i:Nat) (acc:Array Value),i+m=cs.length->dY H a i m acc=VC (acc++(cs.drop i).toArray)
 | 0,i,acc,hi=>by
  have:cs.drop i=[]:=by simp;omega
  simp[dY,this]
 | m+1,i,acc,hi=>by
  have hlt:i<cs.length:=by omega
  have e:cs[i]? = VC cs[i]:=SJ hlt;simp only[dY,kO h e];rw[gm h m (i+1) _ V4];rw[SD hlt];simp
theorem DA{a:Addr}{cs:List Value}(h:gN H a cs)(o m:Nat)(hm:o+m<=cs.length):gN H (a.add o) ((cs.drop o).take m):=by
 obtain⟨c,T,fz,hs,hb,he⟩:=h;rw[bF hs];refine⟨c,T,fz,rfl,hb,?_⟩;have hl:((cs.drop o).take m).length=m:=by simp;omega
 rw[hl];have e1:(cs.drop o).take m=(((c.toList.drop a.off).take cs.length).drop o).take m:=by rw[he]
 rw[e1,TB,TC,TU];congr 1;omega
variable{α:Type}
theorem At.load[Rep α]{a:Addr}{d:α}(h:At H a d)(ha:Rep.agg α=VH): ∃v,aq H a=VC v/\Rd H v d:=by
 obtain⟨cs,h1,h2⟩:=h;have hl:=Rep.len h2;rw[Rep.one ha]at hl;match cs,hl with
 | [v],_=>exact⟨v,C8 h1,by unfold Rd;rw[if_neg (by simp[ha])];exact h2⟩
theorem At.bI{α:Type}[Rep α]{H:View}{a:Addr}{d:α}(h:At H a d)(ha:Rep.agg α=VG) : ∃v,Un.ev H (.bI (Rep.n α)) (VF (VC a))=VC v/\Rd H v d:=by
 obtain⟨cs,h1,h2⟩:=h;have hl:=Rep.len h2;refine⟨.agg cs.toArray,?_,?_⟩
 ·have:=gm h1 cs.length 0 #[] V4;rw[hl]at this;simp[Un.ev,vP,this]
 unfold Rd;rw[if_pos ha];exact⟨_,rfl,by simpa using h2⟩
instance:Rep Int where
 n:=1
 agg:=false
 rd:=λ_ cs d=>cs=[Vz VA d]/\-9223372036854775808<=d/\d<=9223372036854775807
 mono:=λ_ h=>h
 len:=λh=>by rw[h.1];rfl
 one:=λ_=>rfl
 flat:=λh u hu=>by rw[h.1]at hu;simp at hu;subst hu;rfl
 pos:=US
 cf:=λh=>h
structure I32 where
 v:Int
 deriving DecidableEq,Inhabited
instance:Rep I32 where
 n:=1
 agg:=false
 rd:=λ_ cs d=>cs=[Vz VB d.v]/\-2147483648<=d.v/\d.v<=2147483647
 mono:=λ_ h=>h
 len:=λh=>by rw[h.1];rfl
 one:=λ_=>rfl
 flat:=λh u hu=>by rw[h.1]at hu;simp at hu;subst hu;rfl
 pos:=US
 cf:=λh=>h
instance:Rep Bool where
 n:=1
 agg:=false
 rd:=λ_ cs d=>cs=[.bool d]
 mono:=λ_ h=>h
 len:=λh=>by rw[h];rfl
 one:=λ_=>rfl
 flat:=λh u hu=>by rw[h]at hu;simp at hu;subst hu;rfl
 pos:=US
 cf:=λh=>h
theorem bu{v:Value}{d:Int}:Rd H v d↔v = Vz VA d/\-9223372036854775808<=d/\d<=9223372036854775807:=by simp[Rd,Rep.agg,Rep.rd]
theorem F9{v:Value}{d:I32}:Rd H v d↔v = Vz VB d.v/\-2147483648<=d.v/\d.v<=2147483647:=by simp[Rd,Rep.agg,Rep.rd]
theorem qN{v:Value}{d:Bool}:Rd H v d↔v = .bool d:=by simp[Rd,Rep.agg,Rep.rd]
def SlRd{α:Type}[Rep α](H:View)(v:Value)(l:List α):Prop:=
 ∃a cap,v = .slice a l.length cap/\l.length<=cap/\l.length<=140737488355328/\
  (l=[]\/∃ad,a=VC ad/\ad.spot=VD/\∀(i:Nat) (hi:i<l.length),At H (ad.add (i*Rep.n α)) l[i])
instance {α:Type}[Rep α]:Rep (List α) where
 n:=1
 agg:=false
 rd:=λH cs l=>∃v,cs=[v]/\SlRd H v l
 mono:=λhk h=>by
  obtain⟨v,h1,a,cap,h2,h3,h4,h5⟩:=h
  refine⟨v,h1,a,cap,h2,h3,h4,?_⟩
  rcases h5 with h5 | ⟨ad,h6,h7,h8⟩
  ·exact .inl h5
  ·exact .inr ⟨ad,h6,h7,λi hi=>(h8 i hi).mono hk⟩
 len:=λ⟨v,h,_⟩=>by rw[h];rfl
 one:=λ_=>rfl
 flat:=λ⟨v,h,a,cap,h2,_⟩ u hu=>by rw[h]at hu;simp at hu;subst hu;rw[h2];rfl
 pos:=US
 cf:=λh=>by
  obtain⟨v,h1,a,cap,h2,h3,h4,h5⟩:=h
  refine⟨v,h1,a,cap,h2,h3,h4,?_⟩
  rcases h5 with h5 | ⟨ad,h6,h7,h8⟩
  ·exact .inl h5
  ·exact .inr ⟨ad,h6,h7,λi hi=>(h8 i hi).cf⟩
theorem dw[Rep α]{v:Value}{l:List α}:Rd H v l↔SlRd H v l:=by simp[Rd,Rep.agg,Rep.rd]
def slA:Value->Addr
 | VE (VC a) _ _=>a
 | _=>default
section
variable{α:Type}[Rep α]{H:View}{v:Value}{l:List α}
theorem SlRd.len(h:SlRd H v l){K:View}:Un.ev K .len v=VC (Vz VA l.length):=by obtain⟨a,cap,rfl,_⟩:=h;rfl
theorem SlRd.bound(h:SlRd H v l):l.length<=140737488355328:=by obtain⟨a,cap,_,_,h,_⟩:=h;exact h
theorem SlRd.idx(h:SlRd H v l){k:IntKind}{i:Int}(h0:0<=i)(h1:i<l.length):Bn.ev (.idx (Rep.n α)) v (.int k i)=VC (VF (VC ((slA v).add (i.toNat*Rep.n α)))):=by
 obtain⟨a,cap,rfl,_,_,h⟩:=h;rcases h with rfl | ⟨ad,rfl,_,_⟩
 ·simp at h1;omega
 simp[Bn.ev,vL,vI,slA,h0,h1]
theorem SlRd.idx1(h:SlRd H v l)(hn:Rep.n α=1){k:IntKind}{i:Int}(h0:0<=i)(h1:i<l.length):Bn.ev (.idx 1) v (.int k i)=VC (VF (VC ((slA v).add i.toNat))):=by have:=h.idx (k:=k) h0 h1;rw[hn,SX]at this;exact this
theorem SlRd.at(h:SlRd H v l){i:Nat}(hi:i<l.length):At H ((slA v).add (i*Rep.n α)) l[i]:=by
 obtain⟨a,cap,rfl,_,_,h⟩:=h;rcases h with rfl | ⟨ad,rfl,_,h⟩
 ·simp at hi
 exact h i hi
theorem SlRd.mono(h:SlRd H v l){K:View}(hk:H.le K):SlRd K v l:=dw.1 (Rd.mono hk (dw.2 h))
end
theorem SlRd.take{α:Type}[Rep α]{H:View}{v:Value}{l:List α}(h:SlRd H v l){n:Nat}(hn:n<=l.length){kd:IntKind} : ∃u,Bn.ev .hi v (.int kd n)=VC u/\SlRd H u (l.take n):=by
 obtain⟨a,cap,rfl,h1,h2,h3⟩:=h;refine⟨.slice a n cap,by simp[Bn.ev,vL,vI];omega,a,cap,?_,?_,?_,?_⟩
 ·rw[SH,Tw hn]
 ·rw[SH];omega
 ·rw[SH];omega
 rcases h3 with rfl | ⟨ad,rfl,hs,hat⟩
 ·left;simp
 refine .inr ⟨ad,rfl,hs,λi hi=>?_⟩;rw[SH]at hi;rw[U6];exact hat i V4
def nth{α:Type}[Inhabited α](l:List α)(i:Nat):α:=l.getD i default
theorem az[Inhabited α]{l:List α}{i:Nat}(h:i<l.length):nth l i=l[i]:=by simp[nth,h]
theorem bK[Inhabited α]{l:List α}{i:Nat}(h:l.length<=i):nth l i=default:=by simp[nth,h]
theorem bh[Inhabited α]{l:List α}{i:Nat}(h:i<l.length):nth l i∈l:=by rw[az h];exact S9 h
theorem BG[Inhabited α]{a b:List α}(hl:a.length=b.length)(h : ∀j,j<a.length->nth a j=nth b j):a=b:=by refine TJ hl λi h1 h2=>?_;have:=h i h1;rwa [az h1,az h2]at this
theorem SlRd.int{H K:View}{v:Value}{l:List Int}(h:SlRd H v l)(hk:H.le K){i:Nat}(hi:i<l.length):aq K ((slA v).add i)=VC (Vz VA (nth l i)):=by obtain⟨u,h1,h2⟩:=((h.at hi).mono hk).load rfl;rw[bu]at h2;rw[h2.1,show i*Rep.n Int=i from SX i]at h1;rw[az hi];exact h1
theorem SlRd.bool{H K:View}{v:Value}{l:List Bool}(h:SlRd H v l)(hk:H.le K){i:Nat}(hi:i<l.length):aq K ((slA v).add i)=VC (.bool (nth l i)):=by obtain⟨u,h1,h2⟩:=((h.at hi).mono hk).load rfl;rw[qN]at h2;rw[h2,show i*Rep.n Bool=i from SX i]at h1;rw[az hi];exact h1
theorem SlRd.range{v:Value}{l:List Int}(h:SlRd H v l){i:Nat}(hi:i<l.length):-9223372036854775808<=nth l i/\nth l i<=9223372036854775807:=by obtain⟨u,h1,h2⟩:=(h.at hi).load rfl;rw[bu]at h2;rw[az hi];exact h2.2
theorem SlRd.rows[Rep α]{v:Value}{g:List (List α)}(h:SlRd H v g): ∃rv:Nat->Value,∀i,i<g.length->(∀K:View,H.le K->aq K ((slA v).add i)=VC (rv i))/\SlRd H (rv i) (nth g i):=by
 have key : ∀i,∃u,i<g.length->(∀K:View,H.le K->aq K ((slA v).add i)=VC u)/\SlRd H u (nth g i):=by
  intro i;by_cases hi:i<g.length
  ·obtain⟨u,h1,h2⟩:=(h.at hi).load rfl;rw[show i*Rep.n (List α)=i from SX i]at h1;refine⟨u,λ_=>⟨λK hk=>ae hk h1,?_⟩⟩;rw[az hi];exact dw.1 h2
  exact⟨undef,λh=>absurd h hi⟩
 exact⟨λi=>(key i).choose,λi=>(key i).choose_spec⟩
@[simp] theorem Rf{a:Addr}:Un.ev H .load (VF (VC a))=aq H a:=rfl
@[simp] theorem bj{a:Int}(h0:-9223372036854775808<=a)(h1:a<=9223372036854775807):IntKind.i64.wrap a=a:=IntWalk.i64_in _ V4
end Go.Lft
namespace Go
theorem Vv{p:Prop}(h:p:=by repeat (first | exact Lft.View.le_refl _ | assumption | refine Lft.View.le_trans ?_ (by assumption))):p:=h
theorem Vw{H:Lft.View}:H.le H:=Lft.View.le_refl H
theorem Vx{H K L:Lft.View}(a:H.le K)(b:K.le L):H.le L:=Lft.View.le_trans a b
end Go
