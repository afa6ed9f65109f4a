/- A part of the proof: LftE, LftS, LftT, LftB, LftR, LftD, LftC, LftCb, Cbq, LftW, LftV. -/
import Derived.WalkKit
import Derived.CallsIn
import Derived.OrdersIn
import Derived.OwnWalkIn
import Derived.RangeFuncIn
import Derived.RangeFuncRecord
import Derived.RangeFuncLeaves
import Derived.KernelRfl
import Derived.Test.YtnfiilgdjpdlkaaGreatDoorProg
import Derived.ChangeKeysEq
import Derived.MapKept
import Derived.RecoverIn
import Derived.Test.YtnfiilgdjpdlkaaGreatDoorChecked
import Derived.ProofKit
import Derived.OpenShut
import Derived.HandedShaped
import Derived.LaidMore
import Derived.Shelf.Small.Bits
import Derived.Shelf.Small.Wraps
import Derived.Shelf.Strconv.Itoa0
import Derived.Shelf.Sort.Plain
import Derived.Shelf.Unicode.Latin
import Derived.Shelf.Unicode.Is16White
import Derived.Shelf.Unicode.IsSpaceAny
import Derived.Shelf.Unicode.Is16Any
import Derived.Shelf.Unicode.Is32Any
import Derived.Shelf.Unicode.ExclAny
import Derived.Shelf.Slices.Turned
import Derived.Shelf.Slices.Reverse
import Derived.Ground.Names2Prog
import Derived.Shelf.Slices.CompactI
import Derived.Shelf.Slices.SearchI
import Derived.Shelf.Slices.Cells
import Derived.Shelf.Slices.In.SortNone
import Derived.Maps.RangeRun
import Derived.Laws.BytesArg
import Derived.Test.YtnfiilgdjpdlkaaGreatDoorRows
import Derived.Lib.LaidTab
import Derived.Test.YtnfiilgdjpdlkaaGreatDoorCards
import Derived.Test.YtnfiilgdjpdlkaaGreatDoorTie
import Derived.SevenTiedAt
set_option linter.unusedSimpArgs false
set_option linter.unusedVariables false
open Go.Value renaming int->RG,slice->RL,pointer->RM
open Go.IntKind renaming i64->RH,i32->RI
open Option renaming some->RJ,none->RK
open Bool renaming true->RN,false->RO
namespace Go
theorem R1{p:Prop}(h:p:=by kernel_rfl):p:=h
theorem R3{p:Prop}(h:p:=by omega):p:=h
theorem Sa{p:Prop}(h:p:=by simp):p:=h
theorem R4{p:Prop}(h:p:=by decide):p:=h
theorem RA{p:Prop}(h:p:=by rfl):p:=h
theorem R5{p:Prop}(h:p:=by intro _;simp):p:=h
theorem R6{p q:Prop}(a:p:=by omega)(b:q:=by omega):p/\q:=⟨a,b⟩
theorem R7{p:Prop}(h:p:=by simp [Value.oneCell']):p:=h
theorem R8{p:Prop}(h:p:=by simp [Value.cells,Value.oneCell']):p:=h
theorem R9{p:Prop}(h:p:=by simp;omega):p:=h
theorem RB{a b:Nat}(h:Nat.ble a b=true:=by kernel_rfl):a<=b:=Nat.le_of_ble_eq_true h
def RF(n m:Nat):Array Bool:=((List.range n).map (Nat.testBit m)).toArray
end Go
namespace Go
abbrev NM:=@Nat.le_of_ble_eq_true
abbrev NN:=@Option.some.injEq
abbrev NO:=@Nat.le_refl
abbrev NP:=@List.forall_mem_cons
abbrev NQ:=@Nat.lt_or_ge
abbrev NR:=@Option.map_eq_some_iff
abbrev NS:=@Bool.and_eq_true
abbrev NT:=@List.take_succ_eq_append_getElem
abbrev NU:=@List.mem_append
abbrev NV:=@Array.getElem?_eq_some_iff
abbrev NW:=@List.mem_singleton
abbrev NX:=@List.mem_cons_self
abbrev NY:=@List.take_of_length_le
abbrev NZ:=@List.mem_cons_of_mem
abbrev N0:=@Option.bind_eq_some_iff
abbrev N1:=@List.length_append
abbrev N2:=@List.append_assoc
abbrev N3:=@List.eq_nil_of_length_eq_zero
abbrev N4:=@Array.toList_inj
abbrev N5:=@List.mem_cons
abbrev N6:=@Array.getElem?_eq_getElem
abbrev N7:=@List.getElem_of_mem
abbrev N8:=@List.foldl_cons
abbrev N9:=@Int.toNat_of_nonneg
abbrev Ov:=@Option.bind_some
abbrev Ow:=@Int.toNat_natCast
abbrev OA:=@Bool.eq_iff_iff
abbrev OC:=@List.length_singleton
abbrev OD:=@Nat.le_trans
abbrev OE:=@Nat.mul_le_mul_right
abbrev OG:=@List.drop_eq_getElem_cons
abbrev OH:=@List.length_set
abbrev OI:=@List.getElem?_eq_getElem
abbrev OJ:=@List.all_eq_true
abbrev OK:=@List.take_length
abbrev OL:=@List.drop_eq_nil_of_le
abbrev OM:=@List.length_drop
abbrev ON:=@List.getElem?_eq_none
abbrev OO:=@List.length_replicate
abbrev OQ:=@List.mem_of_getElem?
abbrev OR:=@Nat.mul_one
abbrev OS:=@List.take_append_of_le_length
abbrev OT:=@List.length_take
abbrev OU:=@Bool.eq_false_iff
abbrev OV:=@Bool.or_eq_true
abbrev OW:=@List.nil_append
abbrev OX:=@List.length_cons
abbrev OY:=@Array.getElem?_setIfInBounds_ne
abbrev OZ:=@Nat.succ_mul
abbrev O0:=@List.any_eq_true
abbrev O2:=@Bool.or_eq_false_iff
abbrev O3:=@List.drop_append_of_le_length
abbrev O4:=@List.mem_of_find?_eq_some
abbrev O5:=@List.getElem_mem
abbrev O6:=@List.mem_append_right
abbrev O7:=@Nat.zero_add
abbrev O8:=@List.foldl_append
abbrev O9:=@List.mem_append_left
abbrev Pj:=@Bool.true_and
abbrev Pk:=@List.mem_map
abbrev Pl:=@Bool.not_eq_true'
abbrev Pn:=@List.append_nil
abbrev Po:=@List.length_map
abbrev Pp:=@Bool.false_eq_true
abbrev Pq:=@List.getElem?_take
abbrev Ps:=@List.ext_getElem
abbrev Pt:=@List.foldlM_cons
abbrev Pu:=@Prod.mk.injEq
abbrev Pv:=@List.map_cons
abbrev Pw:=@List.drop_take
abbrev Px:=@List.take_take
abbrev Py:=@List.getD_eq_getElem?_getD
abbrev Pz:=@Nat.min_eq_left
abbrev PA:=@List.take_append_drop
abbrev PB:=@Option.isSome_iff_exists
abbrev PC:=@List.mem_range
abbrev PD:=@List.getElem?_map
abbrev PE:=@List.getElem_cons_zero
abbrev PF:=@List.take_append
abbrev PG:=@Nat.eq_zero_or_pos
abbrev PH:=@List.drop_zero
abbrev PI:=@Option.none_or
abbrev PJ:=@Array.getElem?_toList
abbrev PK:=@Array.toArray_toList
abbrev PL:=@List.nodup_append
abbrev PM:=@List.size_toArray
abbrev PN:=@List.find?_append
abbrev PO:=@Array.length_toList
abbrev PQ:=@List.mem_map_of_mem
abbrev PR:=@List.drop_drop
abbrev PS:=@List.drop_append
abbrev PT:=@List.take_zero
abbrev PU:=@List.prefix_refl
abbrev PV:=@Nat.zero_le
abbrev PW:=@Array.getElem?_eq_none
abbrev PX:=@List.getElem?_drop
abbrev PY:=@List.map_append
abbrev PZ:=@List.mem_filter
abbrev P1:=@List.find?_some
abbrev P2:=@List.range_succ
abbrev P4:=@List.getElem?_toArray
abbrev P5:=@List.findSome?_append
abbrev P6:=@List.flatMap_cons
abbrev P7:=@Nat.add_mul
abbrev P8:=@Nat.mul_le_mul
abbrev P9:=@Nat.zero_mul
abbrev Qi:=@List.not_mem_nil
abbrev Qj:=@List.getElem_append_right
abbrev Qs:=@List.getElem?_eq_some_iff
abbrev Qt:=@List.mem_or_eq_of_mem_set
abbrev Qu:=@Array.toList_filter
abbrev Qv:=@List.getElem_append_left
abbrev Qw:=@Array.getElem?_push_size
abbrev Qx:=@List.Nodup.idxOf_getElem
abbrev Qy:=@List.length_nil
abbrev Qz:=@List.zip_cons_cons
abbrev QA:=@Nat.lt_of_lt_of_le
abbrev QB:=@Int.le_refl
abbrev QC:=@Int.eq_ofNat_of_zero_le
abbrev QD:=@Array.getElem?_setIfInBounds_self
abbrev QE:=@List.set_eq_take_append_cons_drop
abbrev QF:=@List.getElem_drop
abbrev QG:=@Nat.sub_self
abbrev QH:=@List.ext_getElem?
abbrev QI:=@Array.getElem?_append
abbrev QJ:=@Array.getElem?_modify
abbrev QK:=@Bool.and_eq_false_iff
abbrev QL:=@List.cons_append
abbrev QM:=@List.filter_cons
abbrev QN:=@List.zipIdx_cons
abbrev QO:=@Option.getD_some
abbrev QQ:=@Nat.one_pos
abbrev QR:=@List.getElem?_of_mem
abbrev QS:=@List.find?_singleton
abbrev QT:=@List.nodup_cons
abbrev QU:=@List.take_set_of_le
abbrev QV:=@List.getD_cons_zero
abbrev QW:=@List.idxOf_lt_length_of_mem
abbrev QX:=@Nat.mul_succ
abbrev QY:=@List.take_left
abbrev QZ:=@Array.foldl_toList
abbrev Q0:=@Array.toList_setIfInBounds
abbrev Q1:=@List.filter_append
abbrev Q2:=@List.foldlM_append
abbrev Q4:=@Array.getElem?_append_left
abbrev Q5:=@List.mem_mergeSort
abbrev Q6:=@List.getElem?_append_right
abbrev Q7:=@List.pairwise_cons
abbrev Q8:=@Bool.false_and
abbrev Q9:=@List.getElem?_append_left
abbrev Rk:=@Array.mapM_eq_mapM_toList
abbrev Rl:=@Function.comp_def
abbrev Rm:=@Nat.one_mul
abbrev Rn:=@List.take_add_one
abbrev Ro:=@Option.isSome_map
abbrev Rq:=@List.filter_congr
abbrev Rr:=@Nat.add_sub_cancel_left
abbrev Rs:=@List.getElem_replicate
abbrev Rt:=@List.range_succ_eq_map
abbrev Ru:=@List.nodup_nil
abbrev Rv:=@List.mapM_cons
abbrev Rx:=@Bool.and_assoc
abbrev Ry:=@Bool.false_or
abbrev Rz:=@Nat.not_lt
end Go
namespace Go.Lft
open Go
abbrev Heap:=Array Obj
abbrev View:=Nat->Option Obj
def vw (h:Heap):View:=λb=>h[b]?
def View.le (H K:View):Prop:=∀b o,H b=RJ o->K b=RJ o
def an (h:View) (a:Addr):Option Value:=
 match h a.block with
 | some (.cells c _ _)=>if a.spot.isSome then RK else c[a.off]?
 | _=>RK
def ee (h:View) (a:Addr) (i:Nat):Nat->Array Value->Option (Array Value)
 | 0,acc=>RJ acc
 | n+1,acc=>match an h (a.add i)with
  | some v=>ee h a (i+1) n (acc.push v)
  | none=>RK
def mapH (h:View) (r:Nat):Option (Array MapEntry × Nat):=
 match h r with
 | some (.map es c)=>RJ (es,c)
 | _=>RK
inductive Un where
 | not
 | neg (k:IntKind)
 | len
 | lenStr
 | lenMap
 | load
 | aZ (n:Nat)
 | fld (off:Nat)
 | part (off:Nat)
 | parts (off n:Nat)
 | conv (k:IntKind)
 | ext (i:Nat)
 | nilPtr
 | fn (f:FuncId)
 | build (zero:Array Value) (places:List (Nat × Nat))
 deriving Inhabited
inductive Bn where
 | arith (op:BinOp)
 | cmp (op:BinOp)
 | div (op:BinOp)
 | bits (op:BinOp)
 | eqB (neg:Bool)
 | eqS (neg:Bool)
 | cat
 | idx (sz:Nat)
 | aidx (n sz:Nat)
 | idxA (n sz:Nat) (agg:Bool)
 | idxS
 | min
 | max
 | lo (sz:Nat)
 | hi
 | loS
 | hiS
 deriving Inhabited
inductive E where
 | tmp (t:Nat)
 | con (v:Value)
 | un (o:Un) (x:E)
 | bin (o:Bn) (x y:E)
 | snoc (x y:E)
 | ite (c x y:E)
 | gd (c:E) (b:Bool) (x:E)
 deriving Inhabited
def vB:Value->Option Bool | .bool b=>RJ b | _=>RK
def vI:Value->Option (IntKind × Int) | .int k n=>RJ (k,n) | _=>RK
def vS:Value->Option ByteArray | .string s=>RJ s | _=>RK
def vP:Value->Option Addr | RM (RJ a)=>RJ a | _=>RK
def vL:Value->Option (Option Addr × Nat × Nat) | .slice a n c=>RJ (a,n,c) | _=>RK
def vA:Value->Option (Array Value) | .agg cs=>RJ cs | _=>RK
def vT:Value->Option (Array Value) | .tuple cs=>RJ cs | _=>RK
def vM:Value->Option (Option Nat) | .map r=>RJ r | _=>RK
def Un.ev (h:View) (o:Un) (v:Value):Option Value:=
 match o with
 | .not=>(vB v).map λb=>.bool (!b)
 | .neg k=>(vI v).bind λp=>if p.1=k then RJ (.int k (k.wrap (0-p.2))) else RK
 | .len=>(vL v).map λp=>RG RH p.2.1
 | .lenStr=>(vS v).map λs=>RG RH s.size
 | .lenMap=>(vM v).bind fun
  | none=>RJ (RG RH (0:Int))
  | some r=>(mapH h r).map λp=>RG RH p.1.size
 | .load=>(vP v).bind λa=>an h a
 | .aZ n=>(vP v).bind λa=>(ee h a 0 n #[]).map .agg
 | .fld off=>(vP v).map λa=>RM (RJ (a.add off))
 | .part off=>(vA v).bind λcs=>cs[off]?
 | .parts off n=>(vA v).map λcs=>.agg (cs.extract off (off+n))
 | .conv k=>(vI v).map λp=>.int k (k.wrap p.2)
 | .ext i=>(vT v).bind λvs=>vs[i]?
 | .nilPtr=>(vP v).map λa=>RM (RJ a)
 | .fn f=>(vT v).map λvs=>.func (.func f) #[] vs
 | .build zero places=>(vT v).bind λvs=>(Instr.fill (places[·]?) zero ((List.range vs.size).zip vs.toList)).map .agg
def cmpI:BinOp->Int->Int->Option Bool
 | .eql,x,y=>RJ (x == y)
 | .neq,x,y=>RJ (x != y)
 | .lss,x,y=>RJ (x<y)
 | .leq,x,y=>RJ (x<=y)
 | .gtr,x,y=>RJ (x>y)
 | .geq,x,y=>RJ (x>=y)
 | _,_,_=>RK
def xC (k:IntKind):BinOp->Int->Int->Option Int
 | .add,x,y=>RJ (k.wrap (x+y))
 | .sub,x,y=>RJ (k.wrap (x-y))
 | .mul,x,y=>RJ (k.wrap (x*y))
 | _,_,_=>RK
def divI (k:IntKind):BinOp->Int->Int->Option Int
 | .quo,x,y=>if y=0 then RK else RJ (k.wrap (x.tdiv y))
 | .rem,x,y=>if y=0 then RK else RJ (x.tmod y)
 | _,_,_=>RK
def J4 (k:IntKind):BinOp->Int->Int->Option Int
 | .and,x,y=>RJ (k.wrap ((BitVec.ofInt k.bits x&&& BitVec.ofInt k.bits y).toNat))
 | .or,x,y=>RJ (k.wrap ((BitVec.ofInt k.bits x||| BitVec.ofInt k.bits y).toNat))
 | .xor,x,y=>RJ (k.wrap ((BitVec.ofInt k.bits x ^^^ BitVec.ofInt k.bits y).toNat))
 | .andNot,x,y=>RJ (k.wrap ((BitVec.ofInt k.bits x&&& ~~~BitVec.ofInt k.bits y).toNat))
 | _,_,_=>RK
def i2 (v u:Value) (f:IntKind->Int->Int->Option Value):Option Value:=
 (vI v).bind λp=>(vI u).bind λq=>if p.1=q.1 then f p.1 p.2 q.2 else RK
def Bn.ev (o:Bn) (v u:Value):Option Value:=
 match o with
 | .arith op=>i2 v u λk a b=>(xC k op a b).map (.int k)
 | .div op=>i2 v u λk a b=>(divI k op a b).map (.int k)
 | .bits op=>i2 v u λk a b=>(J4 k op a b).map (.int k)
 | .cmp op=>i2 v u λ_ a b=>(cmpI op a b).map .bool
 | .min=>i2 v u λk a b=>RJ (.int k (if b<a then b else a))
 | .max=>i2 v u λk a b=>RJ (.int k (if a<b then b else a))
 | .eqB neg=>(vB v).bind λa=>(vB u).map λb=>.bool ((a == b) != neg)
 | .eqS neg=>(vS v).bind λa=>(vS u).map λb=>.bool ((a.toList == b.toList) != neg)
 | .cat=>(vS v).bind λa=>(vS u).bind λb=>if a.size+b.size<=9223372036854775807 then RJ (.string (a++b)) else RK
 | .idx sz=>(vL v).bind λp=>(vI u).bind λq=>p.1.bind λa=>if 0<=q.2/\q.2<p.2.1 then RJ (RM (RJ (a.add (q.2.toNat*sz)))) else RK
 | .aidx n sz=>(vP v).bind λa=>(vI u).bind λq=>if 0<=q.2/\q.2<n then RJ (RM (RJ (a.add (q.2.toNat*sz)))) else RK
 | .idxA n sz agg=>(vA v).bind λcs=>(vI u).bind λq=>if 0<=q.2/\q.2<n then(if agg then RJ (.agg (cs.extract (q.2.toNat*sz) (q.2.toNat*sz+sz))) else cs[q.2.toNat*sz]?) else RK
 | .idxS=>(vS v).bind λs=>(vI u).bind λq=>if 0<=q.2 then(s[q.2.toNat]?).map λb=>.int .u8 b.toNat else RK
 | .hi=>(vL v).bind λp=>(vI u).bind λq=>if 0<=q.2/\q.2<=p.2.2 then RJ (.slice p.1 q.2.toNat p.2.2) else RK
 | .lo sz=>(vL v).bind λp=>(vI u).bind λq=>if 0<=q.2/\q.2<=p.2.1 then RJ (.slice (if p.2.2=q.2.toNat then p.1 else p.1.map (·.add (q.2.toNat*sz))) (p.2.1-q.2.toNat) (p.2.2-q.2.toNat)) else RK
 | .hiS=>(vS v).bind λs=>(vI u).bind λq=>if 0<=q.2/\q.2<=s.size then RJ (.string (s.extract 0 q.2.toNat)) else RK
 | .loS=>(vS v).bind λs=>(vI u).bind λq=>if 0<=q.2/\q.2<=s.size then RJ (.string (s.extract q.2.toNat s.size)) else RK
def ev (ρ:Nat->Option Value) (h:View):E->Option Value
 | .tmp t=>ρ t
 | .con v=>RJ v
 | .un o x=>match ev ρ h x with
  | some v=>o.ev h v
  | none=>RK
 | .bin o x y=>match ev ρ h x,ev ρ h y with
  | some v,RJ u=>o.ev v u
  | _,_=>RK
 | .snoc x y=>match ev ρ h x,ev ρ h y with
  | some (.tuple vs),RJ u=>RJ (.tuple (vs.push u))
  | _,_=>RK
 | .ite c x y=>match ev ρ h c with
  | some (.bool RN)=>ev ρ h x
  | some (.bool RO)=>ev ρ h y
  | _=>RK
 | .gd c b x=>match ev ρ h c with
  | some (.bool RN)=>if b then ev ρ h x else RJ undef
  | some (.bool RO)=>if b then RJ undef else ev ρ h x
  | some _=>RJ undef
  | none=>RK
def Un.reads:Un->Bool
 | .load | .aZ _ | .lenMap=>RN
 | _=>RO
def E.reads:E->Bool
 | .tmp _ | .con _=>RO
 | .un o x=>o.reads||x.reads
 | .bin _ x y | .snoc x y=>x.reads||y.reads
 | .ite c x y=>c.reads||x.reads||y.reads
 | .gd c _ x=>c.reads||x.reads
theorem Un.iG{o:Un}(ho:o.reads=RO)(h h':View)(v:Value):o.ev h v=o.ev h' v:=by cases o<;>simp[Un.reads]at ho<;>rfl
theorem iG {ρ:Nat->Option Value} {h h':View} : ∀{e:E},e.reads=RO->ev ρ h e=ev ρ h' e
 | .tmp _,_=>rfl
 | .con _,_=>rfl
 | .un o x,hr=>by
  simp only[E.reads,O2]at hr;simp only[ev,iG (h:=h) (h':=h') hr.2];split
  ·exact Un.iG hr.1 _ _ _
  rfl
 | .bin o x y,hr=>by simp only[E.reads,O2]at hr;simp only[ev,iG (h:=h) (h':=h') hr.1,iG (h:=h) (h':=h') hr.2]
 | .snoc x y,hr=>by simp only[E.reads,O2]at hr;simp only[ev,iG (h:=h) (h':=h') hr.1,iG (h:=h) (h':=h') hr.2]
 | .ite c x y,hr=>by simp only[E.reads,O2]at hr;simp only[ev,iG (h:=h) (h':=h') hr.1.1,iG (h:=h) (h':=h') hr.1.2,iG (h:=h) (h':=h') hr.2]
 | .gd c b x,hr=>by simp only[E.reads,O2]at hr;simp only[ev,iG (h:=h) (h':=h') hr.1,iG (h:=h) (h':=h') hr.2]
theorem View.le_refl(H:View):H.le H:=λ_ _ h=>h
variable{H K:View}
theorem View.le_trans{L:View}(h:H.le K)(k:K.le L):H.le L:=λb o e=>k b o (h b o e)
theorem ae(hk:H.le K){a:Addr}{v:Value}(h:an H a=RJ v):an K a=RJ v:=by
 unfold an at *;cases hb:H a.block with
 | none=>simp[hb]at h
 | some o=>simp only[hb]at h;simp only[hk _ _ hb];exact h
theorem pV {H K:View} (hk:H.le K) {a:Addr} : ∀{n i:Nat} {acc cs:Array Value},ee H a i n acc=RJ cs->ee K a i n acc=RJ cs
 | 0,_,_,_,h=>h
 | n+1,i,acc,cs,h=>by
  simp only[ee]at *;cases hc:an H (a.add i)with
  | none=>simp[hc]at h
  | some v=>simp only[hc]at h;simp only[ae hk hc];exact pV hk h
theorem FY(hk:H.le K){r:Nat}{p:Array MapEntry × Nat}(h:mapH H r=RJ p):mapH K r=RJ p:=by
 unfold mapH at *;cases hb:H r with
 | none=>simp[hb]at h
 | some o=>simp only[hb]at h;simp only[hk _ _ hb];exact h
theorem Un.dk(hk:H.le K){o:Un}{v u:Value}(h:o.ev H v=RJ u):o.ev K v=RJ u:=by
 cases o<;>first | exact h | skip
 case load=>simp only[Un.ev,N0]at *;obtain⟨a,ha,hc⟩:=h;exact⟨a,ha,ae hk hc⟩
 case aZ n=>simp only[Un.ev,N0,NR]at *;obtain⟨a,ha,cs,hc,he⟩:=h;exact⟨a,ha,cs,pV hk hc,he⟩
 case lenMap=>
  simp only[Un.ev,N0]at *;obtain⟨r,hr,h⟩:=h;refine⟨r,hr,?_⟩;cases r with
  | none=>exact h
  | some r=>simp only[NR]at *;obtain⟨p,hp,he⟩:=h;exact⟨p,FY hk hp,he⟩
theorem dk {ρ:Nat->Option Value} {H K:View} (hk:H.le K) : ∀{e:E} {v:Value},ev ρ H e=RJ v->ev ρ K e=RJ v
 | .tmp _,_,h=>h
 | .con _,_,h=>h
 | .un o x,v,h=>by
  simp only[ev]at *;split at h
  ·rename_i u hu;simp only[dk hk hu];exact Un.dk hk h
  cases h
 | .bin o x y,v,h=>by
  simp only[ev]at *;split at h
  ·rename_i u u' hu hu';simp only[dk hk hu,dk hk hu'];exact h
  cases h
 | .snoc x y,v,h=>by
  simp only[ev]at *;split at h
  ·rename_i u u' hu hu';simp only[dk hk hu,dk hk hu'];exact h
  cases h
 | .ite c x y,v,h=>by
  simp only[ev]at *;split at h
  ·rename_i hu;simp only[dk hk hu];exact dk hk h
  ·rename_i hu;simp only[dk hk hu];exact dk hk h
  cases h
 | .gd c b x,v,h=>by
  simp only[ev]at *;split at h
  ·rename_i hu;simp only[dk hk hu];split at h
   ·rename_i hb;simp only[hb,if_true];exact dk hk h
   rename_i hb;simp only[hb];exact h
  ·rename_i hu;simp only[dk hk hu];split at h
   ·rename_i hb;simp only[hb,if_true];exact h
   rename_i hb;simp only[hb];exact dk hk h
  ·rename_i u h1 h2 hu;simp only[dk hk hu];exact h
  cases h
def View.sub (H K:View):Prop:=∀b o,H b=RJ o->∃o',K b=RJ o'/\(o'=o\/∃c c' t fz,o = .cells c t fz/\o' = .cells c' t fz/\∃r:List Value,c'.toList=c.toList++r)
theorem View.ym(h:H.le K):H.sub K:=λb o hb=>⟨o,h b o hb,.inl rfl⟩
theorem zp(hk:H.sub K){a:Addr}{v:Value}(h:an H a=RJ v):an K a=RJ v:=by
 unfold an at *;cases hb:H a.block with
 | none=>simp[hb]at h
 | some o=>
  simp only[hb]at h;obtain⟨o',h1,h2⟩:=hk _ _ hb;simp only[h1];rcases h2 with rfl | ⟨c,c',t,fz,rfl,rfl,r,hr⟩
  ·exact h
  simp only at h ⊢;split at h
  ·cases h
  rename_i hs;rw[if_neg hs];rw[<-Array.getElem?_toList]at h ⊢;rw[hr,Q9 (by
   rcases NQ a.off c.toList.length with hl | hl
   ·exact hl
   rw[ON hl]at h;cases h)];exact h
theorem qq {H K:View} (hk:H.sub K) {a:Addr} : ∀{n i:Nat} {acc cs:Array Value},ee H a i n acc=RJ cs->ee K a i n acc=RJ cs
 | 0,_,_,_,h=>h
 | n+1,i,acc,cs,h=>by
  simp only[ee]at *;cases hc:an H (a.add i)with
  | none=>simp[hc]at h
  | some v=>simp only[hc]at h;simp only[zp hk hc];exact qq hk h
theorem Ha(hk:H.sub K){r:Nat}{p:Array MapEntry × Nat}(h:mapH H r=RJ p):mapH K r=RJ p:=by
 unfold mapH at *;cases hb:H r with
 | none=>simp[hb]at h
 | some o=>
  simp only[hb]at h;obtain⟨o',h1,h2⟩:=hk _ _ hb;simp only[h1];rcases h2 with rfl | ⟨c,c',t,fz,rfl,rfl,r,hr⟩
  ·exact h
  cases h
theorem Un.gJ(hk:H.sub K){o:Un}{v u:Value}(h:o.ev H v=RJ u):o.ev K v=RJ u:=by
 cases o<;>first | exact h | skip
 case load=>simp only[Un.ev,N0]at *;obtain⟨a,ha,hc⟩:=h;exact⟨a,ha,zp hk hc⟩
 case aZ n=>simp only[Un.ev,N0,NR]at *;obtain⟨a,ha,cs,hc,he⟩:=h;exact⟨a,ha,cs,qq hk hc,he⟩
 case lenMap=>
  simp only[Un.ev,N0]at *;obtain⟨r,hr,h⟩:=h;refine⟨r,hr,?_⟩;cases r with
  | none=>exact h
  | some r=>simp only[NR]at *;obtain⟨p,hp,he⟩:=h;exact⟨p,Ha hk hp,he⟩
theorem gJ {ρ:Nat->Option Value} {H K:View} (hk:H.sub K) : ∀{e:E} {v:Value},ev ρ H e=RJ v->ev ρ K e=RJ v
 | .tmp _,_,h=>h
 | .con _,_,h=>h
 | .un o x,v,h=>by
  simp only[ev]at *;split at h
  ·rename_i u hu;simp only[gJ hk hu];exact Un.gJ hk h
  cases h
 | .bin o x y,v,h=>by
  simp only[ev]at *;split at h
  ·rename_i u u' hu hu';simp only[gJ hk hu,gJ hk hu'];exact h
  cases h
 | .snoc x y,v,h=>by
  simp only[ev]at *;split at h
  ·rename_i u u' hu hu';simp only[gJ hk hu,gJ hk hu'];exact h
  cases h
 | .ite c x y,v,h=>by
  simp only[ev]at *;split at h
  ·rename_i hu;simp only[gJ hk hu];exact gJ hk h
  ·rename_i hu;simp only[gJ hk hu];exact gJ hk h
  cases h
 | .gd c b x,v,h=>by
  simp only[ev]at *;split at h
  ·rename_i hu;simp only[gJ hk hu];split at h
   ·rename_i hb;simp only[hb,if_true];exact gJ hk h
   rename_i hb;simp only[hb];exact h
  ·rename_i hu;simp only[gJ hk hu];split at h
   ·rename_i hb;simp only[hb,if_true];exact h
   rename_i hb;simp only[hb];exact gJ hk h
  ·rename_i u h1 h2 hu;simp only[gJ hk hu];exact h
  cases h
def opnd:Operand->E
 | .tmp t=>.tmp t
 | .const v=>.con v
 | .global g=>.con (RM (RJ ⟨g,0,RK⟩))
 | .func f=>.con (.func (.func f) #[] #[])
def oq (P:Program) (t:TypeId):Option Bool:=
 match P.underlying t with
 | some (.struct _) | some (.array _ _)=>RJ RN
 | some _=>RJ RO
 | none=>RK
def df (P:Program) (t:TypeId):Option Nat:=(P.info? t).map (·.size)
def yv (P:Program) (t:TypeId) (x:E):Option E:=
 match oq P t,df P t with
 | some RN,RJ n=>RJ (.un (.aZ n) x)
 | some RO,RJ _=>RJ (.un .load x)
 | _,_=>RK
def opE (P:Program):Op->Option E
 | .move x | .assign x=>RJ (opnd x)
 | .pick c a b=>RJ (.ite (opnd c) (opnd a) (opnd b))
 | .unOp .not _ x=>RJ (.un .not (opnd x))
 | .binOp op t x y _=>
  match P.underlying t,op with
  | some (.int _),.add | some (.int _),.sub | some (.int _),.mul=>RJ (.bin (.arith op) (opnd x) (opnd y))
  | some (.int _),.quo | some (.int _),.rem=>RJ (.bin (.div op) (opnd x) (opnd y))
  | some (.int _),.and | some (.int _),.or | some (.int _),.xor | some (.int _),.andNot=>RJ (.bin (.bits op) (opnd x) (opnd y))
  | some (.int _),.eql | some (.int _),.neq | some (.int _),.lss | some (.int _),.leq | some (.int _),.gtr | some (.int _),.geq=>RJ (.bin (.cmp op) (opnd x) (opnd y))
  | some .bool,.eql=>RJ (.bin (.eqB RO) (opnd x) (opnd y))
  | some .bool,.neq=>RJ (.bin (.eqB RN) (opnd x) (opnd y))
  | some .string,.add=>RJ (.bin .cat (opnd x) (opnd y))
  | some .string,.eql=>RJ (.bin (.eqS RO) (opnd x) (opnd y))
  | some .string,.neq=>RJ (.bin (.eqS RN) (opnd x) (opnd y))
  | _,_=>RK
 | .load t a=>yv P t (opnd a)
 | .nilCheck x=>RJ (.un .nilPtr (opnd x))
 | .fieldAddr s x f=>
  match P.underlying s with
  | some (.struct fields)=>match fields[f]? with
   | some g=>match df P g.type with
    | some (_+1)=>RJ (.un (.fld g.offset) (opnd x))
    | _=>RK
   | none=>RK
  | _=>RK
 | .field s x f=>
  match P.underlying s with
  | some (.struct fields)=>match fields[f]? with
   | some g=>match oq P g.type,df P g.type with
    | some RN,RJ n=>RJ (.un (.parts g.offset n) (opnd x))
    | some RO,RJ _=>RJ (.un (.part g.offset) (opnd x))
    | _,_=>RK
   | none=>RK
  | _=>RK
 | .indexAddr t x i=>
  match P.underlying t with
  | some (.slice e)=>(df P e).map λn=>.bin (.idx n) (opnd x) (opnd i)
  | some (.array k e)=>if k<=1 then RK else(df P e).map λn=>.bin (.aidx k n) (opnd x) (opnd i)
  | _=>RK
 | .extract x i=>RJ (.un (.ext i) (opnd x))
 | .convert s d x=>
  match P.underlying s,P.underlying d with
  | some (.int _),RJ (.int k)=>RJ (.un (.conv k) (opnd x))
  | _,_=>RK
 | .makeFunc (.func f) first captured=>if first.isEmpty then RJ (.un (.fn f) (captured.toList.foldl (λe x=>.snoc e (opnd x)) (.con (.tuple #[])))) else RK
 | .call { callee:=.builtin .len,args,argTypes }=>
  match args.toList,argTypes[0]? with
  | [x],RJ t=>match P.underlying t with
   | some (.slice _)=>RJ (.un .len (opnd x))
   | some .string=>RJ (.un .lenStr (opnd x))
   | some (.map _ _)=>RJ (.un .lenMap (opnd x))
   | _=>RK
  | _,_=>RK
 | .call { callee:=.builtin .min,args,.. }=>
  match args.toList with
  | [x,y]=>RJ (.bin .min (opnd x) (opnd y))
  | _=>RK
 | .call { callee:=.builtin .max,args,.. }=>
  match args.toList with
  | [x,y]=>RJ (.bin .max (opnd x) (opnd y))
  | _=>RK
 | .slice t x lo hi RK=>
  match P.underlying t with
  | some (.slice e)=>match df P e with
   | some n=>
    let x1:=match hi with | some j=>.bin .hi (opnd x) (opnd j) | none=>opnd x
    match lo with
    | some i=>RJ (.bin (.lo n) x1 (opnd i))
    | none=>match hi with | some _=>RJ x1 | none=>RK
   | none=>RK
  | _=>RK
 | _=>RK
section
variable {P:Program} {w:World}
theorem oL{t:TypeId}{b:Bool}(h:oq P t=RJ b):(isAgg t).run P w = .ok b w:=by
 unfold oq at h;cases hu:P.underlying t with
 | none=>simp[hu]at h
 | some d=>cases d<;>simp[hu]at h<;>subst h<;>simp[isAgg,run_underlying hu]
variable{n:Nat}
theorem run_sizeOf{t:TypeId}(h:df P t=RJ n):(sizeOf t).run P w = .ok n w:=by
 unfold df at h;cases hu:P.info? t with
 | none=>simp[hu]at h
 | some i=>simp[hu]at h;subst h;simp[sizeOf,typeInfo,hu]
theorem run_loadCellsFrom (a:Addr) : ∀(n i:Nat) (acc cs:Array Value),ee (vw w.heap) a i n acc=RJ cs->(loadCellsFrom a i n acc).run P w = .ok cs w
 | 0,i,acc,cs,h=>by simp[ee]at h;subst h;simp[loadCellsFrom]
 | n+1,i,acc,cs,h=>by
  unfold ee at h;cases hc:an (vw w.heap) (a.add i)with
  | none=>simp[hc]at h
  | some v=>simp only[hc]at h;have hc':w.cell? (a.add i)=RJ v:=hc;simp[loadCellsFrom,hc',run_loadCellsFrom a n (i+1) (acc.push v) cs h]
theorem run_load{t:TypeId}{x:E}{e:E}{ρ:Nat->Option Value}{v u:Value}(he:yv P t x=RJ e)(hx:ev ρ (vw w.heap) x=RJ u)(hv:ev ρ (vw w.heap) e=RJ v):
  (Instr.loadAt t u).run P w = .ok v w:=by
 unfold yv at he;cases ha:oq P t with
 | none=>simp[ha]at he
 | some b=>
  cases hs:df P t with
  | none=>cases b<;>simp[ha,hs]at he
  | some n=>
   cases b
   ·simp[ha,hs]at he;subst he;simp only[ev,hx]at hv;cases u<;>simp[Un.ev,vP]at hv;rename_i a;cases a with
    | none=>simp at hv
    | some a=>simp only[Ov]at hv;have hc:w.cell? a=RJ v:=hv;simp[Instr.loadAt,Instr.sureAddr,loadVar,oL ha,hc]
   simp[ha,hs]at he;subst he;simp only[ev,hx]at hv;cases u<;>simp[Un.ev,vP]at hv;rename_i a;cases a with
   | none=>simp at hv
   | some a=>simp only[Ov,NR]at hv;obtain⟨cs,hcs,rfl⟩:=hv;have:=run_loadCellsFrom (P:=P) (w:=w) a n 0 #[] cs hcs;simp[Instr.loadAt,Instr.sureAddr,loadVar,oL ha,run_sizeOf hs,loadCells,this]
abbrev cg (a:Act):Nat->Option Value:=λt=>a.tmps[t]?
theorem bI{a:Act}{h:View}{x:Operand}{v:Value}(hv:ev (cg a) h (opnd x)=RJ v):a.eval x=v:=by
 cases x with
 | tmp t=>simp only[opnd,ev,cg]at hv;simp[Act.eval,hv]
 | const u=>simp only[opnd,ev,NN]at hv;simp[Act.eval,hv]
 | global g=>simp only[opnd,ev,NN]at hv;simp[Act.eval,hv]
 | func f=>simp only[opnd,ev,NN]at hv;simp[Act.eval,hv]
theorem rJ{v:Value}{p:IntKind × Int}(h:vI v=RJ p):v = .int p.1 p.2:=by cases v<;>simp[vI]at h;subst h;rfl
theorem AI{v:Value}{p:Bool}(h:vB v=RJ p):v = .bool p:=by cases v<;>simp[vB]at h;subst h;rfl
theorem tD{v:Value}{p:ByteArray}(h:vS v=RJ p):v = .string p:=by cases v<;>simp[vS]at h;subst h;rfl
theorem z6{v:Value}{p:Addr}(h:vP v=RJ p):v = RM (RJ p):=by cases v<;>simp[vP]at h;rename_i a;cases a<;>simp at h;subst h;rfl
theorem tT{v:Value}{p:Option Addr × Nat × Nat}(h:vL v=RJ p):v = .slice p.1 p.2.1 p.2.2:=by cases v<;>simp[vL]at h;subst h;rfl
theorem DX{v:Value}{p:Array Value}(h:vA v=RJ p):v = .agg p:=by cases v<;>simp[vA]at h;subst h;rfl
theorem EP{v:Value}{p:Array Value}(h:vT v=RJ p):v = .tuple p:=by cases v<;>simp[vT]at h;subst h;rfl
theorem Jg{v:Value}{p:Option Nat}(h:vM v=RJ p):v = .map p:=by cases v<;>simp[vM]at h;subst h;rfl
theorem ke{ρ:Nat->Option Value}{h:View}{o:Un}{x:E}{v:Value}(hv:ev ρ h (.un o x)=RJ v): ∃u,ev ρ h x=RJ u/\o.ev h u=RJ v:=by
 simp only[ev]at hv;split at hv
 ·exact⟨_,by assumption,hv⟩
 cases hv
theorem gT{ρ:Nat->Option Value}{h:View}{o:Bn}{x y:E}{v:Value}(hv:ev ρ h (.bin o x y)=RJ v): ∃u u',ev ρ h x=RJ u/\ev ρ h y=RJ u'/\o.ev u u'=RJ v:=by
 simp only[ev]at hv;split at hv
 ·exact⟨_,_,by assumption,by assumption,hv⟩
 cases hv
theorem rD{v u r:Value}{f:IntKind->Int->Int->Option Value}(h:i2 v u f=RJ r): ∃k a b,v = .int k a/\u = .int k b/\f k a b=RJ r:=by
 simp only[i2,N0]at h;obtain⟨p,hp,q,hq,h⟩:=h;split at h
 ·rename_i e;exact⟨p.1,p.2,q.2,rJ hp,by rw[e];exact rJ hq,h⟩
 cases h
section binops
variable {o:Oper} {a:Act} {v:Value} {x y:Operand} {t u:TypeId} {op:BinOp} {n:Bool}
theorem FT(ho:o.op = .binOp op t x y u)(hv:ev (cg a) (vw w.heap) (.bin (.cmp op) (opnd x) (opnd y))=RJ v):(execOp a.eval o).run P w = .ok (.value v) w:=by obtain⟨p,q,hp,hq,hpq⟩:=gT hv;simp only[Bn.ev]at hpq;obtain⟨k,i,j,rfl,rfl,h⟩:=rD hpq;simp only[NR]at h;obtain⟨b,hb,rfl⟩:=h;have e1:=bI hp;have e2:=bI hq;cases op<;>simp[cmpI]at hb<;>subst hb<;>simp[execOp,ho,eqGuard,e1,e2,binOp,Op.intCmp]
theorem CF(ho:o.op = .binOp op t x y u)(hv:ev (cg a) (vw w.heap) (.bin (.arith op) (opnd x) (opnd y))=RJ v):(execOp a.eval o).run P w = .ok (.value v) w:=by obtain⟨p,q,hp,hq,hpq⟩:=gT hv;simp only[Bn.ev]at hpq;obtain⟨k,i,j,rfl,rfl,h⟩:=rD hpq;simp only[NR]at h;obtain⟨b,hb,rfl⟩:=h;have e1:=bI hp;have e2:=bI hq;cases op<;>simp[xC]at hb<;>subst hb<;>simp[execOp,ho,eqGuard,e1,e2,binOp,Op.intArith]
theorem E2(ho:o.op = .binOp op t x y u)(hv:ev (cg a) (vw w.heap) (.bin (.div op) (opnd x) (opnd y))=RJ v):(execOp a.eval o).run P w = .ok (.value v) w:=by obtain⟨p,q,hp,hq,hpq⟩:=gT hv;simp only[Bn.ev]at hpq;obtain⟨k,i,j,rfl,rfl,h⟩:=rD hpq;simp only[NR]at h;obtain⟨b,hb,rfl⟩:=h;have e1:=bI hp;have e2:=bI hq;cases op<;>simp[divI]at hb<;>obtain⟨hz,rfl⟩:=hb<;>simp[execOp,ho,eqGuard,e1,e2,binOp,Op.intDiv,hz]
theorem DA(ho:o.op = .binOp op t x y u)(hv:ev (cg a) (vw w.heap) (.bin (.bits op) (opnd x) (opnd y))=RJ v):(execOp a.eval o).run P w = .ok (.value v) w:=by obtain⟨p,q,hp,hq,hpq⟩:=gT hv;simp only[Bn.ev]at hpq;obtain⟨k,i,j,rfl,rfl,h⟩:=rD hpq;simp only[NR]at h;obtain⟨b,hb,rfl⟩:=h;have e1:=bI hp;have e2:=bI hq;cases op<;>simp only[J4,NN,reduceCtorEq]at hb<;>subst hb<;>simp[execOp,ho,eqGuard,e1,e2,binOp,Op.intBits]
theorem run_equal_bool(hu:P.underlying t=RJ .bool)(i j:Bool):(Op.equal t (.bool i) (.bool j)).run P w = .ok (i == j) w:=by
 have key : ∀d,(Op.equalIn (d+1) t (.bool i) (.bool j)).run P w = .ok (i == j) w:=λd=>by simp only[Op.equalIn];simp[run_underlying hu]
 exact key 9999
theorem zx(hu:P.underlying t=RJ .bool)(hop:op=if n then .neq else .eql)(ho:o.op = .binOp op t x y u)(hv:ev (cg a) (vw w.heap) (.bin (.eqB n) (opnd x) (opnd y))=RJ v):(execOp a.eval o).run P w = .ok (.value v) w:=by obtain⟨p,q,hp,hq,hpq⟩:=gT hv;simp only[Bn.ev,N0,NR]at hpq;obtain⟨i,hi,j,hj,rfl⟩:=hpq;obtain rfl:=AI hi;obtain rfl:=AI hj;have e1:=bI hp;have e2:=bI hq;have e3:=run_equal_bool (w:=w) hu i j;cases n<;>simp at hop<;>subst hop<;>simp[execOp,ho,eqGuard,e1,e2,binOp,e3]
theorem yL(hop:op=if n then .neq else .eql)(hu:P.underlying t=RJ .string)(ho:o.op = .binOp op t x y u)(hv:ev (cg a) (vw w.heap) (.bin (.eqS n) (opnd x) (opnd y))=RJ v):(execOp a.eval o).run P w = .ok (.value v) w:=by obtain⟨p,q,hp,hq,hpq⟩:=gT hv;simp only[Bn.ev,N0,NR]at hpq;obtain⟨i,hi,j,hj,rfl⟩:=hpq;obtain rfl:=tD hi;obtain rfl:=tD hj;have e1:=bI hp;have e2:=bI hq;cases n<;>simp at hop<;>subst hop<;>simp[execOp,ho,eqGuard,e1,e2,binOp,Op.stringOp]
theorem FB(ho:o.op = .binOp .add t x y u)(hv:ev (cg a) (vw w.heap) (.bin .cat (opnd x) (opnd y))=RJ v):(execOp a.eval o).run P w = .ok (.value v) w:=by
 obtain⟨p,q,hp,hq,hpq⟩:=gT hv;simp only[Bn.ev,N0]at hpq;obtain⟨i,hi,j,hj,h⟩:=hpq;obtain rfl:=tD hi;obtain rfl:=tD hj;split at h
 ·rename_i hs;cases h;have e1:=bI hp;have e2:=bI hq;have:((i.size:Int)+j.size)<=9223372036854775807:=by omega
  simp[execOp,ho,eqGuard,e1,e2,binOp,Op.stringOp,IntKind.max,IntKind.signed,IntKind.bits];exact this
 cases h
end binops
end
section
variable {P:Program} {w:World} {o:Oper} {a:Act} {v:Value}
theorem Dt{x:Operand}(ho:o.op = .move x)(hv:ev (cg a) (vw w.heap) (opnd x)=RJ v):(execOp a.eval o).run P w = .ok (.value v) w:=by simp[execOp,ho,bI hv]
theorem Ax{x:Operand}(ho:o.op = .assign x)(hv:ev (cg a) (vw w.heap) (opnd x)=RJ v):(execOp a.eval o).run P w = .ok (.value v) w:=by simp[execOp,ho,bI hv]
theorem CU{c x y:Operand}(ho:o.op = .pick c x y)(hv:ev (cg a) (vw w.heap) (.ite (opnd c) (opnd x) (opnd y))=RJ v):(execOp a.eval o).run P w = .ok (.value v) w:=by
 simp only[ev]at hv;split at hv
 ·rename_i hc;simp[execOp,ho,bI hc,asBool,bI hv]
 ·rename_i hc;simp[execOp,ho,bI hc,asBool,bI hv]
 cases hv
theorem FI{t:TypeId}{x:Operand}(ho:o.op = .unOp .not t x)(hv:ev (cg a) (vw w.heap) (.un .not (opnd x))=RJ v):(execOp a.eval o).run P w = .ok (.value v) w:=by obtain⟨u,hu,h⟩:=ke hv;simp only[Un.ev,NR]at h;obtain⟨b,hb,rfl⟩:=h;obtain rfl:=AI hb;simp[execOp,ho,bI hu,Op.unary]
theorem F7{x:Operand}(ho:o.op = .nilCheck x)(hv:ev (cg a) (vw w.heap) (.un .nilPtr (opnd x))=RJ v):(execOp a.eval o).run P w = .ok (.value v) w:=by obtain⟨u,hu,h⟩:=ke hv;simp only[Un.ev,NR]at h;obtain⟨b,hb,rfl⟩:=h;obtain rfl:=z6 hb;simp[execOp,ho,bI hu]
theorem Fa{x:Operand}{i:Nat}(ho:o.op = .extract x i)(hv:ev (cg a) (vw w.heap) (.un (.ext i) (opnd x))=RJ v):(execOp a.eval o).run P w = .ok (.value v) w:=by obtain⟨u,hu,h⟩:=ke hv;simp only[Un.ev,N0]at h;obtain⟨b,hb,h⟩:=h;obtain rfl:=EP hb;simp[execOp,ho,bI hu,Instr.extract,h]
theorem DB{s d:TypeId}{x:Operand}{k k':IntKind}(hs:P.underlying s=RJ (.int k'))(hd:P.underlying d=RJ (.int k))(ho:o.op = .convert s d x)(hv:ev (cg a) (vw w.heap) (.un (.conv k) (opnd x))=RJ v):(execOp a.eval o).run P w = .ok (.value v) w:=by obtain⟨u,hu,h⟩:=ke hv;simp only[Un.ev,NR]at h;obtain⟨b,hb,rfl⟩:=h;obtain h1:=rJ hb;subst h1;simp[execOp,ho,bI hu,convert,run_underlying hs,run_underlying hd,Conv.intToInt]
variable{n:Nat}{fields:Array Field}
theorem wE{s:TypeId}{x:Operand}{f:Nat}{g:Field}(hs:P.underlying s=RJ (.struct fields))(hf:fields[f]? = RJ g)(hz:df P g.type=RJ (n+1))(ho:o.op = .fieldAddr s x f)(hv:ev (cg a) (vw w.heap) (.un (.fld g.offset) (opnd x))=RJ v):(execOp a.eval o).run P w = .ok (.value v) w:=by obtain⟨u,hu,h⟩:=ke hv;simp only[Un.ev,NR]at h;obtain⟨b,hb,rfl⟩:=h;obtain rfl:=z6 hb;simp[execOp,ho,bI hu,Instr.fieldAt,run_underlying hs,hf,Instr.sureAddr,fieldPlace,run_sizeOf hz]
theorem DJ{s:TypeId}{x:Operand}{f:Nat}{g:Field}(hs:P.underlying s=RJ (.struct fields))(hf:fields[f]? = RJ g)(ha:oq P g.type=RJ RO)(_hz:df P g.type=RJ n)(ho:o.op = .field s x f)(hv:ev (cg a) (vw w.heap) (.un (.part g.offset) (opnd x))=RJ v):(execOp a.eval o).run P w = .ok (.value v) w:=by obtain⟨u,hu,h⟩:=ke hv;simp only[Un.ev,N0]at h;obtain⟨b,hb,h⟩:=h;obtain rfl:=DX hb;simp[execOp,ho,bI hu,Instr.field,run_underlying hs,hf,asAgg,part,oL ha,h]
theorem A0{s:TypeId}{x:Operand}{f:Nat}{g:Field}(hs:P.underlying s=RJ (.struct fields))(hf:fields[f]? = RJ g)(ha:oq P g.type=RJ RN)(hz:df P g.type=RJ n)(ho:o.op = .field s x f)(hv:ev (cg a) (vw w.heap) (.un (.parts g.offset n) (opnd x))=RJ v):(execOp a.eval o).run P w = .ok (.value v) w:=by obtain⟨u,hu,h⟩:=ke hv;simp only[Un.ev,NR]at h;obtain⟨b,hb,rfl⟩:=h;obtain rfl:=DX hb;simp[execOp,ho,bI hu,Instr.field,run_underlying hs,hf,asAgg,part,oL ha,run_sizeOf hz]
theorem FC{t e:TypeId}{x i:Operand}(ht:P.underlying t=RJ (.slice e))(hz:df P e=RJ n)(ho:o.op = .indexAddr t x i)(hv:ev (cg a) (vw w.heap) (.bin (.idx n) (opnd x) (opnd i))=RJ v):(execOp a.eval o).run P w = .ok (.value v) w:=by
 obtain⟨p,q,hp,hq,h⟩:=gT hv;simp only[Bn.ev,N0]at h;obtain⟨l,hl,k,hk,d,hd,h⟩:=h;obtain rfl:=tT hl;have hk':=rJ hk;split at h
 ·rename_i hb;simp only[NN]at h;subst h;have e1:=bI hp;have e2:=bI hq;rw[hk']at e2;simp[execOp,ho,e1,e2,Instr.indexAt,asIntOf,run_underlying ht,hd,hb.1,hb.2,run_sizeOf hz]
 cases h
theorem C0{t e:TypeId}{x i:Operand}{m:Nat}(ht:P.underlying t=RJ (.array m e))(hz:df P e=RJ n)(ho:o.op = .indexAddr t x i)(hv:ev (cg a) (vw w.heap) (.bin (.aidx m n) (opnd x) (opnd i))=RJ v):(execOp a.eval o).run P w = .ok (.value v) w:=by
 obtain⟨p,q,hp,hq,h⟩:=gT hv;simp only[Bn.ev,N0]at h;obtain⟨l,hl,k,hk,h⟩:=h;obtain rfl:=z6 hl;have hk':=rJ hk;split at h
 ·rename_i hb;simp only[NN]at h;subst h;have e1:=bI hp;have e2:=bI hq;rw[hk']at e2;simp[execOp,ho,e1,e2,Instr.indexAt,asIntOf,run_underlying ht,Instr.sureAddr,hb.1,hb.2,run_sizeOf hz]
 cases h
theorem E1{T:Array TypeId}{t e:TypeId}{x:Operand}{A:Array Operand}(hT:T[0]? = RJ t)(hA:A.toList=[x])(ht:P.underlying t=RJ (.slice e))(ho:o.op = .call { callee:=.builtin .len,args:=A,argTypes:=T })(hv:ev (cg a) (vw w.heap) (.un .len (opnd x))=RJ v):(execOp a.eval o).run P w = .ok (.value v) w:=by
 obtain⟨u,hu,h⟩:=ke hv;simp only[Un.ev,NR]at h;obtain⟨l,hl,rfl⟩:=h;obtain rfl:=tT hl;have hA':A = #[x]:=by rw[<-Array.toArray_toList (xs:=A),hA]
 subst hA';simp[execOp,ho,resolve,invoke,builtin,Builtin.len_,hT,run_underlying ht,bI hu,goInt]
theorem AM{T:Array TypeId}{t:TypeId}{x:Operand}{A:Array Operand}(hT:T[0]? = RJ t)(hA:A.toList=[x])(ht:P.underlying t=RJ .string)(ho:o.op = .call { callee:=.builtin .len,args:=A,argTypes:=T })(hv:ev (cg a) (vw w.heap) (.un .lenStr (opnd x))=RJ v):(execOp a.eval o).run P w = .ok (.value v) w:=by
 obtain⟨u,hu,h⟩:=ke hv;simp only[Un.ev,NR]at h;obtain⟨l,hl,rfl⟩:=h;obtain rfl:=tD hl;have hA':A = #[x]:=by rw[<-Array.toArray_toList (xs:=A),hA]
 subst hA';simp[execOp,ho,resolve,invoke,builtin,Builtin.len_,hT,run_underlying ht,bI hu,goInt]
theorem Ah{T:Array TypeId}{t k e:TypeId}{x:Operand}{A:Array Operand}(hT:T[0]? = RJ t)(hA:A.toList=[x])(ht:P.underlying t=RJ (.map k e))(ho:o.op = .call { callee:=.builtin .len,args:=A,argTypes:=T })(hv:ev (cg a) (vw w.heap) (.un .lenMap (opnd x))=RJ v):(execOp a.eval o).run P w = .ok (.value v) w:=by
 obtain⟨u,hu,h⟩:=ke hv;simp only[Un.ev,N0]at h;obtain⟨l,hl,h⟩:=h;obtain rfl:=Jg hl;have hA':A = #[x]:=by rw[<-Array.toArray_toList (xs:=A),hA]
 subst hA';cases l with
 | none=>simp only[NN]at h;subst h;simp[execOp,ho,resolve,invoke,builtin,Builtin.len_,hT,run_underlying ht,bI hu,goInt]
 | some r=>
  simp only[NR,mapH,vw]at h;obtain⟨⟨es,c⟩,h1,rfl⟩:=h;split at h1
  ·rename_i es' c' hh;simp only[NN,Pu]at h1;obtain⟨rfl,rfl⟩:=h1;simp[execOp,ho,resolve,invoke,builtin,Builtin.len_,hT,run_underlying ht,bI hu,goInt,getObj,Sem.run,hh]
  cases h1
theorem F9{T:Array TypeId}{x y:Operand}{A:Array Operand}(hA:A.toList=[x,y])(ho:o.op = .call { callee:=.builtin .min,args:=A,argTypes:=T })(hv:ev (cg a) (vw w.heap) (.bin .min (opnd x) (opnd y))=RJ v):(execOp a.eval o).run P w = .ok (.value v) w:=by
 obtain⟨p,q,hp,hq,hpq⟩:=gT hv;simp only[Bn.ev]at hpq;obtain⟨k,i,j,rfl,rfl,h⟩:=rD hpq;simp only[NN]at h;subst h;have hA':A = #[x,y]:=by rw[<-Array.toArray_toList (xs:=A),hA]
 subst hA';simp[execOp,ho,resolve,invoke,builtin,Builtin.min_,Builtin.min2,bI hp,bI hq]
theorem FU{T:Array TypeId}{x y:Operand}{A:Array Operand}(hA:A.toList=[x,y])(ho:o.op = .call { callee:=.builtin .max,args:=A,argTypes:=T })(hv:ev (cg a) (vw w.heap) (.bin .max (opnd x) (opnd y))=RJ v):(execOp a.eval o).run P w = .ok (.value v) w:=by
 obtain⟨p,q,hp,hq,hpq⟩:=gT hv;simp only[Bn.ev]at hpq;obtain⟨k,i,j,rfl,rfl,h⟩:=rD hpq;simp only[NN]at h;subst h;have hA':A = #[x,y]:=by rw[<-Array.toArray_toList (xs:=A),hA]
 subst hA';simp[execOp,ho,resolve,invoke,builtin,Builtin.max_,Builtin.max2,bI hp,bI hq]
theorem BB : ∀(l:List Operand) (e:E) (acc:Array Value) (v:Value),ev (cg a) (vw w.heap) e=RJ (.tuple acc)->ev (cg a) (vw w.heap) (l.foldl (λe x=>.snoc e (opnd x)) e)=RJ v->
  v = .tuple (acc++(l.map a.eval).toArray)
 | [],e,acc,v,h0,h=>by simp at h;rw[h0]at h;simp at h;subst h;simp
 | x::l,e,acc,v,h0,h=>by
  simp only[N8]at h;cases hx:ev (cg a) (vw w.heap) (opnd x)with
  | none=>
   exfalso;have : ∀(l:List Operand) (e:E),ev (cg a) (vw w.heap) e=RK->ev (cg a) (vw w.heap) (l.foldl (λe x=>.snoc e (opnd x)) e)=none:=by
    intro l;induction l with
    | nil=>intro e he;simpa using he
    | cons y l ih=>intro e he;simp only[N8];exact ih _ (by simp[ev,he])
   rw[this l _ (by simp[ev,h0,hx])]at h;cases h
  | some u=>have:=BB l (.snoc e (opnd x)) (acc.push u) v (by simp[ev,h0,hx]) h;rw[this,<-bI hx];simp
theorem GG{f:FuncId}{first captured:Array Operand}(hf:first.isEmpty=RN)(ho:o.op = .makeFunc (.func f) first captured)(hv:ev (cg a) (vw w.heap) (.un (.fn f) (captured.toList.foldl (λe x=>.snoc e (opnd x)) (.con (.tuple #[]))))=RJ v):(execOp a.eval o).run P w = .ok (.value v) w:=by
 obtain⟨u,hu,h⟩:=ke hv;simp only[Un.ev,NR]at h;obtain⟨l,hl,rfl⟩:=h;obtain rfl:=EP hl;have h1:=BB captured.toList _ #[] _ (by simp[ev]) hu;have hf':first = #[]:=by simpa using hf
 subst hf';simp only[Value.tuple.injEq]at h1;subst h1;have e:Array.map a.eval captured=(List.map a.eval captured.toList).toArray:=by rw[<-Array.toList_inj];simp
 simp[execOp,ho,Instr.makeFunc,e]
theorem run_sliceBound{i:Operand}{q:IntKind × Int}{u:Value}(hq:ev (cg a) (vw w.heap) (opnd i)=RJ u)(hk:vI u=RJ q)(y:Nat)(c:BoundsCode)(hb:0<=q.2/\q.2<=y):
  (Instr.sliceBound (a.eval i) y c).run P w = .ok q.2.toNat w:=by have h1:=rJ hk;rw[bI hq,h1];simp[Instr.sliceBound,asIntOf,hb.1,hb.2]
theorem GY{t e:TypeId}{x j:Operand}(ht:P.underlying t=RJ (.slice e))(hz:df P e=RJ n)(ho:o.op = .slice t x RK (RJ j) RK)(hv:ev (cg a) (vw w.heap) (.bin .hi (opnd x) (opnd j))=RJ v):(execOp a.eval o).run P w = .ok (.value v) w:=by
 obtain⟨p,q,hp,hq,h⟩:=gT hv;simp only[Bn.ev,N0]at h;obtain⟨l,hl,k,hk,h⟩:=h;obtain rfl:=tT hl;split at h
 ·rename_i hb;simp only[NN]at h;subst h;have e1:=bI hp;have e2:=run_sliceBound (P:=P) hq hk l.2.2 .sliceAcap hb;have e3:=run_sizeOf (w:=w) hz;obtain⟨b,len,cap⟩:=l;simp only at e2;cases b<;>simp[execOp,ho,e1,Instr.sliceAt,Instr.slice,run_underlying ht,Instr.sliceBounds,e2,e3,Addr.add]
 cases h
theorem Gh{t e:TypeId}{x i:Operand}(ht:P.underlying t=RJ (.slice e))(hz:df P e=RJ n)(ho:o.op = .slice t x (RJ i) RK RK)(hv:ev (cg a) (vw w.heap) (.bin (.lo n) (opnd x) (opnd i))=RJ v):(execOp a.eval o).run P w = .ok (.value v) w:=by
 obtain⟨p,q,hp,hq,h⟩:=gT hv;simp only[Bn.ev,N0]at h;obtain⟨l,hl,k,hk,h⟩:=h;obtain rfl:=tT hl;split at h
 ·rename_i hb;simp only[NN]at h;subst h;have e1:=bI hp;have e2:=run_sliceBound (P:=P) hq hk l.2.1 .sliceB hb;have e3:=run_sizeOf (w:=w) hz;obtain⟨b,len,cap⟩:=l;simp only at e2;simp[execOp,ho,e1,Instr.sliceAt,Instr.slice,run_underlying ht,Instr.sliceBounds,e2,e3]
 cases h
theorem Df{t e:TypeId}{x i j:Operand}(ht:P.underlying t=RJ (.slice e))(hz:df P e=RJ n)(ho:o.op = .slice t x (RJ i) (RJ j) RK)(hv:ev (cg a) (vw w.heap) (.bin (.lo n) (.bin .hi (opnd x) (opnd j)) (opnd i))=RJ v):(execOp a.eval o).run P w = .ok (.value v) w:=by
 obtain⟨p,q,hp,hq,h⟩:=gT hv;obtain⟨p',q',hp',hq',h'⟩:=gT hp;simp only[Bn.ev,N0]at h h';obtain⟨l',hl',k',hk',h'⟩:=h';obtain rfl:=tT hl';split at h'
 ·rename_i hb';simp only[NN]at h';subst h';obtain⟨l,hl,k,hk,h⟩:=h;simp only[vL,NN]at hl;subst hl;split at h
  ·rename_i hb;simp only[NN]at h;subst h;have e1:=bI hp';have e2:=run_sliceBound (P:=P) hq hk k'.2.toNat .sliceB hb;have e2':=run_sliceBound (P:=P) hq' hk' l'.2.2 .sliceAcap hb';have e3:=run_sizeOf (w:=w) hz;obtain⟨b,len,cap⟩:=l';simp only at e2 e2';simp[execOp,ho,e1,Instr.sliceAt,Instr.slice,run_underlying ht,Instr.sliceBounds,e2,e2',e3]
  cases h
 cases h'
theorem AA{t:TypeId}{x:Operand}{e:E}(he:yv P t (opnd x)=RJ e)(ho:o.op = .load t x)(hv:ev (cg a) (vw w.heap) e=RJ v):(execOp a.eval o).run P w = .ok (.value v) w:=by
 have hx : ∃u,ev (cg a) (vw w.heap) (opnd x)=RJ u:=by
  unfold yv at he;split at he
  ·simp only[NN]at he;subst he;obtain⟨u,hu,_⟩:=ke hv;exact⟨u,hu⟩
  ·simp only[NN]at he;subst he;obtain⟨u,hu,_⟩:=ke hv;exact⟨u,hu⟩
  cases he
 obtain⟨u,hu⟩:=hx;have:=run_load he hu hv;simp[execOp,ho,bI hu,this]
theorem rn{e:E}(he:opE P o.op=RJ e)(hv:ev (cg a) (vw w.heap) e=RJ v):(execOp a.eval o).run P w = .ok (.value v) w:=by
 cases ho:o.op with
 | move x=>rw[ho]at he;simp only[opE,NN]at he;subst he;exact Dt ho hv
 | assign x=>rw[ho]at he;simp only[opE,NN]at he;subst he;exact Ax ho hv
 | pick c x y=>rw[ho]at he;simp only[opE,NN]at he;subst he;exact CU ho hv
 | unOp op t x=>rw[ho]at he;cases op<;>simp only[opE,NN,reduceCtorEq]at he;subst he;exact FI ho hv
 | binOp op t x y u=>
  rw[ho]at he;simp only[opE]at he;split at he<;>first
   | (simp only[NN]at he;subst he;first | exact CF ho hv | exact E2 ho hv | exact DA ho hv | exact FT ho hv | exact zx (n:=false) ‹_› rfl ho hv | exact zx (n:=true) ‹_› rfl ho hv | exact FB ho hv | exact yL (n:=false) rfl ‹_› ho hv | exact yL (n:=true) rfl ‹_› ho hv)
   | cases he
 | load t x=>rw[ho]at he;simp only[opE]at he;exact AA he ho hv
 | nilCheck x=>rw[ho]at he;simp only[opE,NN]at he;subst he;exact F7 ho hv
 | fieldAddr s x f=>
  rw[ho]at he;simp only[opE]at he;split at he
  ·rename_i fields hs;split at he
   ·rename_i g hf;split at he
    ·rename_i n hz;simp only[NN]at he;subst he;exact wE hs hf hz ho hv
    cases he
   cases he
  cases he
 | field s x f=>
  rw[ho]at he;simp only[opE]at he;split at he
  ·rename_i fields hs;split at he
   ·rename_i g hf;split at he
    ·rename_i n ha hz;simp only[NN]at he;subst he;exact A0 hs hf ha hz ho hv
    ·rename_i n ha hz;simp only[NN]at he;subst he;exact DJ hs hf ha hz ho hv
    cases he
   cases he
  cases he
 | indexAddr t x i=>
  rw[ho]at he;simp only[opE]at he;split at he
  ·rename_i el ht;simp only[NR]at he;obtain⟨n,hn,rfl⟩:=he;exact FC ht hn ho hv
  ·rename_i k el ht;split at he
   ·cases he
   simp only[NR]at he;obtain⟨n,hn,rfl⟩:=he;exact C0 ht hn ho hv
  cases he
 | extract x i=>rw[ho]at he;simp only[opE,NN]at he;subst he;exact Fa ho hv
 | convert s d x=>
  rw[ho]at he;simp only[opE]at he;split at he
  ·rename_i k' k hs hd;simp only[NN]at he;subst he;exact DB hs hd ho hv
  cases he
 | makeFunc fn first captured=>
  rw[ho]at he;cases fn<;>simp only[opE,reduceCtorEq]at he;split at he
  ·rename_i hf;simp only[NN]at he;subst he;exact GG hf ho hv
  cases he
 | call c=>
  rw[ho]at he;obtain⟨callee,args,T⟩:=c;cases callee with
  | value f=>simp only[opE,reduceCtorEq]at he
  | invoke r m=>simp only[opE,reduceCtorEq]at he
  | builtin b=>
   cases b<;>simp only[opE,reduceCtorEq]at he;case len=>
    split at he
    ·rename_i x t hA hT;split at he
     ·rename_i el ht;simp only[NN]at he;subst he;exact E1 hT hA ht ho hv
     ·rename_i ht;simp only[NN]at he;subst he;exact AM hT hA ht ho hv
     ·rename_i k el ht;simp only[NN]at he;subst he;exact Ah hT hA ht ho hv
     cases he
    cases he
   case min=>
    split at he
    ·rename_i x y hA;simp only[NN]at he;subst he;exact F9 hA ho hv
    cases he
   case max=>
    split at he
    ·rename_i x y hA;simp only[NN]at he;subst he;exact FU hA ho hv
    cases he
 | slice t x lo hi mx=>
  rw[ho]at he;cases mx with
  | some m=>simp only[opE,reduceCtorEq]at he
  | none=>
   simp only[opE]at he;split at he
   ·rename_i el ht;split at he
    ·rename_i n hz;cases lo<;>cases hi<;>simp only[NN,reduceCtorEq]at he
     ·subst he;exact GY ht hz ho hv
     ·subst he;exact Gh ht hz ho hv
     subst he;exact Df ht hz ho hv
    cases he
   cases he
 | _=>rw[ho]at he;simp only[opE,reduceCtorEq]at he
end
def evs (ρ:Nat->Option Value) (h:View):List E->Option (List Value)
 | []=>RJ []
 | e::es=>match ev ρ h e,evs ρ h es with
  | some v,RJ vs=>RJ (v::vs)
  | _,_=>RK
def updF (ρ:Nat->Option Value) (d:Nat) (u:Value):Nat->Option Value:=λt=>if t=d then RJ u else ρ t
def yS (k:E) (c:Nat):Bool:=match k with | .tmp t=>t == c | _=>RO
def E.subst (r:E) (d:Nat) (e:E):E:=
 match r with
 | .tmp t=>if t=d then e else .tmp t
 | .con v=>.con v
 | .un o x=>.un o (x.subst d e)
 | .bin o x y=>.bin o (x.subst d e) (y.subst d e)
 | .snoc x y=>.snoc (x.subst d e) (y.subst d e)
 | .ite k x y=>.ite (k.subst d e) (x.subst d e) (y.subst d e)
 | .gd k b x=>.gd (k.subst d e) b (x.subst d e)
def E.occ (r:E) (d:Nat):Bool:=
 match r with
 | .tmp t=>t == d
 | .con _=>RO
 | .un _ x=>x.occ d
 | .bin _ x y | .snoc x y=>x.occ d||y.occ d
 | .ite k _ _=>k.occ d
 | .gd k _ _=>k.occ d
def E.dm (r:E) (d c:Nat) (b:Bool) (e:E):E:=
 match r with
 | .tmp t=>if t=d then .gd (.tmp c) b e else .tmp t
 | .con v=>.con v
 | .un o x=>.un o (x.dm d c b e)
 | .bin o x y=>.bin o (x.dm d c b e) (y.dm d c b e)
 | .snoc x y=>.snoc (x.dm d c b e) (y.dm d c b e)
 | .ite k x y=>
  if yS k c then(if b then .ite k (x.subst d e) (y.dm d c b e) else .ite k (x.dm d c b e) (y.subst d e))
  else .ite (k.dm d c b e) (x.dm d c b e) (y.dm d c b e)
 | .gd k b' x=>if yS k c&&b' == b then .gd k b' (x.subst d e) else .gd (k.dm d c b e) b' (x.dm d c b e)
def E.occG (r:E) (d c:Nat) (b:Bool):Bool:=
 match r with
 | .tmp t=>t == d
 | .con _=>RO
 | .un _ x=>x.occG d c b
 | .bin _ x y | .snoc x y=>x.occG d c b||y.occG d c b
 | .ite k x y=>if yS k c then(if b then x.occ d else y.occ d) else k.occG d c b
 | .gd k b' x=>if yS k c&&b' == b then x.occ d else k.occG d c b
section
variable {ρ:Nat->Option Value} {h:View} {d c:Nat} {b:Bool} {e:E} {u:Value}
theorem kQ{k:E}(hk:yS k c=RN):k = .tmp c:=by cases k<;>simp[yS]at hk;subst hk;rfl
theorem fl (hu:ev ρ h e=RJ u) : ∀r:E,ev ρ h (r.subst d e)=ev (updF ρ d u) h r
 | .tmp t=>by simp only[E.subst];split<;>simp_all [ev,updF]
 | .con v=>rfl
 | .un o x=>by simp only[E.subst,ev,fl hu x]
 | .bin o x y=>by simp only[E.subst,ev,fl hu x,fl hu y]
 | .snoc x y=>by simp only[E.subst,ev,fl hu x,fl hu y]
 | .ite k x y=>by simp only[E.subst,ev,fl hu k,fl hu x,fl hu y]
 | .gd k b x=>by simp only[E.subst,ev,fl hu k,fl hu x]
theorem uS(hu:ev ρ h (.gd (.tmp c) b e)=RJ u)(hcd:c≠d)(r:E):ev ρ h (r.dm d c b e)=ev (updF ρ d u) h r:=by
 have hρ:updF ρ d u c=ρ c:=by simp[updF,hcd]
 induction r with
 | tmp t=>
  simp only[E.dm];split
  ·rename_i ht;rw[hu];simp[ev,updF,ht]
  rename_i ht;simp[ev,updF,ht]
 | con v=>rfl
 | un o x ih=>simp only[E.dm,ev,ih]
 | bin o x y ihx ihy=>simp only[E.dm,ev,ihx,ihy]
 | snoc x y ihx ihy=>simp only[E.dm,ev,ihx,ihy]
 | ite k x y ihk ihx ihy=>
  simp only[E.dm];split
  ·rename_i hk;obtain rfl:=kQ hk;split
   ·rename_i hb;simp only[ev,hρ];split
    ·rename_i hc;simp only[ev,hc,hb,if_true]at hu;exact fl hu x
    ·exact ihy
    rfl
   rename_i hb;simp only[ev,hρ];split
   ·exact ihx
   ·rename_i hc;simp only[ev,hc,hb]at hu;exact fl hu y
   rfl
  simp only[ev,ihk,ihx,ihy]
 | gd k b' x ihk ihx=>
  simp only[E.dm];split
  ·rename_i hk;simp only[NS,beq_iff_eq]at hk;obtain⟨hk,hb'⟩:=hk;obtain rfl:=kQ hk;simp only[ev,hρ,hb'];split
   ·rename_i hc;split
    ·rename_i hb;simp only[ev,hc,hb,if_true]at hu;exact fl hu x
    rfl
   ·rename_i hc;split
    ·rfl
    rename_i hb;simp only[ev,hc,hb]at hu;exact fl hu x
   ·rfl
   rfl
  simp only[ev,ihk,ihx]
theorem jP : ∀{r:E} {v:Value},r.occ d=RN->ev ρ h (r.subst d e)=RJ v->∃u,ev ρ h e=RJ u
 | .tmp t,v,ho,hv=>by simp[E.occ]at ho;simp[E.subst,ho]at hv;exact⟨v,hv⟩
 | .con _,_,ho,_=>by simp[E.occ]at ho
 | .un o x,v,ho,hv=>by simp only[E.occ]at ho;simp only[E.subst]at hv;obtain⟨u,hu,_⟩:=ke hv;exact jP ho hu
 | .bin o x y,v,ho,hv=>by
  simp only[E.occ,OV]at ho;simp only[E.subst]at hv;obtain⟨u,u',hu,hu',_⟩:=gT hv;rcases ho with ho | ho
  ·exact jP ho hu
  exact jP ho hu'
 | .snoc x y,v,ho,hv=>by
  simp only[E.occ,OV]at ho;simp only[E.subst,ev]at hv;split at hv
  ·rename_i hu hu';rcases ho with ho | ho
   ·exact jP ho hu
   exact jP ho hu'
  cases hv
 | .ite k x y,v,ho,hv=>by
  simp only[E.occ]at ho;simp only[E.subst,ev]at hv;split at hv
  ·rename_i hu;exact jP ho hu
  ·rename_i hu;exact jP ho hu
  cases hv
 | .gd k b x,v,ho,hv=>by
  simp only[E.occ]at ho;simp only[E.subst,ev]at hv;split at hv
  ·rename_i hu;exact jP ho hu
  ·rename_i hu;exact jP ho hu
  ·rename_i hu;exact jP ho hu
  cases hv
theorem wR(hc:ρ c=RJ (.bool b)):ev ρ h (.gd (.tmp c) b e)=ev ρ h e:=by cases b<;>simp[ev,hc]
theorem kt (hc:ρ c=RJ (.bool b)) : ∀{r:E} {v:Value},r.occG d c b=RN->ev ρ h (r.dm d c b e)=RJ v->∃u,ev ρ h e=RJ u
 | .tmp t,v,ho,hv=>by simp[E.occG]at ho;simp only[E.dm,ho,if_true,wR hc]at hv;exact⟨v,hv⟩
 | .con _,_,ho,_=>by simp[E.occG]at ho
 | .un o x,v,ho,hv=>by simp only[E.occG]at ho;simp only[E.dm]at hv;obtain⟨u,hu,_⟩:=ke hv;exact kt hc ho hu
 | .bin o x y,v,ho,hv=>by
  simp only[E.occG,OV]at ho;simp only[E.dm]at hv;obtain⟨u,u',hu,hu',_⟩:=gT hv;rcases ho with ho | ho
  ·exact kt hc ho hu
  exact kt hc ho hu'
 | .snoc x y,v,ho,hv=>by
  simp only[E.occG,OV]at ho;simp only[E.dm,ev]at hv;split at hv
  ·rename_i hu hu';rcases ho with ho | ho
   ·exact kt hc ho hu
   exact kt hc ho hu'
  cases hv
 | .ite k x y,v,ho,hv=>by
  simp only[E.occG]at ho;simp only[E.dm]at hv;split at ho
  ·rename_i hk;rw[if_pos hk]at hv;obtain rfl:=kQ hk;cases b
   ·simp only[Pp,if_false]at ho hv;simp only[ev,hc]at hv;exact jP ho hv
   simp only[if_true]at ho hv;simp only[ev,hc]at hv;exact jP ho hv
  rename_i hk;rw[if_neg hk]at hv;simp only[ev]at hv;split at hv
  ·rename_i hu;exact kt hc ho hu
  ·rename_i hu;exact kt hc ho hu
  cases hv
 | .gd k b' x,v,ho,hv=>by
  simp only[E.occG]at ho;simp only[E.dm]at hv;split at ho
  ·rename_i hk;rw[if_pos hk]at hv;simp only[NS,beq_iff_eq]at hk;obtain⟨hk,rfl⟩:=hk;obtain rfl:=kQ hk;rw[wR hc]at hv;exact jP ho hv
  rename_i hk;rw[if_neg hk]at hv;simp only[ev]at hv;split at hv
  ·rename_i hu;exact kt hc ho hu
  ·rename_i hu;exact kt hc ho hu
  ·rename_i hu;exact kt hc ho hu
  cases hv
theorem gI (hcd:c≠d) : ∀{r:E} {v:Value},r.occG d c b=RN->ev ρ h (r.dm d c b e)=RJ v->∃u,ev ρ h (.tmp c)=RJ u
 | .tmp t,v,ho,hv=>by
  simp[E.occG]at ho;simp only[E.dm,ho,if_true]at hv;cases hc:ρ c with
  | none=>simp[ev,hc]at hv
  | some u=>exact⟨u,hc⟩
 | .con _,_,ho,_=>by simp[E.occG]at ho
 | .un o x,v,ho,hv=>by simp only[E.occG]at ho;simp only[E.dm]at hv;obtain⟨u,hu,_⟩:=ke hv;exact gI hcd ho hu
 | .bin o x y,v,ho,hv=>by
  simp only[E.occG,OV]at ho;simp only[E.dm]at hv;obtain⟨u,u',hu,hu',_⟩:=gT hv;rcases ho with ho | ho
  ·exact gI hcd ho hu
  exact gI hcd ho hu'
 | .snoc x y,v,ho,hv=>by
  simp only[E.occG,OV]at ho;simp only[E.dm,ev]at hv;split at hv
  ·rename_i hu hu';rcases ho with ho | ho
   ·exact gI hcd ho hu
   exact gI hcd ho hu'
  cases hv
 | .ite k x y,v,ho,hv=>by
  simp only[E.occG]at ho;simp only[E.dm]at hv;split at ho
  ·rename_i hk;rw[if_pos hk]at hv;obtain rfl:=kQ hk;cases hc:ρ c with
   | none=>cases b<;>simp[ev,hc]at hv
   | some u=>exact⟨u,hc⟩
  rename_i hk;rw[if_neg hk]at hv;simp only[ev]at hv;split at hv
  ·rename_i hu;exact gI hcd ho hu
  ·rename_i hu;exact gI hcd ho hu
  cases hv
 | .gd k b' x,v,ho,hv=>by
  simp only[E.occG]at ho;simp only[E.dm]at hv;split at ho
  ·rename_i hk;rw[if_pos hk]at hv;simp only[NS,beq_iff_eq]at hk;obtain⟨hk,rfl⟩:=hk;obtain rfl:=kQ hk;cases hc:ρ c with
   | none=>simp[ev,hc]at hv
   | some u=>exact⟨u,hc⟩
  rename_i hk;rw[if_neg hk]at hv;simp only[ev]at hv;split at hv
  ·rename_i hu;exact gI hcd ho hu
  ·rename_i hu;exact gI hcd ho hu
  ·rename_i hu;exact gI hcd ho hu
  cases hv
theorem EO : ∀{l:List E} {vs:List Value},evs ρ h l=RJ vs->vs.length=l.length
 | [],vs,hv=>by simp[evs]at hv;subst hv;rfl
 | e::l,vs,hv=>by
  simp only[evs]at hv;split at hv
  ·rename_i hl;simp only[NN]at hv;subst hv;simp[EO hl]
  cases hv
theorem tc {p:E->Bool} {f:E->E} (hp : ∀r v,p r=RN->ev ρ h (f r)=RJ v->∃u,ev ρ h e=RJ u) :
  ∀{l:List E} {vs:List Value},l.any p=RN->evs ρ h (l.map f)=RJ vs->∃u,ev ρ h e=RJ u
 | [],_,ha,_=>by simp at ha
 | r::l,vs,ha,hv=>by
  simp only[Pv,evs]at hv;split at hv
  ·rename_i h1 h2;simp only[List.any_cons,OV]at ha;rcases ha with ha | ha
   ·exact hp _ _ ha h1
   exact tc hp ha h2
  cases hv
theorem rG {f:E->E} {ρ':Nat->Option Value} (hf : ∀r,ev ρ h (f r)=ev ρ' h r) : ∀l:List E,evs ρ h (l.map f)=evs ρ' h l
 | []=>rfl
 | r::l=>by simp only[Pv,evs,hf r,rG hf l]
theorem sG : ∀{l m:List E} {vs:List Value},evs ρ h (l++m)=RJ vs->∃us ws,evs ρ h l=RJ us/\evs ρ h m=RJ ws/\vs=us++ws
 | [],m,vs,hv=>⟨[],vs,rfl,hv,rfl⟩
 | e::l,m,vs,hv=>by
  simp only[QL,evs]at hv;split at hv
  ·rename_i v1 vs1 h1 h2;simp only[NN]at hv;subst hv;obtain⟨us,ws,hu,hw,rfl⟩:=sG h2;exact⟨v1::us,ws,by simp[evs,h1,hu],hw,rfl⟩
  cases hv
end
def th (P:Program) (N:Nat) (ops0:Array Oper) (o:Oper) (r:List E):Option (List E):=
 match o.dst,opE P o.op with
 | some d,RJ e=>
  if d<N then
   match o.guard with
   | none=>if r.any (·.occ d) then RJ (r.map (·.subst d e)) else RJ ((r++[E.tmp d]).map (λx=>x.subst d e))
   | some (j,b)=>match (ops0[j]?).bind (·.dst)with
    | some c=>if c=d then RK else if r.any (·.occG d c b) then RJ (r.map (·.dm d c b e)) else RJ ((r++[E.tmp d]).map (λx=>x.dm d c b e))
    | none=>RK
  else RK
 | _,_=>RK
def back (P:Program) (N:Nat) (ops0:Array Oper):List Oper->List E->Option (List E)
 | [],r=>RJ r
 | o::rest,r=>match back P N ops0 rest r with
  | some r1=>th P N ops0 o r1
  | none=>RK
def uq (P:Program) (o:Oper):Bool:=match opE P o.op with | some e=>!e.reads | none=>RO
variable{P:Program}
theorem vF{o:Oper}{e:E}(he:opE P o.op=RJ e)(hp:uq P o=RN):e.reads=false:=by simpa[uq,he]using hp
def iJ (P:Program) (ops0:Array Oper) (H:View) (o:Oper) (v:Value) (a:Act):Prop:=
 (Region.wanted o (yielded ops0 a.tmps)=RN/\(∀w:World,H.sub (vw w.heap)->(execOp a.eval o).run P w = .ok (.value v) w)/\(uq P o=RN->∀w:World,(execOp a.eval o).run P w = .ok (.value v) w))\/
 (Region.wanted o (yielded ops0 a.tmps)=RO/\v=undef)
def QRun (P:Program) (ops0:Array Oper) (H:View):List Oper->Act->Act->Prop
 | [],a,a'=>a'=a
 | o::rest,a,a'=>∃v,iJ P ops0 H o v a/\QRun P ops0 H rest (a.put o.dst v) a'
theorem Fz{a:Act}{d:Nat}{v:Value}(hd:d<a.tmps.size):cg (a.put (RJ d) v)=updF (cg a) d v:=by
 funext t;simp only[cg,Act.put,updF,Array.getElem?_setIfInBounds];split
 ·rename_i h;subst h;simp
 rename_i h;rw[if_neg (Ne.symm h)]
variable{N:Nat}{ops0:Array Oper}
theorem xy{o:Oper}{r r':List E}{a:Act}{vs:List Value}(hN:a.tmps.size=N)(hb:th P N ops0 o r=RJ r')(hv:evs (cg a) H r'=RJ vs):
  ∃u,iJ P ops0 H o u a/\(a.put o.dst u).tmps.size=N/\∃us ws,evs (cg (a.put o.dst u)) H r=RJ us/\vs=us++ws:=by
 unfold th at hb;cases hd:o.dst with
 | none=>simp[hd]at hb
 | some d=>
  cases he:opE P o.op with
  | none=>simp[hd,he]at hb
  | some e=>
   simp only[hd,he]at hb;split at hb;case isFalse=>cases hb
   rename_i hlt;have hsz : ∀u,(a.put (RJ d) u).tmps.size=N:=λu=>by simp[Act.put,hN]
   have hput : ∀u,cg (a.put (RJ d) u)=updF (cg a) d u:=λu=>Fz (by rw[hN];exact hlt);cases hg:o.guard with
   | none=>
    simp only[hg]at hb;have hw:Region.wanted o (yielded ops0 a.tmps)=true:=by simp[Region.wanted,hg]
    have key : ∃u,ev (cg a) H e=RJ u/\∃us ws,evs (updF (cg a) d u) H r=RJ us/\vs=us++ws:=by
     split at hb
     ·rename_i hany;simp only[NN]at hb;subst hb;obtain⟨u,hu⟩:=tc (e:=e) (λr v h1 h2=>jP h1 h2) hany hv;refine⟨u,hu,vs,[],?_,by simp⟩;rw[rG (fl hu)]at hv;exact hv
     simp only[NN]at hb;subst hb;obtain⟨u,hu⟩:=tc (e:=e) (p:=(·.occ d)) (λr v h1 h2=>jP h1 h2) (by simp[E.occ]) hv;rw[rG (fl hu)]at hv;obtain⟨us,ws,h1,h2,h3⟩:=sG hv;exact⟨u,hu,us,ws,h1,h3⟩
    obtain⟨u,hu,us,ws,h1,h2⟩:=key;exact⟨u,.inl ⟨hw,λw hw'=>rn he (gJ hw' hu),λhp w=>rn he (by rw[iG (vF he hp) (h':=H)];exact hu)⟩,hsz u,us,ws,by rw[hput];exact h1,h2⟩
   | some jb=>
    obtain⟨j,b⟩:=jb;simp only[hg]at hb;split at hb;case h_2=>cases hb
    rename_i c hc;split at hb;case isTrue=>cases hb
    rename_i hcd;have hwanted:Region.wanted o (yielded ops0 a.tmps)=RN↔cg a c=RJ (.bool b):=by
     simp only[Region.wanted,hg,yielded,hc,Ov,cg,beq_iff_eq];split
     ·rename_i b' hb';rw[hb'];simp
     rename_i hne;constructor
     ·intro h;cases h
     intro h;exact absurd h (hne b)
    have gval : ∀v,ev (cg a) H (.gd (.tmp c) b e)=RJ v->iJ P ops0 H o v a:=by
     intro v hv';by_cases hw:Region.wanted o (yielded ops0 a.tmps)=RN
     ·have h1:=hwanted.1 hw;rw[wR h1]at hv';exact .inl ⟨hw,λw hw'=>rn he (gJ hw' hv'),λhp w=>rn he (by rw[iG (vF he hp) (h':=H)];exact hv')⟩
     refine .inr ⟨by simpa using hw,?_⟩;have h1:cg a c≠RJ (.bool b):=λh=>hw (hwanted.2 h);simp only[ev]at hv';split at hv'
     ·rename_i hcc;cases b
      ·simpa using hv'.symm
      exact absurd hcc h1
     ·rename_i hcc;cases b
      ·exact absurd hcc h1
      simpa using hv'.symm
     ·simpa using hv'.symm
     cases hv'
    have key : ∃u,ev (cg a) H (.gd (.tmp c) b e)=RJ u/\∃us ws,evs (updF (cg a) d u) H r=RJ us/\vs=us++ws:=by
     split at hb
     ·rename_i hany;simp only[NN]at hb;subst hb;by_cases hw:cg a c=RJ (.bool b)
      ·obtain⟨u,hu⟩:=tc (e:=e) (λr v h1 h2=>kt hw h1 h2) hany hv;have hu':ev (cg a) H (.gd (.tmp c) b e)=RJ u:=by rw[wR hw];exact hu
       rw[rG (uS hu' hcd)]at hv;exact⟨u,hu',vs,[],hv,by simp⟩
      cases hcv:cg a c with
      | none=>exfalso;obtain⟨u,hu⟩:=tc (e:=.tmp c) (p:=(·.occG d c b)) (f:=(·.dm d c b e)) (λr v h1 h2=>gI hcd h1 h2) hany hv;simp only[ev]at hu;rw[hcv]at hu;cases hu
      | some cv=>
       have hu':ev (cg a) H (.gd (.tmp c) b e)=RJ undef:=by
        simp only[ev,hcv];split
        ·rename_i h1;simp only[NN]at h1;subst h1;cases b
         ·simp
         exact absurd hcv hw
        ·rename_i h1;simp only[NN]at h1;subst h1;cases b
         ·exact absurd hcv hw
         simp
        ·rfl
        rename_i h1;cases h1
       rw[rG (uS hu' hcd)]at hv;exact⟨undef,hu',vs,[],hv,by simp⟩
     simp only[NN]at hb;subst hb;rw[PY]at hv;obtain⟨us,ws,h1,h2,h3⟩:=sG hv;simp only[Pv,List.map_nil,E.dm,if_true,evs]at h2;split at h2
     ·rename_i u _ hu _;rw[rG (uS hu hcd)]at h1;exact⟨u,hu,us,ws,h1,h3⟩
     cases h2
    obtain⟨u,hu,us,ws,h1,h2⟩:=key;exact⟨u,gval u hu,hsz u,us,ws,by rw[hput];exact h1,h2⟩
abbrev Env:=List (Nat × Value)
def look:Env->Nat->Option Value
 | [],_=>RK
 | (k,v)::r,t=>if k=t then RJ v else look r t
def setE (ρ:Env) (t:Nat) (v:Value):Env:=
 match ρ with
 | []=>[(t,v)]
 | (k,u)::r=>if k=t then(t,v)::r else if t<k then(t,v)::(k,u)::r else(k,u)::setE r t v
def dx (ρ:Env):List (Nat × Value)->Env
 | []=>ρ
 | (t,v)::r=>dx (setE ρ t v) r
def bY (ρ:Env) (ts:List Nat):Env:=ρ.filter λp=>!ts.contains p.1
def putE (ρ:Env) (dst:Option Nat) (keep:Bool) (v:Value):Env:=
 match dst with
 | some d=>if keep then setE ρ d v else bY ρ [d]
 | none=>ρ
theorem af(ρ:Env)(t:Nat)(v:Value)(s:Nat):look (setE ρ t v) s=if t=s then RJ v else look ρ s:=by
 induction ρ with
 | nil=>simp[setE,look]
 | cons p r ih=>
  obtain⟨k,u⟩:=p;simp only[setE];split
  ·rename_i h;subst h;simp only[look];split<;>rfl
  rename_i h;split
  ·simp only[look]
  simp only[look,ih];by_cases h1:k=s
  ·subst h1;simp[Ne.symm h]
  simp[h1]
theorem mX(ρ:Env)(ts:List Nat)(s:Nat)(v:Value)(h:look (bY ρ ts) s=RJ v):s∉ts/\look ρ s=RJ v:=by
 induction ρ with
 | nil=>simp[bY,look]at h
 | cons p r ih=>
  obtain⟨k,u⟩:=p;simp only[bY,QM]at h;split at h
  ·rename_i hk;simp only[look]at h ⊢;split at h
   ·rename_i e;subst e;exact⟨by simpa using hk,by simpa using h⟩
   rename_i e;have:=ih h;exact⟨this.1,by rw[if_neg e];exact this.2⟩
  rename_i hk;have:=ih h;refine⟨this.1,?_⟩;simp only[look];split
  ·rename_i e;subst e;exact absurd (by simpa using hk) this.1
  exact this.2
theorem xh : ∀(vs:List (Nat × Value)) (ρ:Env) (s:Nat) (v:Value),look (dx ρ vs) s=RJ v->(s,v)∈vs\/look ρ s=RJ v
 | [],_,_,_,h=>.inr h
 | (t,u)::r,ρ,s,v,h=>by
  rcases xh r (setE ρ t u) s v h with h2 | h2
  ·exact .inl (NZ _ h2)
  rw[af]at h2;split at h2
  ·rename_i e;cases h2;rw[<-e];exact .inl (NX ..)
  exact .inr h2
def Sat (ρ:Env) (a:Act):Prop:=∀t v,look ρ t=RJ v->a.tmps[t]? = RJ v
theorem iW {ρ ρ':Nat->Option Value} {H:View} (hρ : ∀t v,ρ t=RJ v->ρ' t=RJ v) : ∀{e:E} {v:Value},ev ρ H e=RJ v->ev ρ' H e=RJ v
 | .tmp t,v,h=>hρ t v h
 | .con _,_,h=>h
 | .un o x,v,h=>by obtain⟨u,hu,h⟩:=ke h;simp only[ev,iW hρ hu];exact h
 | .bin o x y,v,h=>by obtain⟨u,u',hu,hu',h⟩:=gT h;simp only[ev,iW hρ hu,iW hρ hu'];exact h
 | .snoc x y,v,h=>by
  simp only[ev]at h ⊢;split at h
  ·rename_i u u' hu hu';simp only[iW hρ hu,iW hρ hu'];exact h
  cases h
 | .ite c x y,v,h=>by
  simp only[ev]at h ⊢;split at h
  ·rename_i hu;simp only[iW hρ hu];exact iW hρ h
  ·rename_i hu;simp only[iW hρ hu];exact iW hρ h
  cases h
 | .gd c b x,v,h=>by
  simp only[ev]at h ⊢;split at h
  ·rename_i hu;simp only[iW hρ hu];split at h
   ·rename_i hb;simp only[hb,if_true];exact iW hρ h
   rename_i hb;simp only[hb];exact h
  ·rename_i hu;simp only[iW hρ hu];split at h
   ·rename_i hb;simp only[hb,if_true];exact h
   rename_i hb;simp only[hb];exact iW hρ h
  ·rename_i u h1 h2 hu;simp only[iW hρ hu];exact h
  cases h
def evP (ρ:Nat->Option Value) (H:View):List (Nat × E)->Option (List (Nat × Value))
 | []=>RJ []
 | (t,e)::r=>match ev ρ H e,evP ρ H r with
  | some v,RJ vs=>RJ ((t,v)::vs)
  | _,_=>RK
def okE (ρ:Nat->Option Value) (H:View):List E->Prop
 | []=>True
 | e::r=>(∃v,ev ρ H e=RJ v)/\okE ρ H r
theorem Ap {ρ:Nat->Option Value} {H:View} : ∀{ts:List Nat} {es:List E} {vs:List (Nat × Value)},ts.length<=es.length->evP ρ H (ts.zip es)=RJ vs->
  evs ρ H (es.take ts.length)=RJ (vs.map (·.2))/\vs.map (·.1)=ts
 | [],es,vs,_,h=>by simp[evP]at h;subst h;simp[evs]
 | t::ts,[],vs,hl,_=>by simp at hl
 | t::ts,e::es,vs,hl,h=>by
  simp only[Qz,evP]at h;split at h
  ·rename_i v vs' hv hvs;simp only[NN]at h;subst h;obtain⟨h1,h2⟩:=Ap (by simpa using hl) hvs;simp[evs,hv,h1,h2]
  cases h
theorem Ei {ρ:Nat->Option Value} {H:View} : ∀{es:List E},okE ρ H es->∃vs,evs ρ H es=RJ vs
 | [],_=>⟨[],rfl⟩
 | e::es,h=>by obtain⟨⟨v,hv⟩,h⟩:=h;obtain⟨vs,hvs⟩:=Ei h;exact⟨v::vs,by simp[evs,hv,hvs]⟩
theorem Ez {ρ:Nat->Option Value} {H:View} : ∀{l m:List E} {us ws:List Value},evs ρ H l=RJ us->evs ρ H m=RJ ws->evs ρ H (l++m)=RJ (us++ws)
 | [],m,us,ws,h1,h2=>by simp[evs]at h1;subst h1;simpa using h2
 | e::l,m,us,ws,h1,h2=>by
  simp only[evs]at h1;split at h1
  ·rename_i v vs hv hvs;simp only[NN]at h1;subst h1;simp only[QL,evs,hv,Ez hvs h2]
  cases h1
theorem ry {ρ ρ':Nat->Option Value} {H:View} (hρ : ∀t v,ρ t=RJ v->ρ' t=RJ v) : ∀{l:List E} {us:List Value},evs ρ H l=RJ us->evs ρ' H l=RJ us
 | [],us,h=>h
 | e::l,us,h=>by
  simp only[evs]at h;split at h
  ·rename_i v vs hv hvs;simp only[evs,iW hρ hv,ry hρ hvs];exact h
  cases h
theorem CN {a:Act} {H:View} : ∀{ts:List Nat} {vs:List (Nat × Value)},vs.map (·.1)=ts->evs (cg a) H (ts.map E.tmp)=RJ (vs.map (·.2))->∀p∈vs,a.tmps[p.1]? = RJ p.2
 | [],vs,h,_,p,hp=>by cases vs<;>simp at h;cases hp
 | t::ts,[],h,_,p,hp=>by cases hp
 | t::ts,q::vs,h,he,p,hp=>by
  simp only[Pv,List.cons.injEq]at h;obtain⟨h0,h⟩:=h;simp only[Pv,evs]at he;split at he
  ·rename_i v vs' hv hvs;simp only[NN,List.cons.injEq]at he;rcases N5.1 hp with rfl | hp
   ·simp only[ev,cg]at hv;rw[h0,hv,he.1]
   exact CN h (by rw[hvs,he.2]) p hp
  cases he
theorem AW : ∀{us:List (Nat × Value)} {t:Nat} {v:Value},look us t=RJ v->(t,v)∈us
 | [],_,_,h=>by simp[look]at h
 | (k,u)::r,t,v,h=>by
  simp only[look]at h;split at h
  ·rename_i e;subst e;simp only[NN]at h;subst h;exact NX ..
  exact NZ _ (AW h)
theorem zL : ∀{us:List (Nat × Value)} {t:Nat},t∈us.map (·.1)->∃v,look us t=RJ v
 | [],_,h=>by simp at h
 | (k,u)::r,t,h=>by
  simp only[look];split
  ·exact⟨u,rfl⟩
  rename_i e;simp only[Pv,N5]at h;rcases h with h | h
  ·exact absurd h.symm e
  exact zL h
theorem td {P:Program} {N:Nat} {ops0:Array Oper} : ∀{qs:List Oper} {r r':List E},back P N ops0 qs r=RJ r'->r.length<=r'.length
 | [],r,r',h=>by simp[back]at h;subst h;exact NO _
 | o::qs,r,r',h=>by
  simp only[back]at h;split at h
  ·rename_i r1 h1;have:=td h1;refine OD this ?_;unfold th at h;repeat' (split at h)
   all_goals first
    | (simp only[NN]at h;subst h;simp)
    | cases h
  cases h
theorem xR {P:Program} {N:Nat} {ops0:Array Oper} {H:View} : ∀{qs:List Oper} {r r':List E} {a:Act} {vs:List Value},
  back P N ops0 qs r=RJ r'->a.tmps.size=N->evs (cg a) H r'=RJ vs->
  ∃a',QRun P ops0 H qs a a'/\a'.tmps.size=N/\a'.defers=a.defers/\(∀t,(∀o∈qs,o.dst≠RJ t)->a'.tmps[t]? = a.tmps[t]?)/\
   ∃us ws,evs (cg a') H r=RJ us/\vs=us++ws
 | [],r,r',a,vs,h,hN,hv=>by simp[back]at h;subst h;exact⟨a,rfl,hN,rfl,λ_ _=>rfl,vs,[],hv,by simp⟩
 | o::qs,r,r',a,vs,h,hN,hv=>by
  simp only[back]at h;split at h
  ·rename_i r1 h1;obtain⟨u,hy,hsz,us,ws,hus,rfl⟩:=xy hN h hv;obtain⟨a',hq,hsz',hd,hfr,us',ws',hus',rfl⟩:=xR h1 hsz hus;refine⟨a',⟨u,hy,hq⟩,hsz',?_,?_,us',ws'++ws,hus',by simp⟩
   ·rw[hd];cases o.dst<;>rfl
   intro t ht;rw[hfr t (λo' ho'=>ht o' (NZ _ ho'))];have:=ht o (NX ..);cases hdst:o.dst with
   | none=>rfl
   | some d=>have hne:d≠t:=λe=>this (by rw[hdst,e]);simp[Act.put,OY hne]
  cases h
def dstsOf (qs:List Oper):List Nat:=qs.filterMap (·.dst)
variable{ρ:Env}
theorem sK{qs:List Oper}{ts:List Nat}{es:List E}{a:Act}{us:List (Nat × Value)}(hb:back P N ops0 qs (ts.map E.tmp)=RJ es)(hN:a.tmps.size=N)(hρ:Sat ρ a)(hv:evP (look ρ) H (ts.zip es)=RJ us)(hc:okE (look ρ) H (es.drop ts.length)):
  ∃a',QRun P ops0 H qs a a'/\a'.tmps.size=N/\a'.defers=a.defers/\Sat (bY ρ (dstsOf qs)) a'/\(∀p∈us,a'.tmps[p.1]? = RJ p.2):=by
 have hl:ts.length<=es.length:=by simpa using td hb
 obtain⟨h1,h2⟩:=Ap hl hv;obtain⟨ws,h3⟩:=Ei hc;have h4:=Ez h1 h3;rw[PA]at h4;have hs : ∀t v,look ρ t=RJ v->cg a t=RJ v:=λt v h=>hρ t v h;obtain⟨a',hq,hsz,hd,hfr,us',ws',hus,he⟩:=xR hb hN (ry hs h4);refine⟨a',hq,hsz,hd,?_,?_⟩
 ·intro t v h;obtain⟨hk,hl⟩:=mX _ _ _ _ h;rw[hfr t (λo ho hdst=>hk (List.mem_filterMap.2 ⟨o,ho,hdst⟩))];exact hρ t v hl
 have e1:us'=us.map (·.2):=by
  have hlen:us'.length=(us.map (·.2)).length:=by have:=EO hus;rw[this];simp[<-h2]
  have:=congrArg (List.take us'.length) he;rw[QY,hlen,QY]at this;exact this.symm
 rw[e1]at hus;exact CN h2 hus
theorem yo{a:Act}{vs:List (Nat × Value)}(h:Sat ρ a)(hv : ∀p∈vs,a.tmps[p.1]? = RJ p.2):Sat (dx ρ vs) a:=by
 intro t v hl;rcases xh vs ρ t v hl with h1 | h1
 ·exact hv _ h1
 exact h t v h1
theorem AT{a:Act}{ts:List Nat}(h:Sat ρ a):Sat (bY ρ ts) a:=λt v hl=>h t v (mX _ _ _ _ hl).2
theorem DV{a:Act}{dst:Option Nat}{keep:Bool}{v:Value}(h:Sat ρ a)(hd : ∀d,dst=RJ d->d<a.tmps.size):Sat (putE ρ dst keep v) (a.put dst v):=by
 cases dst with
 | none=>exact h
 | some d=>
  have hsz:=hd d rfl;intro t u hl;simp only[putE]at hl;split at hl
  ·rw[af]at hl;split at hl
   ·rename_i e;subst e;simp only[NN]at hl;subst hl;simp[Act.put,hsz]
   rename_i e;simp only[Act.put,OY e];exact h t u hl
  obtain⟨h1,h2⟩:=mX _ _ _ _ hl;have hne:d≠t:=λe=>h1 (by simp[e]);simp only[Act.put,OY hne];exact h t u h2
def Fw (r:Option Nat):Fence:={ Fence.wide with round:=r }
structure Same (w w':World):Prop where
 os:w'.os=w.os
 output:w'.output=w.output
 tape:w'.tape=w.tape
 size:w.heap.size<=w'.heap.size
 defs : ∀b:Nat,w.heap[b]? = RJ (.deferred (RJ []))->w'.heap[b]? = RJ (.deferred (RJ []))
theorem Same.refl(w:World):Same w w:=⟨rfl,rfl,rfl,NO _,λ_ h=>h⟩
theorem Same.trans {a b c:World} (h:Same a b) (k:Same b c):Same a c:=⟨k.os.trans h.os,k.output.trans h.output,k.tape.trans h.tape,OD h.size k.size,λi e=>k.defs i (h.defs i e)⟩
theorem Same.drawn {w:World} {n:Nat}:Same w { w with drawn:=n }:=⟨rfl,rfl,rfl,NO _,λ_ h=>h⟩
theorem Same.sL{w w':World}(h1:w'.os=w.os)(h2:w'.output=w.output)(h3:w'.tape=w.tape)(hs:w.heap.size<=w'.heap.size){g:Nat}{o:Obj}(hg:w.heap[g]? = RJ o)(ho:o≠.deferred (RJ []))(hk : ∀k,k<w.heap.size->k≠g->w'.heap[k]? = w.heap[k]?):Same w w':=
 ⟨h1,h2,h3,hs,λb hb=>by
  have hne:b≠g:=λe=>by rw[e,hg]at hb;exact ho (Option.some.inj hb)
  rw[hk b (NV.1 hb).1 hne];exact hb⟩
theorem Same.An{w w':World}(h1:w'.os=w.os)(h2:w'.output=w.output)(h3:w'.tape=w.tape)(hs:w.heap.size<=w'.heap.size)(hk : ∀k,k<w.heap.size->w'.heap[k]? = w.heap[k]?):Same w w':=
 ⟨h1,h2,h3,hs,λb hb=>by rw[hk b (NV.1 hb).1];exact hb⟩
class OP where
 op:List PanicEntry->Heap->Prop
class PP where
 kp:List PanicEntry->Heap->Prop
 /-- What stands in the cg wherever it may. -/
 fx:Env->Prop
instance (priority:=low) noPP:PP:=⟨λ_ _=>False,λ_=>True⟩
instance (priority:=low) noOP:OP:=⟨λ_ _=>False⟩
def iz [po:OP] (P:Program) (s:Sem Next) (h:Heap) (K:Value->Heap->Prop):Prop:=
 ∀w:World,w.heap=h->∀(r:Option Nat) (o:Oper) (a:Act) (K':Act->World->Prop) (Q':Exit->Act->World->Prop),
  (∀v w',K v w'.heap->Same w w'->K' (a.put o.dst v) w')->(∀ch w',po.op ch w'.heap->Same w w'->Q' (.panic ch) a w')->o.uponIn (Fw r) 0 P a K' Q' (s.run P w)
def asg (us:List (Nat × Value)):Operand->Value
 | .tmp t=>(look us t).getD undef
 | .const v=>v
 | .global g=>RM (RJ ⟨g,0,RK⟩)
 | .func f=>.func (.func f) #[] #[]
def bT (op : Op) (ty : TypeId) (us : List (Nat × Value)) : Sem Next := execOp (asg us) { dst := RK, op, type := ty, pos := "", after := #[], guard := RK }
def eB:Op->Bool
 | .select .. | .defer _=>RO
 | _=>RN
def tmpsOf (o:Oper):List Nat:=o.op.operands.toList.filterMap fun | .tmp t=>RJ t | _=>RK
theorem JO{o:Oper}{a:Act}{us:List (Nat × Value)}(hp:eB o.op=RN)(ht:us.map (·.1)=tmpsOf o)(hv : ∀p∈us,a.tmps[p.1]? = RJ p.2):
  execOp a.eval o=bT o.op o.type us:=by
 have h1 : ∀x∈o.op.operands,a.eval x=asg us x:=by
  intro x hx;cases x with
  | tmp t=>
   have hm:t∈us.map (·.1):=by rw[ht];exact List.mem_filterMap.2 ⟨.tmp t,by simpa using hx,rfl⟩
   obtain⟨v,hl⟩:=zL hm;have:=hv _ (AW hl);simp only at this;simp[asg,hl,Act.eval,this]
  | const v=>rfl
  | global g=>rfl
  | func f=>rfl
 rw[execOp_congr o (by intro cs b e;simp[eB,e]at hp) h1];rfl
theorem y4{po:OP}{o:Oper}{a:Act}{us:List (Nat × Value)}{w:World}{r:Option Nat}{K:Value->Heap->Prop}{K':Act->World->Prop}{Q':Exit->Act->World->Prop}(hp:eB o.op=RN)(ht:us.map (·.1)=tmpsOf o)(hv : ∀p∈us,a.tmps[p.1]? = RJ p.2)(hr:iz P (bT o.op o.type us) w.heap K)(hK : ∀v w',K v w'.heap->Same w w'->K' (a.put o.dst v) w')(hQ : ∀ch w',po.op ch w'.heap->Same w w'->Q' (.panic ch) a w'):o.wpIn (Fw r) 0 P a w K' Q':=by refine⟨λ_ _=>trivial,?_⟩;rw[Oper.semAt_eq _ _ _ (by intro c e;simp[eB,e]at hp),JO hp ht hv];exact hr w rfl r o a K' Q' hK hQ
inductive Reg where
 | fin (kill:List Nat) (sets:List (Nat × E)) (chk:List E)
 | loud (kill:List Nat) (sets args:List (Nat × E)) (grd:Option (E × Bool)) (chk:List E) (tail:Bool) (op:Op) (ty:TypeId) (dst:Option Nat) (keep:Bool) (next:Reg)
 | both (x y:Reg)
 deriving Inhabited
def part (m:Option View) (h:Heap):View:=m.getD (vw h)
def pI (S:View->View->Prop) (m:Option View) (h:Heap):Prop:=∀H,m=RJ H->S H (vw h)
def keeps (m:Option View) (h:Heap):Prop:=pI View.le m h
def nothing:View:=λ_=>RK
abbrev opAt [pp:PP] (m:Option View):OP:=⟨λch h=>(m.isNone=RN\/∀ρ,pp.fx ρ)/\pp.kp ch h⟩
abbrev ppD (pp:PP):PP:=⟨λch h=>(∀ρ,pp.fx ρ)/\pp.kp ch h,λ_=>True⟩
def cY [pp:PP] (S:View->View->Prop) (P:Program) (m:Option View) (r:Reg) (Q:Env->Heap->Prop) (ρ:Env) (h:Heap):Prop:=
 match r with
 | .fin kill sets chk=>∃vs,evP (look ρ) (part m h) sets=RJ vs/\okE (look ρ) (part m h) chk/\Q (dx (bY ρ kill) vs) h
 | .loud kill sets args grd chk tail op ty dst keep next=>
  ∃vs us,evP (look ρ) (part m h) sets=RJ vs/\evP (look ρ) (part m h) args=RJ us/\okE (look ρ) (part m h) chk/\pp.fx (dx (bY ρ kill) vs)/\
   match grd with
   | none=>@iz (opAt m) P (bT op ty us) h λv h'=>pI S (if tail then RK else m) h'/\cY S P (if tail then m.map (λ_=>nothing) else m) next Q (putE (dx (bY ρ kill) vs) dst keep v) h'
   | some (g,b)=>∃gv,ev (look ρ) (part m h) g=RJ gv/\
    (gv = .bool b->@iz (opAt m) P (bT op ty us) h λv h'=>pI S (if tail then RK else m) h'/\cY S P (if tail then m.map (λ_=>nothing) else m) next Q (putE (dx (bY ρ kill) vs) dst keep v) h')/\
    (gv≠.bool b->cY S P (if tail then m.map (λ_=>nothing) else m) next Q (putE (dx (bY ρ kill) vs) dst keep undef) h)
 | .both x y=>cY S P m x Q ρ h/\cY S P m y Q ρ h
def eW [pp:PP] (P:Program) (m:Option View) (r:Reg) (Q:Env->Heap->Prop) (ρ:Env) (h:Heap):Prop:=cY View.le P m r Q ρ h
def Gs (ops0:Array Oper) (o:Oper):Option Nat:=
 match o.guard with
 | some (j,_)=>(ops0[j]?).bind (·.dst)
 | none=>RK
def GP (ops0:Array Oper) (l:List Oper):List Nat:=l.flatMap λo=>tmpsOf o++(Gs ops0 o).toList
def Kz (N:Nat):Option Nat->Bool
 | some d=>decide (d<N)
 | none=>RN
def Be (P:Program) (N:Nat) (ops0:Array Oper) (live:List Nat) (qs:List Oper):Option Reg:=
 let outs:=(dstsOf qs).filter live.contains
 match back P N ops0 qs (outs.map E.tmp)with
 | some es=>RJ (.fin (dstsOf qs) (outs.zip es) (es.drop outs.length))
 | none=>RK
def uz (P:Program) (N:Nat) (ops0:Array Oper) (live:List Nat) (qs:List Oper) (o:Oper) (rest:List Oper) (tail:Bool) (next:Reg):Option Reg:=
 let need:=live++GP ops0 rest
 let outs:=(dstsOf qs).filter need.contains
 let args:=tmpsOf o
 let keep:=match o.dst with | some d=>need.contains d | none=>RO
 if eB o.op&&Kz N o.dst then
  match o.guard with
  | none=>
   match back P N ops0 qs ((outs++args).map E.tmp)with
   | some es=>RJ (.loud (dstsOf qs) (outs.zip es) (args.zip (es.drop outs.length)) RK (es.drop (outs++args).length) tail o.op o.type o.dst keep next)
   | none=>RK
  | some (j,b)=>
   match (ops0[j]?).bind (·.dst)with
   | some c=>
    match back P N ops0 qs ((outs++args++[c]).map E.tmp)with
    | some es=>match es.drop (outs++args).length with
     | g::chk=>RJ (.loud (dstsOf qs) (outs.zip es) (args.zip (es.drop outs.length)) (RJ (g,b)) chk tail o.op o.type o.dst keep next)
     | []=>RK
    | none=>RK
   | none=>RK
 else RK
def isQ (P:Program) (o:Oper):Bool:=(opE P o.op).isSome&&o.dst.isSome
def regU (P:Program) (N:Nat) (ops0:Array Oper) (live:List Nat):Nat->List Oper->Option Reg
 | 0,_=>RK
 | f+1,ops=>
  let qs:=ops.takeWhile (isQ P);match ops.dropWhile (isQ P)with
  | []=>Be P N ops0 live qs
  | o::rest=>match regU P N ops0 live f rest with
   | some next=>uz P N ops0 live qs o rest RO next
   | none=>RK
theorem rq {ρ:Nat->Option Value} {H:View} : ∀{ts ss:List Nat} {es:List E} {us vs:List (Nat × Value)},ts.length<=es.length->
  evP ρ H (ts.zip es)=RJ us->evP ρ H (ss.zip (es.drop ts.length))=RJ vs->evP ρ H ((ts++ss).zip es)=RJ (us++vs)
 | [],ss,es,us,vs,_,h1,h2=>by simp[evP]at h1;subst h1;simpa using h2
 | t::ts,ss,[],us,vs,hl,_,_=>by simp at hl
 | t::ts,ss,e::es,us,vs,hl,h1,h2=>by
  simp only[Qz,evP]at h1;split at h1
  ·rename_i v vs' hv hvs;simp only[NN]at h1;subst h1;simp only[QL,Qz,evP,hv,rq (by simpa using hl) hvs (by simpa using h2)]
  cases h1
theorem A8{ρ:Nat->Option Value}{ts:List Nat}{es:List E}{us:List (Nat × Value)}(hl:ts.length<=es.length)(h:evP ρ H (ts.zip es)=RJ us):us.map (·.1)=ts:=(Ap hl h).2
variable{live:List Nat}
theorem pJ{pp:PP}{qs rest:List Oper}{o:Oper}{tail:Bool}{next R:Reg}(hR:uz P N ops0 live qs o rest tail next=RJ R){S:View->View->Prop}{m:Option View}{Q:Env->Heap->Prop}{h:Heap}{a:Act}(hN:a.tmps.size=N)(hρ:Sat ρ a)(hw:cY S P m R Q ρ h):
  eB o.op=RN/\(∀d,o.dst=RJ d->d<N)/\∃a' ρ' us keep,QRun P ops0 (part m h) qs a a'/\a'.tmps.size=N/\a'.defers=a.defers/\Sat ρ' a'/\us.map (·.1)=tmpsOf o/\(∀p∈us,a'.tmps[p.1]? = RJ p.2)/\
   pp.fx ρ'/\(Region.wanted o (yielded ops0 a'.tmps)=RN->@iz (opAt m) P (bT o.op o.type us) h λv h'=>pI S (if tail then RK else m) h'/\cY S P (if tail then m.map (λ_=>nothing) else m) next Q (putE ρ' o.dst keep v) h')/\
   (Region.wanted o (yielded ops0 a'.tmps)=RO->cY S P (if tail then m.map (λ_=>nothing) else m) next Q (putE ρ' o.dst keep undef) h):=by
 unfold uz at hR;simp only at hR;split at hR;case isFalse=>cases hR
 rename_i hpd;simp only[NS]at hpd;refine⟨hpd.1,?_,?_⟩
 ·intro d hd;have:=hpd.2;simpa[hd,Kz]using this
 generalize ho:(dstsOf qs).filter (live++GP ops0 rest).contains=outs at hR;cases hg:o.guard with
 | none=>
  simp only[hg]at hR;split at hR;case h_2=>cases hR
  rename_i es hb;simp only[NN]at hR;subst hR;simp only[cY]at hw;obtain⟨vs,us,h1,h2,h3,hfx,h4⟩:=hw;have hl:(outs++tmpsOf o).length<=es.length:=by simpa using td hb
  have hl1:outs.length<=es.length:=by simp at hl;omega
  obtain⟨a',hq,hsz,hd,hs,hp⟩:=sK hb hN hρ (rq hl1 h1 h2) h3;refine⟨a',_,us,_,hq,hsz,hd,yo hs (λp hp'=>hp p (O9 _ hp')),A8 (by simp at hl ⊢;omega) h2,λp hp'=>hp p (O6 _ hp'),hfx,λ_=>h4,λhw=>?_⟩;simp[Region.wanted,hg]at hw
 | some jb=>
  obtain⟨j,b⟩:=jb;simp only[hg]at hR;split at hR;case h_2=>cases hR
  rename_i c hc;split at hR;case h_2=>cases hR
  rename_i es hb;split at hR;case h_2=>cases hR
  rename_i g chk hge;simp only[NN]at hR;subst hR;simp only[cY]at hw;obtain⟨vs,us,h1,h2,h3,hfx,gv,h4,h5,h6⟩:=hw;have hl:(outs++tmpsOf o++[c]).length<=es.length:=by simpa using td hb
  have hl1:outs.length<=es.length:=by simp at hl;omega
  have hl2:(outs++tmpsOf o).length<=es.length:=by simp at hl ⊢;omega
  have e1:evP (look ρ) (part m h) ([c].zip (es.drop (outs++tmpsOf o).length))=RJ [(c,gv)]:=by rw[hge];simp[evP,h4]
  have e2:okE (look ρ) (part m h) (es.drop (outs++tmpsOf o++[c]).length):=by
   have:es.drop (outs++tmpsOf o++[c]).length=(es.drop (outs++tmpsOf o).length).drop 1:=by rw[PR,show(outs++tmpsOf o++[c]).length=(outs++tmpsOf o).length+1 from by rw[N1];rfl]
   rw[this,hge];exact h3
  obtain⟨a',hq,hsz,hd,hs,hp⟩:=sK hb hN hρ (rq hl2 (rq hl1 h1 h2) e1) e2;have hcv:a'.tmps[c]? = RJ gv:=hp (c,gv) Sa;have hwant:Region.wanted o (yielded ops0 a'.tmps)=RN↔gv = .bool b:=by simp only[Region.wanted,hg,yielded,hc,Ov,hcv,beq_iff_eq];cases gv<;>simp
  refine⟨a',_,us,_,hq,hsz,hd,yo hs (λp hp'=>hp p (by simp[hp'])),A8 (by simp at hl ⊢;omega) h2,λp hp'=>hp p (by simp[hp']),hfx,λhw=>h5 (hwant.1 hw),λhw=>h6 ?_⟩;intro e;rw[hwant.2 e]at hw;cases hw
theorem wc{pp:PP}{qs:List Oper}{R:Reg}(hR:Be P N ops0 live qs=RJ R){S:View->View->Prop}{m:Option View}{Q:Env->Heap->Prop}{h:Heap}{a:Act}(hN:a.tmps.size=N)(hρ:Sat ρ a)(hw:cY S P m R Q ρ h):
  ∃a' ρ',QRun P ops0 (part m h) qs a a'/\a'.tmps.size=N/\a'.defers=a.defers/\Sat ρ' a'/\Q ρ' h:=by
 unfold Be at hR;simp only at hR;split at hR;case h_2=>cases hR
 rename_i es hb;simp only[NN]at hR;subst hR;simp only[cY]at hw;obtain⟨vs,h1,h2,h3⟩:=hw;obtain⟨a',hq,hsz,hd,hs,hp⟩:=sK hb hN hρ h1 h2;exact⟨a',_,hq,hsz,hd,yo hs hp,h3⟩
def lu [pp:PP] (N:Nat) (D:List Deferred) (w:World) (Q:Env->Heap->Prop):Exit->Act->World->Prop
 | .normal,a,w'=>∃ρ,Sat ρ a/\a.tmps.size=N/\a.defers=D/\Q ρ w'.heap/\Same w w'
 | .panic ch,a,w'=>∃ρ,Sat ρ a/\a.tmps.size=N/\a.defers=D/\(pp.fx ρ/\pp.kp ch w'.heap)/\Same w w'
 | _,_,_=>False
theorem F8{op:Op}{e:E}(h:opE P op=RJ e):eB op=true:=by cases op<;>first | rfl | simp[opE]at h
theorem uQ {P:Program} {r:Option Nat} {ops0:Array Oper} {H:View} {w:World} (hw:H.sub (vw w.heap)) {Q:Exit->Act->World->Prop} {rest:List Oper} :
  ∀{qs:List Oper} {a a':Act},(∀o∈qs,isQ P o=RN)->QRun P ops0 H qs a a'->wpListIn (Fw r) 0 P ops0 Q rest a' w->wpListIn (Fw r) 0 P ops0 Q (qs++rest) a w
 | [],a,a',_,hq,h=>by simp only[QRun]at hq;subst hq;exact h
 | o::qs,a,a',hall,hq,h=>by
  obtain⟨v,hy,hq⟩:=hq;have ih:=uQ hw (λo' ho'=>hall o' (NZ _ ho')) hq h;have hpl:eB o.op=true:=by have:=hall o (NX ..);simp only[isQ,NS,PB]at this;obtain⟨⟨e,he⟩,_⟩:=this;exact F8 he
  simp only[QL,wpListIn];rcases hy with⟨hwt,hrun,_⟩ | ⟨hwt,rfl⟩
  ·rw[if_pos hwt];refine⟨λ_ _=>trivial,?_⟩;rw[Oper.semAt_eq _ _ _ (by intro c e;simp[eB,e]at hpl),hrun w hw];exact ih
  rw[if_neg (by simp[hwt])];exact⟨λ_ _=>trivial,ih⟩
theorem rR {α:Type} (p:α->Bool) : ∀(l:List α),∀x∈l.takeWhile p,p x=RN
 | [],_,h=>by simp at h
 | y::l,x,h=>by
  simp only[List.takeWhile_cons]at h;split at h
  ·rename_i hy;rcases N5.1 h with rfl | h
   ·exact hy
   exact rR p l x h
  cases h
theorem sM {pp:PP} {P:Program} {N:Nat} {ops0:Array Oper} {live:List Nat} {r:Option Nat} {Q:Env->Heap->Prop} {D:List Deferred} {w0:World} :
  ∀(f:Nat) {ops:List Oper} {R:Reg} {ρ:Env} {a:Act} {w:World},regU P N ops0 live f ops=RJ R->a.tmps.size=N->a.defers=D->Sat ρ a->Same w0 w->eW P RK R Q ρ w.heap->
   wpListIn (Fw r) 0 P ops0 (lu N D w0 Q) ops a w
 | 0,_,_,_,_,_,h,_,_,_,_,_=>by simp[regU]at h
 | f+1,ops,R,ρ,a,w,hR,hN,hD,hρ,hS,hw=>by
  simp only[regU]at hR;have hsplit:=List.takeWhile_append_dropWhile (p:=isQ P) (l:=ops);have hall : ∀o∈ops.takeWhile (isQ P),isQ P o=true:=rR _ _;cases hrest:ops.dropWhile (isQ P)with
  | nil=>simp only[hrest]at hR;obtain⟨a',ρ',hq,hsz,hd,hs,hQ⟩:=wc hR hN hρ hw;rw[hrest]at hsplit;rw[<-hsplit];exact uQ (H:=vw w.heap) (View.ym (View.le_refl _)) hall hq ⟨ρ',hs,hsz,hd.trans hD,hQ,hS⟩
  | cons o rest=>
   simp only[hrest]at hR;split at hR;case h_2=>cases hR
   rename_i next hnext
   obtain⟨hp,hdst,a',ρ',us,keep,hq,hsz,hd,hs,hk,hv,hfx,h1,h2⟩:=pJ hR hN hρ hw;rw[hrest]at hsplit;rw[<-hsplit];refine uQ (H:=vw w.heap) (View.ym (View.le_refl _)) hall hq ?_;have hput : ∀v,(a'.put o.dst v).tmps.size=N:=λv=>by cases o.dst<;>simp[Act.put,hsz]
   have hdef : ∀v,(a'.put o.dst v).defers=D:=λv=>by cases ho:o.dst<;>simp[Act.put,hd,hD]
   have hsat : ∀v,Sat (putE ρ' o.dst keep v) (a'.put o.dst v):=λv=>DV hs (λd hd=>by rw[hsz];exact hdst d hd);simp only[wpListIn];split
   ·rename_i hwt;exact y4 hp hk hv (h1 hwt) (λv w' ⟨_,hreg⟩ hsame=>sM f hnext (hput v) (hdef v) (hsat v) (hS.trans hsame) hreg) λch w' hc hsame=>⟨ρ',hs,hsz,hd.trans hD,⟨hfx,hc.2⟩,hS.trans hsame⟩
   rename_i hwt;exact⟨λ_ _=>trivial,sM f hnext (hput _) (hdef _) (hsat _) hS (h2 (by simpa using hwt))⟩
section
variable {P:Program} {ops:Array Oper} {r:Option Nat} {Q:Exit->Act->World->Prop} {G:Array Bool->World->Prop}
abbrev rdy (ops:Array Oper) (listed:Array Bool):List Nat:=Region.ready .any ops listed
def anyG (P:Program) (r:Option Nat) (ops:Array Oper) (Q:Exit->Act->World->Prop) (G:Array Bool->World->Prop):Nat->Array Bool->Act->World->Prop
 | 0,listed,a,w=>G listed w/\rdy ops listed=[]/\Q .normal a w
 | f+1,listed,a,w=>G listed w/\(rdy ops listed=[]->Q .normal a w)/\∀i∈rdy ops listed,wpOpIn (Fw r) 0 P ops Q i (anyG P r ops Q G f (listed.setIfInBounds i RN)) a w
theorem HI: ∀{f:Nat} {listed:Array Bool} {a:Act} {w:World},anyG P r ops Q G f listed a w->G listed w
 | 0,_,_,_,h=>h.1
 | _+1,_,_,_,h=>h.1
theorem BO : ∀{f:Nat} {listed:Array Bool} {a:Act} {w:World},anyG P r ops Q G f listed a w->wpAnyIn (Fw r) 0 P .any ops Q f listed a w
 | 0,_,_,_,h=>h.2
 | _+1,_,_,_,h=>⟨h.2.1,λi hi=>wpOpIn_mono (λ_ _ h1=>BO h1) (h.2.2 i hi)⟩
def mS (ops:Array Oper) (listed:Array Bool):Prop:=
 ∀j oj,ops[j]? = RJ oj->listed.getD j RO=RN->∀e∈oj.after,Region.binds .any e=RN->listed.getD e.on RO=RN
variable{listed:Array Bool}
theorem mS.set{i:Nat}(h:mS ops listed)(hi:i∈rdy ops listed):mS ops (listed.setIfInBounds i RN):=by
 obtain⟨_,oi,hoi,hall⟩:=mem_ready.1 hi;intro j oj hj hl e he hb;by_cases hij:i=j
 ·subst hij;have:oj=oi:=Option.some.inj (hj.symm.trans hoi);subst this;exact getD_set_true (hall e he hb)
 rw[getD_set_ne RO hij]at hl;exact getD_set_true (h j oj hj hl e he hb)
def down (ops:Array Oper):Nat->List Nat->List Nat
 | 0,S=>S
 | j+1,S=>if S.contains j then down ops j (S++match ops[j]? with | some o=>(o.after.toList.filter (Region.binds .any)).map (·.on) | none=>[]) else down ops j S
theorem tY {listed:Array Bool} (hc:mS ops listed) : ∀(n:Nat) (S:List Nat),(∀s∈S,listed.getD s RO=RN)->∀s∈down ops n S,listed.getD s RO=RN
 | 0,_,h,s,hs=>h s hs
 | j+1,S,h,s,hs=>by
  simp only[down]at hs;split at hs
  ·rename_i hj;refine tY hc j _ ?_ s hs;intro t ht;rcases NU.1 ht with ht | ht
   ·exact h t ht
   cases ho:ops[j]? with
   | none=>simp[ho]at ht
   | some o=>simp only[ho,Pk,PZ]at ht;obtain⟨e,⟨he,hb⟩,rfl⟩:=ht;exact hc j o ho (h j (by simpa using hj)) e (by simpa using he) hb
  exact tY hc j S h s hs
theorem qA{o:Oper}{v:Value}{a a':Act}(hy:iJ P ops H o v a)(he:execOp a'.eval o=execOp a.eval o)(hw:Region.wanted o (yielded ops a'.tmps)=Region.wanted o (yielded ops a.tmps)):iJ P ops H o v a':=by unfold iJ at *;rw[he,hw];exact hy
theorem wy{i:Nat}{o:Oper}{v:Value}{a:Act}{w:World}{K:Act->World->Prop}(hp:eB o.op=RN)(hi:ops[i]? = RJ o)(hy:iJ P ops H o v a)(hw:H.sub (vw w.heap))(h:K (a.put o.dst v) w):wpOpIn (Fw r) 0 P ops Q i K a w:=by
 unfold wpOpIn;simp only[hi];rcases hy with⟨hwt,hv,_⟩ | ⟨hwt,rfl⟩
 ·rw[if_pos hwt];refine⟨λ_ _=>trivial,?_⟩;rw[Oper.semAt_eq _ _ _ (by intro c e;simp[eB,e]at hp),hv w hw];exact h
 rw[if_neg (by simp[hwt])];exact⟨λ_ _=>trivial,h⟩
theorem Cn{j:Nat}{oi oj:Oper}{v:Value}(hj:ops[j]? = RJ oj)(hap:oi.apart ops oj=RN)(hpi:eB oi.op=RN)(hpj:eB oj.op=RN)(hQ : ∀c a d v w,Q (.panic c) (Act.put a d v) w->Q (.panic c) a w){K:Act->World->Prop}{a:Act}{w:World}(hy:iJ P ops H oi v a)(h:wpOpIn (Fw r) 0 P ops Q j K (a.put oi.dst v) w):
  wpOpIn (Fw r) 0 P ops Q j (λa' w'=>iJ P ops H oi v a'/\K (a'.put oi.dst v) w') a w:=by
 obtain⟨h1,h2,h3⟩:=Oper.apart_spec hap;have hsi : ∀cs b,oi.op≠.select cs b:=λcs b e=>by simp[eB,e]at hpi
 have hsj : ∀cs b,oj.op≠.select cs b:=λcs b e=>by simp[eB,e]at hpj
 have hdj : ∀c,oj.op≠.defer c:=λc e=>by simp[eB,e]at hpj
 have keep : ∀(a:Act),iJ P ops H oi v a->∀u,iJ P ops H oi v (a.put oj.dst u):=λa hy u=>qA hy (execOp_put oi hsi a oj.dst u h3) (wanted_put oi a oj.dst u h3);have keepD : ∀d,iJ P ops H oi v { a with defers:=d::a.defers }:=λd=>qA hy rfl rfl;unfold wpOpIn at *;simp only[hj]at *;rw[wanted_put oj a oi.dst v h1,about_put oj w a oi.dst v h1]at h;split
 ·rename_i hw;simp only[hw,if_true]at h;unfold Oper.wpIn at *;rw[about_put oj w a oi.dst v h1]at h;refine⟨h.1,?_⟩;have h:=h.2;rw[Oper.semAt_eq _ _ _ hdj,execOp_put oj hsj a oi.dst v h1]at h;rw[Oper.semAt_eq _ _ _ hdj];generalize (execOp a.eval oj).run P w=r at *;cases r with
  | ok x w'=>
   cases x<;>simp only[Oper.uponIn]at h ⊢;case value u=>exact⟨keep a hy u,by rw[<-Act.put_comm a v u h2];exact h⟩
   case skip=>exact⟨keep a hy _,by rw[<-Act.put_comm a v undef h2];exact h⟩
   case defer d=>refine⟨keep _ (keepD d) _,?_⟩;rw[<-Act.put_comm _ v undef h2,<-Act.put_defers];exact h
   case enter f args=>
    refine⟨h.1,CallsIn.mono h.2 λe w'' he=>?_⟩;cases e with
    | returned u=>exact⟨keep a hy u,by rw[<-Act.put_comm a v u h2];exact he⟩
    | panicked c=>exact hQ _ _ _ _ _ he
    | outgrown=>exact he
   case row row args=>exact⟨h.1,RowsIn.mono h.2 λu w'' he=>⟨keep a hy u,by rw[<-Act.put_comm a v u h2];exact he⟩⟩
   case round l f tmps assign body=>
    refine⟨h.1,RoundIn.mono h.2 λe w'' he=>?_⟩;cases e with
    | returned u=>exact⟨keep a hy u,by rw[<-Act.put_comm a v u h2];exact he⟩
    | panicked c=>exact hQ _ _ _ _ _ he
    | outgrown=>exact he
  | halt x w'=>cases x<;>simp only[Oper.uponIn]at h ⊢;case panic u=>exact hQ _ _ _ _ _ h
 rename_i hw;simp only[hw]at h;exact⟨h.1,keep a hy _,by rw[<-Act.put_comm a v undef h2];exact h.2⟩
theorem sB{i:Nat}{oi:Oper}{v:Value}(hi:ops[i]? = RJ oi)(hpl : ∀(j:Nat) (o:Oper),ops[j]? = RJ o->eB o.op=RN)(hQ : ∀c a d v w,Q (.panic c) (Act.put a d v) w->Q (.panic c) a w)(hG : ∀listed w,G (listed.setIfInBounds i RN) w->G listed w)(hcov : ∀listed w,mS ops listed->listed.getD i RN=RO->G listed w->H.sub (vw w.heap)):
  ∀(fuel:Nat) (listed:Array Bool) (a:Act) (w:World),mS ops listed->
   (∀j oj,ops[j]? = RJ oj->j≠i->listed.getD j RN=RO->(∀e∈oj.after,Region.binds .any e=RN->e.on≠i)->oi.apart ops oj=RN)->
   i∈rdy ops listed->iJ P ops H oi v a->
   anyG P r ops Q G fuel (listed.setIfInBounds i RN) (a.put oi.dst v) w->anyG P r ops Q G (fuel+1) listed a w:=by
 intro fuel;induction fuel with
 | zero=>
  intro listed a w hcl _ hr hy Hs;have hg:=hG _ _ (HI Hs);refine⟨hg,λh=>(by rw[h]at hr;cases hr),λj hj=>?_⟩;by_cases hji:j=i
  ·subst hji;exact wy (hpl _ _ hi) hi hy (hcov listed w hcl (mem_ready.1 hr).1 hg) Hs
  have:j∈rdy ops (listed.setIfInBounds i RN):=ready_mono hj hji;rw[Hs.2.1]at this;cases this
 | succ fuel ih=>
  intro listed a w hcl hfree hr hy Hs;have hg:=hG _ _ (HI Hs);refine⟨hg,λh=>(by rw[h]at hr;cases hr),λj hj=>?_⟩;by_cases hji:j=i
  ·subst hji;exact wy (hpl _ _ hi) hi hy (hcov listed w hcl (mem_ready.1 hr).1 hg) Hs
  have h1:=Hs.2.2 j (ready_mono hj hji);obtain⟨hjun,oj,hoj,hall⟩:=mem_ready.1 hj;have hnot : ∀e∈oj.after,Region.binds .any e=RN->e.on≠i:=λe he hb heq=>by
   have h1:=hall e he hb;have h0:=(mem_ready.1 hr).1;rw[heq]at h1;rcases NQ i listed.size with h' | h'
   ·simp[h']at h0 h1;rw[h0]at h1;cases h1
   simp[PW h']at h1
  have h2:=Cn hoj (hfree j oj hoj hji hjun hnot) (hpl _ _ hi) (hpl _ _ hoj) hQ hy h1;have hfree' : ∀k ok,ops[k]? = RJ ok->k≠i->(listed.setIfInBounds j RN).getD k RN=RO->
    (∀e∈ok.after,Region.binds .any e=RN->e.on≠i)->oi.apart ops ok=true:=λk ok hk hki hun hno=>by
   refine hfree k ok hk hki ?_ hno;by_cases hjk:j=k
   ·subst hjk;exact hjun
   rw[getD_set_ne RN hjk]at hun;exact hun
  refine wpOpIn_mono (λa' w' h3=>ih (listed.setIfInBounds j RN) a' w' (hcl.set hj) hfree' (ready_mono hr (Ne.symm hji)) h3.1 ?_) h2;rw[Array.setIfInBounds_comm _ _ hji];exact h3.2
end
def zX (P:Program) (ops:Array Oper) (listed:Array Bool):Option Nat:=
 (rdy ops listed).find? λi=>match ops[i]? with | some o=>isQ P o | none=>RO
def covered (P:Program) (ops:Array Oper) (l0:Option Nat) (i:Nat):Bool:=
 match ops[i]? with
 | some o=>uq P o||match l0 with | none=>RN | some l=>(down ops (l+1) [l]).contains i&&i != l
 | none=>RO
def py (P:Program) (ops:Array Oper) (l0:Option Nat):Nat->Array Bool->Option (List Nat × Array Bool)
 | 0,listed=>match zX P ops listed with | none=>RJ ([],listed) | some _=>RK
 | f+1,listed=>match zX P ops listed with
  | none=>RJ ([],listed)
  | some i=>if Region.free .any ops listed i&&covered P ops l0 i&&l0 != RJ i then
    match py P ops l0 f (listed.setIfInBounds i RN)with
    | some (qs,l1)=>RJ (i::qs,l1)
    | none=>RK
   else RK
def mV (ops:Array Oper) (l:List Nat):List Oper:=l.filterMap (ops[·]?)
def xZ (ops:Array Oper) (listed:Array Bool):List Oper:=mV ops ((List.range ops.size).filter λj=>!listed.getD j RN)
def jB (node:Nat->Option Reg):List Nat->Option Reg
 | []=>RK
 | [i]=>node i
 | i::is=>match node i,jB node is with
  | some x,RJ y=>RJ (.both x y)
  | _,_=>RK
def regD (P:Program) (N:Nat) (ops:Array Oper) (live:List Nat) (l0:Option Nat):Nat->Array Bool->Option Reg
 | 0,_=>RK
 | f+1,listed=>match py P ops l0 ops.size listed with
  | none=>RK
  | some (qs,l1)=>match rdy ops l1 with
   | []=>Be P N ops live (mV ops qs)
   | rs=>jB (λi=>match ops[i]? with
    | none=>RK
    | some o=>match regD P N ops live l0 f (l1.setIfInBounds i RN)with
     | some next=>uz P N ops live (mV ops qs) o (xZ ops (l1.setIfInBounds i RN)) (l0 == RJ i) next
     | none=>RK) rs
def left (ops:Array Oper) (listed:Array Bool):Nat:=(List.range ops.size).countP λj=>!listed.getD j RN
theorem ze {α:Type} {p q:α->Bool} : ∀{l:List α} {x:α},(∀y,q y=RN->p y=RN)->x∈l->p x=RN->q x=RO->l.countP q<l.countP p
 | [],_,_,h,_,_=>by cases h
 | y::l,x,hqp,hx,hp,hq=>by
  have hle:l.countP q<=l.countP p:=List.countP_mono_left (λy _=>hqp y);simp only[List.countP_cons];rcases N5.1 hx with rfl | hx
  ·simp[hp,hq];omega
  have:=ze hqp hx hp hq;cases hqy:q y
  ·simp;omega
  simp[hqp y hqy];omega
variable{listed:Array Bool}
theorem xn{ops:Array Oper}{i:Nat}(hi:i∈rdy ops listed):left ops (listed.setIfInBounds i RN)<left ops listed:=by
 obtain⟨h0,o,ho,_⟩:=mem_ready.1 hi;refine ze (x:=i) (λy hy=>?_) (PC.2 (NV.1 ho).1) (by simpa using h0) ?_
 ·by_cases h:i=y
  ·subst h;simpa using h0
  rw[getD_set_ne RN h]at hy;exact hy
 have hlt:i<listed.size:=by
  rcases NQ i listed.size with h | h
  ·exact h
  simp[PW h]at h0
 simp[hlt]
section
variable {P:Program} {N:Nat} {ops:Array Oper} {live:List Nat} {l0:Option Nat} {r:Option Nat} {D:List Deferred} {w0:World} {Q:Env->Heap->Prop} {H:View}
def GH (l0:Option Nat) (H:View) (listed:Array Bool) (w:World):Prop:=H.sub (vw w.heap)\/∃l,l0=RJ l/\listed.getD l RO=RN
def partAt (l0:Option Nat) (H:View) (listed:Array Bool):View:=match l0 with | some l=>if listed.getD l RO then nothing else H | none=>H
theorem BG{i:Nat}(h:zX P ops listed=RJ i):i∈rdy ops listed/\∃o,ops[i]? = RJ o/\isQ P o=true:=by
 refine⟨O4 h,?_⟩;have:=P1 h;cases ho:ops[i]? with
 | none=>simp[ho]at this
 | some o=>simp[ho]at this;exact⟨o,rfl,this⟩
theorem tL (hpl : ∀(j:Nat) (o:Oper),ops[j]? = RJ o->eB o.op=RN) : ∀{f:Nat} {listed l1:Array Bool} {qs:List Nat},py P ops l0 f listed=RJ (qs,l1)->mS ops listed->
  mS ops l1/\zX P ops l1=RK/\(∀l,l0=RJ l->l1.getD l RO=listed.getD l RO)/\
  ∀{a a':Act} {w:World} {Q':Exit->Act->World->Prop},(∀c a d v w,Q' (.panic c) (Act.put a d v) w->Q' (.panic c) a w)->QRun P ops (partAt l0 H listed) (mV ops qs) a a'->
   (∀F,left ops l1<=F->anyG P r ops Q' (GH l0 H) F l1 a' w)->∀F,left ops listed<=F->anyG P r ops Q' (GH l0 H) F listed a w
 | 0,listed,l1,qs,h,hc=>by
  simp only[py]at h;split at h
  ·rename_i hq;simp only[NN,Pu]at h;obtain⟨rfl,rfl⟩:=h;refine⟨hc,hq,λ_ _=>rfl,fun{a a' w Q'} _ hrun hany=>?_⟩;simp only[mV,List.filterMap_nil,QRun]at hrun;subst hrun;exact hany
  cases h
 | f+1,listed,l1,qs,h,hc=>by
  simp only[py]at h;split at h
  ·rename_i hq;simp only[NN,Pu]at h;obtain⟨rfl,rfl⟩:=h;refine⟨hc,hq,λ_ _=>rfl,fun{a a' w Q'} _ hrun hany=>?_⟩;simp only[mV,List.filterMap_nil,QRun]at hrun;subst hrun;exact hany
  rename_i i hq;split at h;case isFalse=>cases h
  rename_i hfc;simp only[NS,bne_iff_ne,ne_eq]at hfc;obtain⟨⟨hfree,hcov⟩,hne⟩:=hfc;split at h;case h_2=>cases h
  rename_i qs' l1' hrec;simp only[NN,Pu]at h;obtain⟨rfl,rfl⟩:=h;obtain⟨hi,o,ho,hoq⟩:=BG hq;obtain⟨hc1,hf1,hl1,hstep⟩:=tL hpl hrec (hc.set hi);have hl0 : ∀l,l0=RJ l->(listed.setIfInBounds i RN).getD l RO=listed.getD l false:=λl hl=>getD_set_ne RO (λe=>hne (by rw[hl,e]));refine⟨hc1,hf1,λl hl=>(hl1 l hl).trans (hl0 l hl),fun{a a' w Q'} hQ hrun hany F hF=>?_⟩;have hrun':QRun P ops (partAt l0 H listed) (o::mV ops qs') a a':=by simpa[mV,ho]using hrun
  obtain⟨v,hy,hrun2⟩:=hrun';have hpart:partAt l0 H (listed.setIfInBounds i RN)=partAt l0 H listed:=by
   unfold partAt;cases l0 with
   | none=>rfl
   | some l=>simp only[hl0 l rfl]
  have hlt:=xn hi;obtain⟨F',rfl⟩ : ∃F',F=F'+1:=⟨F-1,by omega⟩;have hsub:=hstep (w:=w) hQ (by rw[hpart];exact hrun2) hany F' R3;have hGset : ∀listed w,GH l0 H (listed.setIfInBounds i RN) w->GH l0 H listed w:=by
   rintro listed w (h | ⟨l,hl,h⟩)
   ·exact .inl h
   refine .inr ⟨l,hl,?_⟩;rw[getD_set_ne RO (λe=>hne (by rw[hl,e]))]at h;exact h
  simp only[covered,ho,OV]at hcov;by_cases hpure:uq P o=RN
  ·have hy':iJ P ops nothing o v a:=by
    rcases hy with⟨hw,hv,hp⟩ | hy
    ·exact .inl ⟨hw,λw _=>hp hpure w,hp⟩
    exact .inr hy
   exact sB (H:=nothing) ho hpl hQ hGset (λ_ _ _ _ _=>λ_ _ h=>by cases h) F' listed a w hc (Region.free_spec ho hfree) hi hy' hsub
  have hcov:=hcov.resolve_left hpure;cases hl:l0 with
  | none=>
   subst hl;refine sB (H:=H) ho hpl hQ hGset (λlisted w _ _ hg=>?_) F' listed a w hc (Region.free_spec ho hfree) hi (by simpa[partAt]using hy) hsub;rcases hg with h | ⟨l,h,_⟩
   ·exact h
   cases h
  | some l=>
   subst hl;simp only[NS]at hcov;have hun : ∀listed,mS ops listed->listed.getD i RN=RO->listed.getD l RO=false:=by
    intro listed hc' hi';cases hll:listed.getD l RO with
    | false=>rfl
    | true=>
     have:=tY hc' (l+1) [l] (by simpa using hll) i (by simpa using hcov.1);exfalso;rcases NQ i listed.size with h' | h'
     ·simp[h']at this hi';rw[hi']at this;cases this
     simp[PW h']at this
   refine sB (H:=H) ho hpl hQ hGset (λlisted w hc' hi' hg=>?_) F' listed a w hc (Region.free_spec ho hfree) hi ?_ hsub
   ·rcases hg with h | ⟨l',h,h'⟩
    ·exact h
    cases h;rw[hun listed hc' hi']at h';cases h'
   have:=hun listed hc (mem_ready.1 hi).1;simpa[partAt,this]using hy
theorem BN {H:View} {w:World} (hw:H.sub (vw w.heap)) : ∀{qs:List Oper} {a a1 a2:Act},QRun P ops H qs a a1->QRun P ops H qs a a2->a1=a2
 | [],a,a1,a2,h1,h2=>by simp only[QRun]at h1 h2;rw[h1,h2]
 | o::qs,a,a1,a2,⟨v1,hy1,hq1⟩,⟨v2,hy2,hq2⟩=>by
  have e:v1=v2:=by
   rcases hy1 with⟨hw1,hr1,_⟩ | ⟨hw1,rfl⟩<;>rcases hy2 with⟨hw2,hr2,_⟩ | ⟨hw2,rfl⟩
   ·have:=(hr1 w hw).symm.trans (hr2 w hw);simpa using this
   ·rw[hw1]at hw2;cases hw2
   ·rw[hw1]at hw2;cases hw2
   rfl
  subst e;exact BN hw hq1 hq2
theorem rP {pp:PP} {node:Nat->Option Reg} {m:Option View} {ρ:Env} {h:Heap} : ∀{rs:List Nat} {R:Reg},jB node rs=RJ R->cY View.sub P m R Q ρ h->∀i∈rs,∃X,node i=RJ X/\cY View.sub P m X Q ρ h
 | [],_,h,_,_,_=>by simp[jB]at h
 | [i],R,h,hw,j,hj=>by simp only[NW]at hj;subst hj;exact⟨R,h,hw⟩
 | i::k::rs,R,h,hw,j,hj=>by
  simp only[jB]at h;split at h
  ·rename_i x y hx hy;simp only[NN]at h;subst h;simp only[cY]at hw;rcases N5.1 hj with rfl | hj
   ·exact⟨x,hx,hw.1⟩
   exact rP hy hw.2 j hj
  cases h
theorem BA{pp:PP}{c:List PanicEntry}{a:Act}{d:Option Tmp}{v:Value}{w:World}(h:@lu (ppD pp) N D w0 Q (.panic c) (Act.put a d v) w):@lu (ppD pp) N D w0 Q (.panic c) a w:=by
 obtain⟨ρ,_,h2,h3,⟨_,h4⟩,h5⟩:=h;refine⟨[],λt v h=>by simp[look]at h,?_,?_,⟨trivial,h4⟩,h5⟩
 ·cases d<;>simpa[Act.put]using h2
 cases d<;>simpa[Act.put]using h3
theorem sw {pp:PP} (hpl : ∀(j:Nat) (o:Oper),ops[j]? = RJ o->eB o.op=RN) : ∀(f:Nat) {listed:Array Bool} {R:Reg} {ρ:Env} {a:Act} {w:World},
  regD P N ops live l0 f listed=RJ R->mS ops listed->listed.size=ops.size->a.tmps.size=N->a.defers=D->Sat ρ a->Same w0 w->GH l0 H listed w->(partAt l0 H listed).sub (vw w.heap)->
  cY View.sub P (RJ (partAt l0 H listed)) R Q ρ w.heap->∀F,left ops listed<=F->anyG P r ops (@lu (ppD pp) N D w0 Q) (GH l0 H) F listed a w
 | 0,_,_,_,_,_,h,_,_,_,_,_,_,_,_,_=>by simp[regD]at h
 | f+1,listed,R,ρ,a,w,hR,hc,hLs,hN,hD,hρ,hS,hG,hX,hw=>by
  simp only[regD]at hR;split at hR;case h_1=>cases hR
  rename_i qs l1 hqs;obtain⟨hc1,_,hl1,hstep⟩:=tL (H:=H) (r:=r) hpl hqs hc;have hl1s:l1.size=ops.size:=by
   have : ∀{f:Nat} {listed l1:Array Bool} {qs:List Nat},py P ops l0 f listed=RJ (qs,l1)->l1.size=listed.size:=by
    intro f;induction f with
    | zero=>
     intro listed l1 qs h;simp only[py]at h;split at h
     ·simp only[NN,Pu]at h;rw[h.2]
     cases h
    | succ f ih=>
     intro listed l1 qs h;simp only[py]at h;split at h
     ·simp only[NN,Pu]at h;rw[h.2]
     split at h
     ·split at h
      ·rename_i hh;simp only[NN,Pu]at h;rw[<-h.2,ih hh];simp
      cases h
     cases h
   rw[this hqs,hLs]
  have hpart1:partAt l0 H l1=partAt l0 H listed:=by
   unfold partAt;cases hl:l0 with
   | none=>rfl
   | some l=>simp only[hl1 l hl]
  have hG1:GH l0 H l1 w:=by
   rcases hG with h | ⟨l,hl,h⟩
   ·exact .inl h
   exact .inr ⟨l,hl,by rw[hl1 l hl];exact h⟩
  have hpartm:part (RJ (partAt l0 H listed)) w.heap=partAt l0 H listed:=rfl;cases hrs:rdy ops l1 with
  | nil=>
   simp only[hrs]at hR;obtain⟨a',ρ',hq,hsz,hd,hs,hQ⟩:=wc hR hN hρ hw;rw[hpartm]at hq;have hpost:@lu (ppD pp) N D w0 Q .normal a' w:=⟨ρ',hs,hsz,hd.trans hD,hQ,hS⟩;refine hstep (λ_ _ _ _ _=>BA) hq (λF _=>?_);cases F with
   | zero=>exact⟨hG1,hrs,hpost⟩
   | succ F=>exact⟨hG1,λ_=>hpost,by rw[hrs];intro i hi;cases hi⟩
  | cons i0 is0=>
   simp only[hrs]at hR;have hbr:=rP hR hw;have hnode : ∀i∈i0::is0,∃o next X,ops[i]? = RJ o/\regD P N ops live l0 f (l1.setIfInBounds i RN)=RJ next/\
     uz P N ops live (mV ops qs) o (xZ ops (l1.setIfInBounds i RN)) (l0 == RJ i) next=RJ X/\cY View.sub P (RJ (partAt l0 H listed)) X Q ρ w.heap:=by
    intro i hi;obtain⟨X,hX,hXw⟩:=hbr i hi;cases ho:ops[i]? with
    | none=>simp[ho]at hX
    | some o=>
     simp only[ho]at hX;split at hX
     ·rename_i next hnext
      exact⟨o,next,X,rfl,hnext,hX,hXw⟩
     cases hX
   obtain⟨o1,next1,X1,ho1,hn1,hX1,hXw1⟩:=hnode i0 (NX ..);obtain⟨_,_,a',_,_,_,hq,hsz,hd,_,_,_,_,_,_⟩:=pJ hX1 hN hρ hXw1;rw[hpartm]at hq;refine hstep (λ_ _ _ _ _=>BA) hq (λF hF=>?_);obtain⟨F',rfl⟩ : ∃F',F=F'+1:=by have h1:=xn (ops:=ops) (listed:=l1) (i:=i0) (by rw[hrs];exact NX ..);exact⟨F-1,by omega⟩
   refine⟨hG1,λh0=>(by rw[hrs]at h0;cases h0),λi hi=>?_⟩;have hi':i∈i0::is0:=by rw[<-hrs];exact hi
   obtain⟨o,next,X,ho,hnext,hX2,hXw⟩:=hnode i hi';obtain⟨hp,hdst,a2,ρ',us,keep,hq2,hsz2,hd2,hs2,hk,hv,_,h1,h2⟩:=pJ hX2 hN hρ hXw;rw[hpartm]at hq2;obtain rfl:=BN hX hq2 hq;have hput : ∀v,(a2.put o.dst v).tmps.size=N:=λv=>by cases o.dst<;>simp[Act.put,hsz2]
   have hdef : ∀v,(a2.put o.dst v).defers=D:=λv=>by cases ho:o.dst<;>simp[Act.put,hd2,hD]
   have hsat : ∀v,Sat (putE ρ' o.dst keep v) (a2.put o.dst v):=λv=>DV hs2 (λd hd=>by rw[hsz2];exact hdst d hd);have hlt:=xn hi;have hun:l1.getD i RN=false:=(mem_ready.1 hi).1;have hisz:i<l1.size:=by
    rcases NQ i l1.size with h | h
    ·exact h
    simp[PW h]at hun
   have hnew:(l1.setIfInBounds i RN).getD i RO=true:=by simp[hisz]
   have hview : ∀h':Heap,pI View.sub (if(l0 == RJ i)=RN then RK else RJ (partAt l0 H listed)) h'->∀w':World,w'.heap=h'->
     GH l0 H (l1.setIfInBounds i RN) w'/\(partAt l0 H (l1.setIfInBounds i RN)).sub (vw w'.heap)/\
     (if(l0 == RJ i)=RN then(RJ (partAt l0 H listed)).map (λ_=>nothing) else RJ (partAt l0 H listed))=RJ (partAt l0 H (l1.setIfInBounds i RN)):=by
    intro h' hk w' hw';by_cases ht:l0=RJ i
    ·subst ht;refine⟨.inr ⟨i,rfl,hnew⟩,?_,?_⟩
     ·simp only[partAt,hnew,if_true];intro _ _ h;cases h
     simp[partAt,hnew]
    have hne:(l0 == RJ i)=false:=by simpa using ht
    rw[hne]at hk;have hle:(partAt l0 H listed).sub (vw h'):=hk _ rfl;have hpe:partAt l0 H (l1.setIfInBounds i RN)=partAt l0 H listed:=by
     rw[<-hpart1];unfold partAt;cases hl:l0 with
     | none=>rfl
     | some l=>have:i≠l:=λe=>ht (by rw[hl,e]);simp only[getD_set_ne RO this]
    refine⟨?_,by rw[hpe,hw'];exact hle,by simp[hne,hpe]⟩;rcases hG1 with _ | ⟨l,hl,h⟩
    ·by_cases hb : ∃l,l0=RJ l/\l1.getD l RO=RN
     ·obtain⟨l,hl,h⟩:=hb;exact .inr ⟨l,hl,getD_set_true h⟩
     refine .inl ?_;have:partAt l0 H listed=H:=by
      rw[<-hpart1];unfold partAt;cases hl:l0 with
      | none=>rfl
      | some l=>have:¬l1.getD l RO=true:=λh=>hb ⟨l,hl,h⟩;simp only[this];rfl
     rw[this]at hle;rw[hw'];exact hle
    exact .inr ⟨l,hl,getD_set_true h⟩
   unfold wpOpIn;simp only[ho];split
   ·rename_i hwt;refine y4 hp hk hv (h1 hwt) (λv w' ⟨hkeep,hreg⟩ hsame=>?_) λch w' hc hsame=>⟨[],λt v h=>by simp[look]at h,hsz2,hd2.trans hD,⟨trivial,hc.1.resolve_left Sa,hc.2⟩,hS.trans hsame⟩;obtain⟨g1,g2,g3⟩:=hview w'.heap hkeep w' rfl;rw[g3]at hreg;exact sw hpl f hnext (hc1.set hi) (by simp[hl1s]) (hput v) (hdef v) (hsat v) (hS.trans hsame) g1 g2 hreg F' R3
   rename_i hwt;refine⟨λ_ _=>trivial,?_⟩;have hreg:=h2 (by simpa using hwt);obtain⟨g1,g2,g3⟩:=hview w.heap (by
    split
    ·intro _ h;cases h
    intro Y hY;cases hY;exact hX) w rfl;rw[g3]at hreg;exact sw hpl f hnext (hc1.set hi) (by simp[hl1s]) (hput _) (hdef _) (hsat _) hS g1 g2 hreg F' R3
theorem zU{pp:PP}{id:Nat}{R:Reg}{a:Act}{w:World}(hm:P.follows .mixedOrders=RN)(hpl:ops.all (λo=>eB o.op)=RN)(hR:regD P N ops live l0 (ops.size+1) (Array.replicate ops.size RO)=RJ R)(hN:a.tmps.size=N)(hD:a.defers=D)(hρ:Sat ρ a)(hw : ∃H:View,H.sub (vw w.heap)/\cY View.sub P (RJ H) R Q ρ w.heap):(Code.region id ops RN).wpIn (Fw r) 0 P (lu N D w Q) a w:=by
 obtain⟨H,hH,hw⟩:=hw;have hpl' : ∀(j:Nat) (o:Oper),ops[j]? = RJ o->eB o.op=true:=λj o ho=>by obtain⟨hj,rfl⟩:=NV.1 ho;exact Array.all_eq_true.1 hpl j hj
 have hclosed:mS ops (Array.replicate ops.size RO):=by
  intro j oj _ h;rcases NQ j ops.size with h' | h'
  ·simp[h']at h
  simp[h']at h
 have hun : ∀l,(Array.replicate ops.size RO).getD l RO=false:=λl=>by rcases NQ l ops.size with h' | h'<;>simp[h']
 have hpart:partAt l0 H (Array.replicate ops.size RO)=H:=by
  unfold partAt;cases l0 with
  | none=>rfl
  | some l=>simp[hun l]
 have weak : ∀e a' w',@lu (ppD pp) N D w Q e a' w'->lu N D w Q e a' w':=λe a' w' hq=>by cases e<;>first | exact hq | (obtain⟨ρ,h1,h2,h3,⟨_,h4,h5⟩,h6⟩:=hq;exact⟨ρ,h1,h2,h3,⟨h4 ρ,h5⟩,h6⟩)
 refine wpIn_mono (wpIn_region_any hm (BO (G:=GH l0 H) (sw (pp:=pp) (H:=H) (w0:=w) (w:={ w with drawn:=w.drawn+1 }) hpl' _ hR hclosed Sa hN hD hρ Same.drawn (.inl hH) ?_ ?_ _ ?_))) weak
 ·rw[hpart];exact hH
 ·rw[hpart];exact hw
 refine OD (List.countP_le_length ..) Sa
theorem Cb{pp:PP}{id:Nat}{R:Reg}{a:Act}{w:World}(hR:regU P N ops live (ops.size+1) ops.toList=RJ R)(hN:a.tmps.size=N)(hD:a.defers=D)(hρ:Sat ρ a)(hw:eW P RK R Q ρ w.heap):(Code.region id ops RO).wpIn (Fw r) 0 P (lu N D w Q) a w:=
 wpIn_region_list (sM _ hR hN hD hρ (Same.refl _) hw)
end
def isFn (P : Program) (f : FuncId) : Bool := match P.funcs[f]? with | some fn => fn.name != "runtime.NumGoroutine" && fn.body.isSome | none => RO
variable{n:Nat}
theorem sC{f:FuncId}{args:Array Value}{w:World}{R:Ending->World->Prop}{r:Option Nat}(h:Calls P f args w R):CallsIn (Fw r) n P f args w R:=
 (callsIn_wide (n:=n)).2 h
def az (P:Program) (f:FuncId) (args:Array Value) (h:Heap) (R:Value->Heap->Prop):Prop:=
 ∀w:World,w.heap=h->Calls P f args w λe w'=>∃v,e = .returned v/\R v w'.heap/\Same w w'
theorem az.mono {P:Program} {f:FuncId} {args:Array Value} {h:Heap} {R R':Value->Heap->Prop} (hc:az P f args h R) (hr : ∀v h',R v h'->R' v h'):az P f args h R':=
 λw hw=>(hc w hw).mono λ_ _ ⟨v,he,hR,hs⟩=>⟨v,he,hr _ _ hR,hs⟩
def ji (P:Program) (f:FuncId) (args:Array Value) (h:Heap) (R:Value->Heap->Prop) (Rp:List PanicEntry->Heap->Prop):Prop:=
 ∀w:World,w.heap=h->Calls P f args w λe w'=>(∃v,e = .returned v/\R v w'.heap/\Same w w')\/∃ch,e = .panicked ch/\Rp ch w'.heap/\Same w w'
theorem View.lt{W:View}{h:Heap}(hw:W.le (vw h)){b:Nat}{o:Obj}(hb:W b=RJ o):b<h.size:=by have:=hw b o hb;simp only[vw]at this;exact(NV.1 this).1
theorem View.cM{W:View}{h:Heap}(hw:W.le (vw h)){b:Nat}(hb:h.size<=b):W b=none:=by
 cases hx:W b with
 | none=>rfl
 | some o=>have:=View.lt hw hx;omega
def grow (V:View) (h h':Heap):View:=λb=>if b<h.size then V b else h'[b]?
theorem gU{V:View}{h h':Heap}(hV:V.le (vw h')):(grow V h h').le (vw h'):=λb o hb=>by
 unfold grow at hb;split at hb
 ·exact hV b o hb
 exact hb
theorem aW{V:View}{h h':Heap}(hV:V.le (vw h)):V.le (grow V h h'):=λb o hb=>by have:=View.lt hV hb;unfold grow;rw[if_pos this];exact hb
def CX (P:Program) (l:Nat) (vs:List Value) (h:Heap) (R:Bool->Heap->Prop):Prop:=
 ∀w:World,w.heap=h->∃f tmps asg body,(Instr.yield l vs.toArray).run P w = .ok (.round l f tmps asg body) w/\
  RoundIn (Fw RK) 0 P l f tmps asg body w λe w'=>∃b,e = .returned (.bool b)/\R b w'.heap/\Same w w'
structure px (n:Nat) (J:View->Heap->Prop):Prop where
 le : ∀{W:View} {h:Heap},J W h->W.le (vw h)
 move : ∀{W W':View} {h h':Heap},J W h->(∀b,b<n->W' b=W b)->W'.le (vw h')->(∀b,W b=RK->b<h.size->h'[b]? = h[b]?/\W' b=RK)->h.size<=h'.size->J W' h'
def Iter (P:Program) (gf:Nat) (caps:List Value) (V:View) (all:List (List Value)):Prop:=
 ∀(l:Nat) (J:Bool->Nat->View->Heap->Prop) (W:View) (h:Heap),(∀b k,px h.size (J b k))->V.le W->V l=RK->J RN 0 W h->
  (∀k vs W' h1,(∀b,b<h.size->W' b=W b)->all[k]? = RJ vs->J RN k W' h1->CX P l vs h1 λb h2=>∃W2,(∀i,i≠l->W2 i=W' i)/\(b=RN->W2=W')/\J b (k+1) W2 h2)->
  az P gf (Value.func (.yield l) #[] #[]::caps).toArray h λ_ h2=>∃b k W',(∀i,i<h.size->i≠l->W' i=W i)/\J b k W' h2/\(b=RN->k=all.length)
inductive LC where
 | skip
 | reg (drawn:Bool) (r:Reg)
 | seq (x y:LC)
 | cond (c:E) (kill:List Nat) (x y:LC)
 | block (id:Nat) (x:LC)
 | loop (x:LC)
 | exit (id:Nat)
 | ret
 | rangef (g:E) (ps:List Nat) (asg body:LC)
 deriving Inhabited
def LC.plain:LC->Bool
 | .rangef _ _ _ _=>RO
 | .seq x y=>x.plain&&y.plain
 | .cond _ _ x y=>x.plain&&y.plain
 | .block _ x | .loop x=>x.plain
 | _=>RN
abbrev Post:=Exit->Env->Heap->Prop
def eU (next:Env->Heap->Prop) (Q:Post):Post
 | .normal,ρ,h=>next ρ h
 | e,ρ,h=>Q e ρ h
def fe (id:Nat) (Q:Post):Post
 | .exit k,ρ,h=>if k=id then Q .normal ρ h else Q (.exit k) ρ h
 | e,ρ,h=>Q e ρ h
def postOf [pp:PP] (Q:Post):Post
 | .panic ch,ρ,h=>pp.fx ρ/\pp.kp ch h
 | e,ρ,h=>Q e ρ h
theorem rL{Q:Post}{e:Exit}{h:Heap}(hq:@postOf noPP Q e ρ h):Q e ρ h:=by cases e<;>first | exact hq | exact hq.2.elim
def bF:List Nat->Env->Env
 | [],_=>[]
 | t::ts,ρ=>match look ρ t with
  | some v=>(t,v)::bF ts ρ
  | none=>bF ts ρ
theorem sS {ρ:Env} {t:Nat} {v:Value} : ∀{ks:List Nat},look (bF ks ρ) t=RJ v->look ρ t=RJ v
 | [],h=>by simp[bF,look]at h
 | k::ks,h=>by
  simp only[bF]at h;split at h
  ·rename_i u hu;simp only[look]at h;split at h
   ·rename_i e;subst e;rw[hu];exact h
   exact sS h
  exact sS h
theorem Cp{a:Act}{ks:List Nat}(h:Sat ρ a):Sat (bF ks ρ) a:=λt v hv=>h t v (sS hv)
def oD:Exit->Bool
 | .normal | .exit _ | .ret=>RN
 | _=>RO
def LC.wp [pp:PP] (P:Program) (c:LC) (Q:Post) (ρ:Env) (h:Heap):Prop:=
 match c with
 | .skip=>Q .normal ρ h
 | .reg RO r=>eW P RK r (Q .normal) ρ h
 | .reg RN r=>∃H:View,H.sub (vw h)/\cY View.sub P (RJ H) r (Q .normal) ρ h
 | .seq x y=>x.wp P (eU (y.wp P Q) Q) ρ h
 | .cond c kill x y=>∃b,ev (look ρ) (vw h) c=RJ (.bool b)/\(b=RN->x.wp P Q (bY ρ kill) h)/\(b=RO->y.wp P Q (bY ρ kill) h)
 | .block id x=>x.wp P (fe id Q) ρ h
 | .loop x=>∃(ks:List Nat) (I:Nat->Env->Heap->Prop),(∃n,I n (bF ks ρ) h)/\∀n ρ h,I n ρ h->x.wp P (eU (λρ' h'=>∃m,m<n/\I m (bF ks ρ') h') Q) ρ h
 | .exit id=>Q (.exit id) ρ h
 | .ret=>Q .ret ρ h
 | .rangef g ps asg body=>∃(gf:Nat) (caps:List Value) (V W0:View) (all:List (List Value)) (I:Option Exit->Nat->View->Heap->Prop) (A:Nat->Env),
   ev (look ρ) (vw h) g=RJ (.func (.func gf) #[] caps.toArray)/\isFn P gf=RN/\Iter P gf caps V all/\(∀vs∈all,vs.length=ps.length)/\V.le W0/\(∀e k,px h.size (I e k))/\I RK 0 W0 h/\
   (∀k vs W h1,(∀b,b<h.size->W b=W0 b)->all[k]? = RJ vs->I RK k W h1->
    @LC.wp noPP P asg (λe ρ1 h2=>e = .normal/\h2=h1/\ρ1=A k) (dx ρ (ps.zip vs)) h1/\
    @LC.wp noPP P body (λe _ h3=>I (match e with | .normal=>RK | e=>RJ e) (k+1) W h3) (A k) h1)/\
   (∀W h1,(∀b,b<h.size->W b=W0 b)->I RK all.length W h1->Q .normal ρ h1)/\
   (∀e k W h1,oD e=RN->e≠.normal->(∀b,b<h.size->W b=W0 b)->I (RJ e) k W h1->Q e ρ h1)
theorem iz.mono{po:OP}{P:Program}{s:Sem Next}{h:Heap}{K K':Value->Heap->Prop}(hr:iz P s h K)(hk : ∀v h',K v h'->K' v h'):iz P s h K':=
 λw hw r o a X Y hX hY=>hr w hw r o a X Y (λv w' hv hs=>hX v w' (hk _ _ hv) hs) hY
section
variable {P:Program} {Q:Post} {ρ:Env} {h:Heap}
theorem iS {pp:PP} {S:View->View->Prop} {Q Q':Env->Heap->Prop} (hq : ∀ρ h,Q ρ h->Q' ρ h) : ∀{r:Reg} {m:Option View} {ρ:Env} {h:Heap},cY S P m r Q ρ h->cY S P m r Q' ρ h
 | .fin kill sets chk,m,ρ,h,⟨vs,h1,h2,h3⟩=>⟨vs,h1,h2,hq _ _ h3⟩
 | .loud kill sets args grd chk tail op ty dst keep next,m,ρ,h,hw=>by
  simp only[cY]at hw ⊢;obtain⟨vs,us,h1,h2,h3,hfx,h4⟩:=hw;refine⟨vs,us,h1,h2,h3,hfx,?_⟩;cases grd with
  | none=>exact iz.mono h4 λv h' ⟨g1,g2⟩=>⟨g1,iS hq g2⟩
  | some gb=>obtain⟨gv,g1,g2,g3⟩:=h4;exact⟨gv,g1,λe=>iz.mono (g2 e) λv h' ⟨g1,g2⟩=>⟨g1,iS hq g2⟩,λe=>iS hq (g3 e)⟩
 | .both x y,m,ρ,h,⟨h1,h2⟩=>⟨iS hq h1,iS hq h2⟩
theorem DO{pp:PP}{Q Q':Env->Heap->Prop}(hq : ∀ρ h,Q ρ h->Q' ρ h){r:Reg}{m:Option View}{ρ:Env}{h:Heap}(hw:eW P m r Q ρ h):eW P m r Q' ρ h:=iS hq hw
theorem jW {pp:PP} {S S':View->View->Prop} (hS : ∀H K,S H K->S' H K) {Q:Env->Heap->Prop} : ∀{r:Reg} {m:Option View} {ρ:Env} {h:Heap},cY S P m r Q ρ h->cY S' P m r Q ρ h
 | .fin kill sets chk,m,ρ,h,⟨vs,h1,h2,h3⟩=>⟨vs,h1,h2,h3⟩
 | .loud kill sets args grd chk tail op ty dst keep next,m,ρ,h,hw=>by
  simp only[cY]at hw ⊢;obtain⟨vs,us,h1,h2,h3,hfx,h4⟩:=hw;refine⟨vs,us,h1,h2,h3,hfx,?_⟩;cases grd with
  | none=>exact iz.mono h4 λv h' ⟨g1,g2⟩=>⟨λH e=>hS _ _ (g1 H e),jW hS g2⟩
  | some gb=>obtain⟨gv,g1,g2,g3⟩:=h4;exact⟨gv,g1,λe=>iz.mono (g2 e) λv h' ⟨g1,g2⟩=>⟨λH e=>hS _ _ (g1 H e),jW hS g2⟩,λe=>jW hS (g3 e)⟩
 | .both x y,m,ρ,h,⟨h1,h2⟩=>⟨jW hS h1,jW hS h2⟩
end
theorem vE{pp:PP}{Q Q':Post}(hq : ∀e ρ h,oD e=RN->Q e ρ h->Q' e ρ h): ∀{x:LC} {ρ:Env} {h:Heap},x.wp P Q ρ h->x.wp P Q' ρ h:=by
 intro x;induction x generalizing Q Q' with
 | skip=>exact λh=>hq _ _ _ rfl h
 | reg d r=>
  intro ρ h hw;cases d with
  | false=>exact DO (λρ h=>hq .normal ρ h rfl) hw
  | true=>obtain⟨H,hH,hw⟩:=hw;exact⟨H,hH,iS (λρ h=>hq .normal ρ h rfl) hw⟩
 | seq x y ihx ihy=>intro ρ h hw;exact ihx (λe ρ h hp hq'=>by cases e<;>first | exact ihy hq hq' | exact hq _ _ _ hp hq') hw
 | cond c kill x y ihx ihy=>intro ρ h ⟨b,h1,h2,h3⟩;exact⟨b,h1,λe=>ihx hq (h2 e),λe=>ihy hq (h3 e)⟩
 | block i x ih=>
  intro ρ h hw;refine ih (λe ρ h hp hq'=>?_) hw;cases e with
  | exit k=>
   simp only[fe]at hq' ⊢;split
   ·rename_i hk;rw[if_pos hk]at hq';exact hq _ _ _ rfl hq'
   rename_i hk;rw[if_neg hk]at hq';exact hq _ _ _ rfl hq'
  | _=>exact hq _ _ _ hp hq'
 | loop x ih=>intro ρ h ⟨ks,I,h0,hr⟩;exact⟨ks,I,h0,λn ρ h hI=>ih (λe ρ h hp hq'=>by cases e<;>first | exact hq' | exact hq _ _ _ hp hq') (hr n ρ h hI)⟩
 | exit i=>exact λh=>hq _ _ _ rfl h
 | ret=>exact λh=>hq _ _ _ rfl h
 | rangef g ps asg body _ _=>rintro ρ h ⟨gf,caps,V,W0,all,I,A,h1,h2,h3,h4,h5,h6,h7,h8,h9,h10⟩;exact⟨gf,caps,V,W0,all,I,A,h1,h2,h3,h4,h5,h6,h7,h8,λW h' a b=>hq _ _ _ rfl (h9 W h' a b),λe k W h' a b c d=>hq _ _ _ a (h10 e k W h' a b c d)⟩
theorem Hx{pp:PP}{Q Q':Post}(hq : ∀e ρ h,Q e ρ h->Q' e ρ h){x:LC}{h:Heap}(hw:x.wp P Q ρ h):x.wp P Q' ρ h:=vE (λe ρ h _=>hq e ρ h) hw
theorem jV{b:Frame}{a:Act}{k:List Item}{cs:List Frame}{w:World}{c:Code}:Go.step P (lone (b.atR a (.code (.scope c)::k)) cs w) = .next (lone (b.atR a (.code c::.inScope c::k)) cs w):=
 step_lone_go (by simp[stepG,stepG.exec,Frame.atR])
theorem yB{b:Frame}{a:Act}{k:List Item}{cs:List Frame}{w:World}{c:Code}:Go.step P (lone (b.atR a (.inScope c::k)) cs w) = .next (lone (b.atR a k) cs w):=
 step_lone_go (by simp[stepG,stepG.exec,Frame.atR])
theorem DD{F:Fence}{Q:Exit->Act->World->Prop}{a:Act}{w:World}{c:Code}(h:c.wpIn F n P (λe a w=>(∀l,e≠.goto l)/\Q e a w) a w):(Code.scope c).wpIn F n P Q a w:=by
 intro b k cs hro hb hr;have h0:(lone (b.atR a (.code (.scope c)::k)) cs w).fenced P F:=fenced_calm hb hr rfl;obtain⟨e,a₁,w₁,⟨hp,hq⟩,harr⟩:=h b (.inScope c::k) cs hro hb hr;cases e with
 | normal=>exact⟨.normal,a₁,w₁,hq,.head h0 jV (StepsIn.trans harr (.one (fenced_calm hb hr rfl) yB))⟩
 | exit id=>
  have hx:exitTo id (.inScope c::k)=exitTo id k:=by simp[exitTo]
  exact⟨.exit id,a₁,w₁,hq,λk' hk=>.head h0 jV (harr.1 k' (by rw[hx];exact hk)),
   λhr' hk=>let ⟨k₁,h1,h2⟩:=harr.2 hr' (by rw[hx];exact hk);⟨k₁,h1,.head h0 jV h2⟩⟩
 | goto l=>exact absurd rfl (hp l)
 | ret=>exact⟨_,a₁,w₁,hq,.of_steps (.one h0 jV) harr⟩
 | panic ch=>exact⟨_,a₁,w₁,hq,.of_steps (.one h0 jV) harr⟩
 | outgrown=>exact⟨_,a₁,w₁,hq,.of_steps (.one h0 jV) harr⟩
def Cs (P:Program) (ops:Array Oper):Option Nat:=
 let reads:=(List.range ops.size).filter λi=>match ops[i]? with | some o=>isQ P o&&!uq P o | none=>RO
 (List.range ops.size).find? λl=>match ops[l]? with
  | some o=>!isQ P o&&o.guard.isNone&&(let d:=down ops (l+1) [l];reads.all d.contains)
  | none=>RO
def xk (liveR:List Nat):Operand->List Nat
 | .tmp t=>if liveR.contains t then[] else[t]
 | _=>[]
def eF (P:Program) (N:Nat) (live liveR:List Nat) (inR:Bool):Code->Option LC
 | .skip=>RJ .skip
 | .region _ ops draw=>
  if draw then
   if ops.all (λo=>eB o.op) then
    (regD P N ops live (Cs P ops) (ops.size+1) (Array.replicate ops.size RO)).map (.reg RN)
   else RK
  else(regU P N ops live (ops.size+1) ops.toList).map (.reg RO)
 | .seq x y=>match eF P N live liveR inR x,eF P N live liveR inR y with
  | some a,RJ b=>RJ (.seq a b)
  | _,_=>RK
 | .cond c x y=>match eF P N live liveR inR x,eF P N live liveR inR y with
  | some a,RJ b=>RJ (.cond (opnd c) (xk liveR c) a b)
  | _,_=>RK
 | .block id x=>(eF P N live liveR inR x).map (.block id)
 | .loop x=>(eF P N live liveR inR x).map .loop
 | .exit id=>RJ (.exit id)
 | .ret=>RJ .ret
 | .scope x=>eF P N live liveR inR x
 | .label _=>RJ .skip
 | .rangeFunc f ps x y=>if inR then RK else if ps.toList.all (· < N) then
   match eF P N live liveR RN x,eF P N live liveR RN y with
   | some a,RJ b=>if a.plain&&b.plain then RJ (.rangef (opnd f) ps.toList a b) else RK
   | _,_=>RK
  else RK
 | _=>RK
def gD (pl:Bool) (D:List Deferred) (n:Nat) (ds:List Deferred) (h:Heap):Prop:=
 ∃ms:List Nat,ds=ms.map (λm=>{ target:=.collected m,args:=#[] })++D/\(pl=RN->ms=[])/\(∀m∈ms,n<=m/\h[m]? = RJ (.deferred (RJ [])))/\ms.Nodup
theorem gD.refl(pl:Bool)(D:List Deferred)(n:Nat)(h:Heap):gD pl D n D h:=⟨[],rfl,λ_=>rfl,(λ_ h=>by cases h),Ru⟩
theorem gD.trans{p q:Bool}{D ds es:List Deferred}{w0 w1 w2:World}(h:gD p D w0.heap.size ds w1.heap)(k:gD q ds w1.heap.size es w2.heap)(hs:Same w0 w1)(hs2:Same w1 w2):gD (p&&q) D w0.heap.size es w2.heap:=by
 obtain⟨ms,rfl,h1,h2,h3⟩:=h;obtain⟨ns,rfl,k1,k2,k3⟩:=k;refine⟨ns++ms,by simp,λe=>?_,λm hm=>?_,?_⟩
 ·simp only[NS]at e;rw[h1 e.1,k1 e.2];rfl
 ·rcases NU.1 hm with hm | hm
  ·exact⟨OD hs.size (k2 m hm).1,(k2 m hm).2⟩
  exact⟨(h2 m hm).1,hs2.defs m (h2 m hm).2⟩
 refine PL.2 ⟨k3,h3,λa ha b hb e=>?_⟩;subst e;have h4:=(k2 a ha).1;have h5:=(NV.1 (h2 a hb).2).1;omega
theorem gD.weak{p q:Bool}{D ds:List Deferred}{h:Heap}(hpq:q=RN->p=RN)(k:gD p D n ds h):gD q D n ds h:=
 let ⟨ms,h1,h2,h3,h4⟩:=k
 ⟨ms,h1,λe=>h2 (hpq e),h3,h4⟩
def tM [pp:PP] (N:Nat) (pl:Bool) (D:List Deferred) (w0:World) (Q:Post) (e:Exit) (a:Act) (w:World):Prop:=
 ∃ρ,Sat ρ a/\a.tmps.size=N/\gD pl D w0.heap.size a.defers w.heap/\postOf Q e ρ w.heap/\Same w0 w
theorem wpIn_loop_ghost{F:Fence}{k:Nat}{Q:Exit->Act->World->Prop}{c:Code}(I:Nat->Act->World->Prop){a:Act}{w:World}(h₀:I n a w)(round : ∀n a w,I n a w->c.wpIn F k P (Exit.then (λa' w'=>∃m,m<n/\I m a' w') Q) a w):(Code.loop c).wpIn F k P Q a w:=by
 intro b k cs hro hb hr;have key : ∀j a w,I j a w->
   ∃e a' w',Q e a' w'/\ArrivesIn (Machine.fenced P F) P (lone (b.atR a (.code c::.inLoop c::k)) cs w) b k cs e a' w':=by
  intro j;induction j using Nat.strongRecOn with
  | _ j ih=>
   intro a w hI;obtain⟨e,a₁,w₁,hq,harr⟩:=round j a w hI b (.inLoop c::k) cs hro hb hr;cases e with
   | normal=>obtain⟨m,hlt,hI₁⟩:=hq;obtain⟨e₂,a₂,w₂,hq₂,harr₂⟩:=ih m hlt a₁ w₁ hI₁;exact⟨e₂,a₂,w₂,hq₂,.of_steps (StepsIn.trans harr (.one (fenced_calm hb hr rfl) stepR_inLoop)) harr₂⟩
   | exit id=>exact⟨_,a₁,w₁,hq,.pass (x:=.inLoop c) rfl (λ_ _=>.inl Sa) harr⟩
   | goto l=>exact⟨_,a₁,w₁,hq,.pass (x:=.inLoop c) rfl (λ_ _=>.inl Sa) harr⟩
   | ret=>exact⟨_,a₁,w₁,hq,.pass (x:=.inLoop c) rfl (λ_ _=>.inl Sa) harr⟩
   | panic ch=>exact⟨_,a₁,w₁,hq,.pass (x:=.inLoop c) rfl (λ_ _=>.inl Sa) harr⟩
   | outgrown=>exact⟨_,a₁,w₁,hq,.pass (x:=.inLoop c) rfl (λ_ _=>.inl Sa) harr⟩
 obtain⟨e,a',w',hq,harr⟩:=key _ a w h₀;exact⟨e,a',w',hq,.of_steps (.one (fenced_calm hb hr rfl) stepR_loop) harr⟩
section
variable {P:Program} {N:Nat} {live liveR:List Nat}
theorem tM.weak {pp:PP} {p q:Bool} {D:List Deferred} {w0:World} {Q:Post} {e:Exit} {a:Act} {w:World} (hpq:q=RN->p=RN) (h:tM N p D w0 Q e a w):tM N q D w0 Q e a w:=
 let ⟨ρ,h1,h2,h3,h4,h5⟩:=h
 ⟨ρ,h1,h2,h3.weak hpq,h4,h5⟩
theorem Hf{vs:List Value}: ∀{ps:List Nat} {ρ:Env} {a:Act},Sat ρ a->(∀p∈ps,p<a.tmps.size)->ps.length=vs.length->
  Sat (dx ρ (ps.zip vs)) { tmps:=(ps.zip vs).foldl (λt (p:Nat × Value)=>t.setIfInBounds p.1 p.2) a.tmps,defers:=[] }:=by
 induction vs with
 | nil=>intro ps ρ a h _ hl;cases ps with
  | nil=>exact h
  | cons p ps=>simp at hl
 | cons v vs ih=>intro ps ρ a h hp hl;cases ps with
  | nil=>simp at hl
  | cons p ps=>
   simp only[Qz,dx,N8];have:=ih (ps:=ps) (ρ:=setE ρ p v) (a:={ tmps:=a.tmps.setIfInBounds p v,defers:=a.defers }) ?_ (λq hq=>by simpa using hp q (NZ _ hq)) (by simpa using hl)
   ·exact this
   intro t u hu;rw[af]at hu;split at hu
   ·rename_i e;subst e;cases hu;simp[hp p (NX ..)]
   rename_i e;simp only[OY e];exact h t u hu
theorem Fg{l:List (Nat × Value)}: ∀{t:Array Value},(l.foldl (λt (p:Nat × Value)=>t.setIfInBounds p.1 p.2) t).size=t.size:=by
 induction l with
 | nil=>intro t;rfl
 | cons p l ih=>intro t;simp only[N8,ih,Array.size_setIfInBounds]
def View.set (W:View) (l:Nat) (o:Obj):View:=λb=>if b=l then RJ o else W b
theorem px.put{l:Nat}{J:View->Heap->Prop}(hJ:px n J){W:View}{w:World}{o:Obj}(o':Obj)(h:J W w.heap)(hl:W l=RJ o)(hn:n<=l):J (W.set l o') (w.putObj l o').heap:=by
 have hle:=hJ.le h;have hlt:l<w.heap.size:=(NV.1 (hle l o hl)).1;refine hJ.move h (λb hb=>by unfold View.set;rw[if_neg R3]) (λb x hb=>?_) (λb hb _=>?_) (by simp[World.putObj])
 ·unfold View.set at hb;split at hb
  ·rename_i e;subst e;cases hb;exact World.putObj_heap_same hlt
  rename_i e;show(w.putObj l o').heap[b]? = _;rw[World.putObj_heap_other e];exact hle b x hb
 have hne:b≠l:=λe=>by rw[e,hl]at hb;cases hb
 exact⟨World.putObj_heap_other hne,by unfold View.set;rw[if_neg hne];exact hb⟩
theorem Same.put{w:World}{l:Nat}{o o':Obj}(hl:w.heap[l]? = RJ o)(ho:o≠.deferred (RJ [])):Same w (w.putObj l o'):=
 Same.sL rfl rfl rfl (by simp[World.putObj]) hl ho λk _ hne=>World.putObj_heap_other hne
theorem BF{pp:PP}{f:Operand}{ps:Array Tmp}{x y:Code}{X Y:LC}(hx : ∀{Q:Post} {ρ:Env} {a:Act} {w:World} {r:Option Nat},@LC.wp noPP P X Q ρ w.heap->Sat ρ a->a.tmps.size=N->x.wpIn (Fw r) 0 P (@tM noPP N X.plain a.defers w Q) a w)(hy : ∀{Q:Post} {ρ:Env} {a:Act} {w:World} {r:Option Nat},@LC.wp noPP P Y Q ρ w.heap->Sat ρ a->a.tmps.size=N->y.wpIn (Fw r) 0 P (@tM noPP N Y.plain a.defers w Q) a w)(hps : ∀p∈ps.toList,p<N){Q:Post}{a:Act}{w:World}(hw:(LC.rangef (opnd f) ps.toList X Y).wp P Q ρ w.heap)(hρ:Sat ρ a)(hN:a.tmps.size=N):
  (Code.rangeFunc f ps x y).wpIn (Fw RK) 0 P (tM N RO a.defers w Q) a w:=by
 simp only[LC.wp]at hw;obtain⟨gf,caps,V,W0,all,I,A,hg,hfn,hIter,hlen,hV,hI,h0,hround,hdone,hexit⟩:=hw;have hg':=bI (a:=a) (iW (λt v h=>hρ t v h) hg);refine wpIn_rangeFunc λfn _=>?_;obtain⟨rec,hrec⟩ : ∃rec:LoopState->Option Code->Loop,rec=λst pe=>{ state:=st,pending:=pe,fn,tmps:=a.tmps,params:=ps,assign:=x,body:=y,defers:=w.heap.size }:=⟨_,rfl⟩;obtain⟨W1,hW1⟩ : ∃W1,(w.alloc (.deferred (RJ []))).alloc (.loop (rec .ready RK))=W1:=⟨_,rfl⟩;have hL1:W1.heap[w.heap.size+1]? = RJ (.loop (rec .ready RK)):=by rw[<-hW1];have:=World.alloc_heap_new (w.alloc (.deferred (RJ []))) (.loop (rec .ready RK));rwa [World.size_alloc]at this
 have hK1:W1.heap[w.heap.size]? = RJ (.deferred (RJ [])):=by rw[<-hW1];exact(heap_alloc_old _ _ Sa).trans (World.alloc_heap_new w _)
 have hsz1:W1.heap.size=w.heap.size+2:=by rw[<-hW1];simp
 have hold : ∀k,k<w.heap.size->W1.heap[k]? = w.heap[k]?:=by intro k hk;rw[<-hW1,heap_alloc_old _ _ R9,heap_alloc_old _ _ hk]
 have hS1:Same w W1:=Same.An (by rw[<-hW1];rfl) (by rw[<-hW1];rfl) (by rw[<-hW1];rfl) R3 hold;have hW0:=(hI RK 0).le h0;have hG1:(grow W0 w.heap W1.heap).le (vw W1.heap):=gU λb o hb=>by show W1.heap[b]? = _;rw[hold b (View.lt hW0 hb)];exact hW0 b o hb
 have hI1:I RK 0 (grow W0 w.heap W1.heap) W1.heap:=(hI RK 0).move h0 (λb hb=>by unfold grow;rw[if_pos hb]) hG1 (λb hb hlt=>⟨hold b hlt,by unfold grow;rw[if_pos hlt];exact hb⟩) hS1.size;have hgrowL:grow W0 w.heap W1.heap (w.heap.size+1)=RJ (.loop (rec .ready RK)):=by unfold grow;rw[if_neg R3];exact hL1
 have hgrow0 : ∀b,b<w.heap.size->grow W0 w.heap W1.heap b=W0 b:=λb hb=>by unfold grow;rw[if_pos hb]
 obtain⟨J,hJ⟩ : ∃J:Bool->Nat->View->Heap->Prop,J=λb k W h=>if b=RN then I RK k W h/\W (w.heap.size+1)=RJ (.loop (rec .ready RK)) else
   ∃e c,oD e=RN/\e≠.normal/\(e = .ret/\c=Code.ret\/∃id,e = .exit id/\c=Code.exit id)/\I (RJ e) k W h/\W (w.heap.size+1)=RJ (.loop (rec .done (RJ c))):=⟨_,rfl⟩
 refine⟨w.heap.size+1,[{ target:=.collected w.heap.size,args:=#[] }],W1,{ target:=.fn (.func gf) caps.toArray,args:=#[.func (.yield (w.heap.size+1)) #[] #[]] },W1,gf,
  (Value.func (.yield (w.heap.size+1)) #[] #[]::caps).toArray,W1,?_,?_,?_,?_,λh=>by simp[Fw,Fence.wide]at h,?_⟩
 ·rw[<-hW1,hrec];exact run_enterLoop_outer _ _ _ _ _
 ·simp only[resolve,hg'];simp[go_sem]
 ·intro f' _;trivial
 ·unfold isFn at hfn;cases hfn':P.funcs[gf]? with
  | none=>simp[hfn']at hfn
  | some fn'=>simp only[hfn',NS,bne_iff_ne,ne_eq]at hfn;obtain⟨h1,h2⟩:=hfn;simp[invoke,callFunc,program,Sem.run,hfn',h1,Option.isNone];cases hb:fn'.body<;>simp[hb]at h2 ⊢
 have hJ0:J RN 0 (grow W0 w.heap W1.heap) W1.heap:=by rw[hJ];simp only[if_true];exact⟨hI1,hgrowL⟩
 refine sC ((hIter (w.heap.size+1) J (grow W0 w.heap W1.heap) W1.heap ?_ (View.le_trans hV (aW hW0)) (View.cM (View.le_trans hV hW0) R3) hJ0 ?_ W1 rfl).mono ?_)
 ·intro b k;rw[hJ];cases b with
  | true=>simp only[if_true];exact⟨λh=>(hI RK k).le h.1,λh a1 a2 a3 a4=>⟨(hI RK k).move h.1 (λb hb=>a1 b R3) a2 a3 a4,by rw[a1 _ R3];exact h.2⟩⟩
  | false=>simp only[Pp,if_false];exact⟨λ⟨e,c,_,_,_,h,_⟩=>(hI (RJ e) k).le h,λ⟨e,c,p1,p2,p3,h,p4⟩ a1 a2 a3 a4=>⟨e,c,p1,p2,p3,(hI (RJ e) k).move h (λb hb=>a1 b R3) a2 a3 a4,by rw[a1 _ R3];exact p4⟩⟩
 ·intro k vs W' h1 hag hall hJk w' hw';subst hw';rw[hJ]at hJk;simp only[if_true]at hJk;obtain⟨hIk,hWl⟩:=hJk;have hag0 : ∀b,b<w.heap.size->W' b=W0 b:=λb hb=>by rw[hag b R3,hgrow0 b hb]
  have hle:=(hI RK k).le hIk;have hl:w'.heap[w.heap.size+1]? = RJ (.loop (rec .ready RK)):=hle _ _ hWl;have hvl:=hlen vs (OQ hall);have hyd:=run_yield (P:=P) (args:=vs.toArray) hl (by rw[hrec];simpa using hvl);refine⟨_,_,_,_,hyd,roundIn_of_wpIn trivial ?_⟩;rw[hrec];simp only;obtain⟨hasg,_⟩:=hround k vs W' w'.heap hag0 hall hIk;have hact:(ps.zip vs.toArray).foldl (λtmps (p:Nat × Value)=>tmps.setIfInBounds p.1 p.2) a.tmps=(ps.toList.zip vs).foldl (λt (p:Nat × Value)=>t.setIfInBounds p.1 p.2) a.tmps:=by rw[<-Array.foldl_toList];simp
  have hsat:=Hf (ps:=ps.toList) (vs:=vs) hρ (λp hp=>by rw[hN];exact hps p hp) hvl.symm;refine wpIn_mono (hx (r:=RJ (w.heap.size+1)) (a:={ tmps:=(ps.zip vs.toArray).foldl (λtmps (p:Nat × Value)=>tmps.setIfInBounds p.1 p.2) a.tmps,defers:=[] }) hasg (by rw[hact];exact hsat) (by rw[hact,Fg];exact hN)) ?_;rintro e a1 w1 ⟨ρ1,s1,n1,_,hqq,hS⟩;obtain⟨rfl,hh,rfl⟩:=rL hqq;have hl':w1.heap[w.heap.size+1]? = RJ (.loop (rec .ready RK)):=by rw[hh];exact hl
  refine⟨_,run_beginRound hl' (by rw[hrec]),?_⟩;have hIk1:I RK k W' w1.heap:=by rw[hh];exact hIk
  have hI2:=(hI RK k).put (.loop (rec .busy RK)) hIk1 hWl R3;have hbusy:({ rec .ready RK with state:=.busy }:Loop)=rec .busy none:=by rw[hrec]
  rw[hbusy];obtain⟨_,hbody⟩:=hround k vs (W'.set (w.heap.size+1) (.loop (rec .busy RK))) _ (λb hb=>by unfold View.set;rw[if_neg R3];exact hag0 b hb) hall hI2;have hS2:Same w1 (w1.putObj (w.heap.size+1) (.loop (rec .busy RK))):=Same.put hl' Sa;refine wpIn_mono (hy (r:=RJ (w.heap.size+1)) (vE (Q':=λe _ h3=>oD e=RN/\I (match e with | .normal=>RK | e=>RJ e) (k+1) (W'.set (w.heap.size+1) (.loop (rec .busy RK))) h3) (λe ρ h hp hq=>⟨hp,hq⟩) hbody) s1 n1) ?_;rintro e a3 w3 ⟨ρ3,s3,n3,_,hqq,hS3⟩;obtain⟨hpe,hI3⟩:=rL hqq;have hset:(W'.set (w.heap.size+1) (.loop (rec .busy RK))) (w.heap.size+1)=RJ (.loop (rec .busy RK)):=by unfold View.set;rw[if_pos rfl]
  have hset2 : ∀o o',(W'.set (w.heap.size+1) o).set (w.heap.size+1) o'=W'.set (w.heap.size+1) o':=by intro o o';funext b;unfold View.set;split<;>rfl
  have hself:W'.set (w.heap.size+1) (.loop (rec .ready RK))=W':=by
   funext b;unfold View.set;split
   ·rename_i e;subst e;exact hWl.symm
   rfl
  have fin : ∀jump:Option Code,w3.heap[w.heap.size+1]? = RJ (.loop (rec .busy RK))->
    (Instr.endRound (w.heap.size+1) jump).run P w3 = .ok (.bool jump.isNone) (w3.putObj (w.heap.size+1) (.loop (rec (if jump.isNone then .ready else .done) jump)))/\Same w' (w3.putObj (w.heap.size+1) (.loop (rec (if jump.isNone then .ready else .done) jump))):=by intro jump h3;have:=run_endRound (P:=P) jump h3;rw[hrec]at this ⊢;rw[hrec]at h3;refine⟨this,((hS.trans hS2).trans hS3).trans (Same.put h3 Sa)⟩
  cases e with
  | normal=>obtain⟨f1,f2⟩:=fin RK ((hI RK (k+1)).le hI3 _ _ hset);refine⟨_,_,f1,RN,rfl,⟨W',λ_ _=>rfl,λ_=>rfl,?_⟩,f2⟩;rw[hJ];simp only[if_true];have:=(hI RK (k+1)).put (.loop (rec .ready RK)) hI3 hset R3;rw[hset2,hself]at this;exact⟨this,hWl⟩
  | ret=>obtain⟨f1,f2⟩:=fin (RJ .ret) ((hI (RJ .ret) (k+1)).le hI3 _ _ hset);refine⟨_,_,f1,RO,rfl,⟨W'.set (w.heap.size+1) (.loop (rec .done (RJ .ret))),λi hi=>by unfold View.set;rw[if_neg hi],(λh=>by cases h),?_⟩,f2⟩;rw[hJ];simp only[Pp,if_false];have:=(hI (RJ .ret) (k+1)).put (.loop (rec .done (RJ .ret))) hI3 hset R3;rw[hset2]at this;exact⟨.ret,.ret,rfl,by simp,.inl ⟨rfl,rfl⟩,this,by unfold View.set;rw[if_pos rfl]⟩
  | exit id=>obtain⟨f1,f2⟩:=fin (RJ (.exit id)) ((hI (RJ (.exit id)) (k+1)).le hI3 _ _ hset);refine⟨_,_,f1,RO,rfl,⟨W'.set (w.heap.size+1) (.loop (rec .done (RJ (.exit id)))),λi hi=>by unfold View.set;rw[if_neg hi],(λh=>by cases h),?_⟩,f2⟩;rw[hJ];simp only[Pp,if_false];have:=(hI (RJ (.exit id)) (k+1)).put (.loop (rec .done (RJ (.exit id)))) hI3 hset R3;rw[hset2]at this;exact⟨(.exit id),(.exit id),rfl,by simp,.inr ⟨id,rfl,rfl⟩,this,by unfold View.set;rw[if_pos rfl]⟩
  | goto t=>cases hpe
  | panic ch=>cases hpe
  | outgrown=>cases hpe
 rintro e w2 ⟨v,rfl,⟨b,k,W',hag,hJk,hk⟩,hS⟩;have hag0 : ∀b,b<w.heap.size->W' b=W0 b:=λb hb=>by rw[hag b R3 R3,hgrow0 b hb]
 have hD2:=hS.defs _ hK1;have marks : ∀w4:World,(∀k,k≠w.heap.size+1->w4.heap[k]? = w2.heap[k]?)->gD RO a.defers w.heap.size ([{ target:=.collected w.heap.size,args:=#[] }]++a.defers) w4.heap:=
  λw4 h4=>⟨[w.heap.size],rfl,λh=>by(cases h),λm hm=>by simp only[NW]at hm;subst hm;exact⟨NO _,by rw[h4 _ R3];exact hD2⟩,by simp⟩;have hsset : ∀o b,b<w.heap.size->(W'.set (w.heap.size+1) o) b=W0 b:=λo b hb=>by unfold View.set;rw[if_neg R3];exact hag0 b hb
 rw[hJ]at hJk;cases b with
 | true=>simp only[if_true]at hJk;obtain⟨hIk,hWl⟩:=hJk;have hl:=(hI RK k).le hIk _ _ hWl;refine⟨RK,_,by have:=run_endLoop (P:=P) hl (by rw[hrec];simp);rw[hrec]at this;exact this,ρ,hρ,hN,marks _ (λk hk=>World.putObj_heap_other hk),?_,(hS1.trans hS).trans (Same.put hl Sa)⟩;have hkl:=hk rfl;rw[hkl]at hIk;exact hdone _ _ (hsset _) ((hI RK all.length).put _ hIk hWl R3)
 | false=>
  simp only[Pp,if_false]at hJk;obtain⟨e,c,hpe,hne,hec,hIk,hWl⟩:=hJk;have hl:=(hI (RJ e) k).le hIk _ _ hWl;refine⟨RJ c,_,by have:=run_endLoop (P:=P) hl (by rw[hrec];simp);rw[hrec]at this;exact this,?_⟩;have hQ:=hexit e k _ _ hpe hne (hsset _) ((hI (RJ e) k).put (.loop { state:=.exhausted,pending:=RJ c,fn,tmps:=a.tmps,params:=ps,assign:=x,body:=y,defers:=w.heap.size }) hIk hWl R3);have hS4:=(hS1.trans hS).trans (Same.put (o':=.loop { state:=.exhausted,pending:=RJ c,fn,tmps:=a.tmps,params:=ps,assign:=x,body:=y,defers:=w.heap.size }) hl Sa);rcases hec with⟨rfl,rfl⟩ | ⟨id,rfl,rfl⟩
  ·exact wpIn_ret ⟨ρ,hρ,hN,marks _ (λk hk=>World.putObj_heap_other hk),hQ,hS4⟩
  exact wpIn_exit ⟨ρ,hρ,hN,marks _ (λk hk=>World.putObj_heap_other hk),hQ,hS4⟩
theorem ef {pp:PP} (hm:P.follows .mixedOrders=RN) : ∀(c:Code) {inR:Bool} {L:LC} {Q:Post} {ρ:Env} {a:Act} {w:World} {r:Option Nat},eF P N live liveR inR c=RJ L->(inR=RO->r=RK)->L.wp P Q ρ w.heap->Sat ρ a->a.tmps.size=N->
  c.wpIn (Fw r) 0 P (tM N L.plain a.defers w Q) a w
 | .skip,inR,L,Q,ρ,a,w,r,hL,hr,hw,hρ,hN=>by simp only[eF,NN]at hL;subst hL;exact wpIn_skip ⟨ρ,hρ,hN,gD.refl ..,hw,Same.refl _⟩
 | .region id ops draw,inR,L,Q,ρ,a,w,r,hL,hr,hw,hρ,hN=>by
  have post : ∀e a' w',lu N a.defers w (Q .normal) e a' w'->tM N RN a.defers w Q e a' w':=by
   intro e a' w' h;cases e<;>first | exact h.elim | skip
   ·obtain⟨ρ',h1,h2,h3,h4,h5⟩:=h;exact⟨ρ',h1,h2,h3▸gD.refl ..,h4,h5⟩
   obtain⟨ρ',h1,h2,h3,h4,h5⟩:=h;exact⟨ρ',h1,h2,h3▸gD.refl ..,h4,h5⟩
  cases draw with
  | true=>
   simp only[eF,if_true]at hL;split at hL;case isFalse=>cases hL
   rename_i hpl;simp only[NR]at hL;obtain⟨R,hR,rfl⟩:=hL;exact wpIn_mono (zU hm hpl hR hN rfl hρ hw) post
  | false=>simp only[eF,Pp,if_false,NR]at hL;obtain⟨R,hR,rfl⟩:=hL;exact wpIn_mono (Cb hR hN rfl hρ hw) post
 | .seq x y,inR,L,Q,ρ,a,w,r,hL,hr,hw,hρ,hN=>by
  simp only[eF]at hL;split at hL;case h_2=>cases hL
  rename_i A B hA hB;simp only[NN]at hL;subst hL;simp only[LC.wp]at hw;refine wpIn_seq (wpIn_mono (ef hm x hA hr hw hρ hN) ?_);rintro e a1 w1 ⟨ρ1,h1,h2,h3,h4,h5⟩;cases e with
  | normal=>refine wpIn_mono (ef hm y hB hr h4 h1 h2) ?_;rintro e a2 w2 ⟨ρ2,g1,g2,g3,g4,g5⟩;exact⟨ρ2,g1,g2,h3.trans g3 h5 g5,g4,h5.trans g5⟩
  | _=>exact⟨ρ1,h1,h2,h3.weak (by simp[LC.plain];exact λh _=>h),h4,h5⟩
 | .cond c x y,inR,L,Q,ρ,a,w,r,hL,hr,hw,hρ,hN=>by
  simp only[eF]at hL;split at hL;case h_2=>cases hL
  rename_i A B hA hB;simp only[NN]at hL;subst hL;simp only[LC.wp]at hw;obtain⟨b,hb,h1,h2⟩:=hw;have hb':=bI (a:=a) (iW (λt v h=>hρ t v h) hb);cases b with
  | true=>exact wpIn_cond hb' (wpIn_mono (ef hm x hA hr (h1 rfl) (AT hρ) hN) λ_ _ _ h=>h.weak (by simp[LC.plain];exact λh _=>h))
  | false=>exact wpIn_cond hb' (wpIn_mono (ef hm y hB hr (h2 rfl) (AT hρ) hN) λ_ _ _ h=>h.weak (by simp[LC.plain]))
 | .block id x,inR,L,Q,ρ,a,w,r,hL,hr,hw,hρ,hN=>by
  simp only[eF,NR]at hL;obtain⟨A,hA,rfl⟩:=hL;simp only[LC.wp]at hw;refine wpIn_block (wpIn_mono (ef hm x hA hr hw hρ hN) ?_);rintro e a1 w1 ⟨ρ1,h1,h2,h3,h4,h5⟩;cases e with
  | exit k=>
   simp only[postOf,fe]at h4;simp only[Exit.inBlock];split
   ·rename_i hk;rw[if_pos hk]at h4;exact⟨ρ1,h1,h2,h3,h4,h5⟩
   rename_i hk;rw[if_neg hk]at h4;exact⟨ρ1,h1,h2,h3,h4,h5⟩
  | _=>exact⟨ρ1,h1,h2,h3,h4,h5⟩
 | .loop x,inR,L,Q,ρ,a,w,r,hL,hr,hw,hρ,hN=>by
  simp only[eF,NR]at hL;obtain⟨A,hA,rfl⟩:=hL;simp only[LC.wp]at hw;obtain⟨ks,I,⟨n,h0⟩,hround⟩:=hw;refine wpIn_loop_ghost (λn a1 w1=>∃ρ1,Sat ρ1 a1/\a1.tmps.size=N/\gD A.plain a.defers w.heap.size a1.defers w1.heap/\I n ρ1 w1.heap/\Same w w1) (n:=n) ⟨bF ks ρ,Cp hρ,hN,gD.refl ..,h0,Same.refl _⟩ ?_;rintro n a1 w1 ⟨ρ1,h1,h2,h3,h4,h5⟩;refine wpIn_mono (ef hm x hA hr (hround n ρ1 w1.heap h4) h1 h2) ?_;rintro e a2 w2 ⟨ρ2,g1,g2,g3,g4,g5⟩;have hm2:gD A.plain a.defers w.heap.size a2.defers w2.heap:=(h3.trans g3 h5 g5).weak Sa;cases e with
  | normal=>obtain⟨m,hlt,hI⟩:=g4;exact⟨m,hlt,bF ks ρ2,Cp g1,g2,hm2,hI,h5.trans g5⟩
  | _=>exact⟨ρ2,g1,g2,hm2,g4,h5.trans g5⟩
 | .exit id,inR,L,Q,ρ,a,w,r,hL,hr,hw,hρ,hN=>by simp only[eF,NN]at hL;subst hL;exact wpIn_exit ⟨ρ,hρ,hN,gD.refl ..,hw,Same.refl _⟩
 | .ret,inR,L,Q,ρ,a,w,r,hL,hr,hw,hρ,hN=>by simp only[eF,NN]at hL;subst hL;exact wpIn_ret ⟨ρ,hρ,hN,gD.refl ..,hw,Same.refl _⟩
 | .label l,inR,L,Q,ρ,a,w,r,hL,hr,hw,hρ,hN=>by simp only[eF,NN]at hL;subst hL;exact wpIn_label ⟨ρ,hρ,hN,gD.refl ..,hw,Same.refl _⟩
 | .goto l,_,_,_,_,_,_,_,hL,_,_,_,_=>by simp[eF]at hL
 | .scope c,inR,L,Q,ρ,a,w,r,hL,hr,hw,hρ,hN=>by
  simp only[eF]at hL;have hw2:L.wp P (λe ρ h=>oD e=RN/\Q e ρ h) ρ w.heap:=vE (λe ρ h hp hq=>⟨hp,hq⟩) hw;refine DD (wpIn_mono (ef hm c hL hr hw2 hρ hN) λe a w ⟨ρ,h1,h2,h3,h4,h5⟩=>?_);cases e with
  | panic ch=>exact⟨λl h=>(by cases h),ρ,h1,h2,h3,h4,h5⟩
  | goto l=>cases h4.1
  | outgrown=>cases h4.1
  | _=>exact⟨λl h=>(by cases h),ρ,h1,h2,h3,h4.2,h5⟩
 | .refuse s,_,_,_,_,_,_,_,hL,_,_,_,_=>by simp[eF]at hL
 | .rangeFunc f ps x y,inR,L,Q,ρ,a,w,r,hL,hr,hw,hρ,hN=>by
  simp only[eF]at hL;split at hL
  ·cases hL
  rename_i hin;obtain rfl:=hr (by simpa using hin);split at hL;case isFalse=>cases hL
  rename_i hps;split at hL;case h_2=>cases hL
  rename_i A B hA hB;split at hL;case isFalse=>cases hL
  simp only[NN]at hL;subst hL;exact BF (λhw h1 h2=>ef hm x hA Sa hw h1 h2) (λhw h1 h2=>ef hm y hB Sa hw h1 h2) (λp hp=>by simpa using OJ.1 hps p hp) hw hρ hN
end
def resE (P:Program):ResultVar->Option E
 | .tmp t=>RJ (.tmp t)
 | .cell a t=>yv P t (.tmp a)
def pack:List Value->Value
 | [v]=>v
 | vs=>.tuple vs.toArray
structure LFn where
 res:List E
 body:LC
 deriving Inhabited
def qN:Code->List Nat
 | .region _ ops _=>(ops.toList.foldl (fun(p:List Nat × List Nat) o=>((tmpsOf o).foldl (λl t=>if p.2.contains t||l.contains t then l else t::l) p.1,match o.dst with | some d=>d::p.2 | none=>p.2)) ([],[])).1
 | .seq x y=>qN x++qN y
 | .cond _ x y=>qN x++qN y
 | .block _ x | .loop x | .scope x=>qN x
 | .rangeFunc f _ x y=>(match f with | .tmp t=>[t] | _=>[])++qN x++qN y
 | _=>[]
def ln:Code->List Nat
 | .seq x y=>ln x++ln y
 | .cond c x y=>(match c with | .tmp t=>[t] | _=>[])++ln x++ln y
 | .block _ x | .loop x | .scope x=>ln x
 | .rangeFunc _ _ x y=>ln x++ln y
 | _=>[]
def tZ (fn:Func) (c:Code):List Nat:=(fn.results.toList.map fun | .tmp t=>t | .cell a _=>a)++(qN c).eraseDups
def aL (P:Program) (fn:Func):Option LFn:=
 match fn.body with
 | some c=>match fn.results.toList.mapM (resE P),eF P fn.ntmps (ln c++tZ fn c) (tZ fn c) RO c with
  | some res,RJ L=>RJ ⟨res,L⟩
  | _,_=>RK
 | none=>RK
def kN:Nat->List Value->Env
 | _,[]=>[]
 | k,v::vs=>(k,v)::kN (k+1) vs
def cO (res:List E) (R:Value->Heap->Prop):Post
 | .normal,ρ,h | .ret,ρ,h=>∃vs,evs (look ρ) (vw h) res=RJ vs/\R (pack vs) h
 | _,_,_=>False
theorem pg : ∀(vs:List Value) (k t:Nat) (v:Value),look (kN k vs) t=RJ v->k<=t/\vs[t-k]? = RJ v
 | [],_,_,_,h=>by simp[kN,look]at h
 | u::vs,k,t,v,h=>by
  simp only[kN,look]at h;split at h
  ·rename_i e;subst e;simp only[NN]at h;subst h;exact⟨NO _,by simp⟩
  rename_i e;obtain⟨h1,h2⟩:=pg vs (k+1) t v h;refine⟨by omega,?_⟩;have:t-k=(t-(k+1))+1:=by omega
  rw[this];simpa using h2
theorem En {P:Program} {a:Act} {w:World} {F:ResultVar->Sem Value} (hF1 : ∀t,F (ResultVar.tmp t)=pure (a.tmps.getD t undef))
  (hF2 : ∀b t,F (ResultVar.cell b t)=(do loadVar t (<-asAddr (a.tmps.getD b undef)))) : ∀{rs:List ResultVar} {es:List E} {vs:List Value},rs.mapM (resE P)=RJ es->evs (cg a) (vw w.heap) es=RJ vs->
  (rs.mapM F).run P w=Result.ok vs w
 | [],es,vs,h,hv=>by simp at h;subst h;simp[evs]at hv;subst hv;simp
 | x::rs,es,vs,h,hv=>by
  simp only[Rv,Option.bind_eq_bind,N0]at h;obtain⟨e,he,es',hes,h⟩:=h;simp only[Option.pure_def,NN]at h;subst h;simp only[evs]at hv;split at hv
  ·rename_i v vs' hv1 hv2;simp only[NN]at hv;subst hv;have ih:=En hF1 hF2 hes hv2;cases x with
   | tmp t=>simp only[resE,NN]at he;subst he;simp only[ev,cg]at hv1;simp[hF1,hv1,ih]
   | cell a' t=>
    simp only[resE]at he;have hx : ∃u,ev (cg a) (vw w.heap) (.tmp a')=RJ u:=by
     unfold yv at he;split at he
     ·simp only[NN]at he;subst he;obtain⟨u,hu,_⟩:=ke hv1;exact⟨u,hu⟩
     ·simp only[NN]at he;subst he;obtain⟨u,hu,_⟩:=ke hv1;exact⟨u,hu⟩
     cases he
    obtain⟨u,hu⟩:=hx;have h1:=run_load he hu hv1;simp only[ev,cg]at hu;cases u with
    | pointer o=>
     cases o with
     | none=>simp[Instr.loadAt,Instr.sureAddr,stuck,Sem.run]at h1
     | some ad=>simp[Instr.loadAt,Instr.sureAddr]at h1;simp[hF2,hu,asAddr,h1,ih]
    | _=>simp[Instr.loadAt,Instr.sureAddr,stuck,Sem.run]at h1
  cases hv
theorem Jb(vs:List Value):(if h:vs.toArray.size=1 then vs.toArray[0] else Value.tuple vs.toArray)=pack vs:=by
 match vs with
 | []=>rfl
 | [v]=>rfl
 | v::u::l=>simp[pack]
variable{fn:Func}
theorem nL{a:Act}{w:World}{es:List E}{vs:List Value}(h:fn.results.toList.mapM (resE P)=RJ es)(hv:evs (cg a) (vw w.heap) es=RJ vs):
  (results fn a.tmps).run P w = .ok (pack vs) w:=by unfold results;rw[Rk];have h1:=En (P:=P) (a:=a) (w:=w) (F:=λx=>match x with | .tmp t=>pure (a.tmps.getD t undef) | .cell b t=>do loadVar t (<-asAddr (a.tmps.getD b undef))) (λ_=>rfl) (λ_ _=>rfl) h hv;rw[<-Jb];simp only[Sem.run_bind,Sem.run_map];erw [h1];simp[Result.andThen]
variable{args:List Value}
theorem vD{pp:PP}{L:LFn}{Q:Post}{w:World}{c:Code}(hm:P.follows .mixedOrders=RN)(hc:fn.body=RJ c)(hL:aL P fn=RJ L)(hn:args.length<=fn.ntmps)(hw:L.body.wp P Q (kN 0 args) w.heap):fn.results.toList.mapM (resE P)=RJ L.res/\
  c.wpIn (Fw RK) 0 P (tM fn.ntmps L.body.plain [] w Q) { tmps:=args.toArray++Array.replicate (fn.ntmps-args.toArray.size) undef,defers:=[] } w:=by
 unfold aL at hL;split at hL;case h_2=>cases hL
 rename_i c' hc';rw[hc]at hc';cases hc';split at hL;case h_2=>cases hL
 rename_i res B hres hB;simp only[NN]at hL;subst hL;have hsat:Sat (kN 0 args) { tmps:=args.toArray++Array.replicate (fn.ntmps-args.toArray.size) undef,defers:=[] }:=by
  intro t v hl;obtain⟨_,h2⟩:=pg args 0 t v hl;have:t<args.length:=by
   rcases NQ t args.length with h | h
   ·exact h
   simp[ON h]at h2
  simp only[Nat.sub_zero]at h2;simp only[QI,PM,this,if_true,P4];exact h2
 exact⟨hres,ef (r:=RK) hm c hB (λ_=>rfl) hw hsat R9⟩
theorem sE{L:LFn}(hL:aL P fn=RJ L): ∃c,fn.body=RJ c:=by
 unfold aL at hL;split at hL
 ·rename_i c hc;exact⟨c,hc⟩
 cases hL
theorem yG{f:FuncId}{L:LFn}{h:Heap}{R:Value->Heap->Prop}(hm:P.follows .mixedOrders=RN)(hf:P.funcs[f]? = RJ fn)(hL:aL P fn=RJ L)(hn:args.length<=fn.ntmps)(hpl:L.body.plain=RN)(hw:L.body.wp P (cO L.res R) (kN 0 args) h):az P f args.toArray h R:=by
 intro w hwh;subst hwh;obtain⟨c,hc⟩:=sE hL;obtain⟨hres,hwp⟩:=vD hm hc hL hn hw;refine(callsIn_wide (n:=0)).1 (callsIn_of_wp hf hc trivial (wpIn_mono hwp ?_));rintro e a1 w1 ⟨ρ1,h1,h2,⟨ms,h3,hms,_⟩,h4,h5⟩;rw[hms hpl]at h3;have fin:(∃vs,evs (look ρ1) (vw w1.heap) L.res=RJ vs/\R (pack vs) w1.heap)->a1.defers=[]/\∃v,(results fn a1.tmps).run P w1 = .ok v w1/\∃u,Ending.returned v = .returned u/\R u w1.heap/\Same w w1:=by rintro⟨vs,g1,g2⟩;exact⟨h3,pack vs,nL hres (ry (λt v h=>h1 t v h) g1),pack vs,rfl,g2,h5⟩
 cases e with
 | normal=>exact fin h4
 | ret=>exact fin h4
 | panic ch=>exact h4.2.elim
 | _=>exact h4.elim
abbrev ppOf (Rp:List PanicEntry->Heap->Prop):PP:=⟨Rp,λ_=>True⟩
theorem xq{f:FuncId}{L:LFn}{h:Heap}{R:Value->Heap->Prop}{Rp:List PanicEntry->Heap->Prop}(hm:P.follows .mixedOrders=RN)(hf:P.funcs[f]? = RJ fn)(hL:aL P fn=RJ L)(hn:args.length<=fn.ntmps)(hpl:L.body.plain=RN)(hw:@LC.wp (ppOf Rp) P L.body (cO L.res R) (kN 0 args) h):ji P f args.toArray h R Rp:=by
 intro w hwh;subst hwh;obtain⟨c,hc⟩:=sE hL;obtain⟨hres,hwp⟩:=vD hm hc hL hn hw;refine(callsIn_wide (n:=0)).1 (callsIn_of_wp hf hc trivial (wpIn_mono hwp ?_));rintro e a1 w1 ⟨ρ1,h1,h2,⟨ms,h3,hms,_⟩,h4,h5⟩;rw[hms hpl]at h3;have fin:(∃vs,evs (look ρ1) (vw w1.heap) L.res=RJ vs/\R (pack vs) w1.heap)->a1.defers=[]/\∃v,(results fn a1.tmps).run P w1 = .ok v w1/\((∃u,Ending.returned v = .returned u/\R u w1.heap/\Same w w1)\/∃ch,Ending.returned v = .panicked ch/\Rp ch w1.heap/\Same w w1):=by rintro⟨vs,g1,g2⟩;exact⟨h3,pack vs,nL hres (ry (λt v h=>h1 t v h) g1),.inl ⟨pack vs,rfl,g2,h5⟩⟩
 cases e with
 | normal=>exact fin h4
 | ret=>exact fin h4
 | panic ch=>exact⟨h3,.inr ⟨ch,rfl,h4.2,h5⟩⟩
 | _=>exact h4.elim
structure pO (n:Nat) (h h':Heap):Prop where
 size:h'.size=h.size
 same : ∀b,b<n\/h[b]?≠RJ (.deferred (RJ []))->h'[b]? = h[b]?
theorem pO.refl(n:Nat)(h:Heap):pO n h h:=⟨rfl,λ_ _=>rfl⟩
def Ed (n:Nat) (res:List E) (R:Value->Heap->Prop):Post
 | .normal,ρ,h | .ret,ρ,h=>∀h',pO n h h'->∃vs,evs (look ρ) (vw h') res=RJ vs/\R (pack vs) h'
 | _,_,_=>False
theorem tX {P:Program} {fn:Func} {a:Act} {w0:World} {R:Ending->World->Prop} : ∀(ms:List Nat) (w:World),ms.Nodup->(∀m∈ms,w0.heap.size<=m/\w.heap[m]? = RJ (.deferred (RJ [])))->Same w0 w->
  (∀w',pO w0.heap.size w.heap w'.heap->Same w0 w'->∃v,(results fn a.tmps).run P w' = .ok v w'/\R (.returned v) w')->
  LeavesInM (Fw RK) 0 P fn a.tmps R (ms.map λm=>{ target:=.collected m,args:=#[] }) .returning w
 | [],w,_,_,hS,h=>h w (pO.refl _ _) hS
 | m::ms,w,hnd,hms,hS,h=>by
  obtain⟨h1,h2⟩:=QT.1 hnd;obtain⟨hm1,hm2⟩:=hms m (NX ..);have hS1:Same w0 (w.putObj m (.deferred RK)):=⟨hS.os,hS.output,hS.tape,by simpa[World.putObj]using hS.size,λb hb=>by
   have hne:b≠m:=λe=>by have:=(NV.1 hb).1;omega
   rw[World.putObj_heap_other hne];exact hS.defs b hb⟩;refine⟨by simp,.inl ⟨m,_,rfl,run_takeDeferred hm2,tX ms _ h2 (λk hk=>?_) hS1 λw' hsw hS'=>h w' ⟨by rw[hsw.size];simp[World.putObj],λb hb=>?_⟩ hS'⟩⟩
  ·have hne:k≠m:=λe=>h1 (e▸hk);rw[World.putObj_heap_other hne];exact hms k (NZ _ hk)
  have hne:b≠m:=λe=>by
   subst e;rcases hb with hb | hb
   ·omega
   exact hb hm2
  have e:(w.putObj m (.deferred RK)).heap[b]? = w.heap[b]?:=World.putObj_heap_other hne;rw[hsw.same b (by rw[e];exact hb),e]
theorem ye{f:FuncId}{L:LFn}{h:Heap}{R:Value->Heap->Prop}(hm:P.follows .mixedOrders=RN)(hf:P.funcs[f]? = RJ fn)(hL:aL P fn=RJ L)(hn:args.length<=fn.ntmps)(hw:L.body.wp P (Ed h.size L.res R) (kN 0 args) h):az P f args.toArray h R:=by
 intro w hwh;subst hwh;obtain⟨c,hc⟩:=sE hL;obtain⟨hres,hwp⟩:=vD hm hc hL hn hw;refine(callsIn_wide (n:=0)).1 (callsIn_of_wp_marks hf hc trivial (wpIn_mono hwp ?_));rintro e a1 w1 ⟨ρ1,h1,h2,⟨ms,h3,_,hms,hnd⟩,h4,h5⟩;have fin:(∀h',pO w.heap.size w1.heap h'->∃vs,evs (look ρ1) (vw h') L.res=RJ vs/\R (pack vs) h')->LeavesInM (Fw RK) 0 P fn a1.tmps (λe w'=>∃u,e = .returned u/\R u w'.heap/\Same w w') a1.defers .returning w1:=by intro hq;rw[h3,Pn];refine tX ms w1 hnd hms h5 λw' hsw hS=>?_;obtain⟨vs,g1,g2⟩:=hq w'.heap hsw;exact⟨pack vs,nL hres (ry (λt v h=>h1 t v h) g1),pack vs,rfl,g2,hS⟩
 cases e with
 | normal=>exact fin h4
 | ret=>exact fin h4
 | panic ch=>exact h4.2.elim
 | _=>exact h4.elim
def iV (fn:Func):List Nat:=match fn.body with | some c=>ln c++tZ fn c | none=>[]
def BZ (fn:Func):List Nat:=match fn.body with | some c=>tZ fn c | none=>[]
def Am (fn:Func):Code:=match fn.body with | some (.seq c _)=>c | _=>.skip
def Kl (fn:Func):Code:=match fn.body with | some (.seq _ (.seq c _))=>c | _=>.skip
def GN (fn:Func):Code:=match fn.body with | some (.seq _ (.seq _ c))=>c | _=>.skip
def J8 (fn:Func):Code:=match fn.body with | some (.seq _ c)=>c | _=>.skip
def HC:Code->Array Oper | .region _ ops _=>ops | _=>#[]
def J9:Code->Nat | .region i _ _=>i | _=>0
def Kh (fn:Func) (i:Nat):Oper:=((HC (Kl fn))[i]?).getD default
def KL (fn:Func) (i:Nat):Oper:=((HC (Am fn))[i]?).getD default
def LC.tail:LC->LC | .seq _ y=>y | _=>.skip
section
variable {P:Program} {A B:List Nat} {x y:LC} {c d:Code}
structure FO where
 b:Nat
 o:Oper
 q:Option (Nat × E)
 a:Nat
def fAft (o:Oper):Nat:=(o.after.toList.filter (Region.binds .any)).foldl (λm x=>m||| 1 <<< x.on) 0
def fOps (P:Program):Nat->List Oper->List FO
 | _,[]=>[]
 | i,o::l=>⟨1 <<< i,o,(match o.dst,opE P o.op with | some d,RJ e=>RJ (d,e) | _,_=>RK),fAft o⟩::fOps P (i+1) l
def fHas (L b:Nat):Bool:=L&&& b != 0
def fQs:List FO->Nat->List FO × Nat
 | [],L=>([],L)
 | x::l,L=>match x.q with
  | none=>fQs l L
  | some _=>if !fHas L x.b&&(x.a&&& L == x.a) then(match fQs l (L||| x.b)with | (r,m)=>(x::r,m)) else fQs l L
def Iq (ops:List FO) (j:Nat):Option Nat:=match ops[j]? with | some x=>x.o.dst | none=>RK
def nF (ops:List FO) (x:FO) (r:List E):List E:=match x.q with
 | none=>r
 | some (d,e)=>match x.o.guard with
  | none=>if r.any (·.occ d) then r.map (·.subst d e) else r++[e]
  | some (j,b)=>match Iq ops j with
   | some c=>if r.any (·.occG d c b) then r.map (·.dm d c b e) else(r++[E.tmp d]).map (·.dm d c b e)
   | none=>r
def Es (ops:List FO):List FO->List E->List E
 | [],r=>r
 | x::l,r=>nF ops x (Es ops l r)
def fDst:List FO->List Nat
 | []=>[]
 | x::l=>match x.o.dst with | some d=>d::fDst l | none=>fDst l
def fFin (ops:List FO) (live:List Nat) (qs:List FO):Reg:=
 let outs:=(fDst qs).filter live.contains
 let es:=Es ops qs (outs.map E.tmp)
 .fin (fDst qs) (outs.zip es) (es.drop outs.length)
def Ko (ops:List FO):List FO->List Nat
 | []=>[]
 | x::l=>tmpsOf x.o++((match x.o.guard with | some (j,_)=>(Iq ops j).toList | none=>[])++Ko ops l)
def Ka (ops:List FO) (live:List Nat) (qs:List FO) (x:FO) (rest:List FO) (tail:Bool) (next:Reg):Reg:=
 let us:=Ko ops rest
 let need:=λd=>live.contains d||us.contains d
 let outs:=(fDst qs).filter need
 let args:=tmpsOf x.o
 let keep:=match x.o.dst with | some d=>need d | none=>RO
 match x.o.guard with
 | none=>let es:=Es ops qs (outs.map E.tmp++args.map E.tmp);.loud (fDst qs) (outs.zip es) (args.zip (es.drop outs.length)) RK (es.drop (outs.length+args.length)) tail x.o.op x.o.type x.o.dst keep next
 | some (j,b)=>match Iq ops j with
  | none=>next
  | some c=>
   let es:=Es ops qs (outs.map E.tmp++(args.map E.tmp++[E.tmp c]));match es.drop (outs.length+args.length)with
   | g::chk=>.loud (fDst qs) (outs.zip es) (args.zip (es.drop outs.length)) (RJ (g,b)) chk tail x.o.op x.o.type x.o.dst keep next
   | []=>next
def fU (ops:List FO) (live:List Nat):Nat->List FO->Reg
 | 0,_=>default
 | f+1,l=>
  let qs:=l.takeWhile (·.q.isSome);match l.dropWhile (·.q.isSome)with
  | []=>fFin ops live qs
  | x::rest=>Ka ops live qs x rest RO (fU ops live f rest)
def Ke:List Reg->Reg
 | []=>default
 | [x]=>x
 | x::l=>.both x (Ke l)
def fD (ops:List FO) (live:List Nat) (t:Nat):Nat->Nat->Reg
 | 0,_=>default
 | f+1,L=>match fQs ops L with
  | (qs,m)=>match ops.filter λx=>!fHas m x.b&&(x.a&&& m == x.a)with
   | []=>fFin ops live qs
   | rs=>Ke (rs.map λx=>Ka ops live qs x (ops.filter λy=>!fHas (m||| x.b) y.b) (t == x.b) (fD ops live t f (m||| x.b)))
def Kj (R:Nat):List FO->List Nat->Nat
 | [],_=>0
 | x::l,D=>let d:=(D.zipIdx.foldl (λm p=>if fHas x.a (1 <<< p.2) then m||| p.1 else m) x.b);if x.q.isNone&&x.o.guard.isNone&&(R&&& d == R) then x.b else Kj R l (D++[d])
def z8:List FO->Nat
 | []=>0
 | x::l=>match x.q with | some (_,e)=>if e.reads then x.b||| z8 l else z8 l | none=>z8 l
def fReg (P:Program) (live:List Nat) (l:List Oper) (draw:Bool):LC:=
 let ops:=fOps P 0 l
 if draw then .reg RN (fD ops live (Kj (z8 ops) ops []) (l.length+1) 0) else .reg RO (fU ops live (l.length+1) ops)
def fC (P:Program) (A B:List Nat):Code->LC
 | .region _ ops draw=>fReg P A ops.toList draw
 | .seq x y=>.seq (fC P A B x) (fC P A B y)
 | .cond c x y=>.cond (opnd c) (xk B c) (fC P A B x) (fC P A B y)
 | .block i x=>.block i (fC P A B x)
 | .loop x=>.loop (fC P A B x)
 | .exit i=>.exit i
 | .ret=>.ret
 | .scope x=>fC P A B x
 | _=>.skip
def nsc:Code->Code
 | .scope x=>nsc x
 | .seq x y=>.seq (nsc x) (nsc y)
 | .cond c x y=>.cond c (nsc x) (nsc y)
 | .block i x=>.block i (nsc x)
 | .loop x=>.loop (nsc x)
 | c=>c
def cAt:Code->List Nat->Code
 | .scope x,l=>cAt x l
 | .seq x y,k::l=>if k=0 then cAt x l else cAt y l
 | .cond _ x y,k::l=>if k=0 then cAt x l else cAt y l
 | .block _ x,_::l=>cAt x l
 | .loop x,_::l=>cAt x l
 | c,_=>nsc c
def codeF (fn:Func):Code:=match fn.body with | some c=>c | none=>.skip
def fF (P:Program) (f:Func):LFn:=⟨(f.results.toList.mapM (resE P)).getD [],fC P (iV f) (BZ f) (codeF f)⟩
structure Lf (P:Program) (A B:List Nat) (c:Code) (x:LC):Prop where
 h:fC P A B c=x
theorem lfS(h1:Lf P A B c x)(h2:Lf P A B d y):Lf P A B (.seq c d) (.seq x y):=⟨by simp only[fC];rw[h1.h,h2.h]⟩
theorem lfK{o:Operand}{e:E}{k:List Nat}(h1:Lf P A B c x)(h2:Lf P A B d y)(h0:opnd o=e:=by cbv)(h3:xk B o=k:=by cbv):Lf P A B (.cond o c d) (.cond e k x y):=⟨by subst h0;subst h3;simp only[fC];rw[h1.h,h2.h]⟩
theorem lfc(h:fC P A B c=x:=by cbv):Lf P A B c x:=⟨h⟩
theorem lfB{i:Nat}(h1:Lf P A B c x):Lf P A B (.block i c) (.block i x):=⟨by simp only[fC];rw[h1.h]⟩
theorem lfO(x:LC)(h1:fC P A B c=x:=by kernel_rfl):Lf P A B (.loop c) (.loop x):=⟨by simp only[fC];rw[h1]⟩
theorem mkA{α:Type}{l:List α}:Array.mk l=l.toArray:=rfl
abbrev lkF (P:Program) (f:Func) {b c:LFn} (_:fF P f=c:=by cbv) (_:c=b:=by((try simp only[mkA]);rfl)):LFn:=b
abbrev lkL (P:Program) (f:Func) (A B:List Nat) (p:List Nat) {b c:LC} (_:Lf P A B (cAt (codeF f) p) c) (_:c=b:=by((try simp only[mkA]);rfl)):LC:=b
abbrev lkG (P:Program) (f:Func) (A B:List Nat) {a:List E} {b c:LC} (_:Lf P A B (nsc (codeF f)) c) (_:(f.results.toList.mapM (resE P)).getD []=a:=by cbv) (_:c=b:=by((try simp only[mkA]);rfl)):LFn:=⟨a,b⟩
abbrev lkA (f:Func) {b:List Nat} (_:iV f=b:=by cbv):List Nat:=b
abbrev lkB (f:Func) {b:List Nat} (_:BZ f=b:=by cbv):List Nat:=b
def yR (t : TypeInfo) : TypeInfo := { t with str := "", zero := RK, methods := #[] }
abbrev lkQ (a:List TypeInfo) {b:List TypeInfo} (_:a=b:=by cbv):List TypeInfo:=b
abbrev lkT (a:Array TypeInfo) {b:Array TypeInfo} (_:a=b:=by cbv):Array TypeInfo:=b
end
end Go.Lft
namespace Go.Proofs.YtnfiilgdjpdlkaaGreatDoor
open Go Go.Lft
section
set_option maxRecDepth 100000
def QT0:List TypeInfo:=lkQ ((Tryz.progTables.types.toList.take 60).map yR)
def QT1:List TypeInfo:=lkQ (((Tryz.progTables.types.toList.drop 60).take 60).map yR)
def QT2:List TypeInfo:=lkQ (((Tryz.progTables.types.toList.drop 120).take 60).map yR)
def QT3:List TypeInfo:=lkQ (((Tryz.progTables.types.toList.drop 180).take 60).map yR)
def QT4:List TypeInfo:=lkQ (((Tryz.progTables.types.toList.drop 240).take 60).map yR)
def QT5:List TypeInfo:=lkQ ((Tryz.progTables.types.toList.drop 300).map yR)
def QTT:Array TypeInfo:=lkT (QT0++QT1++QT2++QT3++QT4++QT5).toArray
def QP:Program:={ (default:Program)with types:=QTT }
end
end Go.Proofs.YtnfiilgdjpdlkaaGreatDoor
namespace Go.Lft
open Go
section
variable {po:OP} {pp:PP}
def sat {α:Type} (o:Option α) (K:α->Prop):Prop:=∃v,o=RJ v/\K v
variable{α:Type}
@[simp] theorem km{v:α}{K:α->Prop}:sat (RJ v) K=K v:=by simp[sat]
@[simp] theorem Mh{K:α->Prop}:sat RK K=False:=by simp[sat]
@[congr] theorem LR{o o':Option α}{K:α->Prop}(h:o=o'):sat o K=sat o' K:=by rw[h]
def nU (o:Option Value) (A B:Prop):Prop:=∃b,o=RJ (.bool b)/\(b=RN->A)/\(b=RO->B)
@[simp] theorem sP{A B:Prop}:nU (RJ (.bool RN)) A B=A:=by simp[nU]
@[simp] theorem qF{A B:Prop}:nU (RJ (.bool RO)) A B=B:=by simp[nU]
@[simp] theorem mw{A B p:Prop}[Decidable p]:nU (RJ (.bool (decide p))) A B=((p->A)/\(¬p->B)):=by simp[nU]
variable{b:Bool}
@[simp] theorem LU{A B:Prop}:nU (RJ (.bool (!b))) A B=nU (RJ (.bool b)) B A:=by cases b<;>simp[nU]
@[congr] theorem Kk{o o':Option Value}{A B:Prop}(h:o=o'):nU o A B=nU o' A B:=by rw[h]
theorem kS{A B:Prop}:nU (RJ (.bool b)) A B=((b=RN->A)/\(b=RO->B)):=by simp[nU]
section
variable {P:Program} {Q:Post} {ρ:Env} {h:Heap}
@[congr] theorem Mc{x:LC}{ρ':Env}{h':Heap}(hρ:ρ=ρ')(hh:h=h'):LC.wp P x Q ρ h=LC.wp P x Q ρ' h':=by rw[hρ,hh]
@[congr] theorem Ki{m:Option View}{r:Reg}{Q:Env->Heap->Prop}{ρ':Env}{h':Heap}(hρ:ρ=ρ')(hh:h=h'):eW P m r Q ρ h=eW P m r Q ρ' h':=by rw[hρ,hh]
@[simp] theorem tO:LC.wp P .skip Q ρ h=Q .normal ρ h:=rfl
@[simp] theorem Na:LC.wp P .ret Q ρ h=Q .ret ρ h:=rfl
@[simp] theorem sY{i:Nat}:LC.wp P (.exit i) Q ρ h=Q (.exit i) ρ h:=rfl
@[simp] theorem pF{x y:LC}:LC.wp P (.seq x y) Q ρ h=x.wp P (eU (y.wp P Q) Q) ρ h:=rfl
@[simp] theorem aU{i:Nat}{x:LC}:LC.wp P (.block i x) Q ρ h=x.wp P (fe i Q) ρ h:=rfl
@[simp] theorem kF{r:Reg}:LC.wp P (.reg RO r) Q ρ h=eW P RK r (Q .normal) ρ h:=rfl
variable{kill:List Nat}
@[simp] theorem lI{c:E}{x y:LC}:LC.wp P (.cond c kill x y) Q ρ h=nU (ev (look ρ) (vw h) c) (x.wp P Q (bY ρ kill) h) (y.wp P Q (bY ρ kill) h):=rfl
theorem gY{x:LC}(ks:List Nat)(I:Nat->Env->Heap->Prop)(n:Nat)(h0:I n (bF ks ρ) h)(hr : ∀n ρ h,I n ρ h->∀K:Env->Heap->Prop,(∀m ρ' h',m<n->I m (bF ks ρ') h'->K ρ' h')->x.wp P (eU K Q) ρ h):LC.wp P (.loop x) Q ρ h:=
 ⟨ks,I,⟨n,h0⟩,λn ρ h hI=>hr n ρ h hI (λρ' h'=>∃m,m<n/\I m (bF ks ρ') h') λm _ _ hlt hI'=>⟨m,hlt,hI'⟩⟩
@[simp] theorem L7:bF [] ρ=[]:=rfl
variable{sets:List (Nat × E)}
@[simp] theorem jX{m:Option View}{Q:Env->Heap->Prop}{chk:List E}:
  eW P m (.fin kill sets chk) Q ρ h=sat (evP (look ρ) (part m h) sets) λvs=>okE (look ρ) (part m h) chk/\Q (dx (bY ρ kill) vs) h:=rfl
@[simp] theorem iu:part RK h=vw h:=rfl
variable{H:View}
@[simp] theorem mN:part (RJ H) h=H:=rfl
@[simp] theorem KE{S:View->View->Prop}:pI S RK h=True:=by simp[pI]
@[simp] theorem KH{S:View->View->Prop}:pI S (RJ H) h=S H (vw h):=by simp[pI]
@[simp] theorem KQ:keeps RK h=True:=by simp[keeps]
@[simp] theorem Lp:keeps (RJ H) h=H.le (vw h):=by simp[keeps]
attribute [simp] setE dx putE kN
@[simp] theorem MN{v:Value}:pack [v]=v:=rfl
@[simp] theorem Me{v u:Value}:pack [v,u] = .tuple #[v,u]:=rfl
@[simp] theorem K0{v u x:Value}:pack [v,u,x] = .tuple #[v,u,x]:=rfl
@[simp] theorem LS:pack [] = .tuple #[]:=rfl
@[simp] theorem MI{t:Nat}:look [] t=none:=rfl
@[simp] theorem uI{k t:Nat}{v:Value}:look ((k,v)::ρ) t=if k=t then RJ v else look ρ t:=rfl
@[simp] theorem fQ{K:Env->Heap->Prop}:eU K Q .normal ρ h=K ρ h:=rfl
@[simp] theorem L2{K:Env->Heap->Prop}:eU K Q .ret ρ h=Q .ret ρ h:=rfl
@[simp] theorem oX{K:Env->Heap->Prop}{i:Nat}:eU K Q (.exit i) ρ h=Q (.exit i) ρ h:=rfl
@[simp] theorem Ju{i:Nat}:fe i Q .normal ρ h=Q .normal ρ h:=rfl
@[simp] theorem LY{i:Nat}:fe i Q .ret ρ h=Q .ret ρ h:=rfl
@[simp] theorem oU{i k:Nat}:fe i Q (.exit k) ρ h=if k=i then Q .normal ρ h else Q (.exit k) ρ h:=rfl
@[simp] theorem Ln{es:List E}{R:Value->Heap->Prop}:cO es R .ret ρ h=sat (evs (look ρ) (vw h) es) λvs=>R (pack vs) h:=rfl
@[simp] theorem IA{es:List E}{R:Value->Heap->Prop}:cO es R .normal ρ h=sat (evs (look ρ) (vw h) es) λvs=>R (pack vs) h:=rfl
@[simp] theorem nZ{σ:Nat->Option Value}:evP σ H []=RJ []:=rfl
@[simp] theorem lF{σ:Nat->Option Value}{t:Nat}{e:E}{l:List (Nat × E)}:evP σ H ((t,e)::l)=(ev σ H e).bind λv=>(evP σ H l).bind λvs=>RJ ((t,v)::vs):=by simp only[evP];cases ev σ H e<;>cases evP σ H l<;>rfl
@[simp] theorem MZ{σ:Nat->Option Value}:evs σ H []=RJ []:=rfl
@[simp] theorem Mi{σ:Nat->Option Value}{e:E}{l:List E}:evs σ H (e::l)=(ev σ H e).bind λv=>(evs σ H l).bind λvs=>RJ (v::vs):=by simp only[evs];cases ev σ H e<;>cases evs σ H l<;>rfl
@[simp] theorem nS{σ:Nat->Option Value}:okE σ H []=True:=rfl
@[simp] theorem MG{σ:Nat->Option Value}{e:E}{l:List E}:okE σ H (e::l)=(sat (ev σ H e) λ_=>okE σ H l):=by simp only[okE,sat];exact propext ⟨λ⟨⟨v,hv⟩,h⟩=>⟨v,hv,h⟩,λ⟨v,hv,h⟩=>⟨⟨v,hv⟩,h⟩⟩
@[simp] theorem EX{ts:List Nat}:bY [] ts=[]:=rfl
@[simp] theorem mQ{k:Nat}{v:Value}{ts:List Nat}:bY ((k,v)::ρ) ts=if ts.contains k then bY ρ ts else(k,v)::bY ρ ts:=by simp only[bY,QM];split<;>split<;>simp_all
theorem ff{x:LC}(M:Env->Heap->Prop){N:Env->Heap->Prop}(h1 : ∀K:Env->Heap->Prop,(∀ρ h,M ρ h->K ρ h)->x.wp P (eU K Q) ρ h)(h2 : ∀ρ h,M ρ h->N ρ h):LC.wp P x (eU N Q) ρ h:=
 Hx (λe ρ h hq=>by cases e<;>first | exact h2 _ _ hq | exact hq) (h1 M λ_ _ h=>h)
theorem yC{chk:List E}{vs:List (Nat × Value)}(h1:evP (look ρ) (vw h) sets=RJ vs)(h2:okE (look ρ) (vw h) chk)(h3:Q .normal (dx (bY ρ kill) vs) h):
  LC.wp P (.reg RN (.fin kill sets chk)) Q ρ h:=⟨vw h,View.ym (View.le_refl _),vs,h1,h2,h3⟩
@[simp] theorem HR{chk:List E}:LC.wp P (.reg RN (.fin kill sets chk)) Q ρ h=sat (evP (look ρ) (vw h) sets) λvs=>okE (look ρ) (vw h) chk/\Q .normal (dx (bY ρ kill) vs) h:=by
 refine propext ⟨?_,λ⟨vs,h1,h2,h3⟩=>yC h1 h2 h3⟩;rintro⟨H,hH,vs,h1,h2,h3⟩;have e1 : ∀{l:List (Nat × E)} {vs},evP (look ρ) H l=RJ vs->evP (look ρ) (vw h) l=RJ vs:=by
  intro l;induction l with
  | nil=>intro vs h;exact h
  | cons p l ih=>
   intro vs h;obtain⟨t,e⟩:=p;simp only[evP]at h ⊢;split at h
   ·rename_i v vs' hv hvs;simp only[gJ hH hv,ih hvs];exact h
   cases h
 have e2 : ∀{l:List E},okE (look ρ) H l->okE (look ρ) (vw h) l:=by
  intro l;induction l with
  | nil=>intro h;exact h
  | cons e l ih=>intro ⟨⟨v,hv⟩,h⟩;exact⟨⟨v,gJ hH hv⟩,ih h⟩
 exact⟨vs,e1 h1,e2 h2,h3⟩
variable{args:List Value}
theorem ao{P:Program}{f:FuncId}{fn:Func}{L:LFn}{h:Heap}{R:Value->Heap->Prop}(hm:P.follows .mixedOrders=RN)(hf:P.funcs[f]? = RJ fn)(hL:aL P fn=RJ L)(hn:args.length<=fn.ntmps)(hw : ∀K:Value->Heap->Prop,(∀v h',R v h'->K v h')->@LC.wp noPP P L.body (cO L.res K) (kN 0 args) h)(hpl:L.body.plain=true:=by kernel_rfl):az P f args.toArray h R:=
 yG hm hf hL hn hpl (hw R λ_ _ h=>h)
theorem iT{P:Program}{f:FuncId}{fn:Func}{L:LFn}{h:Heap}{R:Value->Heap->Prop}{Rp:List PanicEntry->Heap->Prop}(hm:P.follows .mixedOrders=RN)(hf:P.funcs[f]? = RJ fn)(hL:aL P fn=RJ L)(hn:args.length<=fn.ntmps)(hw : ∀(K:Value->Heap->Prop) (Kp:List PanicEntry->Heap->Prop),(∀v h',R v h'->K v h')->(∀ch h',Rp ch h'->Kp ch h')->@LC.wp (ppOf Kp) P L.body (cO L.res K) (kN 0 args) h)(hpl:L.body.plain=true:=by kernel_rfl):ji P f args.toArray h R Rp:=
 xq hm hf hL hn hpl (hw R Rp (λ_ _ h=>h) λ_ _ h=>h)
theorem CA{P:Program}{f:FuncId}{fn:Func}{L:LFn}{h:Heap}{R:Value->Heap->Prop}(hm:P.follows .mixedOrders=RN)(hf:P.funcs[f]? = RJ fn)(hL:aL P fn=RJ L)(hn:args.length<=fn.ntmps)(hw : ∀K:Value->Heap->Prop,(∀v h',R v h'->K v h')->@LC.wp noPP P L.body (Ed h.size L.res K) (kN 0 args) h):az P f args.toArray h R:=
 ye hm hf hL hn (hw R λ_ _ h=>h)
section
variable {σ:Nat->Option Value} {H:View} {x y c:E} {v:Value} {a b:Int} {k:IntKind}
@[simp] theorem lT{t:Nat}:ev σ H (.tmp t)=σ t:=rfl
@[simp] theorem Ab:ev σ H (.con v)=RJ v:=rfl
@[simp] theorem MO{o:Un}:ev σ H (.un o x)=(ev σ H x).bind (o.ev H):=by simp only[ev];cases ev σ H x<;>rfl
@[simp] theorem mL{o:Bn}:ev σ H (.bin o x y)=(ev σ H x).bind λv=>(ev σ H y).bind (o.ev v):=by simp only[ev];cases ev σ H x<;>cases ev σ H y<;>rfl
@[simp] theorem Mg(c:Prop)[Decidable c](x y:Bool):(if c then RJ (Value.bool x) else RJ (Value.bool y))=RJ (.bool (if c then x else y)):=by split<;>rfl
@[simp] theorem LQ:ev σ H (.ite c x y)=(ev σ H c).bind λu=>(vB u).bind λb=>if b then ev σ H x else ev σ H y:=by
 simp only[ev];cases ev σ H c with
 | none=>rfl
 | some u=>
  cases u<;>try rfl
  rename_i b;cases b<;>rfl
def gdv (b:Bool):Value->Value->Value
 | .bool d,v=>if d=b then v else undef
 | _,_=>undef
def gdO (b:Bool):Value->Option Value->Option Value
 | .bool d,o=>if d=b then o else RJ undef
 | _,_=>RJ undef
@[simp] theorem Mn{b:Bool}:ev σ H (.gd c b x)=(ev σ H c).bind λu=>gdO b u (ev σ H x):=by
 simp only[ev];cases hc:ev σ H c with
 | none=>rfl
 | some u=>
  cases u<;>try rfl
  rename_i d;cases d<;>cases b<;>rfl
@[simp] theorem MH{b:Bool}{u v:Value}:gdO b u (RJ v)=RJ (gdv b u v):=by cases u<;>simp only[gdO,gdv];split<;>rfl
@[simp] theorem Nj{b:Bool}{o:Option Value}:gdO b (.bool b) o=o:=by simp[gdO]
@[simp] theorem NA{o:Option Value}:gdO RN (.bool RO) o=RJ undef:=rfl
@[simp] theorem Ns{o:Option Value}:gdO RO (.bool RN) o=RJ undef:=rfl
@[simp] theorem NH{b:Bool}{v:Value}:gdv b (.bool b) v=v:=by simp[gdv]
@[simp] theorem Nd{v:Value}:gdv RN (.bool RO) v=undef:=rfl
@[simp] theorem Nu{v:Value}:gdv RO (.bool RN) v=undef:=rfl
@[simp] theorem Np{p:Option Addr}{n m:Nat}:Un.ev H .len (.slice p n m)=RJ (RG RH n):=rfl
@[simp] theorem Ng{b:Bool}:Un.ev H .not (.bool b)=RJ (.bool (!b)):=rfl
@[simp] theorem MV{b:Bool}:vB (.bool b)=RJ b:=rfl
@[simp] theorem NI:vI (.int k a)=RJ (k,a):=rfl
@[simp] theorem Nn{f:IntKind->Int->Int->Option Value}:i2 (.int k a) (.int k b) f=f k a b:=by simp[i2]
@[simp] theorem Gt:Bn.ev (.cmp .lss) (.int k a) (.int k b)=RJ (.bool (decide (a<b))):=by simp[Bn.ev,cmpI]
@[simp] theorem Nf:Bn.ev (.cmp .leq) (.int k a) (.int k b)=RJ (.bool (decide (a<=b))):=by simp[Bn.ev,cmpI]
@[simp] theorem NG:Bn.ev (.cmp .gtr) (.int k a) (.int k b)=RJ (.bool (decide (b<a))):=by simp[Bn.ev,cmpI]
@[simp] theorem Nh:Bn.ev (.cmp .geq) (.int k a) (.int k b)=RJ (.bool (decide (b<=a))):=by simp[Bn.ev,cmpI]
@[simp] theorem Nv:Bn.ev (.cmp .eql) (.int k a) (.int k b)=RJ (.bool (decide (a=b))):=by simp[Bn.ev,cmpI];rfl
@[simp] theorem Ni:Bn.ev (.cmp .neq) (.int k a) (.int k b)=RJ (.bool (!decide (a=b))):=by simp[Bn.ev,cmpI];rfl
@[simp] theorem AP:Bn.ev (.arith .add) (.int k a) (.int k b)=RJ (.int k (k.wrap (a+b))):=by simp[Bn.ev,xC]
@[simp] theorem NB:Bn.ev (.arith .sub) (.int k a) (.int k b)=RJ (.int k (k.wrap (a-b))):=by simp[Bn.ev,xC]
@[simp] theorem Nk(h:b≠0):Bn.ev (.div .rem) (.int k a) (.int k b)=RJ (.int k (a.tmod b)):=by simp[Bn.ev,divI,h]
@[simp] theorem NC(h:b≠0):Bn.ev (.div .quo) (.int k a) (.int k b)=RJ (.int k (k.wrap (a.tdiv b))):=by simp[Bn.ev,divI,h]
@[simp] theorem KY:Bn.ev .min (.int k a) (.int k b)=RJ (.int k (if b<a then b else a)):=by simp[Bn.ev]
@[simp] theorem Nw:Bn.ev .max (.int k a) (.int k b)=RJ (.int k (if a<b then b else a)):=by simp[Bn.ev]
@[simp] theorem Nt{n:Bool}{p q:Bool}:Bn.ev (.eqB n) (.bool p) (.bool q)=RJ (.bool ((p == q) != n)):=rfl
@[simp] theorem NF:Bn.ev (.arith .mul) (.int k a) (.int k b)=RJ (.int k (k.wrap (a*b))):=by simp[Bn.ev,xC]
end
end
end
def View.fJ (H:View):View:=λb=>match H b with
 | some (.cells c T fz)=>RJ (.cells c T fz)
 | _=>RK
variable{H:View}
theorem View.BP{b:Nat}{c:Array Value}{T:TypeId}{fz:Nat × Nat}(h:H b=RJ (.cells c T fz)):H.fJ b=RJ (.cells c T fz):=by unfold View.fJ;rw[h]
theorem View.Iz:H.fJ.le H:=λb o h=>by
 unfold View.fJ at h;split at h
 ·rename_i e;rw[e];exact h
 cases h
class Rep (α:Type) where
 n:Nat
 agg:Bool
 rd:View->List Value->α->Prop
 mono : ∀{H K:View} {cs:List Value} {d:α},H.le K->rd H cs d->rd K cs d
 len : ∀{H:View} {cs:List Value} {d:α},rd H cs d->cs.length=n
 one:agg=RO->n=1
 flat : ∀{H:View} {cs:List Value} {d:α},rd H cs d->∀u∈cs,u.oneCell'=RN
 pos:0<n
 fJ : ∀{H:View} {cs:List Value} {d:α},rd H cs d->rd H.fJ cs d
def Rd {α:Type} [Rep α] (H:View) (v:Value) (d:α):Prop:=
 if Rep.agg α then ∃cs:Array Value,v = .agg cs/\Rep.rd H cs.toList d else Rep.rd H [v] d
def jf (H:View) (a:Addr) (cs:List Value):Prop:=
 ∃(c:Array Value) (T:TypeId) (fz:Nat × Nat),a.spot=RK/\H a.block=RJ (.cells c T fz)/\(c.toList.drop a.off).take cs.length=cs
def At {α:Type} [Rep α] (H:View) (a:Addr) (d:α):Prop:=∃cs,jf H a cs/\Rep.rd H cs d
variable{K:View}
theorem AL(hk:H.le K){a:Addr}{cs:List Value}(h:jf H a cs):jf K a cs:=
 let ⟨c,T,fz,h1,h2,h3⟩:=h
 ⟨c,T,fz,h1,hk _ _ h2,h3⟩
theorem At.mono {α:Type} [Rep α] {H K:View} (hk:H.le K) {a:Addr} {d:α} (h:At H a d):At K a d:=
 let ⟨cs,h1,h2⟩:=h
 ⟨cs,AL hk h1,Rep.mono hk h2⟩
theorem At.fJ {α:Type} [Rep α] {H:View} {a:Addr} {d:α} (h:At H a d):At H.fJ a d:=by obtain⟨cs,⟨c,T,fz,h1,h2,h3⟩,h4⟩:=h;exact⟨cs,⟨c,T,fz,h1,View.BP h2,h3⟩,Rep.fJ h4⟩
theorem Rd.fJ {α:Type} [Rep α] {H:View} {v:Value} {d:α} (h:Rd H v d):Rd H.fJ v d:=by
 unfold Rd at *;split
 ·rename_i ha;rw[if_pos ha]at h;obtain⟨cs,h1,h2⟩:=h;exact⟨cs,h1,Rep.fJ h2⟩
 rename_i ha;rw[if_neg ha]at h;exact Rep.fJ h
theorem Rd.mono {α:Type} [Rep α] {H K:View} (hk:H.le K) {v:Value} {d:α} (h:Rd H v d):Rd K v d:=by
 unfold Rd at *;split
 ·rename_i ha;rw[if_pos ha]at h;obtain⟨cs,h1,h2⟩:=h;exact⟨cs,h1,Rep.mono hk h2⟩
 rename_i ha;rw[if_neg ha]at h;exact Rep.mono hk h
theorem bR{a:Addr}(h:a.spot=RK)(n:Nat):a.add n=⟨a.block,a.off+n,RK⟩:=by obtain⟨b,o,s⟩:=a;simp only at h;subst h;unfold Addr.add;split<;>simp_all
theorem gq{a:Addr}{cs:List Value}(h:jf H a cs){i:Nat}{v:Value}(hv:cs[i]? = RJ v):an H (a.add i)=RJ v:=by
 obtain⟨c,T,fz,hs,hb,he⟩:=h;rw[bR hs];simp only[an,hb];have hi:i<cs.length:=by
  rcases NQ i cs.length with h | h
  ·exact h
  simp[ON h]at hv
 rw[<-he]at hv;simp only[Pq,hi,if_true,PX]at hv;simpa using hv
theorem Aj{a:Addr}{v:Value}(h:jf H a [v]):an H a=RJ v:=by have:=gq h (i:=0) (v:=v) rfl;simpa[Addr.add]using this
theorem gj {H:View} {a:Addr} {cs:List Value} (h:jf H a cs) : ∀(m i:Nat) (acc:Array Value),i+m=cs.length->ee H a i m acc=RJ (acc++(cs.drop i).toArray)
 | 0,i,acc,hi=>by
  have:cs.drop i=[]:=by simp;omega
  simp[ee,this]
 | m+1,i,acc,hi=>by
  have hlt:i<cs.length:=by omega
  have e:cs[i]? = RJ cs[i]:=OI hlt;simp only[ee,gq h e];rw[gj h m (i+1) _ R3];rw[OG hlt];simp
theorem AZ{a:Addr}{cs:List Value}(h:jf H a cs)(o m:Nat)(hm:o+m<=cs.length):jf H (a.add o) ((cs.drop o).take m):=by
 obtain⟨c,T,fz,hs,hb,he⟩:=h;rw[bR hs];refine⟨c,T,fz,rfl,hb,?_⟩;have hl:((cs.drop o).take m).length=m:=by simp;omega
 rw[hl];have e1:(cs.drop o).take m=(((c.toList.drop a.off).take cs.length).drop o).take m:=by rw[he]
 rw[e1,Pw,Px,PR];congr 1;omega
variable{α:Type}
theorem At.load[Rep α]{a:Addr}{d:α}(h:At H a d)(ha:Rep.agg α=RO): ∃v,an H a=RJ v/\Rd H v d:=by
 obtain⟨cs,h1,h2⟩:=h;have hl:=Rep.len h2;rw[Rep.one ha]at hl;match cs,hl with
 | [v],_=>exact⟨v,Aj h1,by unfold Rd;rw[if_neg (by simp[ha])];exact h2⟩
theorem At.aZ {α:Type} [Rep α] {H:View} {a:Addr} {d:α} (h:At H a d) (ha:Rep.agg α=RN) : ∃v,Un.ev H (.aZ (Rep.n α)) (RM (RJ a))=RJ v/\Rd H v d:=by
 obtain⟨cs,h1,h2⟩:=h;have hl:=Rep.len h2;refine⟨.agg cs.toArray,?_,?_⟩
 ·have:=gj h1 cs.length 0 #[] R3;rw[hl]at this;simp[Un.ev,vP,this]
 unfold Rd;rw[if_pos ha];exact⟨_,rfl,by simpa using h2⟩
instance:Rep Int where
 n:=1
 agg:=false
 rd:=λ_ cs d=>cs=[RG RH d]/\-9223372036854775808<=d/\d<=9223372036854775807
 mono:=λ_ h=>h
 len:=λh=>by rw[h.1];rfl
 one:=λ_=>rfl
 flat:=λh u hu=>by rw[h.1]at hu;simp at hu;subst hu;rfl
 pos:=QQ
 fJ:=λh=>h
structure I32 where
 v:Int
 deriving DecidableEq,Inhabited
instance:Rep I32 where
 n:=1
 agg:=false
 rd:=λ_ cs d=>cs=[RG RI d.v]/\-2147483648<=d.v/\d.v<=2147483647
 mono:=λ_ h=>h
 len:=λh=>by rw[h.1];rfl
 one:=λ_=>rfl
 flat:=λh u hu=>by rw[h.1]at hu;simp at hu;subst hu;rfl
 pos:=QQ
 fJ:=λh=>h
instance:Rep Bool where
 n:=1
 agg:=false
 rd:=λ_ cs d=>cs=[.bool d]
 mono:=λ_ h=>h
 len:=λh=>by rw[h];rfl
 one:=λ_=>rfl
 flat:=λh u hu=>by rw[h]at hu;simp at hu;subst hu;rfl
 pos:=QQ
 fJ:=λh=>h
theorem bg{v:Value}{d:Int}:Rd H v d↔v = RG RH d/\-9223372036854775808<=d/\d<=9223372036854775807:=by simp[Rd,Rep.agg,Rep.rd]
theorem uo{v:Value}{d:I32}:Rd H v d↔v = RG RI d.v/\-2147483648<=d.v/\d.v<=2147483647:=by simp[Rd,Rep.agg,Rep.rd]
theorem wQ{v:Value}{d:Bool}:Rd H v d↔v = .bool d:=by simp[Rd,Rep.agg,Rep.rd]
def SlRd {α:Type} [Rep α] (H:View) (v:Value) (l:List α):Prop:=
 ∃a cap,v = .slice a l.length cap/\l.length<=cap/\l.length<=140737488355328/\
  (l=[]\/∃ad,a=RJ ad/\ad.spot=RK/\∀(i:Nat) (hi:i<l.length),At H (ad.add (i*Rep.n α)) l[i])
instance {α:Type} [Rep α]:Rep (List α) where
 n:=1
 agg:=false
 rd:=λH cs l=>∃v,cs=[v]/\SlRd H v l
 mono:=λhk h=>by
  obtain⟨v,h1,a,cap,h2,h3,h4,h5⟩:=h
  refine⟨v,h1,a,cap,h2,h3,h4,?_⟩
  rcases h5 with h5 | ⟨ad,h6,h7,h8⟩
  ·exact .inl h5
  ·exact .inr ⟨ad,h6,h7,λi hi=>(h8 i hi).mono hk⟩
 len:=λ⟨v,h,_⟩=>by rw[h];rfl
 one:=λ_=>rfl
 flat:=λ⟨v,h,a,cap,h2,_⟩ u hu=>by rw[h]at hu;simp at hu;subst hu;rw[h2];rfl
 pos:=QQ
 fJ:=λh=>by
  obtain⟨v,h1,a,cap,h2,h3,h4,h5⟩:=h
  refine⟨v,h1,a,cap,h2,h3,h4,?_⟩
  rcases h5 with h5 | ⟨ad,h6,h7,h8⟩
  ·exact .inl h5
  ·exact .inr ⟨ad,h6,h7,λi hi=>(h8 i hi).fJ⟩
theorem eG[Rep α]{v:Value}{l:List α}:Rd H v l↔SlRd H v l:=by simp[Rd,Rep.agg,Rep.rd]
def slA:Value->Addr
 | RL (RJ a) _ _=>a
 | _=>default
section
variable {α:Type} [Rep α] {H:View} {v:Value} {l:List α}
theorem SlRd.len (h:SlRd H v l) {K:View}:Un.ev K .len v=RJ (RG RH l.length):=by obtain⟨a,cap,rfl,_⟩:=h;rfl
theorem SlRd.bound(h:SlRd H v l):l.length<=140737488355328:=by obtain⟨a,cap,_,_,h,_⟩:=h;exact h
theorem SlRd.idx (h:SlRd H v l) {k:IntKind} {i:Int} (h0:0<=i) (h1:i<l.length):Bn.ev (.idx (Rep.n α)) v (.int k i)=RJ (RM (RJ ((slA v).add (i.toNat*Rep.n α)))):=by
 obtain⟨a,cap,rfl,_,_,h⟩:=h;rcases h with rfl | ⟨ad,rfl,_,_⟩
 ·simp at h1;omega
 simp[Bn.ev,vL,vI,slA,h0,h1]
theorem SlRd.idx1(h:SlRd H v l)(hn:Rep.n α=1){k:IntKind}{i:Int}(h0:0<=i)(h1:i<l.length):Bn.ev (.idx 1) v (.int k i)=RJ (RM (RJ ((slA v).add i.toNat))):=by have:=h.idx (k:=k) h0 h1;rw[hn,OR]at this;exact this
theorem SlRd.at (h:SlRd H v l) {i:Nat} (hi:i<l.length):At H ((slA v).add (i*Rep.n α)) l[i]:=by
 obtain⟨a,cap,rfl,_,_,h⟩:=h;rcases h with rfl | ⟨ad,rfl,_,h⟩
 ·simp at hi
 exact h i hi
theorem SlRd.mono (h:SlRd H v l) {K:View} (hk:H.le K):SlRd K v l:=eG.1 (Rd.mono hk (eG.2 h))
end
theorem SlRd.take {α:Type} [Rep α] {H:View} {v:Value} {l:List α} (h:SlRd H v l) {n:Nat} (hn:n<=l.length) {kd:IntKind} : ∃u,Bn.ev .hi v (.int kd n)=RJ u/\SlRd H u (l.take n):=by
 obtain⟨a,cap,rfl,h1,h2,h3⟩:=h;refine⟨.slice a n cap,by simp[Bn.ev,vL,vI];omega,a,cap,?_,?_,?_,?_⟩
 ·rw[OT,Pz hn]
 ·rw[OT];omega
 ·rw[OT];omega
 rcases h3 with rfl | ⟨ad,rfl,hs,hat⟩
 ·left;simp
 refine .inr ⟨ad,rfl,hs,λi hi=>?_⟩;rw[OT]at hi;rw[List.getElem_take];exact hat i R3
def nth {α:Type} [Inhabited α] (l:List α) (i:Nat):α:=l.getD i default
theorem aA[Inhabited α]{l:List α}{i:Nat}(h:i<l.length):nth l i=l[i]:=by simp[nth,h]
theorem dp[Inhabited α]{l:List α}{i:Nat}(h:l.length<=i):nth l i=default:=by simp[nth,h]
theorem bz[Inhabited α]{l:List α}{i:Nat}(h:i<l.length):nth l i∈l:=by rw[aA h];exact O5 h
theorem yN[Inhabited α]{a b:List α}(hl:a.length=b.length)(h : ∀j,j<a.length->nth a j=nth b j):a=b:=by refine Ps hl λi h1 h2=>?_;have:=h i h1;rwa [aA h1,aA h2]at this
theorem SlRd.int {H K:View} {v:Value} {l:List Int} (h:SlRd H v l) (hk:H.le K) {i:Nat} (hi:i<l.length):an K ((slA v).add i)=RJ (RG RH (nth l i)):=by obtain⟨u,h1,h2⟩:=((h.at hi).mono hk).load rfl;rw[bg]at h2;rw[h2.1,show i*Rep.n Int=i from OR i]at h1;rw[aA hi];exact h1
theorem SlRd.bool {H K:View} {v:Value} {l:List Bool} (h:SlRd H v l) (hk:H.le K) {i:Nat} (hi:i<l.length):an K ((slA v).add i)=RJ (.bool (nth l i)):=by obtain⟨u,h1,h2⟩:=((h.at hi).mono hk).load rfl;rw[wQ]at h2;rw[h2,show i*Rep.n Bool=i from OR i]at h1;rw[aA hi];exact h1
theorem SlRd.range{v:Value}{l:List Int}(h:SlRd H v l){i:Nat}(hi:i<l.length):-9223372036854775808<=nth l i/\nth l i<=9223372036854775807:=by obtain⟨u,h1,h2⟩:=(h.at hi).load rfl;rw[bg]at h2;rw[aA hi];exact h2.2
theorem SlRd.rows[Rep α]{v:Value}{g:List (List α)}(h:SlRd H v g): ∃rv:Nat->Value,∀i,i<g.length->(∀K:View,H.le K->an K ((slA v).add i)=RJ (rv i))/\SlRd H (rv i) (nth g i):=by
 have key : ∀i,∃u,i<g.length->(∀K:View,H.le K->an K ((slA v).add i)=RJ u)/\SlRd H u (nth g i):=by
  intro i;by_cases hi:i<g.length
  ·obtain⟨u,h1,h2⟩:=(h.at hi).load rfl;rw[show i*Rep.n (List α)=i from OR i]at h1;refine⟨u,λ_=>⟨λK hk=>ae hk h1,?_⟩⟩;rw[aA hi];exact eG.1 h2
  exact⟨undef,λh=>absurd h hi⟩
 exact⟨λi=>(key i).choose,λi=>(key i).choose_spec⟩
@[simp] theorem M3{a:Addr}:Un.ev H .load (RM (RJ a))=an H a:=rfl
@[simp] theorem bh{a:Int}(h0:-9223372036854775808<=a)(h1:a<=9223372036854775807):IntKind.i64.wrap a=a:=IntWalk.i64_in _ R3
end Go.Lft
namespace Go
theorem RC{p:Prop}(h:p:=by repeat (first | exact Lft.View.le_refl _ | assumption | refine Lft.View.le_trans ?_ (by assumption))):p:=h
theorem RD{H:Lft.View}:H.le H:=Lft.View.le_refl H
theorem RE{H K L:Lft.View}(a:H.le K)(b:K.le L):H.le L:=Lft.View.le_trans a b
end Go
