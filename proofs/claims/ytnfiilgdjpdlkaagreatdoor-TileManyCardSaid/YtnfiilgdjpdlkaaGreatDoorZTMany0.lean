/- A part of the proof: LftE, LftS, LftT, LftB, LftR, LftD, LftC, LftW, LftV, LftX. -/
import Derived.WalkKit
import Derived.CallsIn
import Derived.OrdersIn
import Derived.OwnWalkIn
import Derived.RangeFuncIn
import Derived.RangeFuncRecord
import Derived.RangeFuncLeaves
import Derived.KernelRfl
import Derived.ChangeKeysEq
import Derived.MapKept
import Derived.RecoverIn
import Derived.Test.YtnfiilgdjpdlkaaGreatDoorChecked
import Derived.ProofKit
import Derived.OpenShut
import Derived.HandedShaped
import Derived.LaidMore
import Derived.Test.YtnfiilgdjpdlkaaGreatDoorProg
import Derived.Shelf.Small.Bits
import Derived.Shelf.Small.Wraps
import Derived.Shelf.Strconv.Itoa0
import Derived.Shelf.Sort.Plain
import Derived.Shelf.Slices.Turned
import Derived.Shelf.Slices.Reverse
import Derived.Ground.Names2Prog
import Derived.Shelf.Slices.CompactI
import Derived.Shelf.Slices.SearchI
import Derived.Shelf.Slices.Cells
import Derived.Shelf.Slices.In.SortNone
import Derived.Maps.RangeRun
import Derived.Laws.BytesArg
import Derived.Test.YtnfiilgdjpdlkaaGreatDoorRows
import Derived.Lib.LaidTab
import Derived.Test.YtnfiilgdjpdlkaaGreatDoorCards
import Derived.Test.YtnfiilgdjpdlkaaGreatDoorTie
import Derived.SevenTiedAt
set_option linter.unusedSimpArgs false
set_option linter.unusedVariables false
namespace Go
abbrev o0:=@Option.some.injEq
abbrev Dv:=@Nat.le_of_ble_eq_true
abbrev Dw:=@Option.map_eq_some_iff
abbrev Dx:=@Array.getElem?_eq_some_iff
abbrev Dy:=@Nat.le_refl
abbrev Dz:=@List.mem_cons_self
abbrev DA:=@Nat.lt_or_ge
abbrev DB:=@List.mem_cons_of_mem
abbrev DC:=@Bool.and_eq_true
abbrev DD:=@Option.bind_eq_some_iff
abbrev DE:=@List.mem_append
abbrev DF:=@List.mem_singleton
abbrev DG:=@List.append_assoc
abbrev DH:=@List.take_of_length_le
abbrev DI:=@Int.toNat_of_nonneg
abbrev DJ:=@Array.getElem?_eq_getElem
abbrev DK:=@List.take_succ_eq_append_getElem
abbrev DL:=@List.mem_cons
abbrev DM:=@Array.toList_inj
abbrev DN:=@Int.toNat_natCast
abbrev DO:=@List.getElem_of_mem
abbrev DP:=@Nat.mul_le_mul_right
abbrev DQ:=@Bool.eq_iff_iff
abbrev DR:=@List.eq_nil_of_length_eq_zero
abbrev DS:=@List.foldl_cons
abbrev DT:=@List.length_append
abbrev DU:=@List.drop_eq_getElem_cons
abbrev DV:=@List.length_drop
abbrev DW:=@Nat.le_trans
abbrev DX:=@List.drop_eq_nil_of_le
abbrev DY:=@List.mem_of_getElem?
abbrev DZ:=@List.take_append_of_le_length
abbrev D0:=@Option.bind_some
abbrev D1:=@List.getElem?_eq_none
abbrev D2:=@List.length_replicate
abbrev D3:=@List.all_eq_true
abbrev D7:=@List.nil_append
abbrev D8:=@Array.getElem?_setIfInBounds_ne
abbrev D9:=@Nat.succ_mul
abbrev Ea:=@Nat.mul_one
abbrev Ec:=@List.drop_append_of_le_length
abbrev Ed:=@Bool.or_eq_true
abbrev Ee:=@List.getElem?_eq_getElem
abbrev Ef:=@List.length_take
abbrev Eh:=@List.mem_append_right
abbrev Ei:=@List.mem_append_left
abbrev Ej:=@List.length_set
abbrev Ek:=@List.length_cons
abbrev Em:=@Nat.zero_add
abbrev En:=@Bool.or_eq_false_iff
abbrev Eo:=@List.foldlM_cons
abbrev Ep:=@List.take_length
abbrev Er:=@Bool.false_eq_true
abbrev Es:=@List.getElem?_take
abbrev Et:=@List.map_cons
abbrev Eu:=@List.drop_take
abbrev Ev:=@List.take_take
abbrev Ew:=@Nat.min_eq_left
abbrev Ex:=@List.mem_map
abbrev Ey:=@Prod.mk.injEq
abbrev Ez:=@List.getElem_mem
abbrev EA:=@List.ext_getElem
abbrev EB:=@List.take_append
abbrev EC:=@List.mem_range
abbrev ED:=@Array.getElem?_toList
abbrev EE:=@List.length_singleton
abbrev EF:=@List.append_nil
abbrev EG:=@Array.toArray_toList
abbrev EH:=@List.nodup_append
abbrev EI:=@List.size_toArray
abbrev EJ:=@Array.length_toList
abbrev EK:=@List.drop_drop
abbrev EL:=@List.drop_append
abbrev EM:=@List.prefix_refl
abbrev EN:=@Option.none_or
abbrev EO:=@Array.getElem?_eq_none
abbrev EP:=@List.mem_filter
abbrev ER:=@List.range_succ
abbrev ES:=@List.length_map
abbrev ET:=@Bool.true_and
abbrev EU:=@List.take_append_drop
abbrev EV:=@List.findSome?_append
abbrev EW:=@List.getElem?_map
abbrev EX:=@List.foldl_append
abbrev EY:=@Bool.eq_false_iff
abbrev EZ:=@Nat.add_mul
abbrev E0:=@List.drop_zero
abbrev E1:=@List.getD_eq_getElem?_getD
abbrev E2:=@List.mem_of_find?_eq_some
abbrev E3:=@List.getElem?_eq_some_iff
abbrev E4:=@List.mem_or_eq_of_mem_set
abbrev E5:=@List.take_set_of_le
abbrev E6:=@Array.toList_filter
abbrev E7:=@List.mem_map_of_mem
abbrev E8:=@Array.getElem?_push_size
abbrev E9:=@List.Nodup.idxOf_getElem
abbrev Fa:=@List.map_append
abbrev Fc:=@List.length_nil
abbrev Fe:=@List.zip_cons_cons
abbrev Ff:=@List.getElem?_drop
abbrev Fg:=@Nat.lt_of_lt_of_le
abbrev Fh:=@Nat.eq_zero_or_pos
abbrev Fi:=@Nat.zero_le
abbrev Fj:=@Int.eq_ofNat_of_zero_le
abbrev Fk:=@Array.getElem?_setIfInBounds_self
abbrev Fl:=@List.set_eq_take_append_cons_drop
abbrev Fm:=@List.getElem_drop
abbrev Fp:=@Bool.not_eq_true'
abbrev Fq:=@List.take_zero
abbrev Fs:=@List.getElem_cons_zero
abbrev Ft:=@List.find?_append
abbrev Fu:=@Array.getElem?_append
abbrev Fv:=@List.getElem?_toArray
abbrev Fx:=@Array.getElem?_modify
abbrev Fy:=@Bool.and_eq_false_iff
abbrev Fz:=@List.cons_append
abbrev FA:=@List.filter_cons
abbrev FB:=@List.zipIdx_cons
abbrev FC:=@List.not_mem_nil
abbrev FD:=@List.any_eq_true
abbrev FE:=@Nat.one_pos
abbrev FF:=@List.getElem?_of_mem
abbrev FG:=@List.nodup_cons
abbrev FH:=@Nat.zero_mul
abbrev FI:=@List.idxOf_lt_length_of_mem
abbrev FJ:=@List.take_left
abbrev FK:=@Array.foldl_toList
abbrev FL:=@Array.toList_setIfInBounds
abbrev FM:=@List.filter_append
abbrev FN:=@List.foldlM_append
abbrev FO:=@Array.getElem?_append_left
abbrev FQ:=@List.mem_mergeSort
abbrev FR:=@List.pairwise_cons
abbrev FT:=@Nat.lt_of_le_of_lt
abbrev FU:=@List.getElem?_append_left
abbrev FV:=@Array.mapM_eq_mapM_toList
abbrev FW:=@List.getElem_append_right
abbrev FX:=@Function.comp_def
abbrev FY:=@List.ext_getElem?
abbrev FZ:=@Option.isSome_map
abbrev F0:=@List.filter_congr
abbrev F2:=@List.flatMap_cons
abbrev F3:=@Option.isSome_iff_exists
abbrev F4:=@List.getElem_append_left
abbrev F5:=@Nat.add_sub_cancel_left
abbrev F6:=@Nat.sub_self
abbrev F7:=@List.getElem_replicate
abbrev F8:=@List.range_succ_eq_map
abbrev F9:=@List.nodup_nil
abbrev Gb:=@List.mapM_cons
abbrev Gc:=@Nat.one_mul
abbrev Gd:=@Bool.and_assoc
abbrev Ge:=@Bool.false_and
abbrev Gf:=@Bool.false_or
abbrev Gg:=@Nat.not_lt
end Go
namespace Go.Lft
open Go
abbrev Heap:=Array Obj
abbrev View:=Nat->Option Obj
def vw (h:Heap):View:=fun b=>h[b]?
def View.le (H K:View):Prop:=∀b o,H b=some o->K b=some o
def ag (h:View) (a:Addr):Option Value:=
 match h a.block with
 | some (.cells c _ _)=>if a.spot.isSome then none else c[a.off]?
 | _=>none
def cI (h:View) (a:Addr) (i:Nat):Nat->Array Value->Option (Array Value)
 | 0,acc=>some acc
 | n+1,acc=>match ag h (a.add i)with
  | some v=>cI h a (i+1) n (acc.push v)
  | none=>none
def mapH (h:View) (r:Nat):Option (Array MapEntry × Nat):=
 match h r with
 | some (.map es c)=>some (es,c)
 | _=>none
inductive Un where
 | not
 | neg (k:IntKind)
 | len
 | lenStr
 | lenMap
 | load
 | ak (n:Nat)
 | fld (off:Nat)
 | part (off:Nat)
 | parts (off n:Nat)
 | conv (k:IntKind)
 | ext (i:Nat)
 | nilPtr
 | fn (f:FuncId)
 | build (zero:Array Value) (places:List (Nat × Nat))
 deriving Inhabited
inductive Bn where
 | arith (op:BinOp)
 | cmp (op:BinOp)
 | div (op:BinOp)
 | bits (op:BinOp)
 | eqB (neg:Bool)
 | eqS (neg:Bool)
 | cat
 | idx (sz:Nat)
 | aidx (n sz:Nat)
 | idxA (n sz:Nat) (agg:Bool)
 | idxS
 | min
 | max
 | lo (sz:Nat)
 | hi
 | loS
 | hiS
 deriving Inhabited
inductive E where
 | tmp (t:Nat)
 | con (v:Value)
 | un (o:Un) (x:E)
 | bin (o:Bn) (x y:E)
 | snoc (x y:E)
 | ite (c x y:E)
 | gd (c:E) (b:Bool) (x:E)
 deriving Inhabited
def vB:Value->Option Bool | .bool b=>some b | _=>none
def vI:Value->Option (IntKind × Int) | .int k n=>some (k,n) | _=>none
def vS:Value->Option ByteArray | .string s=>some s | _=>none
def vP:Value->Option Addr | .pointer (some a)=>some a | _=>none
def vL:Value->Option (Option Addr × Nat × Nat) | .slice a n c=>some (a,n,c) | _=>none
def vA:Value->Option (Array Value) | .agg cs=>some cs | _=>none
def vT:Value->Option (Array Value) | .tuple cs=>some cs | _=>none
def vM:Value->Option (Option Nat) | .map r=>some r | _=>none
def Un.ev (h:View) (o:Un) (v:Value):Option Value:=
 match o with
 | .not=>(vB v).map fun b=>.bool (!b)
 | .neg k=>(vI v).bind fun p=>if p.1=k then some (.int k (k.wrap (0-p.2))) else none
 | .len=>(vL v).map fun p=>.int .i64 p.2.1
 | .lenStr=>(vS v).map fun s=>.int .i64 s.size
 | .lenMap=>(vM v).bind fun
  | none=>some (.int .i64 (0:Int))
  | some r=>(mapH h r).map fun p=>.int .i64 p.1.size
 | .load=>(vP v).bind fun a=>ag h a
 | .ak n=>(vP v).bind fun a=>(cI h a 0 n #[]).map .agg
 | .fld off=>(vP v).map fun a=>.pointer (some (a.add off))
 | .part off=>(vA v).bind fun cs=>cs[off]?
 | .parts off n=>(vA v).map fun cs=>.agg (cs.extract off (off+n))
 | .conv k=>(vI v).map fun p=>.int k (k.wrap p.2)
 | .ext i=>(vT v).bind fun vs=>vs[i]?
 | .nilPtr=>(vP v).map fun a=>.pointer (some a)
 | .fn f=>(vT v).map fun vs=>.func (.func f) #[] vs
 | .build zero places=>(vT v).bind fun vs=>(Instr.fill (places[·]?) zero ((List.range vs.size).zip vs.toList)).map .agg
def cmpI:BinOp->Int->Int->Option Bool
 | .eql,x,y=>some (x == y)
 | .neq,x,y=>some (x != y)
 | .lss,x,y=>some (x<y)
 | .leq,x,y=>some (x<=y)
 | .gtr,x,y=>some (x>y)
 | .geq,x,y=>some (x>=y)
 | _,_,_=>none
def oy (k:IntKind):BinOp->Int->Int->Option Int
 | .add,x,y=>some (k.wrap (x+y))
 | .sub,x,y=>some (k.wrap (x-y))
 | .mul,x,y=>some (k.wrap (x*y))
 | _,_,_=>none
def divI (k:IntKind):BinOp->Int->Int->Option Int
 | .quo,x,y=>if y=0 then none else some (k.wrap (x.tdiv y))
 | .rem,x,y=>if y=0 then none else some (x.tmod y)
 | _,_,_=>none
def AM (k:IntKind):BinOp->Int->Int->Option Int
 | .and,x,y=>some (k.wrap ((BitVec.ofInt k.bits x&&& BitVec.ofInt k.bits y).toNat))
 | .or,x,y=>some (k.wrap ((BitVec.ofInt k.bits x||| BitVec.ofInt k.bits y).toNat))
 | .xor,x,y=>some (k.wrap ((BitVec.ofInt k.bits x ^^^ BitVec.ofInt k.bits y).toNat))
 | .andNot,x,y=>some (k.wrap ((BitVec.ofInt k.bits x&&& ~~~BitVec.ofInt k.bits y).toNat))
 | _,_,_=>none
def i2 (v u:Value) (f:IntKind->Int->Int->Option Value):Option Value:=
 (vI v).bind fun p=>(vI u).bind fun q=>if p.1=q.1 then f p.1 p.2 q.2 else none
def Bn.ev (o:Bn) (v u:Value):Option Value:=
 match o with
 | .arith op=>i2 v u fun k a b=>(oy k op a b).map (.int k)
 | .div op=>i2 v u fun k a b=>(divI k op a b).map (.int k)
 | .bits op=>i2 v u fun k a b=>(AM k op a b).map (.int k)
 | .cmp op=>i2 v u fun _ a b=>(cmpI op a b).map .bool
 | .min=>i2 v u fun k a b=>some (.int k (if b<a then b else a))
 | .max=>i2 v u fun k a b=>some (.int k (if a<b then b else a))
 | .eqB neg=>(vB v).bind fun a=>(vB u).map fun b=>.bool ((a == b) != neg)
 | .eqS neg=>(vS v).bind fun a=>(vS u).map fun b=>.bool ((a.toList == b.toList) != neg)
 | .cat=>(vS v).bind fun a=>(vS u).bind fun b=>if a.size+b.size<=9223372036854775807 then some (.string (a++b)) else none
 | .idx sz=>(vL v).bind fun p=>(vI u).bind fun q=>p.1.bind fun a=>if 0<=q.2/\q.2<p.2.1 then some (.pointer (some (a.add (q.2.toNat*sz)))) else none
 | .aidx n sz=>(vP v).bind fun a=>(vI u).bind fun q=>if 0<=q.2/\q.2<n then some (.pointer (some (a.add (q.2.toNat*sz)))) else none
 | .idxA n sz agg=>(vA v).bind fun cs=>(vI u).bind fun q=>if 0<=q.2/\q.2<n then(if agg then some (.agg (cs.extract (q.2.toNat*sz) (q.2.toNat*sz+sz))) else cs[q.2.toNat*sz]?) else none
 | .idxS=>(vS v).bind fun s=>(vI u).bind fun q=>if 0<=q.2 then(s[q.2.toNat]?).map fun b=>.int .u8 b.toNat else none
 | .hi=>(vL v).bind fun p=>(vI u).bind fun q=>if 0<=q.2/\q.2<=p.2.2 then some (.slice p.1 q.2.toNat p.2.2) else none
 | .lo sz=>(vL v).bind fun p=>(vI u).bind fun q=>if 0<=q.2/\q.2<=p.2.1 then some (.slice (if p.2.2=q.2.toNat then p.1 else p.1.map (·.add (q.2.toNat*sz))) (p.2.1-q.2.toNat) (p.2.2-q.2.toNat)) else none
 | .hiS=>(vS v).bind fun s=>(vI u).bind fun q=>if 0<=q.2/\q.2<=s.size then some (.string (s.extract 0 q.2.toNat)) else none
 | .loS=>(vS v).bind fun s=>(vI u).bind fun q=>if 0<=q.2/\q.2<=s.size then some (.string (s.extract q.2.toNat s.size)) else none
def ev (ρ:Nat->Option Value) (h:View):E->Option Value
 | .tmp t=>ρ t
 | .con v=>some v
 | .un o x=>match ev ρ h x with
  | some v=>o.ev h v
  | none=>none
 | .bin o x y=>match ev ρ h x,ev ρ h y with
  | some v,some u=>o.ev v u
  | _,_=>none
 | .snoc x y=>match ev ρ h x,ev ρ h y with
  | some (.tuple vs),some u=>some (.tuple (vs.push u))
  | _,_=>none
 | .ite c x y=>match ev ρ h c with
  | some (.bool true)=>ev ρ h x
  | some (.bool false)=>ev ρ h y
  | _=>none
 | .gd c b x=>match ev ρ h c with
  | some (.bool true)=>if b then ev ρ h x else some undef
  | some (.bool false)=>if b then some undef else ev ρ h x
  | some _=>some undef
  | none=>none
def Un.reads:Un->Bool
 | .load | .ak _ | .lenMap=>true
 | _=>false
def E.reads:E->Bool
 | .tmp _ | .con _=>false
 | .un o x=>o.reads||x.reads
 | .bin _ x y | .snoc x y=>x.reads||y.reads
 | .ite c x y=>c.reads||x.reads||y.reads
 | .gd c _ x=>c.reads||x.reads
theorem Un.eF{o:Un}(ho:o.reads=false)(h h':View)(v:Value):o.ev h v=o.ev h' v:=by cases o<;>simp[Un.reads]at ho<;>rfl
theorem eF {ρ:Nat->Option Value} {h h':View} : ∀{e:E},e.reads=false->ev ρ h e=ev ρ h' e
 | .tmp _,_=>rfl
 | .con _,_=>rfl
 | .un o x,hr=>by
  simp only[E.reads,En]at hr;simp only[ev,eF (h:=h) (h':=h') hr.2];split
  ·exact Un.eF hr.1 _ _ _
  rfl
 | .bin o x y,hr=>by simp only[E.reads,En]at hr;simp only[ev,eF (h:=h) (h':=h') hr.1,eF (h:=h) (h':=h') hr.2]
 | .snoc x y,hr=>by simp only[E.reads,En]at hr;simp only[ev,eF (h:=h) (h':=h') hr.1,eF (h:=h) (h':=h') hr.2]
 | .ite c x y,hr=>by simp only[E.reads,En]at hr;simp only[ev,eF (h:=h) (h':=h') hr.1.1,eF (h:=h) (h':=h') hr.1.2,eF (h:=h) (h':=h') hr.2]
 | .gd c b x,hr=>by simp only[E.reads,En]at hr;simp only[ev,eF (h:=h) (h':=h') hr.1,eF (h:=h) (h':=h') hr.2]
theorem View.le_refl(H:View):H.le H:=fun _ _ h=>h
variable{H K:View}
theorem View.le_trans{L:View}(h:H.le K)(k:K.le L):H.le L:=fun b o e=>k b o (h b o e)
theorem ab(hk:H.le K){a:Addr}{v:Value}(h:ag H a=some v):ag K a=some v:=by
 unfold ag at *;cases hb:H a.block with
 | none=>simp[hb]at h
 | some o=>simp only[hb]at h;simp only[hk _ _ hb];exact h
theorem jG {H K:View} (hk:H.le K) {a:Addr} : ∀{n i:Nat} {acc cs:Array Value},cI H a i n acc=some cs->cI K a i n acc=some cs
 | 0,_,_,_,h=>h
 | n+1,i,acc,cs,h=>by
  simp only[cI]at *;cases hc:ag H (a.add i)with
  | none=>simp[hc]at h
  | some v=>simp only[hc]at h;simp only[ab hk hc];exact jG hk h
theorem xm(hk:H.le K){r:Nat}{p:Array MapEntry × Nat}(h:mapH H r=some p):mapH K r=some p:=by
 unfold mapH at *;cases hb:H r with
 | none=>simp[hb]at h
 | some o=>simp only[hb]at h;simp only[hk _ _ hb];exact h
theorem Un.dp(hk:H.le K){o:Un}{v u:Value}(h:o.ev H v=some u):o.ev K v=some u:=by
 cases o<;>first | exact h | skip
 case load=>simp only[Un.ev,DD]at *;obtain⟨a,ha,hc⟩:=h;exact⟨a,ha,ab hk hc⟩
 case ak n=>simp only[Un.ev,DD,Dw]at *;obtain⟨a,ha,cs,hc,he⟩:=h;exact⟨a,ha,cs,jG hk hc,he⟩
 case lenMap=>
  simp only[Un.ev,DD]at *;obtain⟨r,hr,h⟩:=h;refine⟨r,hr,?_⟩;cases r with
  | none=>exact h
  | some r=>simp only[Dw]at *;obtain⟨p,hp,he⟩:=h;exact⟨p,xm hk hp,he⟩
theorem dp {ρ:Nat->Option Value} {H K:View} (hk:H.le K) : ∀{e:E} {v:Value},ev ρ H e=some v->ev ρ K e=some v
 | .tmp _,_,h=>h
 | .con _,_,h=>h
 | .un o x,v,h=>by
  simp only[ev]at *;split at h
  ·rename_i u hu;simp only[dp hk hu];exact Un.dp hk h
  cases h
 | .bin o x y,v,h=>by
  simp only[ev]at *;split at h
  ·rename_i u u' hu hu';simp only[dp hk hu,dp hk hu'];exact h
  cases h
 | .snoc x y,v,h=>by
  simp only[ev]at *;split at h
  ·rename_i u u' hu hu';simp only[dp hk hu,dp hk hu'];exact h
  cases h
 | .ite c x y,v,h=>by
  simp only[ev]at *;split at h
  ·rename_i hu;simp only[dp hk hu];exact dp hk h
  ·rename_i hu;simp only[dp hk hu];exact dp hk h
  cases h
 | .gd c b x,v,h=>by
  simp only[ev]at *;split at h
  ·rename_i hu;simp only[dp hk hu];split at h
   ·rename_i hb;simp only[hb,if_true];exact dp hk h
   rename_i hb;simp only[hb];exact h
  ·rename_i hu;simp only[dp hk hu];split at h
   ·rename_i hb;simp only[hb,if_true];exact h
   rename_i hb;simp only[hb];exact dp hk h
  ·rename_i u h1 h2 hu;simp only[dp hk hu];exact h
  cases h
def View.sub (H K:View):Prop:=∀b o,H b=some o->∃o',K b=some o'/\(o'=o\/∃c c' t fz,o = .cells c t fz/\o' = .cells c' t fz/\∃r:List Value,c'.toList=c.toList++r)
theorem View.oD(h:H.le K):H.sub K:=fun b o hb=>⟨o,h b o hb,.inl rfl⟩
theorem qy(hk:H.sub K){a:Addr}{v:Value}(h:ag H a=some v):ag K a=some v:=by
 unfold ag at *;cases hb:H a.block with
 | none=>simp[hb]at h
 | some o=>
  simp only[hb]at h;obtain⟨o',h1,h2⟩:=hk _ _ hb;simp only[h1];rcases h2 with rfl | ⟨c,c',t,fz,rfl,rfl,r,hr⟩
  ·exact h
  simp only at h ⊢;split at h
  ·cases h
  rename_i hs;rw[if_neg hs];rw[<-Array.getElem?_toList]at h ⊢;rw[hr,FU (by
   rcases DA a.off c.toList.length with hl | hl
   ·exact hl
   rw[D1 hl]at h;cases h)];exact h
theorem jV {H K:View} (hk:H.sub K) {a:Addr} : ∀{n i:Nat} {acc cs:Array Value},cI H a i n acc=some cs->cI K a i n acc=some cs
 | 0,_,_,_,h=>h
 | n+1,i,acc,cs,h=>by
  simp only[cI]at *;cases hc:ag H (a.add i)with
  | none=>simp[hc]at h
  | some v=>simp only[hc]at h;simp only[qy hk hc];exact jV hk h
theorem x5(hk:H.sub K){r:Nat}{p:Array MapEntry × Nat}(h:mapH H r=some p):mapH K r=some p:=by
 unfold mapH at *;cases hb:H r with
 | none=>simp[hb]at h
 | some o=>
  simp only[hb]at h;obtain⟨o',h1,h2⟩:=hk _ _ hb;simp only[h1];rcases h2 with rfl | ⟨c,c',t,fz,rfl,rfl,r,hr⟩
  ·exact h
  cases h
theorem Un.dY(hk:H.sub K){o:Un}{v u:Value}(h:o.ev H v=some u):o.ev K v=some u:=by
 cases o<;>first | exact h | skip
 case load=>simp only[Un.ev,DD]at *;obtain⟨a,ha,hc⟩:=h;exact⟨a,ha,qy hk hc⟩
 case ak n=>simp only[Un.ev,DD,Dw]at *;obtain⟨a,ha,cs,hc,he⟩:=h;exact⟨a,ha,cs,jV hk hc,he⟩
 case lenMap=>
  simp only[Un.ev,DD]at *;obtain⟨r,hr,h⟩:=h;refine⟨r,hr,?_⟩;cases r with
  | none=>exact h
  | some r=>simp only[Dw]at *;obtain⟨p,hp,he⟩:=h;exact⟨p,x5 hk hp,he⟩
theorem dY {ρ:Nat->Option Value} {H K:View} (hk:H.sub K) : ∀{e:E} {v:Value},ev ρ H e=some v->ev ρ K e=some v
 | .tmp _,_,h=>h
 | .con _,_,h=>h
 | .un o x,v,h=>by
  simp only[ev]at *;split at h
  ·rename_i u hu;simp only[dY hk hu];exact Un.dY hk h
  cases h
 | .bin o x y,v,h=>by
  simp only[ev]at *;split at h
  ·rename_i u u' hu hu';simp only[dY hk hu,dY hk hu'];exact h
  cases h
 | .snoc x y,v,h=>by
  simp only[ev]at *;split at h
  ·rename_i u u' hu hu';simp only[dY hk hu,dY hk hu'];exact h
  cases h
 | .ite c x y,v,h=>by
  simp only[ev]at *;split at h
  ·rename_i hu;simp only[dY hk hu];exact dY hk h
  ·rename_i hu;simp only[dY hk hu];exact dY hk h
  cases h
 | .gd c b x,v,h=>by
  simp only[ev]at *;split at h
  ·rename_i hu;simp only[dY hk hu];split at h
   ·rename_i hb;simp only[hb,if_true];exact dY hk h
   rename_i hb;simp only[hb];exact h
  ·rename_i hu;simp only[dY hk hu];split at h
   ·rename_i hb;simp only[hb,if_true];exact h
   rename_i hb;simp only[hb];exact dY hk h
  ·rename_i u h1 h2 hu;simp only[dY hk hu];exact h
  cases h
def opnd:Operand->E
 | .tmp t=>.tmp t
 | .const v=>.con v
 | .global g=>.con (.pointer (some ⟨g,0,none⟩))
 | .func f=>.con (.func (.func f) #[] #[])
def iM (P:Program) (t:TypeId):Option Bool:=
 match P.underlying t with
 | some (.struct _) | some (.array _ _)=>some true
 | some _=>some false
 | none=>none
def cH (P:Program) (t:TypeId):Option Nat:=(P.info? t).map (·.size)
def oU (P:Program) (t:TypeId) (x:E):Option E:=
 match iM P t,cH P t with
 | some true,some n=>some (.un (.ak n) x)
 | some false,some _=>some (.un .load x)
 | _,_=>none
def opE (P:Program):Op->Option E
 | .move x | .assign x=>some (opnd x)
 | .pick c a b=>some (.ite (opnd c) (opnd a) (opnd b))
 | .unOp .not _ x=>some (.un .not (opnd x))
 | .binOp op t x y _=>
  match P.underlying t,op with
  | some (.int _),.add | some (.int _),.sub | some (.int _),.mul=>some (.bin (.arith op) (opnd x) (opnd y))
  | some (.int _),.quo | some (.int _),.rem=>some (.bin (.div op) (opnd x) (opnd y))
  | some (.int _),.and | some (.int _),.or | some (.int _),.xor | some (.int _),.andNot=>some (.bin (.bits op) (opnd x) (opnd y))
  | some (.int _),.eql | some (.int _),.neq | some (.int _),.lss | some (.int _),.leq | some (.int _),.gtr | some (.int _),.geq=>some (.bin (.cmp op) (opnd x) (opnd y))
  | some .bool,.eql=>some (.bin (.eqB false) (opnd x) (opnd y))
  | some .bool,.neq=>some (.bin (.eqB true) (opnd x) (opnd y))
  | some .string,.add=>some (.bin .cat (opnd x) (opnd y))
  | some .string,.eql=>some (.bin (.eqS false) (opnd x) (opnd y))
  | some .string,.neq=>some (.bin (.eqS true) (opnd x) (opnd y))
  | _,_=>none
 | .load t a=>oU P t (opnd a)
 | .nilCheck x=>some (.un .nilPtr (opnd x))
 | .fieldAddr s x f=>
  match P.underlying s with
  | some (.struct fields)=>match fields[f]? with
   | some g=>match cH P g.type with
    | some (_+1)=>some (.un (.fld g.offset) (opnd x))
    | _=>none
   | none=>none
  | _=>none
 | .field s x f=>
  match P.underlying s with
  | some (.struct fields)=>match fields[f]? with
   | some g=>match iM P g.type,cH P g.type with
    | some true,some n=>some (.un (.parts g.offset n) (opnd x))
    | some false,some _=>some (.un (.part g.offset) (opnd x))
    | _,_=>none
   | none=>none
  | _=>none
 | .indexAddr t x i=>
  match P.underlying t with
  | some (.slice e)=>(cH P e).map fun n=>.bin (.idx n) (opnd x) (opnd i)
  | some (.array k e)=>if k<=1 then none else(cH P e).map fun n=>.bin (.aidx k n) (opnd x) (opnd i)
  | _=>none
 | .extract x i=>some (.un (.ext i) (opnd x))
 | .convert s d x=>
  match P.underlying s,P.underlying d with
  | some (.int _),some (.int k)=>some (.un (.conv k) (opnd x))
  | _,_=>none
 | .makeFunc (.func f) first captured=>if first.isEmpty then some (.un (.fn f) (captured.toList.foldl (fun e x=>.snoc e (opnd x)) (.con (.tuple #[])))) else none
 | .call { callee:=.builtin .len,args,argTypes }=>
  match args.toList,argTypes[0]? with
  | [x],some t=>match P.underlying t with
   | some (.slice _)=>some (.un .len (opnd x))
   | some .string=>some (.un .lenStr (opnd x))
   | some (.map _ _)=>some (.un .lenMap (opnd x))
   | _=>none
  | _,_=>none
 | .call { callee:=.builtin .min,args,.. }=>
  match args.toList with
  | [x,y]=>some (.bin .min (opnd x) (opnd y))
  | _=>none
 | .call { callee:=.builtin .max,args,.. }=>
  match args.toList with
  | [x,y]=>some (.bin .max (opnd x) (opnd y))
  | _=>none
 | .slice t x lo hi none=>
  match P.underlying t with
  | some (.slice e)=>match cH P e with
   | some n=>
    let x1:=match hi with | some j=>.bin .hi (opnd x) (opnd j) | none=>opnd x
    match lo with
    | some i=>some (.bin (.lo n) x1 (opnd i))
    | none=>match hi with | some _=>some x1 | none=>none
   | none=>none
  | _=>none
 | _=>none
section
variable {P:Program} {w:World}
variable{b:Bool}
theorem iT{t:TypeId}(h:iM P t=some b):(isAgg t).run P w = .ok b w:=by
 unfold iM at h;cases hu:P.underlying t with
 | none=>simp[hu]at h
 | some d=>cases d<;>simp[hu]at h<;>subst h<;>simp[isAgg,run_underlying hu]
variable{n:Nat}
theorem run_sizeOf{t:TypeId}(h:cH P t=some n):(sizeOf t).run P w = .ok n w:=by
 unfold cH at h;cases hu:P.info? t with
 | none=>simp[hu]at h
 | some i=>simp[hu]at h;subst h;simp[sizeOf,typeInfo,hu]
theorem run_loadCellsFrom (a:Addr) : ∀(n i:Nat) (acc cs:Array Value),cI (vw w.heap) a i n acc=some cs->(loadCellsFrom a i n acc).run P w = .ok cs w
 | 0,i,acc,cs,h=>by simp[cI]at h;subst h;simp[loadCellsFrom]
 | n+1,i,acc,cs,h=>by
  unfold cI at h;cases hc:ag (vw w.heap) (a.add i)with
  | none=>simp[hc]at h
  | some v=>simp only[hc]at h;have hc':w.cell? (a.add i)=some v:=hc;simp[loadCellsFrom,hc',run_loadCellsFrom a n (i+1) (acc.push v) cs h]
theorem run_load{t:TypeId}{x:E}{e:E}{ρ:Nat->Option Value}{v u:Value}(he:oU P t x=some e)(hx:ev ρ (vw w.heap) x=some u)(hv:ev ρ (vw w.heap) e=some v):
  (Instr.loadAt t u).run P w = .ok v w:=by
 unfold oU at he;cases ha:iM P t with
 | none=>simp[ha]at he
 | some b=>
  cases hs:cH P t with
  | none=>cases b<;>simp[ha,hs]at he
  | some n=>
   cases b
   ·simp[ha,hs]at he;subst he;simp only[ev,hx]at hv;cases u<;>simp[Un.ev,vP]at hv;rename_i a;cases a with
    | none=>simp at hv
    | some a=>simp only[D0]at hv;have hc:w.cell? a=some v:=hv;simp[Instr.loadAt,Instr.sureAddr,loadVar,iT ha,hc]
   simp[ha,hs]at he;subst he;simp only[ev,hx]at hv;cases u<;>simp[Un.ev,vP]at hv;rename_i a;cases a with
   | none=>simp at hv
   | some a=>simp only[D0,Dw]at hv;obtain⟨cs,hcs,rfl⟩:=hv;have:=run_loadCellsFrom (P:=P) (w:=w) a n 0 #[] cs hcs;simp[Instr.loadAt,Instr.sureAddr,loadVar,iT ha,run_sizeOf hs,loadCells,this]
abbrev aO (a:Act):Nat->Option Value:=fun t=>a.tmps[t]?
theorem aG{a:Act}{h:View}{x:Operand}{v:Value}(hv:ev (aO a) h (opnd x)=some v):a.eval x=v:=by
 cases x with
 | tmp t=>simp only[opnd,ev,aO]at hv;simp[Act.eval,hv]
 | const u=>simp only[opnd,ev,o0]at hv;simp[Act.eval,hv]
 | global g=>simp only[opnd,ev,o0]at hv;simp[Act.eval,hv]
 | func f=>simp only[opnd,ev,o0]at hv;simp[Act.eval,hv]
theorem kN{v:Value}{p:IntKind × Int}(h:vI v=some p):v = .int p.1 p.2:=by cases v<;>simp[vI]at h;subst h;rfl
theorem q7{v:Value}{p:Bool}(h:vB v=some p):v = .bool p:=by cases v<;>simp[vB]at h;subst h;rfl
theorem lU{v:Value}{p:ByteArray}(h:vS v=some p):v = .string p:=by cases v<;>simp[vS]at h;subst h;rfl
theorem qX{v:Value}{p:Addr}(h:vP v=some p):v = .pointer (some p):=by cases v<;>simp[vP]at h;rename_i a;cases a<;>simp at h;subst h;rfl
theorem mI{v:Value}{p:Option Addr × Nat × Nat}(h:vL v=some p):v = .slice p.1 p.2.1 p.2.2:=by cases v<;>simp[vL]at h;subst h;rfl
theorem vQ{v:Value}{p:Array Value}(h:vA v=some p):v = .agg p:=by cases v<;>simp[vA]at h;subst h;rfl
theorem wN{v:Value}{p:Array Value}(h:vT v=some p):v = .tuple p:=by cases v<;>simp[vT]at h;subst h;rfl
theorem zG{v:Value}{p:Option Nat}(h:vM v=some p):v = .map p:=by cases v<;>simp[vM]at h;subst h;rfl
theorem fL{ρ:Nat->Option Value}{h:View}{o:Un}{x:E}{v:Value}(hv:ev ρ h (.un o x)=some v): ∃u,ev ρ h x=some u/\o.ev h u=some v:=by
 simp only[ev]at hv;split at hv
 ·exact⟨_,by assumption,hv⟩
 cases hv
theorem ep{ρ:Nat->Option Value}{h:View}{o:Bn}{x y:E}{v:Value}(hv:ev ρ h (.bin o x y)=some v): ∃u u',ev ρ h x=some u/\ev ρ h y=some u'/\o.ev u u'=some v:=by
 simp only[ev]at hv;split at hv
 ·exact⟨_,_,by assumption,by assumption,hv⟩
 cases hv
theorem kR{v u r:Value}{f:IntKind->Int->Int->Option Value}(h:i2 v u f=some r): ∃k a b,v = .int k a/\u = .int k b/\f k a b=some r:=by
 simp only[i2,DD]at h;obtain⟨p,hp,q,hq,h⟩:=h;split at h
 ·rename_i e;exact⟨p.1,p.2,q.2,kN hp,by rw[e];exact kN hq,h⟩
 cases h
section binops
variable {o:Oper} {a:Act} {v:Value} {x y:Operand} {t u:TypeId} {op:BinOp} {n:Bool}
theorem wU(ho:o.op = .binOp op t x y u)(hv:ev (aO a) (vw w.heap) (.bin (.cmp op) (opnd x) (opnd y))=some v):(execOp a.eval o).run P w = .ok (.value v) w:=by obtain⟨p,q,hp,hq,hpq⟩:=ep hv;simp only[Bn.ev]at hpq;obtain⟨k,i,j,rfl,rfl,h⟩:=kR hpq;simp only[Dw]at h;obtain⟨b,hb,rfl⟩:=h;have e1:=aG hp;have e2:=aG hq;cases op<;>simp[cmpI]at hb<;>subst hb<;>simp[execOp,ho,eqGuard,e1,e2,binOp,Op.intCmp]
theorem r8(ho:o.op = .binOp op t x y u)(hv:ev (aO a) (vw w.heap) (.bin (.arith op) (opnd x) (opnd y))=some v):(execOp a.eval o).run P w = .ok (.value v) w:=by obtain⟨p,q,hp,hq,hpq⟩:=ep hv;simp only[Bn.ev]at hpq;obtain⟨k,i,j,rfl,rfl,h⟩:=kR hpq;simp only[Dw]at h;obtain⟨b,hb,rfl⟩:=h;have e1:=aG hp;have e2:=aG hq;cases op<;>simp[oy]at hb<;>subst hb<;>simp[execOp,ho,eqGuard,e1,e2,binOp,Op.intArith]
theorem xL(ho:o.op = .binOp op t x y u)(hv:ev (aO a) (vw w.heap) (.bin (.div op) (opnd x) (opnd y))=some v):(execOp a.eval o).run P w = .ok (.value v) w:=by obtain⟨p,q,hp,hq,hpq⟩:=ep hv;simp only[Bn.ev]at hpq;obtain⟨k,i,j,rfl,rfl,h⟩:=kR hpq;simp only[Dw]at h;obtain⟨b,hb,rfl⟩:=h;have e1:=aG hp;have e2:=aG hq;cases op<;>simp[divI]at hb<;>obtain⟨hz,rfl⟩:=hb<;>simp[execOp,ho,eqGuard,e1,e2,binOp,Op.intDiv,hz]
theorem uZ(ho:o.op = .binOp op t x y u)(hv:ev (aO a) (vw w.heap) (.bin (.bits op) (opnd x) (opnd y))=some v):(execOp a.eval o).run P w = .ok (.value v) w:=by obtain⟨p,q,hp,hq,hpq⟩:=ep hv;simp only[Bn.ev]at hpq;obtain⟨k,i,j,rfl,rfl,h⟩:=kR hpq;simp only[Dw]at h;obtain⟨b,hb,rfl⟩:=h;have e1:=aG hp;have e2:=aG hq;cases op<;>simp only[AM,o0,reduceCtorEq]at hb<;>subst hb<;>simp[execOp,ho,eqGuard,e1,e2,binOp,Op.intBits]
theorem run_equal_bool(hu:P.underlying t=some .bool)(i j:Bool):(Op.equal t (.bool i) (.bool j)).run P w = .ok (i == j) w:=by
 have key : ∀d,(Op.equalIn (d+1) t (.bool i) (.bool j)).run P w = .ok (i == j) w:=fun d=>by simp only[Op.equalIn];simp[run_underlying hu]
 exact key 9999
theorem qt(hu:P.underlying t=some .bool)(hop:op=if n then .neq else .eql)(ho:o.op = .binOp op t x y u)(hv:ev (aO a) (vw w.heap) (.bin (.eqB n) (opnd x) (opnd y))=some v):(execOp a.eval o).run P w = .ok (.value v) w:=by obtain⟨p,q,hp,hq,hpq⟩:=ep hv;simp only[Bn.ev,DD,Dw]at hpq;obtain⟨i,hi,j,hj,rfl⟩:=hpq;obtain rfl:=q7 hi;obtain rfl:=q7 hj;have e1:=aG hp;have e2:=aG hq;have e3:=run_equal_bool (w:=w) hu i j;cases n<;>simp at hop<;>subst hop<;>simp[execOp,ho,eqGuard,e1,e2,binOp,e3]
theorem qB(hop:op=if n then .neq else .eql)(hu:P.underlying t=some .string)(ho:o.op = .binOp op t x y u)(hv:ev (aO a) (vw w.heap) (.bin (.eqS n) (opnd x) (opnd y))=some v):(execOp a.eval o).run P w = .ok (.value v) w:=by obtain⟨p,q,hp,hq,hpq⟩:=ep hv;simp only[Bn.ev,DD,Dw]at hpq;obtain⟨i,hi,j,hj,rfl⟩:=hpq;obtain rfl:=lU hi;obtain rfl:=lU hj;have e1:=aG hp;have e2:=aG hq;cases n<;>simp at hop<;>subst hop<;>simp[execOp,ho,eqGuard,e1,e2,binOp,Op.stringOp]
theorem xY(ho:o.op = .binOp .add t x y u)(hv:ev (aO a) (vw w.heap) (.bin .cat (opnd x) (opnd y))=some v):(execOp a.eval o).run P w = .ok (.value v) w:=by
 obtain⟨p,q,hp,hq,hpq⟩:=ep hv;simp only[Bn.ev,DD]at hpq;obtain⟨i,hi,j,hj,h⟩:=hpq;obtain rfl:=lU hi;obtain rfl:=lU hj;split at h
 ·rename_i hs;cases h;have e1:=aG hp;have e2:=aG hq;have:((i.size:Int)+j.size)<=9223372036854775807:=by omega
  simp[execOp,ho,eqGuard,e1,e2,binOp,Op.stringOp,IntKind.max,IntKind.signed,IntKind.bits];exact this
 cases h
end binops
end
section
variable {P:Program} {w:World} {o:Oper} {a:Act} {v:Value}
theorem tX{x:Operand}(ho:o.op = .move x)(hv:ev (aO a) (vw w.heap) (opnd x)=some v):(execOp a.eval o).run P w = .ok (.value v) w:=by simp[execOp,ho,aG hv]
theorem q4{x:Operand}(ho:o.op = .assign x)(hv:ev (aO a) (vw w.heap) (opnd x)=some v):(execOp a.eval o).run P w = .ok (.value v) w:=by simp[execOp,ho,aG hv]
theorem uL{c x y:Operand}(ho:o.op = .pick c x y)(hv:ev (aO a) (vw w.heap) (.ite (opnd c) (opnd x) (opnd y))=some v):(execOp a.eval o).run P w = .ok (.value v) w:=by
 simp only[ev]at hv;split at hv
 ·rename_i hc;simp[execOp,ho,aG hc,asBool,aG hv]
 ·rename_i hc;simp[execOp,ho,aG hc,asBool,aG hv]
 cases hv
theorem xd{t:TypeId}{x:Operand}(ho:o.op = .unOp .not t x)(hv:ev (aO a) (vw w.heap) (.un .not (opnd x))=some v):(execOp a.eval o).run P w = .ok (.value v) w:=by obtain⟨u,hu,h⟩:=fL hv;simp only[Un.ev,Dw]at h;obtain⟨b,hb,rfl⟩:=h;obtain rfl:=q7 hb;simp[execOp,ho,aG hu,Op.unary]
theorem xN{x:Operand}(ho:o.op = .nilCheck x)(hv:ev (aO a) (vw w.heap) (.un .nilPtr (opnd x))=some v):(execOp a.eval o).run P w = .ok (.value v) w:=by obtain⟨u,hu,h⟩:=fL hv;simp only[Un.ev,Dw]at h;obtain⟨b,hb,rfl⟩:=h;obtain rfl:=qX hb;simp[execOp,ho,aG hu]
theorem xK{x:Operand}{i:Nat}(ho:o.op = .extract x i)(hv:ev (aO a) (vw w.heap) (.un (.ext i) (opnd x))=some v):(execOp a.eval o).run P w = .ok (.value v) w:=by obtain⟨u,hu,h⟩:=fL hv;simp only[Un.ev,DD]at h;obtain⟨b,hb,h⟩:=h;obtain rfl:=wN hb;simp[execOp,ho,aG hu,Instr.extract,h]
theorem vG{s d:TypeId}{x:Operand}{k k':IntKind}(hs:P.underlying s=some (.int k'))(hd:P.underlying d=some (.int k))(ho:o.op = .convert s d x)(hv:ev (aO a) (vw w.heap) (.un (.conv k) (opnd x))=some v):(execOp a.eval o).run P w = .ok (.value v) w:=by obtain⟨u,hu,h⟩:=fL hv;simp only[Un.ev,Dw]at h;obtain⟨b,hb,rfl⟩:=h;obtain h1:=kN hb;subst h1;simp[execOp,ho,aG hu,convert,run_underlying hs,run_underlying hd,Conv.intToInt]
variable{n:Nat}{fields:Array Field}
theorem nY{s:TypeId}{x:Operand}{f:Nat}{g:Field}(hs:P.underlying s=some (.struct fields))(hf:fields[f]? = some g)(hz:cH P g.type=some (n+1))(ho:o.op = .fieldAddr s x f)(hv:ev (aO a) (vw w.heap) (.un (.fld g.offset) (opnd x))=some v):(execOp a.eval o).run P w = .ok (.value v) w:=by obtain⟨u,hu,h⟩:=fL hv;simp only[Un.ev,Dw]at h;obtain⟨b,hb,rfl⟩:=h;obtain rfl:=qX hb;simp[execOp,ho,aG hu,Instr.fieldAt,run_underlying hs,hf,Instr.sureAddr,fieldPlace,run_sizeOf hz]
theorem uj{s:TypeId}{x:Operand}{f:Nat}{g:Field}(hs:P.underlying s=some (.struct fields))(hf:fields[f]? = some g)(ha:iM P g.type=some false)(_hz:cH P g.type=some n)(ho:o.op = .field s x f)(hv:ev (aO a) (vw w.heap) (.un (.part g.offset) (opnd x))=some v):(execOp a.eval o).run P w = .ok (.value v) w:=by obtain⟨u,hu,h⟩:=fL hv;simp only[Un.ev,DD]at h;obtain⟨b,hb,h⟩:=h;obtain rfl:=vQ hb;simp[execOp,ho,aG hu,Instr.field,run_underlying hs,hf,asAgg,part,iT ha,h]
theorem tp{s:TypeId}{x:Operand}{f:Nat}{g:Field}(hs:P.underlying s=some (.struct fields))(hf:fields[f]? = some g)(ha:iM P g.type=some true)(hz:cH P g.type=some n)(ho:o.op = .field s x f)(hv:ev (aO a) (vw w.heap) (.un (.parts g.offset n) (opnd x))=some v):(execOp a.eval o).run P w = .ok (.value v) w:=by obtain⟨u,hu,h⟩:=fL hv;simp only[Un.ev,Dw]at h;obtain⟨b,hb,rfl⟩:=h;obtain rfl:=vQ hb;simp[execOp,ho,aG hu,Instr.field,run_underlying hs,hf,asAgg,part,iT ha,run_sizeOf hz]
theorem xh{t e:TypeId}{x i:Operand}(ht:P.underlying t=some (.slice e))(hz:cH P e=some n)(ho:o.op = .indexAddr t x i)(hv:ev (aO a) (vw w.heap) (.bin (.idx n) (opnd x) (opnd i))=some v):(execOp a.eval o).run P w = .ok (.value v) w:=by
 obtain⟨p,q,hp,hq,h⟩:=ep hv;simp only[Bn.ev,DD]at h;obtain⟨l,hl,k,hk,d,hd,h⟩:=h;obtain rfl:=mI hl;have hk':=kN hk;split at h
 ·rename_i hb;simp only[o0]at h;subst h;have e1:=aG hp;have e2:=aG hq;rw[hk']at e2;simp[execOp,ho,e1,e2,Instr.indexAt,asIntOf,run_underlying ht,hd,hb.1,hb.2,run_sizeOf hz]
 cases h
theorem uw{t e:TypeId}{x i:Operand}{m:Nat}(ht:P.underlying t=some (.array m e))(hz:cH P e=some n)(ho:o.op = .indexAddr t x i)(hv:ev (aO a) (vw w.heap) (.bin (.aidx m n) (opnd x) (opnd i))=some v):(execOp a.eval o).run P w = .ok (.value v) w:=by
 obtain⟨p,q,hp,hq,h⟩:=ep hv;simp only[Bn.ev,DD]at h;obtain⟨l,hl,k,hk,h⟩:=h;obtain rfl:=qX hl;have hk':=kN hk;split at h
 ·rename_i hb;simp only[o0]at h;subst h;have e1:=aG hp;have e2:=aG hq;rw[hk']at e2;simp[execOp,ho,e1,e2,Instr.indexAt,asIntOf,run_underlying ht,Instr.sureAddr,hb.1,hb.2,run_sizeOf hz]
 cases h
theorem w9{T:Array TypeId}{t e:TypeId}{x:Operand}{A:Array Operand}(hT:T[0]? = some t)(hA:A.toList=[x])(ht:P.underlying t=some (.slice e))(ho:o.op = .call { callee:=.builtin .len,args:=A,argTypes:=T })(hv:ev (aO a) (vw w.heap) (.un .len (opnd x))=some v):(execOp a.eval o).run P w = .ok (.value v) w:=by
 obtain⟨u,hu,h⟩:=fL hv;simp only[Un.ev,Dw]at h;obtain⟨l,hl,rfl⟩:=h;obtain rfl:=mI hl;have hA':A = #[x]:=by rw[<-Array.toArray_toList (xs:=A),hA]
 subst hA';simp[execOp,ho,resolve,invoke,builtin,Builtin.len_,hT,run_underlying ht,aG hu,goInt]
theorem qT{T:Array TypeId}{t:TypeId}{x:Operand}{A:Array Operand}(hT:T[0]? = some t)(hA:A.toList=[x])(ht:P.underlying t=some .string)(ho:o.op = .call { callee:=.builtin .len,args:=A,argTypes:=T })(hv:ev (aO a) (vw w.heap) (.un .lenStr (opnd x))=some v):(execOp a.eval o).run P w = .ok (.value v) w:=by
 obtain⟨u,hu,h⟩:=fL hv;simp only[Un.ev,Dw]at h;obtain⟨l,hl,rfl⟩:=h;obtain rfl:=lU hl;have hA':A = #[x]:=by rw[<-Array.toArray_toList (xs:=A),hA]
 subst hA';simp[execOp,ho,resolve,invoke,builtin,Builtin.len_,hT,run_underlying ht,aG hu,goInt]
theorem rp{T:Array TypeId}{t k e:TypeId}{x:Operand}{A:Array Operand}(hT:T[0]? = some t)(hA:A.toList=[x])(ht:P.underlying t=some (.map k e))(ho:o.op = .call { callee:=.builtin .len,args:=A,argTypes:=T })(hv:ev (aO a) (vw w.heap) (.un .lenMap (opnd x))=some v):(execOp a.eval o).run P w = .ok (.value v) w:=by
 obtain⟨u,hu,h⟩:=fL hv;simp only[Un.ev,DD]at h;obtain⟨l,hl,h⟩:=h;obtain rfl:=zG hl;have hA':A = #[x]:=by rw[<-Array.toArray_toList (xs:=A),hA]
 subst hA';cases l with
 | none=>simp only[o0]at h;subst h;simp[execOp,ho,resolve,invoke,builtin,Builtin.len_,hT,run_underlying ht,aG hu,goInt]
 | some r=>
  simp only[Dw,mapH,vw]at h;obtain⟨⟨es,c⟩,h1,rfl⟩:=h;split at h1
  ·rename_i es' c' hh;simp only[o0,Ey]at h1;obtain⟨rfl,rfl⟩:=h1;simp[execOp,ho,resolve,invoke,builtin,Builtin.len_,hT,run_underlying ht,aG hu,goInt,getObj,Sem.run,hh]
  cases h1
theorem xw{T:Array TypeId}{x y:Operand}{A:Array Operand}(hA:A.toList=[x,y])(ho:o.op = .call { callee:=.builtin .min,args:=A,argTypes:=T })(hv:ev (aO a) (vw w.heap) (.bin .min (opnd x) (opnd y))=some v):(execOp a.eval o).run P w = .ok (.value v) w:=by
 obtain⟨p,q,hp,hq,hpq⟩:=ep hv;simp only[Bn.ev]at hpq;obtain⟨k,i,j,rfl,rfl,h⟩:=kR hpq;simp only[o0]at h;subst h;have hA':A = #[x,y]:=by rw[<-Array.toArray_toList (xs:=A),hA]
 subst hA';simp[execOp,ho,resolve,invoke,builtin,Builtin.min_,Builtin.min2,aG hp,aG hq]
theorem xH{T:Array TypeId}{x y:Operand}{A:Array Operand}(hA:A.toList=[x,y])(ho:o.op = .call { callee:=.builtin .max,args:=A,argTypes:=T })(hv:ev (aO a) (vw w.heap) (.bin .max (opnd x) (opnd y))=some v):(execOp a.eval o).run P w = .ok (.value v) w:=by
 obtain⟨p,q,hp,hq,hpq⟩:=ep hv;simp only[Bn.ev]at hpq;obtain⟨k,i,j,rfl,rfl,h⟩:=kR hpq;simp only[o0]at h;subst h;have hA':A = #[x,y]:=by rw[<-Array.toArray_toList (xs:=A),hA]
 subst hA';simp[execOp,ho,resolve,invoke,builtin,Builtin.max_,Builtin.max2,aG hp,aG hq]
theorem tk : ∀(l:List Operand) (e:E) (acc:Array Value) (v:Value),ev (aO a) (vw w.heap) e=some (.tuple acc)->ev (aO a) (vw w.heap) (l.foldl (fun e x=>.snoc e (opnd x)) e)=some v->
  v = .tuple (acc++(l.map a.eval).toArray)
 | [],e,acc,v,h0,h=>by simp at h;rw[h0]at h;simp at h;subst h;simp
 | x::l,e,acc,v,h0,h=>by
  simp only[DS]at h;cases hx:ev (aO a) (vw w.heap) (opnd x)with
  | none=>
   exfalso;have : ∀(l:List Operand) (e:E),ev (aO a) (vw w.heap) e=none->ev (aO a) (vw w.heap) (l.foldl (fun e x=>.snoc e (opnd x)) e)=none:=by
    intro l;induction l with
    | nil=>intro e he;simpa using he
    | cons y l ih=>intro e he;simp only[DS];exact ih _ (by simp[ev,he])
   rw[this l _ (by simp[ev,h0,hx])]at h;cases h
  | some u=>have:=tk l (.snoc e (opnd x)) (acc.push u) v (by simp[ev,h0,hx]) h;rw[this,<-aG hx];simp
theorem yf{f:FuncId}{first captured:Array Operand}(hf:first.isEmpty=true)(ho:o.op = .makeFunc (.func f) first captured)(hv:ev (aO a) (vw w.heap) (.un (.fn f) (captured.toList.foldl (fun e x=>.snoc e (opnd x)) (.con (.tuple #[]))))=some v):(execOp a.eval o).run P w = .ok (.value v) w:=by
 obtain⟨u,hu,h⟩:=fL hv;simp only[Un.ev,Dw]at h;obtain⟨l,hl,rfl⟩:=h;obtain rfl:=wN hl;have h1:=tk captured.toList _ #[] _ (by simp[ev]) hu;have hf':first = #[]:=by simpa using hf
 subst hf';simp only[Value.tuple.injEq]at h1;subst h1;have e:Array.map a.eval captured=(List.map a.eval captured.toList).toArray:=by rw[<-Array.toList_inj];simp
 simp[execOp,ho,Instr.makeFunc,e]
theorem run_sliceBound{i:Operand}{q:IntKind × Int}{u:Value}(hq:ev (aO a) (vw w.heap) (opnd i)=some u)(hk:vI u=some q)(y:Nat)(c:BoundsCode)(hb:0<=q.2/\q.2<=y):
  (Instr.sliceBound (a.eval i) y c).run P w = .ok q.2.toNat w:=by have h1:=kN hk;rw[aG hq,h1];simp[Instr.sliceBound,asIntOf,hb.1,hb.2]
theorem yi{t e:TypeId}{x j:Operand}(ht:P.underlying t=some (.slice e))(hz:cH P e=some n)(ho:o.op = .slice t x none (some j) none)(hv:ev (aO a) (vw w.heap) (.bin .hi (opnd x) (opnd j))=some v):(execOp a.eval o).run P w = .ok (.value v) w:=by
 obtain⟨p,q,hp,hq,h⟩:=ep hv;simp only[Bn.ev,DD]at h;obtain⟨l,hl,k,hk,h⟩:=h;obtain rfl:=mI hl;split at h
 ·rename_i hb;simp only[o0]at h;subst h;have e1:=aG hp;have e2:=run_sliceBound (P:=P) hq hk l.2.2 .sliceAcap hb;have e3:=run_sizeOf (w:=w) hz;obtain⟨b,len,cap⟩:=l;simp only at e2;cases b<;>simp[execOp,ho,e1,Instr.sliceAt,Instr.slice,run_underlying ht,Instr.sliceBounds,e2,e3,Addr.add]
 cases h
theorem x7{t e:TypeId}{x i:Operand}(ht:P.underlying t=some (.slice e))(hz:cH P e=some n)(ho:o.op = .slice t x (some i) none none)(hv:ev (aO a) (vw w.heap) (.bin (.lo n) (opnd x) (opnd i))=some v):(execOp a.eval o).run P w = .ok (.value v) w:=by
 obtain⟨p,q,hp,hq,h⟩:=ep hv;simp only[Bn.ev,DD]at h;obtain⟨l,hl,k,hk,h⟩:=h;obtain rfl:=mI hl;split at h
 ·rename_i hb;simp only[o0]at h;subst h;have e1:=aG hp;have e2:=run_sliceBound (P:=P) hq hk l.2.1 .sliceB hb;have e3:=run_sizeOf (w:=w) hz;obtain⟨b,len,cap⟩:=l;simp only at e2;simp[execOp,ho,e1,Instr.sliceAt,Instr.slice,run_underlying ht,Instr.sliceBounds,e2,e3]
 cases h
theorem uO{t e:TypeId}{x i j:Operand}(ht:P.underlying t=some (.slice e))(hz:cH P e=some n)(ho:o.op = .slice t x (some i) (some j) none)(hv:ev (aO a) (vw w.heap) (.bin (.lo n) (.bin .hi (opnd x) (opnd j)) (opnd i))=some v):(execOp a.eval o).run P w = .ok (.value v) w:=by
 obtain⟨p,q,hp,hq,h⟩:=ep hv;obtain⟨p',q',hp',hq',h'⟩:=ep hp;simp only[Bn.ev,DD]at h h';obtain⟨l',hl',k',hk',h'⟩:=h';obtain rfl:=mI hl';split at h'
 ·rename_i hb';simp only[o0]at h';subst h';obtain⟨l,hl,k,hk,h⟩:=h;simp only[vL,o0]at hl;subst hl;split at h
  ·rename_i hb;simp only[o0]at h;subst h;have e1:=aG hp';have e2:=run_sliceBound (P:=P) hq hk k'.2.toNat .sliceB hb;have e2':=run_sliceBound (P:=P) hq' hk' l'.2.2 .sliceAcap hb';have e3:=run_sizeOf (w:=w) hz;obtain⟨b,len,cap⟩:=l';simp only at e2 e2';simp[execOp,ho,e1,Instr.sliceAt,Instr.slice,run_underlying ht,Instr.sliceBounds,e2,e2',e3]
  cases h
 cases h'
theorem rO{t:TypeId}{x:Operand}{e:E}(he:oU P t (opnd x)=some e)(ho:o.op = .load t x)(hv:ev (aO a) (vw w.heap) e=some v):(execOp a.eval o).run P w = .ok (.value v) w:=by
 have hx : ∃u,ev (aO a) (vw w.heap) (opnd x)=some u:=by
  unfold oU at he;split at he
  ·simp only[o0]at he;subst he;obtain⟨u,hu,_⟩:=fL hv;exact⟨u,hu⟩
  ·simp only[o0]at he;subst he;obtain⟨u,hu,_⟩:=fL hv;exact⟨u,hu⟩
  cases he
 obtain⟨u,hu⟩:=hx;have:=run_load he hu hv;simp[execOp,ho,aG hu,this]
theorem kD{e:E}(he:opE P o.op=some e)(hv:ev (aO a) (vw w.heap) e=some v):(execOp a.eval o).run P w = .ok (.value v) w:=by
 cases ho:o.op with
 | move x=>rw[ho]at he;simp only[opE,o0]at he;subst he;exact tX ho hv
 | assign x=>rw[ho]at he;simp only[opE,o0]at he;subst he;exact q4 ho hv
 | pick c x y=>rw[ho]at he;simp only[opE,o0]at he;subst he;exact uL ho hv
 | unOp op t x=>rw[ho]at he;cases op<;>simp only[opE,o0,reduceCtorEq]at he;subst he;exact xd ho hv
 | binOp op t x y u=>
  rw[ho]at he;simp only[opE]at he;split at he<;>first
   | (simp only[o0]at he;subst he;first | exact r8 ho hv | exact xL ho hv | exact uZ ho hv | exact wU ho hv | exact qt (n:=false) ‹_› rfl ho hv | exact qt (n:=true) ‹_› rfl ho hv | exact xY ho hv | exact qB (n:=false) rfl ‹_› ho hv | exact qB (n:=true) rfl ‹_› ho hv)
   | cases he
 | load t x=>rw[ho]at he;simp only[opE]at he;exact rO he ho hv
 | nilCheck x=>rw[ho]at he;simp only[opE,o0]at he;subst he;exact xN ho hv
 | fieldAddr s x f=>
  rw[ho]at he;simp only[opE]at he;split at he
  ·rename_i fields hs;split at he
   ·rename_i g hf;split at he
    ·rename_i n hz;simp only[o0]at he;subst he;exact nY hs hf hz ho hv
    cases he
   cases he
  cases he
 | field s x f=>
  rw[ho]at he;simp only[opE]at he;split at he
  ·rename_i fields hs;split at he
   ·rename_i g hf;split at he
    ·rename_i n ha hz;simp only[o0]at he;subst he;exact tp hs hf ha hz ho hv
    ·rename_i n ha hz;simp only[o0]at he;subst he;exact uj hs hf ha hz ho hv
    cases he
   cases he
  cases he
 | indexAddr t x i=>
  rw[ho]at he;simp only[opE]at he;split at he
  ·rename_i el ht;simp only[Dw]at he;obtain⟨n,hn,rfl⟩:=he;exact xh ht hn ho hv
  ·rename_i k el ht;split at he
   ·cases he
   simp only[Dw]at he;obtain⟨n,hn,rfl⟩:=he;exact uw ht hn ho hv
  cases he
 | extract x i=>rw[ho]at he;simp only[opE,o0]at he;subst he;exact xK ho hv
 | convert s d x=>
  rw[ho]at he;simp only[opE]at he;split at he
  ·rename_i k' k hs hd;simp only[o0]at he;subst he;exact vG hs hd ho hv
  cases he
 | makeFunc fn first captured=>
  rw[ho]at he;cases fn<;>simp only[opE,reduceCtorEq]at he;split at he
  ·rename_i hf;simp only[o0]at he;subst he;exact yf hf ho hv
  cases he
 | call c=>
  rw[ho]at he;obtain⟨callee,args,T⟩:=c;cases callee with
  | value f=>simp only[opE,reduceCtorEq]at he
  | invoke r m=>simp only[opE,reduceCtorEq]at he
  | builtin b=>
   cases b<;>simp only[opE,reduceCtorEq]at he;case len=>
    split at he
    ·rename_i x t hA hT;split at he
     ·rename_i el ht;simp only[o0]at he;subst he;exact w9 hT hA ht ho hv
     ·rename_i ht;simp only[o0]at he;subst he;exact qT hT hA ht ho hv
     ·rename_i k el ht;simp only[o0]at he;subst he;exact rp hT hA ht ho hv
     cases he
    cases he
   case min=>
    split at he
    ·rename_i x y hA;simp only[o0]at he;subst he;exact xw hA ho hv
    cases he
   case max=>
    split at he
    ·rename_i x y hA;simp only[o0]at he;subst he;exact xH hA ho hv
    cases he
 | slice t x lo hi mx=>
  rw[ho]at he;cases mx with
  | some m=>simp only[opE,reduceCtorEq]at he
  | none=>
   simp only[opE]at he;split at he
   ·rename_i el ht;split at he
    ·rename_i n hz;cases lo<;>cases hi<;>simp only[o0,reduceCtorEq]at he
     ·subst he;exact yi ht hz ho hv
     ·subst he;exact x7 ht hz ho hv
     subst he;exact uO ht hz ho hv
    cases he
   cases he
 | _=>rw[ho]at he;simp only[opE,reduceCtorEq]at he
end
def evs (ρ:Nat->Option Value) (h:View):List E->Option (List Value)
 | []=>some []
 | e::es=>match ev ρ h e,evs ρ h es with
  | some v,some vs=>some (v::vs)
  | _,_=>none
def updF (ρ:Nat->Option Value) (d:Nat) (u:Value):Nat->Option Value:=fun t=>if t=d then some u else ρ t
def pP (k:E) (c:Nat):Bool:=match k with | .tmp t=>t == c | _=>false
def E.subst (r:E) (d:Nat) (e:E):E:=
 match r with
 | .tmp t=>if t=d then e else .tmp t
 | .con v=>.con v
 | .un o x=>.un o (x.subst d e)
 | .bin o x y=>.bin o (x.subst d e) (y.subst d e)
 | .snoc x y=>.snoc (x.subst d e) (y.subst d e)
 | .ite k x y=>.ite (k.subst d e) (x.subst d e) (y.subst d e)
 | .gd k b x=>.gd (k.subst d e) b (x.subst d e)
def E.occ (r:E) (d:Nat):Bool:=
 match r with
 | .tmp t=>t == d
 | .con _=>false
 | .un _ x=>x.occ d
 | .bin _ x y | .snoc x y=>x.occ d||y.occ d
 | .ite k _ _=>k.occ d
 | .gd k _ _=>k.occ d
def E.bX (r:E) (d c:Nat) (b:Bool) (e:E):E:=
 match r with
 | .tmp t=>if t=d then .gd (.tmp c) b e else .tmp t
 | .con v=>.con v
 | .un o x=>.un o (x.bX d c b e)
 | .bin o x y=>.bin o (x.bX d c b e) (y.bX d c b e)
 | .snoc x y=>.snoc (x.bX d c b e) (y.bX d c b e)
 | .ite k x y=>
  if pP k c then(if b then .ite k (x.subst d e) (y.bX d c b e) else .ite k (x.bX d c b e) (y.subst d e))
  else .ite (k.bX d c b e) (x.bX d c b e) (y.bX d c b e)
 | .gd k b' x=>if pP k c&&b' == b then .gd k b' (x.subst d e) else .gd (k.bX d c b e) b' (x.bX d c b e)
def E.occG (r:E) (d c:Nat) (b:Bool):Bool:=
 match r with
 | .tmp t=>t == d
 | .con _=>false
 | .un _ x=>x.occG d c b
 | .bin _ x y | .snoc x y=>x.occG d c b||y.occG d c b
 | .ite k x y=>if pP k c then(if b then x.occ d else y.occ d) else k.occG d c b
 | .gd k b' x=>if pP k c&&b' == b then x.occ d else k.occG d c b
section
variable {ρ:Nat->Option Value} {h:View} {d c:Nat} {b:Bool} {e:E} {u:Value}
theorem ga{k:E}(hk:pP k c=true):k = .tmp c:=by cases k<;>simp[pP]at hk;subst hk;rfl
theorem di (hu:ev ρ h e=some u) : ∀r:E,ev ρ h (r.subst d e)=ev (updF ρ d u) h r
 | .tmp t=>by simp only[E.subst];split<;>simp_all [ev,updF]
 | .con v=>rfl
 | .un o x=>by simp only[E.subst,ev,di hu x]
 | .bin o x y=>by simp only[E.subst,ev,di hu x,di hu y]
 | .snoc x y=>by simp only[E.subst,ev,di hu x,di hu y]
 | .ite k x y=>by simp only[E.subst,ev,di hu k,di hu x,di hu y]
 | .gd k b x=>by simp only[E.subst,ev,di hu k,di hu x]
theorem nc(hu:ev ρ h (.gd (.tmp c) b e)=some u)(hcd:c≠d)(r:E):ev ρ h (r.bX d c b e)=ev (updF ρ d u) h r:=by
 have hρ:updF ρ d u c=ρ c:=by simp[updF,hcd]
 induction r with
 | tmp t=>
  simp only[E.bX];split
  ·rename_i ht;rw[hu];simp[ev,updF,ht]
  rename_i ht;simp[ev,updF,ht]
 | con v=>rfl
 | un o x ih=>simp only[E.bX,ev,ih]
 | bin o x y ihx ihy=>simp only[E.bX,ev,ihx,ihy]
 | snoc x y ihx ihy=>simp only[E.bX,ev,ihx,ihy]
 | ite k x y ihk ihx ihy=>
  simp only[E.bX];split
  ·rename_i hk;obtain rfl:=ga hk;split
   ·rename_i hb;simp only[ev,hρ];split
    ·rename_i hc;simp only[ev,hc,hb,if_true]at hu;exact di hu x
    ·exact ihy
    rfl
   rename_i hb;simp only[ev,hρ];split
   ·exact ihx
   ·rename_i hc;simp only[ev,hc,hb]at hu;exact di hu y
   rfl
  simp only[ev,ihk,ihx,ihy]
 | gd k b' x ihk ihx=>
  simp only[E.bX];split
  ·rename_i hk;simp only[DC,beq_iff_eq]at hk;obtain⟨hk,hb'⟩:=hk;obtain rfl:=ga hk;simp only[ev,hρ,hb'];split
   ·rename_i hc;split
    ·rename_i hb;simp only[ev,hc,hb,if_true]at hu;exact di hu x
    rfl
   ·rename_i hc;split
    ·rfl
    rename_i hb;simp only[ev,hc,hb]at hu;exact di hu x
   ·rfl
   rfl
  simp only[ev,ihk,ihx]
theorem fr : ∀{r:E} {v:Value},r.occ d=true->ev ρ h (r.subst d e)=some v->∃u,ev ρ h e=some u
 | .tmp t,v,ho,hv=>by simp[E.occ]at ho;simp[E.subst,ho]at hv;exact⟨v,hv⟩
 | .con _,_,ho,_=>by simp[E.occ]at ho
 | .un o x,v,ho,hv=>by simp only[E.occ]at ho;simp only[E.subst]at hv;obtain⟨u,hu,_⟩:=fL hv;exact fr ho hu
 | .bin o x y,v,ho,hv=>by
  simp only[E.occ,Ed]at ho;simp only[E.subst]at hv;obtain⟨u,u',hu,hu',_⟩:=ep hv;rcases ho with ho | ho
  ·exact fr ho hu
  exact fr ho hu'
 | .snoc x y,v,ho,hv=>by
  simp only[E.occ,Ed]at ho;simp only[E.subst,ev]at hv;split at hv
  ·rename_i hu hu';rcases ho with ho | ho
   ·exact fr ho hu
   exact fr ho hu'
  cases hv
 | .ite k x y,v,ho,hv=>by
  simp only[E.occ]at ho;simp only[E.subst,ev]at hv;split at hv
  ·rename_i hu;exact fr ho hu
  ·rename_i hu;exact fr ho hu
  cases hv
 | .gd k b x,v,ho,hv=>by
  simp only[E.occ]at ho;simp only[E.subst,ev]at hv;split at hv
  ·rename_i hu;exact fr ho hu
  ·rename_i hu;exact fr ho hu
  ·rename_i hu;exact fr ho hu
  cases hv
theorem oh(hc:ρ c=some (.bool b)):ev ρ h (.gd (.tmp c) b e)=ev ρ h e:=by cases b<;>simp[ev,hc]
theorem fP (hc:ρ c=some (.bool b)) : ∀{r:E} {v:Value},r.occG d c b=true->ev ρ h (r.bX d c b e)=some v->∃u,ev ρ h e=some u
 | .tmp t,v,ho,hv=>by simp[E.occG]at ho;simp only[E.bX,ho,if_true,oh hc]at hv;exact⟨v,hv⟩
 | .con _,_,ho,_=>by simp[E.occG]at ho
 | .un o x,v,ho,hv=>by simp only[E.occG]at ho;simp only[E.bX]at hv;obtain⟨u,hu,_⟩:=fL hv;exact fP hc ho hu
 | .bin o x y,v,ho,hv=>by
  simp only[E.occG,Ed]at ho;simp only[E.bX]at hv;obtain⟨u,u',hu,hu',_⟩:=ep hv;rcases ho with ho | ho
  ·exact fP hc ho hu
  exact fP hc ho hu'
 | .snoc x y,v,ho,hv=>by
  simp only[E.occG,Ed]at ho;simp only[E.bX,ev]at hv;split at hv
  ·rename_i hu hu';rcases ho with ho | ho
   ·exact fP hc ho hu
   exact fP hc ho hu'
  cases hv
 | .ite k x y,v,ho,hv=>by
  simp only[E.occG]at ho;simp only[E.bX]at hv;split at ho
  ·rename_i hk;rw[if_pos hk]at hv;obtain rfl:=ga hk;cases b
   ·simp only[Er,if_false]at ho hv;simp only[ev,hc]at hv;exact fr ho hv
   simp only[if_true]at ho hv;simp only[ev,hc]at hv;exact fr ho hv
  rename_i hk;rw[if_neg hk]at hv;simp only[ev]at hv;split at hv
  ·rename_i hu;exact fP hc ho hu
  ·rename_i hu;exact fP hc ho hu
  cases hv
 | .gd k b' x,v,ho,hv=>by
  simp only[E.occG]at ho;simp only[E.bX]at hv;split at ho
  ·rename_i hk;rw[if_pos hk]at hv;simp only[DC,beq_iff_eq]at hk;obtain⟨hk,rfl⟩:=hk;obtain rfl:=ga hk;rw[oh hc]at hv;exact fr ho hv
  rename_i hk;rw[if_neg hk]at hv;simp only[ev]at hv;split at hv
  ·rename_i hu;exact fP hc ho hu
  ·rename_i hu;exact fP hc ho hu
  ·rename_i hu;exact fP hc ho hu
  cases hv
theorem dX (hcd:c≠d) : ∀{r:E} {v:Value},r.occG d c b=true->ev ρ h (r.bX d c b e)=some v->∃u,ev ρ h (.tmp c)=some u
 | .tmp t,v,ho,hv=>by
  simp[E.occG]at ho;simp only[E.bX,ho,if_true]at hv;cases hc:ρ c with
  | none=>simp[ev,hc]at hv
  | some u=>exact⟨u,hc⟩
 | .con _,_,ho,_=>by simp[E.occG]at ho
 | .un o x,v,ho,hv=>by simp only[E.occG]at ho;simp only[E.bX]at hv;obtain⟨u,hu,_⟩:=fL hv;exact dX hcd ho hu
 | .bin o x y,v,ho,hv=>by
  simp only[E.occG,Ed]at ho;simp only[E.bX]at hv;obtain⟨u,u',hu,hu',_⟩:=ep hv;rcases ho with ho | ho
  ·exact dX hcd ho hu
  exact dX hcd ho hu'
 | .snoc x y,v,ho,hv=>by
  simp only[E.occG,Ed]at ho;simp only[E.bX,ev]at hv;split at hv
  ·rename_i hu hu';rcases ho with ho | ho
   ·exact dX hcd ho hu
   exact dX hcd ho hu'
  cases hv
 | .ite k x y,v,ho,hv=>by
  simp only[E.occG]at ho;simp only[E.bX]at hv;split at ho
  ·rename_i hk;rw[if_pos hk]at hv;obtain rfl:=ga hk;cases hc:ρ c with
   | none=>cases b<;>simp[ev,hc]at hv
   | some u=>exact⟨u,hc⟩
  rename_i hk;rw[if_neg hk]at hv;simp only[ev]at hv;split at hv
  ·rename_i hu;exact dX hcd ho hu
  ·rename_i hu;exact dX hcd ho hu
  cases hv
 | .gd k b' x,v,ho,hv=>by
  simp only[E.occG]at ho;simp only[E.bX]at hv;split at ho
  ·rename_i hk;rw[if_pos hk]at hv;simp only[DC,beq_iff_eq]at hk;obtain⟨hk,rfl⟩:=hk;obtain rfl:=ga hk;cases hc:ρ c with
   | none=>simp[ev,hc]at hv
   | some u=>exact⟨u,hc⟩
  rename_i hk;rw[if_neg hk]at hv;simp only[ev]at hv;split at hv
  ·rename_i hu;exact dX hcd ho hu
  ·rename_i hu;exact dX hcd ho hu
  ·rename_i hu;exact dX hcd ho hu
  cases hv
theorem vO : ∀{l:List E} {vs:List Value},evs ρ h l=some vs->vs.length=l.length
 | [],vs,hv=>by simp[evs]at hv;subst hv;rfl
 | e::l,vs,hv=>by
  simp only[evs]at hv;split at hv
  ·rename_i hl;simp only[o0]at hv;subst hv;simp[vO hl]
  cases hv
theorem mG {p:E->Bool} {f:E->E} (hp : ∀r v,p r=true->ev ρ h (f r)=some v->∃u,ev ρ h e=some u) :
  ∀{l:List E} {vs:List Value},l.any p=true->evs ρ h (l.map f)=some vs->∃u,ev ρ h e=some u
 | [],_,ha,_=>by simp at ha
 | r::l,vs,ha,hv=>by
  simp only[Et,evs]at hv;split at hv
  ·rename_i h1 h2;simp only[List.any_cons,Ed]at ha;rcases ha with ha | ha
   ·exact hp _ _ ha h1
   exact mG hp ha h2
  cases hv
theorem kH {f:E->E} {ρ':Nat->Option Value} (hf : ∀r,ev ρ h (f r)=ev ρ' h r) : ∀l:List E,evs ρ h (l.map f)=evs ρ' h l
 | []=>rfl
 | r::l=>by simp only[Et,evs,hf r,kH hf l]
theorem lK : ∀{l m:List E} {vs:List Value},evs ρ h (l++m)=some vs->∃us ws,evs ρ h l=some us/\evs ρ h m=some ws/\vs=us++ws
 | [],m,vs,hv=>⟨[],vs,rfl,hv,rfl⟩
 | e::l,m,vs,hv=>by
  simp only[Fz,evs]at hv;split at hv
  ·rename_i v1 vs1 h1 h2;simp only[o0]at hv;subst hv;obtain⟨us,ws,hu,hw,rfl⟩:=lK h2;exact⟨v1::us,ws,by simp[evs,h1,hu],hw,rfl⟩
  cases hv
end
def mH (P:Program) (N:Nat) (ops0:Array Oper) (o:Oper) (r:List E):Option (List E):=
 match o.dst,opE P o.op with
 | some d,some e=>
  if d<N then
   match o.guard with
   | none=>if r.any (·.occ d) then some (r.map (·.subst d e)) else some ((r++[E.tmp d]).map (fun x=>x.subst d e))
   | some (j,b)=>match (ops0[j]?).bind (·.dst)with
    | some c=>if c=d then none else if r.any (·.occG d c b) then some (r.map (·.bX d c b e)) else some ((r++[E.tmp d]).map (fun x=>x.bX d c b e))
    | none=>none
  else none
 | _,_=>none
def back (P:Program) (N:Nat) (ops0:Array Oper):List Oper->List E->Option (List E)
 | [],r=>some r
 | o::rest,r=>match back P N ops0 rest r with
  | some r1=>mH P N ops0 o r1
  | none=>none
def nr (P:Program) (o:Oper):Bool:=match opE P o.op with | some e=>!e.reads | none=>false
variable{P:Program}
theorem nQ{o:Oper}{e:E}(he:opE P o.op=some e)(hp:nr P o=true):e.reads=false:=by simpa[nr,he]using hp
def eD (P:Program) (ops0:Array Oper) (H:View) (o:Oper) (v:Value) (a:Act):Prop:=
 (Region.wanted o (yielded ops0 a.tmps)=true/\(∀w:World,H.sub (vw w.heap)->(execOp a.eval o).run P w = .ok (.value v) w)/\(nr P o=true->∀w:World,(execOp a.eval o).run P w = .ok (.value v) w))\/
 (Region.wanted o (yielded ops0 a.tmps)=false/\v=undef)
def QRun (P:Program) (ops0:Array Oper) (H:View):List Oper->Act->Act->Prop
 | [],a,a'=>a'=a
 | o::rest,a,a'=>∃v,eD P ops0 H o v a/\QRun P ops0 H rest (a.put o.dst v) a'
theorem xb{a:Act}{d:Nat}{v:Value}(hd:d<a.tmps.size):aO (a.put (some d) v)=updF (aO a) d v:=by
 funext t;simp only[aO,Act.put,updF,Array.getElem?_setIfInBounds];split
 ·rename_i h;subst h;simp
 rename_i h;rw[if_neg (Ne.symm h)]
variable{ops0:Array Oper}
theorem pA{N:Nat}{o:Oper}{r r':List E}{a:Act}{vs:List Value}(hN:a.tmps.size=N)(hb:mH P N ops0 o r=some r')(hv:evs (aO a) H r'=some vs):
  ∃u,eD P ops0 H o u a/\(a.put o.dst u).tmps.size=N/\∃us ws,evs (aO (a.put o.dst u)) H r=some us/\vs=us++ws:=by
 unfold mH at hb;cases hd:o.dst with
 | none=>simp[hd]at hb
 | some d=>
  cases he:opE P o.op with
  | none=>simp[hd,he]at hb
  | some e=>
   simp only[hd,he]at hb;split at hb;case isFalse=>cases hb
   rename_i hlt;have hsz : ∀u,(a.put (some d) u).tmps.size=N:=fun u=>by simp[Act.put,hN]
   have hput : ∀u,aO (a.put (some d) u)=updF (aO a) d u:=fun u=>xb (by rw[hN];exact hlt);cases hg:o.guard with
   | none=>
    simp only[hg]at hb;have hw:Region.wanted o (yielded ops0 a.tmps)=true:=by simp[Region.wanted,hg]
    have key : ∃u,ev (aO a) H e=some u/\∃us ws,evs (updF (aO a) d u) H r=some us/\vs=us++ws:=by
     split at hb
     ·rename_i hany;simp only[o0]at hb;subst hb;obtain⟨u,hu⟩:=mG (e:=e) (fun r v h1 h2=>fr h1 h2) hany hv;refine⟨u,hu,vs,[],?_,by simp⟩;rw[kH (di hu)]at hv;exact hv
     simp only[o0]at hb;subst hb;obtain⟨u,hu⟩:=mG (e:=e) (p:=(·.occ d)) (fun r v h1 h2=>fr h1 h2) (by simp[E.occ]) hv;rw[kH (di hu)]at hv;obtain⟨us,ws,h1,h2,h3⟩:=lK hv;exact⟨u,hu,us,ws,h1,h3⟩
    obtain⟨u,hu,us,ws,h1,h2⟩:=key;exact⟨u,.inl ⟨hw,fun w hw'=>kD he (dY hw' hu),fun hp w=>kD he (by rw[eF (nQ he hp) (h':=H)];exact hu)⟩,hsz u,us,ws,by rw[hput];exact h1,h2⟩
   | some jb=>
    obtain⟨j,b⟩:=jb;simp only[hg]at hb;split at hb;case h_2=>cases hb
    rename_i c hc;split at hb;case isTrue=>cases hb
    rename_i hcd;have hwanted:Region.wanted o (yielded ops0 a.tmps)=true↔aO a c=some (.bool b):=by
     simp only[Region.wanted,hg,yielded,hc,D0,aO,beq_iff_eq];split
     ·rename_i b' hb';rw[hb'];simp
     rename_i hne;constructor
     ·intro h;cases h
     intro h;exact absurd h (hne b)
    have gval : ∀v,ev (aO a) H (.gd (.tmp c) b e)=some v->eD P ops0 H o v a:=by
     intro v hv';by_cases hw:Region.wanted o (yielded ops0 a.tmps)=true
     ·have h1:=hwanted.1 hw;rw[oh h1]at hv';exact .inl ⟨hw,fun w hw'=>kD he (dY hw' hv'),fun hp w=>kD he (by rw[eF (nQ he hp) (h':=H)];exact hv')⟩
     refine .inr ⟨by simpa using hw,?_⟩;have h1:aO a c≠some (.bool b):=fun h=>hw (hwanted.2 h);simp only[ev]at hv';split at hv'
     ·rename_i hcc;cases b
      ·simpa using hv'.symm
      exact absurd hcc h1
     ·rename_i hcc;cases b
      ·exact absurd hcc h1
      simpa using hv'.symm
     ·simpa using hv'.symm
     cases hv'
    have key : ∃u,ev (aO a) H (.gd (.tmp c) b e)=some u/\∃us ws,evs (updF (aO a) d u) H r=some us/\vs=us++ws:=by
     split at hb
     ·rename_i hany;simp only[o0]at hb;subst hb;by_cases hw:aO a c=some (.bool b)
      ·obtain⟨u,hu⟩:=mG (e:=e) (fun r v h1 h2=>fP hw h1 h2) hany hv;have hu':ev (aO a) H (.gd (.tmp c) b e)=some u:=by rw[oh hw];exact hu
       rw[kH (nc hu' hcd)]at hv;exact⟨u,hu',vs,[],hv,by simp⟩
      cases hcv:aO a c with
      | none=>exfalso;obtain⟨u,hu⟩:=mG (e:=.tmp c) (p:=(·.occG d c b)) (f:=(·.bX d c b e)) (fun r v h1 h2=>dX hcd h1 h2) hany hv;simp only[ev]at hu;rw[hcv]at hu;cases hu
      | some cv=>
       have hu':ev (aO a) H (.gd (.tmp c) b e)=some undef:=by
        simp only[ev,hcv];split
        ·rename_i h1;simp only[o0]at h1;subst h1;cases b
         ·simp
         exact absurd hcv hw
        ·rename_i h1;simp only[o0]at h1;subst h1;cases b
         ·exact absurd hcv hw
         simp
        ·rfl
        rename_i h1;cases h1
       rw[kH (nc hu' hcd)]at hv;exact⟨undef,hu',vs,[],hv,by simp⟩
     simp only[o0]at hb;subst hb;rw[Fa]at hv;obtain⟨us,ws,h1,h2,h3⟩:=lK hv;simp only[Et,List.map_nil,E.bX,if_true,evs]at h2;split at h2
     ·rename_i u _ hu _;rw[kH (nc hu hcd)]at h1;exact⟨u,hu,us,ws,h1,h3⟩
     cases h2
    obtain⟨u,hu,us,ws,h1,h2⟩:=key;exact⟨u,gval u hu,hsz u,us,ws,by rw[hput];exact h1,h2⟩
abbrev Env:=List (Nat × Value)
def look:Env->Nat->Option Value
 | [],_=>none
 | (k,v)::r,t=>if k=t then some v else look r t
def setE (ρ:Env) (t:Nat) (v:Value):Env:=
 match ρ with
 | []=>[(t,v)]
 | (k,u)::r=>if k=t then(t,v)::r else if t<k then(t,v)::(k,u)::r else(k,u)::setE r t v
def cG (ρ:Env):List (Nat × Value)->Env
 | []=>ρ
 | (t,v)::r=>cG (setE ρ t v) r
def bu (ρ:Env) (ts:List Nat):Env:=ρ.filter fun p=>!ts.contains p.1
def putE (ρ:Env) (dst:Option Nat) (keep:Bool) (v:Value):Env:=
 match dst with
 | some d=>if keep then setE ρ d v else bu ρ [d]
 | none=>ρ
theorem aI(ρ:Env)(t:Nat)(v:Value)(s:Nat):look (setE ρ t v) s=if t=s then some v else look ρ s:=by
 induction ρ with
 | nil=>simp[setE,look]
 | cons p r ih=>
  obtain⟨k,u⟩:=p;simp only[setE];split
  ·rename_i h;subst h;simp only[look];split<;>rfl
  rename_i h;split
  ·simp only[look]
  simp only[look,ih];by_cases h1:k=s
  ·subst h1;simp[Ne.symm h]
  simp[h1]
theorem iA(ρ:Env)(ts:List Nat)(s:Nat)(v:Value)(h:look (bu ρ ts) s=some v):s∉ts/\look ρ s=some v:=by
 induction ρ with
 | nil=>simp[bu,look]at h
 | cons p r ih=>
  obtain⟨k,u⟩:=p;simp only[bu,FA]at h;split at h
  ·rename_i hk;simp only[look]at h ⊢;split at h
   ·rename_i e;subst e;exact⟨by simpa using hk,by simpa using h⟩
   rename_i e;have:=ih h;exact⟨this.1,by rw[if_neg e];exact this.2⟩
  rename_i hk;have:=ih h;refine⟨this.1,?_⟩;simp only[look];split
  ·rename_i e;subst e;exact absurd (by simpa using hk) this.1
  exact this.2
theorem pw : ∀(vs:List (Nat × Value)) (ρ:Env) (s:Nat) (v:Value),look (cG ρ vs) s=some v->(s,v)∈vs\/look ρ s=some v
 | [],_,_,_,h=>.inr h
 | (t,u)::r,ρ,s,v,h=>by
  rcases pw r (setE ρ t u) s v h with h2 | h2
  ·exact .inl (DB _ h2)
  rw[aI]at h2;split at h2
  ·rename_i e;cases h2;rw[<-e];exact .inl (Dz ..)
  exact .inr h2
def Sat (ρ:Env) (a:Act):Prop:=∀t v,look ρ t=some v->a.tmps[t]? = some v
theorem eJ {ρ ρ':Nat->Option Value} {H:View} (hρ : ∀t v,ρ t=some v->ρ' t=some v) : ∀{e:E} {v:Value},ev ρ H e=some v->ev ρ' H e=some v
 | .tmp t,v,h=>hρ t v h
 | .con _,_,h=>h
 | .un o x,v,h=>by obtain⟨u,hu,h⟩:=fL h;simp only[ev,eJ hρ hu];exact h
 | .bin o x y,v,h=>by obtain⟨u,u',hu,hu',h⟩:=ep h;simp only[ev,eJ hρ hu,eJ hρ hu'];exact h
 | .snoc x y,v,h=>by
  simp only[ev]at h ⊢;split at h
  ·rename_i u u' hu hu';simp only[eJ hρ hu,eJ hρ hu'];exact h
  cases h
 | .ite c x y,v,h=>by
  simp only[ev]at h ⊢;split at h
  ·rename_i hu;simp only[eJ hρ hu];exact eJ hρ h
  ·rename_i hu;simp only[eJ hρ hu];exact eJ hρ h
  cases h
 | .gd c b x,v,h=>by
  simp only[ev]at h ⊢;split at h
  ·rename_i hu;simp only[eJ hρ hu];split at h
   ·rename_i hb;simp only[hb,if_true];exact eJ hρ h
   rename_i hb;simp only[hb];exact h
  ·rename_i hu;simp only[eJ hρ hu];split at h
   ·rename_i hb;simp only[hb,if_true];exact h
   rename_i hb;simp only[hb];exact eJ hρ h
  ·rename_i u h1 h2 hu;simp only[eJ hρ hu];exact h
  cases h
def evP (ρ:Nat->Option Value) (H:View):List (Nat × E)->Option (List (Nat × Value))
 | []=>some []
 | (t,e)::r=>match ev ρ H e,evP ρ H r with
  | some v,some vs=>some ((t,v)::vs)
  | _,_=>none
def okE (ρ:Nat->Option Value) (H:View):List E->Prop
 | []=>True
 | e::r=>(∃v,ev ρ H e=some v)/\okE ρ H r
theorem rf {ρ:Nat->Option Value} {H:View} : ∀{ts:List Nat} {es:List E} {vs:List (Nat × Value)},ts.length<=es.length->evP ρ H (ts.zip es)=some vs->
  evs ρ H (es.take ts.length)=some (vs.map (·.2))/\vs.map (·.1)=ts
 | [],es,vs,_,h=>by simp[evP]at h;subst h;simp[evs]
 | t::ts,[],vs,hl,_=>by simp at hl
 | t::ts,e::es,vs,hl,h=>by
  simp only[Fe,evP]at h;split at h
  ·rename_i v vs' hv hvs;simp only[o0]at h;subst h;obtain⟨h1,h2⟩:=rf (by simpa using hl) hvs;simp[evs,hv,h1,h2]
  cases h
theorem we {ρ:Nat->Option Value} {H:View} : ∀{es:List E},okE ρ H es->∃vs,evs ρ H es=some vs
 | [],_=>⟨[],rfl⟩
 | e::es,h=>by obtain⟨⟨v,hv⟩,h⟩:=h;obtain⟨vs,hvs⟩:=we h;exact⟨v::vs,by simp[evs,hv,hvs]⟩
theorem v7 {ρ:Nat->Option Value} {H:View} : ∀{l m:List E} {us ws:List Value},evs ρ H l=some us->evs ρ H m=some ws->evs ρ H (l++m)=some (us++ws)
 | [],m,us,ws,h1,h2=>by simp[evs]at h1;subst h1;simpa using h2
 | e::l,m,us,ws,h1,h2=>by
  simp only[evs]at h1;split at h1
  ·rename_i v vs hv hvs;simp only[o0]at h1;subst h1;simp only[Fz,evs,hv,v7 hvs h2]
  cases h1
theorem kT {ρ ρ':Nat->Option Value} {H:View} (hρ : ∀t v,ρ t=some v->ρ' t=some v) : ∀{l:List E} {us:List Value},evs ρ H l=some us->evs ρ' H l=some us
 | [],us,h=>h
 | e::l,us,h=>by
  simp only[evs]at h;split at h
  ·rename_i v vs hv hvs;simp only[evs,eJ hρ hv,kT hρ hvs];exact h
  cases h
theorem sH {a:Act} {H:View} : ∀{ts:List Nat} {vs:List (Nat × Value)},vs.map (·.1)=ts->evs (aO a) H (ts.map E.tmp)=some (vs.map (·.2))->∀p∈vs,a.tmps[p.1]? = some p.2
 | [],vs,h,_,p,hp=>by cases vs<;>simp at h;cases hp
 | t::ts,[],h,_,p,hp=>by cases hp
 | t::ts,q::vs,h,he,p,hp=>by
  simp only[Et,List.cons.injEq]at h;obtain⟨h0,h⟩:=h;simp only[Et,evs]at he;split at he
  ·rename_i v vs' hv hvs;simp only[o0,List.cons.injEq]at he;rcases DL.1 hp with rfl | hp
   ·simp only[ev,aO]at hv;rw[h0,hv,he.1]
   exact sH h (by rw[hvs,he.2]) p hp
  cases he
theorem tI : ∀{us:List (Nat × Value)} {t:Nat} {v:Value},look us t=some v->(t,v)∈us
 | [],_,_,h=>by simp[look]at h
 | (k,u)::r,t,v,h=>by
  simp only[look]at h;split at h
  ·rename_i e;subst e;simp only[o0]at h;subst h;exact Dz ..
  exact DB _ (tI h)
theorem qE : ∀{us:List (Nat × Value)} {t:Nat},t∈us.map (·.1)->∃v,look us t=some v
 | [],_,h=>by simp at h
 | (k,u)::r,t,h=>by
  simp only[look];split
  ·exact⟨u,rfl⟩
  rename_i e;simp only[Et,DL]at h;rcases h with h | h
  ·exact absurd h.symm e
  exact qE h
theorem mq {P:Program} {N:Nat} {ops0:Array Oper} : ∀{qs:List Oper} {r r':List E},back P N ops0 qs r=some r'->r.length<=r'.length
 | [],r,r',h=>by simp[back]at h;subst h;exact Dy _
 | o::qs,r,r',h=>by
  simp only[back]at h;split at h
  ·rename_i r1 h1;have:=mq h1;refine DW this ?_;unfold mH at h;repeat' (split at h)
   all_goals first
    | (simp only[o0]at h;subst h;simp)
    | cases h
  cases h
theorem ov {P:Program} {N:Nat} {ops0:Array Oper} {H:View} : ∀{qs:List Oper} {r r':List E} {a:Act} {vs:List Value},
  back P N ops0 qs r=some r'->a.tmps.size=N->evs (aO a) H r'=some vs->
  ∃a',QRun P ops0 H qs a a'/\a'.tmps.size=N/\a'.defers=a.defers/\(∀t,(∀o∈qs,o.dst≠some t)->a'.tmps[t]? = a.tmps[t]?)/\
   ∃us ws,evs (aO a') H r=some us/\vs=us++ws
 | [],r,r',a,vs,h,hN,hv=>by simp[back]at h;subst h;exact⟨a,rfl,hN,rfl,fun _ _=>rfl,vs,[],hv,by simp⟩
 | o::qs,r,r',a,vs,h,hN,hv=>by
  simp only[back]at h;split at h
  ·rename_i r1 h1;obtain⟨u,hy,hsz,us,ws,hus,rfl⟩:=pA hN h hv;obtain⟨a',hq,hsz',hd,hfr,us',ws',hus',rfl⟩:=ov h1 hsz hus;refine⟨a',⟨u,hy,hq⟩,hsz',?_,?_,us',ws'++ws,hus',by simp⟩
   ·rw[hd];cases o.dst<;>rfl
   intro t ht;rw[hfr t (fun o' ho'=>ht o' (DB _ ho'))];have:=ht o (Dz ..);cases hdst:o.dst with
   | none=>rfl
   | some d=>have hne:d≠t:=fun e=>this (by rw[hdst,e]);simp[Act.put,D8 hne]
  cases h
def dstsOf (qs:List Oper):List Nat:=qs.filterMap (·.dst)
variable{ts:List Nat}{es:List E}{ρ:Env}{us:List (Nat × Value)}
theorem lQ{N:Nat}{qs:List Oper}{a:Act}(hb:back P N ops0 qs (ts.map E.tmp)=some es)(hN:a.tmps.size=N)(hρ:Sat ρ a)(hv:evP (look ρ) H (ts.zip es)=some us)(hc:okE (look ρ) H (es.drop ts.length)):
  ∃a',QRun P ops0 H qs a a'/\a'.tmps.size=N/\a'.defers=a.defers/\Sat (bu ρ (dstsOf qs)) a'/\(∀p∈us,a'.tmps[p.1]? = some p.2):=by
 have hl:ts.length<=es.length:=by simpa using mq hb
 obtain⟨h1,h2⟩:=rf hl hv;obtain⟨ws,h3⟩:=we hc;have h4:=v7 h1 h3;rw[EU]at h4;have hs : ∀t v,look ρ t=some v->aO a t=some v:=fun t v h=>hρ t v h;obtain⟨a',hq,hsz,hd,hfr,us',ws',hus,he⟩:=ov hb hN (kT hs h4);refine⟨a',hq,hsz,hd,?_,?_⟩
 ·intro t v h;obtain⟨hk,hl⟩:=iA _ _ _ _ h;rw[hfr t (fun o ho hdst=>hk (List.mem_filterMap.2 ⟨o,ho,hdst⟩))];exact hρ t v hl
 have e1:us'=us.map (·.2):=by
  have hlen:us'.length=(us.map (·.2)).length:=by have:=vO hus;rw[this];simp[<-h2]
  have:=congrArg (List.take us'.length) he;rw[FJ,hlen,FJ]at this;exact this.symm
 rw[e1]at hus;exact sH h2 hus
theorem pE{a:Act}{vs:List (Nat × Value)}(h:Sat ρ a)(hv : ∀p∈vs,a.tmps[p.1]? = some p.2):Sat (cG ρ vs) a:=by
 intro t v hl;rcases pw vs ρ t v hl with h1 | h1
 ·exact hv _ h1
 exact h t v h1
theorem tR{a:Act}(h:Sat ρ a):Sat (bu ρ ts) a:=fun t v hl=>h t v (iA _ _ _ _ hl).2
variable{dst:Option Nat}{keep:Bool}
theorem wm{a:Act}{v:Value}(h:Sat ρ a)(hd : ∀d,dst=some d->d<a.tmps.size):Sat (putE ρ dst keep v) (a.put dst v):=by
 cases dst with
 | none=>exact h
 | some d=>
  have hsz:=hd d rfl;intro t u hl;simp only[putE]at hl;split at hl
  ·rw[aI]at hl;split at hl
   ·rename_i e;subst e;simp only[o0]at hl;subst hl;simp[Act.put,hsz]
   rename_i e;simp only[Act.put,D8 e];exact h t u hl
  obtain⟨h1,h2⟩:=iA _ _ _ _ hl;have hne:d≠t:=fun e=>h1 (by simp[e]);simp only[Act.put,D8 hne];exact h t u h2
def Fw (r:Option Nat):Fence:={ Fence.wide with round:=r }
structure Same (w w':World):Prop where
 os:w'.os=w.os
 output:w'.output=w.output
 tape:w'.tape=w.tape
 size:w.heap.size<=w'.heap.size
 defs : ∀b:Nat,w.heap[b]? = some (.deferred (some []))->w'.heap[b]? = some (.deferred (some []))
theorem Same.refl(w:World):Same w w:=⟨rfl,rfl,rfl,Dy _,fun _ h=>h⟩
theorem Same.trans {a b c:World} (h:Same a b) (k:Same b c):Same a c:=⟨k.os.trans h.os,k.output.trans h.output,k.tape.trans h.tape,DW h.size k.size,fun i e=>k.defs i (h.defs i e)⟩
theorem Same.drawn {w:World} {n:Nat}:Same w { w with drawn:=n }:=⟨rfl,rfl,rfl,Dy _,fun _ h=>h⟩
theorem Same.lE{w w':World}(h1:w'.os=w.os)(h2:w'.output=w.output)(h3:w'.tape=w.tape)(hs:w.heap.size<=w'.heap.size){g:Nat}{o:Obj}(hg:w.heap[g]? = some o)(ho:o≠.deferred (some []))(hk : ∀k,k<w.heap.size->k≠g->w'.heap[k]? = w.heap[k]?):Same w w':=
 ⟨h1,h2,h3,hs,fun b hb=>by
  have hne:b≠g:=fun e=>by rw[e,hg]at hb;exact ho (Option.some.inj hb)
  rw[hk b (Dx.1 hb).1 hne];exact hb⟩
theorem Same.rH{w w':World}(h1:w'.os=w.os)(h2:w'.output=w.output)(h3:w'.tape=w.tape)(hs:w.heap.size<=w'.heap.size)(hk : ∀k,k<w.heap.size->w'.heap[k]? = w.heap[k]?):Same w w':=
 ⟨h1,h2,h3,hs,fun b hb=>by rw[hk b (Dx.1 hb).1];exact hb⟩
class OP where
 op:List PanicEntry->Heap->Prop
class PP where
 kp:List PanicEntry->Heap->Prop
 /-- What stands in the aO wherever it may. -/
 fx:Env->Prop
instance (priority:=low) noPP:PP:=⟨fun _ _=>False,fun _=>True⟩
instance (priority:=low) noOP:OP:=⟨fun _ _=>False⟩
def eC [po:OP] (P:Program) (s:Sem Next) (h:Heap) (K:Value->Heap->Prop):Prop:=
 ∀w:World,w.heap=h->∀(r:Option Nat) (o:Oper) (a:Act) (K':Act->World->Prop) (Q':Exit->Act->World->Prop),
  (∀v w',K v w'.heap->Same w w'->K' (a.put o.dst v) w')->(∀ch w',po.op ch w'.heap->Same w w'->Q' (.panic ch) a w')->o.uponIn (Fw r) 0 P a K' Q' (s.run P w)
def asg (us:List (Nat × Value)):Operand->Value
 | .tmp t=>(look us t).getD undef
 | .const v=>v
 | .global g=>.pointer (some ⟨g,0,none⟩)
 | .func f=>.func (.func f) #[] #[]
def aL (op : Op) (ty : TypeId) (us : List (Nat × Value)) : Sem Next := execOp (asg us) { dst := none, op, type := ty, pos := "", after := #[], guard := none }
def cX:Op->Bool
 | .select .. | .defer _=>false
 | _=>true
def tmpsOf (o:Oper):List Nat:=o.op.operands.toList.filterMap fun | .tmp t=>some t | _=>none
theorem Ab{o:Oper}{a:Act}(hp:cX o.op=true)(ht:us.map (·.1)=tmpsOf o)(hv : ∀p∈us,a.tmps[p.1]? = some p.2):
  execOp a.eval o=aL o.op o.type us:=by
 have h1 : ∀x∈o.op.operands,a.eval x=asg us x:=by
  intro x hx;cases x with
  | tmp t=>
   have hm:t∈us.map (·.1):=by rw[ht];exact List.mem_filterMap.2 ⟨.tmp t,by simpa using hx,rfl⟩
   obtain⟨v,hl⟩:=qE hm;have:=hv _ (tI hl);simp only at this;simp[asg,hl,Act.eval,this]
  | const v=>rfl
  | global g=>rfl
  | func f=>rfl
 rw[execOp_congr o (by intro cs b e;simp[cX,e]at hp) h1];rfl
theorem pS{po:OP}{o:Oper}{a:Act}{w:World}{r:Option Nat}{K:Value->Heap->Prop}{K':Act->World->Prop}{Q':Exit->Act->World->Prop}(hp:cX o.op=true)(ht:us.map (·.1)=tmpsOf o)(hv : ∀p∈us,a.tmps[p.1]? = some p.2)(hr:eC P (aL o.op o.type us) w.heap K)(hK : ∀v w',K v w'.heap->Same w w'->K' (a.put o.dst v) w')(hQ : ∀ch w',po.op ch w'.heap->Same w w'->Q' (.panic ch) a w'):o.wpIn (Fw r) 0 P a w K' Q':=by refine⟨fun _ _=>trivial,?_⟩;rw[Oper.semAt_eq _ _ _ (by intro c e;simp[cX,e]at hp),Ab hp ht hv];exact hr w rfl r o a K' Q' hK hQ
inductive Reg where
 | fin (kill:List Nat) (sets:List (Nat × E)) (chk:List E)
 | loud (kill:List Nat) (sets args:List (Nat × E)) (grd:Option (E × Bool)) (chk:List E) (tail:Bool) (op:Op) (ty:TypeId) (dst:Option Nat) (keep:Bool) (next:Reg)
 | both (x y:Reg)
 deriving Inhabited
def part (m:Option View) (h:Heap):View:=m.getD (vw h)
def jm (S:View->View->Prop) (m:Option View) (h:Heap):Prop:=∀H,m=some H->S H (vw h)
def keeps (m:Option View) (h:Heap):Prop:=jm View.le m h
def nothing:View:=fun _=>none
abbrev opAt [pp:PP] (m:Option View):OP:=⟨fun ch h=>(m.isNone=true\/∀ρ,pp.fx ρ)/\pp.kp ch h⟩
abbrev ppD (pp:PP):PP:=⟨fun ch h=>(∀ρ,pp.fx ρ)/\pp.kp ch h,fun _=>True⟩
def bI [pp:PP] (S:View->View->Prop) (P:Program) (m:Option View) (r:Reg) (Q:Env->Heap->Prop) (ρ:Env) (h:Heap):Prop:=
 match r with
 | .fin kill sets chk=>∃vs,evP (look ρ) (part m h) sets=some vs/\okE (look ρ) (part m h) chk/\Q (cG (bu ρ kill) vs) h
 | .loud kill sets args grd chk tail op ty dst keep next=>
  ∃vs us,evP (look ρ) (part m h) sets=some vs/\evP (look ρ) (part m h) args=some us/\okE (look ρ) (part m h) chk/\pp.fx (cG (bu ρ kill) vs)/\
   match grd with
   | none=>@eC (opAt m) P (aL op ty us) h fun v h'=>jm S (if tail then none else m) h'/\bI S P (if tail then m.map (fun _=>nothing) else m) next Q (putE (cG (bu ρ kill) vs) dst keep v) h'
   | some (g,b)=>∃gv,ev (look ρ) (part m h) g=some gv/\
    (gv = .bool b->@eC (opAt m) P (aL op ty us) h fun v h'=>jm S (if tail then none else m) h'/\bI S P (if tail then m.map (fun _=>nothing) else m) next Q (putE (cG (bu ρ kill) vs) dst keep v) h')/\
    (gv≠.bool b->bI S P (if tail then m.map (fun _=>nothing) else m) next Q (putE (cG (bu ρ kill) vs) dst keep undef) h)
 | .both x y=>bI S P m x Q ρ h/\bI S P m y Q ρ h
def df [pp:PP] (P:Program) (m:Option View) (r:Reg) (Q:Env->Heap->Prop) (ρ:Env) (h:Heap):Prop:=bI View.le P m r Q ρ h
def yK (ops0:Array Oper) (o:Oper):Option Nat:=
 match o.guard with
 | some (j,_)=>(ops0[j]?).bind (·.dst)
 | none=>none
def yX (ops0:Array Oper) (l:List Oper):List Nat:=l.flatMap fun o=>tmpsOf o++(yK ops0 o).toList
def AG (N:Nat):Option Nat->Bool
 | some d=>decide (d<N)
 | none=>true
def wx (P:Program) (N:Nat) (ops0:Array Oper) (live:List Nat) (qs:List Oper):Option Reg:=
 let outs:=(dstsOf qs).filter live.contains
 match back P N ops0 qs (outs.map E.tmp)with
 | some es=>some (.fin (dstsOf qs) (outs.zip es) (es.drop outs.length))
 | none=>none
def pq (P:Program) (N:Nat) (ops0:Array Oper) (live:List Nat) (qs:List Oper) (o:Oper) (rest:List Oper) (tail:Bool) (next:Reg):Option Reg:=
 let need:=live++yX ops0 rest
 let outs:=(dstsOf qs).filter need.contains
 let args:=tmpsOf o
 let keep:=match o.dst with | some d=>need.contains d | none=>false
 if cX o.op&&AG N o.dst then
  match o.guard with
  | none=>
   match back P N ops0 qs ((outs++args).map E.tmp)with
   | some es=>some (.loud (dstsOf qs) (outs.zip es) (args.zip (es.drop outs.length)) none (es.drop (outs++args).length) tail o.op o.type o.dst keep next)
   | none=>none
  | some (j,b)=>
   match (ops0[j]?).bind (·.dst)with
   | some c=>
    match back P N ops0 qs ((outs++args++[c]).map E.tmp)with
    | some es=>match es.drop (outs++args).length with
     | g::chk=>some (.loud (dstsOf qs) (outs.zip es) (args.zip (es.drop outs.length)) (some (g,b)) chk tail o.op o.type o.dst keep next)
     | []=>none
    | none=>none
   | none=>none
 else none
def isQ (P:Program) (o:Oper):Bool:=(opE P o.op).isSome&&o.dst.isSome
def regU (P:Program) (N:Nat) (ops0:Array Oper) (live:List Nat):Nat->List Oper->Option Reg
 | 0,_=>none
 | f+1,ops=>
  let qs:=ops.takeWhile (isQ P);match ops.dropWhile (isQ P)with
  | []=>wx P N ops0 live qs
  | o::rest=>match regU P N ops0 live f rest with
   | some next=>pq P N ops0 live qs o rest false next
   | none=>none
theorem kP {ρ:Nat->Option Value} {H:View} : ∀{ts ss:List Nat} {es:List E} {us vs:List (Nat × Value)},ts.length<=es.length->
  evP ρ H (ts.zip es)=some us->evP ρ H (ss.zip (es.drop ts.length))=some vs->evP ρ H ((ts++ss).zip es)=some (us++vs)
 | [],ss,es,us,vs,_,h1,h2=>by simp[evP]at h1;subst h1;simpa using h2
 | t::ts,ss,[],us,vs,hl,_,_=>by simp at hl
 | t::ts,ss,e::es,us,vs,hl,h1,h2=>by
  simp only[Fe,evP]at h1;split at h1
  ·rename_i v vs' hv hvs;simp only[o0]at h1;subst h1;simp only[Fz,Fe,evP,hv,kP (by simpa using hl) hvs (by simpa using h2)]
  cases h1
theorem sL{ρ:Nat->Option Value}(hl:ts.length<=es.length)(h:evP ρ H (ts.zip es)=some us):us.map (·.1)=ts:=(rf hl h).2
variable{live:List Nat}{next:Reg}{m:Option View}{Q:Env->Heap->Prop}
theorem jr{pp:PP}{N:Nat}{qs rest:List Oper}{o:Oper}{tail:Bool}{R:Reg}(hR:pq P N ops0 live qs o rest tail next=some R){S:View->View->Prop}{h:Heap}{a:Act}(hN:a.tmps.size=N)(hρ:Sat ρ a)(hw:bI S P m R Q ρ h):
  cX o.op=true/\(∀d,o.dst=some d->d<N)/\∃a' ρ' us keep,QRun P ops0 (part m h) qs a a'/\a'.tmps.size=N/\a'.defers=a.defers/\Sat ρ' a'/\us.map (·.1)=tmpsOf o/\(∀p∈us,a'.tmps[p.1]? = some p.2)/\
   pp.fx ρ'/\(Region.wanted o (yielded ops0 a'.tmps)=true->@eC (opAt m) P (aL o.op o.type us) h fun v h'=>jm S (if tail then none else m) h'/\bI S P (if tail then m.map (fun _=>nothing) else m) next Q (putE ρ' o.dst keep v) h')/\
   (Region.wanted o (yielded ops0 a'.tmps)=false->bI S P (if tail then m.map (fun _=>nothing) else m) next Q (putE ρ' o.dst keep undef) h):=by
 unfold pq at hR;simp only at hR;split at hR;case isFalse=>cases hR
 rename_i hpd;simp only[DC]at hpd;refine⟨hpd.1,?_,?_⟩
 ·intro d hd;have:=hpd.2;simpa[hd,AG]using this
 generalize ho:(dstsOf qs).filter (live++yX ops0 rest).contains=outs at hR;cases hg:o.guard with
 | none=>
  simp only[hg]at hR;split at hR;case h_2=>cases hR
  rename_i es hb;simp only[o0]at hR;subst hR;simp only[bI]at hw;obtain⟨vs,us,h1,h2,h3,hfx,h4⟩:=hw;have hl:(outs++tmpsOf o).length<=es.length:=by simpa using mq hb
  have hl1:outs.length<=es.length:=by simp at hl;omega
  obtain⟨a',hq,hsz,hd,hs,hp⟩:=lQ hb hN hρ (kP hl1 h1 h2) h3;refine⟨a',_,us,_,hq,hsz,hd,pE hs (fun p hp'=>hp p (Ei _ hp')),sL (by simp at hl ⊢;omega) h2,fun p hp'=>hp p (Eh _ hp'),hfx,fun _=>h4,fun hw=>?_⟩;simp[Region.wanted,hg]at hw
 | some jb=>
  obtain⟨j,b⟩:=jb;simp only[hg]at hR;split at hR;case h_2=>cases hR
  rename_i c hc;split at hR;case h_2=>cases hR
  rename_i es hb;split at hR;case h_2=>cases hR
  rename_i g chk hge;simp only[o0]at hR;subst hR;simp only[bI]at hw;obtain⟨vs,us,h1,h2,h3,hfx,gv,h4,h5,h6⟩:=hw;have hl:(outs++tmpsOf o++[c]).length<=es.length:=by simpa using mq hb
  have hl1:outs.length<=es.length:=by simp at hl;omega
  have hl2:(outs++tmpsOf o).length<=es.length:=by simp at hl ⊢;omega
  have e1:evP (look ρ) (part m h) ([c].zip (es.drop (outs++tmpsOf o).length))=some [(c,gv)]:=by rw[hge];simp[evP,h4]
  have e2:okE (look ρ) (part m h) (es.drop (outs++tmpsOf o++[c]).length):=by
   have:es.drop (outs++tmpsOf o++[c]).length=(es.drop (outs++tmpsOf o).length).drop 1:=by rw[EK,show(outs++tmpsOf o++[c]).length=(outs++tmpsOf o).length+1 from by rw[DT];rfl]
   rw[this,hge];exact h3
  obtain⟨a',hq,hsz,hd,hs,hp⟩:=lQ hb hN hρ (kP hl2 (kP hl1 h1 h2) e1) e2;have hcv:a'.tmps[c]? = some gv:=hp (c,gv) (by simp);have hwant:Region.wanted o (yielded ops0 a'.tmps)=true↔gv = .bool b:=by simp only[Region.wanted,hg,yielded,hc,D0,hcv,beq_iff_eq];cases gv<;>simp
  refine⟨a',_,us,_,hq,hsz,hd,pE hs (fun p hp'=>hp p (by simp[hp'])),sL (by simp at hl ⊢;omega) h2,fun p hp'=>hp p (by simp[hp']),hfx,fun hw=>h5 (hwant.1 hw),fun hw=>h6 ?_⟩;intro e;rw[hwant.2 e]at hw;cases hw
theorem nL{pp:PP}{N:Nat}{qs:List Oper}{R:Reg}(hR:wx P N ops0 live qs=some R){S:View->View->Prop}{h:Heap}{a:Act}(hN:a.tmps.size=N)(hρ:Sat ρ a)(hw:bI S P m R Q ρ h):
  ∃a' ρ',QRun P ops0 (part m h) qs a a'/\a'.tmps.size=N/\a'.defers=a.defers/\Sat ρ' a'/\Q ρ' h:=by
 unfold wx at hR;simp only at hR;split at hR;case h_2=>cases hR
 rename_i es hb;simp only[o0]at hR;subst hR;simp only[bI]at hw;obtain⟨vs,h1,h2,h3⟩:=hw;obtain⟨a',hq,hsz,hd,hs,hp⟩:=lQ hb hN hρ h1 h2;exact⟨a',_,hq,hsz,hd,pE hs hp,h3⟩
def gn [pp:PP] (N:Nat) (D:List Deferred) (w:World) (Q:Env->Heap->Prop):Exit->Act->World->Prop
 | .normal,a,w'=>∃ρ,Sat ρ a/\a.tmps.size=N/\a.defers=D/\Q ρ w'.heap/\Same w w'
 | .panic ch,a,w'=>∃ρ,Sat ρ a/\a.tmps.size=N/\a.defers=D/\(pp.fx ρ/\pp.kp ch w'.heap)/\Same w w'
 | _,_,_=>False
variable{op:Op}
theorem xa{e:E}(h:opE P op=some e):cX op=true:=by cases op<;>first | rfl | simp[opE]at h
theorem mP {P:Program} {r:Option Nat} {ops0:Array Oper} {H:View} {w:World} (hw:H.sub (vw w.heap)) {Q:Exit->Act->World->Prop} {rest:List Oper} :
  ∀{qs:List Oper} {a a':Act},(∀o∈qs,isQ P o=true)->QRun P ops0 H qs a a'->wpListIn (Fw r) 0 P ops0 Q rest a' w->wpListIn (Fw r) 0 P ops0 Q (qs++rest) a w
 | [],a,a',_,hq,h=>by simp only[QRun]at hq;subst hq;exact h
 | o::qs,a,a',hall,hq,h=>by
  obtain⟨v,hy,hq⟩:=hq;have ih:=mP hw (fun o' ho'=>hall o' (DB _ ho')) hq h;have hpl:cX o.op=true:=by have:=hall o (Dz ..);simp only[isQ,DC,F3]at this;obtain⟨⟨e,he⟩,_⟩:=this;exact xa he
  simp only[Fz,wpListIn];rcases hy with⟨hwt,hrun,_⟩ | ⟨hwt,rfl⟩
  ·rw[if_pos hwt];refine⟨fun _ _=>trivial,?_⟩;rw[Oper.semAt_eq _ _ _ (by intro c e;simp[cX,e]at hpl),hrun w hw];exact ih
  rw[if_neg (by simp[hwt])];exact⟨fun _ _=>trivial,ih⟩
theorem ln {α:Type} (p:α->Bool) : ∀(l:List α),∀x∈l.takeWhile p,p x=true
 | [],_,h=>by simp at h
 | y::l,x,h=>by
  simp only[List.takeWhile_cons]at h;split at h
  ·rename_i hy;rcases DL.1 h with rfl | h
   ·exact hy
   exact ln p l x h
  cases h
theorem lR {pp:PP} {P:Program} {N:Nat} {ops0:Array Oper} {live:List Nat} {r:Option Nat} {Q:Env->Heap->Prop} {D:List Deferred} {w0:World} :
  ∀(f:Nat) {ops:List Oper} {R:Reg} {ρ:Env} {a:Act} {w:World},regU P N ops0 live f ops=some R->a.tmps.size=N->a.defers=D->Sat ρ a->Same w0 w->df P none R Q ρ w.heap->
   wpListIn (Fw r) 0 P ops0 (gn N D w0 Q) ops a w
 | 0,_,_,_,_,_,h,_,_,_,_,_=>by simp[regU]at h
 | f+1,ops,R,ρ,a,w,hR,hN,hD,hρ,hS,hw=>by
  simp only[regU]at hR;have hsplit:=List.takeWhile_append_dropWhile (p:=isQ P) (l:=ops);have hall : ∀o∈ops.takeWhile (isQ P),isQ P o=true:=ln _ _;cases hrest:ops.dropWhile (isQ P)with
  | nil=>simp only[hrest]at hR;obtain⟨a',ρ',hq,hsz,hd,hs,hQ⟩:=nL hR hN hρ hw;rw[hrest]at hsplit;rw[<-hsplit];exact mP (H:=vw w.heap) (View.oD (View.le_refl _)) hall hq ⟨ρ',hs,hsz,hd.trans hD,hQ,hS⟩
  | cons o rest=>
   simp only[hrest]at hR;split at hR;case h_2=>cases hR
   rename_i next hnext
   obtain⟨hp,hdst,a',ρ',us,keep,hq,hsz,hd,hs,hk,hv,hfx,h1,h2⟩:=jr hR hN hρ hw;rw[hrest]at hsplit;rw[<-hsplit];refine mP (H:=vw w.heap) (View.oD (View.le_refl _)) hall hq ?_;have hput : ∀v,(a'.put o.dst v).tmps.size=N:=fun v=>by cases o.dst<;>simp[Act.put,hsz]
   have hdef : ∀v,(a'.put o.dst v).defers=D:=fun v=>by cases ho:o.dst<;>simp[Act.put,hd,hD]
   have hsat : ∀v,Sat (putE ρ' o.dst keep v) (a'.put o.dst v):=fun v=>wm hs (fun d hd=>by rw[hsz];exact hdst d hd);simp only[wpListIn];split
   ·rename_i hwt;exact pS hp hk hv (h1 hwt) (fun v w' ⟨_,hreg⟩ hsame=>lR f hnext (hput v) (hdef v) (hsat v) (hS.trans hsame) hreg) fun ch w' hc hsame=>⟨ρ',hs,hsz,hd.trans hD,⟨hfx,hc.2⟩,hS.trans hsame⟩
   rename_i hwt;exact⟨fun _ _=>trivial,lR f hnext (hput _) (hdef _) (hsat _) hS (h2 (by simpa using hwt))⟩
section
variable {P:Program} {ops:Array Oper} {r:Option Nat} {Q:Exit->Act->World->Prop} {G:Array Bool->World->Prop}
abbrev rdy (ops:Array Oper) (listed:Array Bool):List Nat:=Region.ready .any ops listed
def anyG (P:Program) (r:Option Nat) (ops:Array Oper) (Q:Exit->Act->World->Prop) (G:Array Bool->World->Prop):Nat->Array Bool->Act->World->Prop
 | 0,listed,a,w=>G listed w/\rdy ops listed=[]/\Q .normal a w
 | f+1,listed,a,w=>G listed w/\(rdy ops listed=[]->Q .normal a w)/\∀i∈rdy ops listed,wpOpIn (Fw r) 0 P ops Q i (anyG P r ops Q G f (listed.setIfInBounds i true)) a w
theorem zp: ∀{f:Nat} {listed:Array Bool} {a:Act} {w:World},anyG P r ops Q G f listed a w->G listed w
 | 0,_,_,_,h=>h.1
 | _+1,_,_,_,h=>h.1
theorem sD : ∀{f:Nat} {listed:Array Bool} {a:Act} {w:World},anyG P r ops Q G f listed a w->wpAnyIn (Fw r) 0 P .any ops Q f listed a w
 | 0,_,_,_,h=>h.2
 | _+1,_,_,_,h=>⟨h.2.1,fun i hi=>wpOpIn_mono (fun _ _ h1=>sD h1) (h.2.2 i hi)⟩
def ib (ops:Array Oper) (listed:Array Bool):Prop:=
 ∀j oj,ops[j]? = some oj->listed.getD j false=true->∀e∈oj.after,Region.binds .any e=true->listed.getD e.on false=true
variable{listed:Array Bool}
theorem ib.set{i:Nat}(h:ib ops listed)(hi:i∈rdy ops listed):ib ops (listed.setIfInBounds i true):=by
 obtain⟨_,oi,hoi,hall⟩:=mem_ready.1 hi;intro j oj hj hl e he hb;by_cases hij:i=j
 ·subst hij;have:oj=oi:=Option.some.inj (hj.symm.trans hoi);subst this;exact getD_set_true (hall e he hb)
 rw[getD_set_ne false hij]at hl;exact getD_set_true (h j oj hj hl e he hb)
def down (ops:Array Oper):Nat->List Nat->List Nat
 | 0,S=>S
 | j+1,S=>if S.contains j then down ops j (S++match ops[j]? with | some o=>(o.after.toList.filter (Region.binds .any)).map (·.on) | none=>[]) else down ops j S
theorem mN {listed:Array Bool} (hc:ib ops listed) : ∀(n:Nat) (S:List Nat),(∀s∈S,listed.getD s false=true)->∀s∈down ops n S,listed.getD s false=true
 | 0,_,h,s,hs=>h s hs
 | j+1,S,h,s,hs=>by
  simp only[down]at hs;split at hs
  ·rename_i hj;refine mN hc j _ ?_ s hs;intro t ht;rcases DE.1 ht with ht | ht
   ·exact h t ht
   cases ho:ops[j]? with
   | none=>simp[ho]at ht
   | some o=>simp only[ho,Ex,EP]at ht;obtain⟨e,⟨he,hb⟩,rfl⟩:=ht;exact hc j o ho (h j (by simpa using hj)) e (by simpa using he) hb
  exact mN hc j S h s hs
theorem kh{o:Oper}{v:Value}{a a':Act}(hy:eD P ops H o v a)(he:execOp a'.eval o=execOp a.eval o)(hw:Region.wanted o (yielded ops a'.tmps)=Region.wanted o (yielded ops a.tmps)):eD P ops H o v a':=by unfold eD at *;rw[he,hw];exact hy
theorem nT{i:Nat}{o:Oper}{v:Value}{a:Act}{w:World}{K:Act->World->Prop}(hp:cX o.op=true)(hi:ops[i]? = some o)(hy:eD P ops H o v a)(hw:H.sub (vw w.heap))(h:K (a.put o.dst v) w):wpOpIn (Fw r) 0 P ops Q i K a w:=by
 unfold wpOpIn;simp only[hi];rcases hy with⟨hwt,hv,_⟩ | ⟨hwt,rfl⟩
 ·rw[if_pos hwt];refine⟨fun _ _=>trivial,?_⟩;rw[Oper.semAt_eq _ _ _ (by intro c e;simp[cX,e]at hp),hv w hw];exact h
 rw[if_neg (by simp[hwt])];exact⟨fun _ _=>trivial,h⟩
theorem sr{j:Nat}{oi oj:Oper}{v:Value}(hj:ops[j]? = some oj)(hap:oi.apart ops oj=true)(hpi:cX oi.op=true)(hpj:cX oj.op=true)(hQ : ∀c a d v w,Q (.panic c) (Act.put a d v) w->Q (.panic c) a w){K:Act->World->Prop}{a:Act}{w:World}(hy:eD P ops H oi v a)(h:wpOpIn (Fw r) 0 P ops Q j K (a.put oi.dst v) w):
  wpOpIn (Fw r) 0 P ops Q j (fun a' w'=>eD P ops H oi v a'/\K (a'.put oi.dst v) w') a w:=by
 obtain⟨h1,h2,h3⟩:=Oper.apart_spec hap;have hsi : ∀cs b,oi.op≠.select cs b:=fun cs b e=>by simp[cX,e]at hpi
 have hsj : ∀cs b,oj.op≠.select cs b:=fun cs b e=>by simp[cX,e]at hpj
 have hdj : ∀c,oj.op≠.defer c:=fun c e=>by simp[cX,e]at hpj
 have keep : ∀(a:Act),eD P ops H oi v a->∀u,eD P ops H oi v (a.put oj.dst u):=fun a hy u=>kh hy (execOp_put oi hsi a oj.dst u h3) (wanted_put oi a oj.dst u h3);have keepD : ∀d,eD P ops H oi v { a with defers:=d::a.defers }:=fun d=>kh hy rfl rfl
 unfold wpOpIn at *;simp only[hj]at *;rw[wanted_put oj a oi.dst v h1,about_put oj w a oi.dst v h1]at h;split
 ·rename_i hw;simp only[hw,if_true]at h;unfold Oper.wpIn at *;rw[about_put oj w a oi.dst v h1]at h;refine⟨h.1,?_⟩;have h:=h.2;rw[Oper.semAt_eq _ _ _ hdj,execOp_put oj hsj a oi.dst v h1]at h;rw[Oper.semAt_eq _ _ _ hdj];generalize (execOp a.eval oj).run P w=r at *;cases r with
  | ok x w'=>
   cases x<;>simp only[Oper.uponIn]at h ⊢;case value u=>exact⟨keep a hy u,by rw[<-Act.put_comm a v u h2];exact h⟩
   case skip=>exact⟨keep a hy _,by rw[<-Act.put_comm a v undef h2];exact h⟩
   case defer d=>refine⟨keep _ (keepD d) _,?_⟩;rw[<-Act.put_comm _ v undef h2,<-Act.put_defers];exact h
   case enter f args=>
    refine⟨h.1,CallsIn.mono h.2 fun e w'' he=>?_⟩;cases e with
    | returned u=>exact⟨keep a hy u,by rw[<-Act.put_comm a v u h2];exact he⟩
    | panicked c=>exact hQ _ _ _ _ _ he
    | outgrown=>exact he
   case row row args=>exact⟨h.1,RowsIn.mono h.2 fun u w'' he=>⟨keep a hy u,by rw[<-Act.put_comm a v u h2];exact he⟩⟩
   case round l f tmps assign body=>
    refine⟨h.1,RoundIn.mono h.2 fun e w'' he=>?_⟩;cases e with
    | returned u=>exact⟨keep a hy u,by rw[<-Act.put_comm a v u h2];exact he⟩
    | panicked c=>exact hQ _ _ _ _ _ he
    | outgrown=>exact he
  | halt x w'=>cases x<;>simp only[Oper.uponIn]at h ⊢;case panic u=>exact hQ _ _ _ _ _ h
 rename_i hw;simp only[hw]at h;exact⟨h.1,keep a hy _,by rw[<-Act.put_comm a v undef h2];exact h.2⟩
theorem lF{i:Nat}{oi:Oper}{v:Value}(hi:ops[i]? = some oi)(hpl : ∀(j:Nat) (o:Oper),ops[j]? = some o->cX o.op=true)(hQ : ∀c a d v w,Q (.panic c) (Act.put a d v) w->Q (.panic c) a w)(hG : ∀listed w,G (listed.setIfInBounds i true) w->G listed w)(hcov : ∀listed w,ib ops listed->listed.getD i true=false->G listed w->H.sub (vw w.heap)):
  ∀(fuel:Nat) (listed:Array Bool) (a:Act) (w:World),ib ops listed->
   (∀j oj,ops[j]? = some oj->j≠i->listed.getD j true=false->(∀e∈oj.after,Region.binds .any e=true->e.on≠i)->oi.apart ops oj=true)->
   i∈rdy ops listed->eD P ops H oi v a->
   anyG P r ops Q G fuel (listed.setIfInBounds i true) (a.put oi.dst v) w->anyG P r ops Q G (fuel+1) listed a w:=by
 intro fuel;induction fuel with
 | zero=>
  intro listed a w hcl _ hr hy Hs;have hg:=hG _ _ (zp Hs);refine⟨hg,fun h=>(by rw[h]at hr;cases hr),fun j hj=>?_⟩;by_cases hji:j=i
  ·subst hji;exact nT (hpl _ _ hi) hi hy (hcov listed w hcl (mem_ready.1 hr).1 hg) Hs
  have:j∈rdy ops (listed.setIfInBounds i true):=ready_mono hj hji;rw[Hs.2.1]at this;cases this
 | succ fuel ih=>
  intro listed a w hcl hfree hr hy Hs;have hg:=hG _ _ (zp Hs);refine⟨hg,fun h=>(by rw[h]at hr;cases hr),fun j hj=>?_⟩;by_cases hji:j=i
  ·subst hji;exact nT (hpl _ _ hi) hi hy (hcov listed w hcl (mem_ready.1 hr).1 hg) Hs
  have h1:=Hs.2.2 j (ready_mono hj hji);obtain⟨hjun,oj,hoj,hall⟩:=mem_ready.1 hj;have hnot : ∀e∈oj.after,Region.binds .any e=true->e.on≠i:=fun e he hb heq=>by
   have h1:=hall e he hb;have h0:=(mem_ready.1 hr).1;rw[heq]at h1;rcases DA i listed.size with h' | h'
   ·simp[h']at h0 h1;rw[h0]at h1;cases h1
   simp[EO h']at h1
  have h2:=sr hoj (hfree j oj hoj hji hjun hnot) (hpl _ _ hi) (hpl _ _ hoj) hQ hy h1;have hfree' : ∀k ok,ops[k]? = some ok->k≠i->(listed.setIfInBounds j true).getD k true=false->
    (∀e∈ok.after,Region.binds .any e=true->e.on≠i)->oi.apart ops ok=true:=fun k ok hk hki hun hno=>by
   refine hfree k ok hk hki ?_ hno;by_cases hjk:j=k
   ·subst hjk;exact hjun
   rw[getD_set_ne true hjk]at hun;exact hun
  refine wpOpIn_mono (fun a' w' h3=>ih (listed.setIfInBounds j true) a' w' (hcl.set hj) hfree' (ready_mono hr (Ne.symm hji)) h3.1 ?_) h2;rw[Array.setIfInBounds_comm _ _ hji];exact h3.2
end
def qQ (P:Program) (ops:Array Oper) (listed:Array Bool):Option Nat:=
 (rdy ops listed).find? fun i=>match ops[i]? with | some o=>isQ P o | none=>false
def covered (P:Program) (ops:Array Oper) (l0:Option Nat) (i:Nat):Bool:=
 match ops[i]? with
 | some o=>nr P o||match l0 with | none=>true | some l=>(down ops (l+1) [l]).contains i&&i != l
 | none=>false
def jO (P:Program) (ops:Array Oper) (l0:Option Nat):Nat->Array Bool->Option (List Nat × Array Bool)
 | 0,listed=>match qQ P ops listed with | none=>some ([],listed) | some _=>none
 | f+1,listed=>match qQ P ops listed with
  | none=>some ([],listed)
  | some i=>if Region.free .any ops listed i&&covered P ops l0 i&&l0 != some i then
    match jO P ops l0 f (listed.setIfInBounds i true)with
    | some (qs,l1)=>some (i::qs,l1)
    | none=>none
   else none
def jo (ops:Array Oper) (l:List Nat):List Oper:=l.filterMap (ops[·]?)
def sU (ops:Array Oper) (listed:Array Bool):List Oper:=jo ops ((List.range ops.size).filter fun j=>!listed.getD j true)
def jX (node:Nat->Option Reg):List Nat->Option Reg
 | []=>none
 | [i]=>node i
 | i::is=>match node i,jX node is with
  | some x,some y=>some (.both x y)
  | _,_=>none
def regD (P:Program) (N:Nat) (ops:Array Oper) (live:List Nat) (l0:Option Nat):Nat->Array Bool->Option Reg
 | 0,_=>none
 | f+1,listed=>match jO P ops l0 ops.size listed with
  | none=>none
  | some (qs,l1)=>match rdy ops l1 with
   | []=>wx P N ops live (jo ops qs)
   | rs=>jX (fun i=>match ops[i]? with
    | none=>none
    | some o=>match regD P N ops live l0 f (l1.setIfInBounds i true)with
     | some next=>pq P N ops live (jo ops qs) o (sU ops (l1.setIfInBounds i true)) (l0 == some i) next
     | none=>none) rs
def left (ops:Array Oper) (listed:Array Bool):Nat:=(List.range ops.size).countP fun j=>!listed.getD j true
theorem pV {α:Type} {p q:α->Bool} : ∀{l:List α} {x:α},(∀y,q y=true->p y=true)->x∈l->p x=true->q x=false->l.countP q<l.countP p
 | [],_,_,h,_,_=>by cases h
 | y::l,x,hqp,hx,hp,hq=>by
  have hle:l.countP q<=l.countP p:=List.countP_mono_left (fun y _=>hqp y);simp only[List.countP_cons];rcases DL.1 hx with rfl | hx
  ·simp[hp,hq];omega
  have:=pV hqp hx hp hq;cases hqy:q y
  ·simp;omega
  simp[hqp y hqy];omega
variable{listed:Array Bool}
theorem oY{ops:Array Oper}{i:Nat}(hi:i∈rdy ops listed):left ops (listed.setIfInBounds i true)<left ops listed:=by
 obtain⟨h0,o,ho,_⟩:=mem_ready.1 hi;refine pV (x:=i) (fun y hy=>?_) (EC.2 (Dx.1 ho).1) (by simpa using h0) ?_
 ·by_cases h:i=y
  ·subst h;simpa using h0
  rw[getD_set_ne true h]at hy;exact hy
 have hlt:i<listed.size:=by
  rcases DA i listed.size with h | h
  ·exact h
  simp[EO h]at h0
 simp[hlt]
section
variable {P:Program} {N:Nat} {ops:Array Oper} {live:List Nat} {l0:Option Nat} {r:Option Nat} {D:List Deferred} {w0:World} {Q:Env->Heap->Prop} {H:View}
def GH (l0:Option Nat) (H:View) (listed:Array Bool) (w:World):Prop:=H.sub (vw w.heap)\/∃l,l0=some l/\listed.getD l false=true
def partAt (l0:Option Nat) (H:View) (listed:Array Bool):View:=match l0 with | some l=>if listed.getD l false then nothing else H | none=>H
theorem tx{i:Nat}(h:qQ P ops listed=some i):i∈rdy ops listed/\∃o,ops[i]? = some o/\isQ P o=true:=by
 refine⟨E2 h,?_⟩;have:=List.find?_some h;cases ho:ops[i]? with
 | none=>simp[ho]at this
 | some o=>simp[ho]at this;exact⟨o,rfl,this⟩
theorem mC (hpl : ∀(j:Nat) (o:Oper),ops[j]? = some o->cX o.op=true) : ∀{f:Nat} {listed l1:Array Bool} {qs:List Nat},jO P ops l0 f listed=some (qs,l1)->ib ops listed->
  ib ops l1/\qQ P ops l1=none/\(∀l,l0=some l->l1.getD l false=listed.getD l false)/\
  ∀{a a':Act} {w:World} {Q':Exit->Act->World->Prop},(∀c a d v w,Q' (.panic c) (Act.put a d v) w->Q' (.panic c) a w)->QRun P ops (partAt l0 H listed) (jo ops qs) a a'->
   (∀F,left ops l1<=F->anyG P r ops Q' (GH l0 H) F l1 a' w)->∀F,left ops listed<=F->anyG P r ops Q' (GH l0 H) F listed a w
 | 0,listed,l1,qs,h,hc=>by
  simp only[jO]at h;split at h
  ·rename_i hq;simp only[o0,Ey]at h;obtain⟨rfl,rfl⟩:=h;refine⟨hc,hq,fun _ _=>rfl,fun{a a' w Q'} _ hrun hany=>?_⟩;simp only[jo,List.filterMap_nil,QRun]at hrun;subst hrun;exact hany
  cases h
 | f+1,listed,l1,qs,h,hc=>by
  simp only[jO]at h;split at h
  ·rename_i hq;simp only[o0,Ey]at h;obtain⟨rfl,rfl⟩:=h;refine⟨hc,hq,fun _ _=>rfl,fun{a a' w Q'} _ hrun hany=>?_⟩;simp only[jo,List.filterMap_nil,QRun]at hrun;subst hrun;exact hany
  rename_i i hq;split at h;case isFalse=>cases h
  rename_i hfc;simp only[DC,bne_iff_ne,ne_eq]at hfc;obtain⟨⟨hfree,hcov⟩,hne⟩:=hfc;split at h;case h_2=>cases h
  rename_i qs' l1' hrec;simp only[o0,Ey]at h;obtain⟨rfl,rfl⟩:=h;obtain⟨hi,o,ho,hoq⟩:=tx hq;obtain⟨hc1,hf1,hl1,hstep⟩:=mC hpl hrec (hc.set hi);have hl0 : ∀l,l0=some l->(listed.setIfInBounds i true).getD l false=listed.getD l false:=fun l hl=>getD_set_ne false (fun e=>hne (by rw[hl,e]));refine⟨hc1,hf1,fun l hl=>(hl1 l hl).trans (hl0 l hl),fun{a a' w Q'} hQ hrun hany F hF=>?_⟩;have hrun':QRun P ops (partAt l0 H listed) (o::jo ops qs') a a':=by simpa[jo,ho]using hrun
  obtain⟨v,hy,hrun2⟩:=hrun';have hpart:partAt l0 H (listed.setIfInBounds i true)=partAt l0 H listed:=by
   unfold partAt;cases l0 with
   | none=>rfl
   | some l=>simp only[hl0 l rfl]
  have hlt:=oY hi;obtain⟨F',rfl⟩ : ∃F',F=F'+1:=⟨F-1,by omega⟩;have hsub:=hstep (w:=w) hQ (by rw[hpart];exact hrun2) hany F' (by omega);have hGset : ∀listed w,GH l0 H (listed.setIfInBounds i true) w->GH l0 H listed w:=by
   rintro listed w (h | ⟨l,hl,h⟩)
   ·exact .inl h
   refine .inr ⟨l,hl,?_⟩;rw[getD_set_ne false (fun e=>hne (by rw[hl,e]))]at h;exact h
  simp only[covered,ho,Ed]at hcov;by_cases hpure:nr P o=true
  ·have hy':eD P ops nothing o v a:=by
    rcases hy with⟨hw,hv,hp⟩ | hy
    ·exact .inl ⟨hw,fun w _=>hp hpure w,hp⟩
    exact .inr hy
   exact lF (H:=nothing) ho hpl hQ hGset (fun _ _ _ _ _=>fun _ _ h=>by cases h) F' listed a w hc (Region.free_spec ho hfree) hi hy' hsub
  have hcov:=hcov.resolve_left hpure;cases hl:l0 with
  | none=>
   subst hl;refine lF (H:=H) ho hpl hQ hGset (fun listed w _ _ hg=>?_) F' listed a w hc (Region.free_spec ho hfree) hi (by simpa[partAt]using hy) hsub;rcases hg with h | ⟨l,h,_⟩
   ·exact h
   cases h
  | some l=>
   subst hl;simp only[DC]at hcov;have hun : ∀listed,ib ops listed->listed.getD i true=false->listed.getD l false=false:=by
    intro listed hc' hi';cases hll:listed.getD l false with
    | false=>rfl
    | true=>
     have:=mN hc' (l+1) [l] (by simpa using hll) i (by simpa using hcov.1);exfalso;rcases DA i listed.size with h' | h'
     ·simp[h']at this hi';rw[hi']at this;cases this
     simp[EO h']at this
   refine lF (H:=H) ho hpl hQ hGset (fun listed w hc' hi' hg=>?_) F' listed a w hc (Region.free_spec ho hfree) hi ?_ hsub
   ·rcases hg with h | ⟨l',h,h'⟩
    ·exact h
    cases h;rw[hun listed hc' hi']at h';cases h'
   have:=hun listed hc (mem_ready.1 hi).1;simpa[partAt,this]using hy
theorem rS {H:View} {w:World} (hw:H.sub (vw w.heap)) : ∀{qs:List Oper} {a a1 a2:Act},QRun P ops H qs a a1->QRun P ops H qs a a2->a1=a2
 | [],a,a1,a2,h1,h2=>by simp only[QRun]at h1 h2;rw[h1,h2]
 | o::qs,a,a1,a2,⟨v1,hy1,hq1⟩,⟨v2,hy2,hq2⟩=>by
  have e:v1=v2:=by
   rcases hy1 with⟨hw1,hr1,_⟩ | ⟨hw1,rfl⟩<;>rcases hy2 with⟨hw2,hr2,_⟩ | ⟨hw2,rfl⟩
   ·have:=(hr1 w hw).symm.trans (hr2 w hw);simpa using this
   ·rw[hw1]at hw2;cases hw2
   ·rw[hw1]at hw2;cases hw2
   rfl
  subst e;exact rS hw hq1 hq2
theorem lk {pp:PP} {node:Nat->Option Reg} {m:Option View} {ρ:Env} {h:Heap} : ∀{rs:List Nat} {R:Reg},jX node rs=some R->bI View.sub P m R Q ρ h->∀i∈rs,∃X,node i=some X/\bI View.sub P m X Q ρ h
 | [],_,h,_,_,_=>by simp[jX]at h
 | [i],R,h,hw,j,hj=>by simp only[DF]at hj;subst hj;exact⟨R,h,hw⟩
 | i::k::rs,R,h,hw,j,hj=>by
  simp only[jX]at h;split at h
  ·rename_i x y hx hy;simp only[o0]at h;subst h;simp only[bI]at hw;rcases DL.1 hj with rfl | hj
   ·exact⟨x,hx,hw.1⟩
   exact lk hy hw.2 j hj
  cases h
theorem tN{pp:PP}{c:List PanicEntry}{a:Act}{d:Option Tmp}{v:Value}{w:World}(h:@gn (ppD pp) N D w0 Q (.panic c) (Act.put a d v) w):@gn (ppD pp) N D w0 Q (.panic c) a w:=by
 obtain⟨ρ,_,h2,h3,⟨_,h4⟩,h5⟩:=h;refine⟨[],fun t v h=>by simp[look]at h,?_,?_,⟨trivial,h4⟩,h5⟩
 ·cases d<;>simpa[Act.put]using h2
 cases d<;>simpa[Act.put]using h3
theorem lO {pp:PP} (hpl : ∀(j:Nat) (o:Oper),ops[j]? = some o->cX o.op=true) : ∀(f:Nat) {listed:Array Bool} {R:Reg} {ρ:Env} {a:Act} {w:World},
  regD P N ops live l0 f listed=some R->ib ops listed->listed.size=ops.size->a.tmps.size=N->a.defers=D->Sat ρ a->Same w0 w->GH l0 H listed w->(partAt l0 H listed).sub (vw w.heap)->
  bI View.sub P (some (partAt l0 H listed)) R Q ρ w.heap->∀F,left ops listed<=F->anyG P r ops (@gn (ppD pp) N D w0 Q) (GH l0 H) F listed a w
 | 0,_,_,_,_,_,h,_,_,_,_,_,_,_,_,_=>by simp[regD]at h
 | f+1,listed,R,ρ,a,w,hR,hc,hLs,hN,hD,hρ,hS,hG,hX,hw=>by
  simp only[regD]at hR;split at hR;case h_1=>cases hR
  rename_i qs l1 hqs;obtain⟨hc1,_,hl1,hstep⟩:=mC (H:=H) (r:=r) hpl hqs hc;have hl1s:l1.size=ops.size:=by
   have : ∀{f:Nat} {listed l1:Array Bool} {qs:List Nat},jO P ops l0 f listed=some (qs,l1)->l1.size=listed.size:=by
    intro f;induction f with
    | zero=>
     intro listed l1 qs h;simp only[jO]at h;split at h
     ·simp only[o0,Ey]at h;rw[h.2]
     cases h
    | succ f ih=>
     intro listed l1 qs h;simp only[jO]at h;split at h
     ·simp only[o0,Ey]at h;rw[h.2]
     split at h
     ·split at h
      ·rename_i hh;simp only[o0,Ey]at h;rw[<-h.2,ih hh];simp
      cases h
     cases h
   rw[this hqs,hLs]
  have hpart1:partAt l0 H l1=partAt l0 H listed:=by
   unfold partAt;cases hl:l0 with
   | none=>rfl
   | some l=>simp only[hl1 l hl]
  have hG1:GH l0 H l1 w:=by
   rcases hG with h | ⟨l,hl,h⟩
   ·exact .inl h
   exact .inr ⟨l,hl,by rw[hl1 l hl];exact h⟩
  have hpartm:part (some (partAt l0 H listed)) w.heap=partAt l0 H listed:=rfl;cases hrs:rdy ops l1 with
  | nil=>
   simp only[hrs]at hR;obtain⟨a',ρ',hq,hsz,hd,hs,hQ⟩:=nL hR hN hρ hw;rw[hpartm]at hq;have hpost:@gn (ppD pp) N D w0 Q .normal a' w:=⟨ρ',hs,hsz,hd.trans hD,hQ,hS⟩;refine hstep (fun _ _ _ _ _=>tN) hq (fun F _=>?_);cases F with
   | zero=>exact⟨hG1,hrs,hpost⟩
   | succ F=>exact⟨hG1,fun _=>hpost,by rw[hrs];intro i hi;cases hi⟩
  | cons i0 is0=>
   simp only[hrs]at hR;have hbr:=lk hR hw;have hnode : ∀i∈i0::is0,∃o next X,ops[i]? = some o/\regD P N ops live l0 f (l1.setIfInBounds i true)=some next/\
     pq P N ops live (jo ops qs) o (sU ops (l1.setIfInBounds i true)) (l0 == some i) next=some X/\bI View.sub P (some (partAt l0 H listed)) X Q ρ w.heap:=by
    intro i hi;obtain⟨X,hX,hXw⟩:=hbr i hi;cases ho:ops[i]? with
    | none=>simp[ho]at hX
    | some o=>
     simp only[ho]at hX;split at hX
     ·rename_i next hnext
      exact⟨o,next,X,rfl,hnext,hX,hXw⟩
     cases hX
   obtain⟨o1,next1,X1,ho1,hn1,hX1,hXw1⟩:=hnode i0 (Dz ..);obtain⟨_,_,a',_,_,_,hq,hsz,hd,_,_,_,_,_,_⟩:=jr hX1 hN hρ hXw1;rw[hpartm]at hq;refine hstep (fun _ _ _ _ _=>tN) hq (fun F hF=>?_);obtain⟨F',rfl⟩ : ∃F',F=F'+1:=by have h1:=oY (ops:=ops) (listed:=l1) (i:=i0) (by rw[hrs];exact Dz ..);exact⟨F-1,by omega⟩
   refine⟨hG1,fun h0=>(by rw[hrs]at h0;cases h0),fun i hi=>?_⟩;have hi':i∈i0::is0:=by rw[<-hrs];exact hi
   obtain⟨o,next,X,ho,hnext,hX2,hXw⟩:=hnode i hi';obtain⟨hp,hdst,a2,ρ',us,keep,hq2,hsz2,hd2,hs2,hk,hv,_,h1,h2⟩:=jr hX2 hN hρ hXw;rw[hpartm]at hq2;obtain rfl:=rS hX hq2 hq;have hput : ∀v,(a2.put o.dst v).tmps.size=N:=fun v=>by cases o.dst<;>simp[Act.put,hsz2]
   have hdef : ∀v,(a2.put o.dst v).defers=D:=fun v=>by cases ho:o.dst<;>simp[Act.put,hd2,hD]
   have hsat : ∀v,Sat (putE ρ' o.dst keep v) (a2.put o.dst v):=fun v=>wm hs2 (fun d hd=>by rw[hsz2];exact hdst d hd);have hlt:=oY hi
   have hun:l1.getD i true=false:=(mem_ready.1 hi).1;have hisz:i<l1.size:=by
    rcases DA i l1.size with h | h
    ·exact h
    simp[EO h]at hun
   have hnew:(l1.setIfInBounds i true).getD i false=true:=by simp[hisz]
   have hview : ∀h':Heap,jm View.sub (if(l0 == some i)=true then none else some (partAt l0 H listed)) h'->∀w':World,w'.heap=h'->
     GH l0 H (l1.setIfInBounds i true) w'/\(partAt l0 H (l1.setIfInBounds i true)).sub (vw w'.heap)/\
     (if(l0 == some i)=true then(some (partAt l0 H listed)).map (fun _=>nothing) else some (partAt l0 H listed))=some (partAt l0 H (l1.setIfInBounds i true)):=by
    intro h' hk w' hw';by_cases ht:l0=some i
    ·subst ht;refine⟨.inr ⟨i,rfl,hnew⟩,?_,?_⟩
     ·simp only[partAt,hnew,if_true];intro _ _ h;cases h
     simp[partAt,hnew]
    have hne:(l0 == some i)=false:=by simpa using ht
    rw[hne]at hk;have hle:(partAt l0 H listed).sub (vw h'):=hk _ rfl;have hpe:partAt l0 H (l1.setIfInBounds i true)=partAt l0 H listed:=by
     rw[<-hpart1];unfold partAt;cases hl:l0 with
     | none=>rfl
     | some l=>have:i≠l:=fun e=>ht (by rw[hl,e]);simp only[getD_set_ne false this]
    refine⟨?_,by rw[hpe,hw'];exact hle,by simp[hne,hpe]⟩;rcases hG1 with _ | ⟨l,hl,h⟩
    ·by_cases hb : ∃l,l0=some l/\l1.getD l false=true
     ·obtain⟨l,hl,h⟩:=hb;exact .inr ⟨l,hl,getD_set_true h⟩
     refine .inl ?_;have:partAt l0 H listed=H:=by
      rw[<-hpart1];unfold partAt;cases hl:l0 with
      | none=>rfl
      | some l=>have:¬l1.getD l false=true:=fun h=>hb ⟨l,hl,h⟩;simp only[this];rfl
     rw[this]at hle;rw[hw'];exact hle
    exact .inr ⟨l,hl,getD_set_true h⟩
   unfold wpOpIn;simp only[ho];split
   ·rename_i hwt;refine pS hp hk hv (h1 hwt) (fun v w' ⟨hkeep,hreg⟩ hsame=>?_) fun ch w' hc hsame=>⟨[],fun t v h=>by simp[look]at h,hsz2,hd2.trans hD,⟨trivial,hc.1.resolve_left (by simp),hc.2⟩,hS.trans hsame⟩;obtain⟨g1,g2,g3⟩:=hview w'.heap hkeep w' rfl;rw[g3]at hreg;exact lO hpl f hnext (hc1.set hi) (by simp[hl1s]) (hput v) (hdef v) (hsat v) (hS.trans hsame) g1 g2 hreg F' (by omega)
   rename_i hwt;refine⟨fun _ _=>trivial,?_⟩;have hreg:=h2 (by simpa using hwt);obtain⟨g1,g2,g3⟩:=hview w.heap (by
    split
    ·intro _ h;cases h
    intro Y hY;cases hY;exact hX) w rfl;rw[g3]at hreg;exact lO hpl f hnext (hc1.set hi) (by simp[hl1s]) (hput _) (hdef _) (hsat _) hS g1 g2 hreg F' (by omega)
theorem rD{pp:PP}{id:Nat}{R:Reg}{a:Act}{w:World}(hm:P.follows .mixedOrders=true)(hpl:ops.all (fun o=>cX o.op)=true)(hR:regD P N ops live l0 (ops.size+1) (Array.replicate ops.size false)=some R)(hN:a.tmps.size=N)(hD:a.defers=D)(hρ:Sat ρ a)(hw : ∃H:View,H.sub (vw w.heap)/\bI View.sub P (some H) R Q ρ w.heap):(Code.region id ops true).wpIn (Fw r) 0 P (gn N D w Q) a w:=by
 obtain⟨H,hH,hw⟩:=hw;have hpl' : ∀(j:Nat) (o:Oper),ops[j]? = some o->cX o.op=true:=fun j o ho=>by obtain⟨hj,rfl⟩:=Dx.1 ho;exact Array.all_eq_true.1 hpl j hj
 have hclosed:ib ops (Array.replicate ops.size false):=by
  intro j oj _ h;rcases DA j ops.size with h' | h'
  ·simp[h']at h
  simp[h']at h
 have hun : ∀l,(Array.replicate ops.size false).getD l false=false:=fun l=>by rcases DA l ops.size with h' | h'<;>simp[h']
 have hpart:partAt l0 H (Array.replicate ops.size false)=H:=by
  unfold partAt;cases l0 with
  | none=>rfl
  | some l=>simp[hun l]
 have weak : ∀e a' w',@gn (ppD pp) N D w Q e a' w'->gn N D w Q e a' w':=fun e a' w' hq=>by cases e<;>first | exact hq | (obtain⟨ρ,h1,h2,h3,⟨_,h4,h5⟩,h6⟩:=hq;exact⟨ρ,h1,h2,h3,⟨h4 ρ,h5⟩,h6⟩)
 refine wpIn_mono (wpIn_region_any hm (sD (G:=GH l0 H) (lO (pp:=pp) (H:=H) (w0:=w) (w:={ w with drawn:=w.drawn+1 }) hpl' _ hR hclosed (by simp) hN hD hρ Same.drawn (.inl hH) ?_ ?_ _ ?_))) weak
 ·rw[hpart];exact hH
 ·rw[hpart];exact hw
 refine DW (List.countP_le_length ..) (by simp)
theorem rZ{pp:PP}{id:Nat}{R:Reg}{a:Act}{w:World}(hR:regU P N ops live (ops.size+1) ops.toList=some R)(hN:a.tmps.size=N)(hD:a.defers=D)(hρ:Sat ρ a)(hw:df P none R Q ρ w.heap):(Code.region id ops false).wpIn (Fw r) 0 P (gn N D w Q) a w:=
 wpIn_region_list (lR _ hR hN hD hρ (Same.refl _) hw)
end
def isFn (P : Program) (f : FuncId) : Bool := match P.funcs[f]? with | some fn => fn.name != "runtime.NumGoroutine" && fn.body.isSome | none => false
variable{n:Nat}
theorem lv{f:FuncId}{args:Array Value}{w:World}{R:Ending->World->Prop}{r:Option Nat}(h:Calls P f args w R):CallsIn (Fw r) n P f args w R:=
 (callsIn_wide (n:=n)).2 h
def aj (P:Program) (f:FuncId) (args:Array Value) (h:Heap) (R:Value->Heap->Prop):Prop:=
 ∀w:World,w.heap=h->Calls P f args w fun e w'=>∃v,e = .returned v/\R v w'.heap/\Same w w'
theorem aj.mono {P:Program} {f:FuncId} {args:Array Value} {h:Heap} {R R':Value->Heap->Prop} (hc:aj P f args h R) (hr : ∀v h',R v h'->R' v h'):aj P f args h R':=
 fun w hw=>(hc w hw).mono fun _ _ ⟨v,he,hR,hs⟩=>⟨v,he,hr _ _ hR,hs⟩
def eT (P:Program) (f:FuncId) (args:Array Value) (h:Heap) (R:Value->Heap->Prop) (Rp:List PanicEntry->Heap->Prop):Prop:=
 ∀w:World,w.heap=h->Calls P f args w fun e w'=>(∃v,e = .returned v/\R v w'.heap/\Same w w')\/∃ch,e = .panicked ch/\Rp ch w'.heap/\Same w w'
theorem View.lt{W:View}{h:Heap}(hw:W.le (vw h)){b:Nat}{o:Obj}(hb:W b=some o):b<h.size:=by have:=hw b o hb;simp only[vw]at this;exact(Dx.1 this).1
theorem View.cJ{W:View}{h:Heap}(hw:W.le (vw h)){b:Nat}(hb:h.size<=b):W b=none:=by
 cases hx:W b with
 | none=>rfl
 | some o=>have:=View.lt hw hx;omega
def grow (V:View) (h h':Heap):View:=fun b=>if b<h.size then V b else h'[b]?
variable{h':Heap}
theorem iJ{V:View}{h:Heap}(hV:V.le (vw h')):(grow V h h').le (vw h'):=fun b o hb=>by
 unfold grow at hb;split at hb
 ·exact hV b o hb
 exact hb
theorem dg{V:View}{h:Heap}(hV:V.le (vw h)):V.le (grow V h h'):=fun b o hb=>by have:=View.lt hV hb;unfold grow;rw[if_pos this];exact hb
def tW (P:Program) (l:Nat) (vs:List Value) (h:Heap) (R:Bool->Heap->Prop):Prop:=
 ∀w:World,w.heap=h->∃f tmps asg body,(Instr.yield l vs.toArray).run P w = .ok (.round l f tmps asg body) w/\
  RoundIn (Fw none) 0 P l f tmps asg body w fun e w'=>∃b,e = .returned (.bool b)/\R b w'.heap/\Same w w'
structure js (n:Nat) (J:View->Heap->Prop):Prop where
 le : ∀{W:View} {h:Heap},J W h->W.le (vw h)
 move : ∀{W W':View} {h h':Heap},J W h->(∀b,b<n->W' b=W b)->W'.le (vw h')->(∀b,W b=none->b<h.size->h'[b]? = h[b]?/\W' b=none)->h.size<=h'.size->J W' h'
def Iter (P:Program) (gf:Nat) (caps:List Value) (V:View) (all:List (List Value)):Prop:=
 ∀(l:Nat) (J:Bool->Nat->View->Heap->Prop) (W:View) (h:Heap),(∀b k,js h.size (J b k))->V.le W->V l=none->J true 0 W h->
  (∀k vs W' h1,(∀b,b<h.size->W' b=W b)->all[k]? = some vs->J true k W' h1->tW P l vs h1 fun b h2=>∃W2,(∀i,i≠l->W2 i=W' i)/\(b=true->W2=W')/\J b (k+1) W2 h2)->
  aj P gf (Value.func (.yield l) #[] #[]::caps).toArray h fun _ h2=>∃b k W',(∀i,i<h.size->i≠l->W' i=W i)/\J b k W' h2/\(b=true->k=all.length)
inductive LC where
 | skip
 | reg (drawn:Bool) (r:Reg)
 | seq (x y:LC)
 | cond (c:E) (kill:List Nat) (x y:LC)
 | block (id:Nat) (x:LC)
 | loop (x:LC)
 | exit (id:Nat)
 | ret
 | rangef (g:E) (ps:List Nat) (asg body:LC)
 deriving Inhabited
def LC.plain:LC->Bool
 | .rangef _ _ _ _=>false
 | .seq x y=>x.plain&&y.plain
 | .cond _ _ x y=>x.plain&&y.plain
 | .block _ x | .loop x=>x.plain
 | _=>true
abbrev Post:=Exit->Env->Heap->Prop
def gy (next:Env->Heap->Prop) (Q:Post):Post
 | .normal,ρ,h=>next ρ h
 | e,ρ,h=>Q e ρ h
def iX (id:Nat) (Q:Post):Post
 | .exit k,ρ,h=>if k=id then Q .normal ρ h else Q (.exit k) ρ h
 | e,ρ,h=>Q e ρ h
def postOf [pp:PP] (Q:Post):Post
 | .panic ch,ρ,h=>pp.fx ρ/\pp.kp ch h
 | e,ρ,h=>Q e ρ h
theorem kU{Q:Post}{e:Exit}{h:Heap}(hq:@postOf noPP Q e ρ h):Q e ρ h:=by cases e<;>first | exact hq | exact hq.2.elim
def dA:List Nat->Env->Env
 | [],_=>[]
 | t::ts,ρ=>match look ρ t with
  | some v=>(t,v)::dA ts ρ
  | none=>dA ts ρ
theorem lC {ρ:Env} {t:Nat} {v:Value} : ∀{ks:List Nat},look (dA ks ρ) t=some v->look ρ t=some v
 | [],h=>by simp[dA,look]at h
 | k::ks,h=>by
  simp only[dA]at h;split at h
  ·rename_i u hu;simp only[look]at h;split at h
   ·rename_i e;subst e;rw[hu];exact h
   exact lC h
  exact lC h
theorem sX{a:Act}{ks:List Nat}(h:Sat ρ a):Sat (dA ks ρ) a:=fun t v hv=>h t v (lC hv)
def iU:Exit->Bool
 | .normal | .exit _ | .ret=>true
 | _=>false
def LC.wp [pp:PP] (P:Program) (c:LC) (Q:Post) (ρ:Env) (h:Heap):Prop:=
 match c with
 | .skip=>Q .normal ρ h
 | .reg false r=>df P none r (Q .normal) ρ h
 | .reg true r=>∃H:View,H.sub (vw h)/\bI View.sub P (some H) r (Q .normal) ρ h
 | .seq x y=>x.wp P (gy (y.wp P Q) Q) ρ h
 | .cond c kill x y=>∃b,ev (look ρ) (vw h) c=some (.bool b)/\(b=true->x.wp P Q (bu ρ kill) h)/\(b=false->y.wp P Q (bu ρ kill) h)
 | .block id x=>x.wp P (iX id Q) ρ h
 | .loop x=>∃(ks:List Nat) (I:Nat->Env->Heap->Prop),(∃n,I n (dA ks ρ) h)/\∀n ρ h,I n ρ h->x.wp P (gy (fun ρ' h'=>∃m,m<n/\I m (dA ks ρ') h') Q) ρ h
 | .exit id=>Q (.exit id) ρ h
 | .ret=>Q .ret ρ h
 | .rangef g ps asg body=>∃(gf:Nat) (caps:List Value) (V W0:View) (all:List (List Value)) (I:Option Exit->Nat->View->Heap->Prop) (A:Nat->Env),
   ev (look ρ) (vw h) g=some (.func (.func gf) #[] caps.toArray)/\isFn P gf=true/\Iter P gf caps V all/\(∀vs∈all,vs.length=ps.length)/\V.le W0/\(∀e k,js h.size (I e k))/\I none 0 W0 h/\
   (∀k vs W h1,(∀b,b<h.size->W b=W0 b)->all[k]? = some vs->I none k W h1->
    @LC.wp noPP P asg (fun e ρ1 h2=>e = .normal/\h2=h1/\ρ1=A k) (cG ρ (ps.zip vs)) h1/\
    @LC.wp noPP P body (fun e _ h3=>I (match e with | .normal=>none | e=>some e) (k+1) W h3) (A k) h1)/\
   (∀W h1,(∀b,b<h.size->W b=W0 b)->I none all.length W h1->Q .normal ρ h1)/\
   (∀e k W h1,iU e=true->e≠.normal->(∀b,b<h.size->W b=W0 b)->I (some e) k W h1->Q e ρ h1)
theorem eC.mono{po:OP}{P:Program}{s:Sem Next}{h:Heap}{K K':Value->Heap->Prop}(hr:eC P s h K)(hk : ∀v h',K v h'->K' v h'):eC P s h K':=
 fun w hw r o a X Y hX hY=>hr w hw r o a X Y (fun v w' hv hs=>hX v w' (hk _ _ hv) hs) hY
section
variable {P:Program} {Q:Post} {ρ:Env} {h:Heap}
theorem eK {pp:PP} {S:View->View->Prop} {Q Q':Env->Heap->Prop} (hq : ∀ρ h,Q ρ h->Q' ρ h) : ∀{r:Reg} {m:Option View} {ρ:Env} {h:Heap},bI S P m r Q ρ h->bI S P m r Q' ρ h
 | .fin kill sets chk,m,ρ,h,⟨vs,h1,h2,h3⟩=>⟨vs,h1,h2,hq _ _ h3⟩
 | .loud kill sets args grd chk tail op ty dst keep next,m,ρ,h,hw=>by
  simp only[bI]at hw ⊢;obtain⟨vs,us,h1,h2,h3,hfx,h4⟩:=hw;refine⟨vs,us,h1,h2,h3,hfx,?_⟩;cases grd with
  | none=>exact eC.mono h4 fun v h' ⟨g1,g2⟩=>⟨g1,eK hq g2⟩
  | some gb=>obtain⟨gv,g1,g2,g3⟩:=h4;exact⟨gv,g1,fun e=>eC.mono (g2 e) fun v h' ⟨g1,g2⟩=>⟨g1,eK hq g2⟩,fun e=>eK hq (g3 e)⟩
 | .both x y,m,ρ,h,⟨h1,h2⟩=>⟨eK hq h1,eK hq h2⟩
theorem uS{pp:PP}{Q Q':Env->Heap->Prop}(hq : ∀ρ h,Q ρ h->Q' ρ h){r:Reg}{ρ:Env}{h:Heap}(hw:df P m r Q ρ h):df P m r Q' ρ h:=eK hq hw
theorem fy {pp:PP} {S S':View->View->Prop} (hS : ∀H K,S H K->S' H K) {Q:Env->Heap->Prop} : ∀{r:Reg} {m:Option View} {ρ:Env} {h:Heap},bI S P m r Q ρ h->bI S' P m r Q ρ h
 | .fin kill sets chk,m,ρ,h,⟨vs,h1,h2,h3⟩=>⟨vs,h1,h2,h3⟩
 | .loud kill sets args grd chk tail op ty dst keep next,m,ρ,h,hw=>by
  simp only[bI]at hw ⊢;obtain⟨vs,us,h1,h2,h3,hfx,h4⟩:=hw;refine⟨vs,us,h1,h2,h3,hfx,?_⟩;cases grd with
  | none=>exact eC.mono h4 fun v h' ⟨g1,g2⟩=>⟨fun H e=>hS _ _ (g1 H e),fy hS g2⟩
  | some gb=>obtain⟨gv,g1,g2,g3⟩:=h4;exact⟨gv,g1,fun e=>eC.mono (g2 e) fun v h' ⟨g1,g2⟩=>⟨fun H e=>hS _ _ (g1 H e),fy hS g2⟩,fun e=>fy hS (g3 e)⟩
 | .both x y,m,ρ,h,⟨h1,h2⟩=>⟨fy hS h1,fy hS h2⟩
end
theorem mQ{pp:PP}{Q Q':Post}(hq : ∀e ρ h,iU e=true->Q e ρ h->Q' e ρ h): ∀{x:LC} {ρ:Env} {h:Heap},x.wp P Q ρ h->x.wp P Q' ρ h:=by
 intro x;induction x generalizing Q Q' with
 | skip=>exact fun h=>hq _ _ _ rfl h
 | reg d r=>
  intro ρ h hw;cases d with
  | false=>exact uS (fun ρ h=>hq .normal ρ h rfl) hw
  | true=>obtain⟨H,hH,hw⟩:=hw;exact⟨H,hH,eK (fun ρ h=>hq .normal ρ h rfl) hw⟩
 | seq x y ihx ihy=>intro ρ h hw;exact ihx (fun e ρ h hp hq'=>by cases e<;>first | exact ihy hq hq' | exact hq _ _ _ hp hq') hw
 | cond c kill x y ihx ihy=>intro ρ h ⟨b,h1,h2,h3⟩;exact⟨b,h1,fun e=>ihx hq (h2 e),fun e=>ihy hq (h3 e)⟩
 | block i x ih=>
  intro ρ h hw;refine ih (fun e ρ h hp hq'=>?_) hw;cases e with
  | exit k=>
   simp only[iX]at hq' ⊢;split
   ·rename_i hk;rw[if_pos hk]at hq';exact hq _ _ _ rfl hq'
   rename_i hk;rw[if_neg hk]at hq';exact hq _ _ _ rfl hq'
  | _=>exact hq _ _ _ hp hq'
 | loop x ih=>intro ρ h ⟨ks,I,h0,hr⟩;exact⟨ks,I,h0,fun n ρ h hI=>ih (fun e ρ h hp hq'=>by cases e<;>first | exact hq' | exact hq _ _ _ hp hq') (hr n ρ h hI)⟩
 | exit i=>exact fun h=>hq _ _ _ rfl h
 | ret=>exact fun h=>hq _ _ _ rfl h
 | rangef g ps asg body _ _=>rintro ρ h ⟨gf,caps,V,W0,all,I,A,h1,h2,h3,h4,h5,h6,h7,h8,h9,h10⟩;exact⟨gf,caps,V,W0,all,I,A,h1,h2,h3,h4,h5,h6,h7,h8,fun W h' a b=>hq _ _ _ rfl (h9 W h' a b),fun e k W h' a b c d=>hq _ _ _ a (h10 e k W h' a b c d)⟩
theorem yZ{pp:PP}{Q Q':Post}(hq : ∀e ρ h,Q e ρ h->Q' e ρ h){x:LC}{h:Heap}(hw:x.wp P Q ρ h):x.wp P Q' ρ h:=mQ (fun e ρ h _=>hq e ρ h) hw
theorem fC{b:Frame}{a:Act}{k:List Item}{cs:List Frame}{w:World}{c:Code}:Go.step P (lone (b.atR a (.code (.scope c)::k)) cs w) = .next (lone (b.atR a (.code c::.inScope c::k)) cs w):=
 step_lone_go (by simp[stepG,stepG.exec,Frame.atR])
theorem pK{b:Frame}{a:Act}{k:List Item}{cs:List Frame}{w:World}{c:Code}:Go.step P (lone (b.atR a (.inScope c::k)) cs w) = .next (lone (b.atR a k) cs w):=
 step_lone_go (by simp[stepG,stepG.exec,Frame.atR])
theorem uQ{F:Fence}{Q:Exit->Act->World->Prop}{a:Act}{w:World}{c:Code}(h:c.wpIn F n P (fun e a w=>(∀l,e≠.goto l)/\Q e a w) a w):(Code.scope c).wpIn F n P Q a w:=by
 intro b k cs hro hb hr;have h0:(lone (b.atR a (.code (.scope c)::k)) cs w).fenced P F:=fenced_calm hb hr rfl;obtain⟨e,a₁,w₁,⟨hp,hq⟩,harr⟩:=h b (.inScope c::k) cs hro hb hr;cases e with
 | normal=>exact⟨.normal,a₁,w₁,hq,.head h0 fC (StepsIn.trans harr (.one (fenced_calm hb hr rfl) pK))⟩
 | exit id=>
  have hx:exitTo id (.inScope c::k)=exitTo id k:=by simp[exitTo]
  exact⟨.exit id,a₁,w₁,hq,fun k' hk=>.head h0 fC (harr.1 k' (by rw[hx];exact hk)),
   fun hr' hk=>let ⟨k₁,h1,h2⟩:=harr.2 hr' (by rw[hx];exact hk);⟨k₁,h1,.head h0 fC h2⟩⟩
 | goto l=>exact absurd rfl (hp l)
 | ret=>exact⟨_,a₁,w₁,hq,.of_steps (.one h0 fC) harr⟩
 | panic ch=>exact⟨_,a₁,w₁,hq,.of_steps (.one h0 fC) harr⟩
 | outgrown=>exact⟨_,a₁,w₁,hq,.of_steps (.one h0 fC) harr⟩
def zA (P:Program) (ops:Array Oper):Option Nat:=
 let reads:=(List.range ops.size).filter fun i=>match ops[i]? with | some o=>isQ P o&&!nr P o | none=>false
 (List.range ops.size).find? fun l=>match ops[l]? with
  | some o=>!isQ P o&&o.guard.isNone&&(let d:=down ops (l+1) [l];reads.all d.contains)
  | none=>false
def zg (liveR:List Nat):Operand->List Nat
 | .tmp t=>if liveR.contains t then[] else[t]
 | _=>[]
def dt (P:Program) (N:Nat) (live liveR:List Nat) (inR:Bool):Code->Option LC
 | .skip=>some .skip
 | .region _ ops draw=>
  if draw then
   if ops.all (fun o=>cX o.op) then
    (regD P N ops live (zA P ops) (ops.size+1) (Array.replicate ops.size false)).map (.reg true)
   else none
  else(regU P N ops live (ops.size+1) ops.toList).map (.reg false)
 | .seq x y=>match dt P N live liveR inR x,dt P N live liveR inR y with
  | some a,some b=>some (.seq a b)
  | _,_=>none
 | .cond c x y=>match dt P N live liveR inR x,dt P N live liveR inR y with
  | some a,some b=>some (.cond (opnd c) (zg liveR c) a b)
  | _,_=>none
 | .block id x=>(dt P N live liveR inR x).map (.block id)
 | .loop x=>(dt P N live liveR inR x).map .loop
 | .exit id=>some (.exit id)
 | .ret=>some .ret
 | .scope x=>dt P N live liveR inR x
 | .label _=>some .skip
 | .rangeFunc f ps x y=>if inR then none else if ps.toList.all (· < N) then
   match dt P N live liveR true x,dt P N live liveR true y with
   | some a,some b=>if a.plain&&b.plain then some (.rangef (opnd f) ps.toList a b) else none
   | _,_=>none
  else none
 | _=>none
def ef (pl:Bool) (D:List Deferred) (n:Nat) (ds:List Deferred) (h:Heap):Prop:=
 ∃ms:List Nat,ds=ms.map (fun m=>{ target:=.collected m,args:=#[] })++D/\(pl=true->ms=[])/\(∀m∈ms,n<=m/\h[m]? = some (.deferred (some [])))/\ms.Nodup
theorem ef.refl(pl:Bool)(D:List Deferred)(n:Nat)(h:Heap):ef pl D n D h:=⟨[],rfl,fun _=>rfl,(fun _ h=>by cases h),F9⟩
theorem ef.trans{p q:Bool}{D ds es:List Deferred}{w0 w1 w2:World}(h:ef p D w0.heap.size ds w1.heap)(k:ef q ds w1.heap.size es w2.heap)(hs:Same w0 w1)(hs2:Same w1 w2):ef (p&&q) D w0.heap.size es w2.heap:=by
 obtain⟨ms,rfl,h1,h2,h3⟩:=h;obtain⟨ns,rfl,k1,k2,k3⟩:=k;refine⟨ns++ms,by simp,fun e=>?_,fun m hm=>?_,?_⟩
 ·simp only[DC]at e;rw[h1 e.1,k1 e.2];rfl
 ·rcases DE.1 hm with hm | hm
  ·exact⟨DW hs.size (k2 m hm).1,(k2 m hm).2⟩
  exact⟨(h2 m hm).1,hs2.defs m (h2 m hm).2⟩
 refine EH.2 ⟨k3,h3,fun a ha b hb e=>?_⟩;subst e;have h4:=(k2 a ha).1;have h5:=(Dx.1 (h2 a hb).2).1;omega
theorem ef.weak{p q:Bool}{D ds:List Deferred}{h:Heap}(hpq:q=true->p=true)(k:ef p D n ds h):ef q D n ds h:=
 let ⟨ms,h1,h2,h3,h4⟩:=k
 ⟨ms,h1,fun e=>h2 (hpq e),h3,h4⟩
def mw [pp:PP] (N:Nat) (pl:Bool) (D:List Deferred) (w0:World) (Q:Post) (e:Exit) (a:Act) (w:World):Prop:=
 ∃ρ,Sat ρ a/\a.tmps.size=N/\ef pl D w0.heap.size a.defers w.heap/\postOf Q e ρ w.heap/\Same w0 w
theorem wpIn_loop_ghost{F:Fence}{k:Nat}{Q:Exit->Act->World->Prop}{c:Code}(I:Nat->Act->World->Prop){a:Act}{w:World}(h₀:I n a w)(round : ∀n a w,I n a w->c.wpIn F k P (Exit.then (fun a' w'=>∃m,m<n/\I m a' w') Q) a w):(Code.loop c).wpIn F k P Q a w:=by
 intro b k cs hro hb hr;have key : ∀j a w,I j a w->
   ∃e a' w',Q e a' w'/\ArrivesIn (Machine.fenced P F) P (lone (b.atR a (.code c::.inLoop c::k)) cs w) b k cs e a' w':=by
  intro j;induction j using Nat.strongRecOn with
  | _ j ih=>
   intro a w hI;obtain⟨e,a₁,w₁,hq,harr⟩:=round j a w hI b (.inLoop c::k) cs hro hb hr;cases e with
   | normal=>obtain⟨m,hlt,hI₁⟩:=hq;obtain⟨e₂,a₂,w₂,hq₂,harr₂⟩:=ih m hlt a₁ w₁ hI₁;exact⟨e₂,a₂,w₂,hq₂,.of_steps (StepsIn.trans harr (.one (fenced_calm hb hr rfl) stepR_inLoop)) harr₂⟩
   | exit id=>exact⟨_,a₁,w₁,hq,.pass (x:=.inLoop c) rfl (fun _ _=>.inl (by simp)) harr⟩
   | goto l=>exact⟨_,a₁,w₁,hq,.pass (x:=.inLoop c) rfl (fun _ _=>.inl (by simp)) harr⟩
   | ret=>exact⟨_,a₁,w₁,hq,.pass (x:=.inLoop c) rfl (fun _ _=>.inl (by simp)) harr⟩
   | panic ch=>exact⟨_,a₁,w₁,hq,.pass (x:=.inLoop c) rfl (fun _ _=>.inl (by simp)) harr⟩
   | outgrown=>exact⟨_,a₁,w₁,hq,.pass (x:=.inLoop c) rfl (fun _ _=>.inl (by simp)) harr⟩
 obtain⟨e,a',w',hq,harr⟩:=key _ a w h₀;exact⟨e,a',w',hq,.of_steps (.one (fenced_calm hb hr rfl) stepR_loop) harr⟩
section
variable {P:Program} {N:Nat} {live liveR:List Nat}
theorem mw.weak {pp:PP} {p q:Bool} {D:List Deferred} {w0:World} {Q:Post} {e:Exit} {a:Act} {w:World} (hpq:q=true->p=true) (h:mw N p D w0 Q e a w):mw N q D w0 Q e a w:=
 let ⟨ρ,h1,h2,h3,h4,h5⟩:=h
 ⟨ρ,h1,h2,h3.weak hpq,h4,h5⟩
theorem yC{vs:List Value}: ∀{ps:List Nat} {ρ:Env} {a:Act},Sat ρ a->(∀p∈ps,p<a.tmps.size)->ps.length=vs.length->
  Sat (cG ρ (ps.zip vs)) { tmps:=(ps.zip vs).foldl (fun t (p:Nat × Value)=>t.setIfInBounds p.1 p.2) a.tmps,defers:=[] }:=by
 induction vs with
 | nil=>intro ps ρ a h _ hl;cases ps with
  | nil=>exact h
  | cons p ps=>simp at hl
 | cons v vs ih=>intro ps ρ a h hp hl;cases ps with
  | nil=>simp at hl
  | cons p ps=>
   simp only[Fe,cG,DS];have:=ih (ps:=ps) (ρ:=setE ρ p v) (a:={ tmps:=a.tmps.setIfInBounds p v,defers:=a.defers }) ?_ (fun q hq=>by simpa using hp q (DB _ hq)) (by simpa using hl)
   ·exact this
   intro t u hu;rw[aI]at hu;split at hu
   ·rename_i e;subst e;cases hu;simp[hp p (Dz ..)]
   rename_i e;simp only[D8 e];exact h t u hu
theorem xQ{l:List (Nat × Value)}: ∀{t:Array Value},(l.foldl (fun t (p:Nat × Value)=>t.setIfInBounds p.1 p.2) t).size=t.size:=by
 induction l with
 | nil=>intro t;rfl
 | cons p l ih=>intro t;simp only[DS,ih,Array.size_setIfInBounds]
def View.set (W:View) (l:Nat) (o:Obj):View:=fun b=>if b=l then some o else W b
theorem js.put{l:Nat}{J:View->Heap->Prop}(hJ:js n J){W:View}{w:World}{o:Obj}(o':Obj)(h:J W w.heap)(hl:W l=some o)(hn:n<=l):J (W.set l o') (w.putObj l o').heap:=by
 have hle:=hJ.le h;have hlt:l<w.heap.size:=(Dx.1 (hle l o hl)).1;refine hJ.move h (fun b hb=>by unfold View.set;rw[if_neg (by omega)]) (fun b x hb=>?_) (fun b hb _=>?_) (by simp[World.putObj])
 ·unfold View.set at hb;split at hb
  ·rename_i e;subst e;cases hb;exact World.putObj_heap_same hlt
  rename_i e;show(w.putObj l o').heap[b]? = _;rw[World.putObj_heap_other e];exact hle b x hb
 have hne:b≠l:=fun e=>by rw[e,hl]at hb;cases hb
 exact⟨World.putObj_heap_other hne,by unfold View.set;rw[if_neg hne];exact hb⟩
theorem Same.put{w:World}{l:Nat}{o o':Obj}(hl:w.heap[l]? = some o)(ho:o≠.deferred (some [])):Same w (w.putObj l o'):=
 Same.lE rfl rfl rfl (by simp[World.putObj]) hl ho fun k _ hne=>World.putObj_heap_other hne
theorem tM{pp:PP}{f:Operand}{ps:Array Tmp}{x y:Code}{X Y:LC}(hx : ∀{Q:Post} {ρ:Env} {a:Act} {w:World} {r:Option Nat},@LC.wp noPP P X Q ρ w.heap->Sat ρ a->a.tmps.size=N->x.wpIn (Fw r) 0 P (@mw noPP N X.plain a.defers w Q) a w)(hy : ∀{Q:Post} {ρ:Env} {a:Act} {w:World} {r:Option Nat},@LC.wp noPP P Y Q ρ w.heap->Sat ρ a->a.tmps.size=N->y.wpIn (Fw r) 0 P (@mw noPP N Y.plain a.defers w Q) a w)(hps : ∀p∈ps.toList,p<N){Q:Post}{a:Act}{w:World}(hw:(LC.rangef (opnd f) ps.toList X Y).wp P Q ρ w.heap)(hρ:Sat ρ a)(hN:a.tmps.size=N):
  (Code.rangeFunc f ps x y).wpIn (Fw none) 0 P (mw N false a.defers w Q) a w:=by
 simp only[LC.wp]at hw;obtain⟨gf,caps,V,W0,all,I,A,hg,hfn,hIter,hlen,hV,hI,h0,hround,hdone,hexit⟩:=hw;have hg':=aG (a:=a) (eJ (fun t v h=>hρ t v h) hg);refine wpIn_rangeFunc fun fn _=>?_;obtain⟨rec,hrec⟩ : ∃rec:LoopState->Option Code->Loop,rec=fun st pe=>{ state:=st,pending:=pe,fn,tmps:=a.tmps,params:=ps,assign:=x,body:=y,defers:=w.heap.size }:=⟨_,rfl⟩;obtain⟨W1,hW1⟩ : ∃W1,(w.alloc (.deferred (some []))).alloc (.loop (rec .ready none))=W1:=⟨_,rfl⟩;have hL1:W1.heap[w.heap.size+1]? = some (.loop (rec .ready none)):=by rw[<-hW1];have:=World.alloc_heap_new (w.alloc (.deferred (some []))) (.loop (rec .ready none));rwa [World.size_alloc]at this
 have hK1:W1.heap[w.heap.size]? = some (.deferred (some [])):=by rw[<-hW1];exact(heap_alloc_old _ _ (by simp)).trans (World.alloc_heap_new w _)
 have hsz1:W1.heap.size=w.heap.size+2:=by rw[<-hW1];simp
 have hold : ∀k,k<w.heap.size->W1.heap[k]? = w.heap[k]?:=by intro k hk;rw[<-hW1,heap_alloc_old _ _ (by simp;omega),heap_alloc_old _ _ hk]
 have hS1:Same w W1:=Same.rH (by rw[<-hW1];rfl) (by rw[<-hW1];rfl) (by rw[<-hW1];rfl) (by omega) hold;have hW0:=(hI none 0).le h0;have hG1:(grow W0 w.heap W1.heap).le (vw W1.heap):=iJ fun b o hb=>by show W1.heap[b]? = _;rw[hold b (View.lt hW0 hb)];exact hW0 b o hb
 have hI1:I none 0 (grow W0 w.heap W1.heap) W1.heap:=(hI none 0).move h0 (fun b hb=>by unfold grow;rw[if_pos hb]) hG1 (fun b hb hlt=>⟨hold b hlt,by unfold grow;rw[if_pos hlt];exact hb⟩) hS1.size;have hgrowL:grow W0 w.heap W1.heap (w.heap.size+1)=some (.loop (rec .ready none)):=by unfold grow;rw[if_neg (by omega)];exact hL1
 have hgrow0 : ∀b,b<w.heap.size->grow W0 w.heap W1.heap b=W0 b:=fun b hb=>by unfold grow;rw[if_pos hb]
 obtain⟨J,hJ⟩ : ∃J:Bool->Nat->View->Heap->Prop,J=fun b k W h=>if b=true then I none k W h/\W (w.heap.size+1)=some (.loop (rec .ready none)) else
   ∃e c,iU e=true/\e≠.normal/\(e = .ret/\c=Code.ret\/∃id,e = .exit id/\c=Code.exit id)/\I (some e) k W h/\W (w.heap.size+1)=some (.loop (rec .done (some c))):=⟨_,rfl⟩
 refine⟨w.heap.size+1,[{ target:=.collected w.heap.size,args:=#[] }],W1,{ target:=.fn (.func gf) caps.toArray,args:=#[.func (.yield (w.heap.size+1)) #[] #[]] },W1,gf,
  (Value.func (.yield (w.heap.size+1)) #[] #[]::caps).toArray,W1,?_,?_,?_,?_,fun h=>by simp[Fw,Fence.wide]at h,?_⟩
 ·rw[<-hW1,hrec];exact run_enterLoop_outer _ _ _ _ _
 ·simp only[resolve,hg'];simp[go_sem]
 ·intro f' _;trivial
 ·unfold isFn at hfn;cases hfn':P.funcs[gf]? with
  | none=>simp[hfn']at hfn
  | some fn'=>simp only[hfn',DC,bne_iff_ne,ne_eq]at hfn;obtain⟨h1,h2⟩:=hfn;simp[invoke,callFunc,program,Sem.run,hfn',h1,Option.isNone];cases hb:fn'.body<;>simp[hb]at h2 ⊢
 have hJ0:J true 0 (grow W0 w.heap W1.heap) W1.heap:=by rw[hJ];simp only[if_true];exact⟨hI1,hgrowL⟩
 refine lv ((hIter (w.heap.size+1) J (grow W0 w.heap W1.heap) W1.heap ?_ (View.le_trans hV (dg hW0)) (View.cJ (View.le_trans hV hW0) (by omega)) hJ0 ?_ W1 rfl).mono ?_)
 ·intro b k;rw[hJ];cases b with
  | true=>simp only[if_true];exact⟨fun h=>(hI none k).le h.1,fun h a1 a2 a3 a4=>⟨(hI none k).move h.1 (fun b hb=>a1 b (by omega)) a2 a3 a4,by rw[a1 _ (by omega)];exact h.2⟩⟩
  | false=>simp only[Er,if_false];exact⟨fun⟨e,c,_,_,_,h,_⟩=>(hI (some e) k).le h,fun⟨e,c,p1,p2,p3,h,p4⟩ a1 a2 a3 a4=>⟨e,c,p1,p2,p3,(hI (some e) k).move h (fun b hb=>a1 b (by omega)) a2 a3 a4,by rw[a1 _ (by omega)];exact p4⟩⟩
 ·intro k vs W' h1 hag hall hJk w' hw';subst hw';rw[hJ]at hJk;simp only[if_true]at hJk;obtain⟨hIk,hWl⟩:=hJk;have hag0 : ∀b,b<w.heap.size->W' b=W0 b:=fun b hb=>by rw[hag b (by omega),hgrow0 b hb]
  have hle:=(hI none k).le hIk;have hl:w'.heap[w.heap.size+1]? = some (.loop (rec .ready none)):=hle _ _ hWl;have hvl:=hlen vs (DY hall);have hyd:=run_yield (P:=P) (args:=vs.toArray) hl (by rw[hrec];simpa using hvl);refine⟨_,_,_,_,hyd,roundIn_of_wpIn trivial ?_⟩;rw[hrec];simp only;obtain⟨hasg,_⟩:=hround k vs W' w'.heap hag0 hall hIk;have hact:(ps.zip vs.toArray).foldl (fun tmps (p:Nat × Value)=>tmps.setIfInBounds p.1 p.2) a.tmps=(ps.toList.zip vs).foldl (fun t (p:Nat × Value)=>t.setIfInBounds p.1 p.2) a.tmps:=by rw[<-Array.foldl_toList];simp
  have hsat:=yC (ps:=ps.toList) (vs:=vs) hρ (fun p hp=>by rw[hN];exact hps p hp) hvl.symm;refine wpIn_mono (hx (r:=some (w.heap.size+1)) (a:={ tmps:=(ps.zip vs.toArray).foldl (fun tmps (p:Nat × Value)=>tmps.setIfInBounds p.1 p.2) a.tmps,defers:=[] }) hasg (by rw[hact];exact hsat) (by rw[hact,xQ];exact hN)) ?_;rintro e a1 w1 ⟨ρ1,s1,n1,_,hqq,hS⟩;obtain⟨rfl,hh,rfl⟩:=kU hqq;have hl':w1.heap[w.heap.size+1]? = some (.loop (rec .ready none)):=by rw[hh];exact hl
  refine⟨_,run_beginRound hl' (by rw[hrec]),?_⟩;have hIk1:I none k W' w1.heap:=by rw[hh];exact hIk
  have hI2:=(hI none k).put (.loop (rec .busy none)) hIk1 hWl (by omega);have hbusy:({ rec .ready none with state:=.busy }:Loop)=rec .busy none:=by rw[hrec]
  rw[hbusy];obtain⟨_,hbody⟩:=hround k vs (W'.set (w.heap.size+1) (.loop (rec .busy none))) _ (fun b hb=>by unfold View.set;rw[if_neg (by omega)];exact hag0 b hb) hall hI2;have hS2:Same w1 (w1.putObj (w.heap.size+1) (.loop (rec .busy none))):=Same.put hl' (by simp);refine wpIn_mono (hy (r:=some (w.heap.size+1)) (mQ (Q':=fun e _ h3=>iU e=true/\I (match e with | .normal=>none | e=>some e) (k+1) (W'.set (w.heap.size+1) (.loop (rec .busy none))) h3) (fun e ρ h hp hq=>⟨hp,hq⟩) hbody) s1 n1) ?_;rintro e a3 w3 ⟨ρ3,s3,n3,_,hqq,hS3⟩;obtain⟨hpe,hI3⟩:=kU hqq;have hset:(W'.set (w.heap.size+1) (.loop (rec .busy none))) (w.heap.size+1)=some (.loop (rec .busy none)):=by unfold View.set;rw[if_pos rfl]
  have hset2 : ∀o o',(W'.set (w.heap.size+1) o).set (w.heap.size+1) o'=W'.set (w.heap.size+1) o':=by intro o o';funext b;unfold View.set;split<;>rfl
  have hself:W'.set (w.heap.size+1) (.loop (rec .ready none))=W':=by
   funext b;unfold View.set;split
   ·rename_i e;subst e;exact hWl.symm
   rfl
  have fin : ∀jump:Option Code,w3.heap[w.heap.size+1]? = some (.loop (rec .busy none))->
    (Instr.endRound (w.heap.size+1) jump).run P w3 = .ok (.bool jump.isNone) (w3.putObj (w.heap.size+1) (.loop (rec (if jump.isNone then .ready else .done) jump)))/\Same w' (w3.putObj (w.heap.size+1) (.loop (rec (if jump.isNone then .ready else .done) jump))):=by intro jump h3;have:=run_endRound (P:=P) jump h3;rw[hrec]at this ⊢;rw[hrec]at h3;refine⟨this,((hS.trans hS2).trans hS3).trans (Same.put h3 (by simp))⟩
  cases e with
  | normal=>obtain⟨f1,f2⟩:=fin none ((hI none (k+1)).le hI3 _ _ hset);refine⟨_,_,f1,true,rfl,⟨W',fun _ _=>rfl,fun _=>rfl,?_⟩,f2⟩;rw[hJ];simp only[if_true];have:=(hI none (k+1)).put (.loop (rec .ready none)) hI3 hset (by omega);rw[hset2,hself]at this;exact⟨this,hWl⟩
  | ret=>obtain⟨f1,f2⟩:=fin (some .ret) ((hI (some .ret) (k+1)).le hI3 _ _ hset);refine⟨_,_,f1,false,rfl,⟨W'.set (w.heap.size+1) (.loop (rec .done (some .ret))),fun i hi=>by unfold View.set;rw[if_neg hi],(fun h=>by cases h),?_⟩,f2⟩;rw[hJ];simp only[Er,if_false];have:=(hI (some .ret) (k+1)).put (.loop (rec .done (some .ret))) hI3 hset (by omega);rw[hset2]at this;exact⟨.ret,.ret,rfl,by simp,.inl ⟨rfl,rfl⟩,this,by unfold View.set;rw[if_pos rfl]⟩
  | exit id=>obtain⟨f1,f2⟩:=fin (some (.exit id)) ((hI (some (.exit id)) (k+1)).le hI3 _ _ hset);refine⟨_,_,f1,false,rfl,⟨W'.set (w.heap.size+1) (.loop (rec .done (some (.exit id)))),fun i hi=>by unfold View.set;rw[if_neg hi],(fun h=>by cases h),?_⟩,f2⟩;rw[hJ];simp only[Er,if_false];have:=(hI (some (.exit id)) (k+1)).put (.loop (rec .done (some (.exit id)))) hI3 hset (by omega);rw[hset2]at this;exact⟨(.exit id),(.exit id),rfl,by simp,.inr ⟨id,rfl,rfl⟩,this,by unfold View.set;rw[if_pos rfl]⟩
  | goto t=>cases hpe
  | panic ch=>cases hpe
  | outgrown=>cases hpe
 rintro e w2 ⟨v,rfl,⟨b,k,W',hag,hJk,hk⟩,hS⟩;have hag0 : ∀b,b<w.heap.size->W' b=W0 b:=fun b hb=>by rw[hag b (by omega) (by omega),hgrow0 b hb]
 have hD2:=hS.defs _ hK1;have marks : ∀w4:World,(∀k,k≠w.heap.size+1->w4.heap[k]? = w2.heap[k]?)->ef false a.defers w.heap.size ([{ target:=.collected w.heap.size,args:=#[] }]++a.defers) w4.heap:=
  fun w4 h4=>⟨[w.heap.size],rfl,fun h=>by(cases h),fun m hm=>by simp only[DF]at hm;subst hm;exact⟨Dy _,by rw[h4 _ (by omega)];exact hD2⟩,by simp⟩;have hsset : ∀o b,b<w.heap.size->(W'.set (w.heap.size+1) o) b=W0 b:=fun o b hb=>by unfold View.set;rw[if_neg (by omega)];exact hag0 b hb
 rw[hJ]at hJk;cases b with
 | true=>simp only[if_true]at hJk;obtain⟨hIk,hWl⟩:=hJk;have hl:=(hI none k).le hIk _ _ hWl;refine⟨none,_,by have:=run_endLoop (P:=P) hl (by rw[hrec];simp);rw[hrec]at this;exact this,ρ,hρ,hN,marks _ (fun k hk=>World.putObj_heap_other hk),?_,(hS1.trans hS).trans (Same.put hl (by simp))⟩;have hkl:=hk rfl;rw[hkl]at hIk;exact hdone _ _ (hsset _) ((hI none all.length).put _ hIk hWl (by omega))
 | false=>
  simp only[Er,if_false]at hJk;obtain⟨e,c,hpe,hne,hec,hIk,hWl⟩:=hJk;have hl:=(hI (some e) k).le hIk _ _ hWl;refine⟨some c,_,by have:=run_endLoop (P:=P) hl (by rw[hrec];simp);rw[hrec]at this;exact this,?_⟩;have hQ:=hexit e k _ _ hpe hne (hsset _) ((hI (some e) k).put (.loop { state:=.exhausted,pending:=some c,fn,tmps:=a.tmps,params:=ps,assign:=x,body:=y,defers:=w.heap.size }) hIk hWl (by omega));have hS4:=(hS1.trans hS).trans (Same.put (o':=.loop { state:=.exhausted,pending:=some c,fn,tmps:=a.tmps,params:=ps,assign:=x,body:=y,defers:=w.heap.size }) hl (by simp));rcases hec with⟨rfl,rfl⟩ | ⟨id,rfl,rfl⟩
  ·exact wpIn_ret ⟨ρ,hρ,hN,marks _ (fun k hk=>World.putObj_heap_other hk),hQ,hS4⟩
  exact wpIn_exit ⟨ρ,hρ,hN,marks _ (fun k hk=>World.putObj_heap_other hk),hQ,hS4⟩
theorem cM {pp:PP} (hm:P.follows .mixedOrders=true) : ∀(c:Code) {inR:Bool} {L:LC} {Q:Post} {ρ:Env} {a:Act} {w:World} {r:Option Nat},dt P N live liveR inR c=some L->(inR=false->r=none)->L.wp P Q ρ w.heap->Sat ρ a->a.tmps.size=N->
  c.wpIn (Fw r) 0 P (mw N L.plain a.defers w Q) a w
 | .skip,inR,L,Q,ρ,a,w,r,hL,hr,hw,hρ,hN=>by simp only[dt,o0]at hL;subst hL;exact wpIn_skip ⟨ρ,hρ,hN,ef.refl ..,hw,Same.refl _⟩
 | .region id ops draw,inR,L,Q,ρ,a,w,r,hL,hr,hw,hρ,hN=>by
  have post : ∀e a' w',gn N a.defers w (Q .normal) e a' w'->mw N true a.defers w Q e a' w':=by
   intro e a' w' h;cases e<;>first | exact h.elim | skip
   ·obtain⟨ρ',h1,h2,h3,h4,h5⟩:=h;exact⟨ρ',h1,h2,h3▸ef.refl ..,h4,h5⟩
   obtain⟨ρ',h1,h2,h3,h4,h5⟩:=h;exact⟨ρ',h1,h2,h3▸ef.refl ..,h4,h5⟩
  cases draw with
  | true=>
   simp only[dt,if_true]at hL;split at hL;case isFalse=>cases hL
   rename_i hpl;simp only[Dw]at hL;obtain⟨R,hR,rfl⟩:=hL;exact wpIn_mono (rD hm hpl hR hN rfl hρ hw) post
  | false=>simp only[dt,Er,if_false,Dw]at hL;obtain⟨R,hR,rfl⟩:=hL;exact wpIn_mono (rZ hR hN rfl hρ hw) post
 | .seq x y,inR,L,Q,ρ,a,w,r,hL,hr,hw,hρ,hN=>by
  simp only[dt]at hL;split at hL;case h_2=>cases hL
  rename_i A B hA hB;simp only[o0]at hL;subst hL;simp only[LC.wp]at hw;refine wpIn_seq (wpIn_mono (cM hm x hA hr hw hρ hN) ?_);rintro e a1 w1 ⟨ρ1,h1,h2,h3,h4,h5⟩;cases e with
  | normal=>refine wpIn_mono (cM hm y hB hr h4 h1 h2) ?_;rintro e a2 w2 ⟨ρ2,g1,g2,g3,g4,g5⟩;exact⟨ρ2,g1,g2,h3.trans g3 h5 g5,g4,h5.trans g5⟩
  | _=>exact⟨ρ1,h1,h2,h3.weak (by simp[LC.plain];exact fun h _=>h),h4,h5⟩
 | .cond c x y,inR,L,Q,ρ,a,w,r,hL,hr,hw,hρ,hN=>by
  simp only[dt]at hL;split at hL;case h_2=>cases hL
  rename_i A B hA hB;simp only[o0]at hL;subst hL;simp only[LC.wp]at hw;obtain⟨b,hb,h1,h2⟩:=hw;have hb':=aG (a:=a) (eJ (fun t v h=>hρ t v h) hb);cases b with
  | true=>exact wpIn_cond hb' (wpIn_mono (cM hm x hA hr (h1 rfl) (tR hρ) hN) fun _ _ _ h=>h.weak (by simp[LC.plain];exact fun h _=>h))
  | false=>exact wpIn_cond hb' (wpIn_mono (cM hm y hB hr (h2 rfl) (tR hρ) hN) fun _ _ _ h=>h.weak (by simp[LC.plain]))
 | .block id x,inR,L,Q,ρ,a,w,r,hL,hr,hw,hρ,hN=>by
  simp only[dt,Dw]at hL;obtain⟨A,hA,rfl⟩:=hL;simp only[LC.wp]at hw;refine wpIn_block (wpIn_mono (cM hm x hA hr hw hρ hN) ?_);rintro e a1 w1 ⟨ρ1,h1,h2,h3,h4,h5⟩;cases e with
  | exit k=>
   simp only[postOf,iX]at h4;simp only[Exit.inBlock];split
   ·rename_i hk;rw[if_pos hk]at h4;exact⟨ρ1,h1,h2,h3,h4,h5⟩
   rename_i hk;rw[if_neg hk]at h4;exact⟨ρ1,h1,h2,h3,h4,h5⟩
  | _=>exact⟨ρ1,h1,h2,h3,h4,h5⟩
 | .loop x,inR,L,Q,ρ,a,w,r,hL,hr,hw,hρ,hN=>by
  simp only[dt,Dw]at hL;obtain⟨A,hA,rfl⟩:=hL;simp only[LC.wp]at hw;obtain⟨ks,I,⟨n,h0⟩,hround⟩:=hw;refine wpIn_loop_ghost (fun n a1 w1=>∃ρ1,Sat ρ1 a1/\a1.tmps.size=N/\ef A.plain a.defers w.heap.size a1.defers w1.heap/\I n ρ1 w1.heap/\Same w w1) (n:=n) ⟨dA ks ρ,sX hρ,hN,ef.refl ..,h0,Same.refl _⟩ ?_;rintro n a1 w1 ⟨ρ1,h1,h2,h3,h4,h5⟩;refine wpIn_mono (cM hm x hA hr (hround n ρ1 w1.heap h4) h1 h2) ?_;rintro e a2 w2 ⟨ρ2,g1,g2,g3,g4,g5⟩;have hm2:ef A.plain a.defers w.heap.size a2.defers w2.heap:=(h3.trans g3 h5 g5).weak (by simp);cases e with
  | normal=>obtain⟨m,hlt,hI⟩:=g4;exact⟨m,hlt,dA ks ρ2,sX g1,g2,hm2,hI,h5.trans g5⟩
  | _=>exact⟨ρ2,g1,g2,hm2,g4,h5.trans g5⟩
 | .exit id,inR,L,Q,ρ,a,w,r,hL,hr,hw,hρ,hN=>by simp only[dt,o0]at hL;subst hL;exact wpIn_exit ⟨ρ,hρ,hN,ef.refl ..,hw,Same.refl _⟩
 | .ret,inR,L,Q,ρ,a,w,r,hL,hr,hw,hρ,hN=>by simp only[dt,o0]at hL;subst hL;exact wpIn_ret ⟨ρ,hρ,hN,ef.refl ..,hw,Same.refl _⟩
 | .label l,inR,L,Q,ρ,a,w,r,hL,hr,hw,hρ,hN=>by simp only[dt,o0]at hL;subst hL;exact wpIn_label ⟨ρ,hρ,hN,ef.refl ..,hw,Same.refl _⟩
 | .goto l,_,_,_,_,_,_,_,hL,_,_,_,_=>by simp[dt]at hL
 | .scope c,inR,L,Q,ρ,a,w,r,hL,hr,hw,hρ,hN=>by
  simp only[dt]at hL;have hw2:L.wp P (fun e ρ h=>iU e=true/\Q e ρ h) ρ w.heap:=mQ (fun e ρ h hp hq=>⟨hp,hq⟩) hw;refine uQ (wpIn_mono (cM hm c hL hr hw2 hρ hN) fun e a w ⟨ρ,h1,h2,h3,h4,h5⟩=>?_);cases e with
  | panic ch=>exact⟨fun l h=>(by cases h),ρ,h1,h2,h3,h4,h5⟩
  | goto l=>cases h4.1
  | outgrown=>cases h4.1
  | _=>exact⟨fun l h=>(by cases h),ρ,h1,h2,h3,h4.2,h5⟩
 | .refuse s,_,_,_,_,_,_,_,hL,_,_,_,_=>by simp[dt]at hL
 | .rangeFunc f ps x y,inR,L,Q,ρ,a,w,r,hL,hr,hw,hρ,hN=>by
  simp only[dt]at hL;split at hL
  ·cases hL
  rename_i hin;obtain rfl:=hr (by simpa using hin);split at hL;case isFalse=>cases hL
  rename_i hps;split at hL;case h_2=>cases hL
  rename_i A B hA hB;split at hL;case isFalse=>cases hL
  simp only[o0]at hL;subst hL;exact tM (fun hw h1 h2=>cM hm x hA (by simp) hw h1 h2) (fun hw h1 h2=>cM hm y hB (by simp) hw h1 h2) (fun p hp=>by simpa using D3.1 hps p hp) hw hρ hN
end
def resE (P:Program):ResultVar->Option E
 | .tmp t=>some (.tmp t)
 | .cell a t=>oU P t (.tmp a)
def pack:List Value->Value
 | [v]=>v
 | vs=>.tuple vs.toArray
structure LFn where
 res:List E
 body:LC
 deriving Inhabited
def j0:Code->List Nat
 | .region _ ops _=>(ops.toList.foldl (fun(p:List Nat × List Nat) o=>((tmpsOf o).foldl (fun l t=>if p.2.contains t||l.contains t then l else t::l) p.1,match o.dst with | some d=>d::p.2 | none=>p.2)) ([],[])).1
 | .seq x y=>j0 x++j0 y
 | .cond _ x y=>j0 x++j0 y
 | .block _ x | .loop x | .scope x=>j0 x
 | .rangeFunc f _ x y=>(match f with | .tmp t=>[t] | _=>[])++j0 x++j0 y
 | _=>[]
def gQ:Code->List Nat
 | .seq x y=>gQ x++gQ y
 | .cond c x y=>(match c with | .tmp t=>[t] | _=>[])++gQ x++gQ y
 | .block _ x | .loop x | .scope x=>gQ x
 | .rangeFunc _ _ x y=>gQ x++gQ y
 | _=>[]
def rE (fn:Func) (c:Code):List Nat:=(fn.results.toList.map fun | .tmp t=>t | .cell a _=>a)++(j0 c).eraseDups
def aJ (P:Program) (fn:Func):Option LFn:=
 match fn.body with
 | some c=>match fn.results.toList.mapM (resE P),dt P fn.ntmps (gQ c++rE fn c) (rE fn c) false c with
  | some res,some L=>some ⟨res,L⟩
  | _,_=>none
 | none=>none
def fS:Nat->List Value->Env
 | _,[]=>[]
 | k,v::vs=>(k,v)::fS (k+1) vs
def kv (res:List E) (R:Value->Heap->Prop):Post
 | .normal,ρ,h | .ret,ρ,h=>∃vs,evs (look ρ) (vw h) res=some vs/\R (pack vs) h
 | _,_,_=>False
theorem jn : ∀(vs:List Value) (k t:Nat) (v:Value),look (fS k vs) t=some v->k<=t/\vs[t-k]? = some v
 | [],_,_,_,h=>by simp[fS,look]at h
 | u::vs,k,t,v,h=>by
  simp only[fS,look]at h;split at h
  ·rename_i e;subst e;simp only[o0]at h;subst h;exact⟨Dy _,by simp⟩
  rename_i e;obtain⟨h1,h2⟩:=jn vs (k+1) t v h;refine⟨by omega,?_⟩;have:t-k=(t-(k+1))+1:=by omega
  rw[this];simpa using h2
theorem wc {P:Program} {a:Act} {w:World} {F:ResultVar->Sem Value} (hF1 : ∀t,F (ResultVar.tmp t)=pure (a.tmps.getD t undef))
  (hF2 : ∀b t,F (ResultVar.cell b t)=(do loadVar t (<-asAddr (a.tmps.getD b undef)))) : ∀{rs:List ResultVar} {es:List E} {vs:List Value},rs.mapM (resE P)=some es->evs (aO a) (vw w.heap) es=some vs->
  (rs.mapM F).run P w=Result.ok vs w
 | [],es,vs,h,hv=>by simp at h;subst h;simp[evs]at hv;subst hv;simp
 | x::rs,es,vs,h,hv=>by
  simp only[Gb,Option.bind_eq_bind,DD]at h;obtain⟨e,he,es',hes,h⟩:=h;simp only[Option.pure_def,o0]at h;subst h;simp only[evs]at hv;split at hv
  ·rename_i v vs' hv1 hv2;simp only[o0]at hv;subst hv;have ih:=wc hF1 hF2 hes hv2;cases x with
   | tmp t=>simp only[resE,o0]at he;subst he;simp only[ev,aO]at hv1;simp[hF1,hv1,ih]
   | cell a' t=>
    simp only[resE]at he;have hx : ∃u,ev (aO a) (vw w.heap) (.tmp a')=some u:=by
     unfold oU at he;split at he
     ·simp only[o0]at he;subst he;obtain⟨u,hu,_⟩:=fL hv1;exact⟨u,hu⟩
     ·simp only[o0]at he;subst he;obtain⟨u,hu,_⟩:=fL hv1;exact⟨u,hu⟩
     cases he
    obtain⟨u,hu⟩:=hx;have h1:=run_load he hu hv1;simp only[ev,aO]at hu;cases u with
    | pointer o=>
     cases o with
     | none=>simp[Instr.loadAt,Instr.sureAddr,stuck,Sem.run]at h1
     | some ad=>simp[Instr.loadAt,Instr.sureAddr]at h1;simp[hF2,hu,asAddr,h1,ih]
    | _=>simp[Instr.loadAt,Instr.sureAddr,stuck,Sem.run]at h1
  cases hv
theorem zN(vs:List Value):(if h:vs.toArray.size=1 then vs.toArray[0] else Value.tuple vs.toArray)=pack vs:=by
 match vs with
 | []=>rfl
 | [v]=>rfl
 | v::u::l=>simp[pack]
variable{fn:Func}
theorem iG{a:Act}{w:World}{vs:List Value}(h:fn.results.toList.mapM (resE P)=some es)(hv:evs (aO a) (vw w.heap) es=some vs):
  (results fn a.tmps).run P w = .ok (pack vs) w:=by unfold results;rw[FV];have h1:=wc (P:=P) (a:=a) (w:=w) (F:=fun x=>match x with | .tmp t=>pure (a.tmps.getD t undef) | .cell b t=>do loadVar t (<-asAddr (a.tmps.getD b undef))) (fun _=>rfl) (fun _ _=>rfl) h hv;rw[<-zN];simp only[Sem.run_bind,Sem.run_map];erw [h1];simp[Result.andThen]
variable{args:List Value}
theorem nk{pp:PP}{L:LFn}{Q:Post}{w:World}{c:Code}(hm:P.follows .mixedOrders=true)(hc:fn.body=some c)(hL:aJ P fn=some L)(hn:args.length<=fn.ntmps)(hw:L.body.wp P Q (fS 0 args) w.heap):fn.results.toList.mapM (resE P)=some L.res/\
  c.wpIn (Fw none) 0 P (mw fn.ntmps L.body.plain [] w Q) { tmps:=args.toArray++Array.replicate (fn.ntmps-args.toArray.size) undef,defers:=[] } w:=by
 unfold aJ at hL;split at hL;case h_2=>cases hL
 rename_i c' hc';rw[hc]at hc';cases hc';split at hL;case h_2=>cases hL
 rename_i res B hres hB;simp only[o0]at hL;subst hL;have hsat:Sat (fS 0 args) { tmps:=args.toArray++Array.replicate (fn.ntmps-args.toArray.size) undef,defers:=[] }:=by
  intro t v hl;obtain⟨_,h2⟩:=jn args 0 t v hl;have:t<args.length:=by
   rcases DA t args.length with h | h
   ·exact h
   simp[D1 h]at h2
  simp only[Nat.sub_zero]at h2;simp only[Fu,EI,this,if_true,Fv];exact h2
 exact⟨hres,cM (r:=none) hm c hB (fun _=>rfl) hw hsat (by simp;omega)⟩
theorem lS{L:LFn}(hL:aJ P fn=some L): ∃c,fn.body=some c:=by
 unfold aJ at hL;split at hL
 ·rename_i c hc;exact⟨c,hc⟩
 cases hL
theorem pN{f:FuncId}{L:LFn}{h:Heap}{R:Value->Heap->Prop}(hm:P.follows .mixedOrders=true)(hf:P.funcs[f]? = some fn)(hL:aJ P fn=some L)(hn:args.length<=fn.ntmps)(hpl:L.body.plain=true)(hw:L.body.wp P (kv L.res R) (fS 0 args) h):aj P f args.toArray h R:=by
 intro w hwh;subst hwh;obtain⟨c,hc⟩:=lS hL;obtain⟨hres,hwp⟩:=nk hm hc hL hn hw;refine(callsIn_wide (n:=0)).1 (callsIn_of_wp hf hc trivial (wpIn_mono hwp ?_));rintro e a1 w1 ⟨ρ1,h1,h2,⟨ms,h3,hms,_⟩,h4,h5⟩;rw[hms hpl]at h3;have fin:(∃vs,evs (look ρ1) (vw w1.heap) L.res=some vs/\R (pack vs) w1.heap)->a1.defers=[]/\∃v,(results fn a1.tmps).run P w1 = .ok v w1/\∃u,Ending.returned v = .returned u/\R u w1.heap/\Same w w1:=by rintro⟨vs,g1,g2⟩;exact⟨h3,pack vs,iG hres (kT (fun t v h=>h1 t v h) g1),pack vs,rfl,g2,h5⟩
 cases e with
 | normal=>exact fin h4
 | ret=>exact fin h4
 | panic ch=>exact h4.2.elim
 | _=>exact h4.elim
abbrev ppOf (Rp:List PanicEntry->Heap->Prop):PP:=⟨Rp,fun _=>True⟩
variable{Rp:List PanicEntry->Heap->Prop}
theorem oL{f:FuncId}{L:LFn}{h:Heap}{R:Value->Heap->Prop}(hm:P.follows .mixedOrders=true)(hf:P.funcs[f]? = some fn)(hL:aJ P fn=some L)(hn:args.length<=fn.ntmps)(hpl:L.body.plain=true)(hw:@LC.wp (ppOf Rp) P L.body (kv L.res R) (fS 0 args) h):eT P f args.toArray h R Rp:=by
 intro w hwh;subst hwh;obtain⟨c,hc⟩:=lS hL;obtain⟨hres,hwp⟩:=nk hm hc hL hn hw;refine(callsIn_wide (n:=0)).1 (callsIn_of_wp hf hc trivial (wpIn_mono hwp ?_));rintro e a1 w1 ⟨ρ1,h1,h2,⟨ms,h3,hms,_⟩,h4,h5⟩;rw[hms hpl]at h3;have fin:(∃vs,evs (look ρ1) (vw w1.heap) L.res=some vs/\R (pack vs) w1.heap)->a1.defers=[]/\∃v,(results fn a1.tmps).run P w1 = .ok v w1/\((∃u,Ending.returned v = .returned u/\R u w1.heap/\Same w w1)\/∃ch,Ending.returned v = .panicked ch/\Rp ch w1.heap/\Same w w1):=by rintro⟨vs,g1,g2⟩;exact⟨h3,pack vs,iG hres (kT (fun t v h=>h1 t v h) g1),.inl ⟨pack vs,rfl,g2,h5⟩⟩
 cases e with
 | normal=>exact fin h4
 | ret=>exact fin h4
 | panic ch=>exact⟨h3,.inr ⟨ch,rfl,h4.2,h5⟩⟩
 | _=>exact h4.elim
structure jB (n:Nat) (h h':Heap):Prop where
 size:h'.size=h.size
 same : ∀b,b<n\/h[b]?≠some (.deferred (some []))->h'[b]? = h[b]?
theorem jB.refl(n:Nat)(h:Heap):jB n h h:=⟨rfl,fun _ _=>rfl⟩
def vR (n:Nat) (res:List E) (R:Value->Heap->Prop):Post
 | .normal,ρ,h | .ret,ρ,h=>∀h',jB n h h'->∃vs,evs (look ρ) (vw h') res=some vs/\R (pack vs) h'
 | _,_,_=>False
theorem me {P:Program} {fn:Func} {a:Act} {w0:World} {R:Ending->World->Prop} : ∀(ms:List Nat) (w:World),ms.Nodup->(∀m∈ms,w0.heap.size<=m/\w.heap[m]? = some (.deferred (some [])))->Same w0 w->
  (∀w',jB w0.heap.size w.heap w'.heap->Same w0 w'->∃v,(results fn a.tmps).run P w' = .ok v w'/\R (.returned v) w')->
  LeavesInM (Fw none) 0 P fn a.tmps R (ms.map fun m=>{ target:=.collected m,args:=#[] }) .returning w
 | [],w,_,_,hS,h=>h w (jB.refl _ _) hS
 | m::ms,w,hnd,hms,hS,h=>by
  obtain⟨h1,h2⟩:=FG.1 hnd;obtain⟨hm1,hm2⟩:=hms m (Dz ..);have hS1:Same w0 (w.putObj m (.deferred none)):=⟨hS.os,hS.output,hS.tape,by simpa[World.putObj]using hS.size,fun b hb=>by
   have hne:b≠m:=fun e=>by have:=(Dx.1 hb).1;omega
   rw[World.putObj_heap_other hne];exact hS.defs b hb⟩;refine⟨by simp,.inl ⟨m,_,rfl,run_takeDeferred hm2,me ms _ h2 (fun k hk=>?_) hS1 fun w' hsw hS'=>h w' ⟨by rw[hsw.size];simp[World.putObj],fun b hb=>?_⟩ hS'⟩⟩
  ·have hne:k≠m:=fun e=>h1 (e▸hk);rw[World.putObj_heap_other hne];exact hms k (DB _ hk)
  have hne:b≠m:=fun e=>by
   subst e;rcases hb with hb | hb
   ·omega
   exact hb hm2
  have e:(w.putObj m (.deferred none)).heap[b]? = w.heap[b]?:=World.putObj_heap_other hne;rw[hsw.same b (by rw[e];exact hb),e]
theorem oC{f:FuncId}{L:LFn}{h:Heap}{R:Value->Heap->Prop}(hm:P.follows .mixedOrders=true)(hf:P.funcs[f]? = some fn)(hL:aJ P fn=some L)(hn:args.length<=fn.ntmps)(hw:L.body.wp P (vR h.size L.res R) (fS 0 args) h):aj P f args.toArray h R:=by
 intro w hwh;subst hwh;obtain⟨c,hc⟩:=lS hL;obtain⟨hres,hwp⟩:=nk hm hc hL hn hw;refine(callsIn_wide (n:=0)).1 (callsIn_of_wp_marks hf hc trivial (wpIn_mono hwp ?_));rintro e a1 w1 ⟨ρ1,h1,h2,⟨ms,h3,_,hms,hnd⟩,h4,h5⟩;have fin:(∀h',jB w.heap.size w1.heap h'->∃vs,evs (look ρ1) (vw h') L.res=some vs/\R (pack vs) h')->LeavesInM (Fw none) 0 P fn a1.tmps (fun e w'=>∃u,e = .returned u/\R u w'.heap/\Same w w') a1.defers .returning w1:=by intro hq;rw[h3,EF];refine me ms w1 hnd hms h5 fun w' hsw hS=>?_;obtain⟨vs,g1,g2⟩:=hq w'.heap hsw;exact⟨pack vs,iG hres (kT (fun t v h=>h1 t v h) g1),pack vs,rfl,g2,hS⟩
 cases e with
 | normal=>exact fin h4
 | ret=>exact fin h4
 | panic ch=>exact h4.2.elim
 | _=>exact h4.elim
def ze (fn:Func):List Nat:=match fn.body with | some c=>gQ c++rE fn c | none=>[]
def yy (fn:Func):List Nat:=match fn.body with | some c=>rE fn c | none=>[]
def q8 (fn:Func):Code:=match fn.body with | some (.seq c _)=>c | _=>.skip
def AL (fn:Func):Code:=match fn.body with | some (.seq _ (.seq c _))=>c | _=>.skip
def yu (fn:Func):Code:=match fn.body with | some (.seq _ (.seq _ c))=>c | _=>.skip
def AQ (fn:Func):Code:=match fn.body with | some (.seq _ c)=>c | _=>.skip
def y8:Code->Array Oper | .region _ ops _=>ops | _=>#[]
def AJ:Code->Nat | .region i _ _=>i | _=>0
def AX (fn:Func) (i:Nat):Oper:=((y8 (AL fn))[i]?).getD default
def BC (fn:Func) (i:Nat):Oper:=((y8 (q8 fn))[i]?).getD default
def LC.tail:LC->LC | .seq _ y=>y | _=>.skip
section
variable {po:OP} {pp:PP}
def sat {α:Type} (o:Option α) (K:α->Prop):Prop:=∃v,o=some v/\K v
variable{α:Type}
@[simp] theorem kl{v:α}{K:α->Prop}:sat (some v) K=K v:=by simp[sat]
@[simp] theorem CC{K:α->Prop}:sat none K=False:=by simp[sat]
@[congr] theorem BV{o o':Option α}{K:α->Prop}(h:o=o'):sat o K=sat o' K:=by rw[h]
def iI (o:Option Value) (A B:Prop):Prop:=∃b,o=some (.bool b)/\(b=true->A)/\(b=false->B)
variable{A B:Prop}
@[simp] theorem uo:iI (some (.bool true)) A B=A:=by simp[iI]
@[simp] theorem sZ:iI (some (.bool false)) A B=B:=by simp[iI]
@[simp] theorem lV{p:Prop}[Decidable p]:iI (some (.bool (decide p))) A B=((p->A)/\(¬p->B)):=by simp[iI]
variable{b:Bool}
@[simp] theorem BO:iI (some (.bool (!b))) A B=iI (some (.bool b)) B A:=by cases b<;>simp[iI]
@[congr] theorem AV{o o':Option Value}(h:o=o'):iI o A B=iI o' A B:=by rw[h]
theorem fU:iI (some (.bool b)) A B=((b=true->A)/\(b=false->B)):=by simp[iI]
section
variable {P:Program} {Q:Post} {ρ:Env} {h:Heap}
@[congr] theorem BQ{x:LC}{ρ':Env}(hρ:ρ=ρ')(hh:h=h'):LC.wp P x Q ρ h=LC.wp P x Q ρ' h':=by rw[hρ,hh]
@[congr] theorem AW{r:Reg}{Q:Env->Heap->Prop}{ρ':Env}(hρ:ρ=ρ')(hh:h=h'):df P m r Q ρ h=df P m r Q ρ' h':=by rw[hρ,hh]
@[simp] theorem te:LC.wp P .skip Q ρ h=Q .normal ρ h:=rfl
@[simp] theorem CT:LC.wp P .ret Q ρ h=Q .ret ρ h:=rfl
@[simp] theorem s8{i:Nat}:LC.wp P (.exit i) Q ρ h=Q (.exit i) ρ h:=rfl
@[simp] theorem vX{x y:LC}:LC.wp P (.seq x y) Q ρ h=x.wp P (gy (y.wp P Q) Q) ρ h:=rfl
@[simp] theorem fw{i:Nat}{x:LC}:LC.wp P (.block i x) Q ρ h=x.wp P (iX i Q) ρ h:=rfl
@[simp] theorem oo{r:Reg}:LC.wp P (.reg false r) Q ρ h=df P none r (Q .normal) ρ h:=rfl
variable{kill:List Nat}
@[simp] theorem mJ{c:E}{x y:LC}:LC.wp P (.cond c kill x y) Q ρ h=iI (ev (look ρ) (vw h) c) (x.wp P Q (bu ρ kill) h) (y.wp P Q (bu ρ kill) h):=rfl
theorem je{x:LC}(ks:List Nat)(I:Nat->Env->Heap->Prop)(n:Nat)(h0:I n (dA ks ρ) h)(hr : ∀n ρ h,I n ρ h->∀K:Env->Heap->Prop,(∀m ρ' h',m<n->I m (dA ks ρ') h'->K ρ' h')->x.wp P (gy K Q) ρ h):LC.wp P (.loop x) Q ρ h:=
 ⟨ks,I,⟨n,h0⟩,fun n ρ h hI=>hr n ρ h hI (fun ρ' h'=>∃m,m<n/\I m (dA ks ρ') h') fun m _ _ hlt hI'=>⟨m,hlt,hI'⟩⟩
@[simp] theorem BP:dA [] ρ=[]:=rfl
variable{sets:List (Nat × E)}{chk:List E}
@[simp] theorem kG{Q:Env->Heap->Prop}:
  df P m (.fin kill sets chk) Q ρ h=sat (evP (look ρ) (part m h) sets) fun vs=>okE (look ρ) (part m h) chk/\Q (cG (bu ρ kill) vs) h:=rfl
@[simp] theorem gT:part none h=vw h:=rfl
@[simp] theorem gU:part (some H) h=H:=rfl
@[simp] theorem AK{S:View->View->Prop}:jm S none h=True:=by simp[jm]
@[simp] theorem AE{S:View->View->Prop}:jm S (some H) h=S H (vw h):=by simp[jm]
@[simp] theorem Bc:keeps none h=True:=by simp[keeps]
@[simp] theorem Br:keeps (some H) h=H.le (vw h):=by simp[keeps]
attribute [simp] setE cG putE fS
@[simp] theorem CI{v:Value}:pack [v]=v:=rfl
@[simp] theorem Cw{v u:Value}:pack [v,u] = .tuple #[v,u]:=rfl
@[simp] theorem Bh{v u x:Value}:pack [v,u,x] = .tuple #[v,u,x]:=rfl
@[simp] theorem BY:pack [] = .tuple #[]:=rfl
@[simp] theorem Cp{t:Nat}:look [] t=none:=rfl
@[simp] theorem nz{k t:Nat}{v:Value}:look ((k,v)::ρ) t=if k=t then some v else look ρ t:=rfl
@[simp] theorem gR{K:Env->Heap->Prop}:gy K Q .normal ρ h=K ρ h:=rfl
@[simp] theorem Ca{K:Env->Heap->Prop}:gy K Q .ret ρ h=Q .ret ρ h:=rfl
@[simp] theorem oR{K:Env->Heap->Prop}{i:Nat}:gy K Q (.exit i) ρ h=Q (.exit i) ρ h:=rfl
@[simp] theorem zE{i:Nat}:iX i Q .normal ρ h=Q .normal ρ h:=rfl
@[simp] theorem BU{i:Nat}:iX i Q .ret ρ h=Q .ret ρ h:=rfl
@[simp] theorem oq{i k:Nat}:iX i Q (.exit k) ρ h=if k=i then Q .normal ρ h else Q (.exit k) ρ h:=rfl
@[simp] theorem Bt{R:Value->Heap->Prop}:kv es R .ret ρ h=sat (evs (look ρ) (vw h) es) fun vs=>R (pack vs) h:=rfl
@[simp] theorem zD{R:Value->Heap->Prop}:kv es R .normal ρ h=sat (evs (look ρ) (vw h) es) fun vs=>R (pack vs) h:=rfl
@[simp] theorem oc{σ:Nat->Option Value}:evP σ H []=some []:=rfl
@[simp] theorem lT{σ:Nat->Option Value}{t:Nat}{e:E}{l:List (Nat × E)}:evP σ H ((t,e)::l)=(ev σ H e).bind fun v=>(evP σ H l).bind fun vs=>some ((t,v)::vs):=by simp only[evP];cases ev σ H e<;>cases evP σ H l<;>rfl
@[simp] theorem CW{σ:Nat->Option Value}:evs σ H []=some []:=rfl
@[simp] theorem CH{σ:Nat->Option Value}{e:E}{l:List E}:evs σ H (e::l)=(ev σ H e).bind fun v=>(evs σ H l).bind fun vs=>some (v::vs):=by simp only[evs];cases ev σ H e<;>cases evs σ H l<;>rfl
@[simp] theorem n8{σ:Nat->Option Value}:okE σ H []=True:=rfl
@[simp] theorem Cz{σ:Nat->Option Value}{e:E}{l:List E}:okE σ H (e::l)=(sat (ev σ H e) fun _=>okE σ H l):=by simp only[okE,sat];exact propext ⟨fun⟨⟨v,hv⟩,h⟩=>⟨v,hv,h⟩,fun⟨v,hv,h⟩=>⟨⟨v,hv⟩,h⟩⟩
@[simp] theorem w8:bu [] ts=[]:=rfl
@[simp] theorem gX{k:Nat}{v:Value}:bu ((k,v)::ρ) ts=if ts.contains k then bu ρ ts else(k,v)::bu ρ ts:=by simp only[bu,FA];split<;>split<;>simp_all
theorem fJ{x:LC}(M:Env->Heap->Prop){N:Env->Heap->Prop}(h1 : ∀K:Env->Heap->Prop,(∀ρ h,M ρ h->K ρ h)->x.wp P (gy K Q) ρ h)(h2 : ∀ρ h,M ρ h->N ρ h):LC.wp P x (gy N Q) ρ h:=
 yZ (fun e ρ h hq=>by cases e<;>first | exact h2 _ _ hq | exact hq) (h1 M fun _ _ h=>h)
theorem pJ{vs:List (Nat × Value)}(h1:evP (look ρ) (vw h) sets=some vs)(h2:okE (look ρ) (vw h) chk)(h3:Q .normal (cG (bu ρ kill) vs) h):
  LC.wp P (.reg true (.fin kill sets chk)) Q ρ h:=⟨vw h,View.oD (View.le_refl _),vs,h1,h2,h3⟩
@[simp] theorem zm:LC.wp P (.reg true (.fin kill sets chk)) Q ρ h=sat (evP (look ρ) (vw h) sets) fun vs=>okE (look ρ) (vw h) chk/\Q .normal (cG (bu ρ kill) vs) h:=by
 refine propext ⟨?_,fun⟨vs,h1,h2,h3⟩=>pJ h1 h2 h3⟩;rintro⟨H,hH,vs,h1,h2,h3⟩;have e1 : ∀{l:List (Nat × E)} {vs},evP (look ρ) H l=some vs->evP (look ρ) (vw h) l=some vs:=by
  intro l;induction l with
  | nil=>intro vs h;exact h
  | cons p l ih=>
   intro vs h;obtain⟨t,e⟩:=p;simp only[evP]at h ⊢;split at h
   ·rename_i v vs' hv hvs;simp only[dY hH hv,ih hvs];exact h
   cases h
 have e2 : ∀{l:List E},okE (look ρ) H l->okE (look ρ) (vw h) l:=by
  intro l;induction l with
  | nil=>intro h;exact h
  | cons e l ih=>intro ⟨⟨v,hv⟩,h⟩;exact⟨⟨v,dY hH hv⟩,ih h⟩
 exact⟨vs,e1 h1,e2 h2,h3⟩
theorem ah{P:Program}{f:FuncId}{L:LFn}{h:Heap}{R:Value->Heap->Prop}(hm:P.follows .mixedOrders=true)(hf:P.funcs[f]? = some fn)(hL:aJ P fn=some L)(hn:args.length<=fn.ntmps)(hw : ∀K:Value->Heap->Prop,(∀v h',R v h'->K v h')->@LC.wp noPP P L.body (kv L.res K) (fS 0 args) h)(hpl:L.body.plain=true:=by kernel_rfl):aj P f args.toArray h R:=
 pN hm hf hL hn hpl (hw R fun _ _ h=>h)
theorem eP{P:Program}{f:FuncId}{L:LFn}{h:Heap}{R:Value->Heap->Prop}(hm:P.follows .mixedOrders=true)(hf:P.funcs[f]? = some fn)(hL:aJ P fn=some L)(hn:args.length<=fn.ntmps)(hw : ∀(K:Value->Heap->Prop) (Kp:List PanicEntry->Heap->Prop),(∀v h',R v h'->K v h')->(∀ch h',Rp ch h'->Kp ch h')->@LC.wp (ppOf Kp) P L.body (kv L.res K) (fS 0 args) h)(hpl:L.body.plain=true:=by kernel_rfl):eT P f args.toArray h R Rp:=
 oL hm hf hL hn hpl (hw R Rp (fun _ _ h=>h) fun _ _ h=>h)
theorem sE{P:Program}{f:FuncId}{L:LFn}{h:Heap}{R:Value->Heap->Prop}(hm:P.follows .mixedOrders=true)(hf:P.funcs[f]? = some fn)(hL:aJ P fn=some L)(hn:args.length<=fn.ntmps)(hw : ∀K:Value->Heap->Prop,(∀v h',R v h'->K v h')->@LC.wp noPP P L.body (vR h.size L.res K) (fS 0 args) h):aj P f args.toArray h R:=
 oC hm hf hL hn (hw R fun _ _ h=>h)
section
variable {σ:Nat->Option Value} {H:View} {x y c:E} {v:Value} {a b:Int} {k:IntKind}
@[simp] theorem rA{t:Nat}:ev σ H (.tmp t)=σ t:=rfl
@[simp] theorem zn:ev σ H (.con v)=some v:=rfl
@[simp] theorem Ci{o:Un}:ev σ H (.un o x)=(ev σ H x).bind (o.ev H):=by simp only[ev];cases ev σ H x<;>rfl
@[simp] theorem kQ{o:Bn}:ev σ H (.bin o x y)=(ev σ H x).bind fun v=>(ev σ H y).bind (o.ev v):=by simp only[ev];cases ev σ H x<;>cases ev σ H y<;>rfl
@[simp] theorem Cg(c:Prop)[Decidable c](x y:Bool):(if c then some (Value.bool x) else some (Value.bool y))=some (.bool (if c then x else y)):=by split<;>rfl
@[simp] theorem BW:ev σ H (.ite c x y)=(ev σ H c).bind fun u=>(vB u).bind fun b=>if b then ev σ H x else ev σ H y:=by
 simp only[ev];cases ev σ H c with
 | none=>rfl
 | some u=>
  cases u<;>try rfl
  rename_i b;cases b<;>rfl
def gdv (b:Bool):Value->Value->Value
 | .bool d,v=>if d=b then v else undef
 | _,_=>undef
def gdO (b:Bool):Value->Option Value->Option Value
 | .bool d,o=>if d=b then o else some undef
 | _,_=>some undef
@[simp] theorem Co{b:Bool}:ev σ H (.gd c b x)=(ev σ H c).bind fun u=>gdO b u (ev σ H x):=by
 simp only[ev];cases hc:ev σ H c with
 | none=>rfl
 | some u=>
  cases u<;>try rfl
  rename_i d;cases d<;>cases b<;>rfl
@[simp] theorem Cs{b:Bool}{u v:Value}:gdO b u (some v)=some (gdv b u v):=by cases u<;>simp only[gdO,gdv];split<;>rfl
@[simp] theorem Dl{b:Bool}{o:Option Value}:gdO b (.bool b) o=o:=by simp[gdO]
@[simp] theorem C2{o:Option Value}:gdO true (.bool false) o=some undef:=rfl
@[simp] theorem C6{o:Option Value}:gdO false (.bool true) o=some undef:=rfl
@[simp] theorem Dc{b:Bool}{v:Value}:gdv b (.bool b) v=v:=by simp[gdv]
@[simp] theorem C8{v:Value}:gdv true (.bool false) v=undef:=rfl
@[simp] theorem C7{v:Value}:gdv false (.bool true) v=undef:=rfl
@[simp] theorem Db{p:Option Addr}{m:Nat}:Un.ev H .len (.slice p n m)=some (.int .i64 n):=rfl
@[simp] theorem Dj{b:Bool}:Un.ev H .not (.bool b)=some (.bool (!b)):=rfl
@[simp] theorem CP{b:Bool}:vB (.bool b)=some b:=rfl
@[simp] theorem C4:vI (.int k a)=some (k,a):=rfl
@[simp] theorem CZ{f:IntKind->Int->Int->Option Value}:i2 (.int k a) (.int k b) f=f k a b:=by simp[i2]
@[simp] theorem zx:Bn.ev (.cmp .lss) (.int k a) (.int k b)=some (.bool (decide (a<b))):=by simp[Bn.ev,cmpI]
@[simp] theorem C1:Bn.ev (.cmp .leq) (.int k a) (.int k b)=some (.bool (decide (a<=b))):=by simp[Bn.ev,cmpI]
@[simp] theorem Dh:Bn.ev (.cmp .gtr) (.int k a) (.int k b)=some (.bool (decide (b<a))):=by simp[Bn.ev,cmpI]
@[simp] theorem C0:Bn.ev (.cmp .geq) (.int k a) (.int k b)=some (.bool (decide (b<=a))):=by simp[Bn.ev,cmpI]
@[simp] theorem C3:Bn.ev (.cmp .eql) (.int k a) (.int k b)=some (.bool (decide (a=b))):=by simp[Bn.ev,cmpI];rfl
@[simp] theorem C5:Bn.ev (.cmp .neq) (.int k a) (.int k b)=some (.bool (!decide (a=b))):=by simp[Bn.ev,cmpI];rfl
@[simp] theorem zo:Bn.ev (.arith .add) (.int k a) (.int k b)=some (.int k (k.wrap (a+b))):=by simp[Bn.ev,oy]
@[simp] theorem Da:Bn.ev (.arith .sub) (.int k a) (.int k b)=some (.int k (k.wrap (a-b))):=by simp[Bn.ev,oy]
@[simp] theorem CX(h:b≠0):Bn.ev (.div .rem) (.int k a) (.int k b)=some (.int k (a.tmod b)):=by simp[Bn.ev,divI,h]
@[simp] theorem Di(h:b≠0):Bn.ev (.div .quo) (.int k a) (.int k b)=some (.int k (k.wrap (a.tdiv b))):=by simp[Bn.ev,divI,h]
@[simp] theorem A7:Bn.ev .min (.int k a) (.int k b)=some (.int k (if b<a then b else a)):=by simp[Bn.ev]
@[simp] theorem Df:Bn.ev .max (.int k a) (.int k b)=some (.int k (if a<b then b else a)):=by simp[Bn.ev]
@[simp] theorem Dg{n:Bool}{p q:Bool}:Bn.ev (.eqB n) (.bool p) (.bool q)=some (.bool ((p == q) != n)):=rfl
@[simp] theorem Dk:Bn.ev (.arith .mul) (.int k a) (.int k b)=some (.int k (k.wrap (a*b))):=by simp[Bn.ev,oy]
end
end
end
def View.dB (H:View):View:=fun b=>match H b with
 | some (.cells c T fz)=>some (.cells c T fz)
 | _=>none
theorem View.rT{b:Nat}{c:Array Value}{T:TypeId}{fz:Nat × Nat}(h:H b=some (.cells c T fz)):H.dB b=some (.cells c T fz):=by unfold View.dB;rw[h]
theorem View.yP:H.dB.le H:=fun b o h=>by
 unfold View.dB at h;split at h
 ·rename_i e;rw[e];exact h
 cases h
class Rep (α:Type) where
 n:Nat
 agg:Bool
 rd:View->List Value->α->Prop
 mono : ∀{H K:View} {cs:List Value} {d:α},H.le K->rd H cs d->rd K cs d
 len : ∀{H:View} {cs:List Value} {d:α},rd H cs d->cs.length=n
 one:agg=false->n=1
 flat : ∀{H:View} {cs:List Value} {d:α},rd H cs d->∀u∈cs,u.oneCell'=true
 pos:0<n
 dB : ∀{H:View} {cs:List Value} {d:α},rd H cs d->rd H.dB cs d
def Rd {α:Type} [Rep α] (H:View) (v:Value) (d:α):Prop:=
 if Rep.agg α then ∃cs:Array Value,v = .agg cs/\Rep.rd H cs.toList d else Rep.rd H [v] d
def gM (H:View) (a:Addr) (cs:List Value):Prop:=
 ∃(c:Array Value) (T:TypeId) (fz:Nat × Nat),a.spot=none/\H a.block=some (.cells c T fz)/\(c.toList.drop a.off).take cs.length=cs
def At {α:Type} [Rep α] (H:View) (a:Addr) (d:α):Prop:=∃cs,gM H a cs/\Rep.rd H cs d
theorem qO(hk:H.le K){a:Addr}{cs:List Value}(h:gM H a cs):gM K a cs:=
 let ⟨c,T,fz,h1,h2,h3⟩:=h
 ⟨c,T,fz,h1,hk _ _ h2,h3⟩
theorem At.mono {α:Type} [Rep α] {H K:View} (hk:H.le K) {a:Addr} {d:α} (h:At H a d):At K a d:=
 let ⟨cs,h1,h2⟩:=h
 ⟨cs,qO hk h1,Rep.mono hk h2⟩
theorem At.dB {α:Type} [Rep α] {H:View} {a:Addr} {d:α} (h:At H a d):At H.dB a d:=by obtain⟨cs,⟨c,T,fz,h1,h2,h3⟩,h4⟩:=h;exact⟨cs,⟨c,T,fz,h1,View.rT h2,h3⟩,Rep.dB h4⟩
theorem Rd.dB {α:Type} [Rep α] {H:View} {v:Value} {d:α} (h:Rd H v d):Rd H.dB v d:=by
 unfold Rd at *;split
 ·rename_i ha;rw[if_pos ha]at h;obtain⟨cs,h1,h2⟩:=h;exact⟨cs,h1,Rep.dB h2⟩
 rename_i ha;rw[if_neg ha]at h;exact Rep.dB h
theorem Rd.mono {α:Type} [Rep α] {H K:View} (hk:H.le K) {v:Value} {d:α} (h:Rd H v d):Rd K v d:=by
 unfold Rd at *;split
 ·rename_i ha;rw[if_pos ha]at h;obtain⟨cs,h1,h2⟩:=h;exact⟨cs,h1,Rep.mono hk h2⟩
 rename_i ha;rw[if_neg ha]at h;exact Rep.mono hk h
theorem aM{a:Addr}(h:a.spot=none)(n:Nat):a.add n=⟨a.block,a.off+n,none⟩:=by obtain⟨b,o,s⟩:=a;simp only at h;subst h;unfold Addr.add;split<;>simp_all
theorem fD{a:Addr}{cs:List Value}(h:gM H a cs){i:Nat}{v:Value}(hv:cs[i]? = some v):ag H (a.add i)=some v:=by
 obtain⟨c,T,fz,hs,hb,he⟩:=h;rw[aM hs];simp only[ag,hb];have hi:i<cs.length:=by
  rcases DA i cs.length with h | h
  ·exact h
  simp[D1 h]at hv
 rw[<-he]at hv;simp only[Es,hi,if_true,Ff]at hv;simpa using hv
theorem qJ{a:Addr}{v:Value}(h:gM H a [v]):ag H a=some v:=by have:=fD h (i:=0) (v:=v) rfl;simpa[Addr.add]using this
theorem jy {H:View} {a:Addr} {cs:List Value} (h:gM H a cs) : ∀(m i:Nat) (acc:Array Value),i+m=cs.length->cI H a i m acc=some (acc++(cs.drop i).toArray)
 | 0,i,acc,hi=>by
  have:cs.drop i=[]:=by simp;omega
  simp[cI,this]
 | m+1,i,acc,hi=>by
  have hlt:i<cs.length:=by omega
  have e:cs[i]? = some cs[i]:=Ee hlt;simp only[cI,fD h e];rw[jy h m (i+1) _ (by omega)];rw[DU hlt];simp
theorem tB{a:Addr}{cs:List Value}(h:gM H a cs)(o m:Nat)(hm:o+m<=cs.length):gM H (a.add o) ((cs.drop o).take m):=by
 obtain⟨c,T,fz,hs,hb,he⟩:=h;rw[aM hs];refine⟨c,T,fz,rfl,hb,?_⟩;have hl:((cs.drop o).take m).length=m:=by simp;omega
 rw[hl];have e1:(cs.drop o).take m=(((c.toList.drop a.off).take cs.length).drop o).take m:=by rw[he]
 rw[e1,Eu,Ev,EK];congr 1;omega
variable{α:Type}
theorem At.load[Rep α]{a:Addr}{d:α}(h:At H a d)(ha:Rep.agg α=false): ∃v,ag H a=some v/\Rd H v d:=by
 obtain⟨cs,h1,h2⟩:=h;have hl:=Rep.len h2;rw[Rep.one ha]at hl;match cs,hl with
 | [v],_=>exact⟨v,qJ h1,by unfold Rd;rw[if_neg (by simp[ha])];exact h2⟩
theorem At.ak {α:Type} [Rep α] {H:View} {a:Addr} {d:α} (h:At H a d) (ha:Rep.agg α=true) : ∃v,Un.ev H (.ak (Rep.n α)) (.pointer (some a))=some v/\Rd H v d:=by
 obtain⟨cs,h1,h2⟩:=h;have hl:=Rep.len h2;refine⟨.agg cs.toArray,?_,?_⟩
 ·have:=jy h1 cs.length 0 #[] (by omega);rw[hl]at this;simp[Un.ev,vP,this]
 unfold Rd;rw[if_pos ha];exact⟨_,rfl,by simpa using h2⟩
instance:Rep Int where
 n:=1
 agg:=false
 rd:=fun _ cs d=>cs=[.int .i64 d]/\-9223372036854775808<=d/\d<=9223372036854775807
 mono:=fun _ h=>h
 len:=fun h=>by rw[h.1];rfl
 one:=fun _=>rfl
 flat:=fun h u hu=>by rw[h.1]at hu;simp at hu;subst hu;rfl
 pos:=FE
 dB:=fun h=>h
structure I32 where
 v:Int
 deriving DecidableEq,Inhabited
instance:Rep I32 where
 n:=1
 agg:=false
 rd:=fun _ cs d=>cs=[.int .i32 d.v]/\-2147483648<=d.v/\d.v<=2147483647
 mono:=fun _ h=>h
 len:=fun h=>by rw[h.1];rfl
 one:=fun _=>rfl
 flat:=fun h u hu=>by rw[h.1]at hu;simp at hu;subst hu;rfl
 pos:=FE
 dB:=fun h=>h
instance:Rep Bool where
 n:=1
 agg:=false
 rd:=fun _ cs d=>cs=[.bool d]
 mono:=fun _ h=>h
 len:=fun h=>by rw[h];rfl
 one:=fun _=>rfl
 flat:=fun h u hu=>by rw[h]at hu;simp at hu;subst hu;rfl
 pos:=FE
 dB:=fun h=>h
theorem bh{v:Value}{d:Int}:Rd H v d↔v = .int .i64 d/\-9223372036854775808<=d/\d<=9223372036854775807:=by simp[Rd,Rep.agg,Rep.rd]
theorem uY{v:Value}{d:I32}:Rd H v d↔v = .int .i32 d.v/\-2147483648<=d.v/\d.v<=2147483647:=by simp[Rd,Rep.agg,Rep.rd]
theorem qI{v:Value}{d:Bool}:Rd H v d↔v = .bool d:=by simp[Rd,Rep.agg,Rep.rd]
def SlRd {α:Type} [Rep α] (H:View) (v:Value) (l:List α):Prop:=
 ∃a cap,v = .slice a l.length cap/\l.length<=cap/\l.length<=140737488355328/\
  (l=[]\/∃ad,a=some ad/\ad.spot=none/\∀(i:Nat) (hi:i<l.length),At H (ad.add (i*Rep.n α)) l[i])
instance {α:Type} [Rep α]:Rep (List α) where
 n:=1
 agg:=false
 rd:=fun H cs l=>∃v,cs=[v]/\SlRd H v l
 mono:=fun hk h=>by
  obtain⟨v,h1,a,cap,h2,h3,h4,h5⟩:=h
  refine⟨v,h1,a,cap,h2,h3,h4,?_⟩
  rcases h5 with h5 | ⟨ad,h6,h7,h8⟩
  ·exact .inl h5
  ·exact .inr ⟨ad,h6,h7,fun i hi=>(h8 i hi).mono hk⟩
 len:=fun⟨v,h,_⟩=>by rw[h];rfl
 one:=fun _=>rfl
 flat:=fun⟨v,h,a,cap,h2,_⟩ u hu=>by rw[h]at hu;simp at hu;subst hu;rw[h2];rfl
 pos:=FE
 dB:=fun h=>by
  obtain⟨v,h1,a,cap,h2,h3,h4,h5⟩:=h
  refine⟨v,h1,a,cap,h2,h3,h4,?_⟩
  rcases h5 with h5 | ⟨ad,h6,h7,h8⟩
  ·exact .inl h5
  ·exact .inr ⟨ad,h6,h7,fun i hi=>(h8 i hi).dB⟩
theorem dG[Rep α]{v:Value}{l:List α}:Rd H v l↔SlRd H v l:=by simp[Rd,Rep.agg,Rep.rd]
def slA:Value->Addr
 | .slice (some a) _ _=>a
 | _=>default
section
variable {α:Type} [Rep α] {H:View} {v:Value} {l:List α}
theorem SlRd.len (h:SlRd H v l) {K:View}:Un.ev K .len v=some (.int .i64 l.length):=by obtain⟨a,cap,rfl,_⟩:=h;rfl
theorem SlRd.bound(h:SlRd H v l):l.length<=140737488355328:=by obtain⟨a,cap,_,_,h,_⟩:=h;exact h
theorem SlRd.idx (h:SlRd H v l) {k:IntKind} {i:Int} (h0:0<=i) (h1:i<l.length):Bn.ev (.idx (Rep.n α)) v (.int k i)=some (.pointer (some ((slA v).add (i.toNat*Rep.n α)))):=by
 obtain⟨a,cap,rfl,_,_,h⟩:=h;rcases h with rfl | ⟨ad,rfl,_,_⟩
 ·simp at h1;omega
 simp[Bn.ev,vL,vI,slA,h0,h1]
theorem SlRd.idx1(h:SlRd H v l)(hn:Rep.n α=1){k:IntKind}{i:Int}(h0:0<=i)(h1:i<l.length):Bn.ev (.idx 1) v (.int k i)=some (.pointer (some ((slA v).add i.toNat))):=by have:=h.idx (k:=k) h0 h1;rw[hn,Ea]at this;exact this
theorem SlRd.at (h:SlRd H v l) {i:Nat} (hi:i<l.length):At H ((slA v).add (i*Rep.n α)) l[i]:=by
 obtain⟨a,cap,rfl,_,_,h⟩:=h;rcases h with rfl | ⟨ad,rfl,_,h⟩
 ·simp at hi
 exact h i hi
theorem SlRd.mono (h:SlRd H v l) {K:View} (hk:H.le K):SlRd K v l:=dG.1 (Rd.mono hk (dG.2 h))
end
def nth {α:Type} [Inhabited α] (l:List α) (i:Nat):α:=l.getD i default
theorem aq[Inhabited α]{l:List α}{i:Nat}(h:i<l.length):nth l i=l[i]:=by simp[nth,h]
theorem fF[Inhabited α]{l:List α}{i:Nat}(h:l.length<=i):nth l i=default:=by simp[nth,h]
theorem bT[Inhabited α]{l:List α}{i:Nat}(h:i<l.length):nth l i∈l:=by rw[aq h];exact Ez h
theorem qF[Inhabited α]{a b:List α}(hl:a.length=b.length)(h : ∀j,j<a.length->nth a j=nth b j):a=b:=by refine EA hl fun i h1 h2=>?_;have:=h i h1;rwa [aq h1,aq h2]at this
theorem SlRd.int {H K:View} {v:Value} {l:List Int} (h:SlRd H v l) (hk:H.le K) {i:Nat} (hi:i<l.length):ag K ((slA v).add i)=some (.int .i64 (nth l i)):=by obtain⟨u,h1,h2⟩:=((h.at hi).mono hk).load rfl;rw[bh]at h2;rw[h2.1,show i*Rep.n Int=i from Ea i]at h1;rw[aq hi];exact h1
theorem SlRd.bool {H K:View} {v:Value} {l:List Bool} (h:SlRd H v l) (hk:H.le K) {i:Nat} (hi:i<l.length):ag K ((slA v).add i)=some (.bool (nth l i)):=by obtain⟨u,h1,h2⟩:=((h.at hi).mono hk).load rfl;rw[qI]at h2;rw[h2,show i*Rep.n Bool=i from Ea i]at h1;rw[aq hi];exact h1
theorem SlRd.range{v:Value}{l:List Int}(h:SlRd H v l){i:Nat}(hi:i<l.length):-9223372036854775808<=nth l i/\nth l i<=9223372036854775807:=by obtain⟨u,h1,h2⟩:=(h.at hi).load rfl;rw[bh]at h2;rw[aq hi];exact h2.2
theorem SlRd.rows[Rep α]{v:Value}{g:List (List α)}(h:SlRd H v g): ∃rv:Nat->Value,∀i,i<g.length->(∀K:View,H.le K->ag K ((slA v).add i)=some (rv i))/\SlRd H (rv i) (nth g i):=by
 have key : ∀i,∃u,i<g.length->(∀K:View,H.le K->ag K ((slA v).add i)=some u)/\SlRd H u (nth g i):=by
  intro i;by_cases hi:i<g.length
  ·obtain⟨u,h1,h2⟩:=(h.at hi).load rfl;rw[show i*Rep.n (List α)=i from Ea i]at h1;refine⟨u,fun _=>⟨fun K hk=>ab hk h1,?_⟩⟩;rw[aq hi];exact dG.1 h2
  exact⟨undef,fun h=>absurd h hi⟩
 exact⟨fun i=>(key i).choose,fun i=>(key i).choose_spec⟩
@[simp] theorem CK{a:Addr}:Un.ev H .load (.pointer (some a))=ag H a:=rfl
@[simp] theorem cj{a:Int}(h0:-9223372036854775808<=a)(h1:a<=9223372036854775807):IntKind.i64.wrap a=a:=IntWalk.i64_in _ (by omega)
section
variable {po:OP} {pp:PP}
def step [po:OP] (P:Program) (op:Op) (ty:TypeId) (us:List (Nat × Value)) (h:Heap) (K:Value->Heap->Prop):Prop:=eC P (aL op ty us) h K
variable{ty:TypeId}
@[congr] theorem BF{us':List (Nat × Value)}{h:Heap}{K:Value->Heap->Prop}(e1:us=us')(e2:h=h'):step P op ty us h K=step P op ty us' h' K:=by rw[e1,e2]
def grdP (o:Option Value) (b:Bool) (A B:Prop):Prop:=∃gv,o=some gv/\(gv = .bool b->A)/\(gv≠.bool b->B)
variable{b:Bool}{A B:Prop}
@[congr] theorem AZ{o o':Option Value}(h:o=o'):grdP o b A B=grdP o' b A B:=by rw[h]
@[simp] theorem CU:grdP (some (.bool true)) true A B=A:=by simp[grdP]
@[simp] theorem CO:grdP (some (.bool true)) false A B=B:=by simp[grdP]
@[simp] theorem CL:grdP (some (.bool false)) true A B=B:=by simp[grdP]
@[simp] theorem CN:grdP (some (.bool false)) false A B=A:=by simp[grdP]
@[simp] theorem BR{p:Prop}[Decidable p]:grdP (some (.bool (decide p))) true A B=((p->A)/\(¬p->B)):=by simp[grdP]
@[simp] theorem Bp{p:Prop}[Decidable p]:grdP (some (.bool (decide p))) false A B=((p->B)/\(¬p->A)):=by simp[grdP,and_comm]
@[simp] theorem Ck{x:Bool}:grdP (some (.bool (!x))) b A B=grdP (some (.bool x)) (!b) A B:=by cases x<;>cases b<;>simp
@[simp] theorem Bu:grdP (some undef) b A B=B:=by simp[grdP,undef]
section
variable {P:Program} {Q:Env->Heap->Prop} {ρ:Env} {h:Heap}
variable{kill:List Nat}{sets:List (Nat × E)}{chk:List E}
@[simp] theorem AP{args:List (Nat × E)}{tail:Bool}:
  df P none (.loud kill sets args none chk tail op ty dst keep next) Q ρ h=sat (evP (look ρ) (vw h) sets) fun vs=>sat (evP (look ρ) (vw h) args) fun us=>okE (look ρ) (vw h) chk/\pp.fx (cG (bu ρ kill) vs)/\
   @step (opAt none) P op ty us h fun v h'=>df P none next Q (putE (cG (bu ρ kill) vs) dst keep v) h':=by
 simp only[df,bI,sat,step,gT,Option.map_none];refine propext ⟨fun⟨vs,us,h1,h2,h3,hfx,h4⟩=>⟨vs,h1,us,h2,h3,hfx,h4.mono fun v h' hh=>?_⟩,fun⟨vs,h1,us,h2,h3,hfx,h4⟩=>⟨vs,us,h1,h2,h3,hfx,h4.mono fun v h' hh=>?_⟩⟩
 ·have:=hh.2;cases tail<;>exact this
 cases tail<;>exact⟨by simp,hh⟩
@[simp] theorem AY{args:List (Nat × E)}{g:E}:
  df P none (.loud kill sets args (some (g,b)) chk false op ty dst keep next) Q ρ h=sat (evP (look ρ) (vw h) sets) fun vs=>sat (evP (look ρ) (vw h) args) fun us=>okE (look ρ) (vw h) chk/\pp.fx (cG (bu ρ kill) vs)/\
   grdP (ev (look ρ) (vw h) g) b (@step (opAt none) P op ty us h fun v h'=>df P none next Q (putE (cG (bu ρ kill) vs) dst keep v) h') (df P none next Q (putE (cG (bu ρ kill) vs) dst keep undef) h):=by simp only[df,bI,sat,step,gT,grdP];refine propext ⟨fun⟨vs,us,h1,h2,h3,hfx,gv,h4,h5,h6⟩=>⟨vs,h1,us,h2,h3,hfx,gv,h4,fun e=>(h5 e).mono fun v h' hh=>hh.2,h6⟩,fun⟨vs,h1,us,h2,h3,hfx,gv,h4,h5,h6⟩=>⟨vs,us,h1,h2,h3,hfx,gv,h4,fun e=>(h5 e).mono fun v h' hh=>⟨by simp,hh⟩,h6⟩⟩
@[simp] theorem AF{args:List (Nat × E)}:
  df P (some H) (.loud kill sets args none chk false op ty dst keep next) Q ρ h=sat (evP (look ρ) H sets) fun vs=>sat (evP (look ρ) H args) fun us=>okE (look ρ) H chk/\pp.fx (cG (bu ρ kill) vs)/\
   @step (opAt (some H)) P op ty us h fun v h'=>H.le (vw h')/\df P (some H) next Q (putE (cG (bu ρ kill) vs) dst keep v) h':=by
 simp only[df,bI,sat,step,gU];refine propext ⟨fun⟨vs,us,h1,h2,h3,hfx,h4⟩=>⟨vs,h1,us,h2,h3,hfx,h4.mono fun v h' hh=>?_⟩,fun⟨vs,h1,us,h2,h3,hfx,h4⟩=>⟨vs,us,h1,h2,h3,hfx,h4.mono fun v h' hh=>?_⟩⟩
 ·exact⟨by simpa using hh.1,hh.2⟩
 exact⟨by simpa using hh.1,hh.2⟩
@[simp] theorem AT{args:List (Nat × E)}:
  df P (some H) (.loud kill sets args none chk true op ty dst keep next) Q ρ h=sat (evP (look ρ) H sets) fun vs=>sat (evP (look ρ) H args) fun us=>okE (look ρ) H chk/\pp.fx (cG (bu ρ kill) vs)/\
   @step (opAt (some H)) P op ty us h fun v h'=>df P (some nothing) next Q (putE (cG (bu ρ kill) vs) dst keep v) h':=by
 simp only[df,bI,sat,step,gU];refine propext ⟨fun⟨vs,us,h1,h2,h3,hfx,h4⟩=>⟨vs,h1,us,h2,h3,hfx,h4.mono fun v h' hh=>?_⟩,fun⟨vs,h1,us,h2,h3,hfx,h4⟩=>⟨vs,us,h1,h2,h3,hfx,h4.mono fun v h' hh=>?_⟩⟩
 ·exact hh.2
 exact⟨by simp,hh⟩
@[simp] theorem zR{args:List (Nat × E)}{g:E}:
  df P (some H) (.loud kill sets args (some (g,b)) chk false op ty dst keep next) Q ρ h=sat (evP (look ρ) H sets) fun vs=>sat (evP (look ρ) H args) fun us=>okE (look ρ) H chk/\pp.fx (cG (bu ρ kill) vs)/\
   grdP (ev (look ρ) H g) b (@step (opAt (some H)) P op ty us h fun v h'=>H.le (vw h')/\df P (some H) next Q (putE (cG (bu ρ kill) vs) dst keep v) h') (df P (some H) next Q (putE (cG (bu ρ kill) vs) dst keep undef) h):=by simp only[df,bI,sat,step,gU,grdP];refine propext ⟨fun⟨vs,us,h1,h2,h3,hfx,gv,h4,h5,h6⟩=>⟨vs,h1,us,h2,h3,hfx,gv,h4,fun e=>(h5 e).mono fun v h' hh=>⟨by simpa using hh.1,hh.2⟩,h6⟩,fun⟨vs,h1,us,h2,h3,hfx,gv,h4,h5,h6⟩=>⟨vs,us,h1,h2,h3,hfx,gv,h4,fun e=>(h5 e).mono fun v h' hh=>⟨by simpa using hh.1,hh.2⟩,h6⟩⟩
@[simp] theorem Ak{args:List (Nat × E)}:
  bI View.sub P (some H) (.loud kill sets args none chk false op ty dst keep next) Q ρ h=sat (evP (look ρ) H sets) fun vs=>sat (evP (look ρ) H args) fun us=>okE (look ρ) H chk/\pp.fx (cG (bu ρ kill) vs)/\
   @step (opAt (some H)) P op ty us h fun v h'=>H.sub (vw h')/\bI View.sub P (some H) next Q (putE (cG (bu ρ kill) vs) dst keep v) h':=by
 simp only[bI,sat,step,gU];refine propext ⟨fun⟨vs,us,h1,h2,h3,hfx,h4⟩=>⟨vs,h1,us,h2,h3,hfx,h4.mono fun v h' hh=>?_⟩,fun⟨vs,h1,us,h2,h3,hfx,h4⟩=>⟨vs,us,h1,h2,h3,hfx,h4.mono fun v h' hh=>?_⟩⟩
 ·exact⟨by simpa using hh.1,hh.2⟩
 exact⟨by simpa using hh.1,hh.2⟩
@[simp] theorem Ae{args:List (Nat × E)}:
  bI View.sub P (some H) (.loud kill sets args none chk true op ty dst keep next) Q ρ h=sat (evP (look ρ) H sets) fun vs=>sat (evP (look ρ) H args) fun us=>okE (look ρ) H chk/\pp.fx (cG (bu ρ kill) vs)/\
   @step (opAt (some H)) P op ty us h fun v h'=>bI View.sub P (some nothing) next Q (putE (cG (bu ρ kill) vs) dst keep v) h':=by
 simp only[bI,sat,step,gU];refine propext ⟨fun⟨vs,us,h1,h2,h3,hfx,h4⟩=>⟨vs,h1,us,h2,h3,hfx,h4.mono fun v h' hh=>?_⟩,fun⟨vs,h1,us,h2,h3,hfx,h4⟩=>⟨vs,us,h1,h2,h3,hfx,h4.mono fun v h' hh=>?_⟩⟩
 ·exact hh.2
 exact⟨by simp,hh⟩
@[simp] theorem zC{args:List (Nat × E)}{g:E}:
  bI View.sub P (some H) (.loud kill sets args (some (g,b)) chk false op ty dst keep next) Q ρ h=sat (evP (look ρ) H sets) fun vs=>sat (evP (look ρ) H args) fun us=>okE (look ρ) H chk/\pp.fx (cG (bu ρ kill) vs)/\
   grdP (ev (look ρ) H g) b (@step (opAt (some H)) P op ty us h fun v h'=>H.sub (vw h')/\bI View.sub P (some H) next Q (putE (cG (bu ρ kill) vs) dst keep v) h') (bI View.sub P (some H) next Q (putE (cG (bu ρ kill) vs) dst keep undef) h):=by simp only[bI,sat,step,gU,grdP];refine propext ⟨fun⟨vs,us,h1,h2,h3,hfx,gv,h4,h5,h6⟩=>⟨vs,h1,us,h2,h3,hfx,gv,h4,fun e=>(h5 e).mono fun v h' hh=>⟨by simpa using hh.1,hh.2⟩,h6⟩,fun⟨vs,h1,us,h2,h3,hfx,gv,h4,h5,h6⟩=>⟨vs,us,h1,h2,h3,hfx,gv,h4,fun e=>(h5 e).mono fun v h' hh=>⟨by simpa using hh.1,hh.2⟩,h6⟩⟩
@[simp] theorem Be:
  bI View.sub P (some H) (.fin kill sets chk) Q ρ h=sat (evP (look ρ) H sets) fun vs=>okE (look ρ) H chk/\Q (cG (bu ρ kill) vs) h:=rfl
@[simp] theorem CQ{ρ:Env}:@PP.fx noPP ρ=True:=rfl
@[simp] theorem CS{ρ:Env}:@PP.fx (ppOf Rp) ρ=True:=rfl
@[simp] theorem Bm{x y:Reg}:df P m (.both x y) Q ρ h=(df P m x Q ρ h/\df P m y Q ρ h):=rfl
end
theorem lD{s:Sem Next}{f:FuncId}{args:Array Value}{h:Heap}{R K:Value->Heap->Prop}(hs : ∀w:World,w.heap=h->s.run P w = .ok (.enter f args) w)(hc:aj P f args h R)(hk : ∀v h',R v h'->K v h'):eC P s h K:=by intro w hw r o a K' Q' hK hQ;rw[hs w hw];simp only[Oper.uponIn];refine⟨fun h=>by simp[Fw,Fence.wide]at h,lv ((hc w hw).mono ?_)⟩;rintro e w' ⟨v,rfl,hR,hsame⟩;exact hK v w' (hk _ _ hR) hsame
theorem nI{s:Sem Next}{f:FuncId}{args:Array Value}{h:Heap}{R K:Value->Heap->Prop}(hs : ∀w:World,w.heap=h->s.run P w = .ok (.enter f args) w)(hc:eT P f args h R Rp)(hk : ∀v h',R v h'->K v h')(hp : ∀ch h',Rp ch h'->po.op ch h'):eC P s h K:=by
 intro w hw r o a K' Q' hK hQ;rw[hs w hw];simp only[Oper.uponIn];refine⟨fun h=>by simp[Fw,Fence.wide]at h,lv ((hc w hw).mono ?_)⟩;rintro e w' (⟨v,rfl,hR,hsame⟩ | ⟨ch,rfl,hR,hsame⟩)
 ·exact hK v w' (hk _ _ hR) hsame
 exact hQ ch w' (hp _ _ hR) hsame
theorem uI{f:FuncId}{ops:Array Operand}{T:Array TypeId}{args:Array Value}{h:Heap}{K:Value->Heap->Prop}(R:Value->Heap->Prop)(Rp:List PanicEntry->Heap->Prop)(hf:isFn P f=true)(ha:ops.map (asg us)=args)(hc:eT P f args h R Rp)(hk : ∀v h',R v h'->K v h')(hp : ∀ch h',Rp ch h'->po.op ch h'):
  step P (.call ⟨.value (.func f),ops,T⟩) ty us h K:=by
 subst ha;refine nI (fun w _=>?_) hc hk hp;unfold isFn at hf;cases hfn:P.funcs[f]? with
 | none=>simp[hfn]at hf
 | some fn=>simp only[hfn,DC,bne_iff_ne,ne_eq]at hf;obtain⟨h1,h2⟩:=hf;simp[aL,execOp,resolve,Deferred.ofValue,asg,invoke,callFunc,program,Sem.run,hfn,h1,Option.isNone];cases hb:fn.body<;>simp[hb]at h2 ⊢
theorem nb{f:FuncId}{ops:Array Operand}{T:Array TypeId}{args:Array Value}{h:Heap}{K:Value->Heap->Prop}(R:Value->Heap->Prop)(hf:isFn P f=true)(ha:ops.map (asg us)=args)(hc:aj P f args h R)(hk : ∀v h',R v h'->K v h'):
  step P (.call ⟨.value (.func f),ops,T⟩) ty us h K:=by
 subst ha;refine lD (fun w _=>?_) hc hk;unfold isFn at hf;cases hfn:P.funcs[f]? with
 | none=>simp[hfn]at hf
 | some fn=>simp only[hfn,DC,bne_iff_ne,ne_eq]at hf;obtain⟨h1,h2⟩:=hf;simp[aL,execOp,resolve,Deferred.ofValue,asg,invoke,callFunc,program,Sem.run,hfn,h1,Option.isNone];cases hb:fn.body<;>simp[hb]at h2 ⊢
def dZ [po:OP] (P:Program) (f:FuncId) (T:Array TypeId) (ty:TypeId) (args:List Value) (h:Heap) (K:Value->Heap->Prop):Prop:=
 step P (.call ⟨.value (.func f),args.toArray.map .const,T⟩) ty [] h K
@[simp] theorem CJ{t:Nat}:asg us (.tmp t)=(look us t).getD undef:=rfl
@[simp] theorem qH{v:Value}:asg us (.const v)=v:=rfl
@[simp] theorem Cl{f:FuncId}:asg us (.func f) = .func (.func f) #[] #[]:=rfl
@[simp] theorem BE{g:Nat}:asg us (.global g) = .pointer (some ⟨g,0,none⟩):=rfl
theorem eZ{f:FuncId}{ops:List Operand}{T:Array TypeId}{h:Heap}{K:Value->Heap->Prop}:
  step P (.call ⟨.value (.func f),ops.toArray,T⟩) ty us h K=dZ P f T ty (ops.map (asg us)) h K:=by unfold dZ step;congr 1;simp[aL,execOp,resolve,Deferred.ofValue,FX]
section
variable {P:Program} {f:FuncId} {x y z u v:Operand} {T:Array TypeId} {ty:TypeId} {us:List (Nat × Value)} {h:Heap} {K:Value->Heap->Prop}
@[simp] theorem By:step P (.call ⟨.value (.func f),#[],T⟩) ty us h K=dZ P f T ty [] h K:=eZ (ops:=[])
@[simp] theorem Bd:step P (.call ⟨.value (.func f),#[x],T⟩) ty us h K=dZ P f T ty [asg us x] h K:=eZ (ops:=[x])
@[simp] theorem BH:step P (.call ⟨.value (.func f),#[x,y],T⟩) ty us h K=dZ P f T ty [asg us x,asg us y] h K:=eZ (ops:=[x,y])
@[simp] theorem Bj:step P (.call ⟨.value (.func f),#[x,y,z],T⟩) ty us h K=dZ P f T ty [asg us x,asg us y,asg us z] h K:=eZ (ops:=[x,y,z])
@[simp] theorem Bo:step P (.call ⟨.value (.func f),#[x,y,z,u],T⟩) ty us h K=dZ P f T ty [asg us x,asg us y,asg us z,asg us u] h K:=eZ (ops:=[x,y,z,u])
@[simp] theorem Bl:step P (.call ⟨.value (.func f),#[x,y,z,u,v],T⟩) ty us h K=dZ P f T ty [asg us x,asg us y,asg us z,asg us u,asg us v] h K:=eZ (ops:=[x,y,z,u,v])
end
@[congr] theorem yd{f:FuncId}{T:Array TypeId}{args':List Value}{h:Heap}{K:Value->Heap->Prop}(ha:args=args'):dZ P f T ty args h K=dZ P f T ty args' h K:=by rw[ha]
theorem af{f:FuncId}{T:Array TypeId}{h:Heap}{R K:Value->Heap->Prop}(hf:isFn P f=true)(hc:aj P f args.toArray h R)(hk : ∀v h',R v h'->K v h'):dZ P f T ty args h K:=
 nb R hf (by simp[FX]) hc hk
theorem cK{f:FuncId}{T:Array TypeId}{h:Heap}{R K:Value->Heap->Prop}(hf:isFn P f=true)(hc:eT P f args.toArray h R Rp)(hk : ∀v h',R v h'->K v h')(hp : ∀ch h',Rp ch h'->po.op ch h'):dZ P f T ty args h K:=
 uI R Rp hf (by simp[FX]) hc hk hp
theorem bE{s:Sem Next}{h:Heap}{K:Value->Heap->Prop}(hs : ∀w:World,w.heap=h->∃v w',s.run P w = .ok (.value v) w'/\Same w w'/\K v w'.heap):eC P s h K:=by intro w hw r o a K' Q' hK hQ;obtain⟨v,w',h1,h2,h3⟩:=hs w hw;rw[h1];exact hK v w' h3 h2
theorem kZ{s:Sem Next}{h:Heap}{K:Value->Heap->Prop}(hs : ∀w:World,w.heap=h->∃w',s.run P w = .ok .skip w'/\Same w w'/\K undef w'.heap):eC P s h K:=by intro w hw r o a K' Q' hK hQ;obtain⟨w',h1,h2,h3⟩:=hs w hw;rw[h1];exact hK undef w' h3 h2
theorem eM(w:World)(o:Obj):Same w (w.alloc o):=Same.rH rfl rfl rfl (by simp) fun k hk=>heap_alloc_old w o hk
variable{size:Nat}
theorem jD{t e:TypeId}{ps:Array (Nat × Operand)}{h:Heap}{K:Value->Heap->Prop}{i:TypeInfo}{z:Value}{vs:List (Nat × Value)}{cs:Array Value}(ht:P.underlying t=some (.slice e))(hi:P.info? e=some i)(hz:i.zero=some z)(hs:i.size=size)(hn:n*size<=16777216)(hp:ps.map (fun p=>(p.1,asg us p.2))=vs.toArray)(hf:Instr.fill (fun j=>some (j*size,size)) ((Array.range (n*size)).map (z.cells[· % z.cells.size]!)) vs=some cs)(hk:K (.slice (some ⟨h.size,0,none⟩) n n) (h.push (.cells cs e))):step P (.buildSlice t n ps) ty us h K:=by
 subst hs;refine bE fun w hw=>?_;subst hw;have hn':¬(16777216<n*i.size):=by omega
 refine⟨_,w.alloc (.cells cs e),?_,eM _ _,hk⟩;have hp':(ps.map fun x=>match x with | (i,x)=>(i,asg us x))=vs.toArray:=hp;by_cases h0:n*i.size=0
 ·have e1 : ∀f:Nat->Value,(Array.range 0).map f = #[]:=fun f=>by simp[Array.range_zero']
  rw[h0,e1]at hf;simp only[aL,execOp,hp'];simp[Instr.buildSlice,run_underlying ht,sizeOf,typeInfo,hi,h0,newRow,e1,hf]
 simp only[aL,execOp,hp'];simp[Instr.buildSlice,run_underlying ht,sizeOf,typeInfo,hi,hn',newRow,h0,zeroValue,hz,hf]
def oP (h:Heap) (e:TypeId) (size:Nat) (v:Value) (n:Nat) (xs:List Value):Prop:=
  xs.length=n*size/\
  ((v = .slice none 0 0/\n=0)\/
   ∃g cap cur,v = .slice (some ⟨g,0,none⟩) n cap/\h[g]? = some (.cells cur e (0,0))/\n<=cap/\cap<=maxLen/\cur.size=cap*size/\cur.toList.take (n*size)=xs)
structure Kept (h h':Heap) (b:Option Nat):Prop where
 size:h.size<=h'.size
 block : ∀k,k<h.size->some k≠b->h'[k]? = h[k]?
theorem Kept.refl(h:Heap)(b:Option Nat):Kept h h b:=⟨Dy _,fun _ _ _=>rfl⟩
theorem Kept.push (h:Heap) (o:Obj) (b:Option Nat):Kept h (h.push o) b:=⟨by simp,fun k hk _=>by rw[Array.getElem?_push,if_neg (by omega)]⟩
theorem Kept.trans {h h' h'':Heap} {b:Option Nat} (k:Kept h h' b) (k':Kept h' h'' b):Kept h h'' b:=
 ⟨DW k.size k'.size,fun x hx hb=>(k'.block x (Fg hx k.size) hb).trans (k.block x hx hb)⟩
def Av (W:View) (v:Value):Prop:=∀b,v.ownBlock=some b->W b=none
theorem Kept.view{W:View}{h:Heap}{v:Value}(k:Kept h h' v.ownBlock)(hw:W.le (vw h))(ha:Av W v):W.le (vw h'):=by
 intro b o hb;have hlt:=View.lt hw hb;have hne:some b≠v.ownBlock:=fun e=>by rw[ha b e.symm]at hb;cases hb
 show h'[b]? = some o;rw[k.block b hlt hne];exact hw b o hb
theorem Kept.xq{W:View}{h:Heap}(k:Kept h h' none)(hw:W.le (vw h)):W.le (vw h'):=by intro b o hb;show h'[b]? = some o;rw[k.block b (View.lt hw hb) (by simp)];exact hw b o hb
theorem bG(h:Heap)(o:Obj):(vw h).le (vw (h.push o)):=(Kept.push h o none).xq (View.le_refl _)
theorem x8{h:Heap}(hle:(vw h).le (vw h'))(hs:h.size<=h'.size):Kept h h' none:=
 ⟨hs,fun k hk _=>by have:h[k]? = some h[k]:=DJ hk;rw[this];exact hle k _ this⟩
theorem cO{h:Heap}(hle:(vw h).le (vw h')):h.size<=h'.size:=by
 rcases DA h'.size h.size with hlt | hge
 ·have h1:h[h'.size]? = some h[h'.size]:=DJ hlt;have h2:h'[h'.size]? = some h[h'.size]:=hle _ _ h1;simp at h2
 exact hge
theorem ni{h:Heap}(hle:(vw h).le (vw h')):Kept h h' none:=x8 hle (cO hle)
theorem oP.kept{h h':Heap}{e:TypeId}{size n:Nat}{v:Value}{xs:List Value}{b:Option Nat}(ho:oP h e size v n xs)(k:Kept h h' b)(hb:v.ownBlock=none\/v.ownBlock≠b):oP h' e size v n xs:=by
 refine⟨ho.1,?_⟩;rcases ho.2 with hn | ⟨g,cap,cur,rfl,hg,rest⟩
 ·exact .inl hn
 refine .inr ⟨g,cap,cur,rfl,?_,rest⟩;rw[k.block g (Dx.1 hg).1 (by simpa[Value.ownBlock]using hb)];exact hg
structure eR (P:Program) (t e:TypeId) (size bytes:Nat) (z:Value):Prop where
 ht:P.underlying t=some (.slice e)
 hi : ∃i,P.info? e=some i/\i.zero=some z/\i.size=size/\i.bytes=bytes
 hz:z.cells.size=size
 hs:0<size
 hm:size<=1000
theorem vF{t e:TypeId}{bytes:Nat}{z:Value}(hT:eR P t e size bytes z){w:World}{v:Value}{xs:List Value}(hown:oP w.heap e size v n xs){a:Option Addr}{m c:Nat}{news:List Value}(hl:news.length=m*size)(hnews : ∀ad,a=some ad->∀j u,news[j]? = some u->w.cell? (ad.add j)=some u)(hnil:a=none->m=0)(h1 : ∀u∈news,u.oneCell'=true)(hbytes:(n+m)*bytes<=140737488355328)(h63:n+m<=140737488355328):
  ∃v' w',(Builtin.append_ #[t,t] ty #[v,.slice a m c]).run P w = .ok v' w'/\Same w w'/\oP w'.heap e size v' (n+m) (xs++news)/\Kept w.heap w'.heap v.ownBlock/\
   (v'.ownBlock=v.ownBlock\/v'.ownBlock=some w.heap.size):=by
 obtain⟨ht,⟨i,hi,hz,hsize,hby⟩,hzs,hsz,_⟩:=hT;subst hsize;subst hby;cases a with
 | none=>
  obtain rfl:=hnil rfl;have hn:news=[]:=DR (by simpa using hl);subst hn;have hrun:(Builtin.append_ #[t,t] ty #[v,.slice none 0 c]).run P w = .ok v w:=by
   rcases hown.2 with⟨rfl,rfl⟩ | ⟨g,cap,cur,rfl,hg,hnc,hcm,hcs,htake⟩
   ·simp[Builtin.append_,run_underlying ht,sizeOf,typeInfo,hi,Builtin.lenOf,Builtin.firstCells]
   simp[Builtin.append_,run_underlying ht,sizeOf,typeInfo,hi,Builtin.lenOf,Builtin.firstCells,hnc,storeCells]
  exact⟨v,w,hrun,Same.refl _,by simpa using hown,Kept.refl _ _,.inl rfl⟩
 | some ad=>
  have hnews:=hnews ad rfl;have hlen:(xs++news).length=(n+m)*i.size:=by rw[DT,hown.1,hl,EZ]
  have h63':n+m<=maxLen:=by simp only[maxLen];omega
  have grown : ∀(old:Nat),old<n+m->∀row,
    oP (w.drew.alloc (.cells (xs.toArray++news.toArray++Builtin.zeroCells z.cells (grownCap w (n+m) old e-(n+m))) e)).heap e i.size
     (.slice (some ⟨w.heap.size,0,none⟩) (n+m) (grownCap w (n+m) old e)) (n+m) (xs++news)/\
    Kept w.heap (w.drew.alloc (.cells (xs.toArray++news.toArray++Builtin.zeroCells z.cells (grownCap w (n+m) old e-(n+m))) e)).heap row:=by
   intro old ho row;have hge:=grownCap_ge w (n+m) old e;have hcm:grownCap w (n+m) old e<=maxLen:=grownCap_le_maxLen w (n+m) old e h63';refine⟨⟨hlen,.inr ⟨w.heap.size,_,_,rfl,heap_alloc_new w.drew _,hge,hcm,?_,?_⟩⟩,⟨by simp,fun k hk _=>by rw[heap_alloc_old w.drew _ (by simpa using hk)];rfl⟩⟩
   ·simp only[Array.size_append,EI,size_zeroCells,hzs,hown.1,hl,<-Nat.add_mul];congr 1;omega
   simp only[Array.toList_append,DG];rw[<-List.append_assoc,<-hlen];exact FJ
  rcases hown.2 with⟨rfl,rfl⟩ | ⟨g,cap,cur,rfl,hg,hnc,hcm,hcs,htake⟩
  ·have hx:xs=[]:=DR (by simpa using hown.1);subst hx;by_cases hm:m=0
   ·subst hm;have hn:news=[]:=DR (by simpa using hl);subst hn;refine⟨.slice none 0 0,w,?_,Same.refl _,⟨by simp,.inl ⟨rfl,rfl⟩⟩,Kept.refl _ _,.inl rfl⟩;simp[Builtin.append_,run_underlying ht,sizeOf,typeInfo,hi,Builtin.lenOf,Builtin.firstCells,loadCells,loadCellsFrom]
   have hr:=run_append_nil (P:=P) w t ty e i z ht hi hz ad m c news hl hnews (by omega) (by omega) (by have hb:=hbytes;simp only[Em]at hb;omega);have hgr:=grown 0 (by omega) none;simp only[Em,D7,Array.empty_append]at hgr ⊢;exact⟨_,_,hr,Same.rH rfl rfl rfl hgr.2.size (fun k hk=>hgr.2.block k hk (by simp)),hgr.1,⟨hgr.2.size,fun k hk _=>hgr.2.block k hk (by simp)⟩,.inr rfl⟩
  by_cases hroom:n+m<=cap
  ·have hfit:n*i.size+news.length<=cur.size:=by rw[hl,hcs,<-Nat.add_mul];exact DP _ hroom
   have hr:=run_append_room (P:=P) w t ty e i ht hi g n cap cur hg ad m c news hl hnews h1 hroom hfit;refine⟨_,_,hr,Same.lE rfl rfl rfl (by simp) hg (by simp) (fun k _ hne=>setRow_other w g k _ (fun e=>hne e)),⟨hlen,.inr ⟨g,cap,_,rfl,setRow_heap w g cur _ e _ hg,hroom,hcm,?_,?_⟩⟩,⟨by simp,fun k hk hne=>setRow_other w g k _ (fun e=>hne (by simp[Value.ownBlock,e]))⟩,.inl rfl⟩
   ·simp only[EI,DT,Ef,DV,EJ];omega
   rw[htake,<-hlen];exact FJ
  have holds : ∀j u,xs[j]? = some u->w.cell? ((⟨g,0,none⟩:Addr).add j)=some u:=by intro j u hu;have:=World.ownsRow.cells (w:=w) (base:=0) (e:=e) (size:=i.size) (v:=.slice (some ⟨g,0,none⟩) n cap) (n:=n) (xs:=xs) ⟨hown.1,.inr ⟨g,cap,cur,rfl,Fi _,hg,hnc,hcm,hcs,htake⟩⟩ (g:=g) rfl j u hu;exact this
  have hr:=run_append_grow (P:=P) w t ty e i z ht hi hz ⟨g,0,none⟩ n cap xs hown.1 holds ad m c news hl hnews (by omega) (by omega) (growslice_fits (by omega) hbytes);have hgr:=grown cap (by omega) none;exact⟨_,_,hr,Same.rH rfl rfl rfl hgr.2.size (fun k hk=>hgr.2.block k hk (by simp)),hgr.1,⟨hgr.2.size,fun k hk _=>hgr.2.block k hk (by simp)⟩,.inr rfl⟩
theorem cf{h:Heap}{K:Value->Heap->Prop}(hr:eC P (aL op ty us) h K):step P op ty us h K:=hr
attribute [irreducible] step dZ
end
end Go.Lft
