/- A part of the proof: Ja. -/
import Derived.Test.YtmhnaeecolpfkaaGreatDoorZCTim5
import Derived.Laws.BytesArg
set_option linter.unusedSimpArgs false
set_option linter.unusedVariables false
open Go.Value renaming int->UH,slice->UM
open Option renaming some->UK,none->UL
namespace Go.Proofs.YtmhnaeecolpfkaaGreatDoor
open Go Go.Lft
theorem fl{a b:ByteArray}(h:a.size+b.size<=9223372036854775807):Bn.ev .cat (.string a) (.string b)=UK (.string (a++b)):=by simp[Bn.ev,vS,h]
theorem yA{a b:ByteArray}{n:Bool}:Bn.ev (.eqS n) (.string a) (.string b)=UK (.bool ((a.toList == b.toList) != n)):=rfl
theorem C0{P:Program}{po:OP}{ty t e d:TypeId}{us:List (Nat × Value)}{h:Heap}{K:Value->Heap->Prop}{x:Operand}{b c m:Nat}{xs:List Int}{fz:Nat × Nat}(hs:P.underlying t=UK (.slice e))(he:P.underlying e=UK (.int .u8))(hd:P.underlying d=UK .string)(hx:asg us x = UM (UK ⟨b,0,UL⟩) m c)(hb:h[b]? = UK (.cells (xs.map (UH .u8)).toArray e fz))(hm:xs.length=m)(hk:K (.string (strOfNums xs)) h):@Lft.step po P (.convert t d x) ty us h K:=by
 refine dg (cH λw hw=>?_);subst hw;refine⟨_,w,?_,Same.refl _,hk⟩;simp only[bN,execOp,hx];have:=run_convert_bytes_arg (P:=P) w t e hs he b 0 m c xs hm (λi hi=>by
  have hi':i<xs.length:=by omega
  simp[World.cell?,hb,List.getD,RE hi']) d hd;simp[this]
theorem CU{P:Program}{po:OP}{ty t e:TypeId}{us:List (Nat × Value)}{h:Heap}{K:Value->Heap->Prop}{x:Operand}{n:Int}(hT:eD P t e 1 1 (.int .u8 0))(hx:asg us x = .int .u8 n)(hk:K (UM (UK ⟨h.size,0,UL⟩) 1 1) (h.push (.cells (([n].map (UH .u8)).toArray) e))):@Lft.step po P (.buildSlice t 1 #[(0,x)]) ty us h K:=by
 obtain⟨B,h1,h2⟩:=zJ [.int .u8 n] 0 ((Array.range (1*1)).map ((UH .u8 0).cells[· % (UH .u8 0).cells.size]!)) (λv hv=>by rw[Q2.1 hv];rfl) U2;have hB:B = #[.int .u8 n]:=by rw[<-Array.toList_inj,h2];simp
 subst hB;exact sf (size:=1) (vs:=[(0,.int .u8 n)]) hT U1 (by simp[hx]) h1 hk
def digB (u:Int):Int:=if u.tmod 10<0 then-u.tmod 10 else u.tmod 10
def digC (u:Int):ByteArray:=strOfNums [IntKind.u8.wrap (48+digB u)]
theorem wR{u:Int}:(digC u).size=1:=strOfNums_size _
def tens:Nat->Int
 | 0=>1
 | n+1=>10*tens n
theorem En : ∀{n:Nat},1<=tens n
 | 0=>SE _
 | n+1=>by have:=En (n:=n);unfold tens;omega
end Go.Proofs.YtmhnaeecolpfkaaGreatDoor
