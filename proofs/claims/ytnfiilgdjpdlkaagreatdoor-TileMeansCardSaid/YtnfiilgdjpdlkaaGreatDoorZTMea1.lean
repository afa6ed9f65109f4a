/- A part of the proof: LftX, LftY, LftZ, LftF, LftG, LftH, LftM, LftN, LftQ, LftU, LftJ, LftK, T, LftP, Ua, Law, Ga, La, Lb, Lc, Ld, Le, Lf, Lg, Lh, Li, Lj, Lk, Ll, Shelf, Wk. -/
import Derived.Test.YtnfiilgdjpdlkaaGreatDoorZTMea0
import Derived.KernelRfl
import Derived.ChangeKeysEq
import Derived.MapKept
import Derived.RecoverIn
import Derived.Test.YtnfiilgdjpdlkaaGreatDoorChecked
import Derived.ProofKit
import Derived.OpenShut
import Derived.HandedShaped
import Derived.LaidMore
import Derived.Test.YtnfiilgdjpdlkaaGreatDoorProg
import Derived.Shelf.Small.Bits
import Derived.Shelf.Small.Wraps
import Derived.Shelf.Strconv.Itoa0
import Derived.Shelf.Sort.Plain
import Derived.Shelf.Unicode.Latin
import Derived.Shelf.Unicode.Is16White
import Derived.Shelf.Unicode.IsSpaceAny
import Derived.Shelf.Unicode.Is16Any
import Derived.Shelf.Unicode.Is32Any
import Derived.Shelf.Unicode.ExclAny
import Derived.Shelf.Slices.Turned
import Derived.Shelf.Slices.Reverse
import Derived.Ground.Names2Prog
import Derived.Shelf.Slices.CompactI
import Derived.Shelf.Slices.SearchI
import Derived.Shelf.Slices.Cells
import Derived.Shelf.Slices.In.SortNone
set_option linter.unusedSimpArgs false
set_option linter.unusedVariables false
open Go.Value renaming int->Sf,slice->Sn,pointer->Sp
open Go.IntKind renaming i64->Sg,i32->Si
open Option renaming some->Sj,none->Sk
open Bool renaming true->Sq,false->Sr
open Go.Proofs.Tryz renaming prog->Ss
namespace Go.Lft
open Go
section
variable {po:OP} {pp:PP}
def step [po:OP] (P:Program) (op:Op) (ty:TypeId) (us:List (Nat × Value)) (h:Heap) (K:Value->Heap->Prop):Prop:=gT P (bI op ty us) h K
variable{P:Program}{op:Op}{ty:TypeId}{us:List (Nat × Value)}{h':Heap}{K:Value->Heap->Prop}
@[congr] theorem K8{us':List (Nat × Value)}{h:Heap}(e1:us=us')(e2:h=h'):step P op ty us h K=step P op ty us' h' K:=by rw[e1,e2]
def grdP (o:Option Value) (b:Bool) (A B:Prop):Prop:=∃gv,o=Sj gv/\(gv = .bool b->A)/\(gv≠.bool b->B)
variable{b:Bool}
@[congr] theorem Mf{o o':Option Value}{A B:Prop}(h:o=o'):grdP o b A B=grdP o' b A B:=by rw[h]
@[simp] theorem Ny{A B:Prop}:grdP (Sj (.bool Sq)) Sq A B=A:=by simp[grdP]
@[simp] theorem ND{A B:Prop}:grdP (Sj (.bool Sq)) Sr A B=B:=by simp[grdP]
@[simp] theorem NB{A B:Prop}:grdP (Sj (.bool Sr)) Sq A B=B:=by simp[grdP]
@[simp] theorem NL{A B:Prop}:grdP (Sj (.bool Sr)) Sr A B=A:=by simp[grdP]
@[simp] theorem Mw{A B p:Prop}[Decidable p]:grdP (Sj (.bool (decide p))) Sq A B=((p->A)/\(¬p->B)):=by simp[grdP]
@[simp] theorem Mi{A B p:Prop}[Decidable p]:grdP (Sj (.bool (decide p))) Sr A B=((p->B)/\(¬p->A)):=by simp[grdP,and_comm]
@[simp] theorem Nr{A B:Prop}{x:Bool}:grdP (Sj (.bool (!x))) b A B=grdP (Sj (.bool x)) (!b) A B:=by cases x<;>cases b<;>simp
@[simp] theorem LB{A B:Prop}:grdP (Sj undef) b A B=B:=by simp[grdP,undef]
section
variable {P:Program} {Q:Env->Heap->Prop} {ρ:Env} {h:Heap}
variable{kill:List Nat}{sets args:List (Nat × E)}{chk:List E}{dst:Option Nat}{keep:Bool}{next:Reg}
@[simp] theorem Ki{tail:Bool}:
  eh P Sk (.loud kill sets args Sk chk tail op ty dst keep next) Q ρ h=sat (evP (look ρ) (vw h) sets) λvs=>sat (evP (look ρ) (vw h) args) λus=>okE (look ρ) (vw h) chk/\pp.fx (dd (bX ρ kill) vs)/\
   @step (opAt Sk) P op ty us h λv h'=>eh P Sk next Q (putE (dd (bX ρ kill) vs) dst keep v) h':=by
 simp only[eh,cB,sat,step,gP,Option.map_none];refine propext ⟨λ⟨vs,us,h1,h2,h3,hfx,h4⟩=>⟨vs,h1,us,h2,h3,hfx,h4.mono λv h' hh=>?_⟩,λ⟨vs,h1,us,h2,h3,hfx,h4⟩=>⟨vs,us,h1,h2,h3,hfx,h4.mono λv h' hh=>?_⟩⟩
 ·have:=hh.2;cases tail<;>exact this
 cases tail<;>exact⟨by simp,hh⟩
@[simp] theorem Ko{g:E}:
  eh P Sk (.loud kill sets args (Sj (g,b)) chk Sr op ty dst keep next) Q ρ h=sat (evP (look ρ) (vw h) sets) λvs=>sat (evP (look ρ) (vw h) args) λus=>okE (look ρ) (vw h) chk/\pp.fx (dd (bX ρ kill) vs)/\
   grdP (ev (look ρ) (vw h) g) b (@step (opAt Sk) P op ty us h λv h'=>eh P Sk next Q (putE (dd (bX ρ kill) vs) dst keep v) h') (eh P Sk next Q (putE (dd (bX ρ kill) vs) dst keep undef) h):=by simp only[eh,cB,sat,step,gP,grdP];refine propext ⟨λ⟨vs,us,h1,h2,h3,hfx,gv,h4,h5,h6⟩=>⟨vs,h1,us,h2,h3,hfx,gv,h4,λe=>(h5 e).mono λv h' hh=>hh.2,h6⟩,λ⟨vs,h1,us,h2,h3,hfx,gv,h4,h5,h6⟩=>⟨vs,us,h1,h2,h3,hfx,gv,h4,λe=>(h5 e).mono λv h' hh=>⟨by simp,hh⟩,h6⟩⟩
variable{H:View}
@[simp] theorem Kl:
  eh P (Sj H) (.loud kill sets args Sk chk Sr op ty dst keep next) Q ρ h=sat (evP (look ρ) H sets) λvs=>sat (evP (look ρ) H args) λus=>okE (look ρ) H chk/\pp.fx (dd (bX ρ kill) vs)/\
   @step (opAt (Sj H)) P op ty us h λv h'=>H.le (vw h')/\eh P (Sj H) next Q (putE (dd (bX ρ kill) vs) dst keep v) h':=by
 simp only[eh,cB,sat,step,lT];refine propext ⟨λ⟨vs,us,h1,h2,h3,hfx,h4⟩=>⟨vs,h1,us,h2,h3,hfx,h4.mono λv h' hh=>?_⟩,λ⟨vs,h1,us,h2,h3,hfx,h4⟩=>⟨vs,us,h1,h2,h3,hfx,h4.mono λv h' hh=>?_⟩⟩
 ·exact⟨by simpa using hh.1,hh.2⟩
 exact⟨by simpa using hh.1,hh.2⟩
@[simp] theorem KD:
  eh P (Sj H) (.loud kill sets args Sk chk Sq op ty dst keep next) Q ρ h=sat (evP (look ρ) H sets) λvs=>sat (evP (look ρ) H args) λus=>okE (look ρ) H chk/\pp.fx (dd (bX ρ kill) vs)/\
   @step (opAt (Sj H)) P op ty us h λv h'=>eh P (Sj nothing) next Q (putE (dd (bX ρ kill) vs) dst keep v) h':=by
 simp only[eh,cB,sat,step,lT];refine propext ⟨λ⟨vs,us,h1,h2,h3,hfx,h4⟩=>⟨vs,h1,us,h2,h3,hfx,h4.mono λv h' hh=>?_⟩,λ⟨vs,h1,us,h2,h3,hfx,h4⟩=>⟨vs,us,h1,h2,h3,hfx,h4.mono λv h' hh=>?_⟩⟩
 ·exact hh.2
 exact⟨by simp,hh⟩
@[simp] theorem I0{g:E}:
  eh P (Sj H) (.loud kill sets args (Sj (g,b)) chk Sr op ty dst keep next) Q ρ h=sat (evP (look ρ) H sets) λvs=>sat (evP (look ρ) H args) λus=>okE (look ρ) H chk/\pp.fx (dd (bX ρ kill) vs)/\
   grdP (ev (look ρ) H g) b (@step (opAt (Sj H)) P op ty us h λv h'=>H.le (vw h')/\eh P (Sj H) next Q (putE (dd (bX ρ kill) vs) dst keep v) h') (eh P (Sj H) next Q (putE (dd (bX ρ kill) vs) dst keep undef) h):=by simp only[eh,cB,sat,step,lT,grdP];refine propext ⟨λ⟨vs,us,h1,h2,h3,hfx,gv,h4,h5,h6⟩=>⟨vs,h1,us,h2,h3,hfx,gv,h4,λe=>(h5 e).mono λv h' hh=>⟨by simpa using hh.1,hh.2⟩,h6⟩,λ⟨vs,h1,us,h2,h3,hfx,gv,h4,h5,h6⟩=>⟨vs,us,h1,h2,h3,hfx,gv,h4,λe=>(h5 e).mono λv h' hh=>⟨by simpa using hh.1,hh.2⟩,h6⟩⟩
@[simp] theorem Jl:
  cB View.sub P (Sj H) (.loud kill sets args Sk chk Sr op ty dst keep next) Q ρ h=sat (evP (look ρ) H sets) λvs=>sat (evP (look ρ) H args) λus=>okE (look ρ) H chk/\pp.fx (dd (bX ρ kill) vs)/\
   @step (opAt (Sj H)) P op ty us h λv h'=>H.sub (vw h')/\cB View.sub P (Sj H) next Q (putE (dd (bX ρ kill) vs) dst keep v) h':=by
 simp only[cB,sat,step,lT];refine propext ⟨λ⟨vs,us,h1,h2,h3,hfx,h4⟩=>⟨vs,h1,us,h2,h3,hfx,h4.mono λv h' hh=>?_⟩,λ⟨vs,h1,us,h2,h3,hfx,h4⟩=>⟨vs,us,h1,h2,h3,hfx,h4.mono λv h' hh=>?_⟩⟩
 ·exact⟨by simpa using hh.1,hh.2⟩
 exact⟨by simpa using hh.1,hh.2⟩
@[simp] theorem JW:
  cB View.sub P (Sj H) (.loud kill sets args Sk chk Sq op ty dst keep next) Q ρ h=sat (evP (look ρ) H sets) λvs=>sat (evP (look ρ) H args) λus=>okE (look ρ) H chk/\pp.fx (dd (bX ρ kill) vs)/\
   @step (opAt (Sj H)) P op ty us h λv h'=>cB View.sub P (Sj nothing) next Q (putE (dd (bX ρ kill) vs) dst keep v) h':=by
 simp only[cB,sat,step,lT];refine propext ⟨λ⟨vs,us,h1,h2,h3,hfx,h4⟩=>⟨vs,h1,us,h2,h3,hfx,h4.mono λv h' hh=>?_⟩,λ⟨vs,h1,us,h2,h3,hfx,h4⟩=>⟨vs,us,h1,h2,h3,hfx,h4.mono λv h' hh=>?_⟩⟩
 ·exact hh.2
 exact⟨by simp,hh⟩
@[simp] theorem IB{g:E}:
  cB View.sub P (Sj H) (.loud kill sets args (Sj (g,b)) chk Sr op ty dst keep next) Q ρ h=sat (evP (look ρ) H sets) λvs=>sat (evP (look ρ) H args) λus=>okE (look ρ) H chk/\pp.fx (dd (bX ρ kill) vs)/\
   grdP (ev (look ρ) H g) b (@step (opAt (Sj H)) P op ty us h λv h'=>H.sub (vw h')/\cB View.sub P (Sj H) next Q (putE (dd (bX ρ kill) vs) dst keep v) h') (cB View.sub P (Sj H) next Q (putE (dd (bX ρ kill) vs) dst keep undef) h):=by simp only[cB,sat,step,lT,grdP];refine propext ⟨λ⟨vs,us,h1,h2,h3,hfx,gv,h4,h5,h6⟩=>⟨vs,h1,us,h2,h3,hfx,gv,h4,λe=>(h5 e).mono λv h' hh=>⟨by simpa using hh.1,hh.2⟩,h6⟩,λ⟨vs,h1,us,h2,h3,hfx,gv,h4,h5,h6⟩=>⟨vs,us,h1,h2,h3,hfx,gv,h4,λe=>(h5 e).mono λv h' hh=>⟨by simpa using hh.1,hh.2⟩,h6⟩⟩
@[simp] theorem KT:
  cB View.sub P (Sj H) (.fin kill sets chk) Q ρ h=sat (evP (look ρ) H sets) λvs=>okE (look ρ) H chk/\Q (dd (bX ρ kill) vs) h:=rfl
@[simp] theorem NK{ρ:Env}:@PP.fx noPP ρ=True:=rfl
@[simp] theorem NJ{Rp:List PanicEntry->Heap->Prop}{ρ:Env}:@PP.fx (ppOf Rp) ρ=True:=rfl
@[simp] theorem KP{m:Option View}{x y:Reg}:eh P m (.both x y) Q ρ h=(eh P m x Q ρ h/\eh P m y Q ρ h):=rfl
end
theorem rS{s:Sem Next}{f:FuncId}{args:Array Value}{h:Heap}{R:Value->Heap->Prop}(hs : ∀w:World,w.heap=h->s.run P w = .ok (.enter f args) w)(hc:aw P f args h R)(hk : ∀v h',R v h'->K v h'):gT P s h K:=by intro w hw r o a K' Q' hK hQ;rw[hs w hw];simp only[Oper.uponIn];refine⟨λh=>by simp[Fw,Fence.wide]at h,rN ((hc w hw).mono ?_)⟩;rintro e w' ⟨v,rfl,hR,hsame⟩;exact hK v w' (hk _ _ hR) hsame
theorem vu{s:Sem Next}{f:FuncId}{args:Array Value}{h:Heap}{R:Value->Heap->Prop}{Rp:List PanicEntry->Heap->Prop}(hs : ∀w:World,w.heap=h->s.run P w = .ok (.enter f args) w)(hc:iQ P f args h R Rp)(hk : ∀v h',R v h'->K v h')(hp : ∀ch h',Rp ch h'->po.op ch h'):gT P s h K:=by
 intro w hw r o a K' Q' hK hQ;rw[hs w hw];simp only[Oper.uponIn];refine⟨λh=>by simp[Fw,Fence.wide]at h,rN ((hc w hw).mono ?_)⟩;rintro e w' (⟨v,rfl,hR,hsame⟩ | ⟨ch,rfl,hR,hsame⟩)
 ·exact hK v w' (hk _ _ hR) hsame
 exact hQ ch w' (hp _ _ hR) hsame
theorem Dj{f:FuncId}{ops:Array Operand}{T:Array TypeId}{args:Array Value}{h:Heap}(R:Value->Heap->Prop)(Rp:List PanicEntry->Heap->Prop)(hf:isFn P f=Sq)(ha:ops.map (asg us)=args)(hc:iQ P f args h R Rp)(hk : ∀v h',R v h'->K v h')(hp : ∀ch h',Rp ch h'->po.op ch h'):
  step P (.call ⟨.value (.func f),ops,T⟩) ty us h K:=by
 subst ha;refine vu (λw _=>?_) hc hk hp;unfold isFn at hf;cases hfn:P.funcs[f]? with
 | none=>simp[hfn]at hf
 | some fn=>simp only[hfn,OG,bne_iff_ne,ne_eq]at hf;obtain⟨h1,h2⟩:=hf;simp[bI,execOp,resolve,Deferred.ofValue,asg,invoke,callFunc,program,Sem.run,hfn,h1,Option.isNone];cases hb:fn.body<;>simp[hb]at h2 ⊢
theorem tE{f:FuncId}{ops:Array Operand}{T:Array TypeId}{args:Array Value}{h:Heap}(R:Value->Heap->Prop)(hf:isFn P f=Sq)(ha:ops.map (asg us)=args)(hc:aw P f args h R)(hk : ∀v h',R v h'->K v h'):
  step P (.call ⟨.value (.func f),ops,T⟩) ty us h K:=by
 subst ha;refine rS (λw _=>?_) hc hk;unfold isFn at hf;cases hfn:P.funcs[f]? with
 | none=>simp[hfn]at hf
 | some fn=>simp only[hfn,OG,bne_iff_ne,ne_eq]at hf;obtain⟨h1,h2⟩:=hf;simp[bI,execOp,resolve,Deferred.ofValue,asg,invoke,callFunc,program,Sem.run,hfn,h1,Option.isNone];cases hb:fn.body<;>simp[hb]at h2 ⊢
def fY [po:OP] (P:Program) (f:FuncId) (T:Array TypeId) (ty:TypeId) (args:List Value) (h:Heap) (K:Value->Heap->Prop):Prop:=
 step P (.call ⟨.value (.func f),args.toArray.map .const,T⟩) ty [] h K
@[simp] theorem NA{t:Nat}:asg us (.tmp t)=(look us t).getD undef:=rfl
@[simp] theorem yO{v:Value}:asg us (.const v)=v:=rfl
@[simp] theorem Na{f:FuncId}:asg us (.func f) = .func (.func f) #[] #[]:=rfl
@[simp] theorem Lj{g:Nat}:asg us (.global g) = ptz g:=rfl
theorem iI{f:FuncId}{ops:List Operand}{T:Array TypeId}{h:Heap}:
  step P (.call ⟨.value (.func f),ops.toArray,T⟩) ty us h K=fY P f T ty (ops.map (asg us)) h K:=by unfold fY step;congr 1;simp[bI,execOp,resolve,Deferred.ofValue,RO]
section
variable {P:Program} {f:FuncId} {x y z u v:Operand} {T:Array TypeId} {ty:TypeId} {us:List (Nat × Value)} {h:Heap} {K:Value->Heap->Prop}
@[simp] theorem LM:step P (.call ⟨.value (.func f),#[],T⟩) ty us h K=fY P f T ty [] h K:=iI (ops:=[])
@[simp] theorem Me:step P (.call ⟨.value (.func f),#[x],T⟩) ty us h K=fY P f T ty [asg us x] h K:=iI (ops:=[x])
@[simp] theorem Lh:step P (.call ⟨.value (.func f),#[x,y],T⟩) ty us h K=fY P f T ty [asg us x,asg us y] h K:=iI (ops:=[x,y])
@[simp] theorem Lt:step P (.call ⟨.value (.func f),#[x,y,z],T⟩) ty us h K=fY P f T ty [asg us x,asg us y,asg us z] h K:=iI (ops:=[x,y,z])
@[simp] theorem Ma:step P (.call ⟨.value (.func f),#[x,y,z,u],T⟩) ty us h K=fY P f T ty [asg us x,asg us y,asg us z,asg us u] h K:=iI (ops:=[x,y,z,u])
@[simp] theorem Lu:step P (.call ⟨.value (.func f),#[x,y,z,u,v],T⟩) ty us h K=fY P f T ty [asg us x,asg us y,asg us z,asg us u,asg us v] h K:=iI (ops:=[x,y,z,u,v])
end
@[congr] theorem Gu{f:FuncId}{T:Array TypeId}{args args':List Value}{h:Heap}(ha:args=args'):fY P f T ty args h K=fY P f T ty args' h K:=by rw[ha]
theorem af{f:FuncId}{T:Array TypeId}{args:List Value}{h:Heap}{R:Value->Heap->Prop}(hf:isFn P f=Sq)(hc:aw P f args.toArray h R)(hk : ∀v h',R v h'->K v h'):fY P f T ty args h K:=
 tE R hf (by simp[RO]) hc hk
theorem dA{f:FuncId}{T:Array TypeId}{args:List Value}{h:Heap}{R:Value->Heap->Prop}{Rp:List PanicEntry->Heap->Prop}(hf:isFn P f=Sq)(hc:iQ P f args.toArray h R Rp)(hk : ∀v h',R v h'->K v h')(hp : ∀ch h',Rp ch h'->po.op ch h'):fY P f T ty args h K:=
 Dj R Rp hf (by simp[RO]) hc hk hp
theorem cf{s:Sem Next}{h:Heap}(hs : ∀w:World,w.heap=h->∃v w',s.run P w = .ok (.value v) w'/\Same w w'/\K v w'.heap):gT P s h K:=by intro w hw r o a K' Q' hK hQ;obtain⟨v,w',h1,h2,h3⟩:=hs w hw;rw[h1];exact hK v w' h3 h2
theorem qw{s:Sem Next}{h:Heap}(hs : ∀w:World,w.heap=h->∃w',s.run P w = .ok .skip w'/\Same w w'/\K undef w'.heap):gT P s h K:=by intro w hw r o a K' Q' hK hQ;obtain⟨w',h1,h2,h3⟩:=hs w hw;rw[h1];exact hK undef w' h3 h2
theorem iB(w:World)(o:Obj):Same w (w.alloc o):=Same.z8 rfl rfl rfl Sa λk hk=>heap_alloc_old w o hk
variable{n size:Nat}{cs:Array Value}
theorem oU{t e:TypeId}{ps:Array (Nat × Operand)}{h:Heap}{i:TypeInfo}{z:Value}{vs:List (Nat × Value)}(ht:P.underlying t=Sj (.slice e))(hi:P.info? e=Sj i)(hz:i.zero=Sj z)(hs:i.size=size)(hn:n*size<=16777216)(hp:ps.map (λp=>(p.1,asg us p.2))=vs.toArray)(hf:Instr.fill (λj=>Sj (j*size,size)) ((Array.range (n*size)).map (z.cells[· % z.cells.size]!)) vs=Sj cs)(hk:K (Sn (Sj ⟨h.size,0,Sk⟩) n n) (h.push (.cells cs e))):step P (.buildSlice t n ps) ty us h K:=by
 subst hs;refine cf λw hw=>?_;subst hw;have hn':¬(16777216<n*i.size):=by omega
 refine⟨_,w.alloc (.cells cs e),?_,iB _ _,hk⟩;have hp':(ps.map λx=>match x with | (i,x)=>(i,asg us x))=vs.toArray:=hp;by_cases h0:n*i.size=0
 ·have e1 : ∀f:Nat->Value,(Array.range 0).map f = #[]:=λf=>by simp[Array.range_zero']
  rw[h0,e1]at hf;simp only[bI,execOp,hp'];simp[Instr.buildSlice,run_underlying ht,sizeOf,typeInfo,hi,h0,newRow,e1,hf]
 simp only[bI,execOp,hp'];simp[Instr.buildSlice,run_underlying ht,sizeOf,typeInfo,hi,hn',newRow,h0,zeroValue,hz,hf]
def xZ (h:Heap) (e:TypeId) (size:Nat) (v:Value) (n:Nat) (xs:List Value):Prop:=
  xs.length=n*size/\
  ((v = Sn Sk 0 0/\n=0)\/
   ∃g cap cur,v = Sn (Sj ⟨g,0,Sk⟩) n cap/\h[g]? = Sj (.cells cur e (0,0))/\n<=cap/\cap<=maxLen/\cur.size=cap*size/\cur.toList.take (n*size)=xs)
structure Kept (h h':Heap) (b:Option Nat):Prop where
 size:h.size<=h'.size
 block : ∀k,k<h.size->Sj k≠b->h'[k]? = h[k]?
theorem Kept.refl(h:Heap)(b:Option Nat):Kept h h b:=⟨OA _,λ_ _ _=>rfl⟩
theorem Kept.push (h:Heap) (o:Obj) (b:Option Nat):Kept h (h.push o) b:=⟨by simp,λk hk _=>by rw[Array.getElem?_push,if_neg S0]⟩
theorem Kept.trans {h h' h'':Heap} {b:Option Nat} (k:Kept h h' b) (k':Kept h' h'' b):Kept h h'' b:=
 ⟨OY k.size k'.size,λx hx hb=>(k'.block x (QG hx k.size) hb).trans (k.block x hx hb)⟩
def Av (W:View) (v:Value):Prop:=∀b,v.ownBlock=Sj b->W b=Sk
variable{W:View}
theorem Kept.view{h:Heap}{v:Value}(k:Kept h h' v.ownBlock)(hw:W.le (vw h))(ha:Av W v):W.le (vw h'):=by
 intro b o hb;have hlt:=View.lt hw hb;have hne:Sj b≠v.ownBlock:=λe=>by rw[ha b e.symm]at hb;cases hb
 show h'[b]? = Sj o;rw[k.block b hlt hne];exact hw b o hb
theorem Kept.FD{h:Heap}(k:Kept h h' Sk)(hw:W.le (vw h)):W.le (vw h'):=by intro b o hb;show h'[b]? = Sj o;rw[k.block b (View.lt hw hb) Sa];exact hw b o hb
theorem bP(h:Heap)(o:Obj):(vw h).le (vw (h.push o)):=(Kept.push h o Sk).FD Sb
theorem HO{h:Heap}(hle:(vw h).le (vw h'))(hs:h.size<=h'.size):Kept h h' none:=
 ⟨hs,λk hk _=>by have:h[k]? = Sj h[k]:=OX hk;rw[this];exact hle k _ this⟩
theorem cm{h:Heap}(hle:(vw h).le (vw h')):h.size<=h'.size:=by
 rcases OD h'.size h.size with hlt | hge
 ·have h1:h[h'.size]? = Sj h[h'.size]:=OX hlt;have h2:h'[h'.size]? = Sj h[h'.size]:=hle _ _ h1;simp at h2
 exact hge
theorem tY{h:Heap}(hle:(vw h).le (vw h')):Kept h h' none:=HO hle (cm hle)
theorem xZ.kept{h h':Heap}{e:TypeId}{size n:Nat}{v:Value}{xs:List Value}{b:Option Nat}(ho:xZ h e size v n xs)(k:Kept h h' b)(hb:v.ownBlock=Sk\/v.ownBlock≠b):xZ h' e size v n xs:=by
 refine⟨ho.1,?_⟩;rcases ho.2 with hn | ⟨g,cap,cur,rfl,hg,rest⟩
 ·exact .inl hn
 refine .inr ⟨g,cap,cur,rfl,?_,rest⟩;rw[k.block g (OJ.1 hg).1 (by simpa[Value.ownBlock]using hb)];exact hg
structure ef (P:Program) (t e:TypeId) (size bytes:Nat) (z:Value):Prop where
 ht:P.underlying t=Sj (.slice e)
 hi : ∃i,P.info? e=Sj i/\i.zero=Sj z/\i.size=size/\i.bytes=bytes
 hz:z.cells.size=size
 hs:0<size
 hm:size<=1000
variable{bytes:Nat}
theorem Dg{t e:TypeId}{z:Value}(hT:ef P t e size bytes z){w:World}{v:Value}{xs:List Value}(hown:xZ w.heap e size v n xs){a:Option Addr}{m c:Nat}{news:List Value}(hl:news.length=m*size)(hnews : ∀ad,a=Sj ad->∀j u,news[j]? = Sj u->w.cell? (ad.add j)=Sj u)(hnil:a=Sk->m=0)(h1 : ∀u∈news,u.oneCell'=Sq)(hbytes:(n+m)*bytes<=140737488355328)(h63:n+m<=140737488355328):
  ∃v' w',(Builtin.append_ #[t,t] ty #[v,.slice a m c]).run P w = .ok v' w'/\Same w w'/\xZ w'.heap e size v' (n+m) (xs++news)/\Kept w.heap w'.heap v.ownBlock/\
   (v'.ownBlock=v.ownBlock\/v'.ownBlock=Sj w.heap.size):=by
 obtain⟨ht,⟨i,hi,hz,hsize,hby⟩,hzs,hsz,_⟩:=hT;subst hsize;subst hby;cases a with
 | none=>
  obtain rfl:=hnil rfl;have hn:news=[]:=OV (by simpa using hl);subst hn;have hrun:(Builtin.append_ #[t,t] ty #[v,Sn Sk 0 c]).run P w = .ok v w:=by
   rcases hown.2 with⟨rfl,rfl⟩ | ⟨g,cap,cur,rfl,hg,hnc,hcm,hcs,htake⟩
   ·simp[Builtin.append_,run_underlying ht,sizeOf,typeInfo,hi,Builtin.lenOf,Builtin.firstCells]
   simp[Builtin.append_,run_underlying ht,sizeOf,typeInfo,hi,Builtin.lenOf,Builtin.firstCells,hnc,storeCells]
  exact⟨v,w,hrun,Same.refl _,by simpa using hown,Kept.refl _ _,.inl rfl⟩
 | some ad=>
  have hnews:=hnews ad rfl;have hlen:(xs++news).length=(n+m)*i.size:=by rw[OI,hown.1,hl,QO]
  have h63':n+m<=maxLen:=by simp only[maxLen];omega
  have grown : ∀(old:Nat),old<n+m->∀row,
    xZ (w.drew.alloc (.cells (xs.toArray++news.toArray++Builtin.zeroCells z.cells (grownCap w (n+m) old e-(n+m))) e)).heap e i.size
     (Sn (Sj ⟨w.heap.size,0,Sk⟩) (n+m) (grownCap w (n+m) old e)) (n+m) (xs++news)/\
    Kept w.heap (w.drew.alloc (.cells (xs.toArray++news.toArray++Builtin.zeroCells z.cells (grownCap w (n+m) old e-(n+m))) e)).heap row:=by
   intro old ho row;have hge:=grownCap_ge w (n+m) old e;have hcm:grownCap w (n+m) old e<=maxLen:=grownCap_le_maxLen w (n+m) old e h63';refine⟨⟨hlen,.inr ⟨w.heap.size,_,_,rfl,heap_alloc_new w.drew _,hge,hcm,?_,?_⟩⟩,⟨by simp,λk hk _=>by rw[heap_alloc_old w.drew _ (by simpa using hk)];rfl⟩⟩
   ·simp only[Array.size_append,Ql,size_zeroCells,hzs,hown.1,hl,<-Nat.add_mul];congr 1;omega
   simp only[Array.toList_append,ON];rw[<-List.append_assoc,<-hlen];exact RC
  rcases hown.2 with⟨rfl,rfl⟩ | ⟨g,cap,cur,rfl,hg,hnc,hcm,hcs,htake⟩
  ·have hx:xs=[]:=OV (by simpa using hown.1);subst hx;by_cases hm:m=0
   ·subst hm;have hn:news=[]:=OV (by simpa using hl);subst hn;refine⟨Sn Sk 0 0,w,?_,Same.refl _,⟨by simp,.inl ⟨rfl,rfl⟩⟩,Kept.refl _ _,.inl rfl⟩;simp[Builtin.append_,run_underlying ht,sizeOf,typeInfo,hi,Builtin.lenOf,Builtin.firstCells,loadCells,loadCellsFrom]
   have hr:=run_append_nil (P:=P) w t ty e i z ht hi hz ad m c news hl hnews S0 S0 (by have hb:=hbytes;simp only[PN]at hb;omega);have hgr:=grown 0 S0 Sk;simp only[PN,Pz,Array.empty_append]at hgr ⊢;exact⟨_,_,hr,Same.z8 rfl rfl rfl hgr.2.size (λk hk=>hgr.2.block k hk Sa),hgr.1,⟨hgr.2.size,λk hk _=>hgr.2.block k hk Sa⟩,.inr rfl⟩
  by_cases hroom:n+m<=cap
  ·have hfit:n*i.size+news.length<=cur.size:=by rw[hl,hcs,<-Nat.add_mul];exact O4 _ hroom
   have hr:=run_append_room (P:=P) w t ty e i ht hi g n cap cur hg ad m c news hl hnews h1 hroom hfit;refine⟨_,_,hr,Same.rM rfl rfl rfl Sa hg Sa (λk _ hne=>setRow_other w g k _ (λe=>hne e)),⟨hlen,.inr ⟨g,cap,_,rfl,setRow_heap w g cur _ e _ hg,hroom,hcm,?_,?_⟩⟩,⟨by simp,λk hk hne=>setRow_other w g k _ (λe=>hne (by simp[Value.ownBlock,e]))⟩,.inl rfl⟩
   ·simp only[Ql,OI,Pp,Pl,Qs];omega
   rw[htake,<-hlen];exact RC
  have holds : ∀j u,xs[j]? = Sj u->w.cell? ((⟨g,0,Sk⟩:Addr).add j)=Sj u:=by intro j u hu;have:=World.ownsRow.cells (w:=w) (base:=0) (e:=e) (size:=i.size) (v:=Sn (Sj ⟨g,0,Sk⟩) n cap) (n:=n) (xs:=xs) ⟨hown.1,.inr ⟨g,cap,cur,rfl,QD _,hg,hnc,hcm,hcs,htake⟩⟩ (g:=g) rfl j u hu;exact this
  have hr:=run_append_grow (P:=P) w t ty e i z ht hi hz ⟨g,0,Sk⟩ n cap xs hown.1 holds ad m c news hl hnews S0 S0 (growslice_fits S0 hbytes);have hgr:=grown cap S0 Sk;exact⟨_,_,hr,Same.z8 rfl rfl rfl hgr.2.size (λk hk=>hgr.2.block k hk Sa),hgr.1,⟨hgr.2.size,λk hk _=>hgr.2.block k hk Sa⟩,.inr rfl⟩
theorem cI{h:Heap}(hr:gT P (bI op ty us) h K):step P op ty us h K:=hr
attribute [irreducible] step fY
end
section
variable {po:OP} {pp:PP}
def fresh (h h':Heap):View:=λb=>if b<h.size then Sk else h'[b]?
theorem kU(h h':Heap):(fresh h h').le (vw h'):=λb o hb=>by
 unfold fresh at hb;split at hb
 ·cases hb
 exact hb
theorem ju(V:View)(h h':Heap):(fresh h h').le (grow V h h'):=λb o hb=>by
 unfold fresh at hb;unfold grow;split at hb
 ·cases hb
 rename_i hlt;rw[if_neg hlt];exact hb
structure lh (h h':Heap) (v v':Value):Prop where
 kept:Kept h h' v.ownBlock
 at_:v'.ownBlock=v.ownBlock\/v'.ownBlock=Sj h.size
theorem lh.view {h h':Heap} {v v':Value} (m:lh h h' v v') {W:View} (hw:W.le (vw h)) (ha:Av W v):W.le (vw h')/\Av W v':=by
 refine⟨m.kept.view hw ha,λb hb=>?_⟩;rcases m.at_ with e | e
 ·exact ha b (by rw[<-e];exact hb)
 rw[e]at hb;simp only[Ow]at hb;exact View.cA hw S0
theorem Av.nil(W:View)(n c:Nat):Av W (Sn Sk n c):=λb hb=>by simp[Value.ownBlock]at hb
section
variable {α:Type} [Rep α]
def OwnT (W:View) (h:Heap) (e:TypeId) (v:Value) (l:List α):Prop:=
 l.length<=140737488355328/\∃xs,xZ h e (Rep.n α) v l.length xs/\∀(i:Nat) (hi:i<l.length),Rep.rd W ((xs.drop (i*Rep.n α)).take (Rep.n α)) l[i]
def SrcT (Ho Hi:View) (u:Value) (l:List α):Prop:=
 ∃a c,u = .slice a l.length c/\(a=Sk->l=[])/\∃news:List Value,news.length=l.length*Rep.n α/\(∀ad,a=Sj ad->∀j x,news[j]? = Sj x->ak Ho (ad.add j)=Sj x)/\
  ∀(i:Nat) (hi:i<l.length),Rep.rd Hi ((news.drop (i*Rep.n α)).take (Rep.n α)) l[i]
theorem OwnT.nil(W:View)(h:Heap)(e:TypeId):OwnT (α:=α) W h e (Sn Sk 0 0) []:=
 ⟨by simp,[],⟨by simp,.inl ⟨rfl,rfl⟩⟩,λi hi=>by simp at hi⟩
variable {W:View} {h h':Heap} {e:TypeId} {v:Value} {l:List α}
theorem OwnT.len (o:OwnT W h e v l) {K:View}:Un.ev K .len v=Sj (Sf Sg l.length):=by
 obtain⟨_,xs,⟨_,hx⟩,_⟩:=o;rcases hx with⟨rfl,hn⟩ | ⟨g,cap,cur,rfl,_⟩
 ·rw[hn];rfl
 rfl
theorem OwnT.mono (o:OwnT W h e v l) {W':View} (hw:W.le W'):OwnT W' h e v l:=
 let ⟨b,xs,h1,h2⟩:=o
 ⟨b,xs,h1,λi hi=>Rep.mono hw (h2 i hi)⟩
theorem OwnT.kept (o:OwnT W h e v l) {b:Option Nat} (k:Kept h h' b) (hb:v.ownBlock=Sk\/v.ownBlock≠b):OwnT W h' e v l:=
 let ⟨bd,xs,h1,h2⟩:=o
 ⟨bd,xs,h1.kept k hb,h2⟩
theorem OwnT.ext(o:OwnT W h e v l)(k:(vw h).le (vw h')):OwnT W h' e v l:=o.kept (tY k) (by cases v.ownBlock<;>simp)
variable{n:Nat}
theorem Ds{xs:List Value}{len:Nat}(hl:xs.length=len*n)(hr : ∀(i:Nat),i<len->∀u∈(xs.drop (i*n)).take n,u.oneCell'=Sq): ∀u∈xs,u.oneCell'=true:=by
 intro u hu;obtain⟨j,hj,rfl⟩:=OU hu;have hn:0<n:=by
  rcases Pv n with h | h
  ·subst h;simp at hl;subst hl;simp at hj
  exact h
 have hlt:j / n<len:=by rw[Nat.div_lt_iff_lt_mul hn];omega
 refine hr (j / n) hlt _ ?_;have hm:=Nat.mod_lt j hn;have hd:=Nat.div_add_mod j n;have:((xs.drop (j / n*n)).take n)[j % n]? = Sj xs[j]:=by
  rw[PO,if_pos hm,QF];have:j / n*n+j % n=j:=by rw[Nat.mul_comm];exact hd
  rw[this];exact Pk hj
 exact Ps this
theorem Fi{xs ys:List Value}{a i:Nat}(hx:xs.length=a*n):((xs++ys).drop (i*n)).take n=if i<a then(xs.drop (i*n)).take n else(ys.drop ((i-a)*n)).take n:=by
 split
 ·rename_i h;have h1:i*n+n<=a*n:=by rw[<-Nat.succ_mul];exact O4 _ h
  rw[PF S0,Pt S7]
 rename_i h;have h1:a*n<=i*n:=O4 _ S0;have h2:(i-a)*n=i*n-a*n:=Nat.sub_mul ..;rw[Qz,Pq S0,Pz,hx,h2]
variable{P:Program}{ty:TypeId}{bytes:Nat}{y:Operand}{us:List (Nat × Value)}{K:Value->Heap->Prop}
theorem dB{t:TypeId}{z:Value}{x:Operand}{u:Value}{l2:List α}(hT:ef P t e (Rep.n α) bytes z)(hx:asg us x=v)(hy:asg us y=u)(ho:OwnT W h e v l)(hs:SrcT (vw h) W u l2)(hb:(l.length+l2.length)*bytes<=140737488355328)(hb2:l.length+l2.length<=140737488355328)(hk : ∀v' h',OwnT W h' e v' (l++l2)->lh h h' v v'->K v' h'):step P (.call ⟨.builtin .append,#[x,y],#[t,t]⟩) ty us h K:=by
 obtain⟨hbd,xs,h1,h2⟩:=ho;obtain⟨a,c,rfl,hnil,news,h3,h4,h5⟩:=hs;refine cI (cf λw hw=>?_);subst hw;have hflat : ∀u∈news,u.oneCell'=true:=Ds h3 λi hi=>Rep.flat (h5 i hi);obtain⟨v',w',g1,g2,g3,g4,g5⟩:=Dg hT (ty:=ty) h1 h3 (λad ha j u hu=>h4 ad ha j u hu) (c:=c) (λha=>by rw[hnil ha];rfl) hflat hb hb2;refine⟨v',w',?_,g2,hk v' w'.heap ⟨by simpa using hb2,xs++news,by simpa using g3,λi hi=>?_⟩ ⟨g4,g5⟩⟩
 ·simp only[bI,execOp];simp[resolve,invoke,builtin,hx,hy,g1]
 rw[Fi h1.1];split
 ·rename_i hlt;rw[Qr hlt];exact h2 i hlt
 rename_i hge;rw[QU S0];exact h5 (i-l.length) (by simp at hi;omega)
variable{H:View}
theorem SlRd.src{K:View}(s:SlRd H v l)(hk:H.le K):SrcT K H v l:=by
 obtain⟨a,cap,rfl,h1,h2,h3⟩:=s;rcases h3 with rfl | ⟨ad,rfl,hs,hat⟩
 ·exact⟨a,cap,rfl,λ_=>rfl,[],by simp,λ_ _ j x hx=>by simp at hx,λi hi=>by simp at hi⟩
 refine⟨Sj ad,cap,rfl,(λh=>by cases h),?_⟩;cases hl:l with
 | nil=>exact⟨[],by simp,λ_ _ j x hx=>by simp at hx,λi hi=>by simp at hi⟩
 | cons d0 l0=>
  rw[<-hl];have hpos:0<l.length:=by rw[hl];simp
  obtain⟨cs0,⟨c,T,fz,_,hb,_⟩,_⟩:=hat 0 hpos;have hblk:H ad.block=Sj (.cells c T fz):=by rw[bM hs]at hb;exact hb
  have hcs : ∀(i:Nat) (hi:i<l.length),Rep.rd H ((c.toList.drop (ad.off+i*Rep.n α)).take (Rep.n α)) l[i]:=by intro i hi;obtain⟨cs,⟨c',T',fz',_,hb',he⟩,hr⟩:=hat i hi;rw[bM hs]at hb' he;simp only at hb' he;rw[hblk]at hb';cases hb';rw[Rep.len hr]at he;rw[he];exact hr
  have htot:ad.off+l.length*Rep.n α<=c.toList.length:=by
   have:=Rep.len (hcs (l.length-1) S0);have hn:=Rep.pos (α:=α);simp only[Pp,Pl]at this;have e1:l.length*Rep.n α=(l.length-1)*Rep.n α+Rep.n α:=by rw[<-Nat.succ_mul];congr 1;omega
   omega
  refine⟨(c.toList.drop ad.off).take (l.length*Rep.n α),?_,?_,?_⟩
  ·simp only[Pp,Pl];omega
  ·intro ad' e j x hx;cases e;have hj:j<l.length*Rep.n α:=by
    rcases OD j (l.length*Rep.n α)with h | h
    ·exact h
    rw[O9 S7]at hx;cases hx
   rw[PO,if_pos hj,QF]at hx;rw[bM hs];simp only[ak,hk _ _ hblk];simpa using hx
  intro i hi;have h1:i*Rep.n α+Rep.n α<=l.length*Rep.n α:=by rw[<-Nat.succ_mul];exact O4 _ hi
  rw[PU,PV,Qu,PK S0];exact hcs i hi
variable{V:View}
theorem OwnT.rd(o:OwnT W h e v l)(hw:W.le V)(hv : ∀b,v.ownBlock=Sj b->V b=h[b]?):SlRd V v l:=by
 obtain⟨hbd,xs,⟨hx,hown⟩,hel⟩:=o;rcases hown with⟨rfl,hn⟩ | ⟨g,cap,cur,rfl,hg,h1,h2,h3,h4⟩
 ·have:l=[]:=OV hn;subst this;exact⟨Sk,0,rfl,by simp,by simp,.inl rfl⟩
 refine⟨Sj ⟨g,0,Sk⟩,cap,rfl,h1,hbd,.inr ⟨_,rfl,rfl,λi hi=>?_⟩⟩;refine⟨(xs.drop (i*Rep.n α)).take (Rep.n α),⟨cur,e,(0,0),?_,?_,?_⟩,Rep.mono hw (hel i hi)⟩
 ·rw[bM rfl]
 ·rw[bM rfl];rw[hv g rfl];exact hg
 rw[bM rfl,Rep.len (hel i hi)];have hle:i*Rep.n α+Rep.n α<=l.length*Rep.n α:=by rw[<-Nat.succ_mul];exact O4 _ hi
 rw[<-h4,PU,PV];simp only[PN];rw[PK S0]
theorem OwnT.fresh {h0:Heap} (o:OwnT W h e v l) (hW:W.le (fresh h0 h)) (ha:Av (vw h0) v):SlRd (Lft.fresh h0 h) v l:=by
 refine o.rd hW λb hb=>?_;have:=ha b hb;simp only[vw]at this;have hge:h0.size<=b:=by
  rcases OD b h0.size with h | h
  ·simp[h]at this
  exact h
 simp only[Lft.fresh,if_neg (R8.2 hge)]
theorem nj{t:TypeId}{z:Value}{x:Operand}{u:Value}{d:α}(hT:ef P t e (Rep.n α) bytes z)(hx:asg us x=u)(hr:Rd W u d)(hk : ∀u' h',SrcT (vw h') W u' [d]->(vw h).le (vw h')->h'.size=h.size+1->K u' h'):step P (.buildSlice t 1 #[(0,x)]) ty us h K:=by
 have hTT:=hT;obtain⟨ht,⟨i,hi,hz,hsize,hby⟩,hzs,hsz,hsmall⟩:=hT;have hcells:Rep.rd W u.cells.toList d/\u.cells.size=Rep.n α:=by
  unfold Rd at hr;split at hr
  ·obtain⟨cs,rfl,h⟩:=hr;exact⟨h,by rw[<-Rep.len h];rfl⟩
  rename_i ha;have hone:=Rep.one (α:=α) (by simpa using ha);have hfl:=Rep.flat hr u Sa;have:u.cells = #[u]:=by cases u<;>first | rfl | simp[Value.oneCell']at hfl
  rw[this];exact⟨by simpa using hr,by simp[hone]⟩
 have hfill:Instr.fill (λj=>Sj (j*Rep.n α,Rep.n α)) ((Array.range (1*Rep.n α)).map (z.cells[· % z.cells.size]!)) [(0,u)]=Sj u.cells:=by
  have hlen : ∀(A:Array Value) (cs:Array Value),A.size=cs.size->cs.zipIdx.foldl (λcs' (p:Value × Nat)=>cs'.setIfInBounds (0+p.2) p.1) A=cs:=by
   intro A cs hA;have key : ∀(l:List Value) (k:Nat) (B:Array Value),B.size=k+l.length->((l.zipIdx k).foldl (λcs' (p:Value × Nat)=>cs'.setIfInBounds (0+p.2) p.1) B).toList=B.toList.take k++l:=by
    intro l;induction l with
    | nil=>intro k B hB;simp at hB;simp only[List.zipIdx_nil,List.foldl_nil,Qj];rw[OK (by simp[hB])]
    | cons y l ih=>
     intro k B hB;simp only[Rq,O3];rw[ih (k+1) _ (by simp at hB ⊢;omega)];simp only[PN,RE];have hk:k<B.toList.length:=by simp at hB ⊢;omega
     rw[OS (by simpa using hk)];simp[Ry]
   rw[<-Array.toList_inj,<-Array.foldl_toList,Array.toList_zipIdx];have:=key cs.toList 0 A (by simpa using hA);simpa using this
  simp only[Instr.fill,QS,PN,Array.size_map,Array.size_range,RP,hcells.2,ne_eq,not_true,decide_false,R7,gt_iff_lt,Nat.lt_irrefl];simp only[PI,if_false];congr 1;have:=hlen ((Array.range (Rep.n α)).map (z.cells[· % z.cells.size]!)) u.cells (by simp[hcells.2]);simpa using this
 refine oU ht hi hz hsize S0 (vs:=[(0,u)]) (by simp[hx]) hfill (hk _ _ ?_ (bP _ _) Sa);refine⟨Sj ⟨h.size,0,Sk⟩,1,rfl,(λh=>by cases h),u.cells.toList,by simp[hcells.2],?_,?_⟩
 ·intro ad e j x hx;cases e;rw[bM rfl];simp only[ak,vw,QX];simpa using hx
 intro i hi';simp only[Py,Q0,PN,Nat.lt_one_iff]at hi';subst hi';have:(u.cells.toList.take (Rep.n α))=u.cells.toList:=by rw[OK];simp[hcells.2]
 simpa[this]using hcells.1
theorem og{t:TypeId}{z:Value}{x:Operand}{k:IntKind}{d:α}(hT:ef P t e (Rep.n α) bytes z)(hx:asg us x = .int k n)(hy:asg us y = .int k n)(hr:Rep.rd W z.cells.toList d)(hb:bytes*n<=140737488355328)(hb2:n<=140737488355328)(hk : ∀v' h',OwnT W h' e v' (List.replicate n d)->lh h h' (Sn Sk 0 0) v'->(vw h).le (vw h')->v'.ownBlock=Sj h.size->K v' h'):step P (.makeSlice t x y) ty us h K:=by
 obtain⟨ht,⟨i,hi,hz,hsize,hby⟩,hzs,hsz,hsmall⟩:=hT;refine cI (cf λw hw=>?_);subst hw;have hrun:=run_make (P:=P) w t e i z ht hi hz k k (n:Int) (n:Int) S0 (O5 _) (by
  rw[hby];have:((bytes*n:Nat):Int)<=281474976710656:=by omega
  rwa [Int.natCast_mul]at this) S0;simp only[OR]at hrun;refine⟨Sn (Sj ⟨w.heap.size,0,Sk⟩) n n,w.alloc (.cells (madeCells z.cells (n*i.size)) e),?_,iB _ _,hk _ _ ?_ ⟨Kept.push _ _ _,.inr rfl⟩ (bP _ _) rfl⟩
 ·simp only[bI,execOp,hx,hy];simp[hrun]
 refine⟨by simpa using hb2,((madeCells z.cells (n*Rep.n α)).toList.take (n*Rep.n α)),⟨by simp[size_madeCells],.inr ⟨w.heap.size,n,madeCells z.cells (n*Rep.n α),by simp,?_,by simp,by simp only[maxLen];omega,by simp[size_madeCells],by simp⟩⟩,?_⟩
 ·rw[hsize];exact heap_alloc_new w _
 intro j hj;simp only[Pn]at hj;have he:((((madeCells z.cells (n*Rep.n α)).toList.take (n*Rep.n α)).drop (j*Rep.n α)).take (Rep.n α))=z.cells.toList:=by
  have h1:j*Rep.n α+Rep.n α<=n*Rep.n α:=by rw[<-Nat.succ_mul];exact O4 _ hj
  refine PR ?_ λm hm1 hm2=>?_
  ·simp[size_madeCells,hzs];omega
  simp only[Pp,Pl]at hm1;simp only[RN,Q8,madeCells,Array.toList_map,RU,Array.toList_range,List.getElem_range];have hm:m<z.cells.size:=by simpa using hm2
  have hmod:(j*Rep.n α+m) % z.cells.size=m:=by rw[hzs,Nat.mul_comm,Nat.mul_add_mod];exact Nat.mod_eq_of_lt S0
  rw[hmod];simp[hm]
 rw[he];simpa using hr
theorem ud{t:TypeId}{x:Operand}{i:Nat}{u:Value}{d:α}(hsz:cO P t=Sj (Rep.n α))(hx:asg us x = Sp (Sj ((slA v).add (i*Rep.n α))))(hy:asg us y=u)(ho:OwnT W h e v l)(hi:i<l.length)(hr:Rd W u d)(hk : ∀h',OwnT W h' e v (l.set i d)->lh h h' v v->K undef h'):step P (.store t x y) ty us h K:=by
 have hcells:Rep.rd W u.cells.toList d/\u.cells.size=Rep.n α:=by
  unfold Rd at hr;split at hr
  ·obtain⟨cs,rfl,h⟩:=hr;exact⟨h,by rw[<-Rep.len h];rfl⟩
  rename_i ha;have hone:=Rep.one (α:=α) (by simpa using ha);have hfl:=Rep.flat hr u Sa;have:u.cells = #[u]:=by cases u<;>first | rfl | simp[Value.oneCell']at hfl
  rw[this];exact⟨by simpa using hr,by simp[hone]⟩
 obtain⟨hbd,xs,⟨hxl,hown⟩,hel⟩:=ho;refine cI (qw λw hw=>?_);subst hw;rcases hown with⟨rfl,hn⟩ | ⟨g,cap,cur,rfl,hg,h1,h2,h3,h4⟩
 ·omega
 have hle:i*Rep.n α+Rep.n α<=l.length*Rep.n α:=by rw[<-Nat.succ_mul];exact O4 _ hi
 have hcap:l.length*Rep.n α<=cap*Rep.n α:=O4 _ h1;have hlen:u.cells.toList.length=Rep.n α:=by simpa using hcells.2
 have hrun:=run_storeCells_at P g (i*Rep.n α) e u.cells.toList 0 cur w hg (by simp only[Nat.add_zero];omega) (λc hc=>Rep.flat hcells.1 c hc);have hadd:(slA (Sn (Sj ⟨g,0,Sk⟩) l.length cap)).add (i*Rep.n α)=⟨g,i*Rep.n α,Sk⟩:=by show(⟨g,0,Sk⟩:Addr).add _=_;rw[bM rfl];simp
 have hszr:=run_sizeOf (P:=P) (w:=w) hsz;obtain⟨row,hrow⟩ : ∃row:Array Value,row.toList=cur.toList.take (i*Rep.n α)++u.cells.toList++cur.toList.drop (i*Rep.n α+Rep.n α):=⟨(cur.toList.take (i*Rep.n α)++u.cells.toList++cur.toList.drop (i*Rep.n α+Rep.n α)).toArray,rfl⟩;have hrun':Sem.run P (storeCells ⟨g,i*Rep.n α,Sk⟩ u.cells.toList) w = .ok () (w.setRow g row):=by rw[hrun];congr 2;rw[<-Array.toList_inj,hrow,hlen];rfl
 have hrsz:row.size=cap*Rep.n α:=by have:=congrArg List.length hrow;simp only[Qs,OI,Pp,Pl,hcells.2]at this;omega
 refine⟨w.setRow g row,?_,Same.rM rfl rfl rfl Sa hg Sa (λk _ hne=>setRow_other w g k _ (λe=>hne e)),hk (w.setRow g row).heap ⟨by simpa using hbd,xs.take (i*Rep.n α)++u.cells.toList++xs.drop (i*Rep.n α+Rep.n α),⟨?_,.inr ⟨g,cap,row,by simp,setRow_heap w g cur row e _ hg,by simpa using h1,h2,?_,?_⟩⟩,?_⟩ ⟨⟨by simp,λk hk hne=>setRow_other w g k _ (λe=>hne (by simp[Value.ownBlock,e]))⟩,.inl rfl⟩⟩
 ·simp only[bI,execOp,hx,hy,hadd];simp[Instr.storeAt,Instr.sureAddr,storeVar,hszr,hcells.2,hrun']
 ·simp only[OI,Pp,Pl,hlen,O2];omega
 ·exact hrsz
 ·simp only[O2];rw[hrow,<-h4,PV,PK S0,ON,ON];have e1:(cur.toList.take (i*Rep.n α)).length=i*Rep.n α:=by simp;omega
  rw[PY,e1,OK S0];congr 1;rw[PY,hlen,OK S0];congr 1;rw[PU];congr 1;omega
 intro j hj;simp only[O2]at hj;have hjle:j*Rep.n α+Rep.n α<=l.length*Rep.n α:=by rw[<-Nat.succ_mul];exact O4 _ hj
 have e1:(xs.take (i*Rep.n α)).length=i*Rep.n α:=by simp;omega
 by_cases hij:i=j
 ·subst hij;rw[ON,Qz,e1,Pq S0,Pz,RA,P7,Pt S0,OK S0];simpa using hcells.1
 have hset:(l.set i d)[j]'(by simpa using hj)=l[j]:=by simp[hij]
 rw[hset];have:((xs.take (i*Rep.n α)++u.cells.toList++xs.drop (i*Rep.n α+Rep.n α)).drop (j*Rep.n α)).take (Rep.n α)=(xs.drop (j*Rep.n α)).take (Rep.n α):=by
  rcases OD j i with hlt | hge
  ·have h5:j*Rep.n α+Rep.n α<=i*Rep.n α:=by rw[<-Nat.succ_mul];exact O4 _ hlt
   rw[ON,PF S0,Pt S7,PU,PV,PK S0]
  have h5:i*Rep.n α+Rep.n α<=j*Rep.n α:=by rw[<-Nat.succ_mul];exact O4 _ S0
  have e2:(xs.take (i*Rep.n α)++u.cells.toList).length=i*Rep.n α+Rep.n α:=by rw[OI,e1,hlen]
  rw[Qz,Pq S0,Pz,e2,Qu];congr 2;omega
 rw[this];exact hel j hj
end
end
section
variable {po po2 po3:OP} {pp:PP}
def up {β:Type} (f:Nat->β->β):Nat->β->β
 | 0,x=>x
 | k+1,x=>f k (up f k x)
def Old (V:View) (h0:Heap) (W:View):Prop:=∀b o,b<h0.size->W b=Sj o->V b=Sj o
theorem Old.refl(V:View)(h0:Heap):Old V h0 V:=λ_ _ _ h=>h
theorem Old.nothing (V:View) (h0:Heap):Old V h0 nothing:=λ_ _ _ h=>by cases h
theorem Old.grow {V W:View} {h0 h1 h2:Heap} (o:Old V h0 W) (hs:h0.size<=h1.size):Old V h0 (grow W h1 h2):=λb x hb hx=>by unfold Lft.grow at hx;rw[if_pos S0]at hx;exact o b x hb hx
theorem Old.le {V W:View} {h0 h:Heap} (o:Old V h0 W) (hw:W.le (vw h)):W.le (Lft.grow V h0 h):=λb x hx=>by
 unfold Lft.grow;split
 ·exact o b x (by assumption) hx
 exact hw b x hx
variable{H:View}
@[simp] theorem bK:nothing.le H:=λ_ _ h=>by cases h
theorem Ic(h h':Heap):fresh h h'=Lft.grow nothing h h':=by funext b;unfold fresh Lft.grow;rfl
section
variable {α:Type} [Rep α] {V W:View} {h0 h h':Heap} {e:TypeId} {v:Value} {l:List α}
theorem OwnT.lt(o:OwnT W h e v l){b:Nat}(hb:v.ownBlock=Sj b):b<h.size:=by
 obtain⟨_,xs,⟨_,hown⟩,_⟩:=o;rcases hown with⟨rfl,_⟩ | ⟨g,cap,cur,rfl,hg,_⟩
 ·simp[Value.ownBlock]at hb
 simp only[Value.ownBlock,Ow]at hb;subst hb;exact(OJ.1 hg).1
theorem OwnT.now(o:OwnT W h e v l)(hw:W.le (vw h)):SlRd (vw h) v l:=o.rd hw λ_ _=>rfl
theorem OwnT.grown(o:OwnT W h e v l)(hw:W.le (vw h))(ho:Old V h0 W)(ha:Av (vw h0) v):SlRd (Lft.grow V h0 h) v l:=by
 refine o.rd (ho.le hw) λb hb=>?_;have:=ha b hb;simp only[vw]at this;have hge:h0.size<=b:=by
  rcases OD b h0.size with h | h
  ·simp[h]at this
  exact h
 simp only[Lft.grow,if_neg (R8.2 hge)]
theorem Av.grow (ha:Av W v) (hl : ∀b,v.ownBlock=Sj b->b<h.size):Av (Lft.grow W h h') v:=λb hb=>by unfold Lft.grow;rw[if_pos (hl b hb)];exact ha b hb
structure Mine (V:View) (h0 h:Heap) (W:View) (e:TypeId) (v:Value) (l:List α):Prop where
 old:(vw h0).le (vw h)
 wle:W.le (vw h)
 av:Av W v
 av0:Av (vw h0) v
 agree:Old V h0 W
 own:OwnT W h e v l
theorem Mine.start(hV:V.le (vw h)):Mine (α:=α) V h h V e (Sn Sk 0 0) []:=
 ⟨View.le_refl _,hV,Av.nil _ _ _,Av.nil _ _ _,Old.refl _ _,OwnT.nil ..⟩
theorem Mine.ext (m:Mine V h0 h W e v l) (k:(vw h).le (vw h')):Mine V h0 h' (Lft.grow W h h') e v l:=
 ⟨Sc m.old k,jM (Sc m.wle k),m.av.grow λ_ hb=>m.own.lt hb,m.av0,m.agree.grow (cm m.old),(m.own.ext k).mono (bZ m.wle)⟩
theorem Mine.ext'(m:Mine V h0 h W e v l)(k:(vw h).le (vw h')):Mine V h0 h' W e v l:=
 ⟨Sc m.old k,Sc m.wle k,m.av,m.av0,m.agree,m.own.ext k⟩
theorem Mine.result(m:Mine V h0 h W e v l):SlRd (Lft.grow V h0 h) v l:=m.own.grown m.wle m.agree m.av0
theorem Mine.fresh (m:Mine nothing h0 h W e v l):SlRd (Lft.fresh h0 h) v l:=by rw[Ic];exact m.result
theorem Mine.now (m:Mine V h0 h W e v l):SlRd (vw h) v l:=m.own.now m.wle
theorem Mine.jC{v':Value}{l':List α}(m:Mine V h0 h W e v l)(o:OwnT W h' e v' l')(k:lh h h' v v'):Mine V h0 h' W e v' l':=
 let ⟨a1,a2⟩:=k.view m.wle m.av
 let ⟨b1,b2⟩:=k.view m.old m.av0
 ⟨b1,a1,a2,b2,m.agree,o⟩
variable{P:Program}{ty ty2:TypeId}{bytes:Nat}{y:Operand}{us:List (Nat × Value)}{us2:Value->List (Nat × Value)}
theorem Mine.push{t:TypeId}{z:Value}{x y2:Operand}{u:Value}{d:α}{K:Value->Value->Heap->Prop}(m:Mine V h0 h W e v l)(hT:ef P t e (Rep.n α) bytes z)(hx:asg us x=u)(hr:Rd W u d)(hb:(l.length+1)*bytes<=140737488355328)(hb2:l.length+1<=140737488355328)(hy : ∀u,asg (us2 u) y=v)(hy2 : ∀u,asg (us2 u) y2=u)(hk : ∀u v' h',Mine V h0 h' W e v' (l++[d])->K u v' h'):
  @step po P (.buildSlice t 1 #[(0,x)]) ty us h λu h2=>@step po2 P (.call ⟨.builtin .append,#[y,y2],#[t,t]⟩) ty2 (us2 u) h2 λv' h3=>K u v' h3:=by refine nj hT hx hr λu h2 hs hle _=>?_;have m2:=m.ext' hle;exact dB hT (hy u) (hy2 u) m2.own hs hb hb2 λv' h3 ho hm=>hk u v' h3 (m2.jC ho hm)
variable{n:Nat}{K:Value->Heap->Prop}
theorem Mine.made{t:TypeId}{z:Value}{x:Operand}{k:IntKind}{d:α}(hT:ef P t e (Rep.n α) bytes z)(hle:(vw h0).le (vw h))(hW:W.le (vw h))(ho:Old V h0 W)(hx:asg us x = .int k n)(hy:asg us y = .int k n)(hr:Rep.rd W z.cells.toList d)(hb:bytes*n<=140737488355328)(hb2:n<=140737488355328)(hk : ∀v' h',Mine V h0 h' W e v' (List.replicate n d)->(vw h).le (vw h')->v'.ownBlock=Sj h.size->K v' h'):step P (.makeSlice t x y) ty us h K:=
 og hT hx hy hr hb hb2 λv' h' ow mv le hb=>hk v' h' ⟨Sc hle le,Sc hW le,λb hb'=>by rw[hb]at hb';cases hb';exact View.cA hW (OA _),λb hb'=>by rw[hb]at hb';cases hb';exact View.cA hle (OA _),ho,ow⟩ le hb
theorem Mine.put{t:TypeId}{x:Operand}{i:Nat}{u:Value}{d:α}(m:Mine V h0 h W e v l)(hsz:cO P t=Sj (Rep.n α))(hx:asg us x = Sp (Sj ((slA v).add (i*Rep.n α))))(hy:asg us y=u)(hi:i<l.length)(hr:Rd W u d)(hk : ∀h',Mine V h0 h' W e v (l.set i d)->K undef h'):step P (.store t x y) ty us h K:=
 ud hsz hx hy m.own hi hr λh' ho hm=>hk h' (m.jC ho hm)
theorem Mine.put1{t:TypeId}{x:Operand}{i:Nat}{u:Value}{d:α}(m:Mine V h0 h W e v l)(hsz:cO P t=Sj (Rep.n α))(hn:Rep.n α=1)(hx:asg us x = Sp (Sj ((slA v).add i)))(hy:asg us y=u)(hi:i<l.length)(hr:Rd W u d)(hk : ∀h',Mine V h0 h' W e v (l.set i d)->K undef h'):step P (.store t x y) ty us h K:=
 m.put hsz (i:=i) (by rw[hn,Px];exact hx) hy hi hr hk
end
variable{β:Type}
theorem FE{f:Nat->List β->List β}{m:Nat}(hf : ∀k x,(f k x).length<=x.length+m)(n:Nat)(x:List β):(up f n x).length<=x.length+n*m:=by
 induction n with
 | zero=>simp[up]
 | succ n ih=>have:=hf n (up f n x);rw[up,PC];omega
def sift {β:Type} (p:Nat->Bool) (x:Nat->β) (n:Nat):List β:=up (λb l=>if p b then l++[x b] else l) n []
theorem nX{p:Nat->Bool}{x:Nat->β}(n:Nat):(sift p x n).length<=n:=by have:=FE (f:=λb l=>if p b then l++[x b] else l) (m:=1) (λk x=>by split<;>simp) n [];simpa[sift]using this
variable{n:Nat}
theorem nA{p:Nat->Bool}{x:Nat->β}(h:p n=Sq):sift p x (n+1)=sift p x n++[x n]:=by rw[sift,up,if_pos h];rfl
theorem mL{p:Nat->Bool}{x:Nat->β}(h:p n=Sr):sift p x (n+1)=sift p x n:=by rw[sift,up,if_neg (by simp[h])];rfl
def rows {β:Type} (x:Nat->β) (n:Nat):List β:=(List.range n).map x
theorem eY{x:Nat->β}:rows x (n+1)=rows x n++[x n]:=by simp[rows,QJ]
@[simp] theorem nK{x:Nat->β}:(rows x n).length=n:=by simp[rows]
@[simp] theorem Ms{x:Nat->β}:rows x 0=[]:=rfl
@[simp] theorem Mz{p:Nat->Bool}{x:Nat->β}:sift p x 0=[]:=rfl
theorem qu{p:Nat->Bool}{x:Nat->β}:sift p x n=((List.range n).filter p).map x:=by
 induction n with
 | zero=>rfl
 | succ n ih=>
  rw[QJ,RF,P2,<-ih];cases h:p n with
  | true=>rw[nA h];simp[h]
  | false=>rw[mL h];simp[h]
theorem xD{x:Nat->β}{d:β}{k:Nat}(hk:k<n):(rows x k++List.replicate (n-k) d).set k (x k)=rows x (k+1)++List.replicate (n-(k+1)) d:=by
 have e:n-k=(n-(k+1))+1:=by omega
 rw[List.set_append_right _ _ Sa,nK,RA,e,List.replicate_succ,List.set_cons_zero,eY,ON];rfl
theorem fE[Inhabited β]{x:Nat->β}{i:Nat}(h:i<n):nth (rows x n) i=x i:=by rw[ay (by simpa using h)];simp[rows]
theorem xk{h h1 h2:Heap}(hle:(vw h).le (vw h1)):(fresh h1 h2).le (fresh h h2):=λb o hb=>by
 have:=cm hle;unfold fresh at hb ⊢;split at hb
 ·cases hb
 rw[if_neg S0];exact hb
variable{P:Program}{size bytes:Nat}
theorem fZ{t e:Nat}{z:Value}(ht:P.underlying t=Sj (.slice e))(h:(P.info? e).map (λi=>(i.zero,i.size,i.bytes))=Sj (Sj z,size,bytes))(hz:z.cells.size=size)(hs:0<size/\size<=1000):ef P t e size bytes z:=by simp only[OH,PZ]at h;obtain⟨i,h1,h2,h3,h4⟩:=h;exact⟨ht,⟨i,h1,h2,h3,h4⟩,hz,hs.1,hs.2⟩
theorem px{a:Int}(h0:-9223372036854775808<=a)(h1:a<=9223372036854775807):Rd H (Sf Sg a) a:=bO.2 ⟨rfl,h0,h1⟩
variable{b:Bool}
theorem KU:Rd H (.bool b) b:=wc.2 rfl
end
section
variable {po:OP} {pp:PP}
variable{ρ:Env}
theorem ah{ts:List Nat}{u:Nat}:look (bX ρ ts) u=if ts.contains u then Sk else look ρ u:=by
 induction ρ with
 | nil=>simp
 | cons p ρ ih=>
  obtain⟨k,x⟩:=p;rw[mD];by_cases hk:ts.contains k=Sq
  ·simp only[hk,if_true,ih,uG];split
   ·rfl
   rename_i h;split
   ·rename_i e;subst e;exact absurd hk h
   rfl
  rw[if_neg hk,uG,uG,ih];by_cases h1:k=u
  ·subst h1;rw[if_pos rfl,if_pos rfl,if_neg hk]
  rw[if_neg h1,if_neg h1]
theorem nL {ρ ρ':Env} : ∀{ks:List Nat},(∀t∈ks,look ρ t=look ρ' t)->bQ ks ρ=bQ ks ρ'
 | [],_=>rfl
 | k::ks,h=>by have ih:bQ ks ρ=bQ ks ρ':=nL λt ht=>h t (OL _ ht);simp only[bQ,h k OM,ih]
theorem mg{ts:List Nat}(h : ∀p∈ρ,ts.contains p.1=Sr):bX ρ ts=ρ:=by
 induction ρ with
 | nil=>rfl
 | cons p ρ ih=>obtain⟨k,x⟩:=p;have h1:=h (k,x) OM;simp only at h1;rw[mD,h1,if_neg Sa,ih (λp hp=>h p (OL _ hp))]
theorem mJ{t:Nat}{v:Value}(h : ∀p∈ρ,p.1≠t):bX (setE ρ t v) [t]=ρ:=by
 have hid:bX ρ [t]=ρ:=mg λp hp=>by simpa using λe=>h p hp e
 induction ρ with
 | nil=>simp[setE]
 | cons p ρ ih=>
  obtain⟨k,x⟩:=p;have hk:=h (k,x) OM;simp only at hk;have hid2:bX ρ [t]=ρ:=mg λp hp=>by simpa using λe=>h p (OL _ hp) e
  simp only[setE,if_neg hk];split
  ·rw[mD,if_pos Sa,hid]
  rw[mD,if_neg (by simpa using hk),ih (λp hp=>h p (OL _ hp)) hid2]
theorem mP{X Y:Env->Heap->Prop}{R:Post}:fj X (fj Y R)=fj X R:=by funext e ρ h;cases e<;>rfl
abbrev forL (a i c:Nat) (ks ks2:List Nat) (bound:E) (body:LC):LC:=
 .loop (.seq (.seq (.reg Sr (.fin ks [(c,.bin (.cmp .lss) (.tmp i) bound)] [])) (.cond (.tmp c) [c] .skip (.exit a)))
  (.seq body (.reg Sr (.fin ks2 [(i,.bin (.arith .add) (.tmp i) (.con (Sf Sg 1)))] []))))
def uP (kp ks ks2:List Nat) (c i:Nat):Bool:=kp.all λt=>!ks.contains t&&t != c&&(t == i||!ks2.contains t)
theorem zip_fst{kp:List Nat}{vs:List Value}{p:Nat × Value}(h:p∈kp.zip vs):p.1∈kp:=(List.of_mem_zip h).1
variable{P:Program}{Q:Post}{body:LC}
theorem cW{h:Heap}{a i c:Nat}{ks ks2:List Nat}{bound:E}{σ:Type}(kp:List Nat)(vals:σ->Nat->List Value)(J:σ->Nat->Heap->Prop)(n:Nat)(s0:σ)(hok:uP kp ks ks2 c i=Sq)(hn:n<=9223372036854775806)(h0:bQ kp ρ=kp.zip (vals s0 0))(hj:J s0 0 h)(hi : ∀s k,look (kp.zip (vals s k)) i=Sj (Sf Sg k))(hb : ∀s k h,k<=n->J s k h->ev (look (kp.zip (vals s k))) (vw h) bound=Sj (Sf Sg n))(round : ∀s k h,k<n->J s k h->∀K:Env->Heap->Prop,(∀s' ρ' h',look ρ' i=Sj (Sf Sg k)->bQ kp (setE ρ' i (Sf Sg ((k:Int)+1)))=kp.zip (vals s' (k+1))->J s' (k+1) h'->K ρ' h')->body.wp P (fj K (ff a Q)) (kp.zip (vals s k)) h)(done : ∀s h,J s n h->Q .normal (kp.zip (vals s n)) h):LC.wp P (forL a i c ks ks2 bound body) (ff a Q) ρ h:=by
 simp only[uP,Po,OG,P1,bne_iff_ne,PA,beq_iff_eq,ne_eq]at hok;refine ja kp (λm ρ h=>∃s k,k<=n/\ρ=kp.zip (vals s k)/\m=n-k/\J s k h) n ⟨s0,0,by omega,h0,by omega,hj⟩ ?_;rintro m ρ h ⟨s,k,hk,rfl,rfl,hJ⟩ K hK;have hkill:bX (kp.zip (vals s k)) ks=kp.zip (vals s k):=mg λp hp=>(hok p.1 (zip_fst hp)).1.1;have hne : ∀p∈kp.zip (vals s k),p.1≠c:=λp hp=>(hok p.1 (zip_fst hp)).1.2;have hk2 : ∀v,bX (setE (kp.zip (vals s k)) c v) [c]=kp.zip (vals s k):=λv=>mJ hne;have hlk : ∀v,look (setE (kp.zip (vals s k)) c v) c=Sj v:=λv=>by rw[ag,if_pos rfl]
 simp only[sJ,lN,jz,gP,lf,mM,lU,pK,hi,hb s k h hk hJ,OT,HU,j0,mY,true_and,dd,hkill,fK,lY,hlk,lG,hk2,tp,sO,oD,nY,if_true];refine⟨λhlt=>?_,λhge=>?_⟩
 ·have hlt':k<n:=by omega
  rw[mP];refine round s k h hlt' hJ _ λs' ρ' h' hl he hJ'=>?_;simp only[lN,jz,gP,lf,mM,lU,pK,hl,mY,true_and,OT,zC,OT,zt,j0,dd,fK,true_and];rw[bC S0 S0];refine hK (n-(k+1)) _ _ S0 ⟨s',k+1,by omega,?_,rfl,hJ'⟩;rw[<-he];refine nL λt ht=>?_;rw[ag,ag,ah];split
  ·rfl
  rename_i hti;rcases(hok t ht).2 with e | e
  ·exact absurd e.symm hti
  rw[e];rfl
 have:k=n:=by omega
 subst this;exact done s h hJ
abbrev forR (a i c:Nat) (ks ks2:List Nat) (bound:E) (body:LC):LC:=
 .loop (.seq (.reg Sr (.fin ks [(c,.bin (.cmp .lss) (.tmp i) bound)] [])) (.seq (.cond (.tmp c) [c] .skip (.exit a))
  (.seq body (.reg Sr (.fin ks2 [(i,.bin (.arith .add) (.tmp i) (.con (Sf Sg 1)))] [])))))
theorem aR{h:Heap}{a i c:Nat}{ks ks2:List Nat}{bound:E}{σ:Type}(kp:List Nat)(vals:σ->Nat->List Value)(J:σ->Nat->Heap->Prop)(n:Nat)(s0:σ)(hok:uP kp ks ks2 c i=Sq)(hn:n<=9223372036854775806)(h0:bQ kp ρ=kp.zip (vals s0 0))(hj:J s0 0 h)(hi : ∀s k,look (kp.zip (vals s k)) i=Sj (Sf Sg k))(hb : ∀s k h,k<=n->J s k h->ev (look (kp.zip (vals s k))) (vw h) bound=Sj (Sf Sg n))(round : ∀s k h,k<n->J s k h->∀K:Env->Heap->Prop,(∀s' ρ' h',look ρ' i=Sj (Sf Sg k)->bQ kp (setE ρ' i (Sf Sg ((k:Int)+1)))=kp.zip (vals s' (k+1))->J s' (k+1) h'->K ρ' h')->body.wp P (fj K (ff a Q)) (kp.zip (vals s k)) h)(done : ∀s h,J s n h->Q .normal (kp.zip (vals s n)) h):LC.wp P (forR a i c ks ks2 bound body) (ff a Q) ρ h:=by
 simp only[uP,Po,OG,P1,bne_iff_ne,PA,beq_iff_eq,ne_eq]at hok;refine ja kp (λm ρ h=>∃s k,k<=n/\ρ=kp.zip (vals s k)/\m=n-k/\J s k h) n ⟨s0,0,by omega,h0,by omega,hj⟩ ?_;rintro m ρ h ⟨s,k,hk,rfl,rfl,hJ⟩ K hK;have hkill:bX (kp.zip (vals s k)) ks=kp.zip (vals s k):=mg λp hp=>(hok p.1 (zip_fst hp)).1.1;have hne : ∀p∈kp.zip (vals s k),p.1≠c:=λp hp=>(hok p.1 (zip_fst hp)).1.2;have hk2 : ∀v,bX (setE (kp.zip (vals s k)) c v) [c]=kp.zip (vals s k):=λv=>mJ hne;have hlk : ∀v,look (setE (kp.zip (vals s k)) c v) c=Sj v:=λv=>by rw[ag,if_pos rfl]
 simp only[sJ,lN,jz,gP,lf,mM,lU,pK,hi,hb s k h hk hJ,OT,HU,j0,mY,true_and,dd,hkill,fK,lY,hlk,lG,hk2,tp,sO,oD,nY,if_true];refine⟨λhlt=>?_,λhge=>?_⟩
 ·have hlt':k<n:=by omega
  rw[mP];refine round s k h hlt' hJ _ λs' ρ' h' hl he hJ'=>?_;simp only[lN,jz,gP,lf,mM,lU,pK,hl,mY,true_and,OT,zC,OT,zt,j0,dd,fK,true_and];rw[bC S0 S0];refine hK (n-(k+1)) _ _ S0 ⟨s',k+1,by omega,?_,rfl,hJ'⟩;rw[<-he];refine nL λt ht=>?_;rw[ag,ag,ah];split
  ·rfl
  rename_i hti;rcases(hok t ht).2 with e | e
  ·exact absurd e.symm hti
  rw[e];rfl
 have:k=n:=by omega
 subst this;exact done s h hJ
theorem aO{h:Heap}{r:Reg}(H:View)(hH:H.le (vw h))(hw:eh P (Sj H) r (Q .normal) ρ h):LC.wp P (.reg Sq r) Q ρ h:=⟨H,View.xd hH,jB (λ_ _=>View.xd) hw⟩
theorem Fx{h:Heap}{r:Reg}(H:View)(hH:H.sub (vw h))(hw:cB View.sub P (Sj H) r (Q .normal) ρ h):LC.wp P (.reg Sq r) Q ρ h:=⟨H,hH,hw⟩
end
section
variable {po po2 po3:OP} {pp:PP}
variable{n:Nat}
@[simp] theorem MJ{b o:Nat}:(⟨b,o,Sk⟩:Addr).add n=⟨b,o+n,Sk⟩:=bM rfl n
variable{H:View}
@[simp] theorem Mv{a:Addr}:Un.ev H .nilPtr (Sp (Sj a))=Sj (Sp (Sj a)):=rfl
@[simp] theorem N8{a:Addr}{o:Nat}:Un.ev H (.fld o) (Sp (Sj a))=Sj (Sp (Sj (a.add o))):=rfl
@[simp] theorem NH{k q:IntKind}{a:Int}:Un.ev H (.conv k) (.int q a)=Sj (.int k (k.wrap a)):=rfl
variable{cs:Array Value}
@[simp] theorem NI{o:Nat}:Un.ev H (.part o) (.agg cs)=cs[o]?:=rfl
@[simp] theorem MH{o:Nat}:Un.ev H (.parts o n) (.agg cs)=Sj (.agg (cs.extract o (o+n))):=rfl
@[simp] theorem NW{o:Nat}:Un.ev H (.ext o) (.tuple cs)=cs[o]?:=rfl
def Kv:Value->Value->Option Value
 | .tuple vs,u=>Sj (.tuple (vs.push u))
 | _,_=>Sk
@[simp] theorem Kz{vs:Array Value}{u:Value}:Kv (.tuple vs) u=Sj (.tuple (vs.push u)):=rfl
@[simp] theorem KX{σ:Nat->Option Value}{x y:E}:ev σ H (.snoc x y)=(ev σ H x).bind λv=>(ev σ H y).bind λu=>Kv v u:=by
 simp only[ev];cases hx:ev σ H x with
 | none=>rfl
 | some v=>
  cases hy:ev σ H y with
  | none=>cases v<;>rfl
  | some u=>cases v<;>rfl
@[simp] theorem Od{f:Nat}{vs:Array Value}:Un.ev H (.fn f) (.tuple vs)=Sj (.func (.func f) #[] vs):=rfl
@[simp] theorem MB:(Value.agg cs).cells=cs:=rfl
@[simp] theorem KM{a:Option Addr}{c:Nat}:(Value.slice a n c).cells = #[.slice a n c]:=rfl
@[simp] theorem MA{k:IntKind}{n:Int}:(Sf k n).cells = #[.int k n]:=rfl
variable{b:Bool}
@[simp] theorem Lr:(Value.bool b).cells = #[.bool b]:=rfl
@[simp] theorem Iz{a:Option Addr}:(Value.pointer a).cells = #[.pointer a]:=rfl
def DQ (P:Program) (t:TypeId):Option (List (Nat × Nat)):=
 match P.underlying t with
 | some (.struct fields)=>fields.toList.mapM λf=>(cO P f.type).map λn=>(f.offset,n)
 | some (.array k e)=>(cO P e).map λn=>(List.range k).map λi=>(i*n,n)
 | _=>Sk
section
variable {P:Program} {ty:TypeId} {us:List (Nat × Value)} {h:Heap} {K:Value->Heap->Prop}
theorem y7 {f g:Nat->Option (Nat × Nat)} (hfg : ∀i p,f i=Sj p->g i=Sj p) : ∀{vs:List (Nat × Value)} {c cs:Array Value},Instr.fill f c vs=Sj cs->Instr.fill g c vs=Sj cs
 | [],c,cs,h=>h
 | (i,v)::vs,c,cs,h=>by
  simp only[Instr.fill]at h ⊢;split at h
  ·cases h
  rename_i off size hi;rw[hfg i _ hi];simp only;split at h
  ·cases h
  rename_i hc;rw[if_neg hc];exact y7 hfg h
theorem run_places {w:World} : ∀{fs:List Field} {ps:List (Nat × Nat)},(fs.mapM λf=>(cO P f.type).map λn=>(f.offset,n))=Sj ps->
  (fs.mapM fun(f:Field)=>Prod.mk f.offset <$> sizeOf f.type).run P w=Result.ok ps w
 | [],ps,h=>by simp at h;subst h;simp
 | f::fs,ps,h=>by simp only[R4,Option.bind_eq_bind,OO,OH]at h;obtain⟨p,⟨n,hn,rfl⟩,ps',h2,h3⟩:=h;simp only[Option.pure_def,Ow]at h3;subst h3;have ih:=run_places (w:=w) h2;simp[R4,Sem.run_bind,run_sizeOf hn,ih]
theorem az{t:TypeId}{ps:Array (Nat × Operand)}{vs:List (Nat × Value)}{z:Value}{places:List (Nat × Nat)}(hz:(P.info? t).map (·.zero)=Sj (Sj z))(hpl:DQ P t=Sj places)(hp:ps.map (λp=>(p.1,asg us p.2))=vs.toArray)(hf:Instr.fill (places[·]?) z.cells vs=Sj cs)(hk:K (.agg cs) h):step P (.build t ps) ty us h K:=by
 refine cI (cf λw hw=>⟨.agg cs,w,?_,Same.refl _,by rw[hw];exact hk⟩);have hp':(ps.map λx=>match x with | (i,x)=>(i,asg us x))=vs.toArray:=hp;simp only[OH]at hz;obtain⟨i,hi,hz⟩:=hz;simp only[bI,execOp,hp'];unfold DQ at hpl;split at hpl
 ·rename_i fields hu;have hr:=run_places (P:=P) (w:=w) hpl;have hr2:(fields.mapM fun(f:Field)=>Prod.mk f.offset <$> sizeOf f.type).run P w=Result.ok places.toArray w:=by rw[RM];simp only[Sem.run_map];erw [hr];rfl
  have hf':Instr.fill (places.toArray[·]?) z.cells vs=Sj cs:=by simpa using hf
  simp[Instr.build,zeroValue,typeInfo,hi,hz,run_underlying hu,hr2,hf',hf]
 ·rename_i k e hu;simp only[OH]at hpl;obtain⟨n,hn,rfl⟩:=hpl;have hf':=y7 (g:=λi=>Sj (i*n,n)) (λi p hp=>by
   simp only[Qn,OH]at hp;obtain⟨j,hj,rfl⟩:=hp;rcases OD i k with hlt | hge
   ·rw[List.getElem?_range hlt]at hj;cases hj;rfl
   rw[O9 (by simpa using hge)]at hj;cases hj) hf;simp[Instr.build,zeroValue,typeInfo,hi,hz,run_underlying hu,run_sizeOf hn,hf']
 cases hpl
variable{size bytes:Nat}
theorem tx{t e:TypeId}{z:Value}{ps:Array (Nat × Operand)}{vs:List (Nat × Value)}(hT:ef P t e size bytes z)(hn:n*size<=16777216)(hp:ps.map (λp=>(p.1,asg us p.2))=vs.toArray)(hf:Instr.fill (λj=>Sj (j*size,size)) ((Array.range (n*size)).map (z.cells[· % z.cells.size]!)) vs=Sj cs)(hk:K (Sn (Sj ⟨h.size,0,Sk⟩) n n) (h.push (.cells cs e))):step P (.buildSlice t n ps) ty us h K:=by obtain⟨ht,⟨i,hi,hz,hsize,hby⟩,_⟩:=hT;exact oU ht hi hz hsize hn hp hf hk
theorem dC{t:TypeId}{z:Value}(hz:(P.info? t).map (·.zero)=Sj (Sj z))(hk:K (ptz h.size) (h.push (.cells z.cells t))):step P (.alloc t) ty us h K:=by simp only[OH]at hz;obtain⟨i,hi,hz⟩:=hz;refine cI (cf λw hw=>?_);subst hw;refine⟨_,w.alloc (.cells z.cells t),?_,iB _ _,hk⟩;simp only[bI,execOp];simp[Instr.alloc,zeroValue,typeInfo,hi,hz,newVar,newRow]
theorem dc{t:TypeId}{x:Operand}{v:Value}(hx:asg us x=v)(hk:K (ptz h.size) (h.push (.cells v.cells t))):step P (.box t x) ty us h K:=by refine cI (cf λw hw=>?_);subst hw;refine⟨_,w.alloc (.cells v.cells t),?_,iB _ _,hk⟩;simp only[bI,execOp];simp[Instr.box,hx,newVar,newRow]
variable{y:Operand}
theorem eK{t e:TypeId}{g o:Nat}{x:Operand}{v:Value}{cur:Array Value}(hsz:cO P t=Sj n)(hx:asg us x = Sp (Sj ⟨g,o,Sk⟩))(hy:asg us y=v)(hv:v.cells.size=n)(h1 : ∀c∈v.cells.toList,c.oneCell'=Sq)(hg:h[g]? = Sj (.cells cur e (0,0)))(hfit:o+n<=cur.size)(hk : ∀h':Heap,h'.size=h.size->(∃row:Array Value,h'[g]? = Sj (.cells row e (0,0))/\row.toList=cur.toList.take o++v.cells.toList++cur.toList.drop (o+n))->(∀k,k≠g->h'[k]? = h[k]?)->K undef h'):step P (.store t x y) ty us h K:=by
 refine cI (qw λw hw=>?_);subst hw;have hlen:v.cells.toList.length=n:=by simpa using hv
 have hrun:=run_storeCells_at P g o e v.cells.toList 0 cur w hg (by simp only[Nat.add_zero];omega) h1;obtain⟨row,hrow⟩ : ∃row:Array Value,row.toList=cur.toList.take o++v.cells.toList++cur.toList.drop (o+n):=⟨(cur.toList.take o++v.cells.toList++cur.toList.drop (o+n)).toArray,rfl⟩;have hrun':Sem.run P (storeCells ⟨g,o,Sk⟩ v.cells.toList) w = .ok () (w.setRow g row):=by rw[hrun];congr 2;rw[<-Array.toList_inj,hrow,hlen];rfl
 refine⟨w.setRow g row,?_,Same.rM rfl rfl rfl Sa hg Sa (λk _ hne=>setRow_other w g k _ (λe=>hne e)),hk _ Sa ⟨row,setRow_heap w g cur row e _ hg,hrow⟩ λk hne=>setRow_other w g k _ (λe=>hne e)⟩;simp only[bI,execOp,hx,hy];simp[Instr.storeAt,Instr.sureAddr,storeVar,run_sizeOf (P:=P) (w:=w) hsz,hv,hrun']
variable{ty2:TypeId}{us2:Value->List (Nat × Value)}
theorem uq{t:TypeId}{z:Value}{x:Operand}{v:Value}{K:Value->Heap->Prop}(hz:(P.info? t).map (·.zero)=Sj (Sj z))(hzc:z.cells.size=1)(hsz:cO P t=Sj 1)(hv:v.cells = #[v])(hone:v.oneCell'=Sq)(hx : ∀p,asg (us2 p) x=p)(hy : ∀p,asg (us2 p) y=v)(hk : ∀h':Heap,(vw h).le (vw h')->h'.size=h.size+1->h'[h.size]? = Sj (.cells #[v] t (0,0))->K (ptz h.size) h'):
  @step po P (.alloc t) ty us h λp h2=>@step po2 P (.store t x y) ty2 (us2 p) h2 λ_ h3=>K p h3:=by
 refine dC hz ?_;refine eK (g:=h.size) (o:=0) (n:=1) (v:=v) (cur:=z.cells) (e:=t) hsz (hx _) (hy _) (by rw[hv];rfl) (by rw[hv];simpa using hone) Sa S0 λh' hs ⟨row,hrow,he⟩ hoth=>?_;have hrow2:row = #[v]:=by rw[<-Array.toList_inj,he,hv];simp only[QQ,Pz,PN];rw[Pq (by simp[hzc])];rfl
 rw[hrow2]at hrow;refine hk h' (λb o hb=>?_) (by rw[hs];simp) hrow;have hlt:=View.lt (View.le_refl (vw h)) hb;show h'[b]? = _;rw[hoth b S0];exact bP _ _ b o hb
variable{caps:Array Value}
theorem aU{f:FuncId}{t:Nat}{ops:List Operand}{T:Array TypeId}(hf:asg us (.tmp t) = .func (.func f) #[] caps){R:Value->Heap->Prop}(hfn:isFn P f=Sq)(hc:aw P f (ops.map (asg us)++caps.toList).toArray h R)(hk : ∀v h',R v h'->K v h'):step P (.call ⟨.value (.tmp t),ops.toArray,T⟩) ty us h K:=by
 refine cI (rS (R:=R) (f:=f) (args:=(ops.map (asg us)++caps.toList).toArray) (λw _=>?_) hc hk);unfold isFn at hfn;cases hfn':P.funcs[f]? with
 | none=>simp[hfn']at hfn
 | some fn=>simp only[hfn',OG,bne_iff_ne,ne_eq]at hfn;obtain⟨h1,h2⟩:=hfn;simp[bI,execOp,resolve,Deferred.ofValue,hf,invoke,callFunc,program,Sem.run,hfn',h1,Option.isNone];cases hb:fn.body<;>simp[hb]at h2 ⊢
theorem C6{e:TypeId}{w:World}{a b:Int}{ki:IntKind}(he:P.underlying e=Sj (.int ki)):(Op.equalIn (n+1) e (.int ki a) (.int ki b)).run P w = .ok (a == b) w:=by simp[Op.equalIn,run_underlying he]
theorem yq{e:TypeId}{w:World}{o:Nat}{v:Value}(ha:nm P e=Sj Sr)(hv:cs[o]? = Sj v):(Go.part e cs o).run P w = .ok v w:=by simp[Go.part,nN ha,hv]
theorem AA{t e:TypeId}{w:World}{a b c d:Int}{ki:IntKind}(hu:P.underlying t=Sj (.array 2 e))(he:P.underlying e=Sj (.int ki))(hs:cO P e=Sj 1)(ha:nm P e=Sj Sr):
  (Op.equal t (.agg #[.int ki a,.int ki b]) (.agg #[.int ki c,.int ki d])).run P w = .ok (a == c&&b == d) w:=by
 simp only[cO,OH]at hs;obtain⟨i,hi,hs⟩:=hs;have hc:P.cellsOf e=1:=by simp[Program.cellsOf,hi,hs]
 show(Op.equalIn (9999+1) t _ _).run P w=_;rw[run_equalIn_array (P:=P) (w:=w) (d:=9999) (xs:=_) (ys:=_) hu hi,hc];have p0 : ∀{x y:Int},(Go.part e #[.int ki x,.int ki y] 0).run P w = .ok (.int ki x) w:=yq ha rfl;have p1 : ∀{x y:Int},(Go.part e #[.int ki x,.int ki y] 1).run P w = .ok (.int ki y) w:=yq ha rfl;simp[QJ,Op.eqItems,p0,p1,C6 he];by_cases h1:a=c<;>by_cases h2:b=d<;>simp[h1,h2]
end
instance:Rep (Int × Int) where
 n:=2
 agg:=true
 rd:=λ_ cs d=>cs=[Sf Sg d.1,Sf Sg d.2]/\(-9223372036854775808<=d.1/\d.1<=9223372036854775807)/\-9223372036854775808<=d.2/\d.2<=9223372036854775807
 mono:=λ_ h=>h
 len:=λh=>by rw[h.1];rfl
 one:=λh=>by cases h
 flat:=λh u hu=>by rw[h.1]at hu;simp at hu;rcases hu with rfl | rfl<;>rfl
 pos:=by decide
 fk:=λh=>h
theorem qP{v:Value}{d:Int × Int}:Rd H v d↔v = .agg #[Sf Sg d.1,Sf Sg d.2]/\(-9223372036854775808<=d.1/\d.1<=9223372036854775807)/\-9223372036854775808<=d.2/\d.2<=9223372036854775807:=by
 simp only[Rd,Rep.agg,Rep.rd,if_true];constructor
 ·rintro⟨cs,rfl,h1,h2⟩;refine⟨?_,h2⟩;congr 1;rw[<-Array.toList_inj,h1]
 rintro⟨rfl,h2⟩;exact⟨_,rfl,rfl,h2⟩
variable{α:Type}
theorem SlRd.idxn[Rep α]{v:Value}{l:List α}(h:SlRd H v l){N:Nat}(hn:Rep.n α=N){k:IntKind}{i:Int}(h0:0<=i)(h1:i<l.length):Bn.ev (.idx N) v (.int k i)=Sj (Sp (Sj ((slA v).add (i.toNat*N)))):=by have:=h.idx (k:=k) h0 h1;rw[hn]at this;exact this
theorem SlRd.Em{K:View}{v:Value}{l:List (Int × Int)}(h:SlRd H v l)(hk:H.le K){i:Nat}(hi:i<l.length):ak K (((slA v).add (i*2)).add 0)=Sj (Sf Sg (nth l i).1)/\ak K (((slA v).add (i*2)).add 1)=Sj (Sf Sg (nth l i).2):=by obtain⟨cs,h1,h2⟩:=(h.at hi).mono hk;rw[ay hi];obtain⟨e,_⟩:=h2;subst e;exact⟨gw h1 (i:=0) rfl,gw h1 (i:=1) rfl⟩
end
section
variable {po po2 po3:OP} {pp:PP}
variable{P:Program}{K:Value->Heap->Prop}
theorem DI{s:Sem Next}{l:Nat}{vs:List Value}{h:Heap}{R:Bool->Heap->Prop}(hs : ∀w:World,w.heap=h->s.run P w=(Instr.yield l vs.toArray).run P w)(hy:Dh P l vs h R)(hk : ∀b h',R b h'->K (.bool b) h'):gT P s h K:=by intro w hw r o a K' Q' hK hQ;obtain⟨f,tmps,asg,body,h1,h2⟩:=hy w hw;rw[hs w hw,h1];simp only[Oper.uponIn];have h3:RoundIn (Fw r) 0 P l f tmps asg body w _:=h2;refine⟨λh=>by simp[Fw,Fence.wide]at h,h3.mono ?_⟩;rintro e w' ⟨b,rfl,hR,hsame⟩;exact hK _ w' (hk _ _ hR) hsame
variable{ty:TypeId}{us:List (Nat × Value)}
theorem Hw{t l:Nat}{ops:List Operand}{T:Array TypeId}{h:Heap}(hf:asg us (.tmp t) = .func (.yield l) #[] #[]){R:Bool->Heap->Prop}(hy:Dh P l (ops.map (asg us)) h R)(hk : ∀b h',R b h'->K (.bool b) h'):step P (.call ⟨.value (.tmp t),ops.toArray,T⟩) ty us h K:=by refine cI (DI (l:=l) (vs:=ops.map (asg us)) (λw _=>?_) hy hk);simp[bI,execOp,resolve,Deferred.ofValue,hf,invoke]
variable{β:Type}{body:LC}{Q:Post}{ρ:Env}
theorem CE{enc:β->List Value}{g:E}{ps:List Nat}{asg:LC}{h:Heap}{gf:Nat}{caps:List Value}{all:List β}{A:β->Env}(V W0:View)(I:Option Exit->Nat->View->Heap->Prop)(hg:ev (look ρ) (vw h) g=Sj (.func (.func gf) #[] caps.toArray))(hf:isFn P gf=Sq)(hi:Iter P gf caps V (all.map enc))(hl : ∀x,(enc x).length=ps.length)(hV:V.le W0)(hI : ∀e k,oO h.size (I e k))(h0:I Sk 0 W0 h)(hasg : ∀x h1,@LC.wp noPP P asg (λe ρ1 h2=>e = .normal/\h2=h1/\ρ1=A x) (dd ρ (ps.zip (enc x))) h1)(round : ∀k x W h1,(∀b,b<h.size->W b=W0 b)->all[k]? = Sj x->I Sk k W h1->∀K:Post,(∀ρ2 h3,I Sk (k+1) W h3->K .normal ρ2 h3)->(∀e ρ2 h3,e≠.normal->I (Sj e) (k+1) W h3->K e ρ2 h3)->@LC.wp noPP P body K (A x) h1)(done : ∀W h1,(∀b,b<h.size->W b=W0 b)->I Sk all.length W h1->Q .normal ρ h1)(left : ∀e k W h1,(∀b,b<h.size->W b=W0 b)->I (Sj e) k W h1->Q e ρ h1):LC.wp P (.rangef g ps asg body) Q ρ h:=by
 refine⟨gf,caps,V,W0,all.map enc,I,λk=>match all[k]? with | some x=>A x | none=>[],hg,hf,hi,λvs hvs=>?_,hV,hI,h0,λk vs W h1 ha hk hIk=>?_,λW h1 a b=>done W h1 a (by simpa using b),λe k W h1 _ _=>left e k W h1⟩
 ·obtain⟨x,_,rfl⟩:=PG.1 hvs;exact hl x
 rw[Qn,OH]at hk;obtain⟨x,hk,rfl⟩:=hk;simp only[hk];refine⟨hasg x h1,round k x W h1 ha hk hIk _ (λρ2 h3 hh=>hh) λe ρ2 h3 hne hh=>?_⟩;cases e<;>first | exact absurd rfl hne | exact hh
theorem SlRd.drop {α:Type} [Rep α] {H:View} {v:Value} {l:List α} (h:SlRd H v l) {n:Nat} (hn:n<=l.length) {kd:IntKind} : ∃u,Bn.ev (.lo (Rep.n α)) v (.int kd n)=Sj u/\SlRd H u (l.drop n):=by
 obtain⟨a,cap,rfl,h1,h2,h3⟩:=h;refine⟨.slice (if cap=n then a else a.map (·.add (n*Rep.n α))) (l.length-n) (cap-n),by simp[Bn.ev,vL,vI,hn],if cap=n then a else a.map (·.add (n*Rep.n α)),cap-n,?_,?_,?_,?_⟩
 ·rw[Pl]
 ·rw[Pl];omega
 ·rw[Pl];omega
 rcases h3 with rfl | ⟨ad,rfl,hs,hat⟩
 ·left;simp
 by_cases hc:cap=n
 ·left;simp;omega
 refine .inr ⟨ad.add (n*Rep.n α),by simp[hc],by rw[bM hs],λi hi=>?_⟩;rw[Pl]at hi;rw[Q8];have:=hat (n+i) S0;rw[bM hs]at this ⊢;rw[bM rfl];simpa[QO,Nat.add_assoc]using this
def but (v:Value) (h:Heap):View:=λb=>if v.ownBlock=Sj b then Sk else h[b]?
theorem HN{v:Value}{h:Heap}:(but v h).le (vw h):=λb o hb=>by
 unfold but at hb;split at hb
 ·cases hb
 exact hb
theorem LR{v:Value}{h:Heap}:Av (but v h) v:=λb hb=>by unfold but;rw[if_pos hb]
variable{h':Heap}
theorem BH{v:Value}{h:Heap}(hle:(vw h).le (vw h')):(but v h).le (but v h'):=λb o hb=>by
 unfold but at *;split at hb
 ·cases hb
 rename_i hne;rw[if_neg hne];exact hle b o hb
variable{V:View}
theorem KQ{v:Value}{h:Heap}(hV:V.le (vw h))(ha:Av V v):V.le (but v h):=λb o hb=>by
 unfold but;split
 ·rename_i e;rw[ha b e]at hb;cases hb
 exact hV b o hb
variable{α:Type}{h0:Heap}{W:View}
theorem Mine.beside[Rep α][Rep β]{h:Heap}{e e1:TypeId}{v2 v1 v1':Value}{l2:List α}{l1':List β}(m2:Mine nothing h0 h nothing e v2 l2)(m1:Mine V h0 h' W e1 v1' l1')(mv:lh h h' v1 v1')(ne:v2.ownBlock=Sk\/v2.ownBlock≠v1.ownBlock):Mine nothing h0 h' nothing e v2 l2:=
 ⟨m1.old,λ_ _ h=>(by cases h),λ_ _=>rfl,m2.av0,Old.nothing _ _,m2.own.kept mv.kept ne⟩
theorem Mine.over[Rep α]{h:Heap}{e:TypeId}{v:Value}{l:List α}(m:Mine V h0 h nothing e v l):Mine (vw h0) h0 h (but v h) e v l:=
 ⟨m.old,HN,LR,m.av0,λb o hb hx=>by have h1:=HN b o hx;have h2:h0[b]? = Sj h0[b]:=OX hb;have h3:h[b]? = Sj h0[b]:=m.old b _ h2;have h4:h[b]? = Sj o:=h1;rw[h3]at h4;cases h4;exact h2,m.own.mono (λ_ _ h=>by cases h)⟩
theorem Mine.MT{h:Heap}{e:TypeId}{v:Value}{l:List Int}(m:Mine V h0 h W e v l):Mine nothing h0 h nothing e v l:=
 ⟨m.old,λ_ _ h=>(by cases h),λ_ _=>rfl,m.av0,Old.nothing _ _,m.own⟩
variable{n:Nat}
theorem Mc{a:Addr}{c m:Nat}{k:IntKind}{i:Int}(h0:0<=i)(h1:i<n):Bn.ev (.idx m) (Sn (Sj a) n c) (.int k i)=Sj (Sp (Sj (a.add (i.toNat*m)))):=by simp[Bn.ev,vL,vI,h0,h1]
theorem IX{a:Addr}{c:Nat}{k:IntKind}{i:Int}(h0:0<=i)(h1:i<n):Bn.ev (.idx 1) (Sn (Sj a) n c) (.int k i)=Sj (Sp (Sj (a.add i.toNat))):=by rw[Mc h0 h1,Px]
variable{H:View}
theorem cK{b o:Nat}{c:Array Value}{T:TypeId}{fz:Nat × Nat}{v:Value}(h:H b=Sj (.cells c T fz))(hv:c[o]? = Sj v):ak H ⟨b,o,Sk⟩=Sj v:=by simp[ak,h,hv]
theorem SlRd.cells {α:Type} [Rep α] {H:View} {v:Value} {l:List α} (h:SlRd H v l):v.cells = #[v]/\v.oneCell'=true:=by obtain⟨a,cap,rfl,_⟩:=h;exact⟨rfl,rfl⟩
theorem oS.ext{h0 h h':Heap}(hs:oS h0.size h h')(hle:(vw h0).le (vw h)):(vw h0).le (vw h'):=λb o hb=>by have hlt:=View.lt (View.le_refl (vw h0)) hb;show h'[b]? = _;rw[hs.same b (.inl hlt)];exact hle b o hb
theorem oS.kU{h:Heap}(hs:oS h0.size h h'):(fresh h0 h).fk.le (fresh h0 h'):=λb o hb=>by
 have h1:=View.HP _ _ hb;have h2 : ∀x,o≠.deferred x:=by intro x e;subst e;unfold View.fk at hb;split at hb<;>cases hb
 unfold fresh at h1 ⊢;split at h1
 ·cases h1
 rename_i hge;rw[if_neg hge,hs.same b (.inr ?_)]
 ·exact h1
 rw[h1];intro e;exact h2 _ (Option.some.inj e)
theorem oS.rd[Rep α]{h:Heap}{v:Value}{l:List α}(hs:oS h0.size h h')(hr:SlRd (fresh h0 h) v l):SlRd (fresh h0 h') v l:=
 dR.1 ((dR.2 hr).fk.mono hs.kU)
theorem iO{h:Heap}{b:Nat}(hb:b<h.size):grow W h h' b=W b:=by unfold grow;rw[if_pos hb]
theorem oO.grown{J:View->Heap->Prop}(hJ:oO n J){h:Heap}(hj:J W h)(hn:n<=h.size)(hle:(vw h).le (vw h')):J (grow W h h') h':=
 hJ.move hj (λb hb=>iO S0) (jM (Sc (hJ.le hj) hle)) (λb hb hlt=>⟨(tY hle).block b hlt Sa,by rw[iO hlt];exact hb⟩) (cm hle)
variable{bytes:Nat}{y:Operand}
theorem Il{t e:TypeId}{z:Value}{x:Operand}{h:Heap}{k:IntKind}(hT:ef P t e 1 bytes z)(hx:asg us x = .int k n)(hy:asg us y = .int k n)(hz1:z.cells = #[z])(hb:bytes*n<=140737488355328)(hb2:n<=140737488355328)(hk:K (Sn (Sj ⟨h.size,0,Sk⟩) n n) (h.push (.cells (List.replicate n z).toArray e))):step P (.makeSlice t x y) ty us h K:=by
 obtain⟨ht,⟨i,hi,hz,hsize,hby⟩,hzs,hsz,hsmall⟩:=hT;refine cI (cf λw hw=>?_);subst hw;have hrun:=run_make (P:=P) w t e i z ht hi hz k k (n:Int) (n:Int) S0 (O5 _) (by
  rw[hby];have:((bytes*n:Nat):Int)<=281474976710656:=by omega
  rwa [Int.natCast_mul]at this) S0;simp only[OR,hsize,Px]at hrun
 have hm:madeCells z.cells n=(List.replicate n z).toArray:=by
  rw[hz1];apply Array.ext
  ·simp[madeCells]
  intro j h1 h2;simp[madeCells,Nat.mod_one]
 rw[hm]at hrun;refine⟨_,w.alloc (.cells (List.replicate n z).toArray e),?_,iB _ _,hk⟩;simp only[bI,execOp,hx,hy];simp[hrun]
theorem OwnT.same[Rep α]{h:Heap}{e:TypeId}{v:Value}{l:List α}(o:OwnT W h e v l)(hb : ∀b,v.ownBlock=Sj b->h'[b]? = h[b]?):OwnT W h' e v l:=by
 obtain⟨bd,xs,⟨h1,h2⟩,h3⟩:=o;refine⟨bd,xs,⟨h1,?_⟩,h3⟩;rcases h2 with h2 | ⟨g,cap,cur,rfl,hg,h4⟩
 ·exact .inl h2
 exact .inr ⟨g,cap,cur,rfl,(hb g rfl).trans hg,h4⟩
structure Rw {α:Type} [Rep α] (W:View) (h:Heap) (ot e:TypeId) (g:Nat) (rv:List Value) (ls:List (List α)):Prop where
 wle:W.le (vw h)
 wg:W g=Sk
 blk:h[g]? = Sj (.cells rv.toArray ot (0,0))
 len:rv.length=ls.length
 own : ∀i,i<ls.length->OwnT nothing h e (nth rv i) (nth ls i)
 av : ∀i,i<ls.length->Av W (nth rv i)
 ng : ∀i,i<ls.length->(nth rv i).ownBlock≠Sj g
 dj : ∀i j,i<ls.length->j<ls.length->i≠j->(nth rv i).ownBlock=Sk\/(nth rv i).ownBlock≠(nth rv j).ownBlock
section
variable {α:Type} [Rep α] {W:View} {h h':Heap} {ot e:TypeId} {g:Nat} {rv:List Value} {ls:List (List α)}
theorem Rw.lt(r:Rw W h ot e g rv ls):g<h.size:=(OJ.1 r.blk).1
theorem aC[Inhabited β]{i:Nat}{x:β}(hi:i<n):nth (List.replicate n x) i=x:=by rw[ay (by simpa using hi)];simp
theorem Rw.start(hW:W.le (vw h))(hg:W g=Sk)(hb:h[g]? = Sj (.cells (List.replicate n (Sn Sk 0 0)).toArray ot (0,0))):Rw (α:=α) W h ot e g (List.replicate n (Sn Sk 0 0)) (List.replicate n []):=
 ⟨hW,hg,hb,by simp,λi hi=>by rw[aC (by simpa using hi),aC (by simpa using hi)];exact OwnT.nil ..,λi hi=>by rw[aC (by simpa using hi)];exact Av.nil _ _ _,
  λi hi=>by rw[aC (by simpa using hi)];simp[Value.ownBlock],λi j hi hj _=>by rw[aC (by simpa using hi)];exact .inl rfl⟩
theorem Rw.move(r:Rw W h ot e g rv ls){W':View}(h1:W'.le (vw h'))(h2 : ∀b,W b=Sk->b<h.size->h'[b]? = h[b]?/\W' b=Sk):Rw W' h' ot e g rv ls:=
 {wle:=h1,wg:=(h2 g r.wg r.lt).2,blk:=(h2 g r.wg r.lt).1.trans r.blk,len:=r.len,ng:=r.ng,dj:=r.dj
  own:=λi hi=>(r.own i hi).same λb hb=>(h2 b (r.av i hi b hb) ((r.own i hi).lt hb)).1
  av:=λi hi b hb=>(h2 b (r.av i hi b hb) ((r.own i hi).lt hb)).2 }
theorem Rw.ext(r:Rw W h ot e g rv ls)(hle:(vw h).le (vw h')):Rw W h' ot e g rv ls:=
 r.move (Sc r.wle hle) λb hb hlt=>⟨(tY hle).block b hlt Sa,hb⟩
theorem aX[Inhabited β]{l:List β}{i j:Nat}{x:β}(hj:j<l.length):nth (l.set i x) j=if i=j then x else nth l j:=by
 rw[ay (by simpa using hj),List.getElem_set];split
 ·rfl
 rw[ay hj]
theorem Rw.put{h2 h3:Heap}{i:Nat}{v':Value}{l':List α}(r:Rw W h ot e g rv ls)(hi:i<ls.length)(o:OwnT nothing h2 e v' l')(m:lh h h2 (nth rv i) v')(hb:h3[g]? = Sj (.cells (rv.set i v').toArray ot (0,0)))(hoth : ∀k,k≠g->h3[k]? = h2[k]?)(hsz:h3.size=h2.size):Rw W h3 ot e g (rv.set i v') (ls.set i l'):=by
 obtain⟨hw',ha'⟩:=m.view r.wle (r.av i hi);have hlt:=r.lt;have ng':v'.ownBlock≠Sj g:=by
  rcases m.at_ with e | e
  ·rw[e];exact r.ng i hi
  rw[e];intro e2;cases e2;omega
 have hv' : ∀j,j<ls.length->j≠i->(nth rv j).ownBlock=Sk\/(nth rv j).ownBlock≠v'.ownBlock:=by
  intro j hj hne;rcases m.at_ with e | e
  ·rw[e];exact r.dj j i hj hi hne
  right;rw[e];intro e2;have:=(r.own j hj).lt e2;omega
 have rl:=r.len;refine⟨λb x hb=>?_,r.wg,hb,by simp[rl],λj hj=>?_,λj hj=>?_,λj hj=>?_,λj k hj hk hne=>?_⟩
 ·have hne:b≠g:=λe=>by rw[e,r.wg]at hb;cases hb
  show h3[b]? = _;rw[hoth b hne];exact hw' b x hb
 ·rw[O2]at hj;rw[aX S0,aX hj];split
  ·exact o.same λb hb=>hoth b (λe=>ng' (by rw[hb,e]))
  rename_i hne;refine((r.own j hj).kept m.kept (r.dj j i hj hi (λe=>hne e.symm))).same λb hb=>hoth b (λe=>r.ng j hj (by rw[hb,e]))
 ·rw[O2]at hj;rw[aX S0];split
  ·exact ha'
  exact r.av j hj
 ·rw[O2]at hj;rw[aX S0];split
  ·exact ng'
  exact r.ng j hj
 rw[O2]at hj hk;rw[aX S0,aX S0];split
 ·rename_i e1;rw[if_neg S0];rcases hv' k hk S0 with e | e
  ·rcases hb2:v'.ownBlock with _ | b
   ·exact .inl rfl
   right;rw[e];simp
  exact .inr λe2=>e e2.symm
 split
 ·rename_i e1 e2;exact hv' j hj S0
 exact r.dj j k hj hk hne
theorem Rw.rd (r:Rw W h ot e g rv ls) {X:View} (hg:X g=h[g]?) (hx : ∀i b,i<ls.length->(nth rv i).ownBlock=Sj b->X b=h[b]?) (hb:ls.length<=140737488355328):SlRd X (Sn (Sj ⟨g,0,Sk⟩) ls.length ls.length) ls:=by
 refine⟨Sj ⟨g,0,Sk⟩,ls.length,rfl,OA _,hb,.inr ⟨_,rfl,rfl,λi hi=>?_⟩⟩;rw[bM rfl];have hlen:=r.len;refine⟨[nth rv i],⟨rv.toArray,ot,(0,0),rfl,by rw[hg];exact r.blk,?_⟩,nth rv i,rfl,?_⟩
 ·rw[ay S0];simp only[PN,show Rep.n (List α)=1 from rfl,Px,Py,Q0];have hd:rv.drop i=rv[i]::rv.drop (i+1):=O6 S0;show List.take (0+1) (List.drop i rv)=_;rw[hd];rfl
 rw[<-ay hi];exact(r.own i hi).rd (λ_ _ h=>by cases h) (hx i · hi)
theorem Rw.fresh {h0:Heap} (r:Rw W h ot e g rv ls) (h0W:(vw h0).le W) (hb:ls.length<=140737488355328):SlRd (Lft.fresh h0 h) (Sn (Sj ⟨g,0,Sk⟩) ls.length ls.length) ls:=by
 have key : ∀b,W b=Sk->h0.size<=b:=by
  intro b hb;rcases OD b h0.size with hlt | hge
  ·have:=h0W b h0[b] (OX hlt);rw[hb]at this;cases this
  exact hge
 refine r.rd (by unfold Lft.fresh;rw[if_neg (R8.2 (key g r.wg))]) (λi b hi hbb=>by unfold Lft.fresh;rw[if_neg (R8.2 (key b (r.av i hi b hbb)))]) hb
end
def skip (B:Nat) (h:Heap):View:=λb=>if b=B then Sk else h[b]?
theorem cD{B:Nat}{h:Heap}:(skip B h).le (vw h):=λb o hb=>by
 unfold skip at hb;split at hb
 ·cases hb
 exact hb
theorem mh{B b:Nat}{h:Heap}(hb:b≠B):skip B h b=h[b]?:=by unfold skip;rw[if_neg hb]
section
variable {α:Type} [Rep α] {W:View} {h h':Heap} {B:Nat} {T e:TypeId} {v:Value} {l:List α}
end
end
section
open Go Go.MapKept
variable {po:OP} {pp:PP}
structure de (d:TypeDesc) (h:Heap) (r:Nat) (f:Value->Option Value):Prop where
 ex : ∃es clock,h[r]? = Sj (.map es clock)/\(∀x∈es.toList,IsKey d x.key)/\Stamped es clock/\∀k v,IsKey d k->((∃x∈es.toList,x.key=k/\x.val=v)↔f k=Sj v)
theorem de.lt{d:TypeDesc}{h:Heap}{r:Nat}{f:Value->Option Value}(m:de d h r f):r<h.size:=by obtain⟨es,c,h1,_⟩:=m.ex;exact(OJ.1 h1).1
variable{h':Heap}{r:Nat}
theorem de.same{d:TypeDesc}{h:Heap}{f:Value->Option Value}(m:de d h r f)(e:h'[r]? = h[r]?):de d h' r f:=by obtain⟨es,c,h1,h2⟩:=m.ex;exact⟨es,c,by rw[e];exact h1,h2⟩
theorem de.ext{d:TypeDesc}{h h':Heap}{r:Nat}{f:Value->Option Value}(m:de d h r f)(hle:(vw h).le (vw h')):de d h' r f:=by obtain⟨es,c,h1,h2⟩:=m.ex;exact⟨es,c,hle _ _ h1,h2⟩
theorem de.none {d:TypeDesc} {h:Heap} {r:Nat} (hr:h[r]? = Sj (.map #[] 0)):de d h r λ_=>none:=
 ⟨#[],0,hr,by simp,stamped_empty 0,by simp⟩
section
variable {P:Program} {ty:TypeId} {us:List (Nat × Value)} {h:Heap} {K:Value->Heap->Prop} {d:TypeDesc} {r:Nat} {f:Value->Option Value} {t k e:TypeId}
theorem kG(hk:K (.map (Sj h.size)) (h.push (.map #[] 0))):step P (.makeMap t .none) ty us h K:=by refine cI (cf λw hw=>?_);subst hw;refine⟨_,w.alloc (.map #[] 0),?_,iB _ _,hk⟩;simp only[bI,execOp];simp[Instr.makeMap,newObj];rfl
variable{y:Operand}
theorem yP{x:Operand}{u z:Value}(ht:P.underlying t=Sj (.map k e))(hd:P.underlying k=Sj d)(hz:(P.info? e).map (·.zero)=Sj (Sj z))(hx:asg us x = .map (Sj r))(hy:asg us y=u)(hu:IsKey d u)(m:de d h r f)(hk:K ((f u).getD z) h):step P (.lookup t x y Sr) ty us h K:=by
 obtain⟨es,c,h1,h2,h3,h4⟩:=m.ex;simp only[OH]at hz;obtain⟨i,hi,hz⟩:=hz;refine cI (cf λw hw=>⟨_,w,?_,Same.refl _,by rw[hw];exact hk⟩);have hz':(zeroValue e).run P w = .ok z w:=by simp[zeroValue,typeInfo,hi,hz]
 rw[<-hw]at h1;simp only[bI,execOp,hx,hy];rcases findNow_spec hu es.toList 0 h2 with⟨g1,g2⟩ | ⟨j,x,g1,g2,g3⟩
 ·have hf:f u = .none:=by
   cases hfu:f u with
   | none=>rfl
   | some v=>obtain⟨x,hx,e1,_⟩:=(h4 u v hu).2 hfu;exact absurd e1 (g2 x hx)
  simp[Instr.lookup,run_underlying ht,MapKept.run_getObj_map h1,MapKept.run_checkKey hd hu,MapKept.run_findKey hd g1,Result.andThen,hf,hz']
 have hf:f u=Sj x.val:=(h4 u x.val hu).1 ⟨x,Ps g2,g3,rfl⟩;simp[Instr.lookup,run_underlying ht,MapKept.run_getObj_map h1,MapKept.run_checkKey hd hu,MapKept.run_findKey hd g1,Result.andThen,hf]
theorem Dw{w:World}{u v:Value}(ht:P.underlying t=Sj (.map k e))(hd:P.underlying k=Sj d)(hu:IsKey d u)(m:de d w.heap r f)(g:Value->Option Value)(hg:g u=Sj v)(hg2 : ∀j,j≠u->g j=f j):
  ∃o,(Instr.mapUpdate t (.map (Sj r)) u v).run P w = .ok () { w with heap:=w.heap.setIfInBounds r o }/\de d (w.heap.setIfInBounds r o) r g:=by
 obtain⟨es,c,h1,h2,h3,h4⟩:=m.ex;rcases findNow_spec hu es.toList 0 h2 with⟨g1,g2⟩ | ⟨j,x,g1,g2,g3⟩
 ·refine⟨.map (es.push { key:=u,val:=v,born:=c }) (c+1),?_,_,_,(MapKept.heap_set h1).1,?_,stamped_push h3 g2,?_⟩
  ·simp[Instr.mapUpdate,run_underlying ht,MapKept.run_getObj_map h1,MapKept.run_checkKey hd hu,MapKept.run_findKey hd g1,MapKept.run_setObj_map _ h1,Result.andThen]
  ·intro x hx;simp only[Array.toList_push,OE,OC]at hx;rcases hx with hx | rfl
   ·exact h2 x hx
   exact hu
  intro q p hq;constructor
  ·rintro⟨x,hx,e1,e2⟩;simp only[Array.toList_push,OE,OC]at hx;rcases hx with hx | rfl
   ·rw[hg2 q (λe=>g2 x hx (e1.trans e))];exact(h4 q p hq).1 ⟨x,hx,e1,e2⟩
   simp only at e1 e2;subst e1;subst e2;exact hg
  intro hp;by_cases e:q=u
  ·subst e;rw[hg]at hp;cases hp;exact⟨{ key:=q,val:=v,born:=c },by simp,rfl,rfl⟩
  rw[hg2 q e]at hp;obtain⟨x,hx,e⟩:=(h4 q p hq).2 hp;exact⟨x,by simp[show x∈es from by simpa using hx],e⟩
 have hj:es[j]? = Sj x:=by simpa using g2
 have hmem:x∈es.toList:=Ps g2;have hlt:j<es.size:=(OJ.1 hj).1;have hkeyf : ∀e',es[j]? = Sj e'->({ e' with key:=u,val:=v }:MapEntry).key=e'.key:=λe' he'=>by rw[hj]at he';cases he';exact g3.symm
 have hst:Stamped (es.modify j (λe'=>{ e' with key:=u,val:=v })) c:=stamped_modify h3 _ _ (λ_ _=>rfl) (λe' _ he'=>hkeyf e' he');have hget : ∀i y,(es.modify j (λe'=>{ e' with key:=u,val:=v }))[i]? = Sj y↔(i=j/\y={ x with key:=u,val:=v })\/(i≠j/\es[i]? = Sj y):=by
  intro i y;rw[Rl];by_cases hij:i=j
  ·subst hij;rw[if_pos rfl,hj];simp[eq_comm]
  rw[if_neg (Ne.symm hij)];simp[hij]
 have huniq : ∀i y,es[i]? = Sj y->y.key=u->i=j:=by
  intro i y hy hk;have hnd:=h3.2.2;have e1:(es.toList.map (·.key))[i]? = Sj u:=by simp[hy,hk]
  have e2:(es.toList.map (·.key))[j]? = Sj u:=by simp[hj,g3]
  have hl1:=(PX.1 e1);have hl2:=(PX.1 e2);obtain⟨l1,q1⟩:=hl1;obtain⟨l2,q2⟩:=hl2;exact(List.getElem_inj hnd).1 (q1.trans q2.symm)
 refine⟨.map (es.modify j (λe'=>{ e' with key:=u,val:=v })) c,?_,_,_,(MapKept.heap_set h1).1,?_,hst,?_⟩
 ·simp[Instr.mapUpdate,run_underlying ht,MapKept.run_getObj_map h1,MapKept.run_checkKey hd hu,MapKept.run_findKey hd g1,hj,g3,MapKept.run_keyThatStays hu,MapKept.run_setObj_map _ h1,Result.andThen]
 ·intro y hy;obtain⟨i,hi⟩:=Ru hy;have hi:(es.modify j (λe'=>{ e' with key:=u,val:=v }))[i]? = Sj y:=by rw[P8]at hi;exact hi
  rcases(hget i y).1 hi with⟨_,rfl⟩ | ⟨_,h5⟩
  ·exact hu
  exact h2 y (Ps (by simpa using h5))
 intro q p hq;constructor
 ·rintro⟨y,hy,e1,e2⟩;obtain⟨i,hi⟩:=Ru hy;have hi:(es.modify j (λe'=>{ e' with key:=u,val:=v }))[i]? = Sj y:=by rw[P8]at hi;exact hi
  rcases(hget i y).1 hi with⟨_,rfl⟩ | ⟨h6,h5⟩
  ·simp only at e1 e2;subst e1;subst e2;exact hg
  rw[hg2 q (λe=>h6 (huniq i y h5 (e1.trans e)))];exact(h4 q p hq).1 ⟨y,Ps (by simpa using h5),e1,e2⟩
 intro hp;by_cases hqu:q=u
 ·subst hqu;rw[hg]at hp;cases hp;refine⟨{ x with key:=q,val:=v },Ps (i:=j) ?_,rfl,rfl⟩;rw[P8];exact(hget j { x with key:=q,val:=v }).2 (.inl ⟨rfl,rfl⟩)
 rw[hg2 q hqu]at hp;obtain⟨y,hy,e1,e2⟩:=(h4 q p hq).2 hp;obtain⟨i,hi⟩:=Ru hy;have hi':es[i]? = Sj y:=by simpa using hi
 refine⟨y,Ps (i:=i) ?_,e1,e2⟩;rw[P8];refine(hget i y).2 (.inr ⟨λe=>?_,hi'⟩);subst e;rw[hj]at hi';cases hi';exact hqu (e1.symm.trans g3)
variable{op:Op}
theorem jE{x q:Operand}{u v:Value}(hop:op = .mapUpdate t x y q\/op = .insert t x y q)(ht:P.underlying t=Sj (.map k e))(hd:P.underlying k=Sj d)(hx:asg us x = .map (Sj r))(hy:asg us y=u)(hq:asg us q=v)(hu:IsKey d u)(m:de d h r f)(g:Value->Option Value)(hg:g u=Sj v)(hg2 : ∀j,j≠u->g j=f j)(hk : ∀h':Heap,h'.size=h.size->(∀b,b≠r->h'[b]? = h[b]?)->de d h' r g->K undef h'):step P op ty us h K:=by refine cI (qw λw hw=>?_);subst hw;obtain⟨o,h1,h2⟩:=Dw (v:=v) ht hd hu m g hg hg2;obtain⟨es,c,h3,_⟩:=m.ex;have hoth:=(MapKept.heap_set (o':=o) h3).2;refine⟨{ w with heap:=w.heap.setIfInBounds r o },?_,Same.rM rfl rfl rfl Sa h3 Sa (λk _ hne=>hoth k hne),hk _ Sa hoth h2⟩;rcases hop with rfl | rfl<;>simp only[bI,execOp,hx,hy,hq]<;>simp[h1]
end
def mapI (f:Int->Option Int):Value->Option Value
 | Sf Sg j=>(f j).map (.int .i64)
 | _=>Sk
@[simp] theorem M7{f:Int->Option Int}{j:Int}:mapI f (Sf Sg j)=(f j).map (.int .i64):=rfl
def mapB (s:Int->Bool):Value->Option Value
 | Sf Sg j=>if s j then Sj (.bool Sq) else Sk
 | _=>Sk
@[simp] theorem Bw{s:Int->Bool}{j:Int}:mapB s (Sf Sg j)=if s j then Sj (.bool Sq) else none:=rfl
theorem ez{j:Int}:IsKey (.int .i64) (Sf Sg j):=rfl
theorem Io{f g:Int->Bool}{j:Int}(h : ∀i,g i=if i=j then Sq else f i):mapB g (Sf Sg j)=Sj (.bool Sq)/\∀u,u≠Sf Sg j->mapB g u=mapB f u:=by
 refine⟨by simp[h],λu hu=>?_⟩;cases u<;>try rfl
 rename_i k i;cases k<;>try rfl
 have:i≠j:=λe=>hu (by rw[e]);simp[h,this]
@[simp] theorem Mt{s:Bool}:(if s=Sq then Sj (Value.bool Sq) else .none).getD (.bool Sr) = .bool s:=by cases s<;>rfl
end
section
variable {po:OP} {pp:PP}
variable{P:Program}{Q:Post}{ρ:Env}
theorem ab{x y:LC}{h:Heap}(hx : ∀z,z=y->LC.wp P x (fj (LC.wp P z Q) Q) ρ h):LC.wp P (.seq x y) Q ρ h:=hx y rfl
variable{kill:List Nat}{sets args:List (Nat × E)}{chk:List E}{op:Op}{ty:TypeId}{dst:Option Nat}{keep:Bool}{next:Reg}
theorem yC{k:Bool}{grd:Option (E × Bool)}{tail:Bool}{h:Heap}(hx : ∀z,z=next->LC.wp P (.reg k (.loud kill sets args grd chk tail op ty dst keep z)) Q ρ h):LC.wp P (.reg k (.loud kill sets args grd chk tail op ty dst keep next)) Q ρ h:=hx next rfl
theorem bJ{m:Option View}{grd:Option (E × Bool)}{tail:Bool}{Q:Env->Heap->Prop}{h:Heap}(hx : ∀z,z=next->eh P m (.loud kill sets args grd chk tail op ty dst keep z) Q ρ h):eh P m (.loud kill sets args grd chk tail op ty dst keep next) Q ρ h:=hx next rfl
def pG {α:Type} [Rep α] (X:View):List Value->List α->Prop
 | [],[]=>True
 | v::vs,d::ds=>Rd X v d/\pG X vs ds
 | _,_=>False
theorem pG.len {α:Type} [Rep α] {X:View} : ∀{vs:List Value} {ds:List α},pG X vs ds->vs.length=ds.length
 | [],[],_=>rfl
 | _::_,_::_,h=>by simp[pG.len h.2]
theorem pG.get {α:Type} [Rep α] {X:View} : ∀{vs:List Value} {ds:List α},pG X vs ds->∀(i:Nat) (h1:i<vs.length) (h2:i<ds.length),Rd X vs[i] ds[i]
 | _::_,_::_,h,0,_,_=>h.1
 | _::_,_::_,h,i+1,h1,h2=>h.2.get i _ _
variable{α:Type}
theorem Rd.Lv[Rep α]{X:View}{v:Value}{d:α}(ha:Rep.agg α=Sr)(h:Rd X v d):v.cells = #[v]:=by unfold Rd at h;rw[if_neg (by simp[ha])]at h;have hfl:=Rep.flat h v Sa;cases v<;>first | rfl | simp[Value.oneCell']at hfl
theorem Bv : ∀(vs:List Value) (k:Nat) (A:Array Value),(∀v∈vs,v.cells = #[v])->k+vs.length=A.size->
  ∃B,Instr.fill (λj=>Sj (j*1,1)) A ((vs.zipIdx k).map λp=>(p.2,p.1))=Sj B/\B.toList=A.toList.take k++vs
 | [],k,A,_,hk=>⟨A,rfl,by simp at hk;rw[OK (by simp[hk])];simp⟩
 | v::vs,k,A,hv,hk=>by
  have hc:=hv v (OM ..);obtain⟨B,h1,h2⟩:=Bv vs (k+1) (A.setIfInBounds k v) (λu hu=>hv u (OL _ hu)) (by simp at hk ⊢;omega);refine⟨B,?_,?_⟩
  ·simp only[Rq,PJ,Instr.fill,hc,Px];rw[if_neg (by simp at hk ⊢;omega)];simpa using h1
  rw[h2];have hkA:k<A.toList.length:=by simp at hk ⊢;omega
  rw[OS (by simpa using hkA)];simp[Ry]
end
structure Cat (α β:Type) where
 a:α
 b:β
instance {α β:Type} [Rep α] [Rep β]:Rep (Cat α β) where
 n:=Rep.n α+Rep.n β
 agg:=true
 rd:=λH cs d=>∃c1 c2,cs=c1++c2/\Rep.rd H c1 d.a/\Rep.rd H c2 d.b
 mono:=λhk ⟨c1,c2,h1,h2,h3⟩=>⟨c1,c2,h1,Rep.mono hk h2,Rep.mono hk h3⟩
 len:=λ⟨c1,c2,h1,h2,h3⟩=>by rw[h1,OI,Rep.len h2,Rep.len h3]
 one:=λh=>by cases h
 flat:=λ⟨c1,c2,h1,h2,h3⟩ u hu=>by
  rw[h1]at hu
  rcases OE.1 hu with hu | hu
  ·exact Rep.flat h2 u hu
  ·exact Rep.flat h3 u hu
 pos:=Nat.add_pos_left Rep.pos _
 fk:=λ⟨c1,c2,h1,h2,h3⟩=>⟨c1,c2,h1,Rep.fk h2,Rep.fk h3⟩
abbrev Rep.via {α γ:Type} [Rep α] (f:γ->α):Rep γ where
 n:=Rep.n α
 agg:=Rep.agg α
 rd:=λH cs d=>Rep.rd H cs (f d)
 mono:=λhk h=>Rep.mono hk h
 len:=λh=>Rep.len h
 one:=λh=>Rep.one h
 flat:=λh=>Rep.flat h
 pos:=Rep.pos
 fk:=λh=>Rep.fk h
theorem At.int {H:View} {a:Addr} {d:Int} (h:At H a d):ak H a=Sj (Sf Sg d):=by obtain⟨u,h1,h2⟩:=h.load rfl;rw[(bO.1 h2).1]at h1;exact h1
variable{α:Type}{H:View}
theorem At.list[Rep α]{a:Addr}{l:List α}(h:At H a l): ∃v,ak H a=Sj v/\SlRd H v l:=by obtain⟨u,h1,h2⟩:=h.load rfl;exact⟨u,h1,dR.1 h2⟩
theorem At.i32 {H:View} {a:Addr} {d:I32} (h:At H a d):ak H a=Sj (Sf Si d.v):=by obtain⟨u,h1,h2⟩:=h.load rfl;rw[(zV.1 h2).1]at h1;exact h1
structure InD where
 frm:Int
 val:Int
 deriving Inhabited,DecidableEq
instance:Rep InD:=Rep.via λd=>Cat.mk d.frm d.val
structure PhiD where
 dst:Int
 ins:List InD
 deriving Inhabited,DecidableEq
instance:Rep PhiD:=Rep.via λd=>Cat.mk d.dst d.ins
structure InsD where
 op:Int
 dst:Int
 two:Int
 args:List Int
 imm:I32
 deriving Inhabited,DecidableEq
instance:Rep InsD:=Rep.via λd=>Cat.mk d.op (Cat.mk d.dst (Cat.mk d.two (Cat.mk d.args d.imm)))
structure cM where
 kind:Int
 args:List Int
 to:List Int
 imm:I32
 deriving Inhabited,DecidableEq
instance:Rep cM:=Rep.via λd=>Cat.mk d.kind (Cat.mk d.args (Cat.mk d.to d.imm))
structure BlkD where
 phis:List PhiD
 ins:List InsD
 term:cM
 deriving Inhabited,DecidableEq
instance:Rep BlkD:=Rep.via λd=>Cat.mk d.phis (Cat.mk d.ins d.term)
structure an where
 params:Int
 blocks:List BlkD
 deriving Inhabited,DecidableEq
instance:Rep an:=Rep.via λd=>Cat.mk d.params d.blocks
section
open Go Go.MapKept
variable {po:OP} {pp:PP}
section
variable {P:Program} {ty:TypeId} {us:List (Nat × Value)} {h:Heap} {K:Value->Heap->Prop}
def isIface:TypeDesc->Bool
 | .interface _=>Sq
 | _=>Sr
theorem Ht{t:TypeId}{d:TypeDesc}{x:Operand}{v:Value}(hd:P.underlying t=Sj d)(hn:isIface d=Sr)(hx:asg us x=v)(hk:K (.iface t v) h):step P (.makeInterface t x) ty us h K:=by refine cI (cf λw hw=>⟨.iface t v,w,?_,Same.refl _,by rw[hw];exact hk⟩);simp only[bI,execOp,hx];cases d<;>first | (simp[isIface]at hn;done) | (simp[Instr.makeInterface,run_underlying hd];done)
theorem Hz{x:Operand}{t:TypeId}{v:Value}(hx:asg us x = .iface t v)(hk:po.op [{ v:=.iface t v,recovered:=false }] h):step P (.panic x) ty us h K:=by
 refine cI ?_;intro w hw r o a K' Q' hK hQ;have hr:(bI (.panic x) ty us).run P w = .halt (.panic (.iface t v)) w:=by simp only[bI,execOp,hx];simp[Instr.panic,goPanic,Sem.run]
 rw[hr];simp only[Oper.uponIn];exact hQ _ w (by rw[hw];exact hk) (Same.refl _)
theorem Gi{T xT:TypeId}{d:TypeDesc}{x:Operand}{v:Value}(hd:P.underlying T=Sj d)(hn:isIface d=Sr)(hx:asg us x = .iface T v)(hk:K (.tuple #[v,.bool Sq]) h):step P (.typeAssert x xT T Sq) ty us h K:=by refine cI (cf λw hw=>⟨.tuple #[v,.bool Sq],w,?_,Same.refl _,by rw[hw];exact hk⟩);simp only[bI,execOp,hx];cases d<;>first | (simp[isIface]at hn;done) | (simp[Instr.typeAssert,run_underlying hd];done)
variable{r:Nat}{y:Operand}
theorem mj{t k e:TypeId}{d:TypeDesc}{f:Value->Option Value}{x:Operand}{u z:Value}(ht:P.underlying t=Sj (.map k e))(hd:P.underlying k=Sj d)(hz:(P.info? e).map (·.zero)=Sj (Sj z))(hx:asg us x = .map (Sj r))(hy:asg us y=u)(hu:IsKey d u)(m:de d h r f)(hk:K (.tuple #[(f u).getD z,.bool (f u).isSome]) h):step P (.lookup t x y Sq) ty us h K:=by
 obtain⟨es,c,h1,h2,h3,h4⟩:=m.ex;simp only[OH]at hz;obtain⟨i,hi,hz⟩:=hz;refine cI (cf λw hw=>⟨_,w,?_,Same.refl _,by rw[hw];exact hk⟩);have hz':(zeroValue e).run P w = .ok z w:=by simp[zeroValue,typeInfo,hi,hz]
 rw[<-hw]at h1;simp only[bI,execOp,hx,hy];rcases MapKept.findNow_spec hu es.toList 0 h2 with⟨g1,g2⟩ | ⟨j,x,g1,g2,g3⟩
 ·have hf:f u = .none:=by
   cases hfu:f u with
   | none=>rfl
   | some v=>obtain⟨x,hx,e1,_⟩:=(h4 u v hu).2 hfu;exact absurd e1 (g2 x hx)
  simp[Instr.lookup,run_underlying ht,MapKept.run_getObj_map h1,MapKept.run_checkKey hd hu,MapKept.run_findKey hd g1,Result.andThen,hf,hz']
 have hf:f u=Sj x.val:=(h4 u x.val hu).1 ⟨x,Ps g2,g3,rfl⟩;simp[Instr.lookup,run_underlying ht,MapKept.run_getObj_map h1,MapKept.run_checkKey hd hu,MapKept.run_findKey hd g1,Result.andThen,hf]
variable{b:Bool}
theorem Db{T:TypeId}{ms:Array (String × TypeId)}{w:World}{v:Value}(hd:P.underlying T=Sj (.interface ms))(hv:v = .nilIface/\b=Sq\/∃t u,v = .iface t u/\b=Sr):(Op.equal T v .nilIface).run P w = .ok b w:=by
 have key : ∀n,(Op.equalIn (n+1) T v .nilIface).run P w = .ok b w:=λn=>by rcases hv with⟨rfl,rfl⟩ | ⟨t,u,rfl,rfl⟩<;>simp[Op.equalIn,run_underlying hd]
 exact key 9999
theorem BD{T rt:TypeId}{ms:Array (String × TypeId)}{x:Operand}{v:Value}(hd:P.underlying T=Sj (.interface ms))(hx:asg us x=v)(hv:v = .nilIface/\b=Sq\/∃t u,v = .iface t u/\b=Sr)(hk:K (.bool b) h):
  step P (.binOp .eql T x (.const .nilIface) rt) ty us h K:=by refine cI (cf λw hw=>⟨.bool b,w,?_,Same.refl _,by rw[hw];exact hk⟩);simp only[bI,execOp,hx,yO];have:=Db (w:=w) hd hv;rcases hv with⟨rfl,rfl⟩ | ⟨t,u,rfl,rfl⟩<;>simp[eqGuard,binOp,this]
end
end
def rP (P:Program) (g:FuncId) (args:Array Value) (u:FrameMode) (h:Heap) (S:FrameMode->Heap->Prop):Prop:=
 ∀w:World,w.heap=h->CallsDIn (Fw Sk) 0 P g args u w λe u' w'=>e = .returned (.tuple #[])/\S u' w'.heap/\Same w w'
variable{P:Program}{caps:Array Value}
theorem Dd{fn:Func}{a:Act}{w:World}{R:Ending->World->Prop}{g:FuncId}{S:FrameMode->Heap->Prop}{u:FrameMode}(hg:isFn P g=Sq)(hd:a.defers=[{ target:=.fn (.func g) caps,args:=#[] }])(hu:u≠.run)(hc:rP P g caps u w.heap S)(hS : ∀u' w',S u' w'.heap->Same w w'->settle u' = .returning/\∃v,(results fn a.tmps).run P w' = .ok v w'/\R (.returned v) w'):LeavesIn (Fw Sk) 0 P fn a.tmps R a.defers u w:=by
 rw[hd];refine leavesIn_cons (f:=g) (args:=caps) hu (by simp[Fw,Fence.wide]) ?_ (λ_ _=>trivial) ((hc w rfl).mono ?_)
 ·unfold isFn at hg;cases hfn':P.funcs[g]? with
  | none=>simp[hfn']at hg
  | some fn'=>simp only[hfn',OG,bne_iff_ne,ne_eq]at hg;obtain⟨h1,h2⟩:=hg;simp[invoke,callFunc,program,Sem.run,hfn',h1,Option.isNone];cases hb:fn'.body<;>simp[hb]at h2 ⊢
 rintro e u' w' ⟨rfl,h1,h2⟩;obtain⟨h3,v,h4,h5⟩:=hS u' w' h1 h2;show LeavesIn (Fw Sk) 0 P fn a.tmps R [] (settle u') w';rw[h3];exact⟨v,h4,h5⟩
def sT (ρ:Env):List Operand->Option (List Value)
 | []=>Sj []
 | .tmp t::l=>match look ρ t,sT ρ l with
  | some v,Sj vs=>Sj (v::vs)
  | _,_=>Sk
 | _::_=>Sk
theorem xY {ρ:Env} {a:Act} (hs:Sat ρ a) : ∀{l:List Operand} {vs:List Value},sT ρ l=Sj vs->l.map a.eval=vs
 | [],vs,h=>by simp[sT]at h;subst h;rfl
 | .tmp t::l,vs,h=>by
  simp only[sT]at h;split at h
  ·rename_i v vs' h1 h2;simp only[Ow]at h;subst h;have:=hs t v h1;simp[Act.eval,this,xY hs h2]
  cases h
 | .const _::_,_,h=>by simp[sT]at h
 | .global _::_,_,h=>by simp[sT]at h
 | .func _::_,_,h=>by simp[sT]at h
theorem qU{f:FuncId}{fn:Func}{c0 c1:Code}{id:Nat}{o1 o2:Oper}{g t:Nat}{capops:Array Operand}{tys:Array TypeId}{live0 liveR0 live1 liveR1:List Nat}{L0 L1:LC}{res:List E}{args:List Value}{h:Heap}{R:Value->Heap->Prop}{Mid:Env->Heap->Prop}(hm:P.follows .mixedOrders=Sq)(hf:P.funcs[f]? = Sj fn)(hb:fn.body=Sj (.seq c0 (.seq (.region id #[o1,o2] Sr) c1)))(h1:o1.op = .makeFunc (.func g) #[] capops)(h1d:o1.dst=Sj t)(h1g:o1.guard=Sk)(h2:o2.op = .defer ⟨.value (.tmp t),#[],tys⟩)(h2d:o2.dst=Sk)(h2g:o2.guard=Sk)(ht:t<fn.ntmps)(hg:isFn P g=Sq)(hL0:dN P fn.ntmps live0 liveR0 Sr c0=Sj L0)(hp0:L0.plain=Sq)(hL1:dN P fn.ntmps live1 liveR1 Sr c1=Sj L1)(hp1:L1.plain=Sq)(hres:fn.results.toList.mapM (resE P)=Sj res)(hn:args.length<=fn.ntmps)(hw:@LC.wp noPP P L0 (fj Mid λ_ _ _=>False) (kh 0 args) h)(hmid : ∀ρ hh,Mid ρ hh->∃capv,sT ρ capops.toList=Sj capv/\∃pp:PP,
   @LC.wp pp P L1 (λe ρ2 h2=>(e = .normal\/e = .ret)/\∃S,rP P g capv.toArray .returning h2 S/\∀u' h3,S u' h3->settle u' = .returning/\∃vs,evs (look ρ2) (vw h3) res=Sj vs/\R (pack vs) h3) (bX ρ [t]) hh/\
   ∀ch ρ2 h2,pp.kp ch h2->pp.fx ρ2->∃S,rP P g capv.toArray (.panicking ch) h2 S/\∀u' h3,S u' h3->settle u' = .returning/\∃vs,evs (look ρ2) (vw h3) res=Sj vs/\R (pack vs) h3):
  aw P f args.toArray h R:=by
 intro w hwh;subst hwh;have hsat:Sat (kh 0 args) { tmps:=args.toArray++Array.replicate (fn.ntmps-args.toArray.size) undef,defers:=[] }:=by
  intro t v hl;obtain⟨_,h2⟩:=oK args 0 t v hl;have:t<args.length:=by
   rcases OD t args.length with h | h
   ·exact h
   simp[O9 h]at h2
  simp only[Nat.sub_zero]at h2;simp only[Rj,Ql,this,if_true,Rk];exact h2
 refine(callsIn_wide (n:=0)).1 (callsIn_of_wp_defers hf hb trivial (wpIn_seq (wpIn_mono (dz (r:=Sk) hm c0 hL0 (λ_=>rfl) hw hsat S7) ?_)));rintro e a1 w1 ⟨ρ1,s1,n1,⟨ms,hds,hms,_⟩,hq,hS1⟩;rw[hms hp0]at hds;have hds:a1.defers=[]:=hds;have hq:=qm hq;cases e with
 | normal=>
  obtain⟨capv,hcap,pp,hwp,hpan⟩:=hmid ρ1 w1.heap hq;have hev:=xY s1 hcap;refine wpIn_seq (wpIn_region_list ?_);have wt1:Region.wanted o1 (yielded #[o1,o2] a1.tmps)=true:=by simp[Region.wanted,h1g]
  have hf1:(execOp a1.eval o1).run P w1 = .ok (.value (.func (.func g) #[] capv.toArray)) w1:=by
   simp only[execOp,h1];have:capops.map a1.eval=capv.toArray:=by rw[<-hev,<-Array.toList_inj];simp
   simp[this,Instr.makeFunc]
  have hput:a1.put o1.dst (.func (.func g) #[] capv.toArray)={ tmps:=a1.tmps.setIfInBounds t (.func (.func g) #[] capv.toArray),defers:=a1.defers }:=by rw[h1d];rfl
  have hget:(a1.tmps.setIfInBounds t (.func (.func g) #[] capv.toArray))[t]? = Sj (.func (.func g) #[] capv.toArray):=by rw[Q6];simp[n1,ht]
  simp only[wpListIn];rw[if_pos wt1];refine⟨λ_ _=>trivial,?_⟩;rw[Oper.semAt_eq _ _ _ (by intro c e;rw[h1]at e;cases e),hf1];simp only[Oper.uponIn,hput];have wt2:Region.wanted o2 (yielded #[o1,o2] (a1.tmps.setIfInBounds t (.func (.func g) #[] capv.toArray)))=true:=by simp[Region.wanted,h2g]
  rw[if_pos wt2];have hf2:(execOp (Act.eval { tmps:=a1.tmps.setIfInBounds t (.func (.func g) #[] capv.toArray),defers:=a1.defers }) o2).run P w1 = .ok (.defer { target:=.fn (.func g) capv.toArray,args:=#[] }) w1:=by simp only[execOp,h2];simp[resolve,Act.eval,hget,Deferred.ofValue]
  refine⟨λ_ _=>trivial,?_⟩;rw[show Fence.wide.round=Sk from rfl,Oper.semAt_none,hf2];simp only[Oper.uponIn,h2d,Act.put,hds];show c1.wpIn (Fw Sk) 0 P _ _ _;have s2:Sat (bX ρ1 [t]) { tmps:=a1.tmps.setIfInBounds t (.func (.func g) #[] capv.toArray),defers:=[{ target:=.fn (.func g) capv.toArray,args:=#[] }] }:=by intro x v hl;obtain⟨e1,e2⟩:=lX _ _ _ _ hl;have hne:t≠x:=λe=>e1 (by simp[e]);simp only[PB hne];exact s1 x v e2
  refine wpIn_mono (dz (pp:=pp) (r:=Sk) (a:={ tmps:=a1.tmps.setIfInBounds t (.func (.func g) #[] capv.toArray),defers:=[{ target:=.fn (.func g) capv.toArray,args:=#[] }] }) hm c1 hL1 (λ_=>rfl) hwp s2 (by simp[n1])) ?_;rintro e a2 w2 ⟨ρ2,s3,n3,⟨ms2,hds2,hms2,_⟩,hq2,hS2⟩;rw[hms2 hp1]at hds2;have hds2:a2.defers=[{ target:=.fn (.func g) capv.toArray,args:=#[] }]:=hds2;have fin : ∀(u:FrameMode),u≠.run->(∃S,rP P g capv.toArray u w2.heap S/\∀u' h3,S u' h3->settle u' = .returning/\∃vs,evs (look ρ2) (vw h3) res=Sj vs/\R (pack vs) h3)->
    LeavesIn (Fw Sk) 0 P fn a2.tmps (λe w'=>∃v,e = .returned v/\R v w'.heap/\Same w w') a2.defers u w2:=by rintro u hu ⟨S,hc,hS⟩;refine Dd hg hds2 hu hc λu' w' hu' hsame=>?_;obtain⟨g1,vs,g2,g3⟩:=hS u' w'.heap hu';exact⟨g1,pack vs,mS hres (qn (λt v h=>s3 t v h) g2),pack vs,rfl,g3,(hS1.trans hS2).trans hsame⟩
  cases e with
  | normal=>exact fin .returning Sa hq2.2
  | ret=>exact fin .returning Sa hq2.2
  | panic ch=>exact fin (.panicking ch) Sa (hpan ch ρ2 w2.heap hq2.2 hq2.1)
  | exit i=>rcases hq2.1 with h | h<;>cases h
  | goto l=>rcases hq2.1 with h | h<;>cases h
  | outgrown=>rcases hq2.1 with h | h<;>cases h
 | _=>exact hq.elim
def jN:FrameMode->Value × FrameMode
 | .panicking ({ v,recovered:=false,goexit:=false }::older)=>(v,.panicking ({ v,recovered:=true }::older))
 | u=>(.nilIface,u)
theorem pD{g:FuncId}{fn:Func}{c1:Code}{id t:Nat}{o:Oper}{tys:Array TypeId}{live liveR:List Nat}{L:LC}{args:List Value}{u:FrameMode}{h:Heap}{S:FrameMode->Heap->Prop}(hm:P.follows .mixedOrders=Sq)(hf:P.funcs[g]? = Sj fn)(hb:fn.body=Sj (.seq (.region id #[o] Sr) c1))(ho:o.op = .call ⟨.builtin .recover,#[],tys⟩)(hod:o.dst=Sj t)(hog:o.guard=Sk)(ht:t<fn.ntmps)(hL:dN P fn.ntmps live liveR Sr c1=Sj L)(hp:L.plain=Sq)(hr:fn.results = #[])(hn:args.length<=fn.ntmps)(hw:@LC.wp noPP P L (λe _ h'=>(e = .normal\/e = .ret)/\S (jN u).2 h') ((t,(jN u).1)::bX (kh 0 args) [t]) h):rP P g args.toArray u h S:=by
 intro w hwh;subst hwh;refine callsDIn_of_wpSIn hf hb trivial λc₀ cs hu=>?_;apply wpSIn_seq;apply wpSIn_region;have hsat:Sat (kh 0 args) { tmps:=args.toArray++Array.replicate (fn.ntmps-args.toArray.size) undef,defers:=[] }:=by
  intro t v hl;obtain⟨_,h2⟩:=oK args 0 t v hl;have:t<args.length:=by
   rcases OD t args.length with h | h
   ·exact h
   simp[O9 h]at h2
  simp only[Nat.sub_zero]at h2;simp only[Rj,Ql,this,if_true,Rk];exact h2
 have hsz:(args.toArray++Array.replicate (fn.ntmps-args.toArray.size) undef).size=fn.ntmps:=by simp;omega
 have hex : ∀ρ,(execOp ρ o).run P w = .ok .recover w:=λρ=>by simp only[execOp,ho];simp[resolve,invoke,builtin]
 generalize args.toArray++Array.replicate (fn.ntmps-args.toArray.size) undef=tm at hsat hsz;have hwant : ∀tm',Region.wanted o (yielded #[o] tm')=true:=λtm'=>by simp[Region.wanted,hog]
 have key : ∀(v:Value) (c':Frame),(jN u).1=v->c'={ c₀ with mode:=(jN u).2 }->c1.wpSIn (Fw Sk) 0 P (bodyPostS P fn c₀ cs λe u' w'=>e = .returned (.tuple #[])/\S u' w'.heap/\Same w w') { tmps:=tm.setIfInBounds t v,defers:=[] } (c'::cs) w:=by
  intro v c' hv hc';have s2:Sat ((t,(jN u).1)::bX (kh 0 args) [t]) { tmps:=tm.setIfInBounds t v,defers:=[] }:=by
   intro x y hl;simp only[look]at hl;split at hl
   ·rename_i e;subst e;simp only[Ow]at hl;rw[<-hl,hv,Q6];simp[hsz,ht]
   rename_i e;obtain⟨e1,e2⟩:=lX _ _ _ _ hl;simp only[PB e];exact hsat x y e2
  refine wpSIn_of_wpIn rfl (wpIn_mono (dz (pp:=noPP) (r:=Sk) (a:={ tmps:=tm.setIfInBounds t v,defers:=[] }) hm c1 hL (λ_=>rfl) hw s2 (by simp[hsz])) ?_);rintro e a2 w2 ⟨ρ2,s3,n3,⟨ms2,hds2,hms2,_⟩,hq2,hS2⟩;rw[hms2 hp]at hds2;have hds2:a2.defers=[]:=hds2;have hq2:=qm hq2;have hres:(results fn a2.tmps).run P w2 = .ok (.tuple #[]) w2:=by simp[results,hr]
  have fin:a2.defers=[]/\∃u',c'::cs={ c₀ with mode:=u' }::cs/\∃v,(results fn a2.tmps).run P w2 = .ok v w2/\Ending.returned v = .returned (.tuple #[])/\S u' w2.heap/\Same w w2:=
   ⟨hds2,_,by rw[hc'],_,hres,rfl,hq2.2,hS2⟩;cases e with
  | normal=>exact fin
  | ret=>exact fin
  | panic ch=>rcases hq2.1 with h | h<;>cases h
  | exit i=>rcases hq2.1 with h | h<;>cases h
  | goto l=>rcases hq2.1 with h | h<;>cases h
  | outgrown=>rcases hq2.1 with h | h<;>cases h
 have hr0:List.range (#[o]:Array Oper).size=[0]:=rfl;rw[hr0];simp only[wpOpsSIn];have ho0:(#[o]:Array Oper)[0]? = Sj o:=rfl;rw[ho0];simp only[hwant,if_true,hex];refine⟨λ_ _=>trivial,?_⟩;by_cases hcase : ∃v older,u = .panicking ({ v,recovered:=false,goexit:=false }::older)
 ·obtain⟨v,older,rfl⟩:=hcase;have e:recoverD (c₀::cs)=Sj (v,{ c₀ with mode:=.panicking ({ v,recovered:=true }::older) }::cs):=by simp only[recoverD,hu]
  rw[e];simp only[hod];exact key v _ rfl rfl
 have e:recoverD (c₀::cs)=none:=by
  simp only[recoverD,hu];split
  ·exact absurd ⟨_,_,rfl⟩ hcase
  rfl
 have er:jN u=(.nilIface,u):=by
  unfold jN;split
  ·exact absurd ⟨_,_,rfl⟩ hcase
  rfl
 rw[e];simp only[hod];exact key .nilIface c₀ (by rw[er]) (by rw[er,<-hu])
section
variable {po po2:OP} {pp:PP}
structure Part (α β:Type) [Rep α] [Rep β] (o:Nat) (get:α->β) (set:α->β->α):Prop where
 fits:o+Rep.n β<=Rep.n α
 get : ∀{H:View} {cs:List Value} {d:α},Rep.rd H cs d->Rep.rd H ((cs.drop o).take (Rep.n β)) (get d)
 set : ∀{H:View} {cs us:List Value} {d:α} {x:β},Rep.rd H cs d->Rep.rd H us x->Rep.rd H (cs.take o++us++cs.drop (o+Rep.n β)) (set d x)
theorem Part.all[Rep α]:Part α α 0 (λd=>d) (λ_ x=>x) where
 fits:=by simp
 get:=λh=>by rw[P7,OK (by rw[Rep.len h];exact OA _)];exact h
 set:=λh k=>by
  have:=Rep.len h
  rw[QQ,Pz,Pq S0,Qj];exact k
section
variable {α β γ:Type} [Rep α] [Rep β] [Rep γ] {o:Nat}
theorem Part.fst{g:α->γ}{s:α->γ->α}(p:Part α γ o g s):Part (Cat α β) γ o (λd=>g d.a) (λd x=>⟨s d.a x,d.b⟩) where
 fits:=OY p.fits (RV _ _)
 get:=by
  rintro H cs d ⟨c1,c2,rfl,h1,h2⟩
  have l1:=Rep.len h1
  have f:=p.fits
  rw[PF S0,Pt S7]
  exact p.get h1
 set:=by
  rintro H cs us d x ⟨c1,c2,rfl,h1,h2⟩ k
  have l1:=Rep.len h1
  have f:=p.fits
  refine⟨_,c2,?_,p.set h1 k,h2⟩
  rw[Pt S0,PF S0]
  simp[ON]
theorem Part.snd{g:β->γ}{s:β->γ->β}(p:Part β γ o g s):Part (Cat α β) γ (Rep.n α+o) (λd=>g d.b) (λd x=>⟨d.a,s d.b x⟩) where
 fits:=by
  have:=p.fits
  show Rep.n α+o+Rep.n γ<=Rep.n α+Rep.n β
  omega
 get:=by
  rintro H cs d ⟨c1,c2,rfl,h1,h2⟩
  have l1:=Rep.len h1
  rw[Qz,Pq S0,Pz,show Rep.n α+o-c1.length=o by omega]
  exact p.get h2
 set:=by
  rintro H cs us d x ⟨c1,c2,rfl,h1,h2⟩ k
  have l1:=Rep.len h1
  refine⟨c1,_,?_,h1,p.set h2 k⟩
  rw[PY,OK S0,show Rep.n α+o-c1.length=o by omega,Qz,Pq S0,Pz,
   show Rep.n α+o+Rep.n γ-c1.length=o+Rep.n γ by omega]
  simp[ON]
end
theorem Part.via {α β γ:Type} [ra:Rep α] [rb:Rep β] {f:γ->α} {o o':Nat} {g:α->β} {s:α->β->α} (p:Part α β o g s) {g':γ->β} {s':γ->β->γ} (hg : ∀d,g' d=g (f d)) (hs : ∀d x,f (s' d x)=s (f d) x) (ho:o=o':=by rfl):@Part γ β (Rep.via f) rb o' g' s':=by subst ho;exact @Part.mk γ β (Rep.via f) rb o g' s' p.fits (fun{H cs d} h=>by rw[hg];exact p.get h) (fun{H cs us d x} h k=>by have:=p.set (show Rep.rd H cs (f d) from h) k;rw[<-hs]at this;exact this)
variable{β:Type}
theorem At.part[Rep α][Rep β]{o:Nat}{g:α->β}{s:α->β->α}(p:Part α β o g s){a:Addr}{d:α}(h:At H a d):At H (a.add o) (g d):=by obtain⟨cs,h1,h2⟩:=h;have l:=Rep.len h2;exact⟨_,AH h1 o (Rep.n β) (by rw[l];exact p.fits),p.get h2⟩
theorem Rd.Nh[Rep α][Rep β]{o:Nat}{g:α->β}{s:α->β->α}(p:Part α β o g s)(ha:Rep.agg α=Sq)(hb:Rep.agg β=Sr){K:View}{v:Value}{d:α}(h:Rd H v d): ∃u,Un.ev K (.part o) v=Sj u/\Rd H u (g d):=by
 unfold Rd at h;rw[if_pos ha]at h;obtain⟨cs,rfl,h⟩:=h;have l:=Rep.len h;have f:=p.fits;have k:=p.get h;rw[Rep.one hb]at f k;have hlt:o<cs.size:=by simpa using(show o<cs.toList.length by omega)
 refine⟨cs[o],by simp[hlt],?_⟩;unfold Rd;rw[if_neg (by simp[hb])];rw[O6 (by simpa using hlt)]at k;simpa using k
theorem InD.MN:Part InD Int 0 InD.frm (λd x=>{ d with frm:=x }):=(Part.fst Part.all).via (λ_=>rfl) λ_ _=>rfl
theorem InD.Ev:Part InD Int 1 InD.val (λd x=>{ d with val:=x }):=(Part.snd Part.all).via (λ_=>rfl) λ_ _=>rfl
theorem PhiD.iy:Part PhiD Int 0 PhiD.dst (λd x=>{ d with dst:=x }):=(Part.fst Part.all).via (λ_=>rfl) λ_ _=>rfl
theorem PhiD.mB:Part PhiD (List InD) 1 PhiD.ins (λd x=>{ d with ins:=x }):=(Part.snd Part.all).via (λ_=>rfl) λ_ _=>rfl
theorem InsD.tB:Part InsD Int 0 InsD.op (λd x=>{ d with op:=x }):=(Part.fst Part.all).via (λ_=>rfl) λ_ _=>rfl
theorem InsD.iy:Part InsD Int 1 InsD.dst (λd x=>{ d with dst:=x }):=(Part.snd (Part.fst Part.all)).via (λ_=>rfl) λ_ _=>rfl
theorem InsD.y6:Part InsD Int 2 InsD.two (λd x=>{ d with two:=x }):=(Part.snd (Part.snd (Part.fst Part.all))).via (λ_=>rfl) λ_ _=>rfl
theorem InsD.eS:Part InsD (List Int) 3 InsD.args (λd x=>{ d with args:=x }):=(Part.snd (Part.snd (Part.snd (Part.fst Part.all)))).via (λ_=>rfl) λ_ _=>rfl
theorem InsD.je:Part InsD I32 4 InsD.imm (λd x=>{ d with imm:=x }):=(Part.snd (Part.snd (Part.snd (Part.snd Part.all)))).via (λ_=>rfl) λ_ _=>rfl
theorem cM.Dn:Part cM Int 0 cM.kind (λd x=>{ d with kind:=x }):=(Part.fst Part.all).via (λ_=>rfl) λ_ _=>rfl
theorem cM.eS:Part cM (List Int) 1 cM.args (λd x=>{ d with args:=x }):=(Part.snd (Part.fst Part.all)).via (λ_=>rfl) λ_ _=>rfl
theorem cM.Fl:Part cM (List Int) 2 cM.to (λd x=>{ d with to:=x }):=(Part.snd (Part.snd (Part.fst Part.all))).via (λ_=>rfl) λ_ _=>rfl
theorem cM.je:Part cM I32 3 cM.imm (λd x=>{ d with imm:=x }):=(Part.snd (Part.snd (Part.snd Part.all))).via (λ_=>rfl) λ_ _=>rfl
theorem BlkD.uz:Part BlkD (List PhiD) 0 BlkD.phis (λd x=>{ d with phis:=x }):=(Part.fst Part.all).via (λ_=>rfl) λ_ _=>rfl
theorem BlkD.mB:Part BlkD (List InsD) 1 BlkD.ins (λd x=>{ d with ins:=x }):=(Part.snd (Part.fst Part.all)).via (λ_=>rfl) λ_ _=>rfl
theorem BlkD.n7:Part BlkD cM 2 BlkD.term (λd x=>{ d with term:=x }):=(Part.snd (Part.snd Part.all)).via (λ_=>rfl) λ_ _=>rfl
theorem an.Ib:Part an Int 0 an.params (λd x=>{ d with params:=x }):=(Part.fst Part.all).via (λ_=>rfl) λ_ _=>rfl
theorem an.sM:Part an (List BlkD) 1 an.blocks (λd x=>{ d with blocks:=x }):=(Part.snd Part.all).via (λ_=>rfl) λ_ _=>rfl
def Sl {α:Type} [Rep α] (H:View) (a:Addr) (v:Value) (l:List α):Prop:=ak H a=Sj v/\SlRd H v l
theorem At.sl[Rep α]{a:Addr}{l:List α}(h:At H a l): ∃v,Sl H a v l:=h.list
variable{n:Nat}
theorem Addr.z{b o:Nat}:(⟨b,o,Sk⟩:Addr).add n=⟨b,o+n,Sk⟩:=bM rfl n
section
variable {α:Type} [Rep α] {P:Program} {ty:TypeId} {us:List (Nat × Value)} {h:Heap}
theorem gN{v:Value}{d:α}(hr:Rd H v d):Rep.rd H v.cells.toList d/\v.cells.size=Rep.n α/\∀c∈v.cells.toList,c.oneCell'=true:=by
 unfold Rd at hr;split at hr
 ·obtain⟨cs,rfl,h⟩:=hr;exact⟨h,by rw[<-Rep.len h];rfl,λc hc=>Rep.flat h c hc⟩
 rename_i ha;have hone:=Rep.one (α:=α) (by simpa using ha);have hfl:=Rep.flat hr v Sa;have:v.cells = #[v]:=by cases v<;>first | rfl | simp[Value.oneCell']at hfl
 rw[this];exact⟨by simpa using hr,by simp[hone],by simpa using hfl⟩
theorem rO{b:Nat}{v:Value}{d:α}{t:TypeId}{fz:Nat × Nat}(hb:H b=Sj (.cells v.cells t fz))(hr:Rd H v d):At H ⟨b,0,Sk⟩ d:=
 ⟨_,⟨v.cells,t,fz,rfl,hb,by simp;exact OK Sa⟩,(gN hr).1⟩
variable{K:Value->Heap->Prop}
theorem fI{t:TypeId}{x:Operand}{v:Value}{d:α}(hx:asg us x=v)(hv:Rd (vw h) v d)(hk : ∀h':Heap,h'=h.push (.cells v.cells t)->(vw h).le (vw h')->h'.size=h.size+1->At (vw h') ⟨h.size,0,Sk⟩ d->K (ptz h.size) h'):step P (.box t x) ty us h K:=
 dc hx (hk _ rfl (bP _ _) Sa (rO (t:=t) (fz:=(0,0)) (by simp[vw]) (hv.mono (bP _ _))))
theorem SlRd.whole{K:View}{v:Value}{l:List α}(h:SlRd H v l)(ha:Rep.agg α=Sq)(hk:H.le K){i:Nat}(hi:i<l.length): ∃u,Un.ev K (.bV (Rep.n α)) (Sp (Sj ((slA v).add (i*Rep.n α))))=Sj u/\Rd K u l[i]:=
 ((h.at hi).mono hk).bV ha
end
theorem At.rng{a:Addr}{d:Int}(h:At H a d):-9223372036854775808<=d/\d<=9223372036854775807:=by obtain⟨u,h1,h2⟩:=h.load rfl;exact(bO.1 h2).2
theorem At.bool {H:View} {a:Addr} {d:Bool} (h:At H a d):ak H a=Sj (.bool d):=by obtain⟨u,h1,h2⟩:=h.load rfl;rw[wc.1 h2]at h1;exact h1
theorem aQ[Rep α]:SlRd H (Sn Sk 0 0) ([]:List α):=⟨Sk,0,rfl,by simp,by simp,.inl rfl⟩
variable{ty:TypeId}{bytes:Nat}{us:List (Nat × Value)}{K:Value->Heap->Prop}
theorem lH[Rep α]{t e:Nat}{z:Value}{ps:Array (Nat × Operand)}{vs:List Value}{ds:List α}{h:Heap}(ha:Rep.agg α=Sr)(hT:ef P t e 1 bytes z)(hp:ps.map (λp=>(p.1,asg us p.2))=((vs.zipIdx 0).map λp=>(p.2,p.1)).toArray){X:View}(hr:pG X vs ds)(hX:X.le (vw h))(hn:ds.length=n)(hb:n<=16777216)(hk : ∀u h',(vw h).le (vw h')->h'.size=h.size+1->(∀Y:View,X.le Y->Y h.size=h'[h.size]?->SlRd Y u ds)->u.ownBlock=Sj h.size->K u h'):step P (.buildSlice t n ps) ty us h K:=by
 have hl:=hr.len;obtain⟨B,h1,h2⟩:=Bv vs 0 ((Array.range (n*1)).map (z.cells[· % z.cells.size]!)) (λv hv=>by obtain⟨i,hi,rfl⟩:=OU hv;exact(hr.get i hi S0).Lv ha) S7;have hB:B=vs.toArray:=by rw[<-Array.toList_inj,h2];simp
 refine tx hT S0 hp h1 ?_;have hle:=bP h (.cells B e);have hone:=Rep.one (α:=α) ha;refine hk _ _ hle Sa (λY hY hYb=>⟨Sj ⟨h.size,0,Sk⟩,n,by rw[hn],by omega,by omega,.inr ⟨_,rfl,rfl,λi hi=>?_⟩⟩) rfl;rw[bM rfl,hone];refine⟨[vs[i]],⟨B,e,(0,0),rfl,by rw[hYb];simp,?_⟩,?_⟩
 ·rw[hB];have hd:vs.drop i=vs[i]::vs.drop (i+1):=O6 S0;simp only[PN,Px,Py,Q0];show List.take (0+1) (List.drop i vs)=_;rw[hd];rfl
 have:=(hr.get i S0 hi).mono hY;unfold Rd at this;rw[if_neg (by simp[ha])]at this;exact this
def mapE {β:Type} (enc:β->Value) (f:Int->Option β):Value->Option Value
 | Sf Sg j=>(f j).map enc
 | _=>Sk
@[simp] theorem pM{enc:β->Value}{f:Int->Option β}{j:Int}:mapE enc f (Sf Sg j)=(f j).map enc:=rfl
def putM {β:Type} (f:Int->Option β) (j:Int) (v:β):Int->Option β:=λi=>if i=j then Sj v else f i
theorem jg{enc:β->Value}{f:Int->Option β}{j:Int}{v:β}:mapE enc (putM f j v) (Sf Sg j)=Sj (enc v)/\∀u,u≠Sf Sg j->mapE enc (putM f j v) u=mapE enc f u:=by
 refine⟨by simp[putM],λu hu=>?_⟩;cases u<;>try rfl
 rename_i k i;cases k<;>try rfl
 have:i≠j:=λe=>hu (by rw[e]);simp[putM,this]
theorem qv{enc:β->Value}:mapE enc (λ_=>.none)=λ_=>.none:=by
 funext u;cases u<;>try rfl
 rename_i k i;cases k<;>rfl
theorem Kept.skip {h h':Heap} {r:Nat} (k:Kept h h' (Sj r)):(skip r h).le (Lft.skip r h'):=λb o hb=>by
 unfold Lft.skip at hb ⊢;split at hb
 ·cases hb
 rename_i hne;rw[if_neg hne];have hlt:=(OJ.1 hb).1;rw[k.block b hlt (by simpa using hne)];exact hb
variable{h':Heap}{r:Nat}
theorem Kept.Ed{h:Heap}(k:Kept h h' (Sj r)):(Lft.skip r h).le (vw h'):=Sc k.skip cD
theorem Kept.of_le{h:Heap}{b:Option Nat}(hle:(vw h).le (vw h')):Kept h h' b:=⟨cm hle,λk hk _=>by have:=hle k h[k] (OX hk);rw[OX hk];exact this⟩
theorem Kept.upd{h:Heap}(hs:h'.size=h.size)(ho : ∀b,b≠r->h'[b]? = h[b]?):Kept h h' (Sj r):=⟨by omega,λk _ hk=>ho k (by simpa using hk)⟩
variable{ty2:TypeId}{y:Operand}{us2:Value->List (Nat × Value)}
theorem gA{h:Heap}{t:TypeId}{z:Value}{x:Operand}{v:Value}(hz:(P.info? t).map (·.zero)=Sj (Sj z))(hzc:z.cells.size=n)(hsz:cO P t=Sj n)(hv:v.cells.size=n)(hone : ∀c∈v.cells.toList,c.oneCell'=Sq)(hx : ∀p,asg (us2 p) x=p)(hy : ∀p,asg (us2 p) y=v)(hk : ∀h':Heap,(vw h).le (vw h')->h'.size=h.size+1->h'[h.size]? = Sj (.cells v.cells t (0,0))->K (ptz h.size) h'):
  @step po P (.alloc t) ty us h λp h2=>@step po2 P (.store t x y) ty2 (us2 p) h2 λ_ h3=>K p h3:=by
 refine dC hz ?_;refine eK (g:=h.size) (o:=0) (n:=n) (v:=v) (cur:=z.cells) (e:=t) hsz (hx _) (hy _) hv hone Sa S0 λh' hs ⟨row,hrow,he⟩ hoth=>?_;have hrow2:row=v.cells:=by rw[<-Array.toList_inj,he];simp only[QQ,Pz,PN];rw[Pq (by simp[hzc]),Qj]
 rw[hrow2]at hrow;have hle:(vw h).le (vw h'):=λb o hb=>by have hlt:=View.lt (View.le_refl (vw h)) hb;show h'[b]? = _;rw[hoth b S0];exact bP _ _ b o hb
 exact hk h' hle (by rw[hs];simp) hrow
section
variable {σ α ε:Type} {f:σ->α->Except ε σ} {s s':σ} {l:List α} {k:Nat} {t:ε}
theorem DG[Inhabited α](h:k<l.length)(hs:(l.take k).foldlM f s = .ok s'):(l.take (k+1)).foldlM f s=f s' (nth l k):=by rw[OS h,RG,hs,ay h];show List.foldlM f s' [l[k]]=f s' l[k];rw[PH];cases f s' l[k]<;>rfl
theorem Ge(h:(l.take k).foldlM f s = .error t):l.foldlM f s = .error t:=by
 have e:l.foldlM f s=(l.take k++l.drop k).foldlM f s:=by rw[P9]
 rw[e,RG,h];rfl
end
def upE {σ ε:Type} (f:Nat->σ->Except ε σ):Nat->σ->Except ε σ
 | 0,s=>.ok s
 | k+1,s=>match upE f k s with
  | .ok s'=>f k s'
  | .error t=>.error t
theorem nD{σ ε:Type}{f:Nat->σ->Except ε σ}{k:Nat}{s s':σ}(h:upE f k s = .ok s'):upE f (k+1) s=f k s':=by simp only[upE,h]
theorem Aa {σ ε:Type} {f:Nat->σ->Except ε σ} {s:σ} {t:ε} : ∀{n k:Nat},k<=n->upE f k s = .error t->upE f n s = .error t
 | 0,k,hk,h=>by
  have:k=0:=by omega
  subst this;exact h
 | n+1,k,hk,h=>by
  rcases OD n k with hlt | hge
  ·have:k=n+1:=by omega
   subst this;exact h
  simp only[upE,Aa hge h]
theorem zx{σ ε:Type}{f:Nat->σ->Except ε σ}{k:Nat}{s s':σ}{t:ε}(h:upE f k s = .ok s')(hk:k<n)(he:f k s' = .error t):upE f n s = .error t:=
 Aa (k:=k+1) hk (by rw[nD h,he])
theorem dv[Rep α]{h:Heap}{t:TypeId}{z:Value}{x:Operand}{v:Value}{d:α}{X:View}(hz:(P.info? t).map (·.zero)=Sj (Sj z))(hzc:z.cells.size=Rep.n α)(hsz:cO P t=Sj (Rep.n α))(hv:Rd X v d)(hx : ∀p,asg (us2 p) x=p)(hy : ∀p,asg (us2 p) y=v)(hk : ∀h':Heap,(vw h).le (vw h')->h'.size=h.size+1->(∀Y:View,X.le Y->Y h.size=h'[h.size]?->At Y ⟨h.size,0,Sk⟩ d)->K (ptz h.size) h'):
  @step po P (.alloc t) ty us h λp h2=>@step po2 P (.store t x y) ty2 (us2 p) h2 λ_ h3=>K p h3:=by obtain⟨c1,c2,c3⟩:=gN hv;exact gA hz hzc hsz c2 c3 hx hy λh' hle hs hb=>hk h' hle hs λY hY hYb=>rO (by rw[hYb];exact hb) (hv.mono hY)
theorem kN{B:Nat}{d:BlkD}(h:At H ⟨B,0,Sk⟩ d): ∃vp vi va vt,Sl H ⟨B,0,Sk⟩ vp d.phis/\Sl H ⟨B,1,Sk⟩ vi d.ins/\ak H ⟨B,2,Sk⟩=Sj (Sf Sg d.term.kind)/\Sl H ⟨B,3,Sk⟩ va d.term.args/\Sl H ⟨B,4,Sk⟩ vt d.term.to:=by obtain⟨vp,h1⟩:=(h.part BlkD.uz).sl;obtain⟨vi,h2⟩:=(h.part BlkD.mB).sl;have ht:=h.part BlkD.n7;obtain⟨va,h4⟩:=(ht.part cM.eS).sl;obtain⟨vt,h5⟩:=(ht.part cM.Fl).sl;exact⟨vp,vi,va,vt,by simpa using h1,by simpa using h2,by simpa using(ht.part cM.Dn).int,by simpa using h4,by simpa using h5⟩
theorem An{B:Nat}{d:PhiD}(h:At H ⟨B,0,Sk⟩ d):ak H ⟨B,0,Sk⟩=Sj (Sf Sg d.dst)/\∃v,Sl H ⟨B,1,Sk⟩ v d.ins:=by obtain⟨v,hv⟩:=(h.part PhiD.mB).sl;exact⟨by simpa using(h.part PhiD.iy).int,v,by simpa using hv⟩
theorem kJ{B:Nat}{d:InsD}(h:At H ⟨B,0,Sk⟩ d):ak H ⟨B,0,Sk⟩=Sj (Sf Sg d.op)/\ak H ⟨B,1,Sk⟩=Sj (Sf Sg d.dst)/\ak H ⟨B,2,Sk⟩=Sj (Sf Sg d.two)/\∃v,Sl H ⟨B,3,Sk⟩ v d.args:=by obtain⟨v,hv⟩:=(h.part InsD.eS).sl;exact⟨by simpa using(h.part InsD.tB).int,by simpa using(h.part InsD.iy).int,by simpa using(h.part InsD.y6).int,v,by simpa using hv⟩
theorem iZ{B:Nat}{d:an}(h:At H ⟨B,0,Sk⟩ d):ak H ⟨B,0,Sk⟩=Sj (Sf Sg d.params)/\∃v,Sl H ⟨B,1,Sk⟩ v d.blocks:=by obtain⟨v,hv⟩:=(h.part an.sM).sl;exact⟨by simpa using(h.part an.Ib).int,v,by simpa using hv⟩
theorem Dy{B:Nat}{d:InD}(h:At H ⟨B,0,Sk⟩ d):ak H ⟨B,0,Sk⟩=Sj (Sf Sg d.frm)/\ak H ⟨B,1,Sk⟩=Sj (Sf Sg d.val):=
 ⟨by simpa using(h.part InD.MN).int,by simpa using(h.part InD.Ev).int⟩
theorem SlRd.wh[Rep α][Inhabited α]{v:Value}{l:List α}(h:SlRd H v l)(ha:Rep.agg α=Sq){N:Nat}(hn:Rep.n α=N){i:Nat}(hi:i<l.length): ∃u,(∀K:View,H.le K->Un.ev K (.bV N) (Sp (Sj ((slA v).add (i*N))))=Sj u)/\Rd H u (nth l i):=by subst hn;obtain⟨u,h1,h2⟩:=h.whole ha (View.le_refl H) hi;refine⟨u,λK hk=>?_,by rw[ay hi];exact h2⟩;have:=dD (ρ:=λ_=>Sk) (e:=.un (.bV (Rep.n α)) (.con (Sp (Sj ((slA v).add (i*Rep.n α)))))) hk (v:=u) (by simpa using h1);simpa using this
instance:Inhabited BlkD:=⟨⟨[],[],⟨0,[],[],⟨0⟩⟩⟩⟩
theorem tX{h:Heap}{f:FuncId}{t:Nat}{ops:List Operand}{T:Array TypeId}(hf:asg us (.tmp t) = .func (.func f) #[] caps){R:Value->Heap->Prop}{Rp:List PanicEntry->Heap->Prop}(hfn:isFn P f=Sq)(hc:iQ P f (ops.map (asg us)++caps.toList).toArray h R Rp)(hk : ∀v h',R v h'->K v h')(hp : ∀ch h',Rp ch h'->po.op ch h'):@step po P (.call ⟨.value (.tmp t),ops.toArray,T⟩) ty us h K:=by
 refine cI (po:=po) (vu (po:=po) (R:=R) (f:=f) (args:=(ops.map (asg us)++caps.toList).toArray) (λw _=>?_) hc hk hp);unfold isFn at hfn;cases hfn':P.funcs[f]? with
 | none=>simp[hfn']at hfn
 | some fn=>simp only[hfn',OG,bne_iff_ne,ne_eq]at hfn;obtain⟨h1,h2⟩:=hfn;simp[bI,execOp,resolve,Deferred.ofValue,hf,invoke,callFunc,program,Sem.run,hfn',h1,Option.isNone];cases hb:fn.body<;>simp[hb]at h2 ⊢
variable{b:Bool}
@[simp] theorem Mu{v:Value}:gdv b undef v=undef:=rfl
@[simp] theorem Mm{o:Option Value}:gdO b undef o=Sj undef:=rfl
end
end Go.Lft
namespace Go.Proofs.YtnfiilgdjpdlkaaGreatDoor
open Go Go.Lft
theorem follows:Tryz.prog.follows .mixedOrders=true:=by kernel_rfl
abbrev T.int:Nat:=3
abbrev T.bool:Nat:=4
abbrev T.int32:Nat:=21
abbrev T.aV:Nat:=22
abbrev T.Lm:Nat:=23
abbrev T.nh:Nat:=25
abbrev T.ee:Nat:=27
abbrev T.qc:Nat:=30
abbrev T.nH:Nat:=31
abbrev T.iY:Nat:=33
abbrev T.eZ:Nat:=35
abbrev T.jr:Nat:=36
abbrev T.fT:Nat:=38
abbrev T.jw:Nat:=50
abbrev T.ko:Nat:=55
abbrev T.nT:Nat:=57
abbrev T.mH:Nat:=64
abbrev T.eA:Nat:=70
abbrev T.ed:Nat:=80
abbrev T.oe:Nat:=81
abbrev T.rn:Nat:=87
abbrev T.bj:Nat:=89
abbrev T.sN:Nat:=91
abbrev T.oG:Nat:=93
abbrev T.tK:Nat:=95
abbrev T.tZ:Nat:=97
abbrev T.aT:Nat:=101
abbrev T.jt:Nat:=108
abbrev T.gE:Nat:=109
abbrev T.fO:Nat:=110
abbrev T.bN:Nat:=113
abbrev T.jy:Nat:=116
abbrev T.jU:Nat:=120
abbrev T.oB:Nat:=123
abbrev T.we:Nat:=124
abbrev T.BU:Nat:=127
abbrev T.Cr:Nat:=130
abbrev T.gl:Nat:=136
abbrev T.cy:Nat:=138
abbrev T.fQ:Nat:=144
abbrev T.mb:Nat:=146
abbrev T.fP:Nat:=147
abbrev T.iL:Nat:=149
abbrev T.pC:Nat:=153
abbrev T.IQ:Nat:=154
abbrev T.gR:Nat:=157
abbrev T.eW:Nat:=160
abbrev T.dq:Nat:=185
abbrev T.dL:Nat:=187
theorem U.int:Tryz.prog.underlying T.int=Sj (.int .i64):=by kernel_rfl
theorem U.aV:Tryz.prog.underlying T.aV=Sj (.slice T.int):=by kernel_rfl
theorem El.aV:ef Ss T.aV T.int 1 8 (Sf Sg 0):=fZ R9 R9 rfl S1
theorem El.nh:ef Ss T.nh T.eZ 6 112 (.agg #[(Sn Sk 0 0),(Sn Sk 0 0),(Sf Sg 0),(Sn Sk 0 0),(Sn Sk 0 0),(Sf Si 0)]):=fZ R9 R9 rfl S1
theorem El.qc:ef Ss T.qc T.oG 2 32 (.agg #[(Sf Sg 0),(Sn Sk 0 0)]):=fZ R9 R9 rfl S1
theorem El.nH:ef Ss T.nH T.eA 5 56 (.agg #[(Sf Sg 0),(Sf Sg 0),(Sf Sg 0),(Sn Sk 0 0),(Sf Si 0)]):=fZ R9 R9 rfl S1
theorem El.jr:ef Ss T.jr T.ed 8 80 (.agg #[(Sf Sg 0),(Sf Sg 0),(Sf Sg 0),(Sf Sg 0),(Sf Sg 0),(Sf Sg 0),(Sf Si 0),(Sn Sk 0 0)]):=fZ R9 R9 rfl S1
theorem U.jw:Tryz.prog.underlying T.jw=Sj (.array 2 T.int):=by kernel_rfl
theorem El.ko:ef Ss T.ko T.mH 2 16 (.agg #[(Sf Sg 0),(Sf Sg 0)]):=fZ R9 R9 rfl S1
theorem El.oe:ef Ss T.oe T.int32 1 4 (Sf Si 0):=fZ R9 R9 rfl S1
theorem El.sN:ef Ss T.sN T.tK 2 16 (.agg #[(Sf Sg 0),(Sf Sg 0)]):=fZ R9 R9 rfl S1
theorem U.jt:Tryz.prog.underlying T.jt=Sj (.map T.int T.bool):=by kernel_rfl
theorem U.gE:Tryz.prog.underlying T.gE=Sj (.map T.int T.jw):=by kernel_rfl
theorem El.bN:ef Ss T.bN T.jy 2 16 (.agg #[(Sf Sg 0),(Sf Sg 0)]):=fZ R9 R9 rfl S1
theorem El.jU:ef Ss T.jU T.aV 1 24 (Sn Sk 0 0):=fZ R9 R9 rfl S1
theorem El.oB:ef Ss T.oB T.bool 1 1 (.bool Sr):=fZ R9 R9 rfl S1
theorem El.we:ef Ss T.we T.oB 1 24 (Sn Sk 0 0):=fZ R9 R9 rfl S1
theorem U.cy:Tryz.prog.underlying T.cy=Sj (.map T.int T.gl):=by kernel_rfl
theorem U.fP:Tryz.prog.underlying T.fP=Sj (.map T.int T.jy):=by kernel_rfl
theorem El.gR:ef Ss T.gR T.eW 4 64 (.agg #[(Sf Sg 0),(Sf Sg 0),(Sn Sk 0 0),(Sn Sk 0 0)]):=fZ R9 R9 rfl S1
theorem U.dL:Tryz.prog.underlying T.dL=Sj (.map T.int T.dq):=by kernel_rfl
end Go.Proofs.YtnfiilgdjpdlkaaGreatDoor
namespace Go.Lft
open Go Go.ChangeShapes Go.WideShapes Go.RowKit
structure RT (P:Program) (t:TypeId) (α:Type) [Rep α]:Prop where
 cells : ∀{H:Type} {enc:TypeId × Value->H} {W:World} {spare:Nat->Bool} {held:Bool} {fuel:Nat} {cs:List Value} {d:DataW H} {ps:List MemPlace},
  DataW.trod enc P W 0 spare held fuel t cs=Sj (d,ps)->(∀b∈d.weights P t,b<=reachBytes)->∃x:α,Rep.rd (vw W.heap) cs x
 val : ∀{W:World} {r:Reach} {base:Nat} {v:Value},Value.okWide P W r base t v->if Rep.agg α then ∃cs,v = .agg cs else v.cells = #[v]
theorem RT.arg{P:Program}{t:TypeId}{α:Type}[Rep α](rt:RT P t α){H:Type}{enc:TypeId × Value->H}{W:World}{spare:Nat->Bool}{held:Bool}{v:Value}{d:DataW H}{ps:List MemPlace}{r:Reach}{base:Nat}(h:DataW.Trod enc P W 0 spare held t v d ps)(hok:Value.okWide P W r base t v)(hw : ∀b∈d.weights P t,b<=reachBytes): ∃x:α,Rd (vw W.heap) v x:=by
 obtain⟨fuel,h⟩:=h;obtain⟨x,hx⟩:=rt.cells h hw;have hv:=rt.val hok;refine⟨x,?_⟩;unfold Rd;split
 ·rename_i ha;rw[if_pos ha]at hv;obtain⟨cs,rfl⟩:=hv;exact⟨cs,rfl,hx⟩
 rename_i ha;rw[if_neg ha]at hv;rw[hv]at hx;exact hx
theorem wf_i64{n:Int}(h:(Lit.int .i64 n).wf=Sq):-9223372036854775808<=n/\n<=9223372036854775807:=by simp only[Lit.wf,OG,decide_eq_true_eq]at h;simpa[IntKind.min,IntKind.max,IntKind.signed,IntKind.bits]using h
theorem wf_i32{n:Int}(h:(Lit.int .i32 n).wf=Sq):-2147483648<=n/\n<=2147483647:=by simp only[Lit.wf,OG,decide_eq_true_eq]at h;simpa[IntKind.min,IntKind.max,IntKind.signed,IntKind.bits]using h
section
variable {P:Program} {t e:TypeId} {H:Type} {enc:TypeId × Value->H} {W:World} {spare:Nat->Bool} {held:Bool} {fuel:Nat} {cs:List Value} {x:DataW H × List MemPlace}
theorem trod_int{k:IntKind}(ht:P.underlying t=Sj (.int k))(h:DataW.trod enc P W 0 spare held fuel t cs=Sj x): ∃n,cs=[.int k n]/\(Lit.int k n).wf=true:=by
 cases fuel with
 | zero=>simp[DataW.trod]at h
 | succ n=>unfold DataW.trod at h;rw[ht]at h;split at h<;>simp_all
end
section
variable {P:Program} {t e:TypeId}
theorem LG(ht:P.underlying t=Sj (.int .i64)):RT P t Int where
 cells:=fun{H enc W spare held fuel cs d ps} h _=>by
  obtain⟨n,rfl,hw⟩:=trod_int ht h
  exact⟨n,rfl,wf_i64 hw⟩
 val:=fun{W r base v} h=>by
  simp only[Value.okWide,ht,Cell.okWide]at h
  cases v<;>simp[Cell.ok,ht]at h ⊢<;>first | rfl | simp[Rep.agg,Value.cells]
theorem LF(ht:P.underlying t=Sj (.int .i32)):RT P t I32 where
 cells:=fun{H enc W spare held fuel cs d ps} h _=>by
  obtain⟨n,rfl,hw⟩:=trod_int ht h
  exact⟨⟨n⟩,rfl,wf_i32 hw⟩
 val:=fun{W r base v} h=>by
  simp only[Value.okWide,ht,Cell.okWide]at h
  cases v<;>simp[Cell.ok,ht]at h ⊢<;>first | rfl | simp[Rep.agg,Value.cells]
theorem zp{W:World}{a:Addr}{v:Value}(h:W.cell? a=Sj v):a.spot=Sk/\∃c T fz,W.heap[a.block]? = Sj (.cells c T fz)/\c[a.off]? = Sj v:=by
 unfold World.cell? at h;split at h
 ·rename_i c T fz hb;split at h
  ·cases h
  rename_i hs;exact⟨by simpa using hs,c,T,fz,hb,h⟩
 cases h
theorem xb{W:World}{a:Addr}{n:Nat}{c:List Value}(hn:0<n)(h:W.cells? 0 a n=Sj c):a.spot=Sk/\iJ (vw W.heap) a c:=by
 obtain⟨_,hl,hc⟩:=World.cells?_some h;have h0:=hc 0 hn;have e0:a.add 0=a:=by simp[Addr.add]
 rw[e0,Pk S0]at h0;obtain⟨hs,arr,T,fz,hb,_⟩:=zp h0;refine⟨hs,arr,T,fz,hs,hb,Q9 λi=>?_⟩;by_cases hi:i<n
 ·have h1:=hc i hi;rw[bM hs]at h1;simp only[World.cell?,hb]at h1;rw[PO,if_pos S0,QF];simpa using h1
 rw[O9 S7,O9 S0]
theorem uU {H:Type} {P:Program} {e:TypeId} : ∀{l:List (DataW H)} {d:DataW H},d∈l->∀b∈d.weights P e,b∈DataW.weightsAll P e l
 | x::l,d,hd,b,hb=>by
  rw[DataW.weightsAll,OE];rcases OQ.1 hd with rfl | hd
  ·exact .inl hb
  exact .inr (uU hd b hb)
theorem Cl{α:Type}[Rep α](ht:P.underlying t=Sj (.slice e))(hc:P.cellsOf e=Rep.n α)(hby:1<=P.bytesOf e)(re:RT P e α):RT P t (List α) where
 cells:=fun{H enc W spare held fuel cs d ps} h hw=>by
  rcases DataW.trod_slice ht h with⟨rfl,_⟩ | ⟨a,len,cap,elems,rest,n,_,rfl,hx,_,hlc,hcm,hel,hget,_,_⟩
  ·exact⟨[],_,rfl,Sk,0,rfl,by simp,by simp,.inl rfl⟩
  ·simp only[PZ]at hx
   obtain⟨rfl,_⟩:=hx
   have hwt : ∀b∈(DataW.slice (elems.map (·.1)) (rest.map (·.1))).weights P t,b<=reachBytes:=hw
   unfold DataW.weights at hwt
   rw[ht]at hwt
   simp only[OQ,OE,P4]at hwt
   have hlen:len<=140737488351232:=by
    have h1:=hwt _ (.inl rfl)
    have h2:elems.length*1<=(elems.length+rest.length)*P.bytesOf e:=QA S0 hby
    have h3:reachBytes=140737488351232:=rfl
    omega
   have hpos:=Rep.pos (α:=α)
   have each : ∀i,i<len->∃x:α,∃c,W.cells? 0 (a.add (i*Rep.n α)) (Rep.n α)=Sj c/\Rep.rd (vw W.heap) c x:=by
    intro i hi
    have h1:=hget i hi
    rw[hc,Pk S0,OO]at h1
    obtain⟨c,hc1,hc2⟩:=h1
    obtain⟨x,hx⟩:=re.cells (d:=elems[i].1) (ps:=elems[i].2) hc2 λb hb=>hwt b (.inr (.inl (uU (PG.2 ⟨_,PD S0,rfl⟩) b hb)))
    exact⟨x,c,hc1,hx⟩
   have key : ∀k,k<=len->∃l:List α,l.length=k/\∀(i:Nat) (hi:i<l.length),∃c,W.cells? 0 (a.add (i*Rep.n α)) (Rep.n α)=Sj c/\Rep.rd (vw W.heap) c l[i]:=by
    intro k
    induction k with
    | zero=>exact λ_=>⟨[],rfl,λi hi=>by simp at hi⟩
    | succ k ih=>
     intro hk
     obtain⟨l,h1,h2⟩:=ih S0
     obtain⟨x,c,h3,h4⟩:=each k S0
     refine⟨l++[x],by simp[h1],λi hi=>?_⟩
     rcases OD i l.length with hlt | hge
     ·rw[Qr hlt];exact h2 i hlt
     ·have:i=k:=by simp at hi;omega
      subst this
      rw[QU hge]
      simp only[h1,RA,P6]
      exact⟨c,h3,h4⟩
   obtain⟨l,h1,h2⟩:=key len (OA _)
   refine⟨l,_,rfl,Sj a,cap,by rw[h1],by omega,by omega,?_⟩
   rcases Pv len with h0 | h0
   ·left;exact OV S0
   ·right
    obtain⟨c,h3,_⟩:=h2 0 S0
    have e0:a.add (0*Rep.n α)=a:=by simp[Addr.add]
    rw[e0]at h3
    refine⟨a,rfl,(xb hpos h3).1,λi hi=>?_⟩
    obtain⟨c,h3,h4⟩:=h2 i hi
    exact⟨c,(xb hpos h3).2,h4⟩
 val:=fun{W r base v} h=>by
  simp only[Value.okWide,ht,Cell.okWide]at h
  cases v<;>simp[Cell.ok,ht]at h ⊢<;>first | rfl | simp[Rep.agg,Value.cells]
theorem IK(ht:P.underlying t=Sj (.array 2 e))(he:P.underlying e=Sj (.int .i64))(hc:P.cellsOf e=1)(hc2:P.cellsOf t=2):RT P t (Int × Int) where
 cells:=fun{H enc W spare held fuel cs d ps} h _=>by
  obtain⟨xs,m,_,_,hl,hxl,hget⟩:=DataW.trod_array ht h
  rw[hc2]at hl
  match cs,hl with
  | [u,v],_=>
   have h0:=hget 0 S0
   have h1:=hget 1 S0
   rw[hc,Pk S0]at h0 h1
   obtain⟨a,e1,w1⟩:=trod_int he h0
   obtain⟨b,e2,w2⟩:=trod_int he h1
   simp at e1 e2
   subst e1;subst e2
   exact⟨(a,b),rfl,wf_i64 w1,wf_i64 w2⟩
 val:=fun{W r base v} h=>by
  simp only[Value.okWide,ht]at h
  obtain⟨cs,rfl,_⟩:=h
  exact⟨cs,rfl⟩
end
theorem HE{w w':World}(hs:Same w w')(hle:(vw w.heap).le (vw w'.heap)):Below w.heap.size w w':=
 ⟨hs.os,hs.tape,hs.output,hs.size,λk hk=>by have:=hle k w.heap[k] (OX hk);rw[OX hk];exact this⟩
theorem qV {H:Type} {enc:TypeId × Value->H} {P:Program} {W W':World} (hl:laidOutB P=Sq) (hb:Below W.heap.size W W') : ∀{ts:List TypeId} {vs:List Value} {ds:List (DataW H)} {ps:List MemPlace},
  (∀t∈ts,P.readableRec t=Sq/\t<P.types.size)->DataW.TrodAll enc P W 0 (λ_=>Sq) Sq ts vs ds ps->(∀x∈ps,x.block<W.heap.size)->DataW.TrodAll enc P W' 0 (λb=>decide (b<W.heap.size)) Sq ts vs ds ps
 | [],vs,ds,ps,_,h,_=>by obtain⟨rfl,rfl,rfl⟩:=trodAll_nil h;rfl
 | t::ts,vs,ds,ps,hr,h,hlt=>by obtain⟨v,vs',d,ds',p,q,rfl,rfl,rfl,h1,h2⟩:=trodAll_cons h;obtain⟨g1,g2⟩:=hr t (OM ..);exact⟨p,q,Below.trod hl g1 g2 h1 hb λx hx=>hlt x (O8 _ hx),qV hl hb (λt ht=>hr t (OL _ ht)) h2 λx hx=>hlt x (Pj _ hx),rfl⟩
theorem Im{H:Type}{enc:TypeId × Value->H}{P:Program}{fn:Func}{s:ChangeSpec}{W W':World}{args:Array Value}{ds gs:List (DataW H)}{before:List MemPlace}{fresh:Bool}{tb:TypeId}(hl:laidOutB P=Sq)(hr : ∀t∈fn.params.toList,P.readableRec t=Sq/\t<P.types.size)(hW:DataW.Whole enc P fn.params.toList s.vars Sr W args.toList ds gs before)(hv:s.vars=[])(hs:s.fn H (ds++gs)={ results:=[.lit (.bool Sq)],args:=ds })(hres:fn.resultTypes = #[tb])(htb:P.underlying tb=Sj .bool)(hb:Below W.heap.size W W'):s.post enc P fn Sr fresh Sr Sr W args (.bool Sq) W':=by
 have hW0:=hW;obtain⟨p,q,hA,hV,rfl,_,_⟩:=hW;rw[hv]at hV;obtain⟨rfl,rfl⟩:=trodVars_none hV;have hlt : ∀x∈p,x.block<W.heap.size:=λx hx=>by simpa using hW0.lt x (O8 _ hx)
 refine⟨ds,[],p++[],[],p,[],hW0,?_,?_,?_,hb.frame _,λh=>by cases h⟩
 ·rw[hs,hres];exact trodAll_mk1 (shut_bool htb Sq)
 ·rw[hs];exact qV hl hb hr hA hlt
 rw[hv,hs];rfl
end Go.Lft
namespace Go.Proofs.YtnfiilgdjpdlkaaGreatDoor
open Go Go.Lft
theorem Tryz.own:ownKnob Tryz.prog.godebug=none:=by kernel_rfl
theorem Tryz.laidOut:laidOutB Ss=true:=by kernel_rfl
theorem rtI:RT Ss T.int Int:=LG R9
theorem ML:RT Ss T.int32 I32:=LF R9
theorem rtIs:RT Ss T.aV (List Int):=Cl (e:=T.int) R9 R9 (of_decide_eq_true R9) rtI
end Go.Proofs.YtnfiilgdjpdlkaaGreatDoor
namespace Go.Lft
open Go Go.ChangeShapes Go.WideShapes Go.RowKit
theorem Nc{H:Type}{enc:TypeId × Value->H}{P:Program}{a:Assume}{C:Checked}{os:Os}{f:FuncId}{fn:Func}{s:ChangeSpec}{conds:List PathCond}{fresh:Bool}{tb t1 t2 t3:TypeId}{α β γ:Type}[Rep α][Rep β][Rep γ]{X:World->Prop}{F:Heap->Prop}(hX : ∀w w':World,w.heap=w'.heap->X w->X w')(hF : ∀w,X w->F w.heap)(own:ownKnob C.prog.godebug=Sk)(started:os.Started)(noInit:C.prog.inits.idxOf? f=Sk)(hfn:C.prog.funcs[f]? = Sj fn)(hP:C.prog=P)(witness : ∃(w:World) (tape:Tape) (i:Input),w.os=os/\(w.forCall tape i).Shaped C.prog/\i.vars=[]/\Input.okWide C.prog (w.forCall tape i) .any w.heap.size f i/\
   ((s.pre enc C.prog fn conds Sr (w.forCall tape i).memory i.args/\X (w.forCall tape i).memory)/\sizedMet enc C.prog fn (OpenSpec.ofChange s) Sr (w.forCall tape i).memory i.args)/\a.holds C.prog (lone (Frame.enter C.prog f i.args .normal) [] (w.forCall tape i)))(hl:laidOutB P=Sq)(hr : ∀t∈fn.params.toList,P.readableRec t=Sq/\t<P.types.size)(hv:s.vars=[])(hs : ∀ds,ds.length=3->s.fn H ds={ results:=[.lit (.bool Sq)],args:=ds })(hres:fn.resultTypes = #[tb])(htb:P.underlying tb=Sj .bool)(hp:fn.params = #[t1,t2,t3])(r1:RT P t1 α)(r2:RT P t2 β)(r3:RT P t3 γ)(hcall : ∀(h:Heap) (v1:Value) (x1:α) (v2:Value) (x2:β) (v3:Value) (x3:γ),F h->Rd (vw h) v1 x1->Rd (vw h) v2 x2->Rd (vw h) v3 x3->aw P f #[v1,v2,v3] h (λv h'=>v = .bool Sq/\(vw h).le (vw h'))):
  ReturnsInHanded a C os f .any (λw args=>(s.pre enc C.prog fn conds Sr w args/\X w)/\sizedMet enc C.prog fn (OpenSpec.ofChange s) Sr w args) (s.post enc C.prog fn Sr fresh Sr Sr):=by
 subst hP;refine returnsInHanded_of_change_and (X:=λw _=>X w) (λw w' _ hh h=>hX w w' hh h) own started noInit hfn witness ?_;intro W base args ds gs before hval hW _ hwt hXW _;have hW0:=hW;obtain⟨p,q,hA,hV,_,_,_⟩:=hW;rw[hv]at hV;obtain⟨hgs,_⟩:=trodVars_none hV;rw[hp]at hA;obtain⟨v1,v2,v3,d1,d2,d3,p1,p2,p3,hargs,hds,_,h1,h2,h3⟩:=trodAll_three hA;have hlen:(ds++gs).length=3:=by rw[hds,hgs];rfl
 have e0:s.plain.varTypes C.prog=[]:=by simp[DataSpec.varTypes,ChangeSpec.plain,hv]
 rw[hgs,hds,hp,e0]at hwt;simp only[Qj,Po,decide_eq_true_eq]at hwt;obtain⟨x1,q1⟩:=r1.arg h1 (hval 0 t1 v1 (by rw[hp];rfl) (by rw[hargs];rfl)) (λb hb=>hwt b (by simp[DataW.weightsEach,hb]));obtain⟨x2,q2⟩:=r2.arg h2 (hval 1 t2 v2 (by rw[hp];rfl) (by rw[hargs];rfl)) (λb hb=>hwt b (by simp[DataW.weightsEach,hb]));obtain⟨x3,q3⟩:=r3.arg h3 (hval 2 t3 v3 (by rw[hp];rfl) (by rw[hargs];rfl)) (λb hb=>hwt b (by simp[DataW.weightsEach,hb]));rw[hargs];refine(hcall W.heap v1 x1 v2 x2 v3 x3 (hF W hXW) q1 q2 q3 W rfl).mono ?_;rintro e W' ⟨v,rfl,⟨rfl,hle⟩,hsame⟩;rw[<-hargs];have hgs':ds++gs=ds:=by rw[hgs,Qj]
 exact⟨_,rfl,Im hl hr hW0 hv (by rw[hs _ hlen,hgs']) hres htb (HE hsame hle)⟩
end Go.Lft
namespace Go.Proofs.YtnfiilgdjpdlkaaGreatDoor
open Go Go.Lft
abbrev Gr:=List (List Int)
def nC (g:Gr) (a b:Int):Bool:=decide (0<=a/\a<g.length/\0<=b/\b<g.length)&&(nth g a.toNat).contains b
def lD (g:Gr) (a:Int):List Int:=sift (λb=>nC g a b) (λb=>(b:Int)) g.length
def tD (g:Gr):Gr:=rows (λb=>sift (λa=>nC g a b) (λa=>(a:Int)) g.length) g.length
def wC (gone:Int) (l:List Int) (i:Nat) (out:List Bool):List Bool:=out.set (nth l i).toNat (nth out (nth l i).toNat||decide (nth l i≠gone))
def outBlock (g:Gr) (gone:Int) (a:Nat) (out:List Bool):List Bool:=if nth out a then up (wC gone (lD g a)) (lD g a).length out else out
def nB (g:Gr) (gone:Int) (out:List Bool):List Bool:=up (outBlock g gone) g.length out
def nG (g:Gr) (gone:Int):List Bool:=
 if g.length=0\/gone=0 then List.replicate g.length Sr else up (λ_=>nB g gone) g.length ((List.replicate g.length Sr).set 0 Sq)
theorem Am{β γ:Type}(m:β->γ){f:Nat->β->β}(hf : ∀k x,m (f k x)=m x)(n:Nat)(x:β):m (up f n x)=m x:=by
 induction n with
 | zero=>rfl
 | succ n ih=>rw[up,hf,ih]
def domC (g:Gr) (a b:Nat):Bool:=nth (nG g (-1)) a&&nth (nG g (-1)) b&&(decide ((a:Int)=(b:Int))||!nth (nG g a) b)
def pw (l:List Int) (a:Int):Nat->Int->Bool
 | 0,_=>Sr
 | k+1,b=>if b=a then Sq else if b<0\/(l.length:Int)<=b then Sr else pw l a k (nth l b.toNat)
def dV (l:List Int) (a b:Int):Bool:=decide (0<=a/\a<l.length/\0<=b/\b<l.length)&&pw l a (l.length+1) b
def Ee (p:Nat->Bool) (b:Nat) (s:Bool):Bool:=s&&p b
def uQ (p:Nat->Bool) (n:Nat):Bool:=up (Ee p) n Sq
theorem xC{p:Nat->Bool}{n:Nat}:uQ p (n+1)=(uQ p n&&p n):=rfl
theorem CM{g:Gr}:(tD g).length=g.length:=by simp[tD]
def jG (nx:Int->List Int):Nat->Int->List Bool × List Int->List Bool × List Int
 | 0,_,s=>s
 | n+1,a,s=>let r:=up (λi s=>if nth s.1 (nth (nx a) i).toNat then s else jG nx n (nth (nx a) i) s) (nx a).length (s.1.set a.toNat Sq,s.2);(r.1,r.2++[a])
def cH (nx:Int->List Int) (n:Nat) (a:Int) (i:Nat) (s:List Bool × List Int):List Bool × List Int:=if nth s.1 (nth (nx a) i).toNat then s else jG nx n (nth (nx a) i) s
theorem ku{nx:Int->List Int}{n:Nat}{a:Int}{s:List Bool × List Int}:
  jG nx (n+1) a s=((up (cH nx n a) (nx a).length (s.1.set a.toNat Sq,s.2)).1,(up (cH nx n a) (nx a).length (s.1.set a.toNat Sq,s.2)).2++[a]):=rfl
def cY (t:List Bool):Nat:=t.count Sr
theorem jx{t:List Bool}{i:Nat}(hi:i<t.length)(hf:nth t i=Sr):cY (t.set i Sq)+1=cY t:=by rw[ay hi]at hf;unfold cY;rw[List.count_set hi];have hp:0<t.count false:=Pw.2 (hf▸PD hi);simp[hf];omega
theorem zn{t:List Bool}{i:Nat}:cY (t.set i Sq)<=cY t:=by
 rcases OD i t.length with hi | hi
 ·unfold cY;rw[List.count_set hi];simp
 rw[List.set_eq_of_length_le hi];exact OA _
theorem uD{β:Type}(I:β->Prop){f:Nat->β->β}(hf : ∀k x,I x->I (f k x))(n:Nat)(x:β)(hx:I x):I (up f n x):=by
 induction n with
 | zero=>exact hx
 | succ n ih=>rw[up];exact hf _ _ ih
theorem pE {nx:Int->List Int} {m c:Nat} : ∀(n:Nat) (a:Int) (s:List Bool × List Int),s.1.length=m/\cY s.1<=c->(jG nx n a s).1.length=m/\cY (jG nx n a s).1<=c
 | 0,_,_,h=>h
 | n+1,a,s,h=>by
  rw[ku];refine uD (λs:List Bool × List Int=>s.1.length=m/\cY s.1<=c) (λk x hx=>?_) _ _ ⟨by simpa using h.1,OY zn h.2⟩;unfold cH;split
  ·exact hx
  exact pE n _ x hx
def lA (nx:Int->List Int) (n:Nat):List Int:=if n=0 then[] else(jG nx n 0 (List.replicate n Sr,[])).2.reverse
theorem lJ{α:Type}[Rep α]{W:View}{h:Heap}{e:TypeId}{v:Value}{l:List α}(o:OwnT W h e v l):v.cells = #[v]/\v.oneCell'=true:=by have:=o.len (K:=nothing);cases v<;>first | exact⟨rfl,rfl⟩ | (simp[Un.ev,vL]at this)
section
set_option maxRecDepth 100000
set_option maxHeartbeats 4000000
end
section
set_option maxRecDepth 100000
def q:List LC->LC|[]=>.skip|[a]=>a|a::b::l=>.seq a (q (b::l))
def k(K:List Nat)(S:List (Nat×E)):LC:=.reg Sr (.fin K S [])
def f(n c i:Nat)(K K2:List Nat)(e:E)(b:LC):LC:=.seq (.seq (.reg Sr (.fin K [(c,e)] [])) (.cond (.tmp c) [c] .skip (.exit n))) (.seq b (.reg Sr (.fin K2 [(i,.bin (.arith .add) (.tmp i) (.con (Sf Sg 1)))] [])))
def u(n:Nat)(x y:LC):LC:=.cond (.tmp n) [n] x y
def v(n:Nat)(x:LC):LC:=.block n (.loop x)
def l(K:List Nat)(S A:List (Nat×E))(o:Op)(y d:Nat)(r:Reg):Reg:=.loud K S A Sk [] Sr o y (Sj d) Sq r
def s(K:List Nat)(S A:List (Nat×E))(o:Op)(r:Reg):Reg:=.loud K S A Sk [] Sr o 0 Sk Sr r
def p(A:List (Nat×E))(o:Op)(y d:Nat)(r:Reg):Reg:=.loud [] [] A Sk [] Sr o y (Sj d) Sq r
def z:Reg:=.fin [] [] []
def w:List Nat->List (Nat×E)|[]=>[]|a::l=>(a,.tmp a)::w l
def t(n:Nat):E:=.tmp n
def c(n:Int):E:=.con (Sf Sg n)
def d(x:E):E:=.un .load x
def e(n:Nat)(x:E):E:=.un (.fld n) x
def g(n:Nat)(x:E):E:=.un .load (.un (.fld n) x)
def i(n:Nat)(x y:E):E:=.bin (.idx n) x y
def h(x:E):E:=.un .len x
def j(o:BinOp)(x y:E):E:=.bin (.cmp o) x y
def o(x y:E):E:=.bin (.arith .add) x y
def a(n:Nat):Operand:=.tmp n
def x(n:Nat)(A:List Nat)(T:List Nat):Op:=.call ⟨.value (.func n),(A.map .tmp).toArray,T.toArray⟩
theorem sh:(∀a,q [a]=a)/\(∀a b l,q (a::b::l)=.seq a (q (b::l)))/\(∀K S,k K S=.reg Sr (.fin K S []))/\(∀n c i K L e b,f n c i K L e b=.seq (.seq (.reg Sr (.fin K [(c,e)] [])) (.cond (.tmp c) [c] .skip (.exit n))) (.seq b (.reg Sr (.fin L [(i,.bin (.arith .add) (.tmp i) (.con (Sf Sg 1)))] []))))/\(∀n x y,u n x y=.cond (.tmp n) [n] x y)/\(∀n x,v n x=.block n (.loop x))/\(∀K S A o y d r,l K S A o y d r=.loud K S A Sk [] Sr o y (Sj d) Sq r)/\(∀K S A o r,s K S A o r=.loud K S A Sk [] Sr o 0 Sk Sr r)/\(∀A o y d r,p A o y d r=.loud [] [] A Sk [] Sr o y (Sj d) Sq r)/\(z=.fin [] [] [])/\(w []=[])/\(∀a l,w (a::l)=(a,.tmp a)::w l)/\(∀n,t n=.tmp n)/\(∀n,c n=.con (Sf Sg n))/\(∀x,d x=.un .load x)/\(∀n x,e n x=.un (.fld n) x)/\(∀n x,g n x=.un .load (.un (.fld n) x))/\(∀n x y,i n x y=.bin (.idx n) x y)/\(∀x,h x=.un .len x)/\(∀o x y,j o x y=.bin (.cmp o) x y)/\(∀m n,o m n=.bin (.arith .add) m n)/\(∀n,a n=.tmp n)/\(∀n A T,x n A T=.call ⟨.value (.func n),(A.map .tmp).toArray,T.toArray⟩)/\(∀(p:Nat->Operand) n l,List.map p (n::l)=p n::l.map p)/\(∀p:Nat->Operand,List.map p []=[]):=⟨λ_=>rfl,λ_ _ _=>rfl,λ_ _=>rfl,λ_ _ _ _ _ _ _=>rfl,λ_ _ _=>rfl,λ_ _=>rfl,λ_ _ _ _ _ _ _=>rfl,λ_ _ _ _ _=>rfl,λ_ _ _ _ _=>rfl,rfl,rfl,λ_ _=>rfl,λ_=>rfl,λ_=>rfl,λ_=>rfl,λ_ _=>rfl,λ_ _=>rfl,λ_ _ _=>rfl,λ_=>rfl,λ_ _ _=>rfl,λ_ _=>rfl,λ_=>rfl,λ_ _ _=>rfl,λ_ _ _=>rfl,λ_=>rfl⟩
set_option maxRecDepth 100000
set_option maxHeartbeats 4000000
def A.cw:=lkA Tryz.f10
def B.cw:=lkB Tryz.f10
def L.cw.l1:LC:=lkL QP Tryz.f10 A.cw B.cw [1,1,1,1,1,1,1,1,1,1,0,1,0,0] lfc
def L.cw:LFn:=lkG QP Tryz.f10 A.cw B.cw (lfS lfc (lfS lfc (lfS lfc (lfS lfc (lfS lfc (lfS lfc (lfS lfc (lfS lfc (lfS lfc (lfS lfc (lfS (lfS lfc (lfB (lfO L.cw.l1))) lfc)))))))))))
theorem E.cw:aI Ss Tryz.f10=Sj L.cw:=R9
def A.gu:=lkA Tryz.f11
def B.gu:=lkB Tryz.f11
def L.gu:LFn:=lkG QP Tryz.f11 A.gu B.gu (lfS lfc (lfS lfc lfc))
theorem E.gu:aI Ss Tryz.f11=Sj L.gu:=R9
def L.n8:LFn:=lkF QP Tryz.f13
theorem E.n8:aI Ss Tryz.f13=Sj L.n8:=R9
def L.ou:LFn:=lkF QP Tryz.f15
theorem E.ou:aI Ss Tryz.f15=Sj L.ou:=R9
def L.qE:LFn:=lkF QP Tryz.f16
theorem E.qE:aI Ss Tryz.f16=Sj L.qE:=R9
def A.cQ:=lkA Tryz.f17
def B.cQ:=lkB Tryz.f17
def L.cQ.l1:LC:=lkL QP Tryz.f17 A.cQ B.cQ [1,1,0,1,0,0] lfc
def L.cQ:LFn:=lkG QP Tryz.f17 A.cQ B.cQ (lfS lfc (lfS lfc (lfS (lfS lfc (lfB (lfO L.cQ.l1))) lfc)))
theorem E.cQ:aI Ss Tryz.f17=Sj L.cQ:=R9
def A.eE:=lkA Tryz.f19
def B.eE:=lkB Tryz.f19
def L.eE.l1:LC:=lkL QP Tryz.f19 A.eE B.eE [1,1,0,1,0,0] lfc
def L.eE:LFn:=lkG QP Tryz.f19 A.eE B.eE (lfS lfc (lfS lfc (lfS (lfS lfc (lfB (lfO L.eE.l1))) lfc)))
theorem E.eE:aI Ss Tryz.f19=Sj L.eE:=R9
def L.qt:LFn:=lkF QP Tryz.f20
theorem E.qt:aI Ss Tryz.f20=Sj L.qt:=R9
end
section
set_option maxRecDepth 100000
set_option maxHeartbeats 4000000
def A.gO:=lkA Tryz.f22
def B.gO:=lkB Tryz.f22
def L.gO.l1:LC:=lkL QP Tryz.f22 A.gO B.gO [1,1,0,1,0,0] lfc
def L.gO:LFn:=lkG QP Tryz.f22 A.gO B.gO (lfS lfc (lfS lfc (lfS (lfS lfc (lfB (lfO L.gO.l1))) lfc)))
theorem E.gO:aI Ss Tryz.f22=Sj L.gO:=R9
def A.eG:=lkA Tryz.f23
def B.eG:=lkB Tryz.f23
def L.eG.l1:LC:=lkL QP Tryz.f23 A.eG B.eG [1,1,0,1,0,0] lfc
def L.eG:LFn:=lkG QP Tryz.f23 A.eG B.eG (lfS lfc (lfS lfc (lfS (lfS lfc (lfB (lfO L.eG.l1))) lfc)))
theorem E.eG:aI Ss Tryz.f23=Sj L.eG:=R9
def L.kS:LFn:=lkF QP Tryz.f24
theorem E.kS:aI Ss Tryz.f24=Sj L.kS:=R9
def A.bn:=lkA Tryz.f26
def B.bn:=lkB Tryz.f26
def L.bn.l1:LC:=lkL QP Tryz.f26 A.bn B.bn [1,1,1,1,0,1,0,0] lfc
def L.bn.l3:LC:=lkL QP Tryz.f26 A.bn B.bn [1,1,1,1,1,1,0,1,0,0,1,1,0,0,1,1,0,0] lfc
def L.bn.l2:LC:=lkL QP Tryz.f26 A.bn B.bn [1,1,1,1,1,1,0,1,0,0] (lfS lfc (lfS lfc (lfS (lfB (lfS lfc (lfS lfc (lfB (lfO L.bn.l3))))) lfc)))
def L.bn.l5:LC:=lkL QP Tryz.f26 A.bn B.bn [1,1,1,1,1,1,1,1,1,0,1,0,0,1,1,0,0,1,1,0,0] lfc
def L.bn.l4:LC:=lkL QP Tryz.f26 A.bn B.bn [1,1,1,1,1,1,1,1,1,0,1,0,0] (lfS lfc (lfS lfc (lfS (lfB (lfS lfc (lfS lfc (lfB (lfO L.bn.l5))))) lfc)))
def L.bn:LFn:=lkG QP Tryz.f26 A.bn B.bn (lfS lfc (lfS lfc (lfS lfc (lfS lfc (lfS (lfS lfc (lfB (lfO L.bn.l1))) (lfS lfc (lfS (lfS lfc (lfB (lfO L.bn.l2))) (lfS lfc (lfS lfc (lfS (lfS lfc (lfB (lfO L.bn.l4))) lfc))))))))))
theorem E.bn:aI Ss Tryz.f26=Sj L.bn:=R9
def L.nb:LFn:=lkF QP Tryz.f27
theorem E.nb:aI Ss Tryz.f27=Sj L.nb:=R9
def L.jP:LFn:=lkF QP Tryz.f28
theorem E.jP:aI Ss Tryz.f28=Sj L.jP:=R9
def A.gL:=lkA Tryz.f29
def B.gL:=lkB Tryz.f29
def L.gL.l1:LC:=lkL QP Tryz.f29 A.gL B.gL [1,0,1,0,0] lfc
def L.gL:LFn:=lkG QP Tryz.f29 A.gL B.gL (lfS lfc (lfS (lfS lfc (lfB (lfO L.gL.l1))) lfc))
theorem E.gL:aI Ss Tryz.f29=Sj L.gL:=R9
def L.ox:LFn:=lkF QP Tryz.f31
theorem E.ox:aI Ss Tryz.f31=Sj L.ox:=R9
def L.mU:LFn:=lkF QP Tryz.f32
theorem E.mU:aI Ss Tryz.f32=Sj L.mU:=R9
def L.pY:LFn:=lkF QP Tryz.f33
theorem E.pY:aI Ss Tryz.f33=Sj L.pY:=R9
def L.iG:LFn:=lkF QP Tryz.f34
theorem E.iG:aI Ss Tryz.f34=Sj L.iG:=R9
end
section
set_option maxRecDepth 100000
set_option maxHeartbeats 4000000
def A.aq:=lkA Tryz.f35
def B.aq:=lkB Tryz.f35
def L.aq.l1:LC:=lkL QP Tryz.f35 A.aq B.aq [1,1,1,1,1,1,1,0,1,0,0] lfc
def L.aq.l3:LC:=lkL QP Tryz.f35 A.aq B.aq [1,1,1,1,1,1,1,1,1,0,1,0,0,1,0,0,1,1,1,0,0] lfc
def L.aq.l2:LC:=lkL QP Tryz.f35 A.aq B.aq [1,1,1,1,1,1,1,1,1,0,1,0,0] (lfS lfc (lfS (lfB (lfS lfc (lfS lfc (lfS lfc (lfB (lfO L.aq.l3)))))) lfc))
def L.aq.l6:LC:=lkL QP Tryz.f35 A.aq B.aq [1,1,1,1,1,1,1,1,1,1,1,0,1,0,0,1,0,0,1,0,0,1,0,0,1,1,0,1,0,0] lfc
def L.aq.l7:LC:=lkL QP Tryz.f35 A.aq B.aq [1,1,1,1,1,1,1,1,1,1,1,0,1,0,0,1,0,0,1,0,0,1,0,0,1,1,1,0,1,0,0] lfc
def L.aq.l8:LC:=lkL QP Tryz.f35 A.aq B.aq [1,1,1,1,1,1,1,1,1,1,1,0,1,0,0,1,0,0,1,0,0,1,0,0,1,1,1,1,1,1,1,0,1,0,0] lfc
def L.aq.l10:LC:=lkL QP Tryz.f35 A.aq B.aq [1,1,1,1,1,1,1,1,1,1,1,0,1,0,0,1,0,0,1,0,0,1,0,0,1,1,1,1,1,1,1,1,0,1,0,0,1,0,0,1,0,1,0,0] lfc
def L.aq.l11:LC:=lkL QP Tryz.f35 A.aq B.aq [1,1,1,1,1,1,1,1,1,1,1,0,1,0,0,1,0,0,1,0,0,1,0,0,1,1,1,1,1,1,1,1,0,1,0,0,1,0,0,1,1,1,0,0] lfc
def L.aq.l9:LC:=lkL QP Tryz.f35 A.aq B.aq [1,1,1,1,1,1,1,1,1,1,1,0,1,0,0,1,0,0,1,0,0,1,0,0,1,1,1,1,1,1,1,1,0,1,0,0] (lfS lfc (lfS (lfB (lfS lfc (lfS (lfS lfc (lfB (lfO L.aq.l10))) (lfS lfc (lfB (lfO L.aq.l11)))))) lfc))
def L.aq.l12:LC:=lkL QP Tryz.f35 A.aq B.aq [1,1,1,1,1,1,1,1,1,1,1,0,1,0,0,1,0,0,1,0,0,1,0,0,1,1,1,1,1,1,1,1,1,1,0,1,0,0] lfc
def L.aq.l5:LC:=lkL QP Tryz.f35 A.aq B.aq [1,1,1,1,1,1,1,1,1,1,1,0,1,0,0,1,0,0,1,0,0] (lfS lfc (lfS (lfB (lfS lfc (lfS lfc (lfS (lfS lfc (lfB (lfO L.aq.l6))) (lfS (lfS lfc (lfB (lfO L.aq.l7))) (lfS lfc (lfS lfc (lfS lfc (lfS (lfS lfc (lfB (lfO L.aq.l8))) (lfS (lfS lfc (lfB (lfO L.aq.l9))) (lfS lfc (lfS (lfS lfc (lfB (lfO L.aq.l12))) lfc)))))))))))) lfc))
def L.aq.l4:LC:=lkL QP Tryz.f35 A.aq B.aq [1,1,1,1,1,1,1,1,1,1,1,0,1,0,0] (lfS lfc (lfS (lfB (lfS lfc (lfB (lfO L.aq.l5)))) lfc))
def L.aq.l15:LC:=lkL QP Tryz.f35 A.aq B.aq [1,1,1,1,1,1,1,1,1,1,1,1,0,1,0,0,1,0,0,1,1,0,0,1,0,0,1,0,1,0,0] lfc
def L.aq.l14:LC:=lkL QP Tryz.f35 A.aq B.aq [1,1,1,1,1,1,1,1,1,1,1,1,0,1,0,0,1,0,0,1,1,0,0] (lfS lfc (lfS (lfB (lfS lfc (lfS (lfS lfc (lfB (lfO L.aq.l15))) lfc))) lfc))
def L.aq.l13:LC:=lkL QP Tryz.f35 A.aq B.aq [1,1,1,1,1,1,1,1,1,1,1,1,0,1,0,0] (lfS lfc (lfS (lfB (lfS lfc (lfS lfc (lfB (lfO L.aq.l14))))) lfc))
def L.aq:LFn:=lkG QP Tryz.f35 A.aq B.aq (lfS lfc (lfS lfc (lfS lfc (lfS lfc (lfS lfc (lfS lfc (lfS lfc (lfS (lfS lfc (lfB (lfO L.aq.l1))) (lfS lfc (lfS (lfS lfc (lfB (lfO L.aq.l2))) (lfS lfc (lfS (lfS lfc (lfB (lfO L.aq.l4))) (lfS (lfS lfc (lfB (lfO L.aq.l13))) lfc)))))))))))))
theorem E.aq:aI Ss Tryz.f35=Sj L.aq:=R9
def L.wA:LFn:=lkF QP Tryz.f38
theorem E.wA:aI Ss Tryz.f38=Sj L.wA:=R9
def L.kT:LFn:=lkF QP Tryz.f39
theorem E.kT:aI Ss Tryz.f39=Sj L.kT:=R9
def L.jY:LFn:=lkF QP Tryz.f40
theorem E.jY:aI Ss Tryz.f40=Sj L.jY:=R9
def A.strings_Fields:=lkA Tryz.f41
def B.strings_Fields:=lkB Tryz.f41
def L.mQ:LFn:=lkF QP Tryz.f42
theorem E.mQ:aI Ss Tryz.f42=Sj L.mQ:=R9
def A.cr:=lkA Tryz.f43
def B.cr:=lkB Tryz.f43
def L.cr.l2:LC:=lkL QP Tryz.f43 A.cr B.cr [1,1,0,1,0,0,1,1,0,1,1,0,1,0,0] lfc
def L.cr.l1:LC:=lkL QP Tryz.f43 A.cr B.cr [1,1,0,1,0,0] (lfS lfc (lfS lfc (lfB (lfS lfc (lfS lfc (lfS (lfS lfc (lfB (lfO L.cr.l2))) lfc))))))
def L.cr:LFn:=lkG QP Tryz.f43 A.cr B.cr (lfS lfc (lfS lfc (lfS (lfS lfc (lfB (lfO L.cr.l1))) lfc)))
theorem E.cr:aI Ss Tryz.f43=Sj L.cr:=R9
def R.mc:List E:=[.un .load (.tmp 2),.un .load (.tmp 3),.un .load (.tmp 4)]

def L.kR:LC:=by apply(fun{b:LC}(_:b=.reg Sr (p (w [0]) (.box 27 (a 0)) 0 1 (p [] (.alloc 57) 0 2 (p [] (.alloc 3) 0 3 (p [] (.alloc 3) 0 4 z)))))=>b);simp only[sh];rfl
theorem E.kR:dN Ss Tryz.f44.ntmps (gi Tryz.f44) (Cn Tryz.f44) Sr (zA Tryz.f44)=Sj L.kR:=R9
def L.gS.l1:LC:=by apply(fun{b:LC}(_:b=q [k [26] [(26,j .lss (t 25) (t 24))],u 26 .skip (.exit 0),.block 1 (q [.reg Sr (l [27,28] [(28,.un (.bV 6) (i 6 (t 23) (t 25)))] [] (.alloc 35) 0 7 (s [] [] (w [7,28]) (.store 35 (a 7) (a 28)) z)),k [29,30,31,32,33,34,35,36,37,5] [(5,o (t 5) (o (h (g 0 (t 7))) (h (g 1 (t 7)))))]]),k [38,25] [(25,o (t 25) (c 1))]])=>b);simp only[sh];rfl
def L.gS:LC:=by apply(fun{b:LC}(_:b=q [.reg Sr (l [10,11] [] [(11,g 0 (t 1))] (.call ⟨.value (.func 69),#[a 11,.const (Sf Sg 0),.const (Sf Sg 4)],#[3,3,3]⟩) 4 12 (.loud [] [] (w [12]) Sk [] Sr (.call ⟨.value (.func 68),#[a 12,.const (Sf Sg 1),.const (Sf Sg 0),.const (Sf Sg 0)],#[4,57,3,3]⟩) 0 (Sj 13) Sr z)),.reg Sr (.loud [14,15,16,17] [] [(17,j .gtr (h (g 1 (t 1))) (c 0))] Sk [] Sr (.call ⟨.value (.func 68),#[a 17,.const (Sf Sg 14),.const (Sf Sg 0),.const (Sf Sg 0)],#[4,57,3,3]⟩) 0 (Sj 18) Sr z),k [19,20,21,5] [(5,h (g 1 (t 1)))],q [k [22,23,24,25] [(23,g 1 (t 1)),(24,h (g 1 (t 1))),(25,c 0)],v 0 L.gS.l1],.reg Sr (.loud [39,40,41,42,43,44,45,46] [] [(46,.ite (j .leq (h (g 1 (t 1))) (c 512)) (j .leq (t 5) (c 4096)) (.con (.bool Sr)))] Sk [] Sr (.call ⟨.value (.func 68),#[a 46,.const (Sf Sg 2),.const (Sf Sg 0),.const (Sf Sg 0)],#[4,57,3,3]⟩) 0 (Sj 47) Sr z),.reg Sr (l [48] [(48,.un (.bV 2) (t 1))] [] (.makeMap 147 Sk) 147 49 (p (w [48,49]) (.build 149 #[(0,a 48),(1,a 49)]) 149 50 (p (w [50]) (.box 149 (a 50)) 146 51 (.fin [8] [(8,t 51)] [])))),.reg Sr (.loud [52] [] [(52,t 8)] Sk [] Sr (x 70 [52] [146]) 0 (Sj 53) Sr z),.reg Sr (.loud [54] [] [(54,t 8)] Sk [] Sr (x 71 [54] [146]) 0 (Sj 55) Sr z),.reg Sr (s [] [] (w [2]) (.store 57 (a 2) (.const (Sf Sg 0))) (s [] [] (w [3]) (.store 3 (a 3) (.const (Sf Sg 0))) (s [] [] (w [4]) (.store 3 (a 4) (.const (Sf Sg 0))) z))),.ret])=>b);simp only[sh];rfl
theorem E.gS:dN Ss Tryz.f44.ntmps (gi Tryz.f44) (Cn Tryz.f44) Sr (G0 Tryz.f44)=Sj L.gS:=R9
theorem R.yj:Tryz.f44.results.toList.mapM (resE Ss)=Sj R.mc:=by kernel_rfl
theorem B.mc:Tryz.f44.body=Sj (.seq (zA Tryz.f44) (.seq (.region (Kg (Kd Tryz.f44)) #[Kx Tryz.f44 0,Kx Tryz.f44 1] Sr) (G0 Tryz.f44))):=by kernel_rfl
def A.bu:=lkA Tryz.f45
def B.bu:=lkB Tryz.f45
def L.bu.l3:LC:=lkL QP Tryz.f45 A.bu B.bu [1,1,0,0,1,1,0,0,1,0,1,0,0,1,1,0,0,1,1,0,1,0,0] lfc
def L.bu.l2:LC:=lkL QP Tryz.f45 A.bu B.bu [1,1,0,0,1,1,0,0,1,0,1,0,0] (lfS lfc (lfS lfc (lfS (lfB (lfS lfc (lfS lfc (lfS (lfS lfc (lfB (lfO L.bu.l3))) lfc)))) lfc)))
def L.bu.l4:LC:=lkL QP Tryz.f45 A.bu B.bu [1,1,0,0,1,1,0,0,1,1,0,1,0,0] lfc
def L.bu.l1:LC:=lkL QP Tryz.f45 A.bu B.bu [1,1,0,0] (lfS lfc (lfS lfc (lfS (lfB (lfS lfc (lfS (lfS lfc (lfB (lfO L.bu.l2))) (lfS (lfS lfc (lfB (lfO L.bu.l4))) lfc)))) lfc)))
def L.bu:LFn:=lkG QP Tryz.f45 A.bu B.bu (lfS lfc (lfS lfc (lfB (lfO L.bu.l1))))
theorem E.bu:aI Ss Tryz.f45=Sj L.bu:=R9
end
section
set_option maxRecDepth 100000
set_option maxHeartbeats 4000000
def A.bG:=lkA Tryz.f46
def B.bG:=lkB Tryz.f46
def L.bG.l1:LC:=lkL QP Tryz.f46 A.bG B.bG [0,1,0,0] lfc
def L.bG.l2:LC:=lkL QP Tryz.f46 A.bG B.bG [1,1,0,0] lfc
def L.bG:LFn:=lkG QP Tryz.f46 A.bG B.bG (lfS (lfS lfc (lfB (lfO L.bG.l1))) (lfS lfc (lfB (lfO L.bG.l2))))
theorem E.bG:aI Ss Tryz.f46=Sj L.bG:=R9
def L.slices_Contains_int:LFn:=lkF QP Tryz.f47
theorem E.slices_Contains_int:aI Ss Tryz.f47=Sj L.slices_Contains_int:=R9
def L.vW:LFn:=lkF QP Tryz.f48
theorem E.vW:aI Ss Tryz.f48=Sj L.vW:=R9
def A.dP:=lkA Tryz.f49
def B.dP:=lkB Tryz.f49
def L.dP.l1:LC:=lkL QP Tryz.f49 A.dP B.dP [1,1,1,0,1,0,0] lfc
def L.dP:LFn:=lkG QP Tryz.f49 A.dP B.dP (lfS lfc (lfS lfc (lfS lfc (lfS (lfS lfc (lfB (lfO L.dP.l1))) lfc))))
theorem E.dP:aI Ss Tryz.f49=Sj L.dP:=R9
def A.aK:=lkA Tryz.f50
def B.aK:=lkB Tryz.f50
def L.aK.l1:LC:=lkL QP Tryz.f50 A.aK B.aK [1,1,0,1,0,0] lfc
def L.aK.l3:LC:=lkL QP Tryz.f50 A.aK B.aK [1,1,1,0,1,0,0,1,0,0,1,1,0,0] lfc
def L.aK.l2:LC:=lkL QP Tryz.f50 A.aK B.aK [1,1,1,0,1,0,0] (lfS lfc (lfS (lfB (lfS lfc (lfS lfc (lfB (lfO L.aK.l3))))) lfc))
def L.aK:LFn:=lkG QP Tryz.f50 A.aK B.aK (lfS lfc (lfS lfc (lfS (lfS lfc (lfB (lfO L.aK.l1))) (lfS (lfS lfc (lfB (lfO L.aK.l2))) lfc))))
theorem E.aK:aI Ss Tryz.f50=Sj L.aK:=R9
def A.cT:=lkA Tryz.f51
def B.cT:=lkB Tryz.f51
def L.cT.l2:LC:=lkL QP Tryz.f51 A.cT B.cT [1,1,0,1,0,0,1,0,0,1,1,0,0] lfc
def L.cT.l1:LC:=lkL QP Tryz.f51 A.cT B.cT [1,1,0,1,0,0] (lfS lfc (lfS (lfB (lfS lfc (lfS lfc (lfB (lfO L.cT.l2))))) lfc))
def L.cT:LFn:=lkG QP Tryz.f51 A.cT B.cT (lfS lfc (lfS lfc (lfS (lfS lfc (lfB (lfO L.cT.l1))) lfc)))
theorem E.cT:aI Ss Tryz.f51=Sj L.cT:=R9
def L.hZ:LFn:=lkF QP Tryz.f52
theorem E.hZ:aI Ss Tryz.f52=Sj L.hZ:=R9
def A.cg:=lkA Tryz.f53
def B.cg:=lkB Tryz.f53
def L.cg.l2:LC:=lkL QP Tryz.f53 A.cg B.cg [1,1,1,1,0,1,0,0,1,0,0,1,1,0,0] lfc
def L.cg.l1:LC:=lkL QP Tryz.f53 A.cg B.cg [1,1,1,1,0,1,0,0] (lfS lfc (lfS (lfB (lfS lfc (lfS lfc (lfB (lfO L.cg.l2))))) lfc))
def L.cg:LFn:=lkG QP Tryz.f53 A.cg B.cg (lfS lfc (lfS lfc (lfS lfc (lfS lfc (lfS (lfS lfc (lfB (lfO L.cg.l1))) lfc)))))
theorem E.cg:aI Ss Tryz.f53=Sj L.cg:=R9
def L.mN:LFn:=lkF QP Tryz.f54
theorem E.mN:aI Ss Tryz.f54=Sj L.mN:=R9
def A.bh:=lkA Tryz.f55
def B.bh:=lkB Tryz.f55
def L.bh.l1:LC:=lkL QP Tryz.f55 A.bh B.bh [1,0,1,1,1,1,1,1,1,1,1,0,1,1,0,1,0,0] lfc
def L.bh:LFn:=lkG QP Tryz.f55 A.bh B.bh (lfS lfc (lfB (lfS lfc (lfK lfc (lfS lfc (lfK lfc (lfS lfc (lfK lfc (lfS lfc (lfK lfc (lfS lfc (lfK (lfS lfc (lfS lfc (lfS (lfS lfc (lfB (lfO L.bh.l1))) lfc))) lfc))))))))))))
theorem E.bh:aI Ss Tryz.f55=Sj L.bh:=R9
def L.jm:LFn:=lkF QP Tryz.f56
theorem E.jm:aI Ss Tryz.f56=Sj L.jm:=R9
def A.bW:=lkA Tryz.f57
def B.bW:=lkB Tryz.f57
def L.bW.l1:LC:=lkL QP Tryz.f57 A.bW B.bW [1,1,0,1,0,0] lfc
def L.bW.l2:LC:=lkL QP Tryz.f57 A.bW B.bW [1,1,1,1,0,1,0,0] lfc
def L.bW:LFn:=lkG QP Tryz.f57 A.bW B.bW (lfS lfc (lfS lfc (lfS (lfS lfc (lfB (lfO L.bW.l1))) (lfS lfc (lfS (lfS lfc (lfB (lfO L.bW.l2))) lfc)))))
theorem E.bW:aI Ss Tryz.f57=Sj L.bW:=R9
def L.fA:LFn:=lkF QP Tryz.f58
theorem E.fA:aI Ss Tryz.f58=Sj L.fA:=R9
def L.iS:LFn:=lkF QP Tryz.f59
theorem E.iS:aI Ss Tryz.f59=Sj L.iS:=R9
end
section
set_option maxRecDepth 100000
set_option maxHeartbeats 4000000
def A.eV:=lkA Tryz.f63
def B.eV:=lkB Tryz.f63
def L.eV:LFn:=lkG QP Tryz.f63 A.eV B.eV (lfS lfc (lfS lfc (lfS lfc (lfS (lfB (lfS lfc (lfK lfc (lfS lfc (lfK lfc (lfS lfc lfc)))))) lfc))))
theorem E.eV:aI Ss Tryz.f63=Sj L.eV:=R9
end
section
set_option maxRecDepth 100000
set_option maxHeartbeats 4000000
def A.bc:=lkA Tryz.f64
def B.bc:=lkB Tryz.f64
def L.bc.l1:LC:=lkL QP Tryz.f64 A.bc B.bc [1,1,1,1,1,1,1,0,1,0,0] lfc
def L.bc.l2:LC:=lkL QP Tryz.f64 A.bc B.bc [1,1,1,1,1,1,1,1,1,1,1,1,0,1,0,0] lfc
def L.bc:LFn:=lkG QP Tryz.f64 A.bc B.bc (lfS lfc (lfS lfc (lfS lfc (lfS lfc (lfS lfc (lfS lfc (lfS lfc (lfS (lfS lfc (lfB (lfO L.bc.l1))) (lfS lfc (lfS lfc (lfS lfc (lfS lfc (lfS (lfS lfc (lfB (lfO L.bc.l2))) lfc)))))))))))))
theorem E.bc:aI Ss Tryz.f64=Sj L.bc:=R9
def L.fq:LFn:=by apply(fun{b:LFn}(_:b=⟨[],q [.reg Sr (p [] (.call ⟨.builtin .recover,#[],#[]⟩) 20 6 z),.block 0 (q [.reg Sr (p (w [6]) (.binOp .eql 20 (a 6) (.const .nilIface) 20) 4 8 z),u 8 (.reg Sr (.fin [3] [] [t 6])) (q [.reg Sr (p (w [6]) (.typeAssert (a 6) 20 144 Sq) 0 9 (.fin [10,11] [(10,.un (.ext 1) (t 9)),(11,.un (.ext 0) (t 9))] [])),u 10 (q [.reg Sr (p [] (.alloc 144) 0 4 (s [] [] (w [4,11]) (.store 144 (a 4) (a 11)) z)),.reg Sq (s [12,13,14,15,16,17] [(15,g 1 (t 4)),(17,g 2 (t 4))] [(0,t 0),(13,g 0 (t 4))] (.store 57 (a 0) (a 13)) (s [] [] (w [1,15]) (.store 3 (a 1) (a 15)) (.loud [] [] (w [2,17]) Sk [] Sq (.store 3 (a 2) (a 17)) 0 Sk Sr z)))]) (q [k [5] [(5,t 6)],.reg Sr (s [7] [] [(7,t 5)] (.panic (a 7)) z)])])])]⟩)=>b);simp only[sh];rfl
theorem Q.fq:Tryz.f67.body=Sj (.seq (.region (Kg (zA Tryz.f67)) #[KO Tryz.f67 0] Sr) (KA Tryz.f67)):=by kernel_rfl
theorem E.pa:dN Ss Tryz.f67.ntmps (gi Tryz.f67) (Cn Tryz.f67) Sr (KA Tryz.f67)=Sj L.fq.body.tail:=R9
def L.mz:LFn:=lkF QP Tryz.f68
theorem E.mz:aI Ss Tryz.f68=Sj L.mz:=R9
def L.lK:LFn:=lkF QP Tryz.f69
theorem E.lK:aI Ss Tryz.f69=Sj L.lK:=R9
def A.aE:=lkA Tryz.f70
def B.aE:=lkB Tryz.f70
def L.aE.l2:LC:=lkL QP Tryz.f70 A.aE B.aE [1,0,0,1,1,0,0,1,0,1,0,0] lfc
def L.aE.l3:LC:=lkL QP Tryz.f70 A.aE B.aE [1,0,0,1,1,0,0,1,1,0,1,0,0] lfc
def L.aE.l4:LC:=lkL QP Tryz.f70 A.aE B.aE [1,0,0,1,1,0,0,1,1,1,1,1,1,0,0] lfc
def L.aE.l1:LC:=lkL QP Tryz.f70 A.aE B.aE [1,0,0] (lfS lfc (lfS lfc (lfS (lfB (lfS lfc (lfS (lfS lfc (lfB (lfO L.aE.l2))) (lfS (lfS lfc (lfB (lfO L.aE.l3))) (lfS lfc (lfS lfc (lfS lfc (lfB (lfO L.aE.l4))))))))) lfc)))
def L.aE:LFn:=lkG QP Tryz.f70 A.aE B.aE (lfS lfc (lfB (lfO L.aE.l1)))
theorem E.aE:aI Ss Tryz.f70=Sj L.aE:=R9
def A.au:=lkA Tryz.f71
def B.au:=lkB Tryz.f71
def L.au.l1:LC:=lkL QP Tryz.f71 A.au B.au [1,1,1,0,1,0,0] lfc
def L.au.l4:LC:=lkL QP Tryz.f71 A.au B.au [1,1,1,1,1,1,1,0,0,1,1,0,0,1,0,1,0,0,1,1,0,0,1,1,0,1,0,0] lfc
def L.au.l5:LC:=lkL QP Tryz.f71 A.au B.au [1,1,1,1,1,1,1,0,0,1,1,0,0,1,0,1,0,0,1,1,0,0,1,1,1,1,1,0,0] lfc
def L.au.l3:LC:=lkL QP Tryz.f71 A.au B.au [1,1,1,1,1,1,1,0,0,1,1,0,0,1,0,1,0,0] (lfS lfc (lfS lfc (lfS (lfB (lfS lfc (lfS lfc (lfS (lfS lfc (lfB (lfO L.au.l4))) (lfS lfc (lfS lfc (lfB (lfO L.au.l5)))))))) lfc)))
def L.au.l7:LC:=lkL QP Tryz.f71 A.au B.au [1,1,1,1,1,1,1,0,0,1,1,0,0,1,1,0,1,0,0,1,1,0,0,1,1,0,0] lfc
def L.au.l6:LC:=lkL QP Tryz.f71 A.au B.au [1,1,1,1,1,1,1,0,0,1,1,0,0,1,1,0,1,0,0] (lfS lfc (lfS lfc (lfS (lfB (lfS lfc (lfS lfc (lfB (lfO L.au.l7))))) lfc)))
def L.au.l8:LC:=lkL QP Tryz.f71 A.au B.au [1,1,1,1,1,1,1,0,0,1,1,0,0,1,1,1,1,0,0] lfc
def L.au.l2:LC:=lkL QP Tryz.f71 A.au B.au [1,1,1,1,1,1,1,0,0] (lfS lfc (lfS lfc (lfS (lfB (lfS lfc (lfS (lfS lfc (lfB (lfO L.au.l3))) (lfS (lfS lfc (lfB (lfO L.au.l6))) (lfS lfc (lfB (lfO L.au.l8))))))) lfc)))
def L.au:LFn:=lkG QP Tryz.f71 A.au B.au (lfS lfc (lfS lfc (lfS lfc (lfS (lfS lfc (lfB (lfO L.au.l1))) (lfS lfc (lfS lfc (lfS lfc (lfB (lfO L.au.l2)))))))))
theorem E.au:aI Ss Tryz.f71=Sj L.au:=R9
def L.mT:LFn:=lkF QP Tryz.f72
theorem E.mT:aI Ss Tryz.f72=Sj L.mT:=R9
def A.slices_Index_int:=lkA Tryz.f73
def B.slices_Index_int:=lkB Tryz.f73
def L.slices_Index_int.l1:LC:=lkL QP Tryz.f73 A.slices_Index_int B.slices_Index_int [1,0,1,0,0] lfc
def L.slices_Index_int:LFn:=lkG QP Tryz.f73 A.slices_Index_int B.slices_Index_int (lfS lfc (lfS (lfS lfc (lfB (lfO L.slices_Index_int.l1))) lfc))
theorem E.slices_Index_int:aI Ss Tryz.f73=Sj L.slices_Index_int:=R9
def L.qp:LFn:=lkF QP Tryz.f74
theorem E.qp:aI Ss Tryz.f74=Sj L.qp:=R9
def L.qH:LFn:=lkF QP Tryz.f75
theorem E.qH:aI Ss Tryz.f75=Sj L.qH:=R9
def L.qd:LFn:=lkF QP Tryz.f76
theorem E.qd:aI Ss Tryz.f76=Sj L.qd:=R9
def L.qe:LFn:=lkF QP Tryz.f77
theorem E.qe:aI Ss Tryz.f77=Sj L.qe:=R9
def L.qT:LFn:=lkF QP Tryz.f78
theorem E.qT:aI Ss Tryz.f78=Sj L.qT:=R9
def L.qy:LFn:=lkF QP Tryz.f79
theorem E.qy:aI Ss Tryz.f79=Sj L.qy:=R9
def L.pV:LFn:=lkF QP Tryz.f80
theorem E.pV:aI Ss Tryz.f80=Sj L.pV:=R9
def L.qz:LFn:=lkF QP Tryz.f81
theorem E.qz:aI Ss Tryz.f81=Sj L.qz:=R9
def L.qg:LFn:=lkF QP Tryz.f82
theorem E.qg:aI Ss Tryz.f82=Sj L.qg:=R9
def L.oq:LFn:=lkF QP Tryz.f83
theorem E.oq:aI Ss Tryz.f83=Sj L.oq:=R9
def L.sR:LFn:=lkF QP Tryz.f84
theorem E.sR:aI Ss Tryz.f84=Sj L.sR:=R9
def L.oy:LFn:=lkF QP Tryz.f85
theorem E.oy:aI Ss Tryz.f85=Sj L.oy:=R9
def L.oh:LFn:=lkF QP Tryz.f86
theorem E.oh:aI Ss Tryz.f86=Sj L.oh:=R9
def L.oM:LFn:=lkF QP Tryz.f87
theorem E.oM:aI Ss Tryz.f87=Sj L.oM:=R9
def L.iR:LFn:=lkF QP Tryz.f88
theorem E.iR:aI Ss Tryz.f88=Sj L.iR:=R9
def L.jj:LFn:=lkF QP Tryz.f89
theorem E.jj:aI Ss Tryz.f89=Sj L.jj:=R9
def L.gx:LFn:=lkF QP Tryz.f90
theorem E.gx:aI Ss Tryz.f90=Sj L.gx:=R9
end
section
set_option maxRecDepth 100000
set_option maxHeartbeats 4000000
def A.bs:=lkA Tryz.f91
def B.bs:=lkB Tryz.f91
def L.bs.l3:LC:=lkL QP Tryz.f91 A.bs B.bs [1,1,0,1,0,0,1,0,0,1,0,1,0,0,1,0,0,1,0,1,0,0] lfc
def L.bs.l2:LC:=lkL QP Tryz.f91 A.bs B.bs [1,1,0,1,0,0,1,0,0,1,0,1,0,0] (lfS lfc (lfS (lfB (lfS lfc (lfS (lfS lfc (lfB (lfO L.bs.l3))) lfc))) lfc))
def L.bs.l4:LC:=lkL QP Tryz.f91 A.bs B.bs [1,1,0,1,0,0,1,0,0,1,1,0,1,0,0] lfc
def L.bs.l1:LC:=lkL QP Tryz.f91 A.bs B.bs [1,1,0,1,0,0] (lfS lfc (lfS (lfB (lfS lfc (lfS (lfS lfc (lfB (lfO L.bs.l2))) (lfS (lfS lfc (lfB (lfO L.bs.l4))) lfc)))) lfc))
def L.bs:LFn:=lkG QP Tryz.f91 A.bs B.bs (lfS lfc (lfS lfc (lfS (lfS lfc (lfB (lfO L.bs.l1))) lfc)))
theorem E.bs:aI Ss Tryz.f91=Sj L.bs:=R9
def L.iM:LFn:=lkF QP Tryz.f99
theorem E.iM:aI Ss Tryz.f99=Sj L.iM:=R9
def L.jh:LFn:=lkF QP Tryz.f100
theorem E.jh:aI Ss Tryz.f100=Sj L.jh:=R9
def L.fw:LFn:=lkF QP Tryz.f101
theorem E.fw:aI Ss Tryz.f101=Sj L.fw:=R9
def L.fo:LFn:=lkF QP Tryz.f102
theorem E.fo:aI Ss Tryz.f102=Sj L.fo:=R9
def L.fG:LFn:=lkF QP Tryz.f103
theorem E.fG:aI Ss Tryz.f103=Sj L.fG:=R9
def L.nJ:LFn:=lkF QP Tryz.f104
theorem E.nJ:aI Ss Tryz.f104=Sj L.nJ:=R9
def L.fM:LFn:=lkF QP Tryz.f105
theorem E.fM:aI Ss Tryz.f105=Sj L.fM:=R9
def L.fJ:LFn:=lkF QP Tryz.f106
theorem E.fJ:aI Ss Tryz.f106=Sj L.fJ:=R9
def L.fN:LFn:=lkF QP Tryz.f107
theorem E.fN:aI Ss Tryz.f107=Sj L.fN:=R9
end
section
set_option maxRecDepth 100000
set_option maxHeartbeats 4000000
def A.cz:=lkA Tryz.f108
def B.cz:=lkB Tryz.f108
def L.cz:LFn:=lkG QP Tryz.f108 A.cz B.cz (lfS lfc (lfS lfc (lfS lfc lfc)))
theorem E.cz:aI Ss Tryz.f108=Sj L.cz:=R9
def L.gI:LFn:=lkF QP Tryz.f109
theorem E.gI:aI Ss Tryz.f109=Sj L.gI:=R9
def L.fm:LFn:=lkF QP Tryz.f110
theorem E.fm:aI Ss Tryz.f110=Sj L.fm:=R9
def L.iF:LFn:=lkF QP Tryz.f111
theorem E.iF:aI Ss Tryz.f111=Sj L.iF:=R9
def L.ft:LFn:=lkF QP Tryz.f112
theorem E.ft:aI Ss Tryz.f112=Sj L.ft:=R9
def L.fu:LFn:=lkF QP Tryz.f113
theorem E.fu:aI Ss Tryz.f113=Sj L.fu:=R9
def A.bH:=lkA Tryz.f115
def B.bH:=lkB Tryz.f115
def L.bH.l1:LC:=lkL QP Tryz.f115 A.bH B.bH [0,1,0,0] lfc
def L.bH.l2:LC:=lkL QP Tryz.f115 A.bH B.bH [1,1,0,0] lfc
def L.bH:LFn:=lkG QP Tryz.f115 A.bH B.bH (lfS (lfS lfc (lfB (lfO L.bH.l1))) (lfS lfc (lfB (lfO L.bH.l2))))
theorem E.bH:aI Ss Tryz.f115=Sj L.bH:=R9
def L.jR:LFn:=lkF QP Tryz.f116
theorem E.jR:aI Ss Tryz.f116=Sj L.jR:=R9
def L.lL:LFn:=lkF QP Tryz.f117
theorem E.lL:aI Ss Tryz.f117=Sj L.lL:=R9
def A.gK:=lkA Tryz.f118
def B.gK:=lkB Tryz.f118
def L.gK.l1:LC:=lkL QP Tryz.f118 A.gK B.gK [1,1,0,1,0,0] lfc
def L.gK:LFn:=lkG QP Tryz.f118 A.gK B.gK (lfS lfc (lfS lfc (lfS (lfS lfc (lfB (lfO L.gK.l1))) lfc)))
theorem E.gK:aI Ss Tryz.f118=Sj L.gK:=R9
def L.ni:LFn:=lkF QP Tryz.f119
theorem E.ni:aI Ss Tryz.f119=Sj L.ni:=R9
def L.nc:LFn:=by apply(fun{b:LFn}(_:b=⟨[t 2],q [k [2] [(2,.con (Sn Sk 0 0))],.reg Sr (l [6,7] [] [(7,h (t 0)),(7,h (t 0))] (.makeSlice 120 (a 7) (a 7)) 120 8 (p [] (.alloc 120) 0 3 (s [] [] (w [3,8]) (.store 120 (a 3) (a 8)) z))),q [.reg Sr (l [9] [] [(9,t 0)] (x 144 [9] [120]) 216 10 z),.block 0 (.rangef (t 10) [11,12] (q [k [4] [(4,t 11)],k [5] [(5,t 12)]]) (.block 1 (.reg Sq (l [13,14,15,16,17,18,19] [(13,d (t 3)),(14,t 5),(18,d (i 1 (d (t 3)) (t 5)))] [(19,t 4)] (.buildSlice 22 1 #[(0,a 19)]) 22 20 (p (w [18,20]) (.call ⟨.builtin .append,#[a 18,a 20],#[22,22]⟩) 22 21 (.loud [22] [] [(22,i 1 (t 13) (t 14)),(21,t 21)] Sk [] Sq (.store 22 (a 22) (a 21)) 0 Sk Sr z))))))],k [23,2] [(2,d (t 3))],.ret]⟩)=>b);simp only[sh];rfl
theorem E.nc:aI Ss Tryz.f120=Sj L.nc:=R9
end
section
set_option maxRecDepth 100000
set_option maxHeartbeats 4000000
def A.bw:=lkA Tryz.f121
def B.bw:=lkB Tryz.f121
def L.bw.l1:LC:=lkL QP Tryz.f121 A.bw B.bw [1,1,1,1,0,1,0,0] lfc
def L.bw.l2:LC:=lkL QP Tryz.f121 A.bw B.bw [1,1,1,1,1,0,1,0,0] lfc
def L.bw.l5:LC:=lkL QP Tryz.f121 A.bw B.bw [1,1,1,1,1,1,1,0,1,0,0,1,0,1,1,0,0,1,1,0,0,1,1,0,1,0,0] lfc
def L.bw.l4:LC:=lkL QP Tryz.f121 A.bw B.bw [1,1,1,1,1,1,1,0,1,0,0,1,0,1,1,0,0] (lfS lfc (lfS lfc (lfS (lfB (lfS lfc (lfS lfc (lfS (lfS lfc (lfB (lfO L.bw.l5))) lfc)))) lfc)))
def L.bw.l3:LC:=lkL QP Tryz.f121 A.bw B.bw [1,1,1,1,1,1,1,0,1,0,0] (lfS lfc (lfB (lfS lfc (lfS lfc (lfB (lfO L.bw.l4))))))
def L.bw:LFn:=lkG QP Tryz.f121 A.bw B.bw (lfS lfc (lfS lfc (lfS lfc (lfS lfc (lfS (lfS lfc (lfB (lfO L.bw.l1))) (lfS (lfS lfc (lfB (lfO L.bw.l2))) (lfS lfc (lfS (lfS lfc (lfB (lfO L.bw.l3))) lfc))))))))
theorem E.bw:aI Ss Tryz.f121=Sj L.bw:=R9
def L.fS:LFn:=lkF QP Tryz.f122
theorem E.fS:aI Ss Tryz.f122=Sj L.fS:=R9
def A.cG:=lkA Tryz.f123
def B.cG:=lkB Tryz.f123
def L.cG.l1:LC:=lkL QP Tryz.f123 A.cG B.cG [1,1,1,0,1,0,0] lfc
def L.cG:LFn:=lkG QP Tryz.f123 A.cG B.cG (lfS lfc (lfS lfc (lfS lfc (lfS (lfS lfc (lfB (lfO L.cG.l1))) lfc))))
theorem E.cG:aI Ss Tryz.f123=Sj L.cG:=R9
def L.gV:LFn:=lkF QP Tryz.f124
theorem E.gV:aI Ss Tryz.f124=Sj L.gV:=R9
def A.bU:=lkA Tryz.f129
def B.bU:=lkB Tryz.f129
def L.bU.l2:LC:=lkL QP Tryz.f129 A.bU B.bU [1,0,1,0,0,1,1,0,0,1,1,0,0] lfc
def L.bU.l1:LC:=lkL QP Tryz.f129 A.bU B.bU [1,0,1,0,0] (lfS lfc (lfS lfc (lfS (lfB (lfS lfc (lfS lfc (lfB (lfO L.bU.l2))))) lfc)))
def L.bU:LFn:=lkG QP Tryz.f129 A.bU B.bU (lfS lfc (lfS (lfS lfc (lfB (lfO L.bU.l1))) lfc))
theorem E.bU:aI Ss Tryz.f129=Sj L.bU:=R9
def L.gD:LFn:=lkF QP Tryz.f130
theorem E.gD:aI Ss Tryz.f130=Sj L.gD:=R9
def L.gB:LFn:=lkF QP Tryz.f131
theorem E.gB:aI Ss Tryz.f131=Sj L.gB:=R9
def A.cZ:=lkA Tryz.f132
def B.cZ:=lkB Tryz.f132
def L.cZ:LFn:=lkG QP Tryz.f132 A.cZ B.cZ (lfS lfc (lfS lfc lfc))
theorem E.cZ:aI Ss Tryz.f132=Sj L.cZ:=R9
end
section
set_option maxRecDepth 100000
set_option maxHeartbeats 4000000
end
section
set_option maxRecDepth 100000
set_option maxHeartbeats 4000000
def A.df:=lkA Tryz.f134
def B.df:=lkB Tryz.f134
def L.df:LFn:=lkG QP Tryz.f134 A.df B.df (lfS lfc (lfS lfc (lfS lfc (lfS lfc lfc))))
theorem E.df:aI Ss Tryz.f134=Sj L.df:=R9
def A.da:=lkA Tryz.f135
def B.da:=lkB Tryz.f135
def L.da:LFn:=lkG QP Tryz.f135 A.da B.da (lfS lfc (lfS lfc lfc))
theorem E.da:aI Ss Tryz.f135=Sj L.da:=R9
def L.gW:LFn:=lkF QP Tryz.f138
theorem E.gW:aI Ss Tryz.f138=Sj L.gW:=R9
def L.ia:LFn:=lkF QP Tryz.f139
theorem E.ia:aI Ss Tryz.f139=Sj L.ia:=R9
def A.eF:=lkA Tryz.f140
def B.eF:=lkB Tryz.f140
def L.eF.l1:LC:=lkL QP Tryz.f140 A.eF B.eF [1,1,0,1,0,0] lfc
def L.eF:LFn:=lkG QP Tryz.f140 A.eF B.eF (lfS lfc (lfS lfc (lfS (lfS lfc (lfB (lfO L.eF.l1))) lfc)))
theorem E.eF:aI Ss Tryz.f140=Sj L.eF:=R9
def A.dO:=lkA Tryz.f141
def B.dO:=lkB Tryz.f141
def L.dO.l1:LC:=lkL QP Tryz.f141 A.dO B.dO [1,1,0,1,0,0] lfc
def L.dO:LFn:=lkG QP Tryz.f141 A.dO B.dO (lfS lfc (lfS lfc (lfS (lfS lfc (lfB (lfO L.dO.l1))) lfc)))
theorem E.dO:aI Ss Tryz.f141=Sj L.dO:=R9
def A.dg:=lkA Tryz.f142
def B.dg:=lkB Tryz.f142
def L.dg.l1:LC:=lkL QP Tryz.f142 A.dg B.dg [1,0,1,0,0] lfc
def L.dg:LFn:=lkG QP Tryz.f142 A.dg B.dg (lfS lfc (lfS (lfS lfc (lfB (lfO L.dg.l1))) lfc))
theorem E.dg:aI Ss Tryz.f142=Sj L.dg:=R9
def L.mX:LFn:=lkF QP Tryz.f144
theorem E.mX:aI Ss Tryz.f144=Sj L.mX:=R9
def A.di:=lkA Tryz.f145
def B.di:=lkB Tryz.f145
def L.di.l1:LC:=lkL QP Tryz.f145 A.di B.di [1,1,0,0,0] lfc
def L.di:LFn:=lkG QP Tryz.f145 A.di B.di (lfS lfc (lfS lfc (lfS (lfB (lfO L.di.l1)) lfc)))
theorem E.di:aI Ss Tryz.f145=Sj L.di:=R9
def L.gY:LFn:=lkF QP Tryz.f146
theorem E.gY:aI Ss Tryz.f146=Sj L.gY:=R9
def A.cu:=lkA Tryz.f150
def B.cu:=lkB Tryz.f150
def L.cu.l2:LC:=lkL QP Tryz.f150 A.cu B.cu [1,0,0,1,1,0,0,1,1,0,0] lfc
def L.cu.l1:LC:=lkL QP Tryz.f150 A.cu B.cu [1,0,0] (lfS lfc (lfS lfc (lfS (lfB (lfS lfc (lfS lfc (lfB (lfO L.cu.l2))))) lfc)))
def L.cu:LFn:=lkG QP Tryz.f150 A.cu B.cu (lfS lfc (lfB (lfO L.cu.l1)))
theorem E.cu:aI Ss Tryz.f150=Sj L.cu:=R9
end
end Go.Proofs.YtnfiilgdjpdlkaaGreatDoor
namespace Go.Proofs
open Go.Shelf
def Tryz.Bk:Go.Shelf.Ren:=⟨fun | 189=>148 | 125=>152 | 257=>151 | 128=>162 | 129=>163 | 294=>153 | 295=>154 | 296=>155 | 297=>156 | 298=>157 | 299=>158 | 216=>159 | 300=>160 | 301=>161 | 328=>164 | 329=>165 | 330=>166 | 331=>167 | 332=>168 | 215=>169 | 343=>170 | n=>n,fun | 28=>22 | 3=>3 | 46=>76 | 0=>0 | 51=>151 | 53=>74 | 4=>4 | 183=>225 | 182=>224 | 131=>167 | 5=>5 | 9=>9 | 218=>231 | 222=>235 | 228=>237 | 229=>182 | n=>n,fun | n=>n⟩
theorem Tryz.D0:Go.Proofs.Lays.n189 Ss Tryz.Bk:={
 mixed:=by kernel_rfl
 f125:=Tryz.func152.trans (congrArg Sj R9)
 f128:=Tryz.func162.trans (congrArg Sj R9)
 f129:=Tryz.func163.trans (congrArg Sj R9)
 f189:=Tryz.func148.trans (congrArg Sj R9)
 f215:=Tryz.func169.trans (congrArg Sj R9)
 f216:=Tryz.func159.trans (congrArg Sj R9)
 f257:=Tryz.func151.trans (congrArg Sj R9)
 f294:=Tryz.func153.trans (congrArg Sj R9)
 f295:=Tryz.func154.trans (congrArg Sj R9)
 f296:=Tryz.func155.trans (congrArg Sj R9)
 f297:=Tryz.func156.trans (congrArg Sj R9)
 f298:=Tryz.func157.trans (congrArg Sj R9)
 f299:=Tryz.func158.trans (congrArg Sj R9)
 f300:=Tryz.func160.trans (congrArg Sj R9)
 f301:=Tryz.func161.trans (congrArg Sj R9)
 f328:=Tryz.func164.trans (congrArg Sj R9)
 f329:=Tryz.func165.trans (congrArg Sj R9)
 f330:=Tryz.func166.trans (congrArg Sj R9)
 f331:=Tryz.func167.trans (congrArg Sj R9)
 f332:=Tryz.func168.trans (congrArg Sj R9)
 f343:=Tryz.func170.trans (congrArg Sj R9)
 t0:=Tryz.underlying0
 a0:=Tryz.isAgg0
 z0:=Tryz.sizeOf0
 v0:=Tryz.zeroValue0
 t3:=Tryz.underlying3
 a3:=Tryz.isAgg3
 z3:=Tryz.sizeOf3
 v3:=Tryz.zeroValue3
 t4:=Tryz.underlying4
 a4:=Tryz.isAgg4
 z4:=Tryz.sizeOf4
 v4:=Tryz.zeroValue4
 t5:=Tryz.underlying5
 a5:=Tryz.isAgg5
 z5:=Tryz.sizeOf5
 v5:=Tryz.zeroValue5
 t9:=Tryz.underlying9
 a9:=Tryz.isAgg9
 z9:=Tryz.sizeOf9
 v9:=Tryz.zeroValue9
 t28:=Tryz.underlying22
 a28:=Tryz.isAgg22
 z28:=Tryz.sizeOf22
 v28:=Tryz.zeroValue22
 t46:=Tryz.underlying76
 a46:=Tryz.isAgg76
 z46:=Tryz.sizeOf76
 v46:=Tryz.zeroValue76
 t51:=Tryz.underlying151
 a51:=Tryz.isAgg151
 z51:=Tryz.sizeOf151
 v51:=Tryz.zeroValue151
 t53:=Tryz.underlying74
 a53:=Tryz.isAgg74
 z53:=Tryz.sizeOf74
 v53:=Tryz.zeroValue74
 t131:=Tryz.underlying167
 a131:=Tryz.isAgg167
 z131:=Tryz.sizeOf167
 v131:=Tryz.zeroValue167
 t182:=Tryz.underlying224
 a182:=Tryz.isAgg224
 z182:=Tryz.sizeOf224
 v182:=Tryz.zeroValue224
 t183:=Tryz.underlying225
 a183:=Tryz.isAgg225
 z183:=Tryz.sizeOf225
 v183:=Tryz.zeroValue225
 t218:=Tryz.underlying231
 a218:=Tryz.isAgg231
 z218:=Tryz.sizeOf231
 v218:=Tryz.zeroValue231
 t222:=Tryz.underlying235
 a222:=Tryz.isAgg235
 z222:=Tryz.sizeOf235
 v222:=Tryz.zeroValue235
 t228:=Tryz.underlying237
 a228:=Tryz.isAgg237
 z228:=Tryz.sizeOf237
 v228:=Tryz.zeroValue237
 t229:=Tryz.underlying182
 a229:=Tryz.isAgg182
 z229:=Tryz.sizeOf182
 v229:=Tryz.zeroValue182 }
open Go.Sort Go.RowKit in
theorem Tryz.slices_Sort_int (blk off cap:Nat) (zs:List Int) (w:World) (hH:Holds (Sf .i64) w blk off zs.toArray) (hblk:blk<w.heap.size) (hsz:zs.length<4611686018427387904) :
  Calls Ss 148 #[Sn (Sj ⟨blk,off,Sk⟩) zs.length cap] w λe w'=>e = .returned (.tuple #[])/\∃n os,w'=grow (putRow (Sf .i64) (Sort.ahead w n) blk off (zs.mergeSort λx y=>decide (x<=y)).toArray) os:=Any.slices_Sort_int Tryz.D0 blk off cap zs w hH hblk hsz
def Tryz.BK:Go.Shelf.Ren:=⟨fun | 112=>143 | n=>n,fun | 28=>22 | 3=>3 | 4=>4 | 0=>0 | n=>n,fun | n=>n⟩
theorem Tryz.EE:Go.Proofs.Lays.n112 Ss Tryz.BK:={
 mixed:=by kernel_rfl
 f112:=Tryz.func143.trans (congrArg Sj R9)
 t0:=Tryz.underlying0
 a0:=Tryz.isAgg0
 z0:=Tryz.sizeOf0
 v0:=Tryz.zeroValue0
 t3:=Tryz.underlying3
 a3:=Tryz.isAgg3
 z3:=Tryz.sizeOf3
 v3:=Tryz.zeroValue3
 t4:=Tryz.underlying4
 a4:=Tryz.isAgg4
 z4:=Tryz.sizeOf4
 v4:=Tryz.zeroValue4
 t28:=Tryz.underlying22
 a28:=Tryz.isAgg22
 z28:=Tryz.sizeOf22
 v28:=Tryz.zeroValue22 }
open Go.RowKit Go.Lib Go.Sort in
/-- slices.Reverse at []int: "Reverse reverses the elements of the slice in place.": THE SLICE's CELLS HOLD 'zs.reverse' BEHIND THE CALL; all else is as it was, but for the count of draws (the exchange 's[i], s[j] = s[j], s[i]' draws its order, once a round). IN THE WORDS OF slices.Sort's CONTRACT: 'Holds': the cells hold zs and none is frozen; 'putRow': the world with those cells holding another array. A slice of length 0 that is not nil is among them ('zs = []'); nil: '.._nil'. (LAID: no walk: one application.) -/
theorem Tryz.slices_Reverse_int (blk off cap:Nat) (zs:List Int) (w:World) (hH:Holds (Sf .i64) w blk off zs.toArray) (hsz:zs.length<=9223372036854775807) :
  Calls Ss 143 #[Sn (Sj ⟨blk,off,Sk⟩) zs.length cap] w λe w'=>e = .returned (.tuple #[])/\∃n,w'=putRow (Sf .i64) (Sort.ahead w n) blk off zs.reverse.toArray:=Any.slices_Reverse_int Tryz.EE blk off cap zs w hH hsz
open Go.RowKit Go.Lib Go.Sort in
/-- The same at a slice of length 0, a nil one too: nothing is read, nothing written, nothing drawn. (LAID: no walk: one application.) -/
theorem Tryz.slices_Reverse_int_empty (a:Option Addr) (cap:Nat) (w:World) :
  Calls Ss 143 #[.slice a 0 cap] w λe w'=>e = .returned (.tuple #[])/\w'=w:=Any.slices_Reverse_int_empty Tryz.EE a cap w
def Tryz.ym:Go.Shelf.Ren:=⟨fun | 20=>149 | n=>n,fun | 22=>22 | 3=>3 | 4=>4 | 0=>0 | n=>n,fun | n=>n⟩
theorem Tryz.zb:Go.Proofs.Lays2.n20 Ss Tryz.ym:={
 mixed:=by kernel_rfl
 f20:=Tryz.func149.trans (congrArg Sj R9)
 t0:=Tryz.underlying0
 a0:=Tryz.isAgg0
 z0:=Tryz.sizeOf0
 v0:=Tryz.zeroValue0
 t3:=Tryz.underlying3
 a3:=Tryz.isAgg3
 z3:=Tryz.sizeOf3
 v3:=Tryz.zeroValue3
 t4:=Tryz.underlying4
 a4:=Tryz.isAgg4
 z4:=Tryz.sizeOf4
 v4:=Tryz.zeroValue4
 t22:=Tryz.underlying22
 a22:=Tryz.isAgg22
 z22:=Tryz.sizeOf22
 v22:=Tryz.zeroValue22
 i3:=by kernel_rfl }
open Go.RowKit Go.Lib Go.Sort in
/-- slices.Compact at []int: "Compact replaces consecutive runs of equal elements with a single copy. This is like the uniq command found on Unix. Compact modifies the contents of the slice s and returns the modified slice, which may have a smaller length. Compact zeroes the elements between the new length and the original length. The result preserves the nilness of s.": IT RETURNS THE SLICE CUT TO 'Lib.compact zs'; ITS CELLS HOLD 'Lib.compact zs', THEN ZERO VALUES up to the old length; all else is as it was, but for the count of draws. IN THE WORDS OF slices.Sort's CONTRACT ('Holds', 'putRow'): so the everyday 'slices.Sort(xs); xs = slices.Compact(xs)' goes from the one contract to the other. It asks 'zs.length <= cap' (every slice's: the reslicing 's[:k]' looks at it). Length 0, nil: '.._empty'. (LAID: no walk: one application.) -/
theorem Tryz.slices_Compact_int (blk off cap:Nat) (zs:List Int) (w:World) (hH:Holds (Sf .i64) w blk off zs.toArray) (hsz:zs.length<=9223372036854775807) (hcap:zs.length<=cap) :
  Calls Ss 149 #[Sn (Sj ⟨blk,off,Sk⟩) zs.length cap] w λe w'=>e = .returned (Sn (Sj ⟨blk,off,Sk⟩) (Lib.compact zs).length cap)/\∃q,w'=putRow (Sf .i64) (Sort.ahead w q) blk off (Lib.compact zs++List.replicate (zs.length-(Lib.compact zs).length) 0).toArray:=Any.slices_Compact_int Tryz.zb blk off cap zs w hH hsz hcap
open Go.RowKit Go.Lib Go.Sort in
/-- The same at a slice of length 0, a nil one too: it comes back as it is. (LAID: no walk: one application.) -/
theorem Tryz.slices_Compact_int_empty (a:Option Addr) (cap:Nat) (w:World) :
  Calls Ss 149 #[.slice a 0 cap] w λe w'=>e = .returned (.slice a 0 cap)/\w'=w:=Any.slices_Compact_int_empty Tryz.zb a cap w
open Go.RowKit Go.Sort in
/-- .. and plain. (LAID: no walk: one application.) -/
theorem Tryz.slices_Sort_int_none (p:Option Addr) (cap:Nat) (w:World) :
  Calls Ss 148 #[.slice p 0 cap] w λe w'=>e = .returned (.tuple #[])/\w'=w:=Any.slices_Sort_int_none Tryz.D0 p cap w
end Go.Proofs
namespace Go.Proofs.YtnfiilgdjpdlkaaGreatDoor
open Go Go.Lft
def I64 (x:Int):Prop:=-9223372036854775808<=x/\x<=9223372036854775807
theorem qK{W:View}{h:Heap}{e:TypeId}{v:Value}{l:List Int}:OwnT W h e v l↔l.length<=140737488355328/\(∀x∈l,I64 x)/\((v = Sn Sk 0 0/\l=[])\/
  ∃g cap cur,v = Sn (Sj ⟨g,0,Sk⟩) l.length cap/\h[g]? = Sj (.cells cur e (0,0))/\l.length<=cap/\cap<=maxLen/\cur.size=cap/\cur.toList.take l.length=l.map (.int .i64)):=by
 have hn:Rep.n Int=1:=rfl;constructor
 ·rintro⟨hb,xs,⟨hl,hown⟩,hel⟩;rw[hn,Px]at hl;have hel' : ∀(i:Nat) (hi:i<l.length),xs[i]? = Sj (Sf Sg l[i])/\I64 l[i]:=λi hi=>by
   obtain⟨h1,h2⟩:=hel i hi;rw[hn,Px]at h1;have:(xs.drop i).take 1=[Sf Sg l[i]]:=h1;have h3:((xs.drop i).take 1)[0]? = Sj (Sf Sg l[i]):=by rw[this];rfl
   rw[PO,if_pos S1,QF]at h3;exact⟨by simpa using h3,h2⟩
  have hxs:xs=l.map (.int .i64):=by
   refine Q9 λi=>?_;rcases OD i l.length with hi | hi
   ·rw[(hel' i hi).1];simp[hi]
   rw[O9 S0,O9 (by simpa using hi)]
  refine⟨hb,λx hx=>?_,?_⟩
  ·obtain⟨i,hi,rfl⟩:=OU hx;exact(hel' i hi).2
  rcases hown with⟨rfl,h0⟩ | ⟨g,cap,cur,rfl,hg,h1,h2,h3,h4⟩
  ·exact .inl ⟨rfl,OV h0⟩
  rw[hn,Px]at h3 h4;exact .inr ⟨g,cap,cur,rfl,hg,h1,h2,h3,by rw[h4,hxs]⟩
 rintro⟨hb,hr,hown⟩;refine⟨hb,l.map (.int .i64),⟨by rw[hn];simp,?_⟩,λi hi=>?_⟩
 ·rcases hown with⟨rfl,rfl⟩ | ⟨g,cap,cur,rfl,hg,h1,h2,h3,h4⟩
  ·exact .inl ⟨rfl,rfl⟩
  exact .inr ⟨g,cap,cur,rfl,hg,h1,h2,by rw[hn,Px];exact h3,by rw[hn,Px];exact h4⟩
 rw[hn,Px];refine⟨?_,hr _ (PD hi)⟩;refine Q9 λj=>?_;rw[PO];rcases OD j 1 with hj | hj
 ·have:j=0:=by omega
  subst this;simp[hi]
 rw[if_neg S0];simp;omega
theorem tF{w:World}{g cap:Nat}{cur:Array Value}{e:TypeId}{l:List Int}(hg:w.heap[g]? = Sj (.cells cur e (0,0)))(h1:l.length<=cur.size)(h4:cur.toList.take l.length=l.map (.int .i64)):Go.Sort.Holds (Sf .i64) w g 0 l.toArray:=by
 intro j hj;simp only[Ql]at hj;have hc:cur[j]? = Sj (Sf Sg l[j]):=by have:=congrArg (λx:List Value=>x[j]?) h4;simp only[PO,hj,if_true,Qn]at this;simpa[hj]using this
 constructor
 ·simp[World.cell?,hg,hc,hj]
 simp[World.frozen?,hg]
theorem zP{W:View}{w:World}{h':Heap}{e:TypeId}{v:Value}{g cap:Nat}{cur:Array Value}{l d:List Int}(hv:v = Sn (Sj ⟨g,0,Sk⟩) l.length cap)(hg:w.heap[g]? = Sj (.cells cur e (0,0)))(h1:l.length<=cap)(h2:cap<=maxLen)(h3:cur.size=cap)(hd:d.length=l.length)(hb:l.length<=140737488355328)(hr : ∀x∈d,I64 x)(n:Nat)(os:Array Obj)(hh:h'=(Go.Sort.grow (Go.Sort.putRow (Sf .i64) (Go.Sort.ahead w n) g 0 d.toArray) os).heap):
  OwnT W h' e v d/\Kept w.heap h' v.ownBlock:=by
 subst hv;have hlt:g<w.heap.size:=(OJ.1 hg).1;have hcur:(Go.Sort.putCells (Sf .i64) 0 d.toArray cur).toList.take d.length=d.map (.int .i64):=by
  refine Q9 λj=>?_;rw[PO];split
  ·rename_i hj;have hjc:j<cur.size:=by omega
   simp[Go.Sort.putCells,hj,hjc]
  rename_i hj;exact(O9 (by simpa using Nat.le_of_not_lt hj)).symm
 have hblk : ∀k,k<w.heap.size->h'[k]? = if g=k then(w.heap[k]?).map (Go.Sort.onCells (Go.Sort.putCells (Sf .i64) 0 d.toArray)) else w.heap[k]?:=by intro k hk;subst hh;simp only[Go.Sort.grow,Go.Sort.putRow,Go.Sort.mapBlock,Go.Sort.ahead];rw[RH (by simpa using hk),Rl]
 have hsz:w.heap.size<=h'.size:=by subst hh;simp[Go.Sort.grow,Go.Sort.putRow,Go.Sort.mapBlock,Go.Sort.ahead]
 refine⟨qK.2 ⟨by omega,hr,.inr ⟨g,cap,Go.Sort.putCells (Sf .i64) 0 d.toArray cur,by rw[hd],?_,by omega,h2,by simp[Go.Sort.putCells,h3],hcur⟩⟩,hsz,λk hk hne=>?_⟩
 ·rw[hblk g hlt,if_pos rfl,hg];rfl
 rw[hblk k hk,if_neg (λe=>hne (by simp[Value.ownBlock,e]))]
theorem sr(w:World)(n g:Nat)(d:Array Int)(os:Array Obj):Same w (Go.Sort.grow (Go.Sort.putRow (Sf .i64) (Go.Sort.ahead w n) g 0 d) os):=
 ⟨rfl,rfl,rfl,by simp[Go.Sort.grow,Go.Sort.putRow,Go.Sort.mapBlock,Go.Sort.ahead],λb hb=>by
  have hlt:=(OJ.1 hb).1;simp only[Go.Sort.grow,Go.Sort.putRow,Go.Sort.mapBlock,Go.Sort.ahead];rw[RH (by simpa using hlt),Rl];split
  ·rw[hb];rfl
  exact hb⟩
def py (l:List Int):List Int:=l.mergeSort λx y=>decide (x<=y)
theorem Jw{W:View}{h:Heap}{e:TypeId}{v:Value}{l:List Int}(o:OwnT W h e v l):aw Ss 148 #[v] h (λ_ h'=>OwnT W h' e v (py l)/\Kept h h' v.ownBlock):=by
 rintro w rfl;obtain⟨hb,hr,hown⟩:=qK.1 o;have hlen:(py l).length=l.length:=List.length_mergeSort _;have hr' : ∀x∈py l,I64 x:=λx hx=>hr x (RI.1 hx);rcases hown with⟨rfl,rfl⟩ | ⟨g,cap,cur,rfl,hg,h1,h2,h3,h4⟩
 ·refine(Tryz.slices_Sort_int_none Sk 0 w).mono ?_;rintro e' w' ⟨rfl,rfl⟩;exact⟨_,rfl,⟨by simpa[py]using o,Kept.refl _ _⟩,Same.refl _⟩
 refine(Tryz.slices_Sort_int g 0 cap l w (tF (cap:=cap) hg S0 h4) (OJ.1 hg).1 S0).mono ?_;rintro e' w' ⟨rfl,n,os,rfl⟩;exact⟨_,rfl,zP rfl hg h1 h2 h3 hlen hb hr' n os rfl,sr _ _ _ _ _⟩
theorem Ix{W:View}{h:Heap}{e:TypeId}{g n cap:Nat}{l:List Int}(o:OwnT W h e (Sn (Sj ⟨g,0,Sk⟩) l.length cap) l)(hn:n<=l.length):OwnT W h e (Sn (Sj ⟨g,0,Sk⟩) n cap) (l.take n):=by
 obtain⟨hb,hr,hown⟩:=qK.1 o;have hl:(l.take n).length=n:=by simp;omega
 rcases hown with⟨hv,_⟩ | ⟨g',cap',cur,hv,hg,h1,h2,h3,h4⟩
 ·cases hv
 cases hv;refine qK.2 ⟨by omega,λx hx=>hr x (List.mem_of_mem_take hx),.inr ⟨g,cap,cur,by rw[hl],hg,by omega,h2,h3,?_⟩⟩;rw[hl,List.map_take,<-h4,PV,PK hn]
theorem uN{l:List Int}:(Lib.compact l).length<=l.length:=by unfold Lib.compact Lib.compactUpTo;rw[P4];exact OY (List.length_filter_le _ _) Sa
theorem pP{l:List Int}{x:Int}(hx:x∈Lib.compact l):x∈l:=by unfold Lib.compact Lib.compactUpTo at hx;simp only[PG,QI,PT]at hx;obtain⟨i,⟨hi,_⟩,rfl⟩:=hx;simp[hi]
theorem CW{W:View}{h:Heap}{e:TypeId}{v:Value}{l:List Int}(o:OwnT W h e v l):aw Ss 149 #[v] h (λv' h'=>OwnT W h' e v' (Lib.compact l)/\lh h h' v v'):=by
 rintro w rfl;obtain⟨hb,hr,hown⟩:=qK.1 o;have hlen:=uN (l:=l);rcases hown with⟨rfl,rfl⟩ | ⟨g,cap,cur,rfl,hg,h1,h2,h3,h4⟩
 ·refine(Tryz.slices_Compact_int_empty Sk 0 w).mono ?_;rintro e' w' ⟨rfl,rfl⟩;exact⟨_,rfl,⟨o,Kept.refl _ _,.inl rfl⟩,Same.refl _⟩
 refine(Tryz.slices_Compact_int g 0 cap l w (tF (cap:=cap) hg S0 h4) S0 h1).mono ?_;rintro e' w' ⟨rfl,n,hw⟩;have hw':w'=Go.Sort.grow (Go.Sort.putRow (Sf .i64) (Go.Sort.ahead w n) g 0 (Lib.compact l++List.replicate (l.length-(Lib.compact l).length) 0).toArray) #[]:=by rw[hw];simp
 have hdl:(Lib.compact l++List.replicate (l.length-(Lib.compact l).length) 0).length=l.length:=by simp;omega
 have hrd : ∀x∈(Lib.compact l++List.replicate (l.length-(Lib.compact l).length) (0:Int)),I64 x:=λx hx=>by
  rcases OE.1 hx with hx | hx
  ·exact hr x (pP hx)
  obtain⟨_,rfl⟩:=List.mem_replicate.1 hx;exact S4
 obtain⟨o2,k2⟩:=zP (W:=W) (h':=w'.heap) rfl hg h1 h2 h3 hdl hb hrd n #[] (by rw[hw']);have o3:=Ix (n:=(Lib.compact l).length) (by rw[hdl];exact o2) Sa;rw[List.take_left'  rfl]at o3;exact⟨_,rfl,⟨o3,k2,.inl rfl⟩,by rw[hw'];exact sr _ _ _ _ _⟩
theorem DF{W:View}{h:Heap}{e:TypeId}{v:Value}{l:List Int}(o:OwnT W h e v l):aw Ss 143 #[v] h (λ_ h'=>OwnT W h' e v l.reverse/\Kept h h' v.ownBlock):=by
 rintro w rfl;obtain⟨hb,hr,hown⟩:=qK.1 o;rcases hown with⟨rfl,rfl⟩ | ⟨g,cap,cur,rfl,hg,h1,h2,h3,h4⟩
 ·refine(Tryz.slices_Reverse_int_empty Sk 0 w).mono ?_;rintro e' w' ⟨rfl,rfl⟩;exact⟨_,rfl,⟨o,Kept.refl _ _⟩,Same.refl _⟩
 refine(Tryz.slices_Reverse_int g 0 cap l w (tF (cap:=cap) hg S0 h4) S0).mono ?_;rintro e' w' ⟨rfl,n,hw⟩;have hw':w'=Go.Sort.grow (Go.Sort.putRow (Sf .i64) (Go.Sort.ahead w n) g 0 l.reverse.toArray) #[]:=by rw[hw];simp
 exact⟨_,rfl,zP rfl hg h1 h2 h3 Sa hb (λx hx=>hr x (by simpa using hx)) n #[] (by rw[hw']),by rw[hw'];exact sr _ _ _ _ _⟩
end Go.Proofs.YtnfiilgdjpdlkaaGreatDoor
