/- A part of the proof: LftX, LftY, LftZ, LftF, LftG, LftH, LftM, LftN, LftQ, LftU, LftJ, LftK, T, LftP, Ua, Law, Ga, La, Lb, Lc, Ld, Le, Lf, Lg, Lh, Li, Lj, Lk, Ll, Shelf. -/
import Derived.Test.YtnfiilgdjpdlkaaGreatDoorZTMat0
import Derived.KernelRfl
import Derived.ChangeKeysEq
import Derived.MapKept
import Derived.RecoverIn
import Derived.Test.YtnfiilgdjpdlkaaGreatDoorChecked
import Derived.ProofKit
import Derived.OpenShut
import Derived.HandedShaped
import Derived.LaidMore
import Derived.Test.YtnfiilgdjpdlkaaGreatDoorProg
import Derived.Shelf.Small.Bits
import Derived.Shelf.Small.Wraps
import Derived.Shelf.Strconv.Itoa0
import Derived.Shelf.Sort.Plain
import Derived.Shelf.Unicode.Latin
import Derived.Shelf.Unicode.Is16White
import Derived.Shelf.Unicode.IsSpaceAny
import Derived.Shelf.Unicode.Is16Any
import Derived.Shelf.Unicode.Is32Any
import Derived.Shelf.Unicode.ExclAny
import Derived.Shelf.Slices.Turned
import Derived.Shelf.Slices.Reverse
import Derived.Ground.Names2Prog
import Derived.Shelf.Slices.CompactI
import Derived.Shelf.Slices.SearchI
import Derived.Shelf.Slices.Cells
import Derived.Shelf.Slices.In.SortNone
set_option linter.unusedSimpArgs false
set_option linter.unusedVariables false
open Go.Value renaming int->Sb,slice->Sg,pointer->Si
open Go.IntKind renaming i64->Sc,i32->Sd
open Option renaming some->Se,none->Sf
open Bool renaming true->Sj,false->Sk
open Go.Proofs.Tryz renaming prog->Sn
namespace Go.Lft
open Go
section
variable {po:OP} {pp:PP}
def step [po:OP] (P:Program) (op:Op) (ty:TypeId) (us:List (Nat × Value)) (h:Heap) (K:Value->Heap->Prop):Prop:=iH P (bU op ty us) h K
variable{P:Program}{op:Op}{ty:TypeId}{us:List (Nat × Value)}{h':Heap}{K:Value->Heap->Prop}
@[congr] theorem Lj{us':List (Nat × Value)}{h:Heap}(e1:us=us')(e2:h=h'):step P op ty us h K=step P op ty us' h' K:=by rw[e1,e2]
def grdP (o:Option Value) (b:Bool) (A B:Prop):Prop:=∃gv,o=Se gv/\(gv = .bool b->A)/\(gv≠.bool b->B)
variable{b:Bool}
@[congr] theorem LN{o o':Option Value}{A B:Prop}(h:o=o'):grdP o b A B=grdP o' b A B:=by rw[h]
@[simp] theorem Nr{A B:Prop}:grdP (Se (.bool Sj)) Sj A B=A:=by simp[grdP]
@[simp] theorem Nh{A B:Prop}:grdP (Se (.bool Sj)) Sk A B=B:=by simp[grdP]
@[simp] theorem Nn{A B:Prop}:grdP (Se (.bool Sk)) Sj A B=B:=by simp[grdP]
@[simp] theorem Nk{A B:Prop}:grdP (Se (.bool Sk)) Sk A B=A:=by simp[grdP]
@[simp] theorem Ml{A B p:Prop}[Decidable p]:grdP (Se (.bool (decide p))) Sj A B=((p->A)/\(¬p->B)):=by simp[grdP]
@[simp] theorem L5{A B p:Prop}[Decidable p]:grdP (Se (.bool (decide p))) Sk A B=((p->B)/\(¬p->A)):=by simp[grdP,and_comm]
@[simp] theorem MT{A B:Prop}{x:Bool}:grdP (Se (.bool (!x))) b A B=grdP (Se (.bool x)) (!b) A B:=by cases x<;>cases b<;>simp
@[simp] theorem LJ{A B:Prop}:grdP (Se undef) b A B=B:=by simp[grdP,undef]
section
variable {P:Program} {Q:Env->Heap->Prop} {ρ:Env} {h:Heap}
variable{kill:List Nat}{sets args:List (Nat × E)}{chk:List E}{dst:Option Nat}{keep:Bool}{next:Reg}
@[simp] theorem KB{tail:Bool}:
  fi P Sf (.loud kill sets args Sf chk tail op ty dst keep next) Q ρ h=sat (evP (look ρ) (vw h) sets) λvs=>sat (evP (look ρ) (vw h) args) λus=>okE (look ρ) (vw h) chk/\pp.fx (dF (cm ρ kill) vs)/\
   @step (opAt Sf) P op ty us h λv h'=>fi P Sf next Q (putE (dF (cm ρ kill) vs) dst keep v) h':=by
 simp only[fi,dg,sat,step,iF,Option.map_none];refine propext ⟨λ⟨vs,us,h1,h2,h3,hfx,h4⟩=>⟨vs,h1,us,h2,h3,hfx,h4.mono λv h' hh=>?_⟩,λ⟨vs,h1,us,h2,h3,hfx,h4⟩=>⟨vs,us,h1,h2,h3,hfx,h4.mono λv h' hh=>?_⟩⟩
 ·have:=hh.2;cases tail<;>exact this
 cases tail<;>exact⟨by simp,hh⟩
@[simp] theorem KY{g:E}:
  fi P Sf (.loud kill sets args (Se (g,b)) chk Sk op ty dst keep next) Q ρ h=sat (evP (look ρ) (vw h) sets) λvs=>sat (evP (look ρ) (vw h) args) λus=>okE (look ρ) (vw h) chk/\pp.fx (dF (cm ρ kill) vs)/\
   grdP (ev (look ρ) (vw h) g) b (@step (opAt Sf) P op ty us h λv h'=>fi P Sf next Q (putE (dF (cm ρ kill) vs) dst keep v) h') (fi P Sf next Q (putE (dF (cm ρ kill) vs) dst keep undef) h):=by simp only[fi,dg,sat,step,iF,grdP];refine propext ⟨λ⟨vs,us,h1,h2,h3,hfx,gv,h4,h5,h6⟩=>⟨vs,h1,us,h2,h3,hfx,gv,h4,λe=>(h5 e).mono λv h' hh=>hh.2,h6⟩,λ⟨vs,h1,us,h2,h3,hfx,gv,h4,h5,h6⟩=>⟨vs,us,h1,h2,h3,hfx,gv,h4,λe=>(h5 e).mono λv h' hh=>⟨by simp,hh⟩,h6⟩⟩
variable{H:View}
@[simp] theorem Ky:
  fi P (Se H) (.loud kill sets args Sf chk Sk op ty dst keep next) Q ρ h=sat (evP (look ρ) H sets) λvs=>sat (evP (look ρ) H args) λus=>okE (look ρ) H chk/\pp.fx (dF (cm ρ kill) vs)/\
   @step (opAt (Se H)) P op ty us h λv h'=>H.le (vw h')/\fi P (Se H) next Q (putE (dF (cm ρ kill) vs) dst keep v) h':=by
 simp only[fi,dg,sat,step,mW];refine propext ⟨λ⟨vs,us,h1,h2,h3,hfx,h4⟩=>⟨vs,h1,us,h2,h3,hfx,h4.mono λv h' hh=>?_⟩,λ⟨vs,h1,us,h2,h3,hfx,h4⟩=>⟨vs,us,h1,h2,h3,hfx,h4.mono λv h' hh=>?_⟩⟩
 ·exact⟨by simpa using hh.1,hh.2⟩
 exact⟨by simpa using hh.1,hh.2⟩
@[simp] theorem Kt:
  fi P (Se H) (.loud kill sets args Sf chk Sj op ty dst keep next) Q ρ h=sat (evP (look ρ) H sets) λvs=>sat (evP (look ρ) H args) λus=>okE (look ρ) H chk/\pp.fx (dF (cm ρ kill) vs)/\
   @step (opAt (Se H)) P op ty us h λv h'=>fi P (Se nothing) next Q (putE (dF (cm ρ kill) vs) dst keep v) h':=by
 simp only[fi,dg,sat,step,mW];refine propext ⟨λ⟨vs,us,h1,h2,h3,hfx,h4⟩=>⟨vs,h1,us,h2,h3,hfx,h4.mono λv h' hh=>?_⟩,λ⟨vs,h1,us,h2,h3,hfx,h4⟩=>⟨vs,us,h1,h2,h3,hfx,h4.mono λv h' hh=>?_⟩⟩
 ·exact hh.2
 exact⟨by simp,hh⟩
@[simp] theorem Ko{g:E}:
  fi P (Se H) (.loud kill sets args (Se (g,b)) chk Sk op ty dst keep next) Q ρ h=sat (evP (look ρ) H sets) λvs=>sat (evP (look ρ) H args) λus=>okE (look ρ) H chk/\pp.fx (dF (cm ρ kill) vs)/\
   grdP (ev (look ρ) H g) b (@step (opAt (Se H)) P op ty us h λv h'=>H.le (vw h')/\fi P (Se H) next Q (putE (dF (cm ρ kill) vs) dst keep v) h') (fi P (Se H) next Q (putE (dF (cm ρ kill) vs) dst keep undef) h):=by simp only[fi,dg,sat,step,mW,grdP];refine propext ⟨λ⟨vs,us,h1,h2,h3,hfx,gv,h4,h5,h6⟩=>⟨vs,h1,us,h2,h3,hfx,gv,h4,λe=>(h5 e).mono λv h' hh=>⟨by simpa using hh.1,hh.2⟩,h6⟩,λ⟨vs,h1,us,h2,h3,hfx,gv,h4,h5,h6⟩=>⟨vs,us,h1,h2,h3,hfx,gv,h4,λe=>(h5 e).mono λv h' hh=>⟨by simpa using hh.1,hh.2⟩,h6⟩⟩
@[simp] theorem JU:
  dg View.sub P (Se H) (.loud kill sets args Sf chk Sk op ty dst keep next) Q ρ h=sat (evP (look ρ) H sets) λvs=>sat (evP (look ρ) H args) λus=>okE (look ρ) H chk/\pp.fx (dF (cm ρ kill) vs)/\
   @step (opAt (Se H)) P op ty us h λv h'=>H.sub (vw h')/\dg View.sub P (Se H) next Q (putE (dF (cm ρ kill) vs) dst keep v) h':=by
 simp only[dg,sat,step,mW];refine propext ⟨λ⟨vs,us,h1,h2,h3,hfx,h4⟩=>⟨vs,h1,us,h2,h3,hfx,h4.mono λv h' hh=>?_⟩,λ⟨vs,h1,us,h2,h3,hfx,h4⟩=>⟨vs,us,h1,h2,h3,hfx,h4.mono λv h' hh=>?_⟩⟩
 ·exact⟨by simpa using hh.1,hh.2⟩
 exact⟨by simpa using hh.1,hh.2⟩
@[simp] theorem I0:
  dg View.sub P (Se H) (.loud kill sets args Sf chk Sj op ty dst keep next) Q ρ h=sat (evP (look ρ) H sets) λvs=>sat (evP (look ρ) H args) λus=>okE (look ρ) H chk/\pp.fx (dF (cm ρ kill) vs)/\
   @step (opAt (Se H)) P op ty us h λv h'=>dg View.sub P (Se nothing) next Q (putE (dF (cm ρ kill) vs) dst keep v) h':=by
 simp only[dg,sat,step,mW];refine propext ⟨λ⟨vs,us,h1,h2,h3,hfx,h4⟩=>⟨vs,h1,us,h2,h3,hfx,h4.mono λv h' hh=>?_⟩,λ⟨vs,h1,us,h2,h3,hfx,h4⟩=>⟨vs,us,h1,h2,h3,hfx,h4.mono λv h' hh=>?_⟩⟩
 ·exact hh.2
 exact⟨by simp,hh⟩
@[simp] theorem IX{g:E}:
  dg View.sub P (Se H) (.loud kill sets args (Se (g,b)) chk Sk op ty dst keep next) Q ρ h=sat (evP (look ρ) H sets) λvs=>sat (evP (look ρ) H args) λus=>okE (look ρ) H chk/\pp.fx (dF (cm ρ kill) vs)/\
   grdP (ev (look ρ) H g) b (@step (opAt (Se H)) P op ty us h λv h'=>H.sub (vw h')/\dg View.sub P (Se H) next Q (putE (dF (cm ρ kill) vs) dst keep v) h') (dg View.sub P (Se H) next Q (putE (dF (cm ρ kill) vs) dst keep undef) h):=by simp only[dg,sat,step,mW,grdP];refine propext ⟨λ⟨vs,us,h1,h2,h3,hfx,gv,h4,h5,h6⟩=>⟨vs,h1,us,h2,h3,hfx,gv,h4,λe=>(h5 e).mono λv h' hh=>⟨by simpa using hh.1,hh.2⟩,h6⟩,λ⟨vs,h1,us,h2,h3,hfx,gv,h4,h5,h6⟩=>⟨vs,us,h1,h2,h3,hfx,gv,h4,λe=>(h5 e).mono λv h' hh=>⟨by simpa using hh.1,hh.2⟩,h6⟩⟩
@[simp] theorem LU:
  dg View.sub P (Se H) (.fin kill sets chk) Q ρ h=sat (evP (look ρ) H sets) λvs=>okE (look ρ) H chk/\Q (dF (cm ρ kill) vs) h:=rfl
@[simp] theorem Nl{ρ:Env}:@PP.fx noPP ρ=True:=rfl
@[simp] theorem Nj{Rp:List PanicEntry->Heap->Prop}{ρ:Env}:@PP.fx (ppOf Rp) ρ=True:=rfl
@[simp] theorem LF{m:Option View}{x y:Reg}:fi P m (.both x y) Q ρ h=(fi P m x Q ρ h/\fi P m y Q ρ h):=rfl
end
theorem sF{s:Sem Next}{f:FuncId}{args:Array Value}{h:Heap}{R:Value->Heap->Prop}(hs : ∀w:World,w.heap=h->s.run P w = .ok (.enter f args) w)(hc:aA P f args h R)(hk : ∀v h',R v h'->K v h'):iH P s h K:=by intro w hw r o a K' Q' hK hQ;rw[hs w hw];simp only[Oper.uponIn];refine⟨λh=>by simp[Fw,Fence.wide]at h,ti ((hc w hw).mono ?_)⟩;rintro e w' ⟨v,rfl,hR,hsame⟩;exact hK v w' (hk _ _ hR) hsame
theorem wT{s:Sem Next}{f:FuncId}{args:Array Value}{h:Heap}{R:Value->Heap->Prop}{Rp:List PanicEntry->Heap->Prop}(hs : ∀w:World,w.heap=h->s.run P w = .ok (.enter f args) w)(hc:ju P f args h R Rp)(hk : ∀v h',R v h'->K v h')(hp : ∀ch h',Rp ch h'->po.op ch h'):iH P s h K:=by
 intro w hw r o a K' Q' hK hQ;rw[hs w hw];simp only[Oper.uponIn];refine⟨λh=>by simp[Fw,Fence.wide]at h,ti ((hc w hw).mono ?_)⟩;rintro e w' (⟨v,rfl,hR,hsame⟩ | ⟨ch,rfl,hR,hsame⟩)
 ·exact hK v w' (hk _ _ hR) hsame
 exact hQ ch w' (hp _ _ hR) hsame
theorem Dp{f:FuncId}{ops:Array Operand}{T:Array TypeId}{args:Array Value}{h:Heap}(R:Value->Heap->Prop)(Rp:List PanicEntry->Heap->Prop)(hf:isFn P f=Sj)(ha:ops.map (asg us)=args)(hc:ju P f args h R Rp)(hk : ∀v h',R v h'->K v h')(hp : ∀ch h',Rp ch h'->po.op ch h'):
  step P (.call ⟨.value (.func f),ops,T⟩) ty us h K:=by
 subst ha;refine wT (λw _=>?_) hc hk hp;unfold isFn at hf;cases hfn:P.funcs[f]? with
 | none=>simp[hfn]at hf
 | some fn=>simp only[hfn,OA,bne_iff_ne,ne_eq]at hf;obtain⟨h1,h2⟩:=hf;simp[bU,execOp,resolve,Deferred.ofValue,asg,invoke,callFunc,program,Sem.run,hfn,h1,Option.isNone];cases hb:fn.body<;>simp[hb]at h2 ⊢
theorem oO{f:FuncId}{ops:Array Operand}{T:Array TypeId}{args:Array Value}{h:Heap}(R:Value->Heap->Prop)(hf:isFn P f=Sj)(ha:ops.map (asg us)=args)(hc:aA P f args h R)(hk : ∀v h',R v h'->K v h'):
  step P (.call ⟨.value (.func f),ops,T⟩) ty us h K:=by
 subst ha;refine sF (λw _=>?_) hc hk;unfold isFn at hf;cases hfn:P.funcs[f]? with
 | none=>simp[hfn]at hf
 | some fn=>simp only[hfn,OA,bne_iff_ne,ne_eq]at hf;obtain⟨h1,h2⟩:=hf;simp[bU,execOp,resolve,Deferred.ofValue,asg,invoke,callFunc,program,Sem.run,hfn,h1,Option.isNone];cases hb:fn.body<;>simp[hb]at h2 ⊢
def gJ [po:OP] (P:Program) (f:FuncId) (T:Array TypeId) (ty:TypeId) (args:List Value) (h:Heap) (K:Value->Heap->Prop):Prop:=
 step P (.call ⟨.value (.func f),args.toArray.map .const,T⟩) ty [] h K
@[simp] theorem Ns{t:Nat}:asg us (.tmp t)=(look us t).getD undef:=rfl
@[simp] theorem zh{v:Value}:asg us (.const v)=v:=rfl
@[simp] theorem Nd{f:FuncId}:asg us (.func f) = .func (.func f) #[] #[]:=rfl
@[simp] theorem Lc{g:Nat}:asg us (.global g) = Si (Se ⟨g,0,Sf⟩):=rfl
theorem jw{f:FuncId}{ops:List Operand}{T:Array TypeId}{h:Heap}:
  step P (.call ⟨.value (.func f),ops.toArray,T⟩) ty us h K=gJ P f T ty (ops.map (asg us)) h K:=by unfold gJ step;congr 1;simp[bU,execOp,resolve,Deferred.ofValue,RL]
section
variable {P:Program} {f:FuncId} {x y z u v:Operand} {T:Array TypeId} {ty:TypeId} {us:List (Nat × Value)} {h:Heap} {K:Value->Heap->Prop}
@[simp] theorem Lp:step P (.call ⟨.value (.func f),#[],T⟩) ty us h K=gJ P f T ty [] h K:=jw (ops:=[])
@[simp] theorem LQ:step P (.call ⟨.value (.func f),#[x],T⟩) ty us h K=gJ P f T ty [asg us x] h K:=jw (ops:=[x])
@[simp] theorem Lg:step P (.call ⟨.value (.func f),#[x,y],T⟩) ty us h K=gJ P f T ty [asg us x,asg us y] h K:=jw (ops:=[x,y])
@[simp] theorem La:step P (.call ⟨.value (.func f),#[x,y,z],T⟩) ty us h K=gJ P f T ty [asg us x,asg us y,asg us z] h K:=jw (ops:=[x,y,z])
@[simp] theorem LM:step P (.call ⟨.value (.func f),#[x,y,z,u],T⟩) ty us h K=gJ P f T ty [asg us x,asg us y,asg us z,asg us u] h K:=jw (ops:=[x,y,z,u])
@[simp] theorem Lx:step P (.call ⟨.value (.func f),#[x,y,z,u,v],T⟩) ty us h K=gJ P f T ty [asg us x,asg us y,asg us z,asg us u,asg us v] h K:=jw (ops:=[x,y,z,u,v])
end
@[congr] theorem Hj{f:FuncId}{T:Array TypeId}{args args':List Value}{h:Heap}(ha:args=args'):gJ P f T ty args h K=gJ P f T ty args' h K:=by rw[ha]
theorem aj{f:FuncId}{T:Array TypeId}{args:List Value}{h:Heap}{R:Value->Heap->Prop}(hf:isFn P f=Sj)(hc:aA P f args.toArray h R)(hk : ∀v h',R v h'->K v h'):gJ P f T ty args h K:=
 oO R hf (by simp[RL]) hc hk
theorem ez{f:FuncId}{T:Array TypeId}{args:List Value}{h:Heap}{R:Value->Heap->Prop}{Rp:List PanicEntry->Heap->Prop}(hf:isFn P f=Sj)(hc:ju P f args.toArray h R Rp)(hk : ∀v h',R v h'->K v h')(hp : ∀ch h',Rp ch h'->po.op ch h'):gJ P f T ty args h K:=
 Dp R Rp hf (by simp[RL]) hc hk hp
theorem cG{s:Sem Next}{h:Heap}(hs : ∀w:World,w.heap=h->∃v w',s.run P w = .ok (.value v) w'/\Same w w'/\K v w'.heap):iH P s h K:=by intro w hw r o a K' Q' hK hQ;obtain⟨v,w',h1,h2,h3⟩:=hs w hw;rw[h1];exact hK v w' h3 h2
theorem rm{s:Sem Next}{h:Heap}(hs : ∀w:World,w.heap=h->∃w',s.run P w = .ok .skip w'/\Same w w'/\K undef w'.heap):iH P s h K:=by intro w hw r o a K' Q' hK hQ;obtain⟨w',h1,h2,h3⟩:=hs w hw;rw[h1];exact hK undef w' h3 h2
theorem iV(w:World)(o:Obj):Same w (w.alloc o):=Same.AL rfl rfl rfl Sa λk hk=>heap_alloc_old w o hk
variable{n size:Nat}{cs:Array Value}
theorem qj{t e:TypeId}{ps:Array (Nat × Operand)}{h:Heap}{i:TypeInfo}{z:Value}{vs:List (Nat × Value)}(ht:P.underlying t=Se (.slice e))(hi:P.info? e=Se i)(hz:i.zero=Se z)(hs:i.size=size)(hn:n*size<=16777216)(hp:ps.map (λp=>(p.1,asg us p.2))=vs.toArray)(hf:Instr.fill (λj=>Se (j*size,size)) ((Array.range (n*size)).map (z.cells[· % z.cells.size]!)) vs=Se cs)(hk:K (Sg (Se ⟨h.size,0,Sf⟩) n n) (h.push (.cells cs e))):step P (.buildSlice t n ps) ty us h K:=by
 subst hs;refine cG λw hw=>?_;subst hw;have hn':¬(16777216<n*i.size):=by omega
 refine⟨_,w.alloc (.cells cs e),?_,iV _ _,hk⟩;have hp':(ps.map λx=>match x with | (i,x)=>(i,asg us x))=vs.toArray:=hp;by_cases h0:n*i.size=0
 ·have e1 : ∀f:Nat->Value,(Array.range 0).map f = #[]:=λf=>by simp[Array.range_zero']
  rw[h0,e1]at hf;simp only[bU,execOp,hp'];simp[Instr.buildSlice,run_underlying ht,sizeOf,typeInfo,hi,h0,newRow,e1,hf]
 simp only[bU,execOp,hp'];simp[Instr.buildSlice,run_underlying ht,sizeOf,typeInfo,hi,hn',newRow,h0,zeroValue,hz,hf]
def xH (h:Heap) (e:TypeId) (size:Nat) (v:Value) (n:Nat) (xs:List Value):Prop:=
  xs.length=n*size/\
  ((v = Sg Sf 0 0/\n=0)\/
   ∃g cap cur,v = Sg (Se ⟨g,0,Sf⟩) n cap/\h[g]? = Se (.cells cur e (0,0))/\n<=cap/\cap<=maxLen/\cur.size=cap*size/\cur.toList.take (n*size)=xs)
structure Kept (h h':Heap) (b:Option Nat):Prop where
 size:h.size<=h'.size
 block : ∀k,k<h.size->Se k≠b->h'[k]? = h[k]?
theorem Kept.refl(h:Heap)(b:Option Nat):Kept h h b:=⟨N8 _,λ_ _ _=>rfl⟩
theorem Kept.push (h:Heap) (o:Obj) (b:Option Nat):Kept h (h.push o) b:=⟨by simp,λk hk _=>by rw[Array.getElem?_push,if_neg R3]⟩
theorem Kept.trans {h h' h'':Heap} {b:Option Nat} (k:Kept h h' b) (k':Kept h' h'' b):Kept h h'' b:=
 ⟨OX k.size k'.size,λx hx hb=>(k'.block x (QX hx k.size) hb).trans (k.block x hx hb)⟩
def Av (W:View) (v:Value):Prop:=∀b,v.ownBlock=Se b->W b=Sf
variable{W:View}
theorem Kept.view{h:Heap}{v:Value}(k:Kept h h' v.ownBlock)(hw:W.le (vw h))(ha:Av W v):W.le (vw h'):=by
 intro b o hb;have hlt:=View.lt hw hb;have hne:Se b≠v.ownBlock:=λe=>by rw[ha b e.symm]at hb;cases hb
 show h'[b]? = Se o;rw[k.block b hlt hne];exact hw b o hb
theorem Kept.E9{h:Heap}(k:Kept h h' Sf)(hw:W.le (vw h)):W.le (vw h'):=by intro b o hb;show h'[b]? = Se o;rw[k.block b (View.lt hw hb) Sa];exact hw b o hb
theorem bC(h:Heap)(o:Obj):(vw h).le (vw (h.push o)):=(Kept.push h o Sf).E9 S2
theorem GL{h:Heap}(hle:(vw h).le (vw h'))(hs:h.size<=h'.size):Kept h h' none:=
 ⟨hs,λk hk _=>by have:h[k]? = Se h[k]:=OV hk;rw[this];exact hle k _ this⟩
theorem cD{h:Heap}(hle:(vw h).le (vw h')):h.size<=h'.size:=by
 rcases Ov h'.size h.size with hlt | hge
 ·have h1:h[h'.size]? = Se h[h'.size]:=OV hlt;have h2:h'[h'.size]? = Se h[h'.size]:=hle _ _ h1;simp at h2
 exact hge
theorem vH{h:Heap}(hle:(vw h).le (vw h')):Kept h h' none:=GL hle (cD hle)
theorem xH.kept{h h':Heap}{e:TypeId}{size n:Nat}{v:Value}{xs:List Value}{b:Option Nat}(ho:xH h e size v n xs)(k:Kept h h' b)(hb:v.ownBlock=Sf\/v.ownBlock≠b):xH h' e size v n xs:=by
 refine⟨ho.1,?_⟩;rcases ho.2 with hn | ⟨g,cap,cur,rfl,hg,rest⟩
 ·exact .inl hn
 refine .inr ⟨g,cap,cur,rfl,?_,rest⟩;rw[k.block g (OG.1 hg).1 (by simpa[Value.ownBlock]using hb)];exact hg
structure fA (P:Program) (t e:TypeId) (size bytes:Nat) (z:Value):Prop where
 ht:P.underlying t=Se (.slice e)
 hi : ∃i,P.info? e=Se i/\i.zero=Se z/\i.size=size/\i.bytes=bytes
 hz:z.cells.size=size
 hs:0<size
 hm:size<=1000
variable{bytes:Nat}
theorem DC{t e:TypeId}{z:Value}(hT:fA P t e size bytes z){w:World}{v:Value}{xs:List Value}(hown:xH w.heap e size v n xs){a:Option Addr}{m c:Nat}{news:List Value}(hl:news.length=m*size)(hnews : ∀ad,a=Se ad->∀j u,news[j]? = Se u->w.cell? (ad.add j)=Se u)(hnil:a=Sf->m=0)(h1 : ∀u∈news,u.oneCell'=Sj)(hbytes:(n+m)*bytes<=140737488355328)(h63:n+m<=140737488355328):
  ∃v' w',(Builtin.append_ #[t,t] ty #[v,.slice a m c]).run P w = .ok v' w'/\Same w w'/\xH w'.heap e size v' (n+m) (xs++news)/\Kept w.heap w'.heap v.ownBlock/\
   (v'.ownBlock=v.ownBlock\/v'.ownBlock=Se w.heap.size):=by
 obtain⟨ht,⟨i,hi,hz,hsize,hby⟩,hzs,hsz,_⟩:=hT;subst hsize;subst hby;cases a with
 | none=>
  obtain rfl:=hnil rfl;have hn:news=[]:=OC (by simpa using hl);subst hn;have hrun:(Builtin.append_ #[t,t] ty #[v,Sg Sf 0 c]).run P w = .ok v w:=by
   rcases hown.2 with⟨rfl,rfl⟩ | ⟨g,cap,cur,rfl,hg,hnc,hcm,hcs,htake⟩
   ·simp[Builtin.append_,run_underlying ht,sizeOf,typeInfo,hi,Builtin.lenOf,Builtin.firstCells]
   simp[Builtin.append_,run_underlying ht,sizeOf,typeInfo,hi,Builtin.lenOf,Builtin.firstCells,hnc,storeCells]
  exact⟨v,w,hrun,Same.refl _,by simpa using hown,Kept.refl _ _,.inl rfl⟩
 | some ad=>
  have hnews:=hnews ad rfl;have hlen:(xs++news).length=(n+m)*i.size:=by rw[OH,hown.1,hl,QE]
  have h63':n+m<=maxLen:=by simp only[maxLen];omega
  have grown : ∀(old:Nat),old<n+m->∀row,
    xH (w.drew.alloc (.cells (xs.toArray++news.toArray++Builtin.zeroCells z.cells (grownCap w (n+m) old e-(n+m))) e)).heap e i.size
     (Sg (Se ⟨w.heap.size,0,Sf⟩) (n+m) (grownCap w (n+m) old e)) (n+m) (xs++news)/\
    Kept w.heap (w.drew.alloc (.cells (xs.toArray++news.toArray++Builtin.zeroCells z.cells (grownCap w (n+m) old e-(n+m))) e)).heap row:=by
   intro old ho row;have hge:=grownCap_ge w (n+m) old e;have hcm:grownCap w (n+m) old e<=maxLen:=grownCap_le_maxLen w (n+m) old e h63';refine⟨⟨hlen,.inr ⟨w.heap.size,_,_,rfl,heap_alloc_new w.drew _,hge,hcm,?_,?_⟩⟩,⟨by simp,λk hk _=>by rw[heap_alloc_old w.drew _ (by simpa using hk)];rfl⟩⟩
   ·simp only[Array.size_append,Qv,size_zeroCells,hzs,hown.1,hl,<-Nat.add_mul];congr 1;omega
   simp only[Array.toList_append,ON];rw[<-List.append_assoc,<-hlen];exact Ry
  rcases hown.2 with⟨rfl,rfl⟩ | ⟨g,cap,cur,rfl,hg,hnc,hcm,hcs,htake⟩
  ·have hx:xs=[]:=OC (by simpa using hown.1);subst hx;by_cases hm:m=0
   ·subst hm;have hn:news=[]:=OC (by simpa using hl);subst hn;refine⟨Sg Sf 0 0,w,?_,Same.refl _,⟨by simp,.inl ⟨rfl,rfl⟩⟩,Kept.refl _ _,.inl rfl⟩;simp[Builtin.append_,run_underlying ht,sizeOf,typeInfo,hi,Builtin.lenOf,Builtin.firstCells,loadCells,loadCellsFrom]
   have hr:=run_append_nil (P:=P) w t ty e i z ht hi hz ad m c news hl hnews R3 R3 (by have hb:=hbytes;simp only[PH]at hb;omega);have hgr:=grown 0 R3 Sf;simp only[PH,OZ,Array.empty_append]at hgr ⊢;exact⟨_,_,hr,Same.AL rfl rfl rfl hgr.2.size (λk hk=>hgr.2.block k hk Sa),hgr.1,⟨hgr.2.size,λk hk _=>hgr.2.block k hk Sa⟩,.inr rfl⟩
  by_cases hroom:n+m<=cap
  ·have hfit:n*i.size+news.length<=cur.size:=by rw[hl,hcs,<-Nat.add_mul];exact OY _ hroom
   have hr:=run_append_room (P:=P) w t ty e i ht hi g n cap cur hg ad m c news hl hnews h1 hroom hfit;refine⟨_,_,hr,Same.sL rfl rfl rfl Sa hg Sa (λk _ hne=>setRow_other w g k _ (λe=>hne e)),⟨hlen,.inr ⟨g,cap,_,rfl,setRow_heap w g cur _ e _ hg,hroom,hcm,?_,?_⟩⟩,⟨by simp,λk hk hne=>setRow_other w g k _ (λe=>hne (by simp[Value.ownBlock,e]))⟩,.inl rfl⟩
   ·simp only[Qv,OH,O8,O9,Qz];omega
   rw[htake,<-hlen];exact Ry
  have holds : ∀j u,xs[j]? = Se u->w.cell? ((⟨g,0,Sf⟩:Addr).add j)=Se u:=by intro j u hu;have:=World.ownsRow.cells (w:=w) (base:=0) (e:=e) (size:=i.size) (v:=Sg (Se ⟨g,0,Sf⟩) n cap) (n:=n) (xs:=xs) ⟨hown.1,.inr ⟨g,cap,cur,rfl,Qw _,hg,hnc,hcm,hcs,htake⟩⟩ (g:=g) rfl j u hu;exact this
  have hr:=run_append_grow (P:=P) w t ty e i z ht hi hz ⟨g,0,Sf⟩ n cap xs hown.1 holds ad m c news hl hnews R3 R3 (growslice_fits R3 hbytes);have hgr:=grown cap R3 Sf;exact⟨_,_,hr,Same.AL rfl rfl rfl hgr.2.size (λk hk=>hgr.2.block k hk Sa),hgr.1,⟨hgr.2.size,λk hk _=>hgr.2.block k hk Sa⟩,.inr rfl⟩
theorem dv{h:Heap}(hr:iH P (bU op ty us) h K):step P op ty us h K:=hr
attribute [irreducible] step gJ
end
section
variable {po:OP} {pp:PP}
def fresh (h h':Heap):View:=λb=>if b<h.size then Sf else h'[b]?
theorem lX(h h':Heap):(fresh h h').le (vw h'):=λb o hb=>by
 unfold fresh at hb;split at hb
 ·cases hb
 exact hb
theorem gC(V:View)(h h':Heap):(fresh h h').le (grow V h h'):=λb o hb=>by
 unfold fresh at hb;unfold grow;split at hb
 ·cases hb
 rename_i hlt;rw[if_neg hlt];exact hb
structure lV (h h':Heap) (v v':Value):Prop where
 kept:Kept h h' v.ownBlock
 at_:v'.ownBlock=v.ownBlock\/v'.ownBlock=Se h.size
theorem lV.view {h h':Heap} {v v':Value} (m:lV h h' v v') {W:View} (hw:W.le (vw h)) (ha:Av W v):W.le (vw h')/\Av W v':=by
 refine⟨m.kept.view hw ha,λb hb=>?_⟩;rcases m.at_ with e | e
 ·exact ha b (by rw[<-e];exact hb)
 rw[e]at hb;simp only[N7]at hb;exact View.cS hw R3
theorem Av.nil(W:View)(n c:Nat):Av W (Sg Sf n c):=λb hb=>by simp[Value.ownBlock]at hb
section
variable {α:Type} [Rep α]
def OwnT (W:View) (h:Heap) (e:TypeId) (v:Value) (l:List α):Prop:=
 l.length<=140737488355328/\∃xs,xH h e (Rep.n α) v l.length xs/\∀(i:Nat) (hi:i<l.length),Rep.rd W ((xs.drop (i*Rep.n α)).take (Rep.n α)) l[i]
def SrcT (Ho Hi:View) (u:Value) (l:List α):Prop:=
 ∃a c,u = .slice a l.length c/\(a=Sf->l=[])/\∃news:List Value,news.length=l.length*Rep.n α/\(∀ad,a=Se ad->∀j x,news[j]? = Se x->ao Ho (ad.add j)=Se x)/\
  ∀(i:Nat) (hi:i<l.length),Rep.rd Hi ((news.drop (i*Rep.n α)).take (Rep.n α)) l[i]
theorem OwnT.nil(W:View)(h:Heap)(e:TypeId):OwnT (α:=α) W h e (Sg Sf 0 0) []:=
 ⟨by simp,[],⟨by simp,.inl ⟨rfl,rfl⟩⟩,λi hi=>by simp at hi⟩
variable {W:View} {h h':Heap} {e:TypeId} {v:Value} {l:List α}
theorem OwnT.len (o:OwnT W h e v l) {K:View}:Un.ev K .len v=Se (Sb Sc l.length):=by
 obtain⟨_,xs,⟨_,hx⟩,_⟩:=o;rcases hx with⟨rfl,hn⟩ | ⟨g,cap,cur,rfl,_⟩
 ·rw[hn];rfl
 rfl
theorem OwnT.mono (o:OwnT W h e v l) {W':View} (hw:W.le W'):OwnT W' h e v l:=
 let ⟨b,xs,h1,h2⟩:=o
 ⟨b,xs,h1,λi hi=>Rep.mono hw (h2 i hi)⟩
theorem OwnT.kept (o:OwnT W h e v l) {b:Option Nat} (k:Kept h h' b) (hb:v.ownBlock=Sf\/v.ownBlock≠b):OwnT W h' e v l:=
 let ⟨bd,xs,h1,h2⟩:=o
 ⟨bd,xs,h1.kept k hb,h2⟩
theorem OwnT.ext(o:OwnT W h e v l)(k:(vw h).le (vw h')):OwnT W h' e v l:=o.kept (vH k) (by cases v.ownBlock<;>simp)
variable{n:Nat}
theorem De{xs:List Value}{len:Nat}(hl:xs.length=len*n)(hr : ∀(i:Nat),i<len->∀u∈(xs.drop (i*n)).take n,u.oneCell'=Sj): ∀u∈xs,u.oneCell'=true:=by
 intro u hu;obtain⟨j,hj,rfl⟩:=OS hu;have hn:0<n:=by
  rcases P8 n with h | h
  ·subst h;simp at hl;subst hl;simp at hj
  exact h
 have hlt:j / n<len:=by rw[Nat.div_lt_iff_lt_mul hn];omega
 refine hr (j / n) hlt _ ?_;have hm:=Nat.mod_lt j hn;have hd:=Nat.div_add_mod j n;have:((xs.drop (j / n*n)).take n)[j % n]? = Se xs[j]:=by
  rw[PT,if_pos hm,P7];have:j / n*n+j % n=j:=by rw[Nat.mul_comm];exact hd
  rw[this];exact Pl hj
 exact Pp this
theorem Fx{xs ys:List Value}{a i:Nat}(hx:xs.length=a*n):((xs++ys).drop (i*n)).take n=if i<a then(xs.drop (i*n)).take n else(ys.drop ((i-a)*n)).take n:=by
 split
 ·rename_i h;have h1:i*n+n<=a*n:=by rw[<-Nat.succ_mul];exact OY _ h
  rw[PB R3,Pq R9]
 rename_i h;have h1:a*n<=i*n:=OY _ R3;have h2:(i-a)*n=i*n-a*n:=Nat.sub_mul ..;rw[QB,O6 R3,OZ,hx,h2]
variable{P:Program}{ty:TypeId}{bytes:Nat}{y:Operand}{us:List (Nat × Value)}{K:Value->Heap->Prop}
theorem bO{t:TypeId}{z:Value}{x:Operand}{u:Value}{l2:List α}(hT:fA P t e (Rep.n α) bytes z)(hx:asg us x=v)(hy:asg us y=u)(ho:OwnT W h e v l)(hs:SrcT (vw h) W u l2)(hb:(l.length+l2.length)*bytes<=140737488355328)(hb2:l.length+l2.length<=140737488355328)(hk : ∀v' h',OwnT W h' e v' (l++l2)->lV h h' v v'->K v' h'):step P (.call ⟨.builtin .append,#[x,y],#[t,t]⟩) ty us h K:=by
 obtain⟨hbd,xs,h1,h2⟩:=ho;obtain⟨a,c,rfl,hnil,news,h3,h4,h5⟩:=hs;refine dv (cG λw hw=>?_);subst hw;have hflat : ∀u∈news,u.oneCell'=true:=De h3 λi hi=>Rep.flat (h5 i hi);obtain⟨v',w',g1,g2,g3,g4,g5⟩:=DC hT (ty:=ty) h1 h3 (λad ha j u hu=>h4 ad ha j u hu) (c:=c) (λha=>by rw[hnil ha];rfl) hflat hb hb2;refine⟨v',w',?_,g2,hk v' w'.heap ⟨by simpa using hb2,xs++news,by simpa using g3,λi hi=>?_⟩ ⟨g4,g5⟩⟩
 ·simp only[bU,execOp];simp[resolve,invoke,builtin,hx,hy,g1]
 rw[Fx h1.1];split
 ·rename_i hlt;rw[QS hlt];exact h2 i hlt
 rename_i hge;rw[QO R3];exact h5 (i-l.length) (by simp at hi;omega)
variable{H:View}
theorem SlRd.src{K:View}(s:SlRd H v l)(hk:H.le K):SrcT K H v l:=by
 obtain⟨a,cap,rfl,h1,h2,h3⟩:=s;rcases h3 with rfl | ⟨ad,rfl,hs,hat⟩
 ·exact⟨a,cap,rfl,λ_=>rfl,[],by simp,λ_ _ j x hx=>by simp at hx,λi hi=>by simp at hi⟩
 refine⟨Se ad,cap,rfl,(λh=>by cases h),?_⟩;cases hl:l with
 | nil=>exact⟨[],by simp,λ_ _ j x hx=>by simp at hx,λi hi=>by simp at hi⟩
 | cons d0 l0=>
  rw[<-hl];have hpos:0<l.length:=by rw[hl];simp
  obtain⟨cs0,⟨c,T,fz,_,hb,_⟩,_⟩:=hat 0 hpos;have hblk:H ad.block=Se (.cells c T fz):=by rw[bS hs]at hb;exact hb
  have hcs : ∀(i:Nat) (hi:i<l.length),Rep.rd H ((c.toList.drop (ad.off+i*Rep.n α)).take (Rep.n α)) l[i]:=by intro i hi;obtain⟨cs,⟨c',T',fz',_,hb',he⟩,hr⟩:=hat i hi;rw[bS hs]at hb' he;simp only at hb' he;rw[hblk]at hb';cases hb';rw[Rep.len hr]at he;rw[he];exact hr
  have htot:ad.off+l.length*Rep.n α<=c.toList.length:=by
   have:=Rep.len (hcs (l.length-1) R3);have hn:=Rep.pos (α:=α);simp only[O8,O9]at this;have e1:l.length*Rep.n α=(l.length-1)*Rep.n α+Rep.n α:=by rw[<-Nat.succ_mul];congr 1;omega
   omega
  refine⟨(c.toList.drop ad.off).take (l.length*Rep.n α),?_,?_,?_⟩
  ·simp only[O8,O9];omega
  ·intro ad' e j x hx;cases e;have hj:j<l.length*Rep.n α:=by
    rcases Ov j (l.length*Rep.n α)with h | h
    ·exact h
    rw[Pk R9]at hx;cases hx
   rw[PT,if_pos hj,P7]at hx;rw[bS hs];simp only[ao,hk _ _ hblk];simpa using hx
  intro i hi;have h1:i*Rep.n α+Rep.n α<=l.length*Rep.n α:=by rw[<-Nat.succ_mul];exact OY _ hi
  rw[PK,PE,P6,Pu R3];exact hcs i hi
variable{V:View}
theorem OwnT.rd(o:OwnT W h e v l)(hw:W.le V)(hv : ∀b,v.ownBlock=Se b->V b=h[b]?):SlRd V v l:=by
 obtain⟨hbd,xs,⟨hx,hown⟩,hel⟩:=o;rcases hown with⟨rfl,hn⟩ | ⟨g,cap,cur,rfl,hg,h1,h2,h3,h4⟩
 ·have:l=[]:=OC hn;subst this;exact⟨Sf,0,rfl,by simp,by simp,.inl rfl⟩
 refine⟨Se ⟨g,0,Sf⟩,cap,rfl,h1,hbd,.inr ⟨_,rfl,rfl,λi hi=>?_⟩⟩;refine⟨(xs.drop (i*Rep.n α)).take (Rep.n α),⟨cur,e,(0,0),?_,?_,?_⟩,Rep.mono hw (hel i hi)⟩
 ·rw[bS rfl]
 ·rw[bS rfl];rw[hv g rfl];exact hg
 rw[bS rfl,Rep.len (hel i hi)];have hle:i*Rep.n α+Rep.n α<=l.length*Rep.n α:=by rw[<-Nat.succ_mul];exact OY _ hi
 rw[<-h4,PK,PE];simp only[PH];rw[Pu R3]
theorem OwnT.fresh {h0:Heap} (o:OwnT W h e v l) (hW:W.le (fresh h0 h)) (ha:Av (vw h0) v):SlRd (Lft.fresh h0 h) v l:=by
 refine o.rd hW λb hb=>?_;have:=ha b hb;simp only[vw]at this;have hge:h0.size<=b:=by
  rcases Ov b h0.size with h | h
  ·simp[h]at this
  exact h
 simp only[Lft.fresh,if_neg (RY.2 hge)]
theorem oG{t:TypeId}{z:Value}{x:Operand}{u:Value}{d:α}(hT:fA P t e (Rep.n α) bytes z)(hx:asg us x=u)(hr:Rd W u d)(hk : ∀u' h',SrcT (vw h') W u' [d]->(vw h).le (vw h')->h'.size=h.size+1->K u' h'):step P (.buildSlice t 1 #[(0,x)]) ty us h K:=by
 have hTT:=hT;obtain⟨ht,⟨i,hi,hz,hsize,hby⟩,hzs,hsz,hsmall⟩:=hT;have hcells:Rep.rd W u.cells.toList d/\u.cells.size=Rep.n α:=by
  unfold Rd at hr;split at hr
  ·obtain⟨cs,rfl,h⟩:=hr;exact⟨h,by rw[<-Rep.len h];rfl⟩
  rename_i ha;have hone:=Rep.one (α:=α) (by simpa using ha);have hfl:=Rep.flat hr u Sa;have:u.cells = #[u]:=by cases u<;>first | rfl | simp[Value.oneCell']at hfl
  rw[this];exact⟨by simpa using hr,by simp[hone]⟩
 have hfill:Instr.fill (λj=>Se (j*Rep.n α,Rep.n α)) ((Array.range (1*Rep.n α)).map (z.cells[· % z.cells.size]!)) [(0,u)]=Se u.cells:=by
  have hlen : ∀(A:Array Value) (cs:Array Value),A.size=cs.size->cs.zipIdx.foldl (λcs' (p:Value × Nat)=>cs'.setIfInBounds (0+p.2) p.1) A=cs:=by
   intro A cs hA;have key : ∀(l:List Value) (k:Nat) (B:Array Value),B.size=k+l.length->((l.zipIdx k).foldl (λcs' (p:Value × Nat)=>cs'.setIfInBounds (0+p.2) p.1) B).toList=B.toList.take k++l:=by
    intro l;induction l with
    | nil=>intro k B hB;simp at hB;simp only[List.zipIdx_nil,List.foldl_nil,PO];rw[OK (by simp[hB])]
    | cons y l ih=>
     intro k B hB;simp only[Rl,OW];rw[ih (k+1) _ (by simp at hB ⊢;omega)];simp only[PH,RA];have hk:k<B.toList.length:=by simp at hB ⊢;omega
     rw[OE (by simpa using hk)];simp[Rt]
   rw[<-Array.toList_inj,<-Array.foldl_toList,Array.toList_zipIdx];have:=key cs.toList 0 A (by simpa using hA);simpa using this
  simp only[Instr.fill,PY,PH,Array.size_map,Array.size_range,RM,hcells.2,ne_eq,not_true,decide_false,RX,gt_iff_lt,Nat.lt_irrefl];simp only[PS,if_false];congr 1;have:=hlen ((Array.range (Rep.n α)).map (z.cells[· % z.cells.size]!)) u.cells (by simp[hcells.2]);simpa using this
 refine qj ht hi hz hsize R3 (vs:=[(0,u)]) (by simp[hx]) hfill (hk _ _ ?_ (bC _ _) Sa);refine⟨Se ⟨h.size,0,Sf⟩,1,rfl,(λh=>by cases h),u.cells.toList,by simp[hcells.2],?_,?_⟩
 ·intro ad e j x hx;cases e;rw[bS rfl];simp only[ao,vw,QT];simpa using hx
 intro i hi';simp only[Px,QV,PH,Nat.lt_one_iff]at hi';subst hi';have:(u.cells.toList.take (Rep.n α))=u.cells.toList:=by rw[OK];simp[hcells.2]
 simpa[this]using hcells.1
theorem mL{t:TypeId}{z:Value}{x:Operand}{k:IntKind}{d:α}(hT:fA P t e (Rep.n α) bytes z)(hx:asg us x = .int k n)(hy:asg us y = .int k n)(hr:Rep.rd W z.cells.toList d)(hb:bytes*n<=140737488355328)(hb2:n<=140737488355328)(hk : ∀v' h',OwnT W h' e v' (List.replicate n d)->lV h h' (Sg Sf 0 0) v'->(vw h).le (vw h')->v'.ownBlock=Se h.size->K v' h'):step P (.makeSlice t x y) ty us h K:=by
 obtain⟨ht,⟨i,hi,hz,hsize,hby⟩,hzs,hsz,hsmall⟩:=hT;refine dv (cG λw hw=>?_);subst hw;have hrun:=run_make (P:=P) w t e i z ht hi hz k k (n:Int) (n:Int) R3 (QY _) (by
  rw[hby];have:((bytes*n:Nat):Int)<=281474976710656:=by omega
  rwa [Int.natCast_mul]at this) R3;simp only[O2]at hrun;refine⟨Sg (Se ⟨w.heap.size,0,Sf⟩) n n,w.alloc (.cells (madeCells z.cells (n*i.size)) e),?_,iV _ _,hk _ _ ?_ ⟨Kept.push _ _ _,.inr rfl⟩ (bC _ _) rfl⟩
 ·simp only[bU,execOp,hx,hy];simp[hrun]
 refine⟨by simpa using hb2,((madeCells z.cells (n*Rep.n α)).toList.take (n*Rep.n α)),⟨by simp[size_madeCells],.inr ⟨w.heap.size,n,madeCells z.cells (n*Rep.n α),by simp,?_,by simp,by simp only[maxLen];omega,by simp[size_madeCells],by simp⟩⟩,?_⟩
 ·rw[hsize];exact heap_alloc_new w _
 intro j hj;simp only[Po]at hj;have he:((((madeCells z.cells (n*Rep.n α)).toList.take (n*Rep.n α)).drop (j*Rep.n α)).take (Rep.n α))=z.cells.toList:=by
  have h1:j*Rep.n α+Rep.n α<=n*Rep.n α:=by rw[<-Nat.succ_mul];exact OY _ hj
  refine PU ?_ λm hm1 hm2=>?_
  ·simp[size_madeCells,hzs];omega
  simp only[O8,O9]at hm1;simp only[RK,QL,madeCells,Array.toList_map,List.getElem_map,Array.toList_range,List.getElem_range];have hm:m<z.cells.size:=by simpa using hm2
  have hmod:(j*Rep.n α+m) % z.cells.size=m:=by rw[hzs,Nat.mul_comm,Nat.mul_add_mod];exact Nat.mod_eq_of_lt R3
  rw[hmod];simp[hm]
 rw[he];simpa using hr
theorem sE{t:TypeId}{x:Operand}{i:Nat}{u:Value}{d:α}(hsz:cH P t=Se (Rep.n α))(hx:asg us x = Si (Se ((slA v).add (i*Rep.n α))))(hy:asg us y=u)(ho:OwnT W h e v l)(hi:i<l.length)(hr:Rd W u d)(hk : ∀h',OwnT W h' e v (l.set i d)->lV h h' v v->K undef h'):step P (.store t x y) ty us h K:=by
 have hcells:Rep.rd W u.cells.toList d/\u.cells.size=Rep.n α:=by
  unfold Rd at hr;split at hr
  ·obtain⟨cs,rfl,h⟩:=hr;exact⟨h,by rw[<-Rep.len h];rfl⟩
  rename_i ha;have hone:=Rep.one (α:=α) (by simpa using ha);have hfl:=Rep.flat hr u Sa;have:u.cells = #[u]:=by cases u<;>first | rfl | simp[Value.oneCell']at hfl
  rw[this];exact⟨by simpa using hr,by simp[hone]⟩
 obtain⟨hbd,xs,⟨hxl,hown⟩,hel⟩:=ho;refine dv (rm λw hw=>?_);subst hw;rcases hown with⟨rfl,hn⟩ | ⟨g,cap,cur,rfl,hg,h1,h2,h3,h4⟩
 ·omega
 have hle:i*Rep.n α+Rep.n α<=l.length*Rep.n α:=by rw[<-Nat.succ_mul];exact OY _ hi
 have hcap:l.length*Rep.n α<=cap*Rep.n α:=OY _ h1;have hlen:u.cells.toList.length=Rep.n α:=by simpa using hcells.2
 have hrun:=run_storeCells_at P g (i*Rep.n α) e u.cells.toList 0 cur w hg (by simp only[Nat.add_zero];omega) (λc hc=>Rep.flat hcells.1 c hc);have hadd:(slA (Sg (Se ⟨g,0,Sf⟩) l.length cap)).add (i*Rep.n α)=⟨g,i*Rep.n α,Sf⟩:=by show(⟨g,0,Sf⟩:Addr).add _=_;rw[bS rfl];simp
 have hszr:=run_sizeOf (P:=P) (w:=w) hsz;obtain⟨row,hrow⟩ : ∃row:Array Value,row.toList=cur.toList.take (i*Rep.n α)++u.cells.toList++cur.toList.drop (i*Rep.n α+Rep.n α):=⟨(cur.toList.take (i*Rep.n α)++u.cells.toList++cur.toList.drop (i*Rep.n α+Rep.n α)).toArray,rfl⟩;have hrun':Sem.run P (storeCells ⟨g,i*Rep.n α,Sf⟩ u.cells.toList) w = .ok () (w.setRow g row):=by rw[hrun];congr 2;rw[<-Array.toList_inj,hrow,hlen];rfl
 have hrsz:row.size=cap*Rep.n α:=by have:=congrArg List.length hrow;simp only[Qz,OH,O8,O9,hcells.2]at this;omega
 refine⟨w.setRow g row,?_,Same.sL rfl rfl rfl Sa hg Sa (λk _ hne=>setRow_other w g k _ (λe=>hne e)),hk (w.setRow g row).heap ⟨by simpa using hbd,xs.take (i*Rep.n α)++u.cells.toList++xs.drop (i*Rep.n α+Rep.n α),⟨?_,.inr ⟨g,cap,row,by simp,setRow_heap w g cur row e _ hg,by simpa using h1,h2,?_,?_⟩⟩,?_⟩ ⟨⟨by simp,λk hk hne=>setRow_other w g k _ (λe=>hne (by simp[Value.ownBlock,e]))⟩,.inl rfl⟩⟩
 ·simp only[bU,execOp,hx,hy,hadd];simp[Instr.storeAt,Instr.sureAddr,storeVar,hszr,hcells.2,hrun']
 ·simp only[OH,O8,O9,hlen,OR];omega
 ·exact hrsz
 ·simp only[OR];rw[hrow,<-h4,PE,Pu R3,ON,ON];have e1:(cur.toList.take (i*Rep.n α)).length=i*Rep.n α:=by simp;omega
  rw[P5,e1,OK R3];congr 1;rw[P5,hlen,OK R3];congr 1;rw[PK];congr 1;omega
 intro j hj;simp only[OR]at hj;have hjle:j*Rep.n α+Rep.n α<=l.length*Rep.n α:=by rw[<-Nat.succ_mul];exact OY _ hj
 have e1:(xs.take (i*Rep.n α)).length=i*Rep.n α:=by simp;omega
 by_cases hij:i=j
 ·subst hij;rw[ON,QB,e1,O6 R3,OZ,Q2,P9,Pq R3,OK R3];simpa using hcells.1
 have hset:(l.set i d)[j]'(by simpa using hj)=l[j]:=by simp[hij]
 rw[hset];have:((xs.take (i*Rep.n α)++u.cells.toList++xs.drop (i*Rep.n α+Rep.n α)).drop (j*Rep.n α)).take (Rep.n α)=(xs.drop (j*Rep.n α)).take (Rep.n α):=by
  rcases Ov j i with hlt | hge
  ·have h5:j*Rep.n α+Rep.n α<=i*Rep.n α:=by rw[<-Nat.succ_mul];exact OY _ hlt
   rw[ON,PB R3,Pq R9,PK,PE,Pu R3]
  have h5:i*Rep.n α+Rep.n α<=j*Rep.n α:=by rw[<-Nat.succ_mul];exact OY _ R3
  have e2:(xs.take (i*Rep.n α)++u.cells.toList).length=i*Rep.n α+Rep.n α:=by rw[OH,e1,hlen]
  rw[QB,O6 R3,OZ,e2,P6];congr 2;omega
 rw[this];exact hel j hj
end
end
section
variable {po po2 po3:OP} {pp:PP}
def up {β:Type} (f:Nat->β->β):Nat->β->β
 | 0,x=>x
 | k+1,x=>f k (up f k x)
def Old (V:View) (h0:Heap) (W:View):Prop:=∀b o,b<h0.size->W b=Se o->V b=Se o
theorem Old.refl(V:View)(h0:Heap):Old V h0 V:=λ_ _ _ h=>h
theorem Old.nothing (V:View) (h0:Heap):Old V h0 nothing:=λ_ _ _ h=>by cases h
theorem Old.grow {V W:View} {h0 h1 h2:Heap} (o:Old V h0 W) (hs:h0.size<=h1.size):Old V h0 (grow W h1 h2):=λb x hb hx=>by unfold Lft.grow at hx;rw[if_pos R3]at hx;exact o b x hb hx
theorem Old.le {V W:View} {h0 h:Heap} (o:Old V h0 W) (hw:W.le (vw h)):W.le (Lft.grow V h0 h):=λb x hx=>by
 unfold Lft.grow;split
 ·exact o b x (by assumption) hx
 exact hw b x hx
variable{H:View}
@[simp] theorem bQ:nothing.le H:=λ_ _ h=>by cases h
theorem He(h h':Heap):fresh h h'=Lft.grow nothing h h':=by funext b;unfold fresh Lft.grow;rfl
section
variable {α:Type} [Rep α] {V W:View} {h0 h h':Heap} {e:TypeId} {v:Value} {l:List α}
theorem OwnT.lt(o:OwnT W h e v l){b:Nat}(hb:v.ownBlock=Se b):b<h.size:=by
 obtain⟨_,xs,⟨_,hown⟩,_⟩:=o;rcases hown with⟨rfl,_⟩ | ⟨g,cap,cur,rfl,hg,_⟩
 ·simp[Value.ownBlock]at hb
 simp only[Value.ownBlock,N7]at hb;subst hb;exact(OG.1 hg).1
theorem OwnT.now(o:OwnT W h e v l)(hw:W.le (vw h)):SlRd (vw h) v l:=o.rd hw λ_ _=>rfl
theorem OwnT.grown(o:OwnT W h e v l)(hw:W.le (vw h))(ho:Old V h0 W)(ha:Av (vw h0) v):SlRd (Lft.grow V h0 h) v l:=by
 refine o.rd (ho.le hw) λb hb=>?_;have:=ha b hb;simp only[vw]at this;have hge:h0.size<=b:=by
  rcases Ov b h0.size with h | h
  ·simp[h]at this
  exact h
 simp only[Lft.grow,if_neg (RY.2 hge)]
theorem Av.grow (ha:Av W v) (hl : ∀b,v.ownBlock=Se b->b<h.size):Av (Lft.grow W h h') v:=λb hb=>by unfold Lft.grow;rw[if_pos (hl b hb)];exact ha b hb
structure Mine (V:View) (h0 h:Heap) (W:View) (e:TypeId) (v:Value) (l:List α):Prop where
 old:(vw h0).le (vw h)
 wle:W.le (vw h)
 av:Av W v
 av0:Av (vw h0) v
 agree:Old V h0 W
 own:OwnT W h e v l
theorem Mine.start(hV:V.le (vw h)):Mine (α:=α) V h h V e (Sg Sf 0 0) []:=
 ⟨View.le_refl _,hV,Av.nil _ _ _,Av.nil _ _ _,Old.refl _ _,OwnT.nil ..⟩
theorem Mine.ext (m:Mine V h0 h W e v l) (k:(vw h).le (vw h')):Mine V h0 h' (Lft.grow W h h') e v l:=
 ⟨S3 m.old k,jl (S3 m.wle k),m.av.grow λ_ hb=>m.own.lt hb,m.av0,m.agree.grow (cD m.old),(m.own.ext k).mono (aR m.wle)⟩
theorem Mine.ext'(m:Mine V h0 h W e v l)(k:(vw h).le (vw h')):Mine V h0 h' W e v l:=
 ⟨S3 m.old k,S3 m.wle k,m.av,m.av0,m.agree,m.own.ext k⟩
theorem Mine.result(m:Mine V h0 h W e v l):SlRd (Lft.grow V h0 h) v l:=m.own.grown m.wle m.agree m.av0
theorem Mine.fresh (m:Mine nothing h0 h W e v l):SlRd (Lft.fresh h0 h) v l:=by rw[He];exact m.result
theorem Mine.now (m:Mine V h0 h W e v l):SlRd (vw h) v l:=m.own.now m.wle
theorem Mine.iu{v':Value}{l':List α}(m:Mine V h0 h W e v l)(o:OwnT W h' e v' l')(k:lV h h' v v'):Mine V h0 h' W e v' l':=
 let ⟨a1,a2⟩:=k.view m.wle m.av
 let ⟨b1,b2⟩:=k.view m.old m.av0
 ⟨b1,a1,a2,b2,m.agree,o⟩
variable{P:Program}{ty ty2:TypeId}{bytes:Nat}{y:Operand}{us:List (Nat × Value)}{us2:Value->List (Nat × Value)}
theorem Mine.push{t:TypeId}{z:Value}{x y2:Operand}{u:Value}{d:α}{K:Value->Value->Heap->Prop}(m:Mine V h0 h W e v l)(hT:fA P t e (Rep.n α) bytes z)(hx:asg us x=u)(hr:Rd W u d)(hb:(l.length+1)*bytes<=140737488355328)(hb2:l.length+1<=140737488355328)(hy : ∀u,asg (us2 u) y=v)(hy2 : ∀u,asg (us2 u) y2=u)(hk : ∀u v' h',Mine V h0 h' W e v' (l++[d])->K u v' h'):
  @step po P (.buildSlice t 1 #[(0,x)]) ty us h λu h2=>@step po2 P (.call ⟨.builtin .append,#[y,y2],#[t,t]⟩) ty2 (us2 u) h2 λv' h3=>K u v' h3:=by refine oG hT hx hr λu h2 hs hle _=>?_;have m2:=m.ext' hle;exact bO hT (hy u) (hy2 u) m2.own hs hb hb2 λv' h3 ho hm=>hk u v' h3 (m2.iu ho hm)
variable{n:Nat}{K:Value->Heap->Prop}
theorem Mine.made{t:TypeId}{z:Value}{x:Operand}{k:IntKind}{d:α}(hT:fA P t e (Rep.n α) bytes z)(hle:(vw h0).le (vw h))(hW:W.le (vw h))(ho:Old V h0 W)(hx:asg us x = .int k n)(hy:asg us y = .int k n)(hr:Rep.rd W z.cells.toList d)(hb:bytes*n<=140737488355328)(hb2:n<=140737488355328)(hk : ∀v' h',Mine V h0 h' W e v' (List.replicate n d)->(vw h).le (vw h')->v'.ownBlock=Se h.size->K v' h'):step P (.makeSlice t x y) ty us h K:=
 mL hT hx hy hr hb hb2 λv' h' ow mv le hb=>hk v' h' ⟨S3 hle le,S3 hW le,λb hb'=>by rw[hb]at hb';cases hb';exact View.cS hW (N8 _),λb hb'=>by rw[hb]at hb';cases hb';exact View.cS hle (N8 _),ho,ow⟩ le hb
theorem Mine.put{t:TypeId}{x:Operand}{i:Nat}{u:Value}{d:α}(m:Mine V h0 h W e v l)(hsz:cH P t=Se (Rep.n α))(hx:asg us x = Si (Se ((slA v).add (i*Rep.n α))))(hy:asg us y=u)(hi:i<l.length)(hr:Rd W u d)(hk : ∀h',Mine V h0 h' W e v (l.set i d)->K undef h'):step P (.store t x y) ty us h K:=
 sE hsz hx hy m.own hi hr λh' ho hm=>hk h' (m.iu ho hm)
theorem Mine.put1{t:TypeId}{x:Operand}{i:Nat}{u:Value}{d:α}(m:Mine V h0 h W e v l)(hsz:cH P t=Se (Rep.n α))(hn:Rep.n α=1)(hx:asg us x = Si (Se ((slA v).add i)))(hy:asg us y=u)(hi:i<l.length)(hr:Rd W u d)(hk : ∀h',Mine V h0 h' W e v (l.set i d)->K undef h'):step P (.store t x y) ty us h K:=
 m.put hsz (i:=i) (by rw[hn,Pn];exact hx) hy hi hr hk
end
variable{β:Type}
theorem Gq{f:Nat->List β->List β}{m:Nat}(hf : ∀k x,(f k x).length<=x.length+m)(n:Nat)(x:List β):(up f n x).length<=x.length+n*m:=by
 induction n with
 | zero=>simp[up]
 | succ n ih=>have:=hf n (up f n x);rw[up,Pv];omega
def sift {β:Type} (p:Nat->Bool) (x:Nat->β) (n:Nat):List β:=up (λb l=>if p b then l++[x b] else l) n []
theorem qH{p:Nat->Bool}{x:Nat->β}(n:Nat):(sift p x n).length<=n:=by have:=Gq (f:=λb l=>if p b then l++[x b] else l) (m:=1) (λk x=>by split<;>simp) n [];simpa[sift]using this
variable{n:Nat}
theorem oQ{p:Nat->Bool}{x:Nat->β}(h:p n=Sj):sift p x (n+1)=sift p x n++[x n]:=by rw[sift,up,if_pos h];rfl
theorem nF{p:Nat->Bool}{x:Nat->β}(h:p n=Sk):sift p x (n+1)=sift p x n:=by rw[sift,up,if_neg (by simp[h])];rfl
def rows {β:Type} (x:Nat->β) (n:Nat):List β:=(List.range n).map x
theorem fk{x:Nat->β}:rows x (n+1)=rows x n++[x n]:=by simp[rows,QJ]
@[simp] theorem np{x:Nat->β}:(rows x n).length=n:=by simp[rows]
@[simp] theorem Mu{x:Nat->β}:rows x 0=[]:=rfl
@[simp] theorem Mm{p:Nat->Bool}{x:Nat->β}:sift p x 0=[]:=rfl
theorem ry{p:Nat->Bool}{x:Nat->β}:sift p x n=((List.range n).filter p).map x:=by
 induction n with
 | zero=>rfl
 | succ n ih=>
  rw[QJ,RB,QG,<-ih];cases h:p n with
  | true=>rw[oQ h];simp[h]
  | false=>rw[nF h];simp[h]
theorem tO{x:Nat->β}{d:β}{k:Nat}(hk:k<n):(rows x k++List.replicate (n-k) d).set k (x k)=rows x (k+1)++List.replicate (n-(k+1)) d:=by
 have e:n-k=(n-(k+1))+1:=by omega
 rw[List.set_append_right _ _ Sa,np,Q2,e,List.replicate_succ,List.set_cons_zero,fk,ON];rfl
theorem gL[Inhabited β]{x:Nat->β}{i:Nat}(h:i<n):nth (rows x n) i=x i:=by rw[aB (by simpa using h)];simp[rows]
theorem yL{h h1 h2:Heap}(hle:(vw h).le (vw h1)):(fresh h1 h2).le (fresh h h2):=λb o hb=>by
 have:=cD hle;unfold fresh at hb ⊢;split at hb
 ·cases hb
 rw[if_neg R3];exact hb
variable{P:Program}{size bytes:Nat}
theorem ig{t e:Nat}{z:Value}(ht:P.underlying t=Se (.slice e))(h:(P.info? e).map (λi=>(i.zero,i.size,i.bytes))=Se (Se z,size,bytes))(hz:z.cells.size=size)(hs:0<size/\size<=1000):fA P t e size bytes z:=by simp only[Ow,PW]at h;obtain⟨i,h1,h2,h3,h4⟩:=h;exact⟨ht,⟨i,h1,h2,h3,h4⟩,hz,hs.1,hs.2⟩
theorem qk{a:Int}(h0:-9223372036854775808<=a)(h1:a<=9223372036854775807):Rd H (Sb Sc a) a:=aX.2 ⟨rfl,h0,h1⟩
variable{b:Bool}
theorem JD:Rd H (.bool b) b:=xh.2 rfl
end
section
variable {po:OP} {pp:PP}
variable{ρ:Env}
theorem ag{ts:List Nat}{u:Nat}:look (cm ρ ts) u=if ts.contains u then Sf else look ρ u:=by
 induction ρ with
 | nil=>simp
 | cons p ρ ih=>
  obtain⟨k,x⟩:=p;rw[nM];by_cases hk:ts.contains k=Sj
  ·simp only[hk,if_true,ih,vy];split
   ·rfl
   rename_i h;split
   ·rename_i e;subst e;exact absurd hk h
   rfl
  rw[if_neg hk,vy,vy,ih];by_cases h1:k=u
  ·subst h1;rw[if_pos rfl,if_pos rfl,if_neg hk]
  rw[if_neg h1,if_neg h1]
theorem oM {ρ ρ':Env} : ∀{ks:List Nat},(∀t∈ks,look ρ t=look ρ' t)->bD ks ρ=bD ks ρ'
 | [],_=>rfl
 | k::ks,h=>by have ih:bD ks ρ=bD ks ρ':=oM λt ht=>h t (OL _ ht);simp only[bD,h k OJ,ih]
theorem nf{ts:List Nat}(h : ∀p∈ρ,ts.contains p.1=Sk):cm ρ ts=ρ:=by
 induction ρ with
 | nil=>rfl
 | cons p ρ ih=>obtain⟨k,x⟩:=p;have h1:=h (k,x) OJ;simp only at h1;rw[nM,h1,if_neg Sa,ih (λp hp=>h p (OL _ hp))]
theorem nC{t:Nat}{v:Value}(h : ∀p∈ρ,p.1≠t):cm (setE ρ t v) [t]=ρ:=by
 have hid:cm ρ [t]=ρ:=nf λp hp=>by simpa using λe=>h p hp e
 induction ρ with
 | nil=>simp[setE]
 | cons p ρ ih=>
  obtain⟨k,x⟩:=p;have hk:=h (k,x) OJ;simp only at hk;have hid2:cm ρ [t]=ρ:=nf λp hp=>by simpa using λe=>h p (OL _ hp) e
  simp only[setE,if_neg hk];split
  ·rw[nM,if_pos Sa,hid]
  rw[nM,if_neg (by simpa using hk),ih (λp hp=>h p (OL _ hp)) hid2]
theorem om{X Y:Env->Heap->Prop}{R:Post}:fh X (fh Y R)=fh X R:=by funext e ρ h;cases e<;>rfl
abbrev forL (a i c:Nat) (ks ks2:List Nat) (bound:E) (body:LC):LC:=
 .loop (.seq (.seq (.reg Sk (.fin ks [(c,.bin (.cmp .lss) (.tmp i) bound)] [])) (.cond (.tmp c) [c] .skip (.exit a)))
  (.seq body (.reg Sk (.fin ks2 [(i,.bin (.arith .add) (.tmp i) (.con (Sb Sc 1)))] []))))
def wL (kp ks ks2:List Nat) (c i:Nat):Bool:=kp.all λt=>!ks.contains t&&t != c&&(t == i||!ks2.contains t)
theorem zip_fst{kp:List Nat}{vs:List Value}{p:Nat × Value}(h:p∈kp.zip vs):p.1∈kp:=(List.of_mem_zip h).1
variable{P:Program}{Q:Post}{body:LC}
theorem bZ{h:Heap}{a i c:Nat}{ks ks2:List Nat}{bound:E}{σ:Type}(kp:List Nat)(vals:σ->Nat->List Value)(J:σ->Nat->Heap->Prop)(n:Nat)(s0:σ)(hok:wL kp ks ks2 c i=Sj)(hn:n<=9223372036854775806)(h0:bD kp ρ=kp.zip (vals s0 0))(hj:J s0 0 h)(hi : ∀s k,look (kp.zip (vals s k)) i=Se (Sb Sc k))(hb : ∀s k h,k<=n->J s k h->ev (look (kp.zip (vals s k))) (vw h) bound=Se (Sb Sc n))(round : ∀s k h,k<n->J s k h->∀K:Env->Heap->Prop,(∀s' ρ' h',look ρ' i=Se (Sb Sc k)->bD kp (setE ρ' i (Sb Sc ((k:Int)+1)))=kp.zip (vals s' (k+1))->J s' (k+1) h'->K ρ' h')->body.wp P (fh K (fm a Q)) (kp.zip (vals s k)) h)(done : ∀s h,J s n h->Q .normal (kp.zip (vals s n)) h):LC.wp P (forL a i c ks ks2 bound body) (fm a Q) ρ h:=by
 simp only[wL,O7,OA,PM,bne_iff_ne,Pt,beq_iff_eq,ne_eq]at hok;refine iy kp (λm ρ h=>∃s k,k<=n/\ρ=kp.zip (vals s k)/\m=n-k/\J s k h) n ⟨s0,0,by omega,h0,by omega,hj⟩ ?_;rintro m ρ h ⟨s,k,hk,rfl,rfl,hJ⟩ K hK;have hkill:cm (kp.zip (vals s k)) ks=kp.zip (vals s k):=nf λp hp=>(hok p.1 (zip_fst hp)).1.1;have hne : ∀p∈kp.zip (vals s k),p.1≠c:=λp hp=>(hok p.1 (zip_fst hp)).1.2;have hk2 : ∀v,cm (setE (kp.zip (vals s k)) c v) [c]=kp.zip (vals s k):=λv=>nC hne;have hlk : ∀v,look (setE (kp.zip (vals s k)) c v) c=Se v:=λv=>by rw[af,if_pos rfl]
 simp only[pS,kL,kh,iF,lR,nO,mU,mb,hi,hb s k h hk hJ,OT,Hn,kG,ou,true_and,dF,hkill,gj,lQ,hlk,mE,hk2,tZ,tH,pL,pE,if_true];refine⟨λhlt=>?_,λhge=>?_⟩
 ·have hlt':k<n:=by omega
  rw[om];refine round s k h hlt' hJ _ λs' ρ' h' hl he hJ'=>?_;simp only[kL,kh,iF,lR,nO,mU,mb,hl,ou,true_and,OT,Ap,OT,Aq,kG,dF,gj,true_and];rw[bj R3 R3];refine hK (n-(k+1)) _ _ R3 ⟨s',k+1,by omega,?_,rfl,hJ'⟩;rw[<-he];refine oM λt ht=>?_;rw[af,af,ag];split
  ·rfl
  rename_i hti;rcases(hok t ht).2 with e | e
  ·exact absurd e.symm hti
  rw[e];rfl
 have:k=n:=by omega
 subst this;exact done s h hJ
abbrev forR (a i c:Nat) (ks ks2:List Nat) (bound:E) (body:LC):LC:=
 .loop (.seq (.reg Sk (.fin ks [(c,.bin (.cmp .lss) (.tmp i) bound)] [])) (.seq (.cond (.tmp c) [c] .skip (.exit a))
  (.seq body (.reg Sk (.fin ks2 [(i,.bin (.arith .add) (.tmp i) (.con (Sb Sc 1)))] [])))))
theorem aY{h:Heap}{a i c:Nat}{ks ks2:List Nat}{bound:E}{σ:Type}(kp:List Nat)(vals:σ->Nat->List Value)(J:σ->Nat->Heap->Prop)(n:Nat)(s0:σ)(hok:wL kp ks ks2 c i=Sj)(hn:n<=9223372036854775806)(h0:bD kp ρ=kp.zip (vals s0 0))(hj:J s0 0 h)(hi : ∀s k,look (kp.zip (vals s k)) i=Se (Sb Sc k))(hb : ∀s k h,k<=n->J s k h->ev (look (kp.zip (vals s k))) (vw h) bound=Se (Sb Sc n))(round : ∀s k h,k<n->J s k h->∀K:Env->Heap->Prop,(∀s' ρ' h',look ρ' i=Se (Sb Sc k)->bD kp (setE ρ' i (Sb Sc ((k:Int)+1)))=kp.zip (vals s' (k+1))->J s' (k+1) h'->K ρ' h')->body.wp P (fh K (fm a Q)) (kp.zip (vals s k)) h)(done : ∀s h,J s n h->Q .normal (kp.zip (vals s n)) h):LC.wp P (forR a i c ks ks2 bound body) (fm a Q) ρ h:=by
 simp only[wL,O7,OA,PM,bne_iff_ne,Pt,beq_iff_eq,ne_eq]at hok;refine iy kp (λm ρ h=>∃s k,k<=n/\ρ=kp.zip (vals s k)/\m=n-k/\J s k h) n ⟨s0,0,by omega,h0,by omega,hj⟩ ?_;rintro m ρ h ⟨s,k,hk,rfl,rfl,hJ⟩ K hK;have hkill:cm (kp.zip (vals s k)) ks=kp.zip (vals s k):=nf λp hp=>(hok p.1 (zip_fst hp)).1.1;have hne : ∀p∈kp.zip (vals s k),p.1≠c:=λp hp=>(hok p.1 (zip_fst hp)).1.2;have hk2 : ∀v,cm (setE (kp.zip (vals s k)) c v) [c]=kp.zip (vals s k):=λv=>nC hne;have hlk : ∀v,look (setE (kp.zip (vals s k)) c v) c=Se v:=λv=>by rw[af,if_pos rfl]
 simp only[pS,kL,kh,iF,lR,nO,mU,mb,hi,hb s k h hk hJ,OT,Hn,kG,ou,true_and,dF,hkill,gj,lQ,hlk,mE,hk2,tZ,tH,pL,pE,if_true];refine⟨λhlt=>?_,λhge=>?_⟩
 ·have hlt':k<n:=by omega
  rw[om];refine round s k h hlt' hJ _ λs' ρ' h' hl he hJ'=>?_;simp only[kL,kh,iF,lR,nO,mU,mb,hl,ou,true_and,OT,Ap,OT,Aq,kG,dF,gj,true_and];rw[bj R3 R3];refine hK (n-(k+1)) _ _ R3 ⟨s',k+1,by omega,?_,rfl,hJ'⟩;rw[<-he];refine oM λt ht=>?_;rw[af,af,ag];split
  ·rfl
  rename_i hti;rcases(hok t ht).2 with e | e
  ·exact absurd e.symm hti
  rw[e];rfl
 have:k=n:=by omega
 subst this;exact done s h hJ
theorem aI{h:Heap}{r:Reg}(H:View)(hH:H.le (vw h))(hw:fi P (Se H) r (Q .normal) ρ h):LC.wp P (.reg Sj r) Q ρ h:=⟨H,View.xS hH,j0 (λ_ _=>View.xS) hw⟩
theorem FE{h:Heap}{r:Reg}(H:View)(hH:H.sub (vw h))(hw:dg View.sub P (Se H) r (Q .normal) ρ h):LC.wp P (.reg Sj r) Q ρ h:=⟨H,hH,hw⟩
end
section
variable {po po2 po3:OP} {pp:PP}
variable{n:Nat}
@[simp] theorem GQ{b o:Nat}:(⟨b,o,Sf⟩:Addr).add n=⟨b,o+n,Sf⟩:=bS rfl n
variable{H:View}
@[simp] theorem Mz{a:Addr}:Un.ev H .nilPtr (Si (Se a))=Se (Si (Se a)):=rfl
@[simp] theorem NS{a:Addr}{o:Nat}:Un.ev H (.fld o) (Si (Se a))=Se (Si (Se (a.add o))):=rfl
@[simp] theorem Ni{k q:IntKind}{a:Int}:Un.ev H (.conv k) (.int q a)=Se (.int k (k.wrap a)):=rfl
variable{cs:Array Value}
@[simp] theorem Nq{o:Nat}:Un.ev H (.part o) (.agg cs)=cs[o]?:=rfl
@[simp] theorem M5{o:Nat}:Un.ev H (.parts o n) (.agg cs)=Se (.agg (cs.extract o (o+n))):=rfl
@[simp] theorem NY{o:Nat}:Un.ev H (.ext o) (.tuple cs)=cs[o]?:=rfl
def KC:Value->Value->Option Value
 | .tuple vs,u=>Se (.tuple (vs.push u))
 | _,_=>Sf
@[simp] theorem KN{vs:Array Value}{u:Value}:KC (.tuple vs) u=Se (.tuple (vs.push u)):=rfl
@[simp] theorem LX{σ:Nat->Option Value}{x y:E}:ev σ H (.snoc x y)=(ev σ H x).bind λv=>(ev σ H y).bind λu=>KC v u:=by
 simp only[ev];cases hx:ev σ H x with
 | none=>rfl
 | some v=>
  cases hy:ev σ H y with
  | none=>cases v<;>rfl
  | some u=>cases v<;>rfl
@[simp] theorem N4{f:Nat}{vs:Array Value}:Un.ev H (.fn f) (.tuple vs)=Se (.func (.func f) #[] vs):=rfl
@[simp] theorem Mg:(Value.agg cs).cells=cs:=rfl
@[simp] theorem KD{a:Option Addr}{c:Nat}:(Value.slice a n c).cells = #[.slice a n c]:=rfl
@[simp] theorem MA{k:IntKind}{n:Int}:(Sb k n).cells = #[.int k n]:=rfl
variable{b:Bool}
@[simp] theorem LB:(Value.bool b).cells = #[.bool b]:=rfl
@[simp] theorem IY{a:Option Addr}:(Value.pointer a).cells = #[.pointer a]:=rfl
def Er (P:Program) (t:TypeId):Option (List (Nat × Nat)):=
 match P.underlying t with
 | some (.struct fields)=>fields.toList.mapM λf=>(cH P f.type).map λn=>(f.offset,n)
 | some (.array k e)=>(cH P e).map λn=>(List.range k).map λi=>(i*n,n)
 | _=>Sf
section
variable {P:Program} {ty:TypeId} {us:List (Nat × Value)} {h:Heap} {K:Value->Heap->Prop}
theorem z8 {f g:Nat->Option (Nat × Nat)} (hfg : ∀i p,f i=Se p->g i=Se p) : ∀{vs:List (Nat × Value)} {c cs:Array Value},Instr.fill f c vs=Se cs->Instr.fill g c vs=Se cs
 | [],c,cs,h=>h
 | (i,v)::vs,c,cs,h=>by
  simp only[Instr.fill]at h ⊢;split at h
  ·cases h
  rename_i off size hi;rw[hfg i _ hi];simp only;split at h
  ·cases h
  rename_i hc;rw[if_neg hc];exact z8 hfg h
theorem run_places {w:World} : ∀{fs:List Field} {ps:List (Nat × Nat)},(fs.mapM λf=>(cH P f.type).map λn=>(f.offset,n))=Se ps->
  (fs.mapM fun(f:Field)=>Prod.mk f.offset <$> sizeOf f.type).run P w=Result.ok ps w
 | [],ps,h=>by simp at h;subst h;simp
 | f::fs,ps,h=>by simp only[RV,Option.bind_eq_bind,OM,Ow]at h;obtain⟨p,⟨n,hn,rfl⟩,ps',h2,h3⟩:=h;simp only[Option.pure_def,N7]at h3;subst h3;have ih:=run_places (w:=w) h2;simp[RV,Sem.run_bind,run_sizeOf hn,ih]
theorem an{t:TypeId}{ps:Array (Nat × Operand)}{vs:List (Nat × Value)}{z:Value}{places:List (Nat × Nat)}(hz:(P.info? t).map (·.zero)=Se (Se z))(hpl:Er P t=Se places)(hp:ps.map (λp=>(p.1,asg us p.2))=vs.toArray)(hf:Instr.fill (places[·]?) z.cells vs=Se cs)(hk:K (.agg cs) h):step P (.build t ps) ty us h K:=by
 refine dv (cG λw hw=>⟨.agg cs,w,?_,Same.refl _,by rw[hw];exact hk⟩);have hp':(ps.map λx=>match x with | (i,x)=>(i,asg us x))=vs.toArray:=hp;simp only[Ow]at hz;obtain⟨i,hi,hz⟩:=hz;simp only[bU,execOp,hp'];unfold Er at hpl;split at hpl
 ·rename_i fields hu;have hr:=run_places (P:=P) (w:=w) hpl;have hr2:(fields.mapM fun(f:Field)=>Prod.mk f.offset <$> sizeOf f.type).run P w=Result.ok places.toArray w:=by rw[RJ];simp only[Sem.run_map];erw [hr];rfl
  have hf':Instr.fill (places.toArray[·]?) z.cells vs=Se cs:=by simpa using hf
  simp[Instr.build,zeroValue,typeInfo,hi,hz,run_underlying hu,hr2,hf',hf]
 ·rename_i k e hu;simp only[Ow]at hpl;obtain⟨n,hn,rfl⟩:=hpl;have hf':=z8 (g:=λi=>Se (i*n,n)) (λi p hp=>by
   simp only[Qx,Ow]at hp;obtain⟨j,hj,rfl⟩:=hp;rcases Ov i k with hlt | hge
   ·rw[List.getElem?_range hlt]at hj;cases hj;rfl
   rw[Pk (by simpa using hge)]at hj;cases hj) hf;simp[Instr.build,zeroValue,typeInfo,hi,hz,run_underlying hu,run_sizeOf hn,hf']
 cases hpl
variable{size bytes:Nat}
theorem rQ{t e:TypeId}{z:Value}{ps:Array (Nat × Operand)}{vs:List (Nat × Value)}(hT:fA P t e size bytes z)(hn:n*size<=16777216)(hp:ps.map (λp=>(p.1,asg us p.2))=vs.toArray)(hf:Instr.fill (λj=>Se (j*size,size)) ((Array.range (n*size)).map (z.cells[· % z.cells.size]!)) vs=Se cs)(hk:K (Sg (Se ⟨h.size,0,Sf⟩) n n) (h.push (.cells cs e))):step P (.buildSlice t n ps) ty us h K:=by obtain⟨ht,⟨i,hi,hz,hsize,hby⟩,_⟩:=hT;exact qj ht hi hz hsize hn hp hf hk
theorem db{t:TypeId}{z:Value}(hz:(P.info? t).map (·.zero)=Se (Se z))(hk:K (Si (Se ⟨h.size,0,Sf⟩)) (h.push (.cells z.cells t))):step P (.alloc t) ty us h K:=by simp only[Ow]at hz;obtain⟨i,hi,hz⟩:=hz;refine dv (cG λw hw=>?_);subst hw;refine⟨_,w.alloc (.cells z.cells t),?_,iV _ _,hk⟩;simp only[bU,execOp];simp[Instr.alloc,zeroValue,typeInfo,hi,hz,newVar,newRow]
theorem cr{t:TypeId}{x:Operand}{v:Value}(hx:asg us x=v)(hk:K (Si (Se ⟨h.size,0,Sf⟩)) (h.push (.cells v.cells t))):step P (.box t x) ty us h K:=by refine dv (cG λw hw=>?_);subst hw;refine⟨_,w.alloc (.cells v.cells t),?_,iV _ _,hk⟩;simp only[bU,execOp];simp[Instr.box,hx,newVar,newRow]
variable{y:Operand}
theorem eR{t e:TypeId}{g o:Nat}{x:Operand}{v:Value}{cur:Array Value}(hsz:cH P t=Se n)(hx:asg us x = Si (Se ⟨g,o,Sf⟩))(hy:asg us y=v)(hv:v.cells.size=n)(h1 : ∀c∈v.cells.toList,c.oneCell'=Sj)(hg:h[g]? = Se (.cells cur e (0,0)))(hfit:o+n<=cur.size)(hk : ∀h':Heap,h'.size=h.size->(∃row:Array Value,h'[g]? = Se (.cells row e (0,0))/\row.toList=cur.toList.take o++v.cells.toList++cur.toList.drop (o+n))->(∀k,k≠g->h'[k]? = h[k]?)->K undef h'):step P (.store t x y) ty us h K:=by
 refine dv (rm λw hw=>?_);subst hw;have hlen:v.cells.toList.length=n:=by simpa using hv
 have hrun:=run_storeCells_at P g o e v.cells.toList 0 cur w hg (by simp only[Nat.add_zero];omega) h1;obtain⟨row,hrow⟩ : ∃row:Array Value,row.toList=cur.toList.take o++v.cells.toList++cur.toList.drop (o+n):=⟨(cur.toList.take o++v.cells.toList++cur.toList.drop (o+n)).toArray,rfl⟩;have hrun':Sem.run P (storeCells ⟨g,o,Sf⟩ v.cells.toList) w = .ok () (w.setRow g row):=by rw[hrun];congr 2;rw[<-Array.toList_inj,hrow,hlen];rfl
 refine⟨w.setRow g row,?_,Same.sL rfl rfl rfl Sa hg Sa (λk _ hne=>setRow_other w g k _ (λe=>hne e)),hk _ Sa ⟨row,setRow_heap w g cur row e _ hg,hrow⟩ λk hne=>setRow_other w g k _ (λe=>hne e)⟩;simp only[bU,execOp,hx,hy];simp[Instr.storeAt,Instr.sureAddr,storeVar,run_sizeOf (P:=P) (w:=w) hsz,hv,hrun']
variable{ty2:TypeId}{us2:Value->List (Nat × Value)}
theorem vR{t:TypeId}{z:Value}{x:Operand}{v:Value}{K:Value->Heap->Prop}(hz:(P.info? t).map (·.zero)=Se (Se z))(hzc:z.cells.size=1)(hsz:cH P t=Se 1)(hv:v.cells = #[v])(hone:v.oneCell'=Sj)(hx : ∀p,asg (us2 p) x=p)(hy : ∀p,asg (us2 p) y=v)(hk : ∀h':Heap,(vw h).le (vw h')->h'.size=h.size+1->h'[h.size]? = Se (.cells #[v] t (0,0))->K (Si (Se ⟨h.size,0,Sf⟩)) h'):
  @step po P (.alloc t) ty us h λp h2=>@step po2 P (.store t x y) ty2 (us2 p) h2 λ_ h3=>K p h3:=by
 refine db hz ?_;refine eR (g:=h.size) (o:=0) (n:=1) (v:=v) (cur:=z.cells) (e:=t) hsz (hx _) (hy _) (by rw[hv];rfl) (by rw[hv];simpa using hone) Sa R3 λh' hs ⟨row,hrow,he⟩ hoth=>?_;have hrow2:row = #[v]:=by rw[<-Array.toList_inj,he,hv];simp only[QC,OZ,PH];rw[O6 (by simp[hzc])];rfl
 rw[hrow2]at hrow;refine hk h' (λb o hb=>?_) (by rw[hs];simp) hrow;have hlt:=View.lt (View.le_refl (vw h)) hb;show h'[b]? = _;rw[hoth b R3];exact bC _ _ b o hb
variable{caps:Array Value}
theorem cg{f:FuncId}{t:Nat}{ops:List Operand}{T:Array TypeId}(hf:asg us (.tmp t) = .func (.func f) #[] caps){R:Value->Heap->Prop}(hfn:isFn P f=Sj)(hc:aA P f (ops.map (asg us)++caps.toList).toArray h R)(hk : ∀v h',R v h'->K v h'):step P (.call ⟨.value (.tmp t),ops.toArray,T⟩) ty us h K:=by
 refine dv (sF (R:=R) (f:=f) (args:=(ops.map (asg us)++caps.toList).toArray) (λw _=>?_) hc hk);unfold isFn at hfn;cases hfn':P.funcs[f]? with
 | none=>simp[hfn']at hfn
 | some fn=>simp only[hfn',OA,bne_iff_ne,ne_eq]at hfn;obtain⟨h1,h2⟩:=hfn;simp[bU,execOp,resolve,Deferred.ofValue,hf,invoke,callFunc,program,Sem.run,hfn',h1,Option.isNone];cases hb:fn.body<;>simp[hb]at h2 ⊢
theorem Ds{e:TypeId}{w:World}{a b:Int}{ki:IntKind}(he:P.underlying e=Se (.int ki)):(Op.equalIn (n+1) e (.int ki a) (.int ki b)).run P w = .ok (a == b) w:=by simp[Op.equalIn,run_underlying he]
theorem y5{e:TypeId}{w:World}{o:Nat}{v:Value}(ha:oF P e=Se Sk)(hv:cs[o]? = Se v):(Go.part e cs o).run P w = .ok v w:=by simp[Go.part,oW ha,hv]
theorem CJ{t e:TypeId}{w:World}{a b c d:Int}{ki:IntKind}(hu:P.underlying t=Se (.array 2 e))(he:P.underlying e=Se (.int ki))(hs:cH P e=Se 1)(ha:oF P e=Se Sk):
  (Op.equal t (.agg #[.int ki a,.int ki b]) (.agg #[.int ki c,.int ki d])).run P w = .ok (a == c&&b == d) w:=by
 simp only[cH,Ow]at hs;obtain⟨i,hi,hs⟩:=hs;have hc:P.cellsOf e=1:=by simp[Program.cellsOf,hi,hs]
 show(Op.equalIn (9999+1) t _ _).run P w=_;rw[run_equalIn_array (P:=P) (w:=w) (d:=9999) (xs:=_) (ys:=_) hu hi,hc];have p0 : ∀{x y:Int},(Go.part e #[.int ki x,.int ki y] 0).run P w = .ok (.int ki x) w:=y5 ha rfl;have p1 : ∀{x y:Int},(Go.part e #[.int ki x,.int ki y] 1).run P w = .ok (.int ki y) w:=y5 ha rfl;simp[QJ,Op.eqItems,p0,p1,Ds he];by_cases h1:a=c<;>by_cases h2:b=d<;>simp[h1,h2]
end
instance:Rep (Int × Int) where
 n:=2
 agg:=true
 rd:=λ_ cs d=>cs=[Sb Sc d.1,Sb Sc d.2]/\(-9223372036854775808<=d.1/\d.1<=9223372036854775807)/\-9223372036854775808<=d.2/\d.2<=9223372036854775807
 mono:=λ_ h=>h
 len:=λh=>by rw[h.1];rfl
 one:=λh=>by cases h
 flat:=λh u hu=>by rw[h.1]at hu;simp at hu;rcases hu with rfl | rfl<;>rfl
 pos:=by decide
 fP:=λh=>h
theorem rC{v:Value}{d:Int × Int}:Rd H v d↔v = .agg #[Sb Sc d.1,Sb Sc d.2]/\(-9223372036854775808<=d.1/\d.1<=9223372036854775807)/\-9223372036854775808<=d.2/\d.2<=9223372036854775807:=by
 simp only[Rd,Rep.agg,Rep.rd,if_true];constructor
 ·rintro⟨cs,rfl,h1,h2⟩;refine⟨?_,h2⟩;congr 1;rw[<-Array.toList_inj,h1]
 rintro⟨rfl,h2⟩;exact⟨_,rfl,rfl,h2⟩
variable{α:Type}
theorem SlRd.idxn[Rep α]{v:Value}{l:List α}(h:SlRd H v l){N:Nat}(hn:Rep.n α=N){k:IntKind}{i:Int}(h0:0<=i)(h1:i<l.length):Bn.ev (.idx N) v (.int k i)=Se (Si (Se ((slA v).add (i.toNat*N)))):=by have:=h.idx (k:=k) h0 h1;rw[hn]at this;exact this
theorem SlRd.Ew{K:View}{v:Value}{l:List (Int × Int)}(h:SlRd H v l)(hk:H.le K){i:Nat}(hi:i<l.length):ao K (((slA v).add (i*2)).add 0)=Se (Sb Sc (nth l i).1)/\ao K (((slA v).add (i*2)).add 1)=Se (Sb Sc (nth l i).2):=by obtain⟨cs,h1,h2⟩:=(h.at hi).mono hk;rw[aB hi];obtain⟨e,_⟩:=h2;subst e;exact⟨gw h1 (i:=0) rfl,gw h1 (i:=1) rfl⟩
end
section
variable {po po2 po3:OP} {pp:PP}
variable{P:Program}{K:Value->Heap->Prop}
theorem Du{s:Sem Next}{l:Nat}{vs:List Value}{h:Heap}{R:Bool->Heap->Prop}(hs : ∀w:World,w.heap=h->s.run P w=(Instr.yield l vs.toArray).run P w)(hy:DR P l vs h R)(hk : ∀b h',R b h'->K (.bool b) h'):iH P s h K:=by intro w hw r o a K' Q' hK hQ;obtain⟨f,tmps,asg,body,h1,h2⟩:=hy w hw;rw[hs w hw,h1];simp only[Oper.uponIn];have h3:RoundIn (Fw r) 0 P l f tmps asg body w _:=h2;refine⟨λh=>by simp[Fw,Fence.wide]at h,h3.mono ?_⟩;rintro e w' ⟨b,rfl,hR,hsame⟩;exact hK _ w' (hk _ _ hR) hsame
variable{ty:TypeId}{us:List (Nat × Value)}
theorem GW{t l:Nat}{ops:List Operand}{T:Array TypeId}{h:Heap}(hf:asg us (.tmp t) = .func (.yield l) #[] #[]){R:Bool->Heap->Prop}(hy:DR P l (ops.map (asg us)) h R)(hk : ∀b h',R b h'->K (.bool b) h'):step P (.call ⟨.value (.tmp t),ops.toArray,T⟩) ty us h K:=by refine dv (Du (l:=l) (vs:=ops.map (asg us)) (λw _=>?_) hy hk);simp[bU,execOp,resolve,Deferred.ofValue,hf,invoke]
variable{β:Type}{body:LC}{Q:Post}{ρ:Env}
theorem DZ{enc:β->List Value}{g:E}{ps:List Nat}{asg:LC}{h:Heap}{gf:Nat}{caps:List Value}{all:List β}{A:β->Env}(V W0:View)(I:Option Exit->Nat->View->Heap->Prop)(hg:ev (look ρ) (vw h) g=Se (.func (.func gf) #[] caps.toArray))(hf:isFn P gf=Sj)(hi:Iter P gf caps V (all.map enc))(hl : ∀x,(enc x).length=ps.length)(hV:V.le W0)(hI : ∀e k,pN h.size (I e k))(h0:I Sf 0 W0 h)(hasg : ∀x h1,@LC.wp noPP P asg (λe ρ1 h2=>e = .normal/\h2=h1/\ρ1=A x) (dF ρ (ps.zip (enc x))) h1)(round : ∀k x W h1,(∀b,b<h.size->W b=W0 b)->all[k]? = Se x->I Sf k W h1->∀K:Post,(∀ρ2 h3,I Sf (k+1) W h3->K .normal ρ2 h3)->(∀e ρ2 h3,e≠.normal->I (Se e) (k+1) W h3->K e ρ2 h3)->@LC.wp noPP P body K (A x) h1)(done : ∀W h1,(∀b,b<h.size->W b=W0 b)->I Sf all.length W h1->Q .normal ρ h1)(left : ∀e k W h1,(∀b,b<h.size->W b=W0 b)->I (Se e) k W h1->Q e ρ h1):LC.wp P (.rangef g ps asg body) Q ρ h:=by
 refine⟨gf,caps,V,W0,all.map enc,I,λk=>match all[k]? with | some x=>A x | none=>[],hg,hf,hi,λvs hvs=>?_,hV,hI,h0,λk vs W h1 ha hk hIk=>?_,λW h1 a b=>done W h1 a (by simpa using b),λe k W h1 _ _=>left e k W h1⟩
 ·obtain⟨x,_,rfl⟩:=PN.1 hvs;exact hl x
 rw[Qx,Ow]at hk;obtain⟨x,hk,rfl⟩:=hk;simp only[hk];refine⟨hasg x h1,round k x W h1 ha hk hIk _ (λρ2 h3 hh=>hh) λe ρ2 h3 hne hh=>?_⟩;cases e<;>first | exact absurd rfl hne | exact hh
theorem SlRd.drop {α:Type} [Rep α] {H:View} {v:Value} {l:List α} (h:SlRd H v l) {n:Nat} (hn:n<=l.length) {kd:IntKind} : ∃u,Bn.ev (.lo (Rep.n α)) v (.int kd n)=Se u/\SlRd H u (l.drop n):=by
 obtain⟨a,cap,rfl,h1,h2,h3⟩:=h;refine⟨.slice (if cap=n then a else a.map (·.add (n*Rep.n α))) (l.length-n) (cap-n),by simp[Bn.ev,vL,vI,hn],if cap=n then a else a.map (·.add (n*Rep.n α)),cap-n,?_,?_,?_,?_⟩
 ·rw[O9]
 ·rw[O9];omega
 ·rw[O9];omega
 rcases h3 with rfl | ⟨ad,rfl,hs,hat⟩
 ·left;simp
 by_cases hc:cap=n
 ·left;simp;omega
 refine .inr ⟨ad.add (n*Rep.n α),by simp[hc],by rw[bS hs],λi hi=>?_⟩;rw[O9]at hi;rw[QL];have:=hat (n+i) R3;rw[bS hs]at this ⊢;rw[bS rfl];simpa[QE,Nat.add_assoc]using this
def but (v:Value) (h:Heap):View:=λb=>if v.ownBlock=Se b then Sf else h[b]?
theorem IS{v:Value}{h:Heap}:(but v h).le (vw h):=λb o hb=>by
 unfold but at hb;split at hb
 ·cases hb
 exact hb
theorem LR{v:Value}{h:Heap}:Av (but v h) v:=λb hb=>by unfold but;rw[if_pos hb]
variable{h':Heap}
theorem Bg{v:Value}{h:Heap}(hle:(vw h).le (vw h')):(but v h).le (but v h'):=λb o hb=>by
 unfold but at *;split at hb
 ·cases hb
 rename_i hne;rw[if_neg hne];exact hle b o hb
variable{V:View}
theorem LW{v:Value}{h:Heap}(hV:V.le (vw h))(ha:Av V v):V.le (but v h):=λb o hb=>by
 unfold but;split
 ·rename_i e;rw[ha b e]at hb;cases hb
 exact hV b o hb
variable{α:Type}{h0:Heap}{W:View}
theorem Mine.beside[Rep α][Rep β]{h:Heap}{e e1:TypeId}{v2 v1 v1':Value}{l2:List α}{l1':List β}(m2:Mine nothing h0 h nothing e v2 l2)(m1:Mine V h0 h' W e1 v1' l1')(mv:lV h h' v1 v1')(ne:v2.ownBlock=Sf\/v2.ownBlock≠v1.ownBlock):Mine nothing h0 h' nothing e v2 l2:=
 ⟨m1.old,λ_ _ h=>(by cases h),λ_ _=>rfl,m2.av0,Old.nothing _ _,m2.own.kept mv.kept ne⟩
theorem Mine.over[Rep α]{h:Heap}{e:TypeId}{v:Value}{l:List α}(m:Mine V h0 h nothing e v l):Mine (vw h0) h0 h (but v h) e v l:=
 ⟨m.old,IS,LR,m.av0,λb o hb hx=>by have h1:=IS b o hx;have h2:h0[b]? = Se h0[b]:=OV hb;have h3:h[b]? = Se h0[b]:=m.old b _ h2;have h4:h[b]? = Se o:=h1;rw[h3]at h4;cases h4;exact h2,m.own.mono (λ_ _ h=>by cases h)⟩
theorem Mine.Na{h:Heap}{e:TypeId}{v:Value}{l:List Int}(m:Mine V h0 h W e v l):Mine nothing h0 h nothing e v l:=
 ⟨m.old,λ_ _ h=>(by cases h),λ_ _=>rfl,m.av0,Old.nothing _ _,m.own⟩
variable{n:Nat}
theorem LZ{a:Addr}{c m:Nat}{k:IntKind}{i:Int}(h0:0<=i)(h1:i<n):Bn.ev (.idx m) (Sg (Se a) n c) (.int k i)=Se (Si (Se (a.add (i.toNat*m)))):=by simp[Bn.ev,vL,vI,h0,h1]
theorem Jk{a:Addr}{c:Nat}{k:IntKind}{i:Int}(h0:0<=i)(h1:i<n):Bn.ev (.idx 1) (Sg (Se a) n c) (.int k i)=Se (Si (Se (a.add i.toNat))):=by rw[LZ h0 h1,Pn]
variable{H:View}
theorem du{b o:Nat}{c:Array Value}{T:TypeId}{fz:Nat × Nat}{v:Value}(h:H b=Se (.cells c T fz))(hv:c[o]? = Se v):ao H ⟨b,o,Sf⟩=Se v:=by simp[ao,h,hv]
theorem SlRd.cells {α:Type} [Rep α] {H:View} {v:Value} {l:List α} (h:SlRd H v l):v.cells = #[v]/\v.oneCell'=true:=by obtain⟨a,cap,rfl,_⟩:=h;exact⟨rfl,rfl⟩
theorem pY.ext{h0 h h':Heap}(hs:pY h0.size h h')(hle:(vw h0).le (vw h)):(vw h0).le (vw h'):=λb o hb=>by have hlt:=View.lt (View.le_refl (vw h0)) hb;show h'[b]? = _;rw[hs.same b (.inl hlt)];exact hle b o hb
theorem pY.lX{h:Heap}(hs:pY h0.size h h'):(fresh h0 h).fP.le (fresh h0 h'):=λb o hb=>by
 have h1:=View.HI _ _ hb;have h2 : ∀x,o≠.deferred x:=by intro x e;subst e;unfold View.fP at hb;split at hb<;>cases hb
 unfold fresh at h1 ⊢;split at h1
 ·cases h1
 rename_i hge;rw[if_neg hge,hs.same b (.inr ?_)]
 ·exact h1
 rw[h1];intro e;exact h2 _ (Option.some.inj e)
theorem pY.rd[Rep α]{h:Heap}{v:Value}{l:List α}(hs:pY h0.size h h')(hr:SlRd (fresh h0 h) v l):SlRd (fresh h0 h') v l:=
 eD.1 ((eD.2 hr).fP.mono hs.lX)
theorem jo{h:Heap}{b:Nat}(hb:b<h.size):grow W h h' b=W b:=by unfold grow;rw[if_pos hb]
theorem pN.grown{J:View->Heap->Prop}(hJ:pN n J){h:Heap}(hj:J W h)(hn:n<=h.size)(hle:(vw h).le (vw h')):J (grow W h h') h':=
 hJ.move hj (λb hb=>jo R3) (jl (S3 (hJ.le hj) hle)) (λb hb hlt=>⟨(vH hle).block b hlt Sa,by rw[jo hlt];exact hb⟩) (cD hle)
variable{bytes:Nat}{y:Operand}
theorem Hk{t e:TypeId}{z:Value}{x:Operand}{h:Heap}{k:IntKind}(hT:fA P t e 1 bytes z)(hx:asg us x = .int k n)(hy:asg us y = .int k n)(hz1:z.cells = #[z])(hb:bytes*n<=140737488355328)(hb2:n<=140737488355328)(hk:K (Sg (Se ⟨h.size,0,Sf⟩) n n) (h.push (.cells (List.replicate n z).toArray e))):step P (.makeSlice t x y) ty us h K:=by
 obtain⟨ht,⟨i,hi,hz,hsize,hby⟩,hzs,hsz,hsmall⟩:=hT;refine dv (cG λw hw=>?_);subst hw;have hrun:=run_make (P:=P) w t e i z ht hi hz k k (n:Int) (n:Int) R3 (QY _) (by
  rw[hby];have:((bytes*n:Nat):Int)<=281474976710656:=by omega
  rwa [Int.natCast_mul]at this) R3;simp only[O2,hsize,Pn]at hrun
 have hm:madeCells z.cells n=(List.replicate n z).toArray:=by
  rw[hz1];apply Array.ext
  ·simp[madeCells]
  intro j h1 h2;simp[madeCells,Nat.mod_one]
 rw[hm]at hrun;refine⟨_,w.alloc (.cells (List.replicate n z).toArray e),?_,iV _ _,hk⟩;simp only[bU,execOp,hx,hy];simp[hrun]
theorem OwnT.same[Rep α]{h:Heap}{e:TypeId}{v:Value}{l:List α}(o:OwnT W h e v l)(hb : ∀b,v.ownBlock=Se b->h'[b]? = h[b]?):OwnT W h' e v l:=by
 obtain⟨bd,xs,⟨h1,h2⟩,h3⟩:=o;refine⟨bd,xs,⟨h1,?_⟩,h3⟩;rcases h2 with h2 | ⟨g,cap,cur,rfl,hg,h4⟩
 ·exact .inl h2
 exact .inr ⟨g,cap,cur,rfl,(hb g rfl).trans hg,h4⟩
structure Rw {α:Type} [Rep α] (W:View) (h:Heap) (ot e:TypeId) (g:Nat) (rv:List Value) (ls:List (List α)):Prop where
 wle:W.le (vw h)
 wg:W g=Sf
 blk:h[g]? = Se (.cells rv.toArray ot (0,0))
 len:rv.length=ls.length
 own : ∀i,i<ls.length->OwnT nothing h e (nth rv i) (nth ls i)
 av : ∀i,i<ls.length->Av W (nth rv i)
 ng : ∀i,i<ls.length->(nth rv i).ownBlock≠Se g
 dj : ∀i j,i<ls.length->j<ls.length->i≠j->(nth rv i).ownBlock=Sf\/(nth rv i).ownBlock≠(nth rv j).ownBlock
section
variable {α:Type} [Rep α] {W:View} {h h':Heap} {ot e:TypeId} {g:Nat} {rv:List Value} {ls:List (List α)}
theorem Rw.lt(r:Rw W h ot e g rv ls):g<h.size:=(OG.1 r.blk).1
theorem aL[Inhabited β]{i:Nat}{x:β}(hi:i<n):nth (List.replicate n x) i=x:=by rw[aB (by simpa using hi)];simp
theorem Rw.start(hW:W.le (vw h))(hg:W g=Sf)(hb:h[g]? = Se (.cells (List.replicate n (Sg Sf 0 0)).toArray ot (0,0))):Rw (α:=α) W h ot e g (List.replicate n (Sg Sf 0 0)) (List.replicate n []):=
 ⟨hW,hg,hb,by simp,λi hi=>by rw[aL (by simpa using hi),aL (by simpa using hi)];exact OwnT.nil ..,λi hi=>by rw[aL (by simpa using hi)];exact Av.nil _ _ _,
  λi hi=>by rw[aL (by simpa using hi)];simp[Value.ownBlock],λi j hi hj _=>by rw[aL (by simpa using hi)];exact .inl rfl⟩
theorem Rw.move(r:Rw W h ot e g rv ls){W':View}(h1:W'.le (vw h'))(h2 : ∀b,W b=Sf->b<h.size->h'[b]? = h[b]?/\W' b=Sf):Rw W' h' ot e g rv ls:=
 {wle:=h1,wg:=(h2 g r.wg r.lt).2,blk:=(h2 g r.wg r.lt).1.trans r.blk,len:=r.len,ng:=r.ng,dj:=r.dj
  own:=λi hi=>(r.own i hi).same λb hb=>(h2 b (r.av i hi b hb) ((r.own i hi).lt hb)).1
  av:=λi hi b hb=>(h2 b (r.av i hi b hb) ((r.own i hi).lt hb)).2 }
theorem Rw.ext(r:Rw W h ot e g rv ls)(hle:(vw h).le (vw h')):Rw W h' ot e g rv ls:=
 r.move (S3 r.wle hle) λb hb hlt=>⟨(vH hle).block b hlt Sa,hb⟩
theorem bP[Inhabited β]{l:List β}{i j:Nat}{x:β}(hj:j<l.length):nth (l.set i x) j=if i=j then x else nth l j:=by
 rw[aB (by simpa using hj),List.getElem_set];split
 ·rfl
 rw[aB hj]
theorem Rw.put{h2 h3:Heap}{i:Nat}{v':Value}{l':List α}(r:Rw W h ot e g rv ls)(hi:i<ls.length)(o:OwnT nothing h2 e v' l')(m:lV h h2 (nth rv i) v')(hb:h3[g]? = Se (.cells (rv.set i v').toArray ot (0,0)))(hoth : ∀k,k≠g->h3[k]? = h2[k]?)(hsz:h3.size=h2.size):Rw W h3 ot e g (rv.set i v') (ls.set i l'):=by
 obtain⟨hw',ha'⟩:=m.view r.wle (r.av i hi);have hlt:=r.lt;have ng':v'.ownBlock≠Se g:=by
  rcases m.at_ with e | e
  ·rw[e];exact r.ng i hi
  rw[e];intro e2;cases e2;omega
 have hv' : ∀j,j<ls.length->j≠i->(nth rv j).ownBlock=Sf\/(nth rv j).ownBlock≠v'.ownBlock:=by
  intro j hj hne;rcases m.at_ with e | e
  ·rw[e];exact r.dj j i hj hi hne
  right;rw[e];intro e2;have:=(r.own j hj).lt e2;omega
 have rl:=r.len;refine⟨λb x hb=>?_,r.wg,hb,by simp[rl],λj hj=>?_,λj hj=>?_,λj hj=>?_,λj k hj hk hne=>?_⟩
 ·have hne:b≠g:=λe=>by rw[e,r.wg]at hb;cases hb
  show h3[b]? = _;rw[hoth b hne];exact hw' b x hb
 ·rw[OR]at hj;rw[bP R3,bP hj];split
  ·exact o.same λb hb=>hoth b (λe=>ng' (by rw[hb,e]))
  rename_i hne;refine((r.own j hj).kept m.kept (r.dj j i hj hi (λe=>hne e.symm))).same λb hb=>hoth b (λe=>r.ng j hj (by rw[hb,e]))
 ·rw[OR]at hj;rw[bP R3];split
  ·exact ha'
  exact r.av j hj
 ·rw[OR]at hj;rw[bP R3];split
  ·exact ng'
  exact r.ng j hj
 rw[OR]at hj hk;rw[bP R3,bP R3];split
 ·rename_i e1;rw[if_neg R3];rcases hv' k hk R3 with e | e
  ·rcases hb2:v'.ownBlock with _ | b
   ·exact .inl rfl
   right;rw[e];simp
  exact .inr λe2=>e e2.symm
 split
 ·rename_i e1 e2;exact hv' j hj R3
 exact r.dj j k hj hk hne
theorem Rw.rd (r:Rw W h ot e g rv ls) {X:View} (hg:X g=h[g]?) (hx : ∀i b,i<ls.length->(nth rv i).ownBlock=Se b->X b=h[b]?) (hb:ls.length<=140737488355328):SlRd X (Sg (Se ⟨g,0,Sf⟩) ls.length ls.length) ls:=by
 refine⟨Se ⟨g,0,Sf⟩,ls.length,rfl,N8 _,hb,.inr ⟨_,rfl,rfl,λi hi=>?_⟩⟩;rw[bS rfl];have hlen:=r.len;refine⟨[nth rv i],⟨rv.toArray,ot,(0,0),rfl,by rw[hg];exact r.blk,?_⟩,nth rv i,rfl,?_⟩
 ·rw[aB R3];simp only[PH,show Rep.n (List α)=1 from rfl,Pn,Px,QV];have hd:rv.drop i=rv[i]::rv.drop (i+1):=O4 R3;show List.take (0+1) (List.drop i rv)=_;rw[hd];rfl
 rw[<-aB hi];exact(r.own i hi).rd (λ_ _ h=>by cases h) (hx i · hi)
theorem Rw.fresh {h0:Heap} (r:Rw W h ot e g rv ls) (h0W:(vw h0).le W) (hb:ls.length<=140737488355328):SlRd (Lft.fresh h0 h) (Sg (Se ⟨g,0,Sf⟩) ls.length ls.length) ls:=by
 have key : ∀b,W b=Sf->h0.size<=b:=by
  intro b hb;rcases Ov b h0.size with hlt | hge
  ·have:=h0W b h0[b] (OV hlt);rw[hb]at this;cases this
  exact hge
 refine r.rd (by unfold Lft.fresh;rw[if_neg (RY.2 (key g r.wg))]) (λi b hi hbb=>by unfold Lft.fresh;rw[if_neg (RY.2 (key b (r.av i hi b hbb)))]) hb
end
def skip (B:Nat) (h:Heap):View:=λb=>if b=B then Sf else h[b]?
theorem di{B:Nat}{h:Heap}:(skip B h).le (vw h):=λb o hb=>by
 unfold skip at hb;split at hb
 ·cases hb
 exact hb
theorem mY{B b:Nat}{h:Heap}(hb:b≠B):skip B h b=h[b]?:=by unfold skip;rw[if_neg hb]
section
variable {α:Type} [Rep α] {W:View} {h h':Heap} {B:Nat} {T e:TypeId} {v:Value} {l:List α}
end
end
section
open Go Go.MapKept
variable {po:OP} {pp:PP}
structure ee (d:TypeDesc) (h:Heap) (r:Nat) (f:Value->Option Value):Prop where
 ex : ∃es clock,h[r]? = Se (.map es clock)/\(∀x∈es.toList,IsKey d x.key)/\Stamped es clock/\∀k v,IsKey d k->((∃x∈es.toList,x.key=k/\x.val=v)↔f k=Se v)
theorem ee.lt{d:TypeDesc}{h:Heap}{r:Nat}{f:Value->Option Value}(m:ee d h r f):r<h.size:=by obtain⟨es,c,h1,_⟩:=m.ex;exact(OG.1 h1).1
variable{h':Heap}{r:Nat}
theorem ee.same{d:TypeDesc}{h:Heap}{f:Value->Option Value}(m:ee d h r f)(e:h'[r]? = h[r]?):ee d h' r f:=by obtain⟨es,c,h1,h2⟩:=m.ex;exact⟨es,c,by rw[e];exact h1,h2⟩
theorem ee.ext{d:TypeDesc}{h h':Heap}{r:Nat}{f:Value->Option Value}(m:ee d h r f)(hle:(vw h).le (vw h')):ee d h' r f:=by obtain⟨es,c,h1,h2⟩:=m.ex;exact⟨es,c,hle _ _ h1,h2⟩
theorem ee.none {d:TypeDesc} {h:Heap} {r:Nat} (hr:h[r]? = Se (.map #[] 0)):ee d h r λ_=>none:=
 ⟨#[],0,hr,by simp,stamped_empty 0,by simp⟩
section
variable {P:Program} {ty:TypeId} {us:List (Nat × Value)} {h:Heap} {K:Value->Heap->Prop} {d:TypeDesc} {r:Nat} {f:Value->Option Value} {t k e:TypeId}
theorem nN(hk:K (.map (Se h.size)) (h.push (.map #[] 0))):step P (.makeMap t .none) ty us h K:=by refine dv (cG λw hw=>?_);subst hw;refine⟨_,w.alloc (.map #[] 0),?_,iV _ _,hk⟩;simp only[bU,execOp];simp[Instr.makeMap,newObj];rfl
variable{y:Operand}
theorem F7{x:Operand}{u z:Value}(ht:P.underlying t=Se (.map k e))(hd:P.underlying k=Se d)(hz:(P.info? e).map (·.zero)=Se (Se z))(hx:asg us x = .map (Se r))(hy:asg us y=u)(hu:IsKey d u)(m:ee d h r f)(hk:K ((f u).getD z) h):step P (.lookup t x y Sk) ty us h K:=by
 obtain⟨es,c,h1,h2,h3,h4⟩:=m.ex;simp only[Ow]at hz;obtain⟨i,hi,hz⟩:=hz;refine dv (cG λw hw=>⟨_,w,?_,Same.refl _,by rw[hw];exact hk⟩);have hz':(zeroValue e).run P w = .ok z w:=by simp[zeroValue,typeInfo,hi,hz]
 rw[<-hw]at h1;simp only[bU,execOp,hx,hy];rcases findNow_spec hu es.toList 0 h2 with⟨g1,g2⟩ | ⟨j,x,g1,g2,g3⟩
 ·have hf:f u = .none:=by
   cases hfu:f u with
   | none=>rfl
   | some v=>obtain⟨x,hx,e1,_⟩:=(h4 u v hu).2 hfu;exact absurd e1 (g2 x hx)
  simp[Instr.lookup,run_underlying ht,MapKept.run_getObj_map h1,MapKept.run_checkKey hd hu,MapKept.run_findKey hd g1,Result.andThen,hf,hz']
 have hf:f u=Se x.val:=(h4 u x.val hu).1 ⟨x,Pp g2,g3,rfl⟩;simp[Instr.lookup,run_underlying ht,MapKept.run_getObj_map h1,MapKept.run_checkKey hd hu,MapKept.run_findKey hd g1,Result.andThen,hf]
theorem DL{w:World}{u v:Value}(ht:P.underlying t=Se (.map k e))(hd:P.underlying k=Se d)(hu:IsKey d u)(m:ee d w.heap r f)(g:Value->Option Value)(hg:g u=Se v)(hg2 : ∀j,j≠u->g j=f j):
  ∃o,(Instr.mapUpdate t (.map (Se r)) u v).run P w = .ok () { w with heap:=w.heap.setIfInBounds r o }/\ee d (w.heap.setIfInBounds r o) r g:=by
 obtain⟨es,c,h1,h2,h3,h4⟩:=m.ex;rcases findNow_spec hu es.toList 0 h2 with⟨g1,g2⟩ | ⟨j,x,g1,g2,g3⟩
 ·refine⟨.map (es.push { key:=u,val:=v,born:=c }) (c+1),?_,_,_,(MapKept.heap_set h1).1,?_,stamped_push h3 g2,?_⟩
  ·simp[Instr.mapUpdate,run_underlying ht,MapKept.run_getObj_map h1,MapKept.run_checkKey hd hu,MapKept.run_findKey hd g1,MapKept.run_setObj_map _ h1,Result.andThen]
  ·intro x hx;simp only[Array.toList_push,OD,OI]at hx;rcases hx with hx | rfl
   ·exact h2 x hx
   exact hu
  intro q p hq;constructor
  ·rintro⟨x,hx,e1,e2⟩;simp only[Array.toList_push,OD,OI]at hx;rcases hx with hx | rfl
   ·rw[hg2 q (λe=>g2 x hx (e1.trans e))];exact(h4 q p hq).1 ⟨x,hx,e1,e2⟩
   simp only at e1 e2;subst e1;subst e2;exact hg
  intro hp;by_cases e:q=u
  ·subst e;rw[hg]at hp;cases hp;exact⟨{ key:=q,val:=v,born:=c },by simp,rfl,rfl⟩
  rw[hg2 q e]at hp;obtain⟨x,hx,e⟩:=(h4 q p hq).2 hp;exact⟨x,by simp[show x∈es from by simpa using hx],e⟩
 have hj:es[j]? = Se x:=by simpa using g2
 have hmem:x∈es.toList:=Pp g2;have hlt:j<es.size:=(OG.1 hj).1;have hkeyf : ∀e',es[j]? = Se e'->({ e' with key:=u,val:=v }:MapEntry).key=e'.key:=λe' he'=>by rw[hj]at he';cases he';exact g3.symm
 have hst:Stamped (es.modify j (λe'=>{ e' with key:=u,val:=v })) c:=stamped_modify h3 _ _ (λ_ _=>rfl) (λe' _ he'=>hkeyf e' he');have hget : ∀i y,(es.modify j (λe'=>{ e' with key:=u,val:=v }))[i]? = Se y↔(i=j/\y={ x with key:=u,val:=v })\/(i≠j/\es[i]? = Se y):=by
  intro i y;rw[Q7];by_cases hij:i=j
  ·subst hij;rw[if_pos rfl,hj];simp[eq_comm]
  rw[if_neg (Ne.symm hij)];simp[hij]
 have huniq : ∀i y,es[i]? = Se y->y.key=u->i=j:=by
  intro i y hy hk;have hnd:=h3.2.2;have e1:(es.toList.map (·.key))[i]? = Se u:=by simp[hy,hk]
  have e2:(es.toList.map (·.key))[j]? = Se u:=by simp[hj,g3]
  have hl1:=(QQ.1 e1);have hl2:=(QQ.1 e2);obtain⟨l1,q1⟩:=hl1;obtain⟨l2,q2⟩:=hl2;exact(List.getElem_inj hnd).1 (q1.trans q2.symm)
 refine⟨.map (es.modify j (λe'=>{ e' with key:=u,val:=v })) c,?_,_,_,(MapKept.heap_set h1).1,?_,hst,?_⟩
 ·simp[Instr.mapUpdate,run_underlying ht,MapKept.run_getObj_map h1,MapKept.run_checkKey hd hu,MapKept.run_findKey hd g1,hj,g3,MapKept.run_keyThatStays hu,MapKept.run_setObj_map _ h1,Result.andThen]
 ·intro y hy;obtain⟨i,hi⟩:=Ro hy;have hi:(es.modify j (λe'=>{ e' with key:=u,val:=v }))[i]? = Se y:=by rw[Qs]at hi;exact hi
  rcases(hget i y).1 hi with⟨_,rfl⟩ | ⟨_,h5⟩
  ·exact hu
  exact h2 y (Pp (by simpa using h5))
 intro q p hq;constructor
 ·rintro⟨y,hy,e1,e2⟩;obtain⟨i,hi⟩:=Ro hy;have hi:(es.modify j (λe'=>{ e' with key:=u,val:=v }))[i]? = Se y:=by rw[Qs]at hi;exact hi
  rcases(hget i y).1 hi with⟨_,rfl⟩ | ⟨h6,h5⟩
  ·simp only at e1 e2;subst e1;subst e2;exact hg
  rw[hg2 q (λe=>h6 (huniq i y h5 (e1.trans e)))];exact(h4 q p hq).1 ⟨y,Pp (by simpa using h5),e1,e2⟩
 intro hp;by_cases hqu:q=u
 ·subst hqu;rw[hg]at hp;cases hp;refine⟨{ x with key:=q,val:=v },Pp (i:=j) ?_,rfl,rfl⟩;rw[Qs];exact(hget j { x with key:=q,val:=v }).2 (.inl ⟨rfl,rfl⟩)
 rw[hg2 q hqu]at hp;obtain⟨y,hy,e1,e2⟩:=(h4 q p hq).2 hp;obtain⟨i,hi⟩:=Ro hy;have hi':es[i]? = Se y:=by simpa using hi
 refine⟨y,Pp (i:=i) ?_,e1,e2⟩;rw[Qs];refine(hget i y).2 (.inr ⟨λe=>?_,hi'⟩);subst e;rw[hj]at hi';cases hi';exact hqu (e1.symm.trans g3)
variable{op:Op}
theorem lg{x q:Operand}{u v:Value}(hop:op = .mapUpdate t x y q\/op = .insert t x y q)(ht:P.underlying t=Se (.map k e))(hd:P.underlying k=Se d)(hx:asg us x = .map (Se r))(hy:asg us y=u)(hq:asg us q=v)(hu:IsKey d u)(m:ee d h r f)(g:Value->Option Value)(hg:g u=Se v)(hg2 : ∀j,j≠u->g j=f j)(hk : ∀h':Heap,h'.size=h.size->(∀b,b≠r->h'[b]? = h[b]?)->ee d h' r g->K undef h'):step P op ty us h K:=by refine dv (rm λw hw=>?_);subst hw;obtain⟨o,h1,h2⟩:=DL (v:=v) ht hd hu m g hg hg2;obtain⟨es,c,h3,_⟩:=m.ex;have hoth:=(MapKept.heap_set (o':=o) h3).2;refine⟨{ w with heap:=w.heap.setIfInBounds r o },?_,Same.sL rfl rfl rfl Sa h3 Sa (λk _ hne=>hoth k hne),hk _ Sa hoth h2⟩;rcases hop with rfl | rfl<;>simp only[bU,execOp,hx,hy,hq]<;>simp[h1]
end
def mapI (f:Int->Option Int):Value->Option Value
 | Sb Sc j=>(f j).map (.int .i64)
 | _=>Sf
@[simp] theorem MI{f:Int->Option Int}{j:Int}:mapI f (Sb Sc j)=(f j).map (.int .i64):=rfl
def mapB (s:Int->Bool):Value->Option Value
 | Sb Sc j=>if s j then Se (.bool Sj) else Sf
 | _=>Sf
@[simp] theorem Bf{s:Int->Bool}{j:Int}:mapB s (Sb Sc j)=if s j then Se (.bool Sj) else none:=rfl
theorem fN{j:Int}:IsKey (.int .i64) (Sb Sc j):=rfl
theorem GJ{f g:Int->Bool}{j:Int}(h : ∀i,g i=if i=j then Sj else f i):mapB g (Sb Sc j)=Se (.bool Sj)/\∀u,u≠Sb Sc j->mapB g u=mapB f u:=by
 refine⟨by simp[h],λu hu=>?_⟩;cases u<;>try rfl
 rename_i k i;cases k<;>try rfl
 have:i≠j:=λe=>hu (by rw[e]);simp[h,this]
@[simp] theorem Mt{s:Bool}:(if s=Sj then Se (Value.bool Sj) else .none).getD (.bool Sk) = .bool s:=by cases s<;>rfl
end
section
variable {po:OP} {pp:PP}
variable{P:Program}{Q:Post}{ρ:Env}
theorem aa{x y:LC}{h:Heap}(hx : ∀z,z=y->LC.wp P x (fh (LC.wp P z Q) Q) ρ h):LC.wp P (.seq x y) Q ρ h:=hx y rfl
variable{kill:List Nat}{sets args:List (Nat × E)}{chk:List E}{op:Op}{ty:TypeId}{dst:Option Nat}{keep:Bool}{next:Reg}
theorem zK{k:Bool}{grd:Option (E × Bool)}{tail:Bool}{h:Heap}(hx : ∀z,z=next->LC.wp P (.reg k (.loud kill sets args grd chk tail op ty dst keep z)) Q ρ h):LC.wp P (.reg k (.loud kill sets args grd chk tail op ty dst keep next)) Q ρ h:=hx next rfl
theorem ay{m:Option View}{grd:Option (E × Bool)}{tail:Bool}{Q:Env->Heap->Prop}{h:Heap}(hx : ∀z,z=next->fi P m (.loud kill sets args grd chk tail op ty dst keep z) Q ρ h):fi P m (.loud kill sets args grd chk tail op ty dst keep next) Q ρ h:=hx next rfl
def ni {α:Type} [Rep α] (X:View):List Value->List α->Prop
 | [],[]=>True
 | v::vs,d::ds=>Rd X v d/\ni X vs ds
 | _,_=>False
theorem ni.len {α:Type} [Rep α] {X:View} : ∀{vs:List Value} {ds:List α},ni X vs ds->vs.length=ds.length
 | [],[],_=>rfl
 | _::_,_::_,h=>by simp[ni.len h.2]
theorem ni.get {α:Type} [Rep α] {X:View} : ∀{vs:List Value} {ds:List α},ni X vs ds->∀(i:Nat) (h1:i<vs.length) (h2:i<ds.length),Rd X vs[i] ds[i]
 | _::_,_::_,h,0,_,_=>h.1
 | _::_,_::_,h,i+1,h1,h2=>h.2.get i _ _
theorem ni.mono {α:Type} [Rep α] {X Y:View} (hk:X.le Y) : ∀{vs:List Value} {ds:List α},ni X vs ds->ni Y vs ds
 | [],[],_=>trivial
 | _::_,_::_,h=>⟨h.1.mono hk,h.2.mono hk⟩
variable{α:Type}{X:View}
theorem Rd.Md[Rep α]{v:Value}{d:α}(ha:Rep.agg α=Sk)(h:Rd X v d):v.cells = #[v]:=by unfold Rd at h;rw[if_neg (by simp[ha])]at h;have hfl:=Rep.flat h v Sa;cases v<;>first | rfl | simp[Value.oneCell']at hfl
theorem Bw : ∀(vs:List Value) (k:Nat) (A:Array Value),(∀v∈vs,v.cells = #[v])->k+vs.length=A.size->
  ∃B,Instr.fill (λj=>Se (j*1,1)) A ((vs.zipIdx k).map λp=>(p.2,p.1))=Se B/\B.toList=A.toList.take k++vs
 | [],k,A,_,hk=>⟨A,rfl,by simp at hk;rw[OK (by simp[hk])];simp⟩
 | v::vs,k,A,hv,hk=>by
  have hc:=hv v (OJ ..);obtain⟨B,h1,h2⟩:=Bw vs (k+1) (A.setIfInBounds k v) (λu hu=>hv u (OL _ hu)) (by simp at hk ⊢;omega);refine⟨B,?_,?_⟩
  ·simp only[Rl,PX,Instr.fill,hc,Pn];rw[if_neg (by simp at hk ⊢;omega)];simpa using h1
  rw[h2];have hkA:k<A.toList.length:=by simp at hk ⊢;omega
  rw[OE (by simpa using hkA)];simp[Rt]
end
structure Cat (α β:Type) where
 a:α
 b:β
instance {α β:Type} [Rep α] [Rep β]:Rep (Cat α β) where
 n:=Rep.n α+Rep.n β
 agg:=true
 rd:=λH cs d=>∃c1 c2,cs=c1++c2/\Rep.rd H c1 d.a/\Rep.rd H c2 d.b
 mono:=λhk ⟨c1,c2,h1,h2,h3⟩=>⟨c1,c2,h1,Rep.mono hk h2,Rep.mono hk h3⟩
 len:=λ⟨c1,c2,h1,h2,h3⟩=>by rw[h1,OH,Rep.len h2,Rep.len h3]
 one:=λh=>by cases h
 flat:=λ⟨c1,c2,h1,h2,h3⟩ u hu=>by
  rw[h1]at hu
  rcases OD.1 hu with hu | hu
  ·exact Rep.flat h2 u hu
  ·exact Rep.flat h3 u hu
 pos:=Nat.add_pos_left Rep.pos _
 fP:=λ⟨c1,c2,h1,h2,h3⟩=>⟨c1,c2,h1,Rep.fP h2,Rep.fP h3⟩
abbrev Rep.via {α γ:Type} [Rep α] (f:γ->α):Rep γ where
 n:=Rep.n α
 agg:=Rep.agg α
 rd:=λH cs d=>Rep.rd H cs (f d)
 mono:=λhk h=>Rep.mono hk h
 len:=λh=>Rep.len h
 one:=λh=>Rep.one h
 flat:=λh=>Rep.flat h
 pos:=Rep.pos
 fP:=λh=>Rep.fP h
theorem At.int {H:View} {a:Addr} {d:Int} (h:At H a d):ao H a=Se (Sb Sc d):=by obtain⟨u,h1,h2⟩:=h.load rfl;rw[(aX.1 h2).1]at h1;exact h1
variable{α:Type}{H:View}
theorem At.list[Rep α]{a:Addr}{l:List α}(h:At H a l): ∃v,ao H a=Se v/\SlRd H v l:=by obtain⟨u,h1,h2⟩:=h.load rfl;exact⟨u,h1,eD.1 h2⟩
theorem At.i32 {H:View} {a:Addr} {d:I32} (h:At H a d):ao H a=Se (Sb Sd d.v):=by obtain⟨u,h1,h2⟩:=h.load rfl;rw[(uZ.1 h2).1]at h1;exact h1
structure InD where
 frm:Int
 val:Int
 deriving Inhabited,DecidableEq
instance:Rep InD:=Rep.via λd=>Cat.mk d.frm d.val
structure PhiD where
 dst:Int
 ins:List InD
 deriving Inhabited,DecidableEq
instance:Rep PhiD:=Rep.via λd=>Cat.mk d.dst d.ins
structure InsD where
 op:Int
 dst:Int
 two:Int
 args:List Int
 imm:I32
 deriving Inhabited,DecidableEq
instance:Rep InsD:=Rep.via λd=>Cat.mk d.op (Cat.mk d.dst (Cat.mk d.two (Cat.mk d.args d.imm)))
structure cK where
 kind:Int
 args:List Int
 to:List Int
 imm:I32
 deriving Inhabited,DecidableEq
instance:Rep cK:=Rep.via λd=>Cat.mk d.kind (Cat.mk d.args (Cat.mk d.to d.imm))
structure BlkD where
 phis:List PhiD
 ins:List InsD
 term:cK
 deriving Inhabited,DecidableEq
instance:Rep BlkD:=Rep.via λd=>Cat.mk d.phis (Cat.mk d.ins d.term)
structure aq where
 params:Int
 blocks:List BlkD
 deriving Inhabited,DecidableEq
instance:Rep aq:=Rep.via λd=>Cat.mk d.params d.blocks
section
open Go Go.MapKept
variable {po:OP} {pp:PP}
section
variable {P:Program} {ty:TypeId} {us:List (Nat × Value)} {h:Heap} {K:Value->Heap->Prop}
def isIface:TypeDesc->Bool
 | .interface _=>Sj
 | _=>Sk
theorem HU{t:TypeId}{d:TypeDesc}{x:Operand}{v:Value}(hd:P.underlying t=Se d)(hn:isIface d=Sk)(hx:asg us x=v)(hk:K (.iface t v) h):step P (.makeInterface t x) ty us h K:=by refine dv (cG λw hw=>⟨.iface t v,w,?_,Same.refl _,by rw[hw];exact hk⟩);simp only[bU,execOp,hx];cases d<;>first | (simp[isIface]at hn;done) | (simp[Instr.makeInterface,run_underlying hd];done)
theorem H4{x:Operand}{t:TypeId}{v:Value}(hx:asg us x = .iface t v)(hk:po.op [{ v:=.iface t v,recovered:=false }] h):step P (.panic x) ty us h K:=by
 refine dv ?_;intro w hw r o a K' Q' hK hQ;have hr:(bU (.panic x) ty us).run P w = .halt (.panic (.iface t v)) w:=by simp only[bU,execOp,hx];simp[Instr.panic,goPanic,Sem.run]
 rw[hr];simp only[Oper.uponIn];exact hQ _ w (by rw[hw];exact hk) (Same.refl _)
theorem FV{T xT:TypeId}{d:TypeDesc}{x:Operand}{v:Value}(hd:P.underlying T=Se d)(hn:isIface d=Sk)(hx:asg us x = .iface T v)(hk:K (.tuple #[v,.bool Sj]) h):step P (.typeAssert x xT T Sj) ty us h K:=by refine dv (cG λw hw=>⟨.tuple #[v,.bool Sj],w,?_,Same.refl _,by rw[hw];exact hk⟩);simp only[bU,execOp,hx];cases d<;>first | (simp[isIface]at hn;done) | (simp[Instr.typeAssert,run_underlying hd];done)
variable{r:Nat}{y:Operand}
theorem nr{t k e:TypeId}{d:TypeDesc}{f:Value->Option Value}{x:Operand}{u z:Value}(ht:P.underlying t=Se (.map k e))(hd:P.underlying k=Se d)(hz:(P.info? e).map (·.zero)=Se (Se z))(hx:asg us x = .map (Se r))(hy:asg us y=u)(hu:IsKey d u)(m:ee d h r f)(hk:K (.tuple #[(f u).getD z,.bool (f u).isSome]) h):step P (.lookup t x y Sj) ty us h K:=by
 obtain⟨es,c,h1,h2,h3,h4⟩:=m.ex;simp only[Ow]at hz;obtain⟨i,hi,hz⟩:=hz;refine dv (cG λw hw=>⟨_,w,?_,Same.refl _,by rw[hw];exact hk⟩);have hz':(zeroValue e).run P w = .ok z w:=by simp[zeroValue,typeInfo,hi,hz]
 rw[<-hw]at h1;simp only[bU,execOp,hx,hy];rcases MapKept.findNow_spec hu es.toList 0 h2 with⟨g1,g2⟩ | ⟨j,x,g1,g2,g3⟩
 ·have hf:f u = .none:=by
   cases hfu:f u with
   | none=>rfl
   | some v=>obtain⟨x,hx,e1,_⟩:=(h4 u v hu).2 hfu;exact absurd e1 (g2 x hx)
  simp[Instr.lookup,run_underlying ht,MapKept.run_getObj_map h1,MapKept.run_checkKey hd hu,MapKept.run_findKey hd g1,Result.andThen,hf,hz']
 have hf:f u=Se x.val:=(h4 u x.val hu).1 ⟨x,Pp g2,g3,rfl⟩;simp[Instr.lookup,run_underlying ht,MapKept.run_getObj_map h1,MapKept.run_checkKey hd hu,MapKept.run_findKey hd g1,Result.andThen,hf]
variable{b:Bool}
theorem Ec{T:TypeId}{ms:Array (String × TypeId)}{w:World}{v:Value}(hd:P.underlying T=Se (.interface ms))(hv:v = .nilIface/\b=Sj\/∃t u,v = .iface t u/\b=Sk):(Op.equal T v .nilIface).run P w = .ok b w:=by
 have key : ∀n,(Op.equalIn (n+1) T v .nilIface).run P w = .ok b w:=λn=>by rcases hv with⟨rfl,rfl⟩ | ⟨t,u,rfl,rfl⟩<;>simp[Op.equalIn,run_underlying hd]
 exact key 9999
theorem CY{T rt:TypeId}{ms:Array (String × TypeId)}{x:Operand}{v:Value}(hd:P.underlying T=Se (.interface ms))(hx:asg us x=v)(hv:v = .nilIface/\b=Sj\/∃t u,v = .iface t u/\b=Sk)(hk:K (.bool b) h):
  step P (.binOp .eql T x (.const .nilIface) rt) ty us h K:=by refine dv (cG λw hw=>⟨.bool b,w,?_,Same.refl _,by rw[hw];exact hk⟩);simp only[bU,execOp,hx,zh];have:=Ec (w:=w) hd hv;rcases hv with⟨rfl,rfl⟩ | ⟨t,u,rfl,rfl⟩<;>simp[eqGuard,binOp,this]
end
end
def td (P:Program) (g:FuncId) (args:Array Value) (u:FrameMode) (h:Heap) (S:FrameMode->Heap->Prop):Prop:=
 ∀w:World,w.heap=h->CallsDIn (Fw Sf) 0 P g args u w λe u' w'=>e = .returned (.tuple #[])/\S u' w'.heap/\Same w w'
variable{P:Program}{caps:Array Value}
theorem DI{fn:Func}{a:Act}{w:World}{R:Ending->World->Prop}{g:FuncId}{S:FrameMode->Heap->Prop}{u:FrameMode}(hg:isFn P g=Sj)(hd:a.defers=[{ target:=.fn (.func g) caps,args:=#[] }])(hu:u≠.run)(hc:td P g caps u w.heap S)(hS : ∀u' w',S u' w'.heap->Same w w'->settle u' = .returning/\∃v,(results fn a.tmps).run P w' = .ok v w'/\R (.returned v) w'):LeavesIn (Fw Sf) 0 P fn a.tmps R a.defers u w:=by
 rw[hd];refine leavesIn_cons (f:=g) (args:=caps) hu (by simp[Fw,Fence.wide]) ?_ (λ_ _=>trivial) ((hc w rfl).mono ?_)
 ·unfold isFn at hg;cases hfn':P.funcs[g]? with
  | none=>simp[hfn']at hg
  | some fn'=>simp only[hfn',OA,bne_iff_ne,ne_eq]at hg;obtain⟨h1,h2⟩:=hg;simp[invoke,callFunc,program,Sem.run,hfn',h1,Option.isNone];cases hb:fn'.body<;>simp[hb]at h2 ⊢
 rintro e u' w' ⟨rfl,h1,h2⟩;obtain⟨h3,v,h4,h5⟩:=hS u' w' h1 h2;show LeavesIn (Fw Sf) 0 P fn a.tmps R [] (settle u') w';rw[h3];exact⟨v,h4,h5⟩
def tT (ρ:Env):List Operand->Option (List Value)
 | []=>Se []
 | .tmp t::l=>match look ρ t,tT ρ l with
  | some v,Se vs=>Se (v::vs)
  | _,_=>Sf
 | _::_=>Sf
theorem yG {ρ:Env} {a:Act} (hs:Sat ρ a) : ∀{l:List Operand} {vs:List Value},tT ρ l=Se vs->l.map a.eval=vs
 | [],vs,h=>by simp[tT]at h;subst h;rfl
 | .tmp t::l,vs,h=>by
  simp only[tT]at h;split at h
  ·rename_i v vs' h1 h2;simp only[N7]at h;subst h;have:=hs t v h1;simp[Act.eval,this,yG hs h2]
  cases h
 | .const _::_,_,h=>by simp[tT]at h
 | .global _::_,_,h=>by simp[tT]at h
 | .func _::_,_,h=>by simp[tT]at h
theorem rS{f:FuncId}{fn:Func}{c0 c1:Code}{id:Nat}{o1 o2:Oper}{g t:Nat}{capops:Array Operand}{tys:Array TypeId}{live0 liveR0 live1 liveR1:List Nat}{L0 L1:LC}{res:List E}{args:List Value}{h:Heap}{R:Value->Heap->Prop}{Mid:Env->Heap->Prop}(hm:P.follows .mixedOrders=Sj)(hf:P.funcs[f]? = Se fn)(hb:fn.body=Se (.seq c0 (.seq (.region id #[o1,o2] Sk) c1)))(h1:o1.op = .makeFunc (.func g) #[] capops)(h1d:o1.dst=Se t)(h1g:o1.guard=Sf)(h2:o2.op = .defer ⟨.value (.tmp t),#[],tys⟩)(h2d:o2.dst=Sf)(h2g:o2.guard=Sf)(ht:t<fn.ntmps)(hg:isFn P g=Sj)(hL0:eM P fn.ntmps live0 liveR0 Sk c0=Se L0)(hp0:L0.plain=Sj)(hL1:eM P fn.ntmps live1 liveR1 Sk c1=Se L1)(hp1:L1.plain=Sj)(hres:fn.results.toList.mapM (resE P)=Se res)(hn:args.length<=fn.ntmps)(hw:@LC.wp noPP P L0 (fh Mid λ_ _ _=>False) (kR 0 args) h)(hmid : ∀ρ hh,Mid ρ hh->∃capv,tT ρ capops.toList=Se capv/\∃pp:PP,
   @LC.wp pp P L1 (λe ρ2 h2=>(e = .normal\/e = .ret)/\∃S,td P g capv.toArray .returning h2 S/\∀u' h3,S u' h3->settle u' = .returning/\∃vs,evs (look ρ2) (vw h3) res=Se vs/\R (pack vs) h3) (cm ρ [t]) hh/\
   ∀ch ρ2 h2,pp.kp ch h2->pp.fx ρ2->∃S,td P g capv.toArray (.panicking ch) h2 S/\∀u' h3,S u' h3->settle u' = .returning/\∃vs,evs (look ρ2) (vw h3) res=Se vs/\R (pack vs) h3):
  aA P f args.toArray h R:=by
 intro w hwh;subst hwh;have hsat:Sat (kR 0 args) { tmps:=args.toArray++Array.replicate (fn.ntmps-args.toArray.size) undef,defers:=[] }:=by
  intro t v hl;obtain⟨_,h2⟩:=pK args 0 t v hl;have:t<args.length:=by
   rcases Ov t args.length with h | h
   ·exact h
   simp[Pk h]at h2
  simp only[Nat.sub_zero]at h2;simp only[Q5,Qv,this,if_true,Q6];exact h2
 refine(callsIn_wide (n:=0)).1 (callsIn_of_wp_defers hf hb trivial (wpIn_seq (wpIn_mono (eu (r:=Sf) hm c0 hL0 (λ_=>rfl) hw hsat R9) ?_)));rintro e a1 w1 ⟨ρ1,s1,n1,⟨ms,hds,hms,_⟩,hq,hS1⟩;rw[hms hp0]at hds;have hds:a1.defers=[]:=hds;have hq:=rj hq;cases e with
 | normal=>
  obtain⟨capv,hcap,pp,hwp,hpan⟩:=hmid ρ1 w1.heap hq;have hev:=yG s1 hcap;refine wpIn_seq (wpIn_region_list ?_);have wt1:Region.wanted o1 (yielded #[o1,o2] a1.tmps)=true:=by simp[Region.wanted,h1g]
  have hf1:(execOp a1.eval o1).run P w1 = .ok (.value (.func (.func g) #[] capv.toArray)) w1:=by
   simp only[execOp,h1];have:capops.map a1.eval=capv.toArray:=by rw[<-hev,<-Array.toList_inj];simp
   simp[this,Instr.makeFunc]
  have hput:a1.put o1.dst (.func (.func g) #[] capv.toArray)={ tmps:=a1.tmps.setIfInBounds t (.func (.func g) #[] capv.toArray),defers:=a1.defers }:=by rw[h1d];rfl
  have hget:(a1.tmps.setIfInBounds t (.func (.func g) #[] capv.toArray))[t]? = Se (.func (.func g) #[] capv.toArray):=by rw[Q0];simp[n1,ht]
  simp only[wpListIn];rw[if_pos wt1];refine⟨λ_ _=>trivial,?_⟩;rw[Oper.semAt_eq _ _ _ (by intro c e;rw[h1]at e;cases e),hf1];simp only[Oper.uponIn,hput];have wt2:Region.wanted o2 (yielded #[o1,o2] (a1.tmps.setIfInBounds t (.func (.func g) #[] capv.toArray)))=true:=by simp[Region.wanted,h2g]
  rw[if_pos wt2];have hf2:(execOp (Act.eval { tmps:=a1.tmps.setIfInBounds t (.func (.func g) #[] capv.toArray),defers:=a1.defers }) o2).run P w1 = .ok (.defer { target:=.fn (.func g) capv.toArray,args:=#[] }) w1:=by simp only[execOp,h2];simp[resolve,Act.eval,hget,Deferred.ofValue]
  refine⟨λ_ _=>trivial,?_⟩;rw[show Fence.wide.round=Sf from rfl,Oper.semAt_none,hf2];simp only[Oper.uponIn,h2d,Act.put,hds];show c1.wpIn (Fw Sf) 0 P _ _ _;have s2:Sat (cm ρ1 [t]) { tmps:=a1.tmps.setIfInBounds t (.func (.func g) #[] capv.toArray),defers:=[{ target:=.fn (.func g) capv.toArray,args:=#[] }] }:=by intro x v hl;obtain⟨e1,e2⟩:=nh _ _ _ _ hl;have hne:t≠x:=λe=>e1 (by simp[e]);simp only[Py hne];exact s1 x v e2
  refine wpIn_mono (eu (pp:=pp) (r:=Sf) (a:={ tmps:=a1.tmps.setIfInBounds t (.func (.func g) #[] capv.toArray),defers:=[{ target:=.fn (.func g) capv.toArray,args:=#[] }] }) hm c1 hL1 (λ_=>rfl) hwp s2 (by simp[n1])) ?_;rintro e a2 w2 ⟨ρ2,s3,n3,⟨ms2,hds2,hms2,_⟩,hq2,hS2⟩;rw[hms2 hp1]at hds2;have hds2:a2.defers=[{ target:=.fn (.func g) capv.toArray,args:=#[] }]:=hds2;have fin : ∀(u:FrameMode),u≠.run->(∃S,td P g capv.toArray u w2.heap S/\∀u' h3,S u' h3->settle u' = .returning/\∃vs,evs (look ρ2) (vw h3) res=Se vs/\R (pack vs) h3)->
    LeavesIn (Fw Sf) 0 P fn a2.tmps (λe w'=>∃v,e = .returned v/\R v w'.heap/\Same w w') a2.defers u w2:=by rintro u hu ⟨S,hc,hS⟩;refine DI hg hds2 hu hc λu' w' hu' hsame=>?_;obtain⟨g1,vs,g2,g3⟩:=hS u' w'.heap hu';exact⟨g1,pack vs,nS hres (rD (λt v h=>s3 t v h) g2),pack vs,rfl,g3,(hS1.trans hS2).trans hsame⟩
  cases e with
  | normal=>exact fin .returning Sa hq2.2
  | ret=>exact fin .returning Sa hq2.2
  | panic ch=>exact fin (.panicking ch) Sa (hpan ch ρ2 w2.heap hq2.2 hq2.1)
  | exit i=>rcases hq2.1 with h | h<;>cases h
  | goto l=>rcases hq2.1 with h | h<;>cases h
  | outgrown=>rcases hq2.1 with h | h<;>cases h
 | _=>exact hq.elim
def kE:FrameMode->Value × FrameMode
 | .panicking ({ v,recovered:=false,goexit:=false }::older)=>(v,.panicking ({ v,recovered:=true }::older))
 | u=>(.nilIface,u)
theorem qM{g:FuncId}{fn:Func}{c1:Code}{id t:Nat}{o:Oper}{tys:Array TypeId}{live liveR:List Nat}{L:LC}{args:List Value}{u:FrameMode}{h:Heap}{S:FrameMode->Heap->Prop}(hm:P.follows .mixedOrders=Sj)(hf:P.funcs[g]? = Se fn)(hb:fn.body=Se (.seq (.region id #[o] Sk) c1))(ho:o.op = .call ⟨.builtin .recover,#[],tys⟩)(hod:o.dst=Se t)(hog:o.guard=Sf)(ht:t<fn.ntmps)(hL:eM P fn.ntmps live liveR Sk c1=Se L)(hp:L.plain=Sj)(hr:fn.results = #[])(hn:args.length<=fn.ntmps)(hw:@LC.wp noPP P L (λe _ h'=>(e = .normal\/e = .ret)/\S (kE u).2 h') ((t,(kE u).1)::cm (kR 0 args) [t]) h):td P g args.toArray u h S:=by
 intro w hwh;subst hwh;refine callsDIn_of_wpSIn hf hb trivial λc₀ cs hu=>?_;apply wpSIn_seq;apply wpSIn_region;have hsat:Sat (kR 0 args) { tmps:=args.toArray++Array.replicate (fn.ntmps-args.toArray.size) undef,defers:=[] }:=by
  intro t v hl;obtain⟨_,h2⟩:=pK args 0 t v hl;have:t<args.length:=by
   rcases Ov t args.length with h | h
   ·exact h
   simp[Pk h]at h2
  simp only[Nat.sub_zero]at h2;simp only[Q5,Qv,this,if_true,Q6];exact h2
 have hsz:(args.toArray++Array.replicate (fn.ntmps-args.toArray.size) undef).size=fn.ntmps:=by simp;omega
 have hex : ∀ρ,(execOp ρ o).run P w = .ok .recover w:=λρ=>by simp only[execOp,ho];simp[resolve,invoke,builtin]
 generalize args.toArray++Array.replicate (fn.ntmps-args.toArray.size) undef=tm at hsat hsz;have hwant : ∀tm',Region.wanted o (yielded #[o] tm')=true:=λtm'=>by simp[Region.wanted,hog]
 have key : ∀(v:Value) (c':Frame),(kE u).1=v->c'={ c₀ with mode:=(kE u).2 }->c1.wpSIn (Fw Sf) 0 P (bodyPostS P fn c₀ cs λe u' w'=>e = .returned (.tuple #[])/\S u' w'.heap/\Same w w') { tmps:=tm.setIfInBounds t v,defers:=[] } (c'::cs) w:=by
  intro v c' hv hc';have s2:Sat ((t,(kE u).1)::cm (kR 0 args) [t]) { tmps:=tm.setIfInBounds t v,defers:=[] }:=by
   intro x y hl;simp only[look]at hl;split at hl
   ·rename_i e;subst e;simp only[N7]at hl;rw[<-hl,hv,Q0];simp[hsz,ht]
   rename_i e;obtain⟨e1,e2⟩:=nh _ _ _ _ hl;simp only[Py e];exact hsat x y e2
  refine wpSIn_of_wpIn rfl (wpIn_mono (eu (pp:=noPP) (r:=Sf) (a:={ tmps:=tm.setIfInBounds t v,defers:=[] }) hm c1 hL (λ_=>rfl) hw s2 (by simp[hsz])) ?_);rintro e a2 w2 ⟨ρ2,s3,n3,⟨ms2,hds2,hms2,_⟩,hq2,hS2⟩;rw[hms2 hp]at hds2;have hds2:a2.defers=[]:=hds2;have hq2:=rj hq2;have hres:(results fn a2.tmps).run P w2 = .ok (.tuple #[]) w2:=by simp[results,hr]
  have fin:a2.defers=[]/\∃u',c'::cs={ c₀ with mode:=u' }::cs/\∃v,(results fn a2.tmps).run P w2 = .ok v w2/\Ending.returned v = .returned (.tuple #[])/\S u' w2.heap/\Same w w2:=
   ⟨hds2,_,by rw[hc'],_,hres,rfl,hq2.2,hS2⟩;cases e with
  | normal=>exact fin
  | ret=>exact fin
  | panic ch=>rcases hq2.1 with h | h<;>cases h
  | exit i=>rcases hq2.1 with h | h<;>cases h
  | goto l=>rcases hq2.1 with h | h<;>cases h
  | outgrown=>rcases hq2.1 with h | h<;>cases h
 have hr0:List.range (#[o]:Array Oper).size=[0]:=rfl;rw[hr0];simp only[wpOpsSIn];have ho0:(#[o]:Array Oper)[0]? = Se o:=rfl;rw[ho0];simp only[hwant,if_true,hex];refine⟨λ_ _=>trivial,?_⟩;by_cases hcase : ∃v older,u = .panicking ({ v,recovered:=false,goexit:=false }::older)
 ·obtain⟨v,older,rfl⟩:=hcase;have e:recoverD (c₀::cs)=Se (v,{ c₀ with mode:=.panicking ({ v,recovered:=true }::older) }::cs):=by simp only[recoverD,hu]
  rw[e];simp only[hod];exact key v _ rfl rfl
 have e:recoverD (c₀::cs)=none:=by
  simp only[recoverD,hu];split
  ·exact absurd ⟨_,_,rfl⟩ hcase
  rfl
 have er:kE u=(.nilIface,u):=by
  unfold kE;split
  ·exact absurd ⟨_,_,rfl⟩ hcase
  rfl
 rw[e];simp only[hod];exact key .nilIface c₀ (by rw[er]) (by rw[er,<-hu])
section
variable {po po2:OP} {pp:PP}
structure Part (α β:Type) [Rep α] [Rep β] (o:Nat) (get:α->β) (set:α->β->α):Prop where
 fits:o+Rep.n β<=Rep.n α
 get : ∀{H:View} {cs:List Value} {d:α},Rep.rd H cs d->Rep.rd H ((cs.drop o).take (Rep.n β)) (get d)
 set : ∀{H:View} {cs us:List Value} {d:α} {x:β},Rep.rd H cs d->Rep.rd H us x->Rep.rd H (cs.take o++us++cs.drop (o+Rep.n β)) (set d x)
theorem Part.all[Rep α]:Part α α 0 (λd=>d) (λ_ x=>x) where
 fits:=by simp
 get:=λh=>by rw[P9,OK (by rw[Rep.len h];exact N8 _)];exact h
 set:=λh k=>by
  have:=Rep.len h
  rw[QC,OZ,O6 R3,PO];exact k
section
variable {α β γ:Type} [Rep α] [Rep β] [Rep γ] {o:Nat}
theorem Part.fst{g:α->γ}{s:α->γ->α}(p:Part α γ o g s):Part (Cat α β) γ o (λd=>g d.a) (λd x=>⟨s d.a x,d.b⟩) where
 fits:=OX p.fits (Nat.le_add_right _ _)
 get:=by
  rintro H cs d ⟨c1,c2,rfl,h1,h2⟩
  have l1:=Rep.len h1
  have f:=p.fits
  rw[PB R3,Pq R9]
  exact p.get h1
 set:=by
  rintro H cs us d x ⟨c1,c2,rfl,h1,h2⟩ k
  have l1:=Rep.len h1
  have f:=p.fits
  refine⟨_,c2,?_,p.set h1 k,h2⟩
  rw[Pq R3,PB R3]
  simp[ON]
theorem Part.snd{g:β->γ}{s:β->γ->β}(p:Part β γ o g s):Part (Cat α β) γ (Rep.n α+o) (λd=>g d.b) (λd x=>⟨d.a,s d.b x⟩) where
 fits:=by
  have:=p.fits
  show Rep.n α+o+Rep.n γ<=Rep.n α+Rep.n β
  omega
 get:=by
  rintro H cs d ⟨c1,c2,rfl,h1,h2⟩
  have l1:=Rep.len h1
  rw[QB,O6 R3,OZ,show Rep.n α+o-c1.length=o by omega]
  exact p.get h2
 set:=by
  rintro H cs us d x ⟨c1,c2,rfl,h1,h2⟩ k
  have l1:=Rep.len h1
  refine⟨c1,_,?_,h1,p.set h2 k⟩
  rw[P5,OK R3,show Rep.n α+o-c1.length=o by omega,QB,O6 R3,OZ,
   show Rep.n α+o+Rep.n γ-c1.length=o+Rep.n γ by omega]
  simp[ON]
end
theorem Part.via {α β γ:Type} [ra:Rep α] [rb:Rep β] {f:γ->α} {o o':Nat} {g:α->β} {s:α->β->α} (p:Part α β o g s) {g':γ->β} {s':γ->β->γ} (hg : ∀d,g' d=g (f d)) (hs : ∀d x,f (s' d x)=s (f d) x) (ho:o=o':=by rfl):@Part γ β (Rep.via f) rb o' g' s':=by subst ho;exact @Part.mk γ β (Rep.via f) rb o g' s' p.fits (fun{H cs d} h=>by rw[hg];exact p.get h) (fun{H cs us d x} h k=>by have:=p.set (show Rep.rd H cs (f d) from h) k;rw[<-hs]at this;exact this)
variable{β:Type}
theorem At.part[Rep α][Rep β]{o:Nat}{g:α->β}{s:α->β->α}(p:Part α β o g s){a:Addr}{d:α}(h:At H a d):At H (a.add o) (g d):=by obtain⟨cs,h1,h2⟩:=h;have l:=Rep.len h2;exact⟨_,CM h1 o (Rep.n β) (by rw[l];exact p.fits),p.get h2⟩
theorem Rd.MV[Rep α][Rep β]{o:Nat}{g:α->β}{s:α->β->α}(p:Part α β o g s)(ha:Rep.agg α=Sj)(hb:Rep.agg β=Sk){K:View}{v:Value}{d:α}(h:Rd H v d): ∃u,Un.ev K (.part o) v=Se u/\Rd H u (g d):=by
 unfold Rd at h;rw[if_pos ha]at h;obtain⟨cs,rfl,h⟩:=h;have l:=Rep.len h;have f:=p.fits;have k:=p.get h;rw[Rep.one hb]at f k;have hlt:o<cs.size:=by simpa using(show o<cs.toList.length by omega)
 refine⟨cs[o],by simp[hlt],?_⟩;unfold Rd;rw[if_neg (by simp[hb])];rw[O4 (by simpa using hlt)]at k;simpa using k
theorem InD.Ix:Part InD Int 0 InD.frm (λd x=>{ d with frm:=x }):=(Part.fst Part.all).via (λ_=>rfl) λ_ _=>rfl
theorem InD.zO:Part InD Int 1 InD.val (λd x=>{ d with val:=x }):=(Part.snd Part.all).via (λ_=>rfl) λ_ _=>rfl
theorem PhiD.iq:Part PhiD Int 0 PhiD.dst (λd x=>{ d with dst:=x }):=(Part.fst Part.all).via (λ_=>rfl) λ_ _=>rfl
theorem PhiD.jB:Part PhiD (List InD) 1 PhiD.ins (λd x=>{ d with ins:=x }):=(Part.snd Part.all).via (λ_=>rfl) λ_ _=>rfl
theorem InsD.sU:Part InsD Int 0 InsD.op (λd x=>{ d with op:=x }):=(Part.fst Part.all).via (λ_=>rfl) λ_ _=>rfl
theorem InsD.iq:Part InsD Int 1 InsD.dst (λd x=>{ d with dst:=x }):=(Part.snd (Part.fst Part.all)).via (λ_=>rfl) λ_ _=>rfl
theorem InsD.yn:Part InsD Int 2 InsD.two (λd x=>{ d with two:=x }):=(Part.snd (Part.snd (Part.fst Part.all))).via (λ_=>rfl) λ_ _=>rfl
theorem InsD.eW:Part InsD (List Int) 3 InsD.args (λd x=>{ d with args:=x }):=(Part.snd (Part.snd (Part.snd (Part.fst Part.all)))).via (λ_=>rfl) λ_ _=>rfl
theorem InsD.gD:Part InsD I32 4 InsD.imm (λd x=>{ d with imm:=x }):=(Part.snd (Part.snd (Part.snd (Part.snd Part.all)))).via (λ_=>rfl) λ_ _=>rfl
theorem cK.yh:Part cK Int 0 cK.kind (λd x=>{ d with kind:=x }):=(Part.fst Part.all).via (λ_=>rfl) λ_ _=>rfl
theorem cK.eW:Part cK (List Int) 1 cK.args (λd x=>{ d with args:=x }):=(Part.snd (Part.fst Part.all)).via (λ_=>rfl) λ_ _=>rfl
theorem cK.yi:Part cK (List Int) 2 cK.to (λd x=>{ d with to:=x }):=(Part.snd (Part.snd (Part.fst Part.all))).via (λ_=>rfl) λ_ _=>rfl
theorem cK.gD:Part cK I32 3 cK.imm (λd x=>{ d with imm:=x }):=(Part.snd (Part.snd (Part.snd Part.all))).via (λ_=>rfl) λ_ _=>rfl
theorem BlkD.sV:Part BlkD (List PhiD) 0 BlkD.phis (λd x=>{ d with phis:=x }):=(Part.fst Part.all).via (λ_=>rfl) λ_ _=>rfl
theorem BlkD.jB:Part BlkD (List InsD) 1 BlkD.ins (λd x=>{ d with ins:=x }):=(Part.snd (Part.fst Part.all)).via (λ_=>rfl) λ_ _=>rfl
theorem BlkD.nE:Part BlkD cK 2 BlkD.term (λd x=>{ d with term:=x }):=(Part.snd (Part.snd Part.all)).via (λ_=>rfl) λ_ _=>rfl
theorem aq.GZ:Part aq Int 0 aq.params (λd x=>{ d with params:=x }):=(Part.fst Part.all).via (λ_=>rfl) λ_ _=>rfl
theorem aq.oV:Part aq (List BlkD) 1 aq.blocks (λd x=>{ d with blocks:=x }):=(Part.snd Part.all).via (λ_=>rfl) λ_ _=>rfl
def Sl {α:Type} [Rep α] (H:View) (a:Addr) (v:Value) (l:List α):Prop:=ao H a=Se v/\SlRd H v l
theorem At.sl[Rep α]{a:Addr}{l:List α}(h:At H a l): ∃v,Sl H a v l:=h.list
variable{n:Nat}
theorem Addr.z{b o:Nat}:(⟨b,o,Sf⟩:Addr).add n=⟨b,o+n,Sf⟩:=bS rfl n
section
variable {α:Type} [Rep α] {P:Program} {ty:TypeId} {us:List (Nat × Value)} {h:Heap}
theorem fV{v:Value}{d:α}(hr:Rd H v d):Rep.rd H v.cells.toList d/\v.cells.size=Rep.n α/\∀c∈v.cells.toList,c.oneCell'=true:=by
 unfold Rd at hr;split at hr
 ·obtain⟨cs,rfl,h⟩:=hr;exact⟨h,by rw[<-Rep.len h];rfl,λc hc=>Rep.flat h c hc⟩
 rename_i ha;have hone:=Rep.one (α:=α) (by simpa using ha);have hfl:=Rep.flat hr v Sa;have:v.cells = #[v]:=by cases v<;>first | rfl | simp[Value.oneCell']at hfl
 rw[this];exact⟨by simpa using hr,by simp[hone],by simpa using hfl⟩
theorem nv{b:Nat}{v:Value}{d:α}{t:TypeId}{fz:Nat × Nat}(hb:H b=Se (.cells v.cells t fz))(hr:Rd H v d):At H ⟨b,0,Sf⟩ d:=
 ⟨_,⟨v.cells,t,fz,rfl,hb,by simp;exact OK Sa⟩,(fV hr).1⟩
variable{K:Value->Heap->Prop}
theorem gp{t:TypeId}{x:Operand}{v:Value}{d:α}(hx:asg us x=v)(hv:Rd (vw h) v d)(hk : ∀h':Heap,h'=h.push (.cells v.cells t)->(vw h).le (vw h')->h'.size=h.size+1->At (vw h') ⟨h.size,0,Sf⟩ d->K (Si (Se ⟨h.size,0,Sf⟩)) h'):step P (.box t x) ty us h K:=
 cr hx (hk _ rfl (bC _ _) Sa (nv (t:=t) (fz:=(0,0)) (by simp[vw]) (hv.mono (bC _ _))))
theorem SlRd.whole{K:View}{v:Value}{l:List α}(h:SlRd H v l)(ha:Rep.agg α=Sj)(hk:H.le K){i:Nat}(hi:i<l.length): ∃u,Un.ev K (.aT (Rep.n α)) (Si (Se ((slA v).add (i*Rep.n α))))=Se u/\Rd K u l[i]:=
 ((h.at hi).mono hk).aT ha
end
theorem At.rng{a:Addr}{d:Int}(h:At H a d):-9223372036854775808<=d/\d<=9223372036854775807:=by obtain⟨u,h1,h2⟩:=h.load rfl;exact(aX.1 h2).2
theorem At.bool {H:View} {a:Addr} {d:Bool} (h:At H a d):ao H a=Se (.bool d):=by obtain⟨u,h1,h2⟩:=h.load rfl;rw[xh.1 h2]at h1;exact h1
theorem aF[Rep α]:SlRd H (Sg Sf 0 0) ([]:List α):=⟨Sf,0,rfl,by simp,by simp,.inl rfl⟩
variable{ty:TypeId}{bytes:Nat}{us:List (Nat × Value)}{K:Value->Heap->Prop}{X:View}
theorem mM[Rep α]{t e:Nat}{z:Value}{ps:Array (Nat × Operand)}{vs:List Value}{ds:List α}{h:Heap}(ha:Rep.agg α=Sk)(hT:fA P t e 1 bytes z)(hp:ps.map (λp=>(p.1,asg us p.2))=((vs.zipIdx 0).map λp=>(p.2,p.1)).toArray)(hr:ni X vs ds)(hX:X.le (vw h))(hn:ds.length=n)(hb:n<=16777216)(hk : ∀u h',(vw h).le (vw h')->h'.size=h.size+1->(∀Y:View,X.le Y->Y h.size=h'[h.size]?->SlRd Y u ds)->u.ownBlock=Se h.size->K u h'):step P (.buildSlice t n ps) ty us h K:=by
 have hl:=hr.len;obtain⟨B,h1,h2⟩:=Bw vs 0 ((Array.range (n*1)).map (z.cells[· % z.cells.size]!)) (λv hv=>by obtain⟨i,hi,rfl⟩:=OS hv;exact(hr.get i hi R3).Md ha) R9;have hB:B=vs.toArray:=by rw[<-Array.toList_inj,h2];simp
 refine rQ hT R3 hp h1 ?_;have hle:=bC h (.cells B e);have hone:=Rep.one (α:=α) ha;refine hk _ _ hle Sa (λY hY hYb=>⟨Se ⟨h.size,0,Sf⟩,n,by rw[hn],by omega,by omega,.inr ⟨_,rfl,rfl,λi hi=>?_⟩⟩) rfl;rw[bS rfl,hone];refine⟨[vs[i]],⟨B,e,(0,0),rfl,by rw[hYb];simp,?_⟩,?_⟩
 ·rw[hB];have hd:vs.drop i=vs[i]::vs.drop (i+1):=O4 R3;simp only[PH,Pn,Px,QV];show List.take (0+1) (List.drop i vs)=_;rw[hd];rfl
 have:=(hr.get i R3 hi).mono hY;unfold Rd at this;rw[if_neg (by simp[ha])]at this;exact this
def mapE {β:Type} (enc:β->Value) (f:Int->Option β):Value->Option Value
 | Sb Sc j=>(f j).map enc
 | _=>Sf
@[simp] theorem qF{enc:β->Value}{f:Int->Option β}{j:Int}:mapE enc f (Sb Sc j)=(f j).map enc:=rfl
def putM {β:Type} (f:Int->Option β) (j:Int) (v:β):Int->Option β:=λi=>if i=j then Se v else f i
theorem jG{enc:β->Value}{f:Int->Option β}{j:Int}{v:β}:mapE enc (putM f j v) (Sb Sc j)=Se (enc v)/\∀u,u≠Sb Sc j->mapE enc (putM f j v) u=mapE enc f u:=by
 refine⟨by simp[putM],λu hu=>?_⟩;cases u<;>try rfl
 rename_i k i;cases k<;>try rfl
 have:i≠j:=λe=>hu (by rw[e]);simp[putM,this]
theorem rM{enc:β->Value}:mapE enc (λ_=>.none)=λ_=>.none:=by
 funext u;cases u<;>try rfl
 rename_i k i;cases k<;>rfl
theorem Kept.skip {h h':Heap} {r:Nat} (k:Kept h h' (Se r)):(skip r h).le (Lft.skip r h'):=λb o hb=>by
 unfold Lft.skip at hb ⊢;split at hb
 ·cases hb
 rename_i hne;rw[if_neg hne];have hlt:=(OG.1 hb).1;rw[k.block b hlt (by simpa using hne)];exact hb
variable{h':Heap}{r:Nat}
theorem Kept.Ej{h:Heap}(k:Kept h h' (Se r)):(Lft.skip r h).le (vw h'):=S3 k.skip di
theorem Kept.of_le{h:Heap}{b:Option Nat}(hle:(vw h).le (vw h')):Kept h h' b:=⟨cD hle,λk hk _=>by have:=hle k h[k] (OV hk);rw[OV hk];exact this⟩
theorem Kept.upd{h:Heap}(hs:h'.size=h.size)(ho : ∀b,b≠r->h'[b]? = h[b]?):Kept h h' (Se r):=⟨by omega,λk _ hk=>ho k (by simpa using hk)⟩
variable{ty2:TypeId}{y:Operand}{us2:Value->List (Nat × Value)}
theorem fT{h:Heap}{t:TypeId}{z:Value}{x:Operand}{v:Value}(hz:(P.info? t).map (·.zero)=Se (Se z))(hzc:z.cells.size=n)(hsz:cH P t=Se n)(hv:v.cells.size=n)(hone : ∀c∈v.cells.toList,c.oneCell'=Sj)(hx : ∀p,asg (us2 p) x=p)(hy : ∀p,asg (us2 p) y=v)(hk : ∀h':Heap,(vw h).le (vw h')->h'.size=h.size+1->h'[h.size]? = Se (.cells v.cells t (0,0))->K (Si (Se ⟨h.size,0,Sf⟩)) h'):
  @step po P (.alloc t) ty us h λp h2=>@step po2 P (.store t x y) ty2 (us2 p) h2 λ_ h3=>K p h3:=by
 refine db hz ?_;refine eR (g:=h.size) (o:=0) (n:=n) (v:=v) (cur:=z.cells) (e:=t) hsz (hx _) (hy _) hv hone Sa R3 λh' hs ⟨row,hrow,he⟩ hoth=>?_;have hrow2:row=v.cells:=by rw[<-Array.toList_inj,he];simp only[QC,OZ,PH];rw[O6 (by simp[hzc]),PO]
 rw[hrow2]at hrow;have hle:(vw h).le (vw h'):=λb o hb=>by have hlt:=View.lt (View.le_refl (vw h)) hb;show h'[b]? = _;rw[hoth b R3];exact bC _ _ b o hb
 exact hk h' hle (by rw[hs];simp) hrow
section
variable {σ α ε:Type} {f:σ->α->Except ε σ} {s s':σ} {l:List α} {k:Nat} {t:ε}
theorem Dk[Inhabited α](h:k<l.length)(hs:(l.take k).foldlM f s = .ok s'):(l.take (k+1)).foldlM f s=f s' (nth l k):=by rw[OE h,RC,hs,aB h];show List.foldlM f s' [l[k]]=f s' l[k];rw[PV];cases f s' l[k]<;>rfl
theorem FH(h:(l.take k).foldlM f s = .error t):l.foldlM f s = .error t:=by
 have e:l.foldlM f s=(l.take k++l.drop k).foldlM f s:=by rw[PZ]
 rw[e,RC,h];rfl
end
def upE {σ ε:Type} (f:Nat->σ->Except ε σ):Nat->σ->Except ε σ
 | 0,s=>.ok s
 | k+1,s=>match upE f k s with
  | .ok s'=>f k s'
  | .error t=>.error t
theorem jF{σ ε:Type}{f:Nat->σ->Except ε σ}{k:Nat}{s s':σ}(h:upE f k s = .ok s'):upE f (k+1) s=f k s':=by simp only[upE,h]
theorem Ak {σ ε:Type} {f:Nat->σ->Except ε σ} {s:σ} {t:ε} : ∀{n k:Nat},k<=n->upE f k s = .error t->upE f n s = .error t
 | 0,k,hk,h=>by
  have:k=0:=by omega
  subst this;exact h
 | n+1,k,hk,h=>by
  rcases Ov n k with hlt | hge
  ·have:k=n+1:=by omega
   subst this;exact h
  simp only[upE,Ak hge h]
theorem qz{σ ε:Type}{f:Nat->σ->Except ε σ}{k:Nat}{s s':σ}{t:ε}(h:upE f k s = .ok s')(hk:k<n)(he:f k s' = .error t):upE f n s = .error t:=
 Ak (k:=k+1) hk (by rw[jF h,he])
theorem dB[Rep α]{h:Heap}{t:TypeId}{z:Value}{x:Operand}{v:Value}{d:α}(hz:(P.info? t).map (·.zero)=Se (Se z))(hzc:z.cells.size=Rep.n α)(hsz:cH P t=Se (Rep.n α))(hv:Rd X v d)(hx : ∀p,asg (us2 p) x=p)(hy : ∀p,asg (us2 p) y=v)(hk : ∀h':Heap,(vw h).le (vw h')->h'.size=h.size+1->(∀Y:View,X.le Y->Y h.size=h'[h.size]?->At Y ⟨h.size,0,Sf⟩ d)->K (Si (Se ⟨h.size,0,Sf⟩)) h'):
  @step po P (.alloc t) ty us h λp h2=>@step po2 P (.store t x y) ty2 (us2 p) h2 λ_ h3=>K p h3:=by obtain⟨c1,c2,c3⟩:=fV hv;exact fT hz hzc hsz c2 c3 hx hy λh' hle hs hb=>hk h' hle hs λY hY hYb=>nv (by rw[hYb];exact hb) (hv.mono hY)
theorem jr{B:Nat}{d:BlkD}(h:At H ⟨B,0,Sf⟩ d): ∃vp vi va vt,Sl H ⟨B,0,Sf⟩ vp d.phis/\Sl H ⟨B,1,Sf⟩ vi d.ins/\ao H ⟨B,2,Sf⟩=Se (Sb Sc d.term.kind)/\Sl H ⟨B,3,Sf⟩ va d.term.args/\Sl H ⟨B,4,Sf⟩ vt d.term.to:=by obtain⟨vp,h1⟩:=(h.part BlkD.sV).sl;obtain⟨vi,h2⟩:=(h.part BlkD.jB).sl;have ht:=h.part BlkD.nE;obtain⟨va,h4⟩:=(ht.part cK.eW).sl;obtain⟨vt,h5⟩:=(ht.part cK.yi).sl;exact⟨vp,vi,va,vt,by simpa using h1,by simpa using h2,by simpa using(ht.part cK.yh).int,by simpa using h4,by simpa using h5⟩
theorem A3{B:Nat}{d:PhiD}(h:At H ⟨B,0,Sf⟩ d):ao H ⟨B,0,Sf⟩=Se (Sb Sc d.dst)/\∃v,Sl H ⟨B,1,Sf⟩ v d.ins:=by obtain⟨v,hv⟩:=(h.part PhiD.jB).sl;exact⟨by simpa using(h.part PhiD.iq).int,v,by simpa using hv⟩
theorem fO{B:Nat}{d:InsD}(h:At H ⟨B,0,Sf⟩ d):ao H ⟨B,0,Sf⟩=Se (Sb Sc d.op)/\ao H ⟨B,1,Sf⟩=Se (Sb Sc d.dst)/\ao H ⟨B,2,Sf⟩=Se (Sb Sc d.two)/\∃v,Sl H ⟨B,3,Sf⟩ v d.args:=by obtain⟨v,hv⟩:=(h.part InsD.eW).sl;exact⟨by simpa using(h.part InsD.sU).int,by simpa using(h.part InsD.iq).int,by simpa using(h.part InsD.yn).int,v,by simpa using hv⟩
theorem gP{B:Nat}{d:aq}(h:At H ⟨B,0,Sf⟩ d):ao H ⟨B,0,Sf⟩=Se (Sb Sc d.params)/\∃v,Sl H ⟨B,1,Sf⟩ v d.blocks:=by obtain⟨v,hv⟩:=(h.part aq.oV).sl;exact⟨by simpa using(h.part aq.GZ).int,v,by simpa using hv⟩
theorem DS{B:Nat}{d:InD}(h:At H ⟨B,0,Sf⟩ d):ao H ⟨B,0,Sf⟩=Se (Sb Sc d.frm)/\ao H ⟨B,1,Sf⟩=Se (Sb Sc d.val):=
 ⟨by simpa using(h.part InD.Ix).int,by simpa using(h.part InD.zO).int⟩
theorem SlRd.wh[Rep α][Inhabited α]{v:Value}{l:List α}(h:SlRd H v l)(ha:Rep.agg α=Sj){N:Nat}(hn:Rep.n α=N){i:Nat}(hi:i<l.length): ∃u,(∀K:View,H.le K->Un.ev K (.aT N) (Si (Se ((slA v).add (i*N))))=Se u)/\Rd H u (nth l i):=by subst hn;obtain⟨u,h1,h2⟩:=h.whole ha (View.le_refl H) hi;refine⟨u,λK hk=>?_,by rw[aB hi];exact h2⟩;have:=dq (ρ:=λ_=>Sf) (e:=.un (.aT (Rep.n α)) (.con (Si (Se ((slA v).add (i*Rep.n α)))))) hk (v:=u) (by simpa using h1);simpa using this
instance:Inhabited BlkD:=⟨⟨[],[],⟨0,[],[],⟨0⟩⟩⟩⟩
theorem vz{h:Heap}{f:FuncId}{t:Nat}{ops:List Operand}{T:Array TypeId}(hf:asg us (.tmp t) = .func (.func f) #[] caps){R:Value->Heap->Prop}{Rp:List PanicEntry->Heap->Prop}(hfn:isFn P f=Sj)(hc:ju P f (ops.map (asg us)++caps.toList).toArray h R Rp)(hk : ∀v h',R v h'->K v h')(hp : ∀ch h',Rp ch h'->po.op ch h'):@step po P (.call ⟨.value (.tmp t),ops.toArray,T⟩) ty us h K:=by
 refine dv (po:=po) (wT (po:=po) (R:=R) (f:=f) (args:=(ops.map (asg us)++caps.toList).toArray) (λw _=>?_) hc hk hp);unfold isFn at hfn;cases hfn':P.funcs[f]? with
 | none=>simp[hfn']at hfn
 | some fn=>simp only[hfn',OA,bne_iff_ne,ne_eq]at hfn;obtain⟨h1,h2⟩:=hfn;simp[bU,execOp,resolve,Deferred.ofValue,hf,invoke,callFunc,program,Sem.run,hfn',h1,Option.isNone];cases hb:fn.body<;>simp[hb]at h2 ⊢
variable{b:Bool}
@[simp] theorem Mo{v:Value}:gdv b undef v=undef:=rfl
@[simp] theorem Mj{o:Option Value}:gdO b undef o=Se undef:=rfl
end
end Go.Lft
namespace Go.Proofs.YtnfiilgdjpdlkaaGreatDoor
open Go Go.Lft
theorem follows:Tryz.prog.follows .mixedOrders=true:=by kernel_rfl
abbrev T.int:Nat:=3
abbrev T.bool:Nat:=4
abbrev T.aP:Nat:=22
abbrev T.lq:Nat:=23
abbrev T.kf:Nat:=25
abbrev T.bY:Nat:=27
abbrev T.kZ:Nat:=30
abbrev T.kg:Nat:=31
abbrev T.jI:Nat:=33
abbrev T.dh:Nat:=35
abbrev T.dc:Nat:=36
abbrev T.gG:Nat:=38
abbrev T.aJ:Nat:=40
abbrev T.nu:Nat:=50
abbrev T.lj:Nat:=55
abbrev T.pg:Nat:=57
abbrev T.nk:Nat:=64
abbrev T.dA:Nat:=70
abbrev T.cW:Nat:=80
abbrev T.sv:Nat:=87
abbrev T.bc:Nat:=89
abbrev T.ef:Nat:=91
abbrev T.mA:Nat:=93
abbrev T.je:Nat:=95
abbrev T.uV:Nat:=97
abbrev T.bh:Nat:=101
abbrev T.jW:Nat:=108
abbrev T.ib:Nat:=109
abbrev T.fY:Nat:=110
abbrev T.bR:Nat:=113
abbrev T.jZ:Nat:=116
abbrev T.kJ:Nat:=120
abbrev T.mg:Nat:=123
abbrev T.rP:Nat:=124
abbrev T.Cf:Nat:=127
abbrev T.dC:Nat:=132
abbrev T.gO:Nat:=136
abbrev T.da:Nat:=138
abbrev T.gA:Nat:=144
abbrev T.nz:Nat:=146
abbrev T.fZ:Nat:=147
abbrev T.jj:Nat:=149
abbrev T.I2:Nat:=154
abbrev T.gB:Nat:=157
abbrev T.cL:Nat:=160
abbrev T.dW:Nat:=185
abbrev T.eJ:Nat:=187
theorem U.int:Tryz.prog.underlying T.int=Se (.int .i64):=by kernel_rfl
theorem U.aP:Tryz.prog.underlying T.aP=Se (.slice T.int):=by kernel_rfl
theorem El.aP:fA Sn T.aP T.int 1 8 (Sb Sc 0):=ig R1 R1 rfl R4
theorem U.lq:Tryz.prog.underlying T.lq=Se (.array 3 T.int):=by kernel_rfl
theorem El.kf:fA Sn T.kf T.dh 6 112 (.agg #[(Sg Sf 0 0),(Sg Sf 0 0),(Sb Sc 0),(Sg Sf 0 0),(Sg Sf 0 0),(Sb Sd 0)]):=ig R1 R1 rfl R4
theorem El.kZ:fA Sn T.kZ T.mA 2 32 (.agg #[(Sb Sc 0),(Sg Sf 0 0)]):=ig R1 R1 rfl R4
theorem El.kg:fA Sn T.kg T.dA 5 56 (.agg #[(Sb Sc 0),(Sb Sc 0),(Sb Sc 0),(Sg Sf 0 0),(Sb Sd 0)]):=ig R1 R1 rfl R4
theorem El.dc:fA Sn T.dc T.cW 8 80 (.agg #[(Sb Sc 0),(Sb Sc 0),(Sb Sc 0),(Sb Sc 0),(Sb Sc 0),(Sb Sc 0),(Sb Sd 0),(Sg Sf 0 0)]):=ig R1 R1 rfl R4
theorem U.nu:Tryz.prog.underlying T.nu=Se (.array 2 T.int):=by kernel_rfl
theorem El.lj:fA Sn T.lj T.nk 2 16 (.agg #[(Sb Sc 0),(Sb Sc 0)]):=ig R1 R1 rfl R4
theorem El.ef:fA Sn T.ef T.je 2 16 (.agg #[(Sb Sc 0),(Sb Sc 0)]):=ig R1 R1 rfl R4
theorem U.jW:Tryz.prog.underlying T.jW=Se (.map T.int T.bool):=by kernel_rfl
theorem U.ib:Tryz.prog.underlying T.ib=Se (.map T.int T.nu):=by kernel_rfl
theorem El.bR:fA Sn T.bR T.jZ 2 16 (.agg #[(Sb Sc 0),(Sb Sc 0)]):=ig R1 R1 rfl R4
theorem El.kJ:fA Sn T.kJ T.aP 1 24 (Sg Sf 0 0):=ig R1 R1 rfl R4
theorem El.mg:fA Sn T.mg T.bool 1 1 (.bool Sk):=ig R1 R1 rfl R4
theorem El.rP:fA Sn T.rP T.mg 1 24 (Sg Sf 0 0):=ig R1 R1 rfl R4
theorem U.da:Tryz.prog.underlying T.da=Se (.map T.int T.gO):=by kernel_rfl
theorem U.fZ:Tryz.prog.underlying T.fZ=Se (.map T.int T.jZ):=by kernel_rfl
theorem El.gB:fA Sn T.gB T.cL 4 64 (.agg #[(Sb Sc 0),(Sb Sc 0),(Sg Sf 0 0),(Sg Sf 0 0)]):=ig R1 R1 rfl R4
theorem U.eJ:Tryz.prog.underlying T.eJ=Se (.map T.int T.dW):=by kernel_rfl
end Go.Proofs.YtnfiilgdjpdlkaaGreatDoor
namespace Go.Lft
open Go Go.ChangeShapes Go.WideShapes Go.RowKit
structure RT (P:Program) (t:TypeId) (α:Type) [Rep α]:Prop where
 cells : ∀{H:Type} {enc:TypeId × Value->H} {W:World} {spare:Nat->Bool} {held:Bool} {fuel:Nat} {cs:List Value} {d:DataW H} {ps:List MemPlace},
  DataW.trod enc P W 0 spare held fuel t cs=Se (d,ps)->(∀b∈d.weights P t,b<=reachBytes)->∃x:α,Rep.rd (vw W.heap) cs x
 val : ∀{W:World} {r:Reach} {base:Nat} {v:Value},Value.okWide P W r base t v->if Rep.agg α then ∃cs,v = .agg cs else v.cells = #[v]
theorem RT.arg{P:Program}{t:TypeId}{α:Type}[Rep α](rt:RT P t α){H:Type}{enc:TypeId × Value->H}{W:World}{spare:Nat->Bool}{held:Bool}{v:Value}{d:DataW H}{ps:List MemPlace}{r:Reach}{base:Nat}(h:DataW.Trod enc P W 0 spare held t v d ps)(hok:Value.okWide P W r base t v)(hw : ∀b∈d.weights P t,b<=reachBytes): ∃x:α,Rd (vw W.heap) v x:=by
 obtain⟨fuel,h⟩:=h;obtain⟨x,hx⟩:=rt.cells h hw;have hv:=rt.val hok;refine⟨x,?_⟩;unfold Rd;split
 ·rename_i ha;rw[if_pos ha]at hv;obtain⟨cs,rfl⟩:=hv;exact⟨cs,rfl,hx⟩
 rename_i ha;rw[if_neg ha]at hv;rw[hv]at hx;exact hx
theorem wf_i64{n:Int}(h:(Lit.int .i64 n).wf=Sj):-9223372036854775808<=n/\n<=9223372036854775807:=by simp only[Lit.wf,OA,decide_eq_true_eq]at h;simpa[IntKind.min,IntKind.max,IntKind.signed,IntKind.bits]using h
section
variable {P:Program} {t e:TypeId} {H:Type} {enc:TypeId × Value->H} {W:World} {spare:Nat->Bool} {held:Bool} {fuel:Nat} {cs:List Value} {x:DataW H × List MemPlace}
theorem trod_int{k:IntKind}(ht:P.underlying t=Se (.int k))(h:DataW.trod enc P W 0 spare held fuel t cs=Se x): ∃n,cs=[.int k n]/\(Lit.int k n).wf=true:=by
 cases fuel with
 | zero=>simp[DataW.trod]at h
 | succ n=>unfold DataW.trod at h;rw[ht]at h;split at h<;>simp_all
end
section
variable {P:Program} {t e:TypeId}
theorem Ly(ht:P.underlying t=Se (.int .i64)):RT P t Int where
 cells:=fun{H enc W spare held fuel cs d ps} h _=>by
  obtain⟨n,rfl,hw⟩:=trod_int ht h
  exact⟨n,rfl,wf_i64 hw⟩
 val:=fun{W r base v} h=>by
  simp only[Value.okWide,ht,Cell.okWide]at h
  cases v<;>simp[Cell.ok,ht]at h ⊢<;>first | rfl | simp[Rep.agg,Value.cells]
theorem zJ{W:World}{a:Addr}{v:Value}(h:W.cell? a=Se v):a.spot=Sf/\∃c T fz,W.heap[a.block]? = Se (.cells c T fz)/\c[a.off]? = Se v:=by
 unfold World.cell? at h;split at h
 ·rename_i c T fz hb;split at h
  ·cases h
  rename_i hs;exact⟨by simpa using hs,c,T,fz,hb,h⟩
 cases h
theorem yr{W:World}{a:Addr}{n:Nat}{c:List Value}(hn:0<n)(h:W.cells? 0 a n=Se c):a.spot=Sf/\iN (vw W.heap) a c:=by
 obtain⟨_,hl,hc⟩:=World.cells?_some h;have h0:=hc 0 hn;have e0:a.add 0=a:=by simp[Addr.add]
 rw[e0,Pl R3]at h0;obtain⟨hs,arr,T,fz,hb,_⟩:=zJ h0;refine⟨hs,arr,T,fz,hs,hb,Q4 λi=>?_⟩;by_cases hi:i<n
 ·have h1:=hc i hi;rw[bS hs]at h1;simp only[World.cell?,hb]at h1;rw[PT,if_pos R3,P7];simpa using h1
 rw[Pk R9,Pk R3]
theorem wN {H:Type} {P:Program} {e:TypeId} : ∀{l:List (DataW H)} {d:DataW H},d∈l->∀b∈d.weights P e,b∈DataW.weightsAll P e l
 | x::l,d,hd,b,hb=>by
  rw[DataW.weightsAll,OD];rcases OO.1 hd with rfl | hd
  ·exact .inl hb
  exact .inr (wN hd b hb)
theorem IC{α:Type}[Rep α](ht:P.underlying t=Se (.slice e))(hc:P.cellsOf e=Rep.n α)(hby:1<=P.bytesOf e)(re:RT P e α):RT P t (List α) where
 cells:=fun{H enc W spare held fuel cs d ps} h hw=>by
  rcases DataW.trod_slice ht h with⟨rfl,_⟩ | ⟨a,len,cap,elems,rest,n,_,rfl,hx,_,hlc,hcm,hel,hget,_,_⟩
  ·exact⟨[],_,rfl,Sf,0,rfl,by simp,by simp,.inl rfl⟩
  ·simp only[PW]at hx
   obtain⟨rfl,_⟩:=hx
   have hwt : ∀b∈(DataW.slice (elems.map (·.1)) (rest.map (·.1))).weights P t,b<=reachBytes:=hw
   unfold DataW.weights at hwt
   rw[ht]at hwt
   simp only[OO,OD,PQ]at hwt
   have hlen:len<=140737488351232:=by
    have h1:=hwt _ (.inl rfl)
    have h2:elems.length*1<=(elems.length+rest.length)*P.bytesOf e:=QN R3 hby
    have h3:reachBytes=140737488351232:=rfl
    omega
   have hpos:=Rep.pos (α:=α)
   have each : ∀i,i<len->∃x:α,∃c,W.cells? 0 (a.add (i*Rep.n α)) (Rep.n α)=Se c/\Rep.rd (vw W.heap) c x:=by
    intro i hi
    have h1:=hget i hi
    rw[hc,Pl R3,OM]at h1
    obtain⟨c,hc1,hc2⟩:=h1
    obtain⟨x,hx⟩:=re.cells (d:=elems[i].1) (ps:=elems[i].2) hc2 λb hb=>hwt b (.inr (.inl (wN (PN.2 ⟨_,O5 R3,rfl⟩) b hb)))
    exact⟨x,c,hc1,hx⟩
   have key : ∀k,k<=len->∃l:List α,l.length=k/\∀(i:Nat) (hi:i<l.length),∃c,W.cells? 0 (a.add (i*Rep.n α)) (Rep.n α)=Se c/\Rep.rd (vw W.heap) c l[i]:=by
    intro k
    induction k with
    | zero=>exact λ_=>⟨[],rfl,λi hi=>by simp at hi⟩
    | succ k ih=>
     intro hk
     obtain⟨l,h1,h2⟩:=ih R3
     obtain⟨x,c,h3,h4⟩:=each k R3
     refine⟨l++[x],by simp[h1],λi hi=>?_⟩
     rcases Ov i l.length with hlt | hge
     ·rw[QS hlt];exact h2 i hlt
     ·have:i=k:=by simp at hi;omega
      subst this
      rw[QO hge]
      simp only[h1,Q2,P4]
      exact⟨c,h3,h4⟩
   obtain⟨l,h1,h2⟩:=key len (N8 _)
   refine⟨l,_,rfl,Se a,cap,by rw[h1],by omega,by omega,?_⟩
   rcases P8 len with h0 | h0
   ·left;exact OC R3
   ·right
    obtain⟨c,h3,_⟩:=h2 0 R3
    have e0:a.add (0*Rep.n α)=a:=by simp[Addr.add]
    rw[e0]at h3
    refine⟨a,rfl,(yr hpos h3).1,λi hi=>?_⟩
    obtain⟨c,h3,h4⟩:=h2 i hi
    exact⟨c,(yr hpos h3).2,h4⟩
 val:=fun{W r base v} h=>by
  simp only[Value.okWide,ht,Cell.okWide]at h
  cases v<;>simp[Cell.ok,ht]at h ⊢<;>first | rfl | simp[Rep.agg,Value.cells]
end
theorem H0{w w':World}(hs:Same w w')(hle:(vw w.heap).le (vw w'.heap)):Below w.heap.size w w':=
 ⟨hs.os,hs.tape,hs.output,hs.size,λk hk=>by have:=hle k w.heap[k] (OV hk);rw[OV hk];exact this⟩
theorem sn {H:Type} {enc:TypeId × Value->H} {P:Program} {W W':World} (hl:laidOutB P=Sj) (hb:Below W.heap.size W W') : ∀{ts:List TypeId} {vs:List Value} {ds:List (DataW H)} {ps:List MemPlace},
  (∀t∈ts,P.readableRec t=Sj/\t<P.types.size)->DataW.TrodAll enc P W 0 (λ_=>Sj) Sj ts vs ds ps->(∀x∈ps,x.block<W.heap.size)->DataW.TrodAll enc P W' 0 (λb=>decide (b<W.heap.size)) Sj ts vs ds ps
 | [],vs,ds,ps,_,h,_=>by obtain⟨rfl,rfl,rfl⟩:=trodAll_nil h;rfl
 | t::ts,vs,ds,ps,hr,h,hlt=>by obtain⟨v,vs',d,ds',p,q,rfl,rfl,rfl,h1,h2⟩:=trodAll_cons h;obtain⟨g1,g2⟩:=hr t (OJ ..);exact⟨p,q,Below.trod hl g1 g2 h1 hb λx hx=>hlt x (PJ _ hx),sn hl hb (λt ht=>hr t (OL _ ht)) h2 λx hx=>hlt x (PG _ hx),rfl⟩
theorem IK{H:Type}{enc:TypeId × Value->H}{P:Program}{fn:Func}{s:ChangeSpec}{W W':World}{args:Array Value}{ds gs:List (DataW H)}{before:List MemPlace}{fresh:Bool}{tb:TypeId}(hl:laidOutB P=Sj)(hr : ∀t∈fn.params.toList,P.readableRec t=Sj/\t<P.types.size)(hW:DataW.Whole enc P fn.params.toList s.vars Sk W args.toList ds gs before)(hv:s.vars=[])(hs:s.fn H (ds++gs)={ results:=[.lit (.bool Sj)],args:=ds })(hres:fn.resultTypes = #[tb])(htb:P.underlying tb=Se .bool)(hb:Below W.heap.size W W'):s.post enc P fn Sk fresh Sk Sk W args (.bool Sj) W':=by
 have hW0:=hW;obtain⟨p,q,hA,hV,rfl,_,_⟩:=hW;rw[hv]at hV;obtain⟨rfl,rfl⟩:=trodVars_none hV;have hlt : ∀x∈p,x.block<W.heap.size:=λx hx=>by simpa using hW0.lt x (PJ _ hx)
 refine⟨ds,[],p++[],[],p,[],hW0,?_,?_,?_,hb.frame _,λh=>by cases h⟩
 ·rw[hs,hres];exact trodAll_mk1 (shut_bool htb Sj)
 ·rw[hs];exact sn hl hb hr hA hlt
 rw[hv,hs];rfl
end Go.Lft
namespace Go.Proofs.YtnfiilgdjpdlkaaGreatDoor
open Go Go.Lft
theorem Tryz.own:ownKnob Tryz.prog.godebug=none:=by kernel_rfl
theorem Tryz.laidOut:laidOutB Sn=true:=by kernel_rfl
theorem rtI:RT Sn T.int Int:=Ly R1
theorem rtIs:RT Sn T.aP (List Int):=IC (e:=T.int) R1 R1 (of_decide_eq_true R1) rtI
end Go.Proofs.YtnfiilgdjpdlkaaGreatDoor
namespace Go.Lft
open Go Go.ChangeShapes Go.WideShapes Go.RowKit
theorem MC{H:Type}{enc:TypeId × Value->H}{P:Program}{a:Assume}{C:Checked}{os:Os}{f:FuncId}{fn:Func}{s:ChangeSpec}{conds:List PathCond}{fresh:Bool}{tb t1 t2 t3:TypeId}{α β γ:Type}[Rep α][Rep β][Rep γ]{X:World->Prop}{F:Heap->Prop}(hX : ∀w w':World,w.heap=w'.heap->X w->X w')(hF : ∀w,X w->F w.heap)(own:ownKnob C.prog.godebug=Sf)(started:os.Started)(noInit:C.prog.inits.idxOf? f=Sf)(hfn:C.prog.funcs[f]? = Se fn)(hP:C.prog=P)(witness : ∃(w:World) (tape:Tape) (i:Input),w.os=os/\(w.forCall tape i).Shaped C.prog/\i.vars=[]/\Input.okWide C.prog (w.forCall tape i) .any w.heap.size f i/\
   ((s.pre enc C.prog fn conds Sk (w.forCall tape i).memory i.args/\X (w.forCall tape i).memory)/\sizedMet enc C.prog fn (OpenSpec.ofChange s) Sk (w.forCall tape i).memory i.args)/\a.holds C.prog (lone (Frame.enter C.prog f i.args .normal) [] (w.forCall tape i)))(hl:laidOutB P=Sj)(hr : ∀t∈fn.params.toList,P.readableRec t=Sj/\t<P.types.size)(hv:s.vars=[])(hs : ∀ds,ds.length=3->s.fn H ds={ results:=[.lit (.bool Sj)],args:=ds })(hres:fn.resultTypes = #[tb])(htb:P.underlying tb=Se .bool)(hp:fn.params = #[t1,t2,t3])(r1:RT P t1 α)(r2:RT P t2 β)(r3:RT P t3 γ)(hcall : ∀(h:Heap) (v1:Value) (x1:α) (v2:Value) (x2:β) (v3:Value) (x3:γ),F h->Rd (vw h) v1 x1->Rd (vw h) v2 x2->Rd (vw h) v3 x3->aA P f #[v1,v2,v3] h (λv h'=>v = .bool Sj/\(vw h).le (vw h'))):
  ReturnsInHanded a C os f .any (λw args=>(s.pre enc C.prog fn conds Sk w args/\X w)/\sizedMet enc C.prog fn (OpenSpec.ofChange s) Sk w args) (s.post enc C.prog fn Sk fresh Sk Sk):=by
 subst hP;refine returnsInHanded_of_change_and (X:=λw _=>X w) (λw w' _ hh h=>hX w w' hh h) own started noInit hfn witness ?_;intro W base args ds gs before hval hW _ hwt hXW _;have hW0:=hW;obtain⟨p,q,hA,hV,_,_,_⟩:=hW;rw[hv]at hV;obtain⟨hgs,_⟩:=trodVars_none hV;rw[hp]at hA;obtain⟨v1,v2,v3,d1,d2,d3,p1,p2,p3,hargs,hds,_,h1,h2,h3⟩:=trodAll_three hA;have hlen:(ds++gs).length=3:=by rw[hds,hgs];rfl
 have e0:s.plain.varTypes C.prog=[]:=by simp[DataSpec.varTypes,ChangeSpec.plain,hv]
 rw[hgs,hds,hp,e0]at hwt;simp only[PO,O7,decide_eq_true_eq]at hwt;obtain⟨x1,q1⟩:=r1.arg h1 (hval 0 t1 v1 (by rw[hp];rfl) (by rw[hargs];rfl)) (λb hb=>hwt b (by simp[DataW.weightsEach,hb]));obtain⟨x2,q2⟩:=r2.arg h2 (hval 1 t2 v2 (by rw[hp];rfl) (by rw[hargs];rfl)) (λb hb=>hwt b (by simp[DataW.weightsEach,hb]));obtain⟨x3,q3⟩:=r3.arg h3 (hval 2 t3 v3 (by rw[hp];rfl) (by rw[hargs];rfl)) (λb hb=>hwt b (by simp[DataW.weightsEach,hb]));rw[hargs];refine(hcall W.heap v1 x1 v2 x2 v3 x3 (hF W hXW) q1 q2 q3 W rfl).mono ?_;rintro e W' ⟨v,rfl,⟨rfl,hle⟩,hsame⟩;rw[<-hargs];have hgs':ds++gs=ds:=by rw[hgs,PO]
 exact⟨_,rfl,IK hl hr hW0 hv (by rw[hs _ hlen,hgs']) hres htb (H0 hsame hle)⟩
end Go.Lft
namespace Go.Proofs.YtnfiilgdjpdlkaaGreatDoor
open Go Go.Lft
abbrev Gr:=List (List Int)
def oN (g:Gr) (a b:Int):Bool:=decide (0<=a/\a<g.length/\0<=b/\b<g.length)&&(nth g a.toNat).contains b
def my (g:Gr) (a:Int):List Int:=sift (λb=>oN g a b) (λb=>(b:Int)) g.length
def vF (g:Gr):Gr:=rows (λb=>sift (λa=>oN g a b) (λa=>(a:Int)) g.length) g.length
def xg (gone:Int) (l:List Int) (i:Nat) (out:List Bool):List Bool:=out.set (nth l i).toNat (nth out (nth l i).toNat||decide (nth l i≠gone))
def outBlock (g:Gr) (gone:Int) (a:Nat) (out:List Bool):List Bool:=if nth out a then up (xg gone (my g a)) (my g a).length out else out
def oX (g:Gr) (gone:Int) (out:List Bool):List Bool:=up (outBlock g gone) g.length out
def oT (g:Gr) (gone:Int):List Bool:=
 if g.length=0\/gone=0 then List.replicate g.length Sk else up (λ_=>oX g gone) g.length ((List.replicate g.length Sk).set 0 Sj)
theorem Ay{β γ:Type}(m:β->γ){f:Nat->β->β}(hf : ∀k x,m (f k x)=m x)(n:Nat)(x:β):m (up f n x)=m x:=by
 induction n with
 | zero=>rfl
 | succ n ih=>rw[up,hf,ih]
def domC (g:Gr) (a b:Nat):Bool:=nth (oT g (-1)) a&&nth (oT g (-1)) b&&(decide ((a:Int)=(b:Int))||!nth (oT g a) b)
def qS (l:List Int) (a:Int):Nat->Int->Bool
 | 0,_=>Sk
 | k+1,b=>if b=a then Sj else if b<0\/(l.length:Int)<=b then Sk else qS l a k (nth l b.toNat)
def eV (l:List Int) (a b:Int):Bool:=decide (0<=a/\a<l.length/\0<=b/\b<l.length)&&qS l a (l.length+1) b
def E1 (p:Nat->Bool) (b:Nat) (s:Bool):Bool:=s&&p b
def wj (p:Nat->Bool) (n:Nat):Bool:=up (E1 p) n Sj
theorem yB{p:Nat->Bool}{n:Nat}:wj p (n+1)=(wj p n&&p n):=rfl
theorem Dx{g:Gr}:(vF g).length=g.length:=by simp[vF]
def j9 (nx:Int->List Int):Nat->Int->List Bool × List Int->List Bool × List Int
 | 0,_,s=>s
 | n+1,a,s=>let r:=up (λi s=>if nth s.1 (nth (nx a) i).toNat then s else j9 nx n (nth (nx a) i) s) (nx a).length (s.1.set a.toNat Sj,s.2);(r.1,r.2++[a])
def dp (nx:Int->List Int) (n:Nat) (a:Int) (i:Nat) (s:List Bool × List Int):List Bool × List Int:=if nth s.1 (nth (nx a) i).toNat then s else j9 nx n (nth (nx a) i) s
theorem lz{nx:Int->List Int}{n:Nat}{a:Int}{s:List Bool × List Int}:
  j9 nx (n+1) a s=((up (dp nx n a) (nx a).length (s.1.set a.toNat Sj,s.2)).1,(up (dp nx n a) (nx a).length (s.1.set a.toNat Sj,s.2)).2++[a]):=rfl
def dN (t:List Bool):Nat:=t.count Sk
theorem jX{t:List Bool}{i:Nat}(hi:i<t.length)(hf:nth t i=Sk):dN (t.set i Sj)+1=dN t:=by rw[aB hi]at hf;unfold dN;rw[List.count_set hi];have hp:0<t.count false:=List.count_pos_iff.2 (hf▸O5 hi);simp[hf];omega
theorem y7{t:List Bool}{i:Nat}:dN (t.set i Sj)<=dN t:=by
 rcases Ov i t.length with hi | hi
 ·unfold dN;rw[List.count_set hi];simp
 rw[List.set_eq_of_length_le hi];exact N8 _
theorem vG{β:Type}(I:β->Prop){f:Nat->β->β}(hf : ∀k x,I x->I (f k x))(n:Nat)(x:β)(hx:I x):I (up f n x):=by
 induction n with
 | zero=>exact hx
 | succ n ih=>rw[up];exact hf _ _ ih
theorem qt {nx:Int->List Int} {m c:Nat} : ∀(n:Nat) (a:Int) (s:List Bool × List Int),s.1.length=m/\dN s.1<=c->(j9 nx n a s).1.length=m/\dN (j9 nx n a s).1<=c
 | 0,_,_,h=>h
 | n+1,a,s,h=>by
  rw[lz];refine vG (λs:List Bool × List Int=>s.1.length=m/\dN s.1<=c) (λk x hx=>?_) _ _ ⟨by simpa using h.1,OX y7 h.2⟩;unfold dp;split
  ·exact hx
  exact qt n _ x hx
def ma (nx:Int->List Int) (n:Nat):List Int:=if n=0 then[] else(j9 nx n 0 (List.replicate n Sk,[])).2.reverse
theorem mJ{α:Type}[Rep α]{W:View}{h:Heap}{e:TypeId}{v:Value}{l:List α}(o:OwnT W h e v l):v.cells = #[v]/\v.oneCell'=true:=by have:=o.len (K:=nothing);cases v<;>first | exact⟨rfl,rfl⟩ | (simp[Un.ev,vL]at this)
end Go.Proofs.YtnfiilgdjpdlkaaGreatDoor
namespace Go.Proofs.YtnfiilgdjpdlkaaGreatDoor
open Go Go.Lft
section
set_option maxRecDepth 100000
def q:List LC->LC|[]=>.skip|[a]=>a|a::b::l=>.seq a (q (b::l))
def k(K:List Nat)(S:List (Nat×E)):LC:=.reg Sk (.fin K S [])
def f(n c i:Nat)(K K2:List Nat)(e:E)(b:LC):LC:=.seq (.seq (.reg Sk (.fin K [(c,e)] [])) (.cond (.tmp c) [c] .skip (.exit n))) (.seq b (.reg Sk (.fin K2 [(i,.bin (.arith .add) (.tmp i) (.con (Sb Sc 1)))] [])))
def u(n:Nat)(x y:LC):LC:=.cond (.tmp n) [n] x y
def v(n:Nat)(x:LC):LC:=.block n (.loop x)
def l(K:List Nat)(S A:List (Nat×E))(o:Op)(y d:Nat)(r:Reg):Reg:=.loud K S A Sf [] Sk o y (Se d) Sj r
def s(K:List Nat)(S A:List (Nat×E))(o:Op)(r:Reg):Reg:=.loud K S A Sf [] Sk o 0 Sf Sk r
def p(A:List (Nat×E))(o:Op)(y d:Nat)(r:Reg):Reg:=.loud [] [] A Sf [] Sk o y (Se d) Sj r
def z:Reg:=.fin [] [] []
def w:List Nat->List (Nat×E)|[]=>[]|a::l=>(a,.tmp a)::w l
def t(n:Nat):E:=.tmp n
def c(n:Int):E:=.con (Sb Sc n)
def d(x:E):E:=.un .load x
def e(n:Nat)(x:E):E:=.un (.fld n) x
def g(n:Nat)(x:E):E:=.un .load (.un (.fld n) x)
def i(n:Nat)(x y:E):E:=.bin (.idx n) x y
def h(x:E):E:=.un .len x
def j(o:BinOp)(x y:E):E:=.bin (.cmp o) x y
def o(x y:E):E:=.bin (.arith .add) x y
def a(n:Nat):Operand:=.tmp n
def x(n:Nat)(A:List Nat)(T:List Nat):Op:=.call ⟨.value (.func n),(A.map .tmp).toArray,T.toArray⟩
theorem sh:(∀a,q [a]=a)/\(∀a b l,q (a::b::l)=.seq a (q (b::l)))/\(∀K S,k K S=.reg Sk (.fin K S []))/\(∀n c i K L e b,f n c i K L e b=.seq (.seq (.reg Sk (.fin K [(c,e)] [])) (.cond (.tmp c) [c] .skip (.exit n))) (.seq b (.reg Sk (.fin L [(i,.bin (.arith .add) (.tmp i) (.con (Sb Sc 1)))] []))))/\(∀n x y,u n x y=.cond (.tmp n) [n] x y)/\(∀n x,v n x=.block n (.loop x))/\(∀K S A o y d r,l K S A o y d r=.loud K S A Sf [] Sk o y (Se d) Sj r)/\(∀K S A o r,s K S A o r=.loud K S A Sf [] Sk o 0 Sf Sk r)/\(∀A o y d r,p A o y d r=.loud [] [] A Sf [] Sk o y (Se d) Sj r)/\(z=.fin [] [] [])/\(w []=[])/\(∀a l,w (a::l)=(a,.tmp a)::w l)/\(∀n,t n=.tmp n)/\(∀n,c n=.con (Sb Sc n))/\(∀x,d x=.un .load x)/\(∀n x,e n x=.un (.fld n) x)/\(∀n x,g n x=.un .load (.un (.fld n) x))/\(∀n x y,i n x y=.bin (.idx n) x y)/\(∀x,h x=.un .len x)/\(∀o x y,j o x y=.bin (.cmp o) x y)/\(∀m n,o m n=.bin (.arith .add) m n)/\(∀n,a n=.tmp n)/\(∀n A T,x n A T=.call ⟨.value (.func n),(A.map .tmp).toArray,T.toArray⟩)/\(∀(p:Nat->Operand) n l,List.map p (n::l)=p n::l.map p)/\(∀p:Nat->Operand,List.map p []=[]):=⟨λ_=>rfl,λ_ _ _=>rfl,λ_ _=>rfl,λ_ _ _ _ _ _ _=>rfl,λ_ _ _=>rfl,λ_ _=>rfl,λ_ _ _ _ _ _ _=>rfl,λ_ _ _ _ _=>rfl,λ_ _ _ _ _=>rfl,rfl,rfl,λ_ _=>rfl,λ_=>rfl,λ_=>rfl,λ_=>rfl,λ_ _=>rfl,λ_ _=>rfl,λ_ _ _=>rfl,λ_=>rfl,λ_ _ _=>rfl,λ_ _=>rfl,λ_=>rfl,λ_ _ _=>rfl,λ_ _ _=>rfl,λ_=>rfl⟩
set_option maxRecDepth 100000
set_option maxHeartbeats 4000000
def A.aZ:=lkA Tryz.f3
def B.aZ:=lkB Tryz.f3
def L.aZ.l3:LC:=lkL QP Tryz.f3 A.aZ B.aZ [1,1,1,0,1,0,0,1,0,0,1,0,0,1,0,0,1,0,0] lfc
def L.aZ.l2:LC:=lkL QP Tryz.f3 A.aZ B.aZ [1,1,1,0,1,0,0,1,0,0,1,0,0] (lfS lfc (lfS (lfB (lfS lfc (lfB (lfO L.aZ.l3)))) lfc))
def L.aZ.l1:LC:=lkL QP Tryz.f3 A.aZ B.aZ [1,1,1,0,1,0,0] (lfS lfc (lfS (lfB (lfS lfc (lfB (lfO L.aZ.l2)))) lfc))
def L.aZ:LFn:=lkG QP Tryz.f3 A.aZ B.aZ (lfS lfc (lfS lfc (lfS lfc (lfS (lfS lfc (lfB (lfO L.aZ.l1))) lfc))))
theorem E.aZ:aO Sn Tryz.f3=Se L.aZ:=R1
end
section
set_option maxRecDepth 100000
set_option maxHeartbeats 4000000
def A.gT:=lkA Tryz.f11
def B.gT:=lkB Tryz.f11
def L.gT:LFn:=lkG QP Tryz.f11 A.gT B.gT (lfS lfc (lfS lfc lfc))
theorem E.gT:aO Sn Tryz.f11=Se L.gT:=R1
def A.gu:=lkA Tryz.f12
def B.gu:=lkB Tryz.f12
def L.gu:LFn:=lkG QP Tryz.f12 A.gu B.gu (lfS lfc (lfS lfc (lfS lfc (lfS lfc (lfS lfc (lfS lfc (lfS lfc (lfS lfc (lfS lfc (lfS lfc (lfS lfc (lfS lfc (lfS lfc (lfS (lfS lfc (lfB (lfS lfc (lfK lfc (lfS lfc (lfK lfc (lfS lfc (lfK lfc (lfS lfc (lfK lfc (lfS lfc (lfK lfc (lfS lfc (lfK lfc (lfS lfc (lfK lfc lfc)))))))))))))))) lfc))))))))))))))
theorem E.gu:aO Sn Tryz.f12=Se L.gu:=R1
def L.pA:LFn:=lkF QP Tryz.f13
theorem E.pA:aO Sn Tryz.f13=Se L.pA:=R1
def L.oq:LFn:=lkF QP Tryz.f14
theorem E.oq:aO Sn Tryz.f14=Se L.oq:=R1
def L.pk:LFn:=lkF QP Tryz.f15
theorem E.pk:aO Sn Tryz.f15=Se L.pk:=R1
def L.rI:LFn:=lkF QP Tryz.f16
theorem E.rI:aO Sn Tryz.f16=Se L.rI:=R1
def A.dy:=lkA Tryz.f17
def B.dy:=lkB Tryz.f17
def L.dy.l1:LC:=lkL QP Tryz.f17 A.dy B.dy [1,1,0,1,0,0] lfc
def L.dy:LFn:=lkG QP Tryz.f17 A.dy B.dy (lfS lfc (lfS lfc (lfS (lfS lfc (lfB (lfO L.dy.l1))) lfc)))
theorem E.dy:aO Sn Tryz.f17=Se L.dy:=R1
def L.lL:LFn:=lkF QP Tryz.f18
theorem E.lL:aO Sn Tryz.f18=Se L.lL:=R1
def A.fq:=lkA Tryz.f19
def B.fq:=lkB Tryz.f19
def L.fq.l1:LC:=lkL QP Tryz.f19 A.fq B.fq [1,1,0,1,0,0] lfc
def L.fq:LFn:=lkG QP Tryz.f19 A.fq B.fq (lfS lfc (lfS lfc (lfS (lfS lfc (lfB (lfO L.fq.l1))) lfc)))
theorem E.fq:aO Sn Tryz.f19=Se L.fq:=R1
def L.rL:LFn:=lkF QP Tryz.f20
theorem E.rL:aO Sn Tryz.f20=Se L.rL:=R1
end
section
set_option maxRecDepth 100000
set_option maxHeartbeats 4000000
def A.iB:=lkA Tryz.f22
def B.iB:=lkB Tryz.f22
def L.iB.l1:LC:=lkL QP Tryz.f22 A.iB B.iB [1,1,0,1,0,0] lfc
def L.iB:LFn:=lkG QP Tryz.f22 A.iB B.iB (lfS lfc (lfS lfc (lfS (lfS lfc (lfB (lfO L.iB.l1))) lfc)))
theorem E.iB:aO Sn Tryz.f22=Se L.iB:=R1
def A.fo:=lkA Tryz.f23
def B.fo:=lkB Tryz.f23
def L.fo.l1:LC:=lkL QP Tryz.f23 A.fo B.fo [1,1,0,1,0,0] lfc
def L.fo:LFn:=lkG QP Tryz.f23 A.fo B.fo (lfS lfc (lfS lfc (lfS (lfS lfc (lfB (lfO L.fo.l1))) lfc)))
theorem E.fo:aO Sn Tryz.f23=Se L.fo:=R1
def L.lC:LFn:=lkF QP Tryz.f24
theorem E.lC:aO Sn Tryz.f24=Se L.lC:=R1
def A.bz:=lkA Tryz.f26
def B.bz:=lkB Tryz.f26
def L.bz.l1:LC:=lkL QP Tryz.f26 A.bz B.bz [1,1,1,1,0,1,0,0] lfc
def L.bz.l3:LC:=lkL QP Tryz.f26 A.bz B.bz [1,1,1,1,1,1,0,1,0,0,1,1,0,0,1,1,0,0] lfc
def L.bz.l2:LC:=lkL QP Tryz.f26 A.bz B.bz [1,1,1,1,1,1,0,1,0,0] (lfS lfc (lfS lfc (lfS (lfB (lfS lfc (lfS lfc (lfB (lfO L.bz.l3))))) lfc)))
def L.bz.l5:LC:=lkL QP Tryz.f26 A.bz B.bz [1,1,1,1,1,1,1,1,1,0,1,0,0,1,1,0,0,1,1,0,0] lfc
def L.bz.l4:LC:=lkL QP Tryz.f26 A.bz B.bz [1,1,1,1,1,1,1,1,1,0,1,0,0] (lfS lfc (lfS lfc (lfS (lfB (lfS lfc (lfS lfc (lfB (lfO L.bz.l5))))) lfc)))
def L.bz:LFn:=lkG QP Tryz.f26 A.bz B.bz (lfS lfc (lfS lfc (lfS lfc (lfS lfc (lfS (lfS lfc (lfB (lfO L.bz.l1))) (lfS lfc (lfS (lfS lfc (lfB (lfO L.bz.l2))) (lfS lfc (lfS lfc (lfS (lfS lfc (lfB (lfO L.bz.l4))) lfc))))))))))
theorem E.bz:aO Sn Tryz.f26=Se L.bz:=R1
def L.oz:LFn:=lkF QP Tryz.f27
theorem E.oz:aO Sn Tryz.f27=Se L.oz:=R1
def L.kP:LFn:=lkF QP Tryz.f28
theorem E.kP:aO Sn Tryz.f28=Se L.kP:=R1
def L.rE:LFn:=lkF QP Tryz.f33
theorem E.rE:aO Sn Tryz.f33=Se L.rE:=R1
def L.jn:LFn:=lkF QP Tryz.f34
theorem E.jn:aO Sn Tryz.f34=Se L.jn:=R1
end
section
set_option maxRecDepth 100000
set_option maxHeartbeats 4000000
def A.aw:=lkA Tryz.f35
def B.aw:=lkB Tryz.f35
def L.aw.l1:LC:=lkL QP Tryz.f35 A.aw B.aw [1,1,1,1,1,1,1,0,1,0,0] lfc
def L.aw.l3:LC:=lkL QP Tryz.f35 A.aw B.aw [1,1,1,1,1,1,1,1,1,0,1,0,0,1,0,0,1,1,1,0,0] lfc
def L.aw.l2:LC:=lkL QP Tryz.f35 A.aw B.aw [1,1,1,1,1,1,1,1,1,0,1,0,0] (lfS lfc (lfS (lfB (lfS lfc (lfS lfc (lfS lfc (lfB (lfO L.aw.l3)))))) lfc))
def L.aw.l6:LC:=lkL QP Tryz.f35 A.aw B.aw [1,1,1,1,1,1,1,1,1,1,1,0,1,0,0,1,0,0,1,0,0,1,0,0,1,1,0,1,0,0] lfc
def L.aw.l7:LC:=lkL QP Tryz.f35 A.aw B.aw [1,1,1,1,1,1,1,1,1,1,1,0,1,0,0,1,0,0,1,0,0,1,0,0,1,1,1,0,1,0,0] lfc
def L.aw.l8:LC:=lkL QP Tryz.f35 A.aw B.aw [1,1,1,1,1,1,1,1,1,1,1,0,1,0,0,1,0,0,1,0,0,1,0,0,1,1,1,1,1,1,1,0,1,0,0] lfc
def L.aw.l10:LC:=lkL QP Tryz.f35 A.aw B.aw [1,1,1,1,1,1,1,1,1,1,1,0,1,0,0,1,0,0,1,0,0,1,0,0,1,1,1,1,1,1,1,1,0,1,0,0,1,0,0,1,0,1,0,0] lfc
def L.aw.l11:LC:=lkL QP Tryz.f35 A.aw B.aw [1,1,1,1,1,1,1,1,1,1,1,0,1,0,0,1,0,0,1,0,0,1,0,0,1,1,1,1,1,1,1,1,0,1,0,0,1,0,0,1,1,1,0,0] lfc
def L.aw.l9:LC:=lkL QP Tryz.f35 A.aw B.aw [1,1,1,1,1,1,1,1,1,1,1,0,1,0,0,1,0,0,1,0,0,1,0,0,1,1,1,1,1,1,1,1,0,1,0,0] (lfS lfc (lfS (lfB (lfS lfc (lfS (lfS lfc (lfB (lfO L.aw.l10))) (lfS lfc (lfB (lfO L.aw.l11)))))) lfc))
def L.aw.l12:LC:=lkL QP Tryz.f35 A.aw B.aw [1,1,1,1,1,1,1,1,1,1,1,0,1,0,0,1,0,0,1,0,0,1,0,0,1,1,1,1,1,1,1,1,1,1,0,1,0,0] lfc
def L.aw.l5:LC:=lkL QP Tryz.f35 A.aw B.aw [1,1,1,1,1,1,1,1,1,1,1,0,1,0,0,1,0,0,1,0,0] (lfS lfc (lfS (lfB (lfS lfc (lfS lfc (lfS (lfS lfc (lfB (lfO L.aw.l6))) (lfS (lfS lfc (lfB (lfO L.aw.l7))) (lfS lfc (lfS lfc (lfS lfc (lfS (lfS lfc (lfB (lfO L.aw.l8))) (lfS (lfS lfc (lfB (lfO L.aw.l9))) (lfS lfc (lfS (lfS lfc (lfB (lfO L.aw.l12))) lfc)))))))))))) lfc))
def L.aw.l4:LC:=lkL QP Tryz.f35 A.aw B.aw [1,1,1,1,1,1,1,1,1,1,1,0,1,0,0] (lfS lfc (lfS (lfB (lfS lfc (lfB (lfO L.aw.l5)))) lfc))
def L.aw.l15:LC:=lkL QP Tryz.f35 A.aw B.aw [1,1,1,1,1,1,1,1,1,1,1,1,0,1,0,0,1,0,0,1,1,0,0,1,0,0,1,0,1,0,0] lfc
def L.aw.l14:LC:=lkL QP Tryz.f35 A.aw B.aw [1,1,1,1,1,1,1,1,1,1,1,1,0,1,0,0,1,0,0,1,1,0,0] (lfS lfc (lfS (lfB (lfS lfc (lfS (lfS lfc (lfB (lfO L.aw.l15))) lfc))) lfc))
def L.aw.l13:LC:=lkL QP Tryz.f35 A.aw B.aw [1,1,1,1,1,1,1,1,1,1,1,1,0,1,0,0] (lfS lfc (lfS (lfB (lfS lfc (lfS lfc (lfB (lfO L.aw.l14))))) lfc))
def L.aw:LFn:=lkG QP Tryz.f35 A.aw B.aw (lfS lfc (lfS lfc (lfS lfc (lfS lfc (lfS lfc (lfS lfc (lfS lfc (lfS (lfS lfc (lfB (lfO L.aw.l1))) (lfS lfc (lfS (lfS lfc (lfB (lfO L.aw.l2))) (lfS lfc (lfS (lfS lfc (lfB (lfO L.aw.l4))) (lfS (lfS lfc (lfB (lfO L.aw.l13))) lfc)))))))))))))
theorem E.aw:aO Sn Tryz.f35=Se L.aw:=R1
def L.nZ:LFn:=lkF QP Tryz.f36
theorem E.nZ:aO Sn Tryz.f36=Se L.nZ:=R1
def L.tx:LFn:=lkF QP Tryz.f37
theorem E.tx:aO Sn Tryz.f37=Se L.tx:=R1
def L.xl:LFn:=lkF QP Tryz.f38
theorem E.xl:aO Sn Tryz.f38=Se L.xl:=R1
def L.lJ:LFn:=lkF QP Tryz.f39
theorem E.lJ:aO Sn Tryz.f39=Se L.lJ:=R1
def L.kr:LFn:=lkF QP Tryz.f40
theorem E.kr:aO Sn Tryz.f40=Se L.kr:=R1
def A.strings_Fields:=lkA Tryz.f41
def B.strings_Fields:=lkB Tryz.f41
def L.oe:LFn:=lkF QP Tryz.f42
theorem E.oe:aO Sn Tryz.f42=Se L.oe:=R1
def A.cQ:=lkA Tryz.f43
def B.cQ:=lkB Tryz.f43
def L.cQ.l2:LC:=lkL QP Tryz.f43 A.cQ B.cQ [1,1,0,1,0,0,1,1,0,1,1,0,1,0,0] lfc
def L.cQ.l1:LC:=lkL QP Tryz.f43 A.cQ B.cQ [1,1,0,1,0,0] (lfS lfc (lfS lfc (lfB (lfS lfc (lfS lfc (lfS (lfS lfc (lfB (lfO L.cQ.l2))) lfc))))))
def L.cQ:LFn:=lkG QP Tryz.f43 A.cQ B.cQ (lfS lfc (lfS lfc (lfS (lfS lfc (lfB (lfO L.cQ.l1))) lfc)))
theorem E.cQ:aO Sn Tryz.f43=Se L.cQ:=R1
def R.nw:List E:=[.un .load (.tmp 2),.un .load (.tmp 3),.un .load (.tmp 4)]

def L.lI:LC:=by apply(fun{b:LC}(_:b=.reg Sk (p (w [0]) (.box 27 (a 0)) 0 1 (p [] (.alloc 57) 0 2 (p [] (.alloc 3) 0 3 (p [] (.alloc 3) 0 4 z)))))=>b);simp only[sh];rfl
theorem E.lI:eM Sn Tryz.f44.ntmps (iR Tryz.f44) (CF Tryz.f44) Sk (AH Tryz.f44)=Se L.lI:=R1
def L.iC.l1:LC:=by apply(fun{b:LC}(_:b=q [k [26] [(26,j .lss (t 25) (t 24))],u 26 .skip (.exit 0),.block 1 (q [.reg Sk (l [27,28] [(28,.un (.aT 6) (i 6 (t 23) (t 25)))] [] (.alloc 35) 0 7 (s [] [] (w [7,28]) (.store 35 (a 7) (a 28)) z)),k [29,30,31,32,33,34,35,36,37,5] [(5,o (t 5) (o (h (g 0 (t 7))) (h (g 1 (t 7)))))]]),k [38,25] [(25,o (t 25) (c 1))]])=>b);simp only[sh];rfl
def L.iC:LC:=by apply(fun{b:LC}(_:b=q [.reg Sk (l [10,11] [] [(11,g 0 (t 1))] (.call ⟨.value (.func 69),#[a 11,.const (Sb Sc 0),.const (Sb Sc 4)],#[3,3,3]⟩) 4 12 (.loud [] [] (w [12]) Sf [] Sk (.call ⟨.value (.func 68),#[a 12,.const (Sb Sc 1),.const (Sb Sc 0),.const (Sb Sc 0)],#[4,57,3,3]⟩) 0 (Se 13) Sk z)),.reg Sk (.loud [14,15,16,17] [] [(17,j .gtr (h (g 1 (t 1))) (c 0))] Sf [] Sk (.call ⟨.value (.func 68),#[a 17,.const (Sb Sc 14),.const (Sb Sc 0),.const (Sb Sc 0)],#[4,57,3,3]⟩) 0 (Se 18) Sk z),k [19,20,21,5] [(5,h (g 1 (t 1)))],q [k [22,23,24,25] [(23,g 1 (t 1)),(24,h (g 1 (t 1))),(25,c 0)],v 0 L.iC.l1],.reg Sk (.loud [39,40,41,42,43,44,45,46] [] [(46,.ite (j .leq (h (g 1 (t 1))) (c 512)) (j .leq (t 5) (c 4096)) (.con (.bool Sk)))] Sf [] Sk (.call ⟨.value (.func 68),#[a 46,.const (Sb Sc 2),.const (Sb Sc 0),.const (Sb Sc 0)],#[4,57,3,3]⟩) 0 (Se 47) Sk z),.reg Sk (l [48] [(48,.un (.aT 2) (t 1))] [] (.makeMap 147 Sf) 147 49 (p (w [48,49]) (.build 149 #[(0,a 48),(1,a 49)]) 149 50 (p (w [50]) (.box 149 (a 50)) 146 51 (.fin [8] [(8,t 51)] [])))),.reg Sk (.loud [52] [] [(52,t 8)] Sf [] Sk (x 70 [52] [146]) 0 (Se 53) Sk z),.reg Sk (.loud [54] [] [(54,t 8)] Sf [] Sk (x 71 [54] [146]) 0 (Se 55) Sk z),.reg Sk (s [] [] (w [2]) (.store 57 (a 2) (.const (Sb Sc 0))) (s [] [] (w [3]) (.store 3 (a 3) (.const (Sb Sc 0))) (s [] [] (w [4]) (.store 3 (a 4) (.const (Sb Sc 0))) z))),.ret])=>b);simp only[sh];rfl
theorem E.iC:eM Sn Tryz.f44.ntmps (iR Tryz.f44) (CF Tryz.f44) Sk (GR Tryz.f44)=Se L.iC:=R1
theorem R.yP:Tryz.f44.results.toList.mapM (resE Sn)=Se R.nw:=by kernel_rfl
theorem B.nw:Tryz.f44.body=Se (.seq (AH Tryz.f44) (.seq (.region (KF (KE Tryz.f44)) #[Kv Tryz.f44 0,Kv Tryz.f44 1] Sk) (GR Tryz.f44))):=by kernel_rfl
def A.bE:=lkA Tryz.f45
def B.bE:=lkB Tryz.f45
def L.bE.l3:LC:=lkL QP Tryz.f45 A.bE B.bE [1,1,0,0,1,1,0,0,1,0,1,0,0,1,1,0,0,1,1,0,1,0,0] lfc
def L.bE.l2:LC:=lkL QP Tryz.f45 A.bE B.bE [1,1,0,0,1,1,0,0,1,0,1,0,0] (lfS lfc (lfS lfc (lfS (lfB (lfS lfc (lfS lfc (lfS (lfS lfc (lfB (lfO L.bE.l3))) lfc)))) lfc)))
def L.bE.l4:LC:=lkL QP Tryz.f45 A.bE B.bE [1,1,0,0,1,1,0,0,1,1,0,1,0,0] lfc
def L.bE.l1:LC:=lkL QP Tryz.f45 A.bE B.bE [1,1,0,0] (lfS lfc (lfS lfc (lfS (lfB (lfS lfc (lfS (lfS lfc (lfB (lfO L.bE.l2))) (lfS (lfS lfc (lfB (lfO L.bE.l4))) lfc)))) lfc)))
def L.bE:LFn:=lkG QP Tryz.f45 A.bE B.bE (lfS lfc (lfS lfc (lfB (lfO L.bE.l1))))
theorem E.bE:aO Sn Tryz.f45=Se L.bE:=R1
end
section
set_option maxRecDepth 100000
set_option maxHeartbeats 4000000
def A.bL:=lkA Tryz.f46
def B.bL:=lkB Tryz.f46
def L.bL.l1:LC:=lkL QP Tryz.f46 A.bL B.bL [0,1,0,0] lfc
def L.bL.l2:LC:=lkL QP Tryz.f46 A.bL B.bL [1,1,0,0] lfc
def L.bL:LFn:=lkG QP Tryz.f46 A.bL B.bL (lfS (lfS lfc (lfB (lfO L.bL.l1))) (lfS lfc (lfB (lfO L.bL.l2))))
theorem E.bL:aO Sn Tryz.f46=Se L.bL:=R1
def L.slices_Contains_int:LFn:=lkF QP Tryz.f47
theorem E.slices_Contains_int:aO Sn Tryz.f47=Se L.slices_Contains_int:=R1
def A.aQ:=lkA Tryz.f50
def B.aQ:=lkB Tryz.f50
def L.aQ.l1:LC:=lkL QP Tryz.f50 A.aQ B.aQ [1,1,0,1,0,0] lfc
def L.aQ.l3:LC:=lkL QP Tryz.f50 A.aQ B.aQ [1,1,1,0,1,0,0,1,0,0,1,1,0,0] lfc
def L.aQ.l2:LC:=lkL QP Tryz.f50 A.aQ B.aQ [1,1,1,0,1,0,0] (lfS lfc (lfS (lfB (lfS lfc (lfS lfc (lfB (lfO L.aQ.l3))))) lfc))
def L.aQ:LFn:=lkG QP Tryz.f50 A.aQ B.aQ (lfS lfc (lfS lfc (lfS (lfS lfc (lfB (lfO L.aQ.l1))) (lfS (lfS lfc (lfB (lfO L.aQ.l2))) lfc))))
theorem E.aQ:aO Sn Tryz.f50=Se L.aQ:=R1
def A.dD:=lkA Tryz.f51
def B.dD:=lkB Tryz.f51
def L.dD.l2:LC:=lkL QP Tryz.f51 A.dD B.dD [1,1,0,1,0,0,1,0,0,1,1,0,0] lfc
def L.dD.l1:LC:=lkL QP Tryz.f51 A.dD B.dD [1,1,0,1,0,0] (lfS lfc (lfS (lfB (lfS lfc (lfS lfc (lfB (lfO L.dD.l2))))) lfc))
def L.dD:LFn:=lkG QP Tryz.f51 A.dD B.dD (lfS lfc (lfS lfc (lfS (lfS lfc (lfB (lfO L.dD.l1))) lfc)))
theorem E.dD:aO Sn Tryz.f51=Se L.dD:=R1
def L.iO:LFn:=lkF QP Tryz.f52
theorem E.iO:aO Sn Tryz.f52=Se L.iO:=R1
def A.cB:=lkA Tryz.f53
def B.cB:=lkB Tryz.f53
def L.cB.l2:LC:=lkL QP Tryz.f53 A.cB B.cB [1,1,1,1,0,1,0,0,1,0,0,1,1,0,0] lfc
def L.cB.l1:LC:=lkL QP Tryz.f53 A.cB B.cB [1,1,1,1,0,1,0,0] (lfS lfc (lfS (lfB (lfS lfc (lfS lfc (lfB (lfO L.cB.l2))))) lfc))
def L.cB:LFn:=lkG QP Tryz.f53 A.cB B.cB (lfS lfc (lfS lfc (lfS lfc (lfS lfc (lfS (lfS lfc (lfB (lfO L.cB.l1))) lfc)))))
theorem E.cB:aO Sn Tryz.f53=Se L.cB:=R1
def L.od:LFn:=lkF QP Tryz.f54
theorem E.od:aO Sn Tryz.f54=Se L.od:=R1
def A.bu:=lkA Tryz.f55
def B.bu:=lkB Tryz.f55
def L.bu.l1:LC:=lkL QP Tryz.f55 A.bu B.bu [1,0,1,1,1,1,1,1,1,1,1,0,1,1,0,1,0,0] lfc
def L.bu:LFn:=lkG QP Tryz.f55 A.bu B.bu (lfS lfc (lfB (lfS lfc (lfK lfc (lfS lfc (lfK lfc (lfS lfc (lfK lfc (lfS lfc (lfK lfc (lfS lfc (lfK (lfS lfc (lfS lfc (lfS (lfS lfc (lfB (lfO L.bu.l1))) lfc))) lfc))))))))))))
theorem E.bu:aO Sn Tryz.f55=Se L.bu:=R1
def L.jN:LFn:=lkF QP Tryz.f56
theorem E.jN:aO Sn Tryz.f56=Se L.jN:=R1
def A.cw:=lkA Tryz.f57
def B.cw:=lkB Tryz.f57
def L.cw.l1:LC:=lkL QP Tryz.f57 A.cw B.cw [1,1,0,1,0,0] lfc
def L.cw.l2:LC:=lkL QP Tryz.f57 A.cw B.cw [1,1,1,1,0,1,0,0] lfc
def L.cw:LFn:=lkG QP Tryz.f57 A.cw B.cw (lfS lfc (lfS lfc (lfS (lfS lfc (lfB (lfO L.cw.l1))) (lfS lfc (lfS (lfS lfc (lfB (lfO L.cw.l2))) lfc)))))
theorem E.cw:aO Sn Tryz.f57=Se L.cw:=R1
def L.gm:LFn:=lkF QP Tryz.f58
theorem E.gm:aO Sn Tryz.f58=Se L.gm:=R1
def L.jh:LFn:=lkF QP Tryz.f59
theorem E.jh:aO Sn Tryz.f59=Se L.jh:=R1
end
section
set_option maxRecDepth 100000
set_option maxHeartbeats 4000000
def A.bf:=lkA Tryz.f60
def B.bf:=lkB Tryz.f60
def L.bf.l1:LC:=lkL QP Tryz.f60 A.bf B.bf [1,1,1,1,0,1,0,0] lfc
def L.bf.l2:LC:=lkL QP Tryz.f60 A.bf B.bf [1,1,1,1,1,1,1,1,1,1,0,1,0,0] lfc
def L.bf.l3:LC:=lkL QP Tryz.f60 A.bf B.bf [1,1,1,1,1,1,1,1,1,1,1,0,1,0,0] lfc
def L.bf.l5:LC:=lkL QP Tryz.f60 A.bf B.bf [1,1,1,1,1,1,1,1,1,1,1,1,1,1,0,1,0,0,1,0,0,1,1,0,1,0,0,1,0,0] lfc
def L.bf.l6:LC:=lkL QP Tryz.f60 A.bf B.bf [1,1,1,1,1,1,1,1,1,1,1,1,1,1,0,1,0,0,1,0,0,1,1,1,1,1,1,0,1,0,0] lfc
def L.bf.l7:LC:=lkL QP Tryz.f60 A.bf B.bf [1,1,1,1,1,1,1,1,1,1,1,1,1,1,0,1,0,0,1,0,0,1,1,1,1,1,1,1,1,1,0,0] lfc
def L.bf.l4:LC:=lkL QP Tryz.f60 A.bf B.bf [1,1,1,1,1,1,1,1,1,1,1,1,1,1,0,1,0,0] (lfS lfc (lfS (lfB (lfS lfc (lfS lfc (lfS (lfS lfc (lfK (lfS (lfS lfc (lfB (lfO L.bf.l5))) lfc) lfc)) (lfS lfc (lfS lfc (lfS lfc (lfS (lfS lfc (lfB (lfO L.bf.l6))) (lfS lfc (lfS lfc (lfB (lfO L.bf.l7)))))))))))) lfc))
def L.bf:LFn:=lkG QP Tryz.f60 A.bf B.bf (lfS lfc (lfS lfc (lfS lfc (lfS lfc (lfS (lfS lfc (lfB (lfO L.bf.l1))) (lfS lfc (lfS lfc (lfS lfc (lfS lfc (lfS lfc (lfS (lfS lfc (lfB (lfO L.bf.l2))) (lfS (lfS lfc (lfB (lfO L.bf.l3))) (lfS lfc (lfS lfc (lfS (lfS lfc (lfB (lfO L.bf.l4))) lfc)))))))))))))))
theorem E.bf:aO Sn Tryz.f60=Se L.bf:=R1
def L.pz:LFn:=lkF QP Tryz.f61
theorem E.pz:aO Sn Tryz.f61=Se L.pz:=R1
def A.dX:=lkA Tryz.f62
def B.dX:=lkB Tryz.f62
def L.dX:LFn:=lkG QP Tryz.f62 A.dX B.dX (lfS lfc (lfS lfc (lfS lfc (lfS lfc (lfS (lfB (lfS lfc (lfK lfc (lfS lfc (lfK lfc (lfS lfc (lfK lfc lfc))))))) lfc)))))
theorem E.dX:aO Sn Tryz.f62=Se L.dX:=R1
def A.fH:=lkA Tryz.f63
def B.fH:=lkB Tryz.f63
def L.fH:LFn:=lkG QP Tryz.f63 A.fH B.fH (lfS lfc (lfS lfc (lfS lfc (lfS (lfB (lfS lfc (lfK lfc (lfS lfc (lfK lfc (lfS lfc lfc)))))) lfc))))
theorem E.fH:aO Sn Tryz.f63=Se L.fH:=R1
end
section
set_option maxRecDepth 100000
set_option maxHeartbeats 4000000
def A.bn:=lkA Tryz.f64
def B.bn:=lkB Tryz.f64
def L.bn.l1:LC:=lkL QP Tryz.f64 A.bn B.bn [1,1,1,1,1,1,1,0,1,0,0] lfc
def L.bn.l2:LC:=lkL QP Tryz.f64 A.bn B.bn [1,1,1,1,1,1,1,1,1,1,1,1,0,1,0,0] lfc
def L.bn:LFn:=lkG QP Tryz.f64 A.bn B.bn (lfS lfc (lfS lfc (lfS lfc (lfS lfc (lfS lfc (lfS lfc (lfS lfc (lfS (lfS lfc (lfB (lfO L.bn.l1))) (lfS lfc (lfS lfc (lfS lfc (lfS lfc (lfS (lfS lfc (lfB (lfO L.bn.l2))) lfc)))))))))))))
theorem E.bn:aO Sn Tryz.f64=Se L.bn:=R1
def L.fS:LFn:=by apply(fun{b:LFn}(_:b=⟨[],q [.reg Sk (p [] (.call ⟨.builtin .recover,#[],#[]⟩) 20 6 z),.block 0 (q [.reg Sk (p (w [6]) (.binOp .eql 20 (a 6) (.const .nilIface) 20) 4 8 z),u 8 (.reg Sk (.fin [3] [] [t 6])) (q [.reg Sk (p (w [6]) (.typeAssert (a 6) 20 144 Sj) 0 9 (.fin [10,11] [(10,.un (.ext 1) (t 9)),(11,.un (.ext 0) (t 9))] [])),u 10 (q [.reg Sk (p [] (.alloc 144) 0 4 (s [] [] (w [4,11]) (.store 144 (a 4) (a 11)) z)),.reg Sj (s [12,13,14,15,16,17] [(15,g 1 (t 4)),(17,g 2 (t 4))] [(0,t 0),(13,g 0 (t 4))] (.store 57 (a 0) (a 13)) (s [] [] (w [1,15]) (.store 3 (a 1) (a 15)) (.loud [] [] (w [2,17]) Sf [] Sj (.store 3 (a 2) (a 17)) 0 Sf Sk z)))]) (q [k [5] [(5,t 6)],.reg Sk (s [7] [] [(7,t 5)] (.panic (a 7)) z)])])])]⟩)=>b);simp only[sh];rfl
theorem Q.fS:Tryz.f67.body=Se (.seq (.region (KF (AH Tryz.f67)) #[Mc Tryz.f67 0] Sk) (K1 Tryz.f67)):=by kernel_rfl
theorem E.qT:eM Sn Tryz.f67.ntmps (iR Tryz.f67) (CF Tryz.f67) Sk (K1 Tryz.f67)=Se L.fS.body.tail:=R1
def L.nG:LFn:=lkF QP Tryz.f68
theorem E.nG:aO Sn Tryz.f68=Se L.nG:=R1
def L.mP:LFn:=lkF QP Tryz.f69
theorem E.mP:aO Sn Tryz.f69=Se L.mP:=R1
def A.aN:=lkA Tryz.f70
def B.aN:=lkB Tryz.f70
def L.aN.l2:LC:=lkL QP Tryz.f70 A.aN B.aN [1,0,0,1,1,0,0,1,0,1,0,0] lfc
def L.aN.l3:LC:=lkL QP Tryz.f70 A.aN B.aN [1,0,0,1,1,0,0,1,1,0,1,0,0] lfc
def L.aN.l4:LC:=lkL QP Tryz.f70 A.aN B.aN [1,0,0,1,1,0,0,1,1,1,1,1,1,0,0] lfc
def L.aN.l1:LC:=lkL QP Tryz.f70 A.aN B.aN [1,0,0] (lfS lfc (lfS lfc (lfS (lfB (lfS lfc (lfS (lfS lfc (lfB (lfO L.aN.l2))) (lfS (lfS lfc (lfB (lfO L.aN.l3))) (lfS lfc (lfS lfc (lfS lfc (lfB (lfO L.aN.l4))))))))) lfc)))
def L.aN:LFn:=lkG QP Tryz.f70 A.aN B.aN (lfS lfc (lfB (lfO L.aN.l1)))
theorem E.aN:aO Sn Tryz.f70=Se L.aN:=R1
def A.az:=lkA Tryz.f71
def B.az:=lkB Tryz.f71
def L.az.l1:LC:=lkL QP Tryz.f71 A.az B.az [1,1,1,0,1,0,0] lfc
def L.az.l4:LC:=lkL QP Tryz.f71 A.az B.az [1,1,1,1,1,1,1,0,0,1,1,0,0,1,0,1,0,0,1,1,0,0,1,1,0,1,0,0] lfc
def L.az.l5:LC:=lkL QP Tryz.f71 A.az B.az [1,1,1,1,1,1,1,0,0,1,1,0,0,1,0,1,0,0,1,1,0,0,1,1,1,1,1,0,0] lfc
def L.az.l3:LC:=lkL QP Tryz.f71 A.az B.az [1,1,1,1,1,1,1,0,0,1,1,0,0,1,0,1,0,0] (lfS lfc (lfS lfc (lfS (lfB (lfS lfc (lfS lfc (lfS (lfS lfc (lfB (lfO L.az.l4))) (lfS lfc (lfS lfc (lfB (lfO L.az.l5)))))))) lfc)))
def L.az.l7:LC:=lkL QP Tryz.f71 A.az B.az [1,1,1,1,1,1,1,0,0,1,1,0,0,1,1,0,1,0,0,1,1,0,0,1,1,0,0] lfc
def L.az.l6:LC:=lkL QP Tryz.f71 A.az B.az [1,1,1,1,1,1,1,0,0,1,1,0,0,1,1,0,1,0,0] (lfS lfc (lfS lfc (lfS (lfB (lfS lfc (lfS lfc (lfB (lfO L.az.l7))))) lfc)))
def L.az.l8:LC:=lkL QP Tryz.f71 A.az B.az [1,1,1,1,1,1,1,0,0,1,1,0,0,1,1,1,1,0,0] lfc
def L.az.l2:LC:=lkL QP Tryz.f71 A.az B.az [1,1,1,1,1,1,1,0,0] (lfS lfc (lfS lfc (lfS (lfB (lfS lfc (lfS (lfS lfc (lfB (lfO L.az.l3))) (lfS (lfS lfc (lfB (lfO L.az.l6))) (lfS lfc (lfB (lfO L.az.l8))))))) lfc)))
def L.az:LFn:=lkG QP Tryz.f71 A.az B.az (lfS lfc (lfS lfc (lfS lfc (lfS (lfS lfc (lfB (lfO L.az.l1))) (lfS lfc (lfS lfc (lfS lfc (lfB (lfO L.az.l2)))))))))
theorem E.az:aO Sn Tryz.f71=Se L.az:=R1
def L.oc:LFn:=lkF QP Tryz.f72
theorem E.oc:aO Sn Tryz.f72=Se L.oc:=R1
def A.slices_Index_int:=lkA Tryz.f73
def B.slices_Index_int:=lkB Tryz.f73
def L.slices_Index_int.l1:LC:=lkL QP Tryz.f73 A.slices_Index_int B.slices_Index_int [1,0,1,0,0] lfc
def L.slices_Index_int:LFn:=lkG QP Tryz.f73 A.slices_Index_int B.slices_Index_int (lfS lfc (lfS (lfS lfc (lfB (lfO L.slices_Index_int.l1))) lfc))
theorem E.slices_Index_int:aO Sn Tryz.f73=Se L.slices_Index_int:=R1
def L.js:LFn:=lkF QP Tryz.f88
theorem E.js:aO Sn Tryz.f88=Se L.js:=R1
def L.jL:LFn:=lkF QP Tryz.f89
theorem E.jL:aO Sn Tryz.f89=Se L.jL:=R1
def L.ia:LFn:=lkF QP Tryz.f90
theorem E.ia:aO Sn Tryz.f90=Se L.ia:=R1
end
section
set_option maxRecDepth 100000
set_option maxHeartbeats 4000000
def A.bF:=lkA Tryz.f91
def B.bF:=lkB Tryz.f91
def L.bF.l3:LC:=lkL QP Tryz.f91 A.bF B.bF [1,1,0,1,0,0,1,0,0,1,0,1,0,0,1,0,0,1,0,1,0,0] lfc
def L.bF.l2:LC:=lkL QP Tryz.f91 A.bF B.bF [1,1,0,1,0,0,1,0,0,1,0,1,0,0] (lfS lfc (lfS (lfB (lfS lfc (lfS (lfS lfc (lfB (lfO L.bF.l3))) lfc))) lfc))
def L.bF.l4:LC:=lkL QP Tryz.f91 A.bF B.bF [1,1,0,1,0,0,1,0,0,1,1,0,1,0,0] lfc
def L.bF.l1:LC:=lkL QP Tryz.f91 A.bF B.bF [1,1,0,1,0,0] (lfS lfc (lfS (lfB (lfS lfc (lfS (lfS lfc (lfB (lfO L.bF.l2))) (lfS (lfS lfc (lfB (lfO L.bF.l4))) lfc)))) lfc))
def L.bF:LFn:=lkG QP Tryz.f91 A.bF B.bF (lfS lfc (lfS lfc (lfS (lfS lfc (lfB (lfO L.bF.l1))) lfc)))
theorem E.bF:aO Sn Tryz.f91=Se L.bF:=R1
def A.bJ:=lkA Tryz.f92
def B.bJ:=lkB Tryz.f92
def L.bJ.l2:LC:=lkL QP Tryz.f92 A.bJ B.bJ [1,1,1,0,1,0,0,1,0,0,1,1,1,1,1,0,1,0,0] lfc
def L.bJ.l3:LC:=lkL QP Tryz.f92 A.bJ B.bJ [1,1,1,0,1,0,0,1,0,0,1,1,1,1,1,1,0,1,0,0] lfc
def L.bJ.l4:LC:=lkL QP Tryz.f92 A.bJ B.bJ [1,1,1,0,1,0,0,1,0,0,1,1,1,1,1,1,1,1,0,0] lfc
def L.bJ.l1:LC:=lkL QP Tryz.f92 A.bJ B.bJ [1,1,1,0,1,0,0] (lfS lfc (lfS (lfB (lfS lfc (lfS lfc (lfS lfc (lfS lfc (lfS lfc (lfS (lfS lfc (lfB (lfO L.bJ.l2))) (lfS (lfS lfc (lfB (lfO L.bJ.l3))) (lfS lfc (lfB (lfO L.bJ.l4))))))))))) lfc))
def L.bJ:LFn:=lkG QP Tryz.f92 A.bJ B.bJ (lfS lfc (lfS lfc (lfS lfc (lfS (lfS lfc (lfB (lfO L.bJ.l1))) lfc))))
theorem E.bJ:aO Sn Tryz.f92=Se L.bJ:=R1
def A.cJ:=lkA Tryz.f93
def B.cJ:=lkB Tryz.f93
def L.cJ.l1:LC:=lkL QP Tryz.f93 A.cJ B.cJ [1,1,0,1,0,0] lfc
def L.cJ.l3:LC:=lkL QP Tryz.f93 A.cJ B.cJ [1,1,1,0,1,0,0,1,0,0,1,0,0] lfc
def L.cJ.l2:LC:=lkL QP Tryz.f93 A.cJ B.cJ [1,1,1,0,1,0,0] (lfS lfc (lfS (lfB (lfS lfc (lfB (lfO L.cJ.l3)))) lfc))
def L.cJ:LFn:=lkG QP Tryz.f93 A.cJ B.cJ (lfS lfc (lfS lfc (lfS (lfS lfc (lfB (lfO L.cJ.l1))) (lfS (lfS lfc (lfB (lfO L.cJ.l2))) lfc))))
theorem E.cJ:aO Sn Tryz.f93=Se L.cJ:=R1
def L.mI:LFn:=lkF QP Tryz.f94
theorem E.mI:aO Sn Tryz.f94=Se L.mI:=R1
def L.oh:LFn:=lkF QP Tryz.f95
theorem E.oh:aO Sn Tryz.f95=Se L.oh:=R1
def L.jS:LFn:=lkF QP Tryz.f96
theorem E.jS:aO Sn Tryz.f96=Se L.jS:=R1
def L.ku:LFn:=lkF QP Tryz.f97
theorem E.ku:aO Sn Tryz.f97=Se L.ku:=R1
def A.gx:=lkA Tryz.f98
def B.gx:=lkB Tryz.f98
def L.gx:LFn:=lkG QP Tryz.f98 A.gx B.gx (lfS lfc (lfS lfc (lfS lfc (lfS lfc (lfS lfc (lfS (lfS lfc (lfB (lfS lfc (lfK lfc (lfS lfc (lfK lfc lfc)))))) lfc))))))
theorem E.gx:aO Sn Tryz.f98=Se L.gx:=R1
def L.jg:LFn:=lkF QP Tryz.f99
theorem E.jg:aO Sn Tryz.f99=Se L.jg:=R1
def L.jK:LFn:=lkF QP Tryz.f100
theorem E.jK:aO Sn Tryz.f100=Se L.jK:=R1
def L.fX:LFn:=lkF QP Tryz.f101
theorem E.fX:aO Sn Tryz.f101=Se L.fX:=R1
def L.gr:LFn:=lkF QP Tryz.f102
theorem E.gr:aO Sn Tryz.f102=Se L.gr:=R1
def L.gl:LFn:=lkF QP Tryz.f103
theorem E.gl:aO Sn Tryz.f103=Se L.gl:=R1
def L.oI:LFn:=lkF QP Tryz.f104
theorem E.oI:aO Sn Tryz.f104=Se L.oI:=R1
def L.gy:LFn:=lkF QP Tryz.f105
theorem E.gy:aO Sn Tryz.f105=Se L.gy:=R1
def L.fW:LFn:=lkF QP Tryz.f106
theorem E.fW:aO Sn Tryz.f106=Se L.fW:=R1
def L.gi:LFn:=lkF QP Tryz.f107
theorem E.gi:aO Sn Tryz.f107=Se L.gi:=R1
end
section
set_option maxRecDepth 100000
set_option maxHeartbeats 4000000
def A.cV:=lkA Tryz.f108
def B.cV:=lkB Tryz.f108
def L.cV:LFn:=lkG QP Tryz.f108 A.cV B.cV (lfS lfc (lfS lfc (lfS lfc lfc)))
theorem E.cV:aO Sn Tryz.f108=Se L.cV:=R1
def L.gV:LFn:=lkF QP Tryz.f109
theorem E.gV:aO Sn Tryz.f109=Se L.gV:=R1
def L.gh:LFn:=lkF QP Tryz.f110
theorem E.gh:aO Sn Tryz.f110=Se L.gh:=R1
def L.jv:LFn:=lkF QP Tryz.f111
theorem E.jv:aO Sn Tryz.f111=Se L.jv:=R1
def L.gn:LFn:=lkF QP Tryz.f112
theorem E.gn:aO Sn Tryz.f112=Se L.gn:=R1
def L.gz:LFn:=lkF QP Tryz.f113
theorem E.gz:aO Sn Tryz.f113=Se L.gz:=R1
def A.bN:=lkA Tryz.f115
def B.bN:=lkB Tryz.f115
def L.bN.l1:LC:=lkL QP Tryz.f115 A.bN B.bN [0,1,0,0] lfc
def L.bN.l2:LC:=lkL QP Tryz.f115 A.bN B.bN [1,1,0,0] lfc
def L.bN:LFn:=lkG QP Tryz.f115 A.bN B.bN (lfS (lfS lfc (lfB (lfO L.bN.l1))) (lfS lfc (lfB (lfO L.bN.l2))))
theorem E.bN:aO Sn Tryz.f115=Se L.bN:=R1
def L.kQ:LFn:=lkF QP Tryz.f116
theorem E.kQ:aO Sn Tryz.f116=Se L.kQ:=R1
def L.mF:LFn:=lkF QP Tryz.f117
theorem E.mF:aO Sn Tryz.f117=Se L.mF:=R1
def A.iA:=lkA Tryz.f118
def B.iA:=lkB Tryz.f118
def L.iA.l1:LC:=lkL QP Tryz.f118 A.iA B.iA [1,1,0,1,0,0] lfc
def L.iA:LFn:=lkG QP Tryz.f118 A.iA B.iA (lfS lfc (lfS lfc (lfS (lfS lfc (lfB (lfO L.iA.l1))) lfc)))
theorem E.iA:aO Sn Tryz.f118=Se L.iA:=R1
def L.ov:LFn:=lkF QP Tryz.f119
theorem E.ov:aO Sn Tryz.f119=Se L.ov:=R1
def L.nW:LFn:=by apply(fun{b:LFn}(_:b=⟨[t 2],q [k [2] [(2,.con (Sg Sf 0 0))],.reg Sk (l [6,7] [] [(7,h (t 0)),(7,h (t 0))] (.makeSlice 120 (a 7) (a 7)) 120 8 (p [] (.alloc 120) 0 3 (s [] [] (w [3,8]) (.store 120 (a 3) (a 8)) z))),q [.reg Sk (l [9] [] [(9,t 0)] (x 144 [9] [120]) 216 10 z),.block 0 (.rangef (t 10) [11,12] (q [k [4] [(4,t 11)],k [5] [(5,t 12)]]) (.block 1 (.reg Sj (l [13,14,15,16,17,18,19] [(13,d (t 3)),(14,t 5),(18,d (i 1 (d (t 3)) (t 5)))] [(19,t 4)] (.buildSlice 22 1 #[(0,a 19)]) 22 20 (p (w [18,20]) (.call ⟨.builtin .append,#[a 18,a 20],#[22,22]⟩) 22 21 (.loud [22] [] [(22,i 1 (t 13) (t 14)),(21,t 21)] Sf [] Sj (.store 22 (a 22) (a 21)) 0 Sf Sk z))))))],k [23,2] [(2,d (t 3))],.ret]⟩)=>b);simp only[sh];rfl
theorem E.nW:aO Sn Tryz.f120=Se L.nW:=R1
end
section
set_option maxRecDepth 100000
set_option maxHeartbeats 4000000
def A.bH:=lkA Tryz.f121
def B.bH:=lkB Tryz.f121
def L.bH.l1:LC:=lkL QP Tryz.f121 A.bH B.bH [1,1,1,1,0,1,0,0] lfc
def L.bH.l2:LC:=lkL QP Tryz.f121 A.bH B.bH [1,1,1,1,1,0,1,0,0] lfc
def L.bH.l5:LC:=lkL QP Tryz.f121 A.bH B.bH [1,1,1,1,1,1,1,0,1,0,0,1,0,1,1,0,0,1,1,0,0,1,1,0,1,0,0] lfc
def L.bH.l4:LC:=lkL QP Tryz.f121 A.bH B.bH [1,1,1,1,1,1,1,0,1,0,0,1,0,1,1,0,0] (lfS lfc (lfS lfc (lfS (lfB (lfS lfc (lfS lfc (lfS (lfS lfc (lfB (lfO L.bH.l5))) lfc)))) lfc)))
def L.bH.l3:LC:=lkL QP Tryz.f121 A.bH B.bH [1,1,1,1,1,1,1,0,1,0,0] (lfS lfc (lfB (lfS lfc (lfS lfc (lfB (lfO L.bH.l4))))))
def L.bH:LFn:=lkG QP Tryz.f121 A.bH B.bH (lfS lfc (lfS lfc (lfS lfc (lfS lfc (lfS (lfS lfc (lfB (lfO L.bH.l1))) (lfS (lfS lfc (lfB (lfO L.bH.l2))) (lfS lfc (lfS (lfS lfc (lfB (lfO L.bH.l3))) lfc))))))))
theorem E.bH:aO Sn Tryz.f121=Se L.bH:=R1
def L.gF:LFn:=lkF QP Tryz.f122
theorem E.gF:aO Sn Tryz.f122=Se L.gF:=R1
def A.dm:=lkA Tryz.f123
def B.dm:=lkB Tryz.f123
def L.dm.l1:LC:=lkL QP Tryz.f123 A.dm B.dm [1,1,1,0,1,0,0] lfc
def L.dm:LFn:=lkG QP Tryz.f123 A.dm B.dm (lfS lfc (lfS lfc (lfS lfc (lfS (lfS lfc (lfB (lfO L.dm.l1))) lfc))))
theorem E.dm:aO Sn Tryz.f123=Se L.dm:=R1
def L.iP:LFn:=lkF QP Tryz.f124
theorem E.iP:aO Sn Tryz.f124=Se L.iP:=R1
def L.mC:LFn:=lkF QP Tryz.f125
theorem E.mC:aO Sn Tryz.f125=Se L.mC:=R1
def L.pq:LFn:=lkF QP Tryz.f126
theorem E.pq:aO Sn Tryz.f126=Se L.pq:=R1
def A.dU:=lkA Tryz.f127
def B.dU:=lkB Tryz.f127
def L.dU.l2:LC:=lkL QP Tryz.f127 A.dU B.dU [1,0,1,0,0,1,0,0,1,0,0] lfc
def L.dU.l1:LC:=lkL QP Tryz.f127 A.dU B.dU [1,0,1,0,0] (lfS lfc (lfS (lfB (lfS lfc (lfB (lfO L.dU.l2)))) lfc))
def L.dU:LFn:=lkG QP Tryz.f127 A.dU B.dU (lfS lfc (lfS (lfS lfc (lfB (lfO L.dU.l1))) lfc))
theorem E.dU:aO Sn Tryz.f127=Se L.dU:=R1
def A.dz:=lkA Tryz.f128
def B.dz:=lkB Tryz.f128
def L.dz.l1:LC:=lkL QP Tryz.f128 A.dz B.dz [1,1,1,1,1,1,0,1,0,0] lfc
def L.dz:LFn:=lkG QP Tryz.f128 A.dz B.dz (lfS lfc (lfS lfc (lfS lfc (lfS lfc (lfS lfc (lfS lfc (lfS (lfS lfc (lfB (lfO L.dz.l1))) lfc)))))))
theorem E.dz:aO Sn Tryz.f128=Se L.dz:=R1
def A.cu:=lkA Tryz.f129
def B.cu:=lkB Tryz.f129
def L.cu.l2:LC:=lkL QP Tryz.f129 A.cu B.cu [1,0,1,0,0,1,1,0,0,1,1,0,0] lfc
def L.cu.l1:LC:=lkL QP Tryz.f129 A.cu B.cu [1,0,1,0,0] (lfS lfc (lfS lfc (lfS (lfB (lfS lfc (lfS lfc (lfB (lfO L.cu.l2))))) lfc)))
def L.cu:LFn:=lkG QP Tryz.f129 A.cu B.cu (lfS lfc (lfS (lfS lfc (lfB (lfO L.cu.l1))) lfc))
theorem E.cu:aO Sn Tryz.f129=Se L.cu:=R1
def L.gY:LFn:=lkF QP Tryz.f130
theorem E.gY:aO Sn Tryz.f130=Se L.gY:=R1
def L.gU:LFn:=lkF QP Tryz.f131
theorem E.gU:aO Sn Tryz.f131=Se L.gU:=R1
def A.dL:=lkA Tryz.f132
def B.dL:=lkB Tryz.f132
def L.dL:LFn:=lkG QP Tryz.f132 A.dL B.dL (lfS lfc (lfS lfc lfc))
theorem E.dL:aO Sn Tryz.f132=Se L.dL:=R1
end
section
set_option maxRecDepth 100000
set_option maxHeartbeats 4000000
end
section
set_option maxRecDepth 100000
set_option maxHeartbeats 4000000
def A.dJ:=lkA Tryz.f134
def B.dJ:=lkB Tryz.f134
def L.dJ:LFn:=lkG QP Tryz.f134 A.dJ B.dJ (lfS lfc (lfS lfc (lfS lfc (lfS lfc lfc))))
theorem E.dJ:aO Sn Tryz.f134=Se L.dJ:=R1
def A.dI:=lkA Tryz.f135
def B.dI:=lkB Tryz.f135
def L.dI:LFn:=lkG QP Tryz.f135 A.dI B.dI (lfS lfc (lfS lfc lfc))
theorem E.dI:aO Sn Tryz.f135=Se L.dI:=R1
def L.iM:LFn:=lkF QP Tryz.f138
theorem E.iM:aO Sn Tryz.f138=Se L.iM:=R1
def L.iK:LFn:=lkF QP Tryz.f139
theorem E.iK:aO Sn Tryz.f139=Se L.iK:=R1
def A.fu:=lkA Tryz.f140
def B.fu:=lkB Tryz.f140
def L.fu.l1:LC:=lkL QP Tryz.f140 A.fu B.fu [1,1,0,1,0,0] lfc
def L.fu:LFn:=lkG QP Tryz.f140 A.fu B.fu (lfS lfc (lfS lfc (lfS (lfS lfc (lfB (lfO L.fu.l1))) lfc)))
theorem E.fu:aO Sn Tryz.f140=Se L.fu:=R1
def A.eK:=lkA Tryz.f141
def B.eK:=lkB Tryz.f141
def L.eK.l1:LC:=lkL QP Tryz.f141 A.eK B.eK [1,1,0,1,0,0] lfc
def L.eK:LFn:=lkG QP Tryz.f141 A.eK B.eK (lfS lfc (lfS lfc (lfS (lfS lfc (lfB (lfO L.eK.l1))) lfc)))
theorem E.eK:aO Sn Tryz.f141=Se L.eK:=R1
def A.dO:=lkA Tryz.f142
def B.dO:=lkB Tryz.f142
def L.dO.l1:LC:=lkL QP Tryz.f142 A.dO B.dO [1,0,1,0,0] lfc
def L.dO:LFn:=lkG QP Tryz.f142 A.dO B.dO (lfS lfc (lfS (lfS lfc (lfB (lfO L.dO.l1))) lfc))
theorem E.dO:aO Sn Tryz.f142=Se L.dO:=R1
def L.nX:LFn:=lkF QP Tryz.f144
theorem E.nX:aO Sn Tryz.f144=Se L.nX:=R1
def A.dQ:=lkA Tryz.f145
def B.dQ:=lkB Tryz.f145
def L.dQ.l1:LC:=lkL QP Tryz.f145 A.dQ B.dQ [1,1,0,0,0] lfc
def L.dQ:LFn:=lkG QP Tryz.f145 A.dQ B.dQ (lfS lfc (lfS lfc (lfS (lfB (lfO L.dQ.l1)) lfc)))
theorem E.dQ:aO Sn Tryz.f145=Se L.dQ:=R1
def L.iI:LFn:=lkF QP Tryz.f146
theorem E.iI:aO Sn Tryz.f146=Se L.iI:=R1
def A.fQ:=lkA Tryz.f147
def B.fQ:=lkB Tryz.f147
def L.fQ.l1:LC:=lkL QP Tryz.f147 A.fQ B.fQ [1,1,0,1,0,0] lfc
def L.fQ:LFn:=lkG QP Tryz.f147 A.fQ B.fQ (lfS lfc (lfS lfc (lfS (lfS lfc (lfB (lfO L.fQ.l1))) lfc)))
theorem E.fQ:aO Sn Tryz.f147=Se L.fQ:=R1
def A.cO:=lkA Tryz.f150
def B.cO:=lkB Tryz.f150
def L.cO.l2:LC:=lkL QP Tryz.f150 A.cO B.cO [1,0,0,1,1,0,0,1,1,0,0] lfc
def L.cO.l1:LC:=lkL QP Tryz.f150 A.cO B.cO [1,0,0] (lfS lfc (lfS lfc (lfS (lfB (lfS lfc (lfS lfc (lfB (lfO L.cO.l2))))) lfc)))
def L.cO:LFn:=lkG QP Tryz.f150 A.cO B.cO (lfS lfc (lfB (lfO L.cO.l1)))
theorem E.cO:aO Sn Tryz.f150=Se L.cO:=R1
end
end Go.Proofs.YtnfiilgdjpdlkaaGreatDoor
namespace Go.Proofs
open Go.Shelf
def Tryz.Ci:Go.Shelf.Ren:=⟨fun | 189=>148 | 125=>152 | 257=>151 | 128=>162 | 129=>163 | 294=>153 | 295=>154 | 296=>155 | 297=>156 | 298=>157 | 299=>158 | 216=>159 | 300=>160 | 301=>161 | 328=>164 | 329=>165 | 330=>166 | 331=>167 | 332=>168 | 215=>169 | 343=>170 | n=>n,fun | 28=>22 | 3=>3 | 46=>76 | 0=>0 | 51=>151 | 53=>74 | 4=>4 | 183=>225 | 182=>224 | 131=>167 | 5=>5 | 9=>9 | 218=>231 | 222=>235 | 228=>237 | 229=>182 | n=>n,fun | n=>n⟩
theorem Tryz.Ez:Go.Proofs.Lays.n189 Sn Tryz.Ci:={
 mixed:=by kernel_rfl
 f125:=Tryz.func152.trans (congrArg Se R1)
 f128:=Tryz.func162.trans (congrArg Se R1)
 f129:=Tryz.func163.trans (congrArg Se R1)
 f189:=Tryz.func148.trans (congrArg Se R1)
 f215:=Tryz.func169.trans (congrArg Se R1)
 f216:=Tryz.func159.trans (congrArg Se R1)
 f257:=Tryz.func151.trans (congrArg Se R1)
 f294:=Tryz.func153.trans (congrArg Se R1)
 f295:=Tryz.func154.trans (congrArg Se R1)
 f296:=Tryz.func155.trans (congrArg Se R1)
 f297:=Tryz.func156.trans (congrArg Se R1)
 f298:=Tryz.func157.trans (congrArg Se R1)
 f299:=Tryz.func158.trans (congrArg Se R1)
 f300:=Tryz.func160.trans (congrArg Se R1)
 f301:=Tryz.func161.trans (congrArg Se R1)
 f328:=Tryz.func164.trans (congrArg Se R1)
 f329:=Tryz.func165.trans (congrArg Se R1)
 f330:=Tryz.func166.trans (congrArg Se R1)
 f331:=Tryz.func167.trans (congrArg Se R1)
 f332:=Tryz.func168.trans (congrArg Se R1)
 f343:=Tryz.func170.trans (congrArg Se R1)
 t0:=Tryz.underlying0
 a0:=Tryz.isAgg0
 z0:=Tryz.sizeOf0
 v0:=Tryz.zeroValue0
 t3:=Tryz.underlying3
 a3:=Tryz.isAgg3
 z3:=Tryz.sizeOf3
 v3:=Tryz.zeroValue3
 t4:=Tryz.underlying4
 a4:=Tryz.isAgg4
 z4:=Tryz.sizeOf4
 v4:=Tryz.zeroValue4
 t5:=Tryz.underlying5
 a5:=Tryz.isAgg5
 z5:=Tryz.sizeOf5
 v5:=Tryz.zeroValue5
 t9:=Tryz.underlying9
 a9:=Tryz.isAgg9
 z9:=Tryz.sizeOf9
 v9:=Tryz.zeroValue9
 t28:=Tryz.underlying22
 a28:=Tryz.isAgg22
 z28:=Tryz.sizeOf22
 v28:=Tryz.zeroValue22
 t46:=Tryz.underlying76
 a46:=Tryz.isAgg76
 z46:=Tryz.sizeOf76
 v46:=Tryz.zeroValue76
 t51:=Tryz.underlying151
 a51:=Tryz.isAgg151
 z51:=Tryz.sizeOf151
 v51:=Tryz.zeroValue151
 t53:=Tryz.underlying74
 a53:=Tryz.isAgg74
 z53:=Tryz.sizeOf74
 v53:=Tryz.zeroValue74
 t131:=Tryz.underlying167
 a131:=Tryz.isAgg167
 z131:=Tryz.sizeOf167
 v131:=Tryz.zeroValue167
 t182:=Tryz.underlying224
 a182:=Tryz.isAgg224
 z182:=Tryz.sizeOf224
 v182:=Tryz.zeroValue224
 t183:=Tryz.underlying225
 a183:=Tryz.isAgg225
 z183:=Tryz.sizeOf225
 v183:=Tryz.zeroValue225
 t218:=Tryz.underlying231
 a218:=Tryz.isAgg231
 z218:=Tryz.sizeOf231
 v218:=Tryz.zeroValue231
 t222:=Tryz.underlying235
 a222:=Tryz.isAgg235
 z222:=Tryz.sizeOf235
 v222:=Tryz.zeroValue235
 t228:=Tryz.underlying237
 a228:=Tryz.isAgg237
 z228:=Tryz.sizeOf237
 v228:=Tryz.zeroValue237
 t229:=Tryz.underlying182
 a229:=Tryz.isAgg182
 z229:=Tryz.sizeOf182
 v229:=Tryz.zeroValue182 }
open Go.Sort Go.RowKit in
theorem Tryz.slices_Sort_int (blk off cap:Nat) (zs:List Int) (w:World) (hH:Holds (Sb .i64) w blk off zs.toArray) (hblk:blk<w.heap.size) (hsz:zs.length<4611686018427387904) :
  Calls Sn 148 #[Sg (Se ⟨blk,off,Sf⟩) zs.length cap] w λe w'=>e = .returned (.tuple #[])/\∃n os,w'=grow (putRow (Sb .i64) (Sort.ahead w n) blk off (zs.mergeSort λx y=>decide (x<=y)).toArray) os:=Any.slices_Sort_int Tryz.Ez blk off cap zs w hH hblk hsz
def Tryz.BR:Go.Shelf.Ren:=⟨fun | 112=>143 | n=>n,fun | 28=>22 | 3=>3 | 4=>4 | 0=>0 | n=>n,fun | n=>n⟩
theorem Tryz.EW:Go.Proofs.Lays.n112 Sn Tryz.BR:={
 mixed:=by kernel_rfl
 f112:=Tryz.func143.trans (congrArg Se R1)
 t0:=Tryz.underlying0
 a0:=Tryz.isAgg0
 z0:=Tryz.sizeOf0
 v0:=Tryz.zeroValue0
 t3:=Tryz.underlying3
 a3:=Tryz.isAgg3
 z3:=Tryz.sizeOf3
 v3:=Tryz.zeroValue3
 t4:=Tryz.underlying4
 a4:=Tryz.isAgg4
 z4:=Tryz.sizeOf4
 v4:=Tryz.zeroValue4
 t28:=Tryz.underlying22
 a28:=Tryz.isAgg22
 z28:=Tryz.sizeOf22
 v28:=Tryz.zeroValue22 }
open Go.RowKit Go.Lib Go.Sort in
/-- slices.Reverse at []int: "Reverse reverses the elements of the slice in place.": THE SLICE's CELLS HOLD 'zs.reverse' BEHIND THE CALL; all else is as it was, but for the count of draws (the exchange 's[i], s[j] = s[j], s[i]' draws its order, once a round). IN THE WORDS OF slices.Sort's CONTRACT: 'Holds': the cells hold zs and none is frozen; 'putRow': the world with those cells holding another array. A slice of length 0 that is not nil is among them ('zs = []'); nil: '.._nil'. (LAID: no walk: one application.) -/
theorem Tryz.slices_Reverse_int (blk off cap:Nat) (zs:List Int) (w:World) (hH:Holds (Sb .i64) w blk off zs.toArray) (hsz:zs.length<=9223372036854775807) :
  Calls Sn 143 #[Sg (Se ⟨blk,off,Sf⟩) zs.length cap] w λe w'=>e = .returned (.tuple #[])/\∃n,w'=putRow (Sb .i64) (Sort.ahead w n) blk off zs.reverse.toArray:=Any.slices_Reverse_int Tryz.EW blk off cap zs w hH hsz
open Go.RowKit Go.Lib Go.Sort in
/-- The same at a slice of length 0, a nil one too: nothing is read, nothing written, nothing drawn. (LAID: no walk: one application.) -/
theorem Tryz.slices_Reverse_int_empty (a:Option Addr) (cap:Nat) (w:World) :
  Calls Sn 143 #[.slice a 0 cap] w λe w'=>e = .returned (.tuple #[])/\w'=w:=Any.slices_Reverse_int_empty Tryz.EW a cap w
def Tryz.yS:Go.Shelf.Ren:=⟨fun | 20=>149 | n=>n,fun | 22=>22 | 3=>3 | 4=>4 | 0=>0 | n=>n,fun | n=>n⟩
theorem Tryz.yW:Go.Proofs.Lays2.n20 Sn Tryz.yS:={
 mixed:=by kernel_rfl
 f20:=Tryz.func149.trans (congrArg Se R1)
 t0:=Tryz.underlying0
 a0:=Tryz.isAgg0
 z0:=Tryz.sizeOf0
 v0:=Tryz.zeroValue0
 t3:=Tryz.underlying3
 a3:=Tryz.isAgg3
 z3:=Tryz.sizeOf3
 v3:=Tryz.zeroValue3
 t4:=Tryz.underlying4
 a4:=Tryz.isAgg4
 z4:=Tryz.sizeOf4
 v4:=Tryz.zeroValue4
 t22:=Tryz.underlying22
 a22:=Tryz.isAgg22
 z22:=Tryz.sizeOf22
 v22:=Tryz.zeroValue22
 i3:=by kernel_rfl }
open Go.RowKit Go.Lib Go.Sort in
/-- slices.Compact at []int: "Compact replaces consecutive runs of equal elements with a single copy. This is like the uniq command found on Unix. Compact modifies the contents of the slice s and returns the modified slice, which may have a smaller length. Compact zeroes the elements between the new length and the original length. The result preserves the nilness of s.": IT RETURNS THE SLICE CUT TO 'Lib.compact zs'; ITS CELLS HOLD 'Lib.compact zs', THEN ZERO VALUES up to the old length; all else is as it was, but for the count of draws. IN THE WORDS OF slices.Sort's CONTRACT ('Holds', 'putRow'): so the everyday 'slices.Sort(xs); xs = slices.Compact(xs)' goes from the one contract to the other. It asks 'zs.length <= cap' (every slice's: the reslicing 's[:k]' looks at it). Length 0, nil: '.._empty'. (LAID: no walk: one application.) -/
theorem Tryz.slices_Compact_int (blk off cap:Nat) (zs:List Int) (w:World) (hH:Holds (Sb .i64) w blk off zs.toArray) (hsz:zs.length<=9223372036854775807) (hcap:zs.length<=cap) :
  Calls Sn 149 #[Sg (Se ⟨blk,off,Sf⟩) zs.length cap] w λe w'=>e = .returned (Sg (Se ⟨blk,off,Sf⟩) (Lib.compact zs).length cap)/\∃q,w'=putRow (Sb .i64) (Sort.ahead w q) blk off (Lib.compact zs++List.replicate (zs.length-(Lib.compact zs).length) 0).toArray:=Any.slices_Compact_int Tryz.yW blk off cap zs w hH hsz hcap
open Go.RowKit Go.Lib Go.Sort in
/-- The same at a slice of length 0, a nil one too: it comes back as it is. (LAID: no walk: one application.) -/
theorem Tryz.slices_Compact_int_empty (a:Option Addr) (cap:Nat) (w:World) :
  Calls Sn 149 #[.slice a 0 cap] w λe w'=>e = .returned (.slice a 0 cap)/\w'=w:=Any.slices_Compact_int_empty Tryz.yW a cap w
open Go.RowKit Go.Sort in
/-- .. and plain. (LAID: no walk: one application.) -/
theorem Tryz.slices_Sort_int_none (p:Option Addr) (cap:Nat) (w:World) :
  Calls Sn 148 #[.slice p 0 cap] w λe w'=>e = .returned (.tuple #[])/\w'=w:=Any.slices_Sort_int_none Tryz.Ez p cap w
end Go.Proofs
