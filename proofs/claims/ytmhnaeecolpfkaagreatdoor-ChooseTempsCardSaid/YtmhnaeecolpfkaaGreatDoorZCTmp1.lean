/- A part of the proof: LftX, LftY, LftZ, LftF, LftG, LftH, LftM, LftN, LftQ, LftU, LftJ, LftK, T, LftP, Ua, Law, Ga, La, Lb, Lc, Ld, Le, Lf, Lg, Lh, Li, Lj, Lk, Ll, Lm, Ln, Lo, Lp, Shelf. -/
import Derived.Test.YtmhnaeecolpfkaaGreatDoorZCTmp0
import Derived.KernelRfl
import Derived.ChangeKeysEq
import Derived.MapKept
import Derived.RecoverIn
import Derived.Test.YtmhnaeecolpfkaaGreatDoorChecked
import Derived.ProofKit
import Derived.OpenShut
import Derived.HandedShaped
import Derived.LaidMore
import Derived.Test.YtmhnaeecolpfkaaGreatDoorProg
import Derived.Shelf.Small.Bits
import Derived.Shelf.Small.Wraps
import Derived.Shelf.Strconv.Itoa0
import Derived.Shelf.Sort.Plain
import Derived.Shelf.Unicode.Latin
import Derived.Shelf.Unicode.Is16White
import Derived.Shelf.Unicode.IsSpaceAny
import Derived.Shelf.Unicode.Is16Any
import Derived.Shelf.Unicode.Is32Any
import Derived.Shelf.Unicode.ExclAny
import Derived.Shelf.Slices.Turned
import Derived.Shelf.Slices.Reverse
import Derived.Ground.Names2Prog
import Derived.Shelf.Slices.CompactI
import Derived.Shelf.Slices.SearchI
import Derived.Shelf.Slices.Cells
import Derived.Shelf.Slices.In.SortNone
set_option linter.unusedSimpArgs false
set_option linter.unusedVariables false
open Go.Value renaming int->Vz,slice->VE,pointer->VF
open Go.IntKind renaming i64->VA,i32->VB
open Option renaming some->VC,none->VD
open Bool renaming true->VG,false->VH
open Go.Proofs.Tryz renaming prog->VI
open Go.Proofs
namespace Go.Lft
section
variable{po:OP}{pp:PP}
def step[po:OP](P:Program)(op:Op)(ty:TypeId)(us:List (Nat × Value))(h:Heap)(K:Value->Heap->Prop):Prop:=iS P (bQ op ty us) h K
variable{P:Program}{op:Op}{ty:TypeId}{us:List (Nat × Value)}{h':Heap}{K:Value->Heap->Prop}
@[congr] theorem PC{us':List (Nat × Value)}{h:Heap}(e1:us=us')(e2:h=h'):step P op ty us h K=step P op ty us' h' K:=by rw[e1,e2]
def grdP(o:Option Value)(b:Bool)(A B:Prop):Prop:=∃gv,o=VC gv/\(gv = .bool b->A)/\(gv≠.bool b->B)
variable{b:Bool}
@[congr] theorem PI{o o':Option Value}{A B:Prop}(h:o=o'):grdP o b A B=grdP o' b A B:=by rw[h]
@[simp] theorem Q7{A B:Prop}:grdP (VC (.bool VG)) VG A B=A:=by simp[grdP]
@[simp] theorem Ri{A B:Prop}:grdP (VC (.bool VG)) VH A B=B:=by simp[grdP]
@[simp] theorem Rl{A B:Prop}:grdP (VC (.bool VH)) VG A B=B:=by simp[grdP]
@[simp] theorem Q4{A B:Prop}:grdP (VC (.bool VH)) VH A B=A:=by simp[grdP]
@[simp] theorem Qh{A B p:Prop}[Decidable p]:grdP (VC (.bool (decide p))) VG A B=((p->A)/\(¬p->B)):=by simp[grdP]
@[simp] theorem PR{A B p:Prop}[Decidable p]:grdP (VC (.bool (decide p))) VH A B=((p->B)/\(¬p->A)):=by simp[grdP,and_comm]
@[simp] theorem QF{A B:Prop}{x:Bool}:grdP (VC (.bool (!x))) b A B=grdP (VC (.bool x)) (!b) A B:=by cases x<;>cases b<;>simp
@[simp] theorem OX{A B:Prop}:grdP (VC undef) b A B=B:=by simp[grdP,undef]
section
variable{P:Program}{Q:Env->Heap->Prop}{ρ:Env}{h:Heap}
variable{kill:List Nat}{sets args:List (Nat × E)}{chk:List E}{dst:Option Nat}{keep:Bool}{next:Reg}
@[simp] theorem Ob{tail:Bool}:
  eZ P VD (.loud kill sets args VD chk tail op ty dst keep next) Q ρ h=sat (evP (look ρ) (vw h) sets) λvs=>sat (evP (look ρ) (vw h) args) λus=>okE (look ρ) (vw h) chk/\pp.fx (dC (cK ρ kill) vs)/\
   @step (opAt VD) P op ty us h λv h'=>eZ P VD next Q (putE (dC (cK ρ kill) vs) dst keep v) h':=by
 simp only[eZ,dd,sat,step,iQ,Option.map_none];refine propext ⟨λ⟨vs,us,h1,h2,h3,hfx,h4⟩=>⟨vs,h1,us,h2,h3,hfx,h4.mono λv h' hh=>?_⟩,λ⟨vs,h1,us,h2,h3,hfx,h4⟩=>⟨vs,us,h1,h2,h3,hfx,h4.mono λv h' hh=>?_⟩⟩
 ·have:=hh.2;cases tail<;>exact this
 cases tail<;>exact⟨by simp,hh⟩
@[simp] theorem Ow{g:E}:
  eZ P VD (.loud kill sets args (VC (g,b)) chk VH op ty dst keep next) Q ρ h=sat (evP (look ρ) (vw h) sets) λvs=>sat (evP (look ρ) (vw h) args) λus=>okE (look ρ) (vw h) chk/\pp.fx (dC (cK ρ kill) vs)/\
   grdP (ev (look ρ) (vw h) g) b (@step (opAt VD) P op ty us h λv h'=>eZ P VD next Q (putE (dC (cK ρ kill) vs) dst keep v) h') (eZ P VD next Q (putE (dC (cK ρ kill) vs) dst keep undef) h):=by simp only[eZ,dd,sat,step,iQ,grdP];refine propext ⟨λ⟨vs,us,h1,h2,h3,hfx,gv,h4,h5,h6⟩=>⟨vs,h1,us,h2,h3,hfx,gv,h4,λe=>(h5 e).mono λv h' hh=>hh.2,h6⟩,λ⟨vs,h1,us,h2,h3,hfx,gv,h4,h5,h6⟩=>⟨vs,us,h1,h2,h3,hfx,gv,h4,λe=>(h5 e).mono λv h' hh=>⟨by simp,hh⟩,h6⟩⟩
variable{H:View}
@[simp] theorem Oc:
  eZ P (VC H) (.loud kill sets args VD chk VH op ty dst keep next) Q ρ h=sat (evP (look ρ) H sets) λvs=>sat (evP (look ρ) H args) λus=>okE (look ρ) H chk/\pp.fx (dC (cK ρ kill) vs)/\
   @step (opAt (VC H)) P op ty us h λv h'=>H.le (vw h')/\eZ P (VC H) next Q (putE (dC (cK ρ kill) vs) dst keep v) h':=by
 simp only[eZ,dd,sat,step,nP];refine propext ⟨λ⟨vs,us,h1,h2,h3,hfx,h4⟩=>⟨vs,h1,us,h2,h3,hfx,h4.mono λv h' hh=>?_⟩,λ⟨vs,h1,us,h2,h3,hfx,h4⟩=>⟨vs,us,h1,h2,h3,hfx,h4.mono λv h' hh=>?_⟩⟩
 ·exact⟨by simpa using hh.1,hh.2⟩
 exact⟨by simpa using hh.1,hh.2⟩
@[simp] theorem Oe:
  eZ P (VC H) (.loud kill sets args VD chk VG op ty dst keep next) Q ρ h=sat (evP (look ρ) H sets) λvs=>sat (evP (look ρ) H args) λus=>okE (look ρ) H chk/\pp.fx (dC (cK ρ kill) vs)/\
   @step (opAt (VC H)) P op ty us h λv h'=>eZ P (VC nothing) next Q (putE (dC (cK ρ kill) vs) dst keep v) h':=by
 simp only[eZ,dd,sat,step,nP];refine propext ⟨λ⟨vs,us,h1,h2,h3,hfx,h4⟩=>⟨vs,h1,us,h2,h3,hfx,h4.mono λv h' hh=>?_⟩,λ⟨vs,h1,us,h2,h3,hfx,h4⟩=>⟨vs,us,h1,h2,h3,hfx,h4.mono λv h' hh=>?_⟩⟩
 ·exact hh.2
 exact⟨by simp,hh⟩
@[simp] theorem N0{g:E}:
  eZ P (VC H) (.loud kill sets args (VC (g,b)) chk VH op ty dst keep next) Q ρ h=sat (evP (look ρ) H sets) λvs=>sat (evP (look ρ) H args) λus=>okE (look ρ) H chk/\pp.fx (dC (cK ρ kill) vs)/\
   grdP (ev (look ρ) H g) b (@step (opAt (VC H)) P op ty us h λv h'=>H.le (vw h')/\eZ P (VC H) next Q (putE (dC (cK ρ kill) vs) dst keep v) h') (eZ P (VC H) next Q (putE (dC (cK ρ kill) vs) dst keep undef) h):=by simp only[eZ,dd,sat,step,nP,grdP];refine propext ⟨λ⟨vs,us,h1,h2,h3,hfx,gv,h4,h5,h6⟩=>⟨vs,h1,us,h2,h3,hfx,gv,h4,λe=>(h5 e).mono λv h' hh=>⟨by simpa using hh.1,hh.2⟩,h6⟩,λ⟨vs,h1,us,h2,h3,hfx,gv,h4,h5,h6⟩=>⟨vs,us,h1,h2,h3,hfx,gv,h4,λe=>(h5 e).mono λv h' hh=>⟨by simpa using hh.1,hh.2⟩,h6⟩⟩
@[simp] theorem Mj:
  dd View.sub P (VC H) (.loud kill sets args VD chk VH op ty dst keep next) Q ρ h=sat (evP (look ρ) H sets) λvs=>sat (evP (look ρ) H args) λus=>okE (look ρ) H chk/\pp.fx (dC (cK ρ kill) vs)/\
   @step (opAt (VC H)) P op ty us h λv h'=>H.sub (vw h')/\dd View.sub P (VC H) next Q (putE (dC (cK ρ kill) vs) dst keep v) h':=by
 simp only[dd,sat,step,nP];refine propext ⟨λ⟨vs,us,h1,h2,h3,hfx,h4⟩=>⟨vs,h1,us,h2,h3,hfx,h4.mono λv h' hh=>?_⟩,λ⟨vs,h1,us,h2,h3,hfx,h4⟩=>⟨vs,us,h1,h2,h3,hfx,h4.mono λv h' hh=>?_⟩⟩
 ·exact⟨by simpa using hh.1,hh.2⟩
 exact⟨by simpa using hh.1,hh.2⟩
@[simp] theorem NA:
  dd View.sub P (VC H) (.loud kill sets args VD chk VG op ty dst keep next) Q ρ h=sat (evP (look ρ) H sets) λvs=>sat (evP (look ρ) H args) λus=>okE (look ρ) H chk/\pp.fx (dC (cK ρ kill) vs)/\
   @step (opAt (VC H)) P op ty us h λv h'=>dd View.sub P (VC nothing) next Q (putE (dC (cK ρ kill) vs) dst keep v) h':=by
 simp only[dd,sat,step,nP];refine propext ⟨λ⟨vs,us,h1,h2,h3,hfx,h4⟩=>⟨vs,h1,us,h2,h3,hfx,h4.mono λv h' hh=>?_⟩,λ⟨vs,h1,us,h2,h3,hfx,h4⟩=>⟨vs,us,h1,h2,h3,hfx,h4.mono λv h' hh=>?_⟩⟩
 ·exact hh.2
 exact⟨by simp,hh⟩
@[simp] theorem L8{g:E}:
  dd View.sub P (VC H) (.loud kill sets args (VC (g,b)) chk VH op ty dst keep next) Q ρ h=sat (evP (look ρ) H sets) λvs=>sat (evP (look ρ) H args) λus=>okE (look ρ) H chk/\pp.fx (dC (cK ρ kill) vs)/\
   grdP (ev (look ρ) H g) b (@step (opAt (VC H)) P op ty us h λv h'=>H.sub (vw h')/\dd View.sub P (VC H) next Q (putE (dC (cK ρ kill) vs) dst keep v) h') (dd View.sub P (VC H) next Q (putE (dC (cK ρ kill) vs) dst keep undef) h):=by simp only[dd,sat,step,nP,grdP];refine propext ⟨λ⟨vs,us,h1,h2,h3,hfx,gv,h4,h5,h6⟩=>⟨vs,h1,us,h2,h3,hfx,gv,h4,λe=>(h5 e).mono λv h' hh=>⟨by simpa using hh.1,hh.2⟩,h6⟩,λ⟨vs,h1,us,h2,h3,hfx,gv,h4,h5,h6⟩=>⟨vs,us,h1,h2,h3,hfx,gv,h4,λe=>(h5 e).mono λv h' hh=>⟨by simpa using hh.1,hh.2⟩,h6⟩⟩
@[simp] theorem Py:
  dd View.sub P (VC H) (.fin kill sets chk) Q ρ h=sat (evP (look ρ) H sets) λvs=>okE (look ρ) H chk/\Q (dC (cK ρ kill) vs) h:=rfl
@[simp] theorem Q8{ρ:Env}:@PP.fx noPP ρ=True:=rfl
@[simp] theorem Q9{Rp:List PanicEntry->Heap->Prop}{ρ:Env}:@PP.fx (ppOf Rp) ρ=True:=rfl
@[simp] theorem PU{m:Option View}{x y:Reg}:eZ P m (.both x y) Q ρ h=(eZ P m x Q ρ h/\eZ P m y Q ρ h):=rfl
end
theorem uN{s:Sem Next}{f:FuncId}{args:Array Value}{h:Heap}{R:Value->Heap->Prop}(hs : ∀w:World,w.heap=h->s.run P w = .ok (.enter f args) w)(hc:ay P f args h R)(hk : ∀v h',R v h'->K v h'):iS P s h K:=by intro w hw r o a K' Q' hK hQ;rw[hs w hw];simp only[Oper.uponIn];refine⟨λh=>by simp[Fw,Fence.wide]at h,uG ((hc w hw).mono ?_)⟩;rintro e w' ⟨v,rfl,hR,hsame⟩;exact hK v w' (hk _ _ hR) hsame
theorem yg{s:Sem Next}{f:FuncId}{args:Array Value}{h:Heap}{R:Value->Heap->Prop}{Rp:List PanicEntry->Heap->Prop}(hs : ∀w:World,w.heap=h->s.run P w = .ok (.enter f args) w)(hc:jG P f args h R Rp)(hk : ∀v h',R v h'->K v h')(hp : ∀ch h',Rp ch h'->po.op ch h'):iS P s h K:=by
 intro w hw r o a K' Q' hK hQ;rw[hs w hw];simp only[Oper.uponIn];refine⟨λh=>by simp[Fw,Fence.wide]at h,uG ((hc w hw).mono ?_)⟩;rintro e w' (⟨v,rfl,hR,hsame⟩ | ⟨ch,rfl,hR,hsame⟩)
 ·exact hK v w' (hk _ _ hR) hsame
 exact hQ ch w' (hp _ _ hR) hsame
theorem Gs{f:FuncId}{ops:Array Operand}{T:Array TypeId}{args:Array Value}{h:Heap}(R:Value->Heap->Prop)(Rp:List PanicEntry->Heap->Prop)(hf:isFn P f=VG)(ha:ops.map (asg us)=args)(hc:jG P f args h R Rp)(hk : ∀v h',R v h'->K v h')(hp : ∀ch h',Rp ch h'->po.op ch h'):
  step P (.call ⟨.value (.func f),ops,T⟩) ty us h K:=by
 subst ha;refine yg (λw _=>?_) hc hk hp;unfold isFn at hf;cases hfn:P.funcs[f]? with
 | none=>simp[hfn]at hf
 | some fn=>simp only[hfn,Se,bne_iff_ne,ne_eq]at hf;obtain⟨h1,h2⟩:=hf;simp[bQ,execOp,resolve,Deferred.ofValue,asg,invoke,callFunc,program,Sem.run,hfn,h1,Option.isNone];cases hb:fn.body<;>simp[hb]at h2 ⊢
theorem xw{f:FuncId}{ops:Array Operand}{T:Array TypeId}{args:Array Value}{h:Heap}(R:Value->Heap->Prop)(hf:isFn P f=VG)(ha:ops.map (asg us)=args)(hc:ay P f args h R)(hk : ∀v h',R v h'->K v h'):
  step P (.call ⟨.value (.func f),ops,T⟩) ty us h K:=by
 subst ha;refine uN (λw _=>?_) hc hk;unfold isFn at hf;cases hfn:P.funcs[f]? with
 | none=>simp[hfn]at hf
 | some fn=>simp only[hfn,Se,bne_iff_ne,ne_eq]at hf;obtain⟨h1,h2⟩:=hf;simp[bQ,execOp,resolve,Deferred.ofValue,asg,invoke,callFunc,program,Sem.run,hfn,h1,Option.isNone];cases hb:fn.body<;>simp[hb]at h2 ⊢
def ia[po:OP](P:Program)(f:FuncId)(T:Array TypeId)(ty:TypeId)(args:List Value)(h:Heap)(K:Value->Heap->Prop):Prop:=
 step P (.call ⟨.value (.func f),args.toArray.map .const,T⟩) ty [] h K
@[simp] theorem Rk{t:Nat}:asg us (.tmp t)=(look us t).getD undef:=rfl
@[simp] theorem AZ{v:Value}:asg us (.const v)=v:=rfl
@[simp] theorem Qy{f:FuncId}:asg us (.func f) = .func (.func f) #[] #[]:=rfl
@[simp] theorem Pf{g:Nat}:asg us (.global g) = ptz g:=rfl
theorem jI{f:FuncId}{ops:List Operand}{T:Array TypeId}{h:Heap}:
  step P (.call ⟨.value (.func f),ops.toArray,T⟩) ty us h K=ia P f T ty (ops.map (asg us)) h K:=by unfold ia step;congr 1;simp[bQ,execOp,resolve,Deferred.ofValue,U7]
section
variable{P:Program}{f:FuncId}{x y z u v:Operand}{T:Array TypeId}{ty:TypeId}{us:List (Nat × Value)}{h:Heap}{K:Value->Heap->Prop}
@[simp] theorem PJ:step P (.call ⟨.value (.func f),#[],T⟩) ty us h K=ia P f T ty [] h K:=jI (ops:=[])
@[simp] theorem O4:step P (.call ⟨.value (.func f),#[x],T⟩) ty us h K=ia P f T ty [asg us x] h K:=jI (ops:=[x])
@[simp] theorem Pg:step P (.call ⟨.value (.func f),#[x,y],T⟩) ty us h K=ia P f T ty [asg us x,asg us y] h K:=jI (ops:=[x,y])
@[simp] theorem PX:step P (.call ⟨.value (.func f),#[x,y,z],T⟩) ty us h K=ia P f T ty [asg us x,asg us y,asg us z] h K:=jI (ops:=[x,y,z])
@[simp] theorem PH:step P (.call ⟨.value (.func f),#[x,y,z,u],T⟩) ty us h K=ia P f T ty [asg us x,asg us y,asg us z,asg us u] h K:=jI (ops:=[x,y,z,u])
@[simp] theorem O0:step P (.call ⟨.value (.func f),#[x,y,z,u,v],T⟩) ty us h K=ia P f T ty [asg us x,asg us y,asg us z,asg us u,asg us v] h K:=jI (ops:=[x,y,z,u,v])
end
@[congr] theorem JZ{f:FuncId}{T:Array TypeId}{args args':List Value}{h:Heap}(ha:args=args'):ia P f T ty args h K=ia P f T ty args' h K:=by rw[ha]
theorem ah{f:FuncId}{T:Array TypeId}{args:List Value}{h:Heap}{R:Value->Heap->Prop}(hf:isFn P f=VG)(hc:ay P f args.toArray h R)(hk : ∀v h',R v h'->K v h'):ia P f T ty args h K:=
 xw R hf (by simp[U7]) hc hk
theorem dZ{f:FuncId}{T:Array TypeId}{args:List Value}{h:Heap}{R:Value->Heap->Prop}{Rp:List PanicEntry->Heap->Prop}(hf:isFn P f=VG)(hc:jG P f args.toArray h R Rp)(hk : ∀v h',R v h'->K v h')(hp : ∀ch h',Rp ch h'->po.op ch h'):ia P f T ty args h K:=
 Gs R Rp hf (by simp[U7]) hc hk hp
theorem cO{s:Sem Next}{h:Heap}(hs : ∀w:World,w.heap=h->∃v w',s.run P w = .ok (.value v) w'/\Same w w'/\K v w'.heap):iS P s h K:=by intro w hw r o a K' Q' hK hQ;obtain⟨v,w',h1,h2,h3⟩:=hs w hw;rw[h1];exact hK v w' h3 h2
theorem pO{s:Sem Next}{h:Heap}(hs : ∀w:World,w.heap=h->∃w',s.run P w = .ok .skip w'/\Same w w'/\K undef w'.heap):iS P s h K:=by intro w hw r o a K' Q' hK hQ;obtain⟨w',h1,h2,h3⟩:=hs w hw;rw[h1];exact hK undef w' h3 h2
theorem jl(w:World)(o:Obj):Same w (w.alloc o):=Same.CV rfl rfl rfl V5 λk hk=>heap_alloc_old w o hk
variable{n size:Nat}{cs:Array Value}
theorem rD{t e:TypeId}{ps:Array (Nat × Operand)}{h:Heap}{i:TypeInfo}{z:Value}{vs:List (Nat × Value)}(ht:P.underlying t=VC (.slice e))(hi:P.info? e=VC i)(hz:i.zero=VC z)(hs:i.size=size)(hn:n*size<=16777216)(hp:ps.map (λp=>(p.1,asg us p.2))=vs.toArray)(hf:Instr.fill (λj=>VC (j*size,size)) ((Array.range (n*size)).map (z.cells[· % z.cells.size]!)) vs=VC cs)(hk:K (VE (VC ⟨h.size,0,VD⟩) n n) (h.push (.cells cs e))):step P (.buildSlice t n ps) ty us h K:=by
 subst hs;refine cO λw hw=>?_;subst hw;have hn':¬(16777216<n*i.size):=by omega
 refine⟨_,w.alloc (.cells cs e),?_,jl _ _,hk⟩;have hp':(ps.map λx=>match x with | (i,x)=>(i,asg us x))=vs.toArray:=hp;by_cases h0:n*i.size=0
 ·have e1 : ∀f:Nat->Value,(Array.range 0).map f = #[]:=λf=>by simp[Array.range_zero']
  rw[h0,e1]at hf;simp only[bQ,execOp,hp'];simp[Instr.buildSlice,run_underlying ht,sizeOf,typeInfo,hi,h0,newRow,e1,hf]
 simp only[bQ,execOp,hp'];simp[Instr.buildSlice,run_underlying ht,sizeOf,typeInfo,hi,hn',newRow,h0,zeroValue,hz,hf]
def zQ(h:Heap)(e:TypeId)(size:Nat)(v:Value)(n:Nat)(xs:List Value):Prop:=
  xs.length=n*size/\
  ((v = VE VD 0 0/\n=0)\/
   ∃g cap cur,v = VE (VC ⟨g,0,VD⟩) n cap/\h[g]? = VC (.cells cur e (0,0))/\n<=cap/\cap<=maxLen/\cur.size=cap*size/\cur.toList.take (n*size)=xs)
structure Kept(h h':Heap)(b:Option Nat):Prop where
 size:h.size<=h'.size
 block : ∀k,k<h.size->VC k≠b->h'[k]? = h[k]?
theorem Kept.refl(h:Heap)(b:Option Nat):Kept h h b:=⟨RX _,λ_ _ _=>rfl⟩
theorem Kept.push(h:Heap)(o:Obj)(b:Option Nat):Kept h (h.push o) b:=⟨by simp,λk hk _=>by rw[Array.getElem?_push,if_neg V4]⟩
theorem Kept.trans{h h' h'':Heap}{b:Option Nat}(k:Kept h h' b)(k':Kept h' h'' b):Kept h h'' b:=
 ⟨St k.size k'.size,λx hx hb=>(k'.block x (S2 hx k.size) hb).trans (k.block x hx hb)⟩
def Av(W:View)(v:Value):Prop:=∀b,v.ownBlock=VC b->W b=VD
variable{W:View}
theorem Kept.view{h:Heap}{v:Value}(k:Kept h h' v.ownBlock)(hw:W.le (vw h))(ha:Av W v):W.le (vw h'):=by
 intro b o hb;have hlt:=View.lt hw hb;have hne:VC b≠v.ownBlock:=λe=>by rw[ha b e.symm]at hb;cases hb
 show h'[b]? = VC o;rw[k.block b hlt hne];exact hw b o hb
theorem Kept.IY{h:Heap}(k:Kept h h' VD)(hw:W.le (vw h)):W.le (vw h'):=by intro b o hb;show h'[b]? = VC o;rw[k.block b (View.lt hw hb) V5];exact hw b o hb
theorem b8(h:Heap)(o:Obj):(vw h).le (vw (h.push o)):=(Kept.push h o VD).IY Vw
theorem LK{h:Heap}(hle:(vw h).le (vw h'))(hs:h.size<=h'.size):Kept h h' none:=
 ⟨hs,λk hk _=>by have:h[k]? = VC h[k]:=Sv hk;rw[this];exact hle k _ this⟩
theorem bL{h:Heap}(hle:(vw h).le (vw h')):h.size<=h'.size:=by
 rcases Sb h'.size h.size with hlt | hge
 ·have h1:h[h'.size]? = VC h[h'.size]:=Sv hlt;have h2:h'[h'.size]? = VC h[h'.size]:=hle _ _ h1;simp at h2
 exact hge
theorem wR{h:Heap}(hle:(vw h).le (vw h')):Kept h h' none:=LK hle (bL hle)
theorem zQ.kept{h h':Heap}{e:TypeId}{size n:Nat}{v:Value}{xs:List Value}{b:Option Nat}(ho:zQ h e size v n xs)(k:Kept h h' b)(hb:v.ownBlock=VD\/v.ownBlock≠b):zQ h' e size v n xs:=by
 refine⟨ho.1,?_⟩;rcases ho.2 with hn | ⟨g,cap,cur,rfl,hg,rest⟩
 ·exact .inl hn
 refine .inr ⟨g,cap,cur,rfl,?_,rest⟩;rw[k.block g (Sj.1 hg).1 (by simpa[Value.ownBlock]using hb)];exact hg
structure eU(P:Program)(t e:TypeId)(size bytes:Nat)(z:Value):Prop where
 ht:P.underlying t=VC (.slice e)
 hi : ∃i,P.info? e=VC i/\i.zero=VC z/\i.size=size/\i.bytes=bytes
 hz:z.cells.size=size
 hs:0<size
 hm:size<=1000
variable{bytes:Nat}
theorem FA{t e:TypeId}{z:Value}(hT:eU P t e size bytes z){w:World}{v:Value}{xs:List Value}(hown:zQ w.heap e size v n xs){a:Option Addr}{m c:Nat}{news:List Value}(hl:news.length=m*size)(hnews : ∀ad,a=VC ad->∀j u,news[j]? = VC u->w.cell? (ad.add j)=VC u)(hnil:a=VD->m=0)(h1 : ∀u∈news,u.oneCell'=VG)(hbytes:(n+m)*bytes<=140737488355328)(h63:n+m<=140737488355328):
  ∃v' w',(Builtin.append_ #[t,t] ty #[v,.slice a m c]).run P w = .ok v' w'/\Same w w'/\zQ w'.heap e size v' (n+m) (xs++news)/\Kept w.heap w'.heap v.ownBlock/\
   (v'.ownBlock=v.ownBlock\/v'.ownBlock=VC w.heap.size):=by
 obtain⟨ht,⟨i,hi,hz,hsize,hby⟩,hzs,hsz,_⟩:=hT;subst hsize;subst hby;cases a with
 | none=>
  obtain rfl:=hnil rfl;have hn:news=[]:=Ss (by simpa using hl);subst hn;have hrun:(Builtin.append_ #[t,t] ty #[v,VE VD 0 c]).run P w = .ok v w:=by
   rcases hown.2 with⟨rfl,rfl⟩ | ⟨g,cap,cur,rfl,hg,hnc,hcm,hcs,htake⟩
   ·simp[Builtin.append_,run_underlying ht,sizeOf,typeInfo,hi,Builtin.lenOf,Builtin.firstCells]
   simp[Builtin.append_,run_underlying ht,sizeOf,typeInfo,hi,Builtin.lenOf,Builtin.firstCells,hnc,storeCells]
  exact⟨v,w,hrun,Same.refl _,by simpa using hown,Kept.refl _ _,.inl rfl⟩
 | some ad=>
  have hnews:=hnews ad rfl;have hlen:(xs++news).length=(n+m)*i.size:=by rw[Sf,hown.1,hl,Uk]
  have h63':n+m<=maxLen:=by simp only[maxLen];omega
  have grown : ∀(old:Nat),old<n+m->∀row,
    zQ (w.drew.alloc (.cells (xs.toArray++news.toArray++Builtin.zeroCells z.cells (grownCap w (n+m) old e-(n+m))) e)).heap e i.size
     (VE (VC ⟨w.heap.size,0,VD⟩) (n+m) (grownCap w (n+m) old e)) (n+m) (xs++news)/\
    Kept w.heap (w.drew.alloc (.cells (xs.toArray++news.toArray++Builtin.zeroCells z.cells (grownCap w (n+m) old e-(n+m))) e)).heap row:=by
   intro old ho row;have hge:=grownCap_ge w (n+m) old e;have hcm:grownCap w (n+m) old e<=maxLen:=grownCap_le_maxLen w (n+m) old e h63';refine⟨⟨hlen,.inr ⟨w.heap.size,_,_,rfl,heap_alloc_new w.drew _,hge,hcm,?_,?_⟩⟩,⟨by simp,λk hk _=>by rw[heap_alloc_old w.drew _ (by simpa using hk)];rfl⟩⟩
   ·simp only[Array.size_append,T3,size_zeroCells,hzs,hown.1,hl,<-Nat.add_mul];congr 1;omega
   simp only[Array.toList_append,Sk];rw[<-List.append_assoc,<-hlen];exact UC
  rcases hown.2 with⟨rfl,rfl⟩ | ⟨g,cap,cur,rfl,hg,hnc,hcm,hcs,htake⟩
  ·have hx:xs=[]:=Ss (by simpa using hown.1);subst hx;by_cases hm:m=0
   ·subst hm;have hn:news=[]:=Ss (by simpa using hl);subst hn;refine⟨VE VD 0 0,w,?_,Same.refl _,⟨by simp,.inl ⟨rfl,rfl⟩⟩,Kept.refl _ _,.inl rfl⟩;simp[Builtin.append_,run_underlying ht,sizeOf,typeInfo,hi,Builtin.lenOf,Builtin.firstCells,loadCells,loadCellsFrom]
   have hr:=run_append_nil (P:=P) w t ty e i z ht hi hz ad m c news hl hnews V4 V4 (by have hb:=hbytes;simp only[Tj]at hb;omega);have hgr:=grown 0 V4 VD;simp only[Tj,SV,Array.empty_append]at hgr ⊢;exact⟨_,_,hr,Same.CV rfl rfl rfl hgr.2.size (λk hk=>hgr.2.block k hk V5),hgr.1,⟨hgr.2.size,λk hk _=>hgr.2.block k hk V5⟩,.inr rfl⟩
  by_cases hroom:n+m<=cap
  ·have hfit:n*i.size+news.length<=cur.size:=by rw[hl,hcs,<-Nat.add_mul];exact SG _ hroom
   have hr:=run_append_room (P:=P) w t ty e i ht hi g n cap cur hg ad m c news hl hnews h1 hroom hfit;refine⟨_,_,hr,Same.pC rfl rfl rfl V5 hg V5 (λk _ hne=>setRow_other w g k _ (λe=>hne e)),⟨hlen,.inr ⟨g,cap,_,rfl,setRow_heap w g cur _ e _ hg,hroom,hcm,?_,?_⟩⟩,⟨by simp,λk hk hne=>setRow_other w g k _ (λe=>hne (by simp[Value.ownBlock,e]))⟩,.inl rfl⟩
   ·simp only[T3,Sf,SH,SP,T6];omega
   rw[htake,<-hlen];exact UC
  have holds : ∀j u,xs[j]? = VC u->w.cell? ((⟨g,0,VD⟩:Addr).add j)=VC u:=by intro j u hu;have:=World.ownsRow.cells (w:=w) (base:=0) (e:=e) (size:=i.size) (v:=VE (VC ⟨g,0,VD⟩) n cap) (n:=n) (xs:=xs) ⟨hown.1,.inr ⟨g,cap,cur,rfl,Tv _,hg,hnc,hcm,hcs,htake⟩⟩ (g:=g) rfl j u hu;exact this
  have hr:=run_append_grow (P:=P) w t ty e i z ht hi hz ⟨g,0,VD⟩ n cap xs hown.1 holds ad m c news hl hnews V4 V4 (growslice_fits V4 hbytes);have hgr:=grown cap V4 VD;exact⟨_,_,hr,Same.CV rfl rfl rfl hgr.2.size (λk hk=>hgr.2.block k hk V5),hgr.1,⟨hgr.2.size,λk hk _=>hgr.2.block k hk V5⟩,.inr rfl⟩
theorem dr{h:Heap}(hr:iS P (bQ op ty us) h K):step P op ty us h K:=hr
attribute [irreducible] step ia
end
section
variable{po:OP}{pp:PP}
def fresh(h h':Heap):View:=λb=>if b<h.size then VD else h'[b]?
theorem mO(h h':Heap):(fresh h h').le (vw h'):=λb o hb=>by
 unfold fresh at hb;split at hb
 ·cases hb
 exact hb
theorem kr(V:View)(h h':Heap):(fresh h h').le (grow V h h'):=λb o hb=>by
 unfold fresh at hb;unfold grow;split at hb
 ·cases hb
 rename_i hlt;rw[if_neg hlt];exact hb
structure lO(h h':Heap)(v v':Value):Prop where
 kept:Kept h h' v.ownBlock
 at_:v'.ownBlock=v.ownBlock\/v'.ownBlock=VC h.size
theorem lO.view{h h':Heap}{v v':Value}(m:lO h h' v v'){W:View}(hw:W.le (vw h))(ha:Av W v):W.le (vw h')/\Av W v':=by
 refine⟨m.kept.view hw ha,λb hb=>?_⟩;rcases m.at_ with e | e
 ·exact ha b (by rw[<-e];exact hb)
 rw[e]at hb;simp only[RW]at hb;exact View.bS hw V4
theorem Av.nil(W:View)(n c:Nat):Av W (VE VD n c):=λb hb=>by simp[Value.ownBlock]at hb
section
variable{α:Type}[Rep α]
def OwnT(W:View)(h:Heap)(e:TypeId)(v:Value)(l:List α):Prop:=
 l.length<=140737488355328/\∃xs,zQ h e (Rep.n α) v l.length xs/\∀(i:Nat) (hi:i<l.length),Rep.rd W ((xs.drop (i*Rep.n α)).take (Rep.n α)) l[i]
def SrcT(Ho Hi:View)(u:Value)(l:List α):Prop:=
 ∃a c,u = .slice a l.length c/\(a=VD->l=[])/\∃news:List Value,news.length=l.length*Rep.n α/\(∀ad,a=VC ad->∀j x,news[j]? = VC x->aq Ho (ad.add j)=VC x)/\
  ∀(i:Nat) (hi:i<l.length),Rep.rd Hi ((news.drop (i*Rep.n α)).take (Rep.n α)) l[i]
theorem OwnT.nil(W:View)(h:Heap)(e:TypeId):OwnT (α:=α) W h e (VE VD 0 0) []:=
 ⟨by simp,[],⟨by simp,.inl ⟨rfl,rfl⟩⟩,λi hi=>by simp at hi⟩
variable{W:View}{h h':Heap}{e:TypeId}{v:Value}{l:List α}
theorem OwnT.len(o:OwnT W h e v l){K:View}:Un.ev K .len v=VC (Vz VA l.length):=by
 obtain⟨_,xs,⟨_,hx⟩,_⟩:=o;rcases hx with⟨rfl,hn⟩ | ⟨g,cap,cur,rfl,_⟩
 ·rw[hn];rfl
 rfl
theorem OwnT.mono(o:OwnT W h e v l){W':View}(hw:W.le W'):OwnT W' h e v l:=
 let ⟨b,xs,h1,h2⟩:=o
 ⟨b,xs,h1,λi hi=>Rep.mono hw (h2 i hi)⟩
theorem OwnT.kept(o:OwnT W h e v l){b:Option Nat}(k:Kept h h' b)(hb:v.ownBlock=VD\/v.ownBlock≠b):OwnT W h' e v l:=
 let ⟨bd,xs,h1,h2⟩:=o
 ⟨bd,xs,h1.kept k hb,h2⟩
theorem OwnT.ext(o:OwnT W h e v l)(k:(vw h).le (vw h')):OwnT W h' e v l:=o.kept (wR k) (by cases v.ownBlock<;>simp)
variable{n:Nat}
theorem Gb{xs:List Value}{len:Nat}(hl:xs.length=len*n)(hr : ∀(i:Nat),i<len->∀u∈(xs.drop (i*n)).take n,u.oneCell'=VG): ∀u∈xs,u.oneCell'=true:=by
 intro u hu;obtain⟨j,hj,rfl⟩:=Sy hu;have hn:0<n:=by
  rcases SW n with h | h
  ·subst h;simp at hl;subst hl;simp at hj
  exact h
 have hlt:j / n<len:=by rw[Nat.div_lt_iff_lt_mul hn];omega
 refine hr (j / n) hlt _ ?_;have hm:=Nat.mod_lt j hn;have hd:=Nat.div_add_mod j n;have:((xs.drop (j / n*n)).take n)[j % n]? = VC xs[j]:=by
  rw[Tu,if_pos hm,Ug];have:j / n*n+j % n=j:=by rw[Nat.mul_comm];exact hd
  rw[this];exact SJ hj
 exact SE this
theorem Iq{xs ys:List Value}{a i:Nat}(hx:xs.length=a*n):((xs++ys).drop (i*n)).take n=if i<a then(xs.drop (i*n)).take n else(ys.drop ((i-a)*n)).take n:=by
 split
 ·rename_i h;have h1:i*n+n<=a*n:=by rw[<-Nat.succ_mul];exact SG _ h
  rw[S6 V4,SU Vt]
 rename_i h;have h1:a*n<=i*n:=SG _ V4;have h2:(i-a)*n=i*n-a*n:=Nat.sub_mul ..;rw[T7,SO V4,SV,hx,h2]
variable{P:Program}{ty:TypeId}{bytes:Nat}{y:Operand}{us:List (Nat × Value)}{K:Value->Heap->Prop}
theorem dA{t:TypeId}{z:Value}{x:Operand}{u:Value}{l2:List α}(hT:eU P t e (Rep.n α) bytes z)(hx:asg us x=v)(hy:asg us y=u)(ho:OwnT W h e v l)(hs:SrcT (vw h) W u l2)(hb:(l.length+l2.length)*bytes<=140737488355328)(hb2:l.length+l2.length<=140737488355328)(hk : ∀v' h',OwnT W h' e v' (l++l2)->lO h h' v v'->K v' h'):step P (.call ⟨.builtin .append,#[x,y],#[t,t]⟩) ty us h K:=by
 obtain⟨hbd,xs,h1,h2⟩:=ho;obtain⟨a,c,rfl,hnil,news,h3,h4,h5⟩:=hs;refine dr (cO λw hw=>?_);subst hw;have hflat : ∀u∈news,u.oneCell'=true:=Gb h3 λi hi=>Rep.flat (h5 i hi);obtain⟨v',w',g1,g2,g3,g4,g5⟩:=FA hT (ty:=ty) h1 h3 (λad ha j u hu=>h4 ad ha j u hu) (c:=c) (λha=>by rw[hnil ha];rfl) hflat hb hb2;refine⟨v',w',?_,g2,hk v' w'.heap ⟨by simpa using hb2,xs++news,by simpa using g3,λi hi=>?_⟩ ⟨g4,g5⟩⟩
 ·simp only[bQ,execOp];simp[resolve,invoke,builtin,hx,hy,g1]
 rw[Iq h1.1];split
 ·rename_i hlt;rw[T5 hlt];exact h2 i hlt
 rename_i hge;rw[Us V4];exact h5 (i-l.length) (by simp at hi;omega)
variable{H:View}
theorem SlRd.src{K:View}(s:SlRd H v l)(hk:H.le K):SrcT K H v l:=by
 obtain⟨a,cap,rfl,h1,h2,h3⟩:=s;rcases h3 with rfl | ⟨ad,rfl,hs,hat⟩
 ·exact⟨a,cap,rfl,λ_=>rfl,[],by simp,λ_ _ j x hx=>by simp at hx,λi hi=>by simp at hi⟩
 refine⟨VC ad,cap,rfl,(λh=>by cases h),?_⟩;cases hl:l with
 | nil=>exact⟨[],by simp,λ_ _ j x hx=>by simp at hx,λi hi=>by simp at hi⟩
 | cons d0 l0=>
  rw[<-hl];have hpos:0<l.length:=by rw[hl];simp
  obtain⟨cs0,⟨c,T,fz,_,hb,_⟩,_⟩:=hat 0 hpos;have hblk:H ad.block=VC (.cells c T fz):=by rw[bF hs]at hb;exact hb
  have hcs : ∀(i:Nat) (hi:i<l.length),Rep.rd H ((c.toList.drop (ad.off+i*Rep.n α)).take (Rep.n α)) l[i]:=by intro i hi;obtain⟨cs,⟨c',T',fz',_,hb',he⟩,hr⟩:=hat i hi;rw[bF hs]at hb' he;simp only at hb' he;rw[hblk]at hb';cases hb';rw[Rep.len hr]at he;rw[he];exact hr
  have htot:ad.off+l.length*Rep.n α<=c.toList.length:=by
   have:=Rep.len (hcs (l.length-1) V4);have hn:=Rep.pos (α:=α);simp only[SH,SP]at this;have e1:l.length*Rep.n α=(l.length-1)*Rep.n α+Rep.n α:=by rw[<-Nat.succ_mul];congr 1;omega
   omega
  refine⟨(c.toList.drop ad.off).take (l.length*Rep.n α),?_,?_,?_⟩
  ·simp only[SH,SP];omega
  ·intro ad' e j x hx;cases e;have hj:j<l.length*Rep.n α:=by
    rcases Sb j (l.length*Rep.n α)with h | h
    ·exact h
    rw[SM Vt]at hx;cases hx
   rw[Tu,if_pos hj,Ug]at hx;rw[bF hs];simp only[aq,hk _ _ hblk];simpa using hx
  intro i hi;have h1:i*Rep.n α+Rep.n α<=l.length*Rep.n α:=by rw[<-Nat.succ_mul];exact SG _ hi
  rw[TB,TC,TU,Tw V4];exact hcs i hi
variable{V:View}
theorem OwnT.rd(o:OwnT W h e v l)(hw:W.le V)(hv : ∀b,v.ownBlock=VC b->V b=h[b]?):SlRd V v l:=by
 obtain⟨hbd,xs,⟨hx,hown⟩,hel⟩:=o;rcases hown with⟨rfl,hn⟩ | ⟨g,cap,cur,rfl,hg,h1,h2,h3,h4⟩
 ·have:l=[]:=Ss hn;subst this;exact⟨VD,0,rfl,by simp,by simp,.inl rfl⟩
 refine⟨VC ⟨g,0,VD⟩,cap,rfl,h1,hbd,.inr ⟨_,rfl,rfl,λi hi=>?_⟩⟩;refine⟨(xs.drop (i*Rep.n α)).take (Rep.n α),⟨cur,e,(0,0),?_,?_,?_⟩,Rep.mono hw (hel i hi)⟩
 ·rw[bF rfl]
 ·rw[bF rfl];rw[hv g rfl];exact hg
 rw[bF rfl,Rep.len (hel i hi)];have hle:i*Rep.n α+Rep.n α<=l.length*Rep.n α:=by rw[<-Nat.succ_mul];exact SG _ hi
 rw[<-h4,TB,TC];simp only[Tj];rw[Tw V4]
theorem OwnT.fresh{h0:Heap}(o:OwnT W h e v l)(hW:W.le (fresh h0 h))(ha:Av (vw h0) v):SlRd (Lft.fresh h0 h) v l:=by
 refine o.rd hW λb hb=>?_;have:=ha b hb;simp only[vw]at this;have hge:h0.size<=b:=by
  rcases Sb b h0.size with h | h
  ·simp[h]at this
  exact h
 simp only[Lft.fresh,if_neg (Vq.2 hge)]
theorem ni{t:TypeId}{z:Value}{x:Operand}{u:Value}{d:α}(hT:eU P t e (Rep.n α) bytes z)(hx:asg us x=u)(hr:Rd W u d)(hk : ∀u' h',SrcT (vw h') W u' [d]->(vw h).le (vw h')->h'.size=h.size+1->K u' h'):step P (.buildSlice t 1 #[(0,x)]) ty us h K:=by
 have hTT:=hT;obtain⟨ht,⟨i,hi,hz,hsize,hby⟩,hzs,hsz,hsmall⟩:=hT;have hcells:Rep.rd W u.cells.toList d/\u.cells.size=Rep.n α:=by
  unfold Rd at hr;split at hr
  ·obtain⟨cs,rfl,h⟩:=hr;exact⟨h,by rw[<-Rep.len h];rfl⟩
  rename_i ha;have hone:=Rep.one (α:=α) (by simpa using ha);have hfl:=Rep.flat hr u V5;have:u.cells = #[u]:=by cases u<;>first | rfl | simp[Value.oneCell']at hfl
  rw[this];exact⟨by simpa using hr,by simp[hone]⟩
 have hfill:Instr.fill (λj=>VC (j*Rep.n α,Rep.n α)) ((Array.range (1*Rep.n α)).map (z.cells[· % z.cells.size]!)) [(0,u)]=VC u.cells:=by
  have hlen : ∀(A:Array Value) (cs:Array Value),A.size=cs.size->cs.zipIdx.foldl (λcs' (p:Value × Nat)=>cs'.setIfInBounds (0+p.2) p.1) A=cs:=by
   intro A cs hA;have key : ∀(l:List Value) (k:Nat) (B:Array Value),B.size=k+l.length->((l.zipIdx k).foldl (λcs' (p:Value × Nat)=>cs'.setIfInBounds (0+p.2) p.1) B).toList=B.toList.take k++l:=by
    intro l;induction l with
    | nil=>intro k B hB;simp at hB;simp only[List.zipIdx_nil,Vm,TR];rw[Sr (by simp[hB])]
    | cons y l ih=>
     intro k B hB;simp only[UQ,Sx];rw[ih (k+1) _ (by simp at hB ⊢;omega)];simp only[Tj,UZ];have hk:k<B.toList.length:=by simp at hB ⊢;omega
     rw[Si (by simpa using hk)];simp[UU]
   rw[<-Array.toList_inj,<-Array.foldl_toList,Array.toList_zipIdx];have:=key cs.toList 0 A (by simpa using hA);simpa using this
  simp only[Instr.fill,Um,Tj,Array.size_map,Array.size_range,U8,hcells.2,ne_eq,not_true,decide_false,Vp,gt_iff_lt,Nat.lt_irrefl];simp only[Ts,if_false];congr 1;have:=hlen ((Array.range (Rep.n α)).map (z.cells[· % z.cells.size]!)) u.cells (by simp[hcells.2]);simpa using this
 refine rD ht hi hz hsize V4 (vs:=[(0,u)]) (by simp[hx]) hfill (hk _ _ ?_ (b8 _ _) V5);refine⟨VC ⟨h.size,0,VD⟩,1,rfl,(λh=>by cases h),u.cells.toList,by simp[hcells.2],?_,?_⟩
 ·intro ad e j x hx;cases e;rw[bF rfl];simp only[aq,vw,Uw];simpa using hx
 intro i hi';simp only[SL,Uy,Tj,Nat.lt_one_iff]at hi';subst hi';have:(u.cells.toList.take (Rep.n α))=u.cells.toList:=by rw[Sr];simp[hcells.2]
 simpa[this]using hcells.1
theorem oZ{t:TypeId}{z:Value}{x:Operand}{k:IntKind}{d:α}(hT:eU P t e (Rep.n α) bytes z)(hx:asg us x = .int k n)(hy:asg us y = .int k n)(hr:Rep.rd W z.cells.toList d)(hb:bytes*n<=140737488355328)(hb2:n<=140737488355328)(hk : ∀v' h',OwnT W h' e v' (List.replicate n d)->lO h h' (VE VD 0 0) v'->(vw h).le (vw h')->v'.ownBlock=VC h.size->K v' h'):step P (.makeSlice t x y) ty us h K:=by
 obtain⟨ht,⟨i,hi,hz,hsize,hby⟩,hzs,hsz,hsmall⟩:=hT;refine dr (cO λw hw=>?_);subst hw;have hrun:=run_make (P:=P) w t e i z ht hi hz k k (n:Int) (n:Int) V4 (Tf _) (by
  rw[hby];have:((bytes*n:Nat):Int)<=281474976710656:=by omega
  rwa [Int.natCast_mul]at this) V4;simp only[Sn]at hrun;refine⟨VE (VC ⟨w.heap.size,0,VD⟩) n n,w.alloc (.cells (madeCells z.cells (n*i.size)) e),?_,jl _ _,hk _ _ ?_ ⟨Kept.push _ _ _,.inr rfl⟩ (b8 _ _) rfl⟩
 ·simp only[bQ,execOp,hx,hy];simp[hrun]
 refine⟨by simpa using hb2,((madeCells z.cells (n*Rep.n α)).toList.take (n*Rep.n α)),⟨by simp[size_madeCells],.inr ⟨w.heap.size,n,madeCells z.cells (n*Rep.n α),by simp,?_,by simp,by simp only[maxLen];omega,by simp[size_madeCells],by simp⟩⟩,?_⟩
 ·rw[hsize];exact heap_alloc_new w _
 intro j hj;simp only[SN]at hj;have he:((((madeCells z.cells (n*Rep.n α)).toList.take (n*Rep.n α)).drop (j*Rep.n α)).take (Rep.n α))=z.cells.toList:=by
  have h1:j*Rep.n α+Rep.n α<=n*Rep.n α:=by rw[<-Nat.succ_mul];exact SG _ hj
  refine TJ ?_ λm hm1 hm2=>?_
  ·simp[size_madeCells,hzs];omega
  simp only[SH,SP]at hm1;simp only[U6,UD,madeCells,Array.toList_map,Ve,Array.toList_range,List.getElem_range];have hm:m<z.cells.size:=by simpa using hm2
  have hmod:(j*Rep.n α+m) % z.cells.size=m:=by rw[hzs,Nat.mul_comm,Nat.mul_add_mod];exact Nat.mod_eq_of_lt V4
  rw[hmod];simp[hm]
 rw[he];simpa using hr
theorem uR{t:TypeId}{x:Operand}{i:Nat}{u:Value}{d:α}(hsz:da P t=VC (Rep.n α))(hx:asg us x = VF (VC ((slA v).add (i*Rep.n α))))(hy:asg us y=u)(ho:OwnT W h e v l)(hi:i<l.length)(hr:Rd W u d)(hk : ∀h',OwnT W h' e v (l.set i d)->lO h h' v v->K undef h'):step P (.store t x y) ty us h K:=by
 have hcells:Rep.rd W u.cells.toList d/\u.cells.size=Rep.n α:=by
  unfold Rd at hr;split at hr
  ·obtain⟨cs,rfl,h⟩:=hr;exact⟨h,by rw[<-Rep.len h];rfl⟩
  rename_i ha;have hone:=Rep.one (α:=α) (by simpa using ha);have hfl:=Rep.flat hr u V5;have:u.cells = #[u]:=by cases u<;>first | rfl | simp[Value.oneCell']at hfl
  rw[this];exact⟨by simpa using hr,by simp[hone]⟩
 obtain⟨hbd,xs,⟨hxl,hown⟩,hel⟩:=ho;refine dr (pO λw hw=>?_);subst hw;rcases hown with⟨rfl,hn⟩ | ⟨g,cap,cur,rfl,hg,h1,h2,h3,h4⟩
 ·omega
 have hle:i*Rep.n α+Rep.n α<=l.length*Rep.n α:=by rw[<-Nat.succ_mul];exact SG _ hi
 have hcap:l.length*Rep.n α<=cap*Rep.n α:=SG _ h1;have hlen:u.cells.toList.length=Rep.n α:=by simpa using hcells.2
 have hrun:=run_storeCells_at P g (i*Rep.n α) e u.cells.toList 0 cur w hg (by simp only[Nat.add_zero];omega) (λc hc=>Rep.flat hcells.1 c hc);have hadd:(slA (VE (VC ⟨g,0,VD⟩) l.length cap)).add (i*Rep.n α)=⟨g,i*Rep.n α,VD⟩:=by show(⟨g,0,VD⟩:Addr).add _=_;rw[bF rfl];simp
 have hszr:=run_sizeOf (P:=P) (w:=w) hsz;obtain⟨row,hrow⟩ : ∃row:Array Value,row.toList=cur.toList.take (i*Rep.n α)++u.cells.toList++cur.toList.drop (i*Rep.n α+Rep.n α):=⟨(cur.toList.take (i*Rep.n α)++u.cells.toList++cur.toList.drop (i*Rep.n α+Rep.n α)).toArray,rfl⟩;have hrun':Sem.run P (storeCells ⟨g,i*Rep.n α,VD⟩ u.cells.toList) w = .ok () (w.setRow g row):=by rw[hrun];congr 2;rw[<-Array.toList_inj,hrow,hlen];rfl
 have hrsz:row.size=cap*Rep.n α:=by have:=congrArg List.length hrow;simp only[T6,Sf,SH,SP,hcells.2]at this;omega
 refine⟨w.setRow g row,?_,Same.pC rfl rfl rfl V5 hg V5 (λk _ hne=>setRow_other w g k _ (λe=>hne e)),hk (w.setRow g row).heap ⟨by simpa using hbd,xs.take (i*Rep.n α)++u.cells.toList++xs.drop (i*Rep.n α+Rep.n α),⟨?_,.inr ⟨g,cap,row,by simp,setRow_heap w g cur row e _ hg,by simpa using h1,h2,?_,?_⟩⟩,?_⟩ ⟨⟨by simp,λk hk hne=>setRow_other w g k _ (λe=>hne (by simp[Value.ownBlock,e]))⟩,.inl rfl⟩⟩
 ·simp only[bQ,execOp,hx,hy,hadd];simp[Instr.storeAt,Instr.sureAddr,storeVar,hszr,hcells.2,hrun']
 ·simp only[Sf,SH,SP,hlen,SC];omega
 ·exact hrsz
 ·simp only[SC];rw[hrow,<-h4,TC,Tw V4,Sk,Sk];have e1:(cur.toList.take (i*Rep.n α)).length=i*Rep.n α:=by simp;omega
  rw[TK,e1,Sr V4];congr 1;rw[TK,hlen,Sr V4];congr 1;rw[TB];congr 1;omega
 intro j hj;simp only[SC]at hj;have hjle:j*Rep.n α+Rep.n α<=l.length*Rep.n α:=by rw[<-Nat.succ_mul];exact SG _ hj
 have e1:(xs.take (i*Rep.n α)).length=i*Rep.n α:=by simp;omega
 by_cases hij:i=j
 ·subst hij;rw[Sk,T7,e1,SO V4,SV,Uo,TW,SU V4,Sr V4];simpa using hcells.1
 have hset:(l.set i d)[j]'(by simpa using hj)=l[j]:=by simp[hij]
 rw[hset];have:((xs.take (i*Rep.n α)++u.cells.toList++xs.drop (i*Rep.n α+Rep.n α)).drop (j*Rep.n α)).take (Rep.n α)=(xs.drop (j*Rep.n α)).take (Rep.n α):=by
  rcases Sb j i with hlt | hge
  ·have h5:j*Rep.n α+Rep.n α<=i*Rep.n α:=by rw[<-Nat.succ_mul];exact SG _ hlt
   rw[Sk,S6 V4,SU Vt,TB,TC,Tw V4]
  have h5:i*Rep.n α+Rep.n α<=j*Rep.n α:=by rw[<-Nat.succ_mul];exact SG _ V4
  have e2:(xs.take (i*Rep.n α)++u.cells.toList).length=i*Rep.n α+Rep.n α:=by rw[Sf,e1,hlen]
  rw[T7,SO V4,SV,e2,TU];congr 2;omega
 rw[this];exact hel j hj
end
end
section
variable{po po2 po3:OP}{pp:PP}
def up{β:Type}(f:Nat->β->β):Nat->β->β
 | 0,x=>x
 | k+1,x=>f k (up f k x)
def Old(V:View)(h0:Heap)(W:View):Prop:=∀b o,b<h0.size->W b=VC o->V b=VC o
theorem Old.refl(V:View)(h0:Heap):Old V h0 V:=λ_ _ _ h=>h
theorem Old.nothing(V:View)(h0:Heap):Old V h0 nothing:=λ_ _ _ h=>by cases h
theorem Old.grow{V W:View}{h0 h1 h2:Heap}(o:Old V h0 W)(hs:h0.size<=h1.size):Old V h0 (grow W h1 h2):=λb x hb hx=>by unfold Lft.grow at hx;rw[if_pos V4]at hx;exact o b x hb hx
theorem Old.le{V W:View}{h0 h:Heap}(o:Old V h0 W)(hw:W.le (vw h)):W.le (Lft.grow V h0 h):=λb x hx=>by
 unfold Lft.grow;split
 ·exact o b x (by assumption) hx
 exact hw b x hx
variable{H:View}
@[simp] theorem cB:nothing.le H:=λ_ _ h=>by cases h
theorem Kj(h h':Heap):fresh h h'=Lft.grow nothing h h':=by funext b;unfold fresh Lft.grow;rfl
section
variable{α:Type}[Rep α]{V W:View}{h0 h h':Heap}{e:TypeId}{v:Value}{l:List α}
theorem OwnT.lt(o:OwnT W h e v l){b:Nat}(hb:v.ownBlock=VC b):b<h.size:=by
 obtain⟨_,xs,⟨_,hown⟩,_⟩:=o;rcases hown with⟨rfl,_⟩ | ⟨g,cap,cur,rfl,hg,_⟩
 ·simp[Value.ownBlock]at hb
 simp only[Value.ownBlock,RW]at hb;subst hb;exact(Sj.1 hg).1
theorem OwnT.now(o:OwnT W h e v l)(hw:W.le (vw h)):SlRd (vw h) v l:=o.rd hw λ_ _=>rfl
theorem OwnT.grown(o:OwnT W h e v l)(hw:W.le (vw h))(ho:Old V h0 W)(ha:Av (vw h0) v):SlRd (Lft.grow V h0 h) v l:=by
 refine o.rd (ho.le hw) λb hb=>?_;have:=ha b hb;simp only[vw]at this;have hge:h0.size<=b:=by
  rcases Sb b h0.size with h | h
  ·simp[h]at this
  exact h
 simp only[Lft.grow,if_neg (Vq.2 hge)]
theorem Av.grow(ha:Av W v)(hl : ∀b,v.ownBlock=VC b->b<h.size):Av (Lft.grow W h h') v:=λb hb=>by unfold Lft.grow;rw[if_pos (hl b hb)];exact ha b hb
structure Mine(V:View)(h0 h:Heap)(W:View)(e:TypeId)(v:Value)(l:List α):Prop where
 old:(vw h0).le (vw h)
 wle:W.le (vw h)
 av:Av W v
 av0:Av (vw h0) v
 agree:Old V h0 W
 own:OwnT W h e v l
theorem Mine.start(hV:V.le (vw h)):Mine (α:=α) V h h V e (VE VD 0 0) []:=
 ⟨View.le_refl _,hV,Av.nil _ _ _,Av.nil _ _ _,Old.refl _ _,OwnT.nil ..⟩
theorem Mine.ext(m:Mine V h0 h W e v l)(k:(vw h).le (vw h')):Mine V h0 h' (Lft.grow W h h') e v l:=
 ⟨Vx m.old k,km (Vx m.wle k),m.av.grow λ_ hb=>m.own.lt hb,m.av0,m.agree.grow (bL m.old),(m.own.ext k).mono (bC m.wle)⟩
theorem Mine.ext'(m:Mine V h0 h W e v l)(k:(vw h).le (vw h')):Mine V h0 h' W e v l:=
 ⟨Vx m.old k,Vx m.wle k,m.av,m.av0,m.agree,m.own.ext k⟩
theorem Mine.result(m:Mine V h0 h W e v l):SlRd (Lft.grow V h0 h) v l:=m.own.grown m.wle m.agree m.av0
theorem Mine.fresh(m:Mine nothing h0 h W e v l):SlRd (Lft.fresh h0 h) v l:=by rw[Kj];exact m.result
theorem Mine.now(m:Mine V h0 h W e v l):SlRd (vw h) v l:=m.own.now m.wle
theorem Mine.gK{v':Value}{l':List α}(m:Mine V h0 h W e v l)(o:OwnT W h' e v' l')(k:lO h h' v v'):Mine V h0 h' W e v' l':=
 let ⟨a1,a2⟩:=k.view m.wle m.av
 let ⟨b1,b2⟩:=k.view m.old m.av0
 ⟨b1,a1,a2,b2,m.agree,o⟩
variable{P:Program}{ty ty2:TypeId}{bytes:Nat}{y:Operand}{us:List (Nat × Value)}{us2:Value->List (Nat × Value)}
theorem Mine.push{t:TypeId}{z:Value}{x y2:Operand}{u:Value}{d:α}{K:Value->Value->Heap->Prop}(m:Mine V h0 h W e v l)(hT:eU P t e (Rep.n α) bytes z)(hx:asg us x=u)(hr:Rd W u d)(hb:(l.length+1)*bytes<=140737488355328)(hb2:l.length+1<=140737488355328)(hy : ∀u,asg (us2 u) y=v)(hy2 : ∀u,asg (us2 u) y2=u)(hk : ∀u v' h',Mine V h0 h' W e v' (l++[d])->K u v' h'):
  @step po P (.buildSlice t 1 #[(0,x)]) ty us h λu h2=>@step po2 P (.call ⟨.builtin .append,#[y,y2],#[t,t]⟩) ty2 (us2 u) h2 λv' h3=>K u v' h3:=by refine ni hT hx hr λu h2 hs hle _=>?_;have m2:=m.ext' hle;exact dA hT (hy u) (hy2 u) m2.own hs hb hb2 λv' h3 ho hm=>hk u v' h3 (m2.gK ho hm)
variable{n:Nat}{K:Value->Heap->Prop}
theorem Mine.made{t:TypeId}{z:Value}{x:Operand}{k:IntKind}{d:α}(hT:eU P t e (Rep.n α) bytes z)(hle:(vw h0).le (vw h))(hW:W.le (vw h))(ho:Old V h0 W)(hx:asg us x = .int k n)(hy:asg us y = .int k n)(hr:Rep.rd W z.cells.toList d)(hb:bytes*n<=140737488355328)(hb2:n<=140737488355328)(hk : ∀v' h',Mine V h0 h' W e v' (List.replicate n d)->(vw h).le (vw h')->v'.ownBlock=VC h.size->K v' h'):step P (.makeSlice t x y) ty us h K:=
 oZ hT hx hy hr hb hb2 λv' h' ow mv le hb=>hk v' h' ⟨Vx hle le,Vx hW le,λb hb'=>by rw[hb]at hb';cases hb';exact View.bS hW (RX _),λb hb'=>by rw[hb]at hb';cases hb';exact View.bS hle (RX _),ho,ow⟩ le hb
theorem Mine.put{t:TypeId}{x:Operand}{i:Nat}{u:Value}{d:α}(m:Mine V h0 h W e v l)(hsz:da P t=VC (Rep.n α))(hx:asg us x = VF (VC ((slA v).add (i*Rep.n α))))(hy:asg us y=u)(hi:i<l.length)(hr:Rd W u d)(hk : ∀h',Mine V h0 h' W e v (l.set i d)->K undef h'):step P (.store t x y) ty us h K:=
 uR hsz hx hy m.own hi hr λh' ho hm=>hk h' (m.gK ho hm)
theorem Mine.put1{t:TypeId}{x:Operand}{i:Nat}{u:Value}{d:α}(m:Mine V h0 h W e v l)(hsz:da P t=VC (Rep.n α))(hn:Rep.n α=1)(hx:asg us x = VF (VC ((slA v).add i)))(hy:asg us y=u)(hi:i<l.length)(hr:Rd W u d)(hk : ∀h',Mine V h0 h' W e v (l.set i d)->K undef h'):step P (.store t x y) ty us h K:=
 m.put hsz (i:=i) (by rw[hn,SX];exact hx) hy hi hr hk
end
variable{β:Type}
theorem H7{f:Nat->List β->List β}{m:Nat}(hf : ∀k x,(f k x).length<=x.length+m)(n:Nat)(x:List β):(up f n x).length<=x.length+n*m:=by
 induction n with
 | zero=>simp[up]
 | succ n ih=>have:=hf n (up f n x);rw[up,S5];omega
def sift{β:Type}(p:Nat->Bool)(x:Nat->β)(n:Nat):List β:=up (λb l=>if p b then l++[x b] else l) n []
theorem qv{p:Nat->Bool}{x:Nat->β}(n:Nat):(sift p x n).length<=n:=by have:=H7 (f:=λb l=>if p b then l++[x b] else l) (m:=1) (λk x=>by split<;>simp) n [];simpa[sift]using this
variable{n:Nat}
theorem pJ{p:Nat->Bool}{x:Nat->β}(h:p n=VG):sift p x (n+1)=sift p x n++[x n]:=by rw[sift,up,if_pos h];rfl
theorem nX{p:Nat->Bool}{x:Nat->β}(h:p n=VH):sift p x (n+1)=sift p x n:=by rw[sift,up,if_neg (by simp[h])];rfl
def rows{β:Type}(x:Nat->β)(n:Nat):List β:=(List.range n).map x
theorem fJ{x:Nat->β}:rows x (n+1)=rows x n++[x n]:=by simp[rows,TD]
@[simp] theorem qd{x:Nat->β}:(rows x n).length=n:=by simp[rows]
@[simp] theorem P9{x:Nat->β}:rows x 0=[]:=rfl
@[simp] theorem P5{p:Nat->Bool}{x:Nat->β}:sift p x 0=[]:=rfl
theorem tB{p:Nat->Bool}{x:Nat->β}:sift p x n=((List.range n).filter p).map x:=by
 induction n with
 | zero=>rfl
 | succ n ih=>
  rw[TD,TL,TP,<-ih];cases h:p n with
  | true=>rw[pJ h];simp[h]
  | false=>rw[nX h];simp[h]
theorem As{x:Nat->β}{d:β}{k:Nat}(hk:k<n):(rows x k++List.replicate (n-k) d).set k (x k)=rows x (k+1)++List.replicate (n-(k+1)) d:=by
 have e:n-k=(n-(k+1))+1:=by omega
 rw[List.set_append_right _ _ V5,qd,Uo,e,List.replicate_succ,List.set_cons_zero,fJ,Sk];rfl
theorem gF[Inhabited β]{x:Nat->β}{i:Nat}(h:i<n):nth (rows x n) i=x i:=by rw[az (by simpa using h)];simp[rows]
theorem Aa{h h1 h2:Heap}(hle:(vw h).le (vw h1)):(fresh h1 h2).le (fresh h h2):=λb o hb=>by
 have:=bL hle;unfold fresh at hb ⊢;split at hb
 ·cases hb
 rw[if_neg V4];exact hb
variable{P:Program}{size bytes:Nat}
theorem gZ{t e:Nat}{z:Value}(ht:P.underlying t=VC (.slice e))(h:(P.info? e).map (λi=>(i.zero,i.size,i.bytes))=VC (VC z,size,bytes))(hz:z.cells.size=size)(hs:0<size/\size<=1000):eU P t e size bytes z:=by simp only[Sc,TM]at h;obtain⟨i,h1,h2,h3,h4⟩:=h;exact⟨ht,⟨i,h1,h2,h3,h4⟩,hz,hs.1,hs.2⟩
theorem sB{a:Int}(h0:-9223372036854775808<=a)(h1:a<=9223372036854775807):Rd H (Vz VA a) a:=bu.2 ⟨rfl,h0,h1⟩
variable{b:Bool}
theorem PE:Rd H (.bool b) b:=qN.2 rfl
end
section
variable{po:OP}{pp:PP}
variable{ρ:Env}
theorem ag{ts:List Nat}{u:Nat}:look (cK ρ ts) u=if ts.contains u then VD else look ρ u:=by
 induction ρ with
 | nil=>simp
 | cons p ρ ih=>
  obtain⟨k,x⟩:=p;rw[oG];by_cases hk:ts.contains k=VG
  ·simp only[hk,if_true,ih,xz];split
   ·rfl
   rename_i h;split
   ·rename_i e;subst e;exact absurd hk h
   rfl
  rw[if_neg hk,xz,xz,ih];by_cases h1:k=u
  ·subst h1;rw[if_pos rfl,if_pos rfl,if_neg hk]
  rw[if_neg h1,if_neg h1]
theorem pK{ρ ρ':Env} : ∀{ks:List Nat},(∀t∈ks,look ρ t=look ρ' t)->aY ks ρ=aY ks ρ'
 | [],_=>rfl
 | k::ks,h=>by have ih:aY ks ρ=aY ks ρ':=pK λt ht=>h t (Sa _ ht);simp only[aY,h k Sg,ih]
theorem nU{ts:List Nat}(h : ∀p∈ρ,ts.contains p.1=VH):cK ρ ts=ρ:=by
 induction ρ with
 | nil=>rfl
 | cons p ρ ih=>obtain⟨k,x⟩:=p;have h1:=h (k,x) Sg;simp only at h1;rw[oG,h1,if_neg V5,ih (λp hp=>h p (Sa _ hp))]
theorem nZ{t:Nat}{v:Value}(h : ∀p∈ρ,p.1≠t):cK (setE ρ t v) [t]=ρ:=by
 have hid:cK ρ [t]=ρ:=nU λp hp=>by simpa using λe=>h p hp e
 induction ρ with
 | nil=>simp[setE]
 | cons p ρ ih=>
  obtain⟨k,x⟩:=p;have hk:=h (k,x) Sg;simp only at hk;have hid2:cK ρ [t]=ρ:=nU λp hp=>by simpa using λe=>h p (Sa _ hp) e
  simp only[setE,if_neg hk];split
  ·rw[oG,if_pos V5,hid]
  rw[oG,if_neg (by simpa using hk),ih (λp hp=>h p (Sa _ hp)) hid2]
theorem oW{X Y:Env->Heap->Prop}{R:Post}:fL X (fL Y R)=fL X R:=by funext e ρ h;cases e<;>rfl
abbrev forL(a i c:Nat)(ks ks2:List Nat)(bound:E)(body:LC):LC:=
 .loop (.seq (.seq (.reg VH (.fin ks [(c,.bin (.cmp .lss) (.tmp i) bound)] [])) (.cond (.tmp c) [c] .skip (.exit a)))
  (.seq body (.reg VH (.fin ks2 [(i,.bin (.arith .add) (.tmp i) (.con (Vz VA 1)))] []))))
def xR(kp ks ks2:List Nat)(c i:Nat):Bool:=kp.all λt=>!ks.contains t&&t != c&&(t == i||!ks2.contains t)
theorem zip_fst{kp:List Nat}{vs:List Value}{p:Nat × Value}(h:p∈kp.zip vs):p.1∈kp:=(List.of_mem_zip h).1
variable{P:Program}{body:LC}
theorem dy{Q:Post}{h:Heap}{a i c:Nat}{ks ks2:List Nat}{bound:E}{σ:Type}(kp:List Nat)(vals:σ->Nat->List Value)(J:σ->Nat->Heap->Prop)(n:Nat)(s0:σ)(hok:xR kp ks ks2 c i=VG)(hn:n<=9223372036854775806)(h0:aY kp ρ=kp.zip (vals s0 0))(hj:J s0 0 h)(hi : ∀s k,look (kp.zip (vals s k)) i=VC (Vz VA k))(hb : ∀s k h,k<=n->J s k h->ev (look (kp.zip (vals s k))) (vw h) bound=VC (Vz VA n))(round : ∀s k h,k<n->J s k h->∀K:Env->Heap->Prop,(∀s' ρ' h',look ρ' i=VC (Vz VA k)->aY kp (setE ρ' i (Vz VA ((k:Int)+1)))=kp.zip (vals s' (k+1))->J s' (k+1) h'->K ρ' h')->body.wp P (fL K (eY a Q)) (kp.zip (vals s k)) h)(done : ∀s h,J s n h->Q .normal (kp.zip (vals s n)) h):LC.wp P (forL a i c ks ks2 bound body) (eY a Q) ρ h:=by
 simp only[xR,SR,Se,Tm,bne_iff_ne,S1,beq_iff_eq,ne_eq]at hok;refine js kp (λm ρ h=>∃s k,k<=n/\ρ=kp.zip (vals s k)/\m=n-k/\J s k h) n ⟨s0,0,by omega,h0,by omega,hj⟩ ?_;rintro m ρ h ⟨s,k,hk,rfl,rfl,hJ⟩ K hK;have hkill:cK (kp.zip (vals s k)) ks=kp.zip (vals s k):=nU λp hp=>(hok p.1 (zip_fst hp)).1.1;have hne : ∀p∈kp.zip (vals s k),p.1≠c:=λp hp=>(hok p.1 (zip_fst hp)).1.2;have hk2 : ∀v,cK (setE (kp.zip (vals s k)) c v) [c]=kp.zip (vals s k):=λv=>nZ hne;have hlk : ∀v,look (setE (kp.zip (vals s k)) c v) c=VC v:=λv=>by rw[af,if_pos rfl]
 simp only[wI,nK,kN,iQ,mS,pA,nO,rY,hi,hb s k h hk hJ,SA,JX,lA,oV,true_and,dC,hkill,gp,oE,hlk,nG,hk2,wG,we,ry,qA,if_true];refine⟨λhlt=>?_,λhge=>?_⟩
 ·have hlt':k<n:=by omega
  rw[oW];refine round s k h hlt' hJ _ λs' ρ' h' hl he hJ'=>?_;simp only[nK,kN,iQ,mS,pA,nO,rY,hl,oV,true_and,SA,Ce,SA,C3,lA,dC,gp,true_and];rw[bj V4 V4];refine hK (n-(k+1)) _ _ V4 ⟨s',k+1,by omega,?_,rfl,hJ'⟩;rw[<-he];refine pK λt ht=>?_;rw[af,af,ag];split
  ·rfl
  rename_i hti;rcases(hok t ht).2 with e | e
  ·exact absurd e.symm hti
  rw[e];rfl
 have:k=n:=by omega
 subst this;exact done s h hJ
abbrev forR(a i c:Nat)(ks ks2:List Nat)(bound:E)(body:LC):LC:=
 .loop (.seq (.reg VH (.fin ks [(c,.bin (.cmp .lss) (.tmp i) bound)] [])) (.seq (.cond (.tmp c) [c] .skip (.exit a))
  (.seq body (.reg VH (.fin ks2 [(i,.bin (.arith .add) (.tmp i) (.con (Vz VA 1)))] [])))))
theorem aF{Q:Post}{h:Heap}{a i c:Nat}{ks ks2:List Nat}{bound:E}{σ:Type}(kp:List Nat)(vals:σ->Nat->List Value)(J:σ->Nat->Heap->Prop)(n:Nat)(s0:σ)(hok:xR kp ks ks2 c i=VG)(hn:n<=9223372036854775806)(h0:aY kp ρ=kp.zip (vals s0 0))(hj:J s0 0 h)(hi : ∀s k,look (kp.zip (vals s k)) i=VC (Vz VA k))(hb : ∀s k h,k<=n->J s k h->ev (look (kp.zip (vals s k))) (vw h) bound=VC (Vz VA n))(round : ∀s k h,k<n->J s k h->∀K:Env->Heap->Prop,(∀s' ρ' h',look ρ' i=VC (Vz VA k)->aY kp (setE ρ' i (Vz VA ((k:Int)+1)))=kp.zip (vals s' (k+1))->J s' (k+1) h'->K ρ' h')->body.wp P (fL K (eY a Q)) (kp.zip (vals s k)) h)(done : ∀s h,J s n h->Q .normal (kp.zip (vals s n)) h):LC.wp P (forR a i c ks ks2 bound body) (eY a Q) ρ h:=by
 simp only[xR,SR,Se,Tm,bne_iff_ne,S1,beq_iff_eq,ne_eq]at hok;refine js kp (λm ρ h=>∃s k,k<=n/\ρ=kp.zip (vals s k)/\m=n-k/\J s k h) n ⟨s0,0,by omega,h0,by omega,hj⟩ ?_;rintro m ρ h ⟨s,k,hk,rfl,rfl,hJ⟩ K hK;have hkill:cK (kp.zip (vals s k)) ks=kp.zip (vals s k):=nU λp hp=>(hok p.1 (zip_fst hp)).1.1;have hne : ∀p∈kp.zip (vals s k),p.1≠c:=λp hp=>(hok p.1 (zip_fst hp)).1.2;have hk2 : ∀v,cK (setE (kp.zip (vals s k)) c v) [c]=kp.zip (vals s k):=λv=>nZ hne;have hlk : ∀v,look (setE (kp.zip (vals s k)) c v) c=VC v:=λv=>by rw[af,if_pos rfl]
 simp only[wI,nK,kN,iQ,mS,pA,nO,rY,hi,hb s k h hk hJ,SA,JX,lA,oV,true_and,dC,hkill,gp,oE,hlk,nG,hk2,wG,we,ry,qA,if_true];refine⟨λhlt=>?_,λhge=>?_⟩
 ·have hlt':k<n:=by omega
  rw[oW];refine round s k h hlt' hJ _ λs' ρ' h' hl he hJ'=>?_;simp only[nK,kN,iQ,mS,pA,nO,rY,hl,oV,true_and,SA,Ce,SA,C3,lA,dC,gp,true_and];rw[bj V4 V4];refine hK (n-(k+1)) _ _ V4 ⟨s',k+1,by omega,?_,rfl,hJ'⟩;rw[<-he];refine pK λt ht=>?_;rw[af,af,ag];split
  ·rfl
  rename_i hti;rcases(hok t ht).2 with e | e
  ·exact absurd e.symm hti
  rw[e];rfl
 have:k=n:=by omega
 subst this;exact done s h hJ
theorem aN{Q:Post}{h:Heap}{r:Reg}(H:View)(hH:H.le (vw h))(hw:eZ P (VC H) r (Q .normal) ρ h):LC.wp P (.reg VG r) Q ρ h:=⟨H,View.zv hH,kQ (λ_ _=>View.zv) hw⟩
theorem IJ{Q:Post}{h:Heap}{r:Reg}(H:View)(hH:H.sub (vw h))(hw:dd View.sub P (VC H) r (Q .normal) ρ h):LC.wp P (.reg VG r) Q ρ h:=⟨H,hH,hw⟩
end
section
variable{po po2 po3:OP}{pp:PP}
variable{n:Nat}
@[simp] theorem QH{b o:Nat}:(⟨b,o,VD⟩:Addr).add n=⟨b,o+n,VD⟩:=bF rfl n
variable{H:View}
@[simp] theorem Qc{a:Addr}:Un.ev H .nilPtr (VF (VC a))=VC (VF (VC a)):=rfl
@[simp] theorem RF{a:Addr}{o:Nat}:Un.ev H (.fld o) (VF (VC a))=VC (VF (VC (a.add o))):=rfl
@[simp] theorem Q6{k q:IntKind}{a:Int}:Un.ev H (.conv k) (.int q a)=VC (.int k (k.wrap a)):=rfl
variable{cs:Array Value}
@[simp] theorem Ra{o:Nat}:Un.ev H (.part o) (.agg cs)=cs[o]?:=rfl
@[simp] theorem Qr{o:Nat}:Un.ev H (.parts o n) (.agg cs)=VC (.agg (cs.extract o (o+n))):=rfl
@[simp] theorem Rz{o:Nat}:Un.ev H (.ext o) (.tuple cs)=cs[o]?:=rfl
def ON:Value->Value->Option Value
 | .tuple vs,u=>VC (.tuple (vs.push u))
 | _,_=>VD
@[simp] theorem Od{vs:Array Value}{u:Value}:ON (.tuple vs) u=VC (.tuple (vs.push u)):=rfl
@[simp] theorem Pq{σ:Nat->Option Value}{x y:E}:ev σ H (.snoc x y)=(ev σ H x).bind λv=>(ev σ H y).bind λu=>ON v u:=by
 simp only[ev];cases hx:ev σ H x with
 | none=>rfl
 | some v=>
  cases hy:ev σ H y with
  | none=>cases v<;>rfl
  | some u=>cases v<;>rfl
@[simp] theorem RU{f:Nat}{vs:Array Value}:Un.ev H (.fn f) (.tuple vs)=VC (.func (.func f) #[] vs):=rfl
@[simp] theorem P4:(Value.agg cs).cells=cs:=rfl
@[simp] theorem OH{a:Option Addr}{c:Nat}:(Value.slice a n c).cells = #[.slice a n c]:=rfl
@[simp] theorem Qe{k:IntKind}{n:Int}:(Vz k n).cells = #[.int k n]:=rfl
variable{b:Bool}
@[simp] theorem Pd:(Value.bool b).cells = #[.bool b]:=rfl
@[simp] theorem L7{a:Option Addr}:(Value.pointer a).cells = #[.pointer a]:=rfl
def GV(P:Program)(t:TypeId):Option (List (Nat × Nat)):=
 match P.underlying t with
 | some (.struct fields)=>fields.toList.mapM λf=>(da P f.type).map λn=>(f.offset,n)
 | some (.array k e)=>(da P e).map λn=>(List.range k).map λi=>(i*n,n)
 | _=>VD
section
variable{P:Program}{ty:TypeId}{us:List (Nat × Value)}{h:Heap}{K:Value->Heap->Prop}
theorem A6{f g:Nat->Option (Nat × Nat)}(hfg : ∀i p,f i=VC p->g i=VC p) : ∀{vs:List (Nat × Value)} {c cs:Array Value},Instr.fill f c vs=VC cs->Instr.fill g c vs=VC cs
 | [],c,cs,h=>h
 | (i,v)::vs,c,cs,h=>by
  simp only[Instr.fill]at h ⊢;split at h
  ·cases h
  rename_i off size hi;rw[hfg i _ hi];simp only;split at h
  ·cases h
  rename_i hc;rw[if_neg hc];exact A6 hfg h
theorem run_places{w:World} : ∀{fs:List Field} {ps:List (Nat × Nat)},(fs.mapM λf=>(da P f.type).map λn=>(f.offset,n))=VC ps->
  (fs.mapM fun(f:Field)=>Prod.mk f.offset <$> sizeOf f.type).run P w=Result.ok ps w
 | [],ps,h=>by simp at h;subst h;simp
 | f::fs,ps,h=>by simp only[Vl,Option.bind_eq_bind,Sq,Sc]at h;obtain⟨p,⟨n,hn,rfl⟩,ps',h2,h3⟩:=h;simp only[Option.pure_def,RW]at h3;subst h3;have ih:=run_places (w:=w) h2;simp[Vl,Sem.run_bind,run_sizeOf hn,ih]
theorem aA{t:TypeId}{ps:Array (Nat × Operand)}{vs:List (Nat × Value)}{z:Value}{places:List (Nat × Nat)}(hz:(P.info? t).map (·.zero)=VC (VC z))(hpl:GV P t=VC places)(hp:ps.map (λp=>(p.1,asg us p.2))=vs.toArray)(hf:Instr.fill (places[·]?) z.cells vs=VC cs)(hk:K (.agg cs) h):step P (.build t ps) ty us h K:=by
 refine dr (cO λw hw=>⟨.agg cs,w,?_,Same.refl _,by rw[hw];exact hk⟩);have hp':(ps.map λx=>match x with | (i,x)=>(i,asg us x))=vs.toArray:=hp;simp only[Sc]at hz;obtain⟨i,hi,hz⟩:=hz;simp only[bQ,execOp,hp'];unfold GV at hpl;split at hpl
 ·rename_i fields hu;have hr:=run_places (P:=P) (w:=w) hpl;have hr2:(fields.mapM fun(f:Field)=>Prod.mk f.offset <$> sizeOf f.type).run P w=Result.ok places.toArray w:=by rw[U5];simp only[Sem.run_map];erw [hr];rfl
  have hf':Instr.fill (places.toArray[·]?) z.cells vs=VC cs:=by simpa using hf
  simp[Instr.build,zeroValue,typeInfo,hi,hz,run_underlying hu,hr2,hf',hf]
 ·rename_i k e hu;simp only[Sc]at hpl;obtain⟨n,hn,rfl⟩:=hpl;have hf':=A6 (g:=λi=>VC (i*n,n)) (λi p hp=>by
   simp only[TG,Sc]at hp;obtain⟨j,hj,rfl⟩:=hp;rcases Sb i k with hlt | hge
   ·rw[List.getElem?_range hlt]at hj;cases hj;rfl
   rw[SM (by simpa using hge)]at hj;cases hj) hf;simp[Instr.build,zeroValue,typeInfo,hi,hz,run_underlying hu,run_sizeOf hn,hf']
 cases hpl
variable{size bytes:Nat}
theorem vU{t e:TypeId}{z:Value}{ps:Array (Nat × Operand)}{vs:List (Nat × Value)}(hT:eU P t e size bytes z)(hn:n*size<=16777216)(hp:ps.map (λp=>(p.1,asg us p.2))=vs.toArray)(hf:Instr.fill (λj=>VC (j*size,size)) ((Array.range (n*size)).map (z.cells[· % z.cells.size]!)) vs=VC cs)(hk:K (VE (VC ⟨h.size,0,VD⟩) n n) (h.push (.cells cs e))):step P (.buildSlice t n ps) ty us h K:=by obtain⟨ht,⟨i,hi,hz,hsize,hby⟩,_⟩:=hT;exact rD ht hi hz hsize hn hp hf hk
theorem dQ{t:TypeId}{z:Value}(hz:(P.info? t).map (·.zero)=VC (VC z))(hk:K (ptz h.size) (h.push (.cells z.cells t))):step P (.alloc t) ty us h K:=by simp only[Sc]at hz;obtain⟨i,hi,hz⟩:=hz;refine dr (cO λw hw=>?_);subst hw;refine⟨_,w.alloc (.cells z.cells t),?_,jl _ _,hk⟩;simp only[bQ,execOp];simp[Instr.alloc,zeroValue,typeInfo,hi,hz,newVar,newRow]
theorem ef{t:TypeId}{x:Operand}{v:Value}(hx:asg us x=v)(hk:K (ptz h.size) (h.push (.cells v.cells t))):step P (.box t x) ty us h K:=by refine dr (cO λw hw=>?_);subst hw;refine⟨_,w.alloc (.cells v.cells t),?_,jl _ _,hk⟩;simp only[bQ,execOp];simp[Instr.box,hx,newVar,newRow]
variable{y:Operand}
theorem eJ{t e:TypeId}{g o:Nat}{x:Operand}{v:Value}{cur:Array Value}(hsz:da P t=VC n)(hx:asg us x = VF (VC ⟨g,o,VD⟩))(hy:asg us y=v)(hv:v.cells.size=n)(h1 : ∀c∈v.cells.toList,c.oneCell'=VG)(hg:h[g]? = VC (.cells cur e (0,0)))(hfit:o+n<=cur.size)(hk : ∀h':Heap,h'.size=h.size->(∃row:Array Value,h'[g]? = VC (.cells row e (0,0))/\row.toList=cur.toList.take o++v.cells.toList++cur.toList.drop (o+n))->(∀k,k≠g->h'[k]? = h[k]?)->K undef h'):step P (.store t x y) ty us h K:=by
 refine dr (pO λw hw=>?_);subst hw;have hlen:v.cells.toList.length=n:=by simpa using hv
 have hrun:=run_storeCells_at P g o e v.cells.toList 0 cur w hg (by simp only[Nat.add_zero];omega) h1;obtain⟨row,hrow⟩ : ∃row:Array Value,row.toList=cur.toList.take o++v.cells.toList++cur.toList.drop (o+n):=⟨(cur.toList.take o++v.cells.toList++cur.toList.drop (o+n)).toArray,rfl⟩;have hrun':Sem.run P (storeCells ⟨g,o,VD⟩ v.cells.toList) w = .ok () (w.setRow g row):=by rw[hrun];congr 2;rw[<-Array.toList_inj,hrow,hlen];rfl
 refine⟨w.setRow g row,?_,Same.pC rfl rfl rfl V5 hg V5 (λk _ hne=>setRow_other w g k _ (λe=>hne e)),hk _ V5 ⟨row,setRow_heap w g cur row e _ hg,hrow⟩ λk hne=>setRow_other w g k _ (λe=>hne e)⟩;simp only[bQ,execOp,hx,hy];simp[Instr.storeAt,Instr.sureAddr,storeVar,run_sizeOf (P:=P) (w:=w) hsz,hv,hrun']
variable{ty2:TypeId}{us2:Value->List (Nat × Value)}
theorem xn{t:TypeId}{z:Value}{x:Operand}{v:Value}{K:Value->Heap->Prop}(hz:(P.info? t).map (·.zero)=VC (VC z))(hzc:z.cells.size=1)(hsz:da P t=VC 1)(hv:v.cells = #[v])(hone:v.oneCell'=VG)(hx : ∀p,asg (us2 p) x=p)(hy : ∀p,asg (us2 p) y=v)(hk : ∀h':Heap,(vw h).le (vw h')->h'.size=h.size+1->h'[h.size]? = VC (.cells #[v] t (0,0))->K (ptz h.size) h'):
  @step po P (.alloc t) ty us h λp h2=>@step po2 P (.store t x y) ty2 (us2 p) h2 λ_ h3=>K p h3:=by
 refine dQ hz ?_;refine eJ (g:=h.size) (o:=0) (n:=1) (v:=v) (cur:=z.cells) (e:=t) hsz (hx _) (hy _) (by rw[hv];rfl) (by rw[hv];simpa using hone) V5 V4 λh' hs ⟨row,hrow,he⟩ hoth=>?_;have hrow2:row = #[v]:=by rw[<-Array.toList_inj,he,hv];simp only[T8,SV,Tj];rw[SO (by simp[hzc])];rfl
 rw[hrow2]at hrow;refine hk h' (λb o hb=>?_) (by rw[hs];simp) hrow;have hlt:=View.lt (View.le_refl (vw h)) hb;show h'[b]? = _;rw[hoth b V4];exact b8 _ _ b o hb
variable{caps:Array Value}
theorem bW{f:FuncId}{t:Nat}{ops:List Operand}{T:Array TypeId}(hf:asg us (.tmp t) = .func (.func f) #[] caps){R:Value->Heap->Prop}(hfn:isFn P f=VG)(hc:ay P f (ops.map (asg us)++caps.toList).toArray h R)(hk : ∀v h',R v h'->K v h'):step P (.call ⟨.value (.tmp t),ops.toArray,T⟩) ty us h K:=by
 refine dr (uN (R:=R) (f:=f) (args:=(ops.map (asg us)++caps.toList).toArray) (λw _=>?_) hc hk);unfold isFn at hfn;cases hfn':P.funcs[f]? with
 | none=>simp[hfn']at hfn
 | some fn=>simp only[hfn',Se,bne_iff_ne,ne_eq]at hfn;obtain⟨h1,h2⟩:=hfn;simp[bQ,execOp,resolve,Deferred.ofValue,hf,invoke,callFunc,program,Sem.run,hfn',h1,Option.isNone];cases hb:fn.body<;>simp[hb]at h2 ⊢
theorem FC{e:TypeId}{w:World}{a b:Int}{ki:IntKind}(he:P.underlying e=VC (.int ki)):(Op.equalIn (n+1) e (.int ki a) (.int ki b)).run P w = .ok (a == b) w:=by simp[Op.equalIn,run_underlying he]
theorem AJ{e:TypeId}{w:World}{o:Nat}{v:Value}(ha:pH P e=VC VH)(hv:cs[o]? = VC v):(Go.part e cs o).run P w = .ok v w:=by simp[Go.part,qx ha,hv]
theorem EZ{t e:TypeId}{w:World}{a b c d:Int}{ki:IntKind}(hu:P.underlying t=VC (.array 2 e))(he:P.underlying e=VC (.int ki))(hs:da P e=VC 1)(ha:pH P e=VC VH):
  (Op.equal t (.agg #[.int ki a,.int ki b]) (.agg #[.int ki c,.int ki d])).run P w = .ok (a == c&&b == d) w:=by
 simp only[da,Sc]at hs;obtain⟨i,hi,hs⟩:=hs;have hc:P.cellsOf e=1:=by simp[Program.cellsOf,hi,hs]
 show(Op.equalIn (9999+1) t _ _).run P w=_;rw[run_equalIn_array (P:=P) (w:=w) (d:=9999) (xs:=_) (ys:=_) hu hi,hc];have p0 : ∀{x y:Int},(Go.part e #[.int ki x,.int ki y] 0).run P w = .ok (.int ki x) w:=AJ ha rfl;have p1 : ∀{x y:Int},(Go.part e #[.int ki x,.int ki y] 1).run P w = .ok (.int ki y) w:=AJ ha rfl;simp[TD,Op.eqItems,p0,p1,FC he];by_cases h1:a=c<;>by_cases h2:b=d<;>simp[h1,h2]
end
instance:Rep (Int × Int) where
 n:=2
 agg:=true
 rd:=λ_ cs d=>cs=[Vz VA d.1,Vz VA d.2]/\(-9223372036854775808<=d.1/\d.1<=9223372036854775807)/\-9223372036854775808<=d.2/\d.2<=9223372036854775807
 mono:=λ_ h=>h
 len:=λh=>by rw[h.1];rfl
 one:=λh=>by cases h
 flat:=λh u hu=>by rw[h.1]at hu;simp at hu;rcases hu with rfl | rfl<;>rfl
 pos:=by decide
 cf:=λh=>h
theorem tq{v:Value}{d:Int × Int}:Rd H v d↔v = .agg #[Vz VA d.1,Vz VA d.2]/\(-9223372036854775808<=d.1/\d.1<=9223372036854775807)/\-9223372036854775808<=d.2/\d.2<=9223372036854775807:=by
 simp only[Rd,Rep.agg,Rep.rd,if_true];constructor
 ·rintro⟨cs,rfl,h1,h2⟩;refine⟨?_,h2⟩;congr 1;rw[<-Array.toList_inj,h1]
 rintro⟨rfl,h2⟩;exact⟨_,rfl,rfl,h2⟩
variable{α:Type}
theorem SlRd.idxn[Rep α]{v:Value}{l:List α}(h:SlRd H v l){N:Nat}(hn:Rep.n α=N){k:IntKind}{i:Int}(h0:0<=i)(h1:i<l.length):Bn.ev (.idx N) v (.int k i)=VC (VF (VC ((slA v).add (i.toNat*N)))):=by have:=h.idx (k:=k) h0 h1;rw[hn]at this;exact this
theorem SlRd.He{K:View}{v:Value}{l:List (Int × Int)}(h:SlRd H v l)(hk:H.le K){i:Nat}(hi:i<l.length):aq K (((slA v).add (i*2)).add 0)=VC (Vz VA (nth l i).1)/\aq K (((slA v).add (i*2)).add 1)=VC (Vz VA (nth l i).2):=by obtain⟨cs,h1,h2⟩:=(h.at hi).mono hk;rw[az hi];obtain⟨e,_⟩:=h2;subst e;exact⟨kO h1 (i:=0) rfl,kO h1 (i:=1) rfl⟩
end
section
variable{po po2 po3:OP}{pp:PP}
variable{P:Program}{K:Value->Heap->Prop}
theorem Ge{s:Sem Next}{l:Nat}{vs:List Value}{h:Heap}{R:Bool->Heap->Prop}(hs : ∀w:World,w.heap=h->s.run P w=(Instr.yield l vs.toArray).run P w)(hy:Fv P l vs h R)(hk : ∀b h',R b h'->K (.bool b) h'):iS P s h K:=by intro w hw r o a K' Q' hK hQ;obtain⟨f,tmps,asg,body,h1,h2⟩:=hy w hw;rw[hs w hw,h1];simp only[Oper.uponIn];have h3:RoundIn (Fw r) 0 P l f tmps asg body w _:=h2;refine⟨λh=>by simp[Fw,Fence.wide]at h,h3.mono ?_⟩;rintro e w' ⟨b,rfl,hR,hsame⟩;exact hK _ w' (hk _ _ hR) hsame
variable{ty:TypeId}{us:List (Nat × Value)}
theorem EP{t l:Nat}{ops:List Operand}{T:Array TypeId}{h:Heap}(hf:asg us (.tmp t) = .func (.yield l) #[] #[]){R:Bool->Heap->Prop}(hy:Fv P l (ops.map (asg us)) h R)(hk : ∀b h',R b h'->K (.bool b) h'):step P (.call ⟨.value (.tmp t),ops.toArray,T⟩) ty us h K:=by refine dr (Ge (l:=l) (vs:=ops.map (asg us)) (λw _=>?_) hy hk);simp[bQ,execOp,resolve,Deferred.ofValue,hf,invoke]
variable{β:Type}{body:LC}{ρ:Env}
theorem uJ{enc:β->List Value}{g:E}{ps:List Nat}{asg:LC}{Q:Post}{h:Heap}{gf:Nat}{caps:List Value}{all:List β}{A:β->Env}(V W0:View)(I:Option Exit->Nat->View->Heap->Prop)(hg:ev (look ρ) (vw h) g=VC (.func (.func gf) #[] caps.toArray))(hf:isFn P gf=VG)(hi:Iter P gf caps V (all.map enc))(hl : ∀x,(enc x).length=ps.length)(hV:V.le W0)(hI : ∀e k,oN h.size (I e k))(h0:I VD 0 W0 h)(hasg : ∀x h1,@LC.wp noPP P asg (λe ρ1 h2=>e = .normal/\h2=h1/\ρ1=A x) (dC ρ (ps.zip (enc x))) h1)(round : ∀k x W h1,(∀b,b<h.size->W b=W0 b)->all[k]? = VC x->I VD k W h1->∀K:Post,(∀ρ2 h3,I VD (k+1) W h3->K .normal ρ2 h3)->(∀e ρ2 h3,e≠.normal->I (VC e) (k+1) W h3->K e ρ2 h3)->@LC.wp noPP P body K (A x) h1)(done : ∀W h1,(∀b,b<h.size->W b=W0 b)->I VD all.length W h1->Q .normal ρ h1)(left : ∀e k W h1,(∀b,b<h.size->W b=W0 b)->I (VC e) k W h1->Q e ρ h1):LC.wp P (.rangef g ps asg body) Q ρ h:=by
 refine⟨gf,caps,V,W0,all.map enc,I,λk=>match all[k]? with | some x=>A x | none=>[],hg,hf,hi,λvs hvs=>?_,hV,hI,h0,λk vs W h1 ha hk hIk=>?_,λW h1 a b=>done W h1 a (by simpa using b),λe k W h1 _ _=>left e k W h1⟩
 ·obtain⟨x,_,rfl⟩:=SZ.1 hvs;exact hl x
 rw[TG,Sc]at hk;obtain⟨x,hk,rfl⟩:=hk;simp only[hk];refine⟨hasg x h1,round k x W h1 ha hk hIk _ (λρ2 h3 hh=>hh) λe ρ2 h3 hne hh=>?_⟩;cases e<;>first | exact absurd rfl hne | exact hh
theorem SlRd.drop{α:Type}[Rep α]{H:View}{v:Value}{l:List α}(h:SlRd H v l){n:Nat}(hn:n<=l.length){kd:IntKind} : ∃u,Bn.ev (.lo (Rep.n α)) v (.int kd n)=VC u/\SlRd H u (l.drop n):=by
 obtain⟨a,cap,rfl,h1,h2,h3⟩:=h;refine⟨.slice (if cap=n then a else a.map (·.add (n*Rep.n α))) (l.length-n) (cap-n),by simp[Bn.ev,vL,vI,hn],if cap=n then a else a.map (·.add (n*Rep.n α)),cap-n,?_,?_,?_,?_⟩
 ·rw[SP]
 ·rw[SP];omega
 ·rw[SP];omega
 rcases h3 with rfl | ⟨ad,rfl,hs,hat⟩
 ·left;simp
 by_cases hc:cap=n
 ·left;simp;omega
 refine .inr ⟨ad.add (n*Rep.n α),by simp[hc],by rw[bF hs],λi hi=>?_⟩;rw[SP]at hi;rw[UD];have:=hat (n+i) V4;rw[bF hs]at this ⊢;rw[bF rfl];simpa[Uk,Nat.add_assoc]using this
def but(v:Value)(h:Heap):View:=λb=>if v.ownBlock=VC b then VD else h[b]?
theorem xu{v:Value}{h:Heap}:(but v h).le (vw h):=λb o hb=>by
 unfold but at hb;split at hb
 ·cases hb
 exact hb
theorem PO{v:Value}{h:Heap}:Av (but v h) v:=λb hb=>by unfold but;rw[if_pos hb]
variable{h':Heap}
theorem E0{v:Value}{h:Heap}(hle:(vw h).le (vw h')):(but v h).le (but v h'):=λb o hb=>by
 unfold but at *;split at hb
 ·cases hb
 rename_i hne;rw[if_neg hne];exact hle b o hb
variable{V:View}
theorem FZ{v:Value}{h:Heap}(hV:V.le (vw h))(ha:Av V v):V.le (but v h):=λb o hb=>by
 unfold but;split
 ·rename_i e;rw[ha b e]at hb;cases hb
 exact hV b o hb
variable{α:Type}{h0:Heap}{W:View}
theorem Mine.beside[Rep α][Rep β]{h:Heap}{e e1:TypeId}{v2 v1 v1':Value}{l2:List α}{l1':List β}(m2:Mine nothing h0 h nothing e v2 l2)(m1:Mine V h0 h' W e1 v1' l1')(mv:lO h h' v1 v1')(ne:v2.ownBlock=VD\/v2.ownBlock≠v1.ownBlock):Mine nothing h0 h' nothing e v2 l2:=
 ⟨m1.old,λ_ _ h=>(by cases h),λ_ _=>rfl,m2.av0,Old.nothing _ _,m2.own.kept mv.kept ne⟩
theorem Mine.over[Rep α]{h:Heap}{e:TypeId}{v:Value}{l:List α}(m:Mine V h0 h nothing e v l):Mine (vw h0) h0 h (but v h) e v l:=
 ⟨m.old,xu,PO,m.av0,λb o hb hx=>by have h1:=xu b o hx;have h2:h0[b]? = VC h0[b]:=Sv hb;have h3:h[b]? = VC h0[b]:=m.old b _ h2;have h4:h[b]? = VC o:=h1;rw[h3]at h4;cases h4;exact h2,m.own.mono (λ_ _ h=>by cases h)⟩
theorem Mine.Qi{h:Heap}{e:TypeId}{v:Value}{l:List Int}(m:Mine V h0 h W e v l):Mine nothing h0 h nothing e v l:=
 ⟨m.old,λ_ _ h=>(by cases h),λ_ _=>rfl,m.av0,Old.nothing _ _,m.own⟩
variable{n:Nat}
theorem PB{a:Addr}{c m:Nat}{k:IntKind}{i:Int}(h0:0<=i)(h1:i<n):Bn.ev (.idx m) (VE (VC a) n c) (.int k i)=VC (VF (VC (a.add (i.toNat*m)))):=by simp[Bn.ev,vL,vI,h0,h1]
theorem Mg{a:Addr}{c:Nat}{k:IntKind}{i:Int}(h0:0<=i)(h1:i<n):Bn.ev (.idx 1) (VE (VC a) n c) (.int k i)=VC (VF (VC (a.add i.toNat))):=by rw[PB h0 h1,SX]
variable{H:View}
theorem df{b o:Nat}{c:Array Value}{T:TypeId}{fz:Nat × Nat}{v:Value}(h:H b=VC (.cells c T fz))(hv:c[o]? = VC v):aq H ⟨b,o,VD⟩=VC v:=by simp[aq,h,hv]
theorem SlRd.cells{α:Type}[Rep α]{H:View}{v:Value}{l:List α}(h:SlRd H v l):v.cells = #[v]/\v.oneCell'=true:=by obtain⟨a,cap,rfl,_⟩:=h;exact⟨rfl,rfl⟩
theorem oh.ext{h0 h h':Heap}(hs:oh h0.size h h')(hle:(vw h0).le (vw h)):(vw h0).le (vw h'):=λb o hb=>by have hlt:=View.lt (View.le_refl (vw h0)) hb;show h'[b]? = _;rw[hs.same b (.inl hlt)];exact hle b o hb
theorem oh.mO{h:Heap}(hs:oh h0.size h h'):(fresh h0 h).cf.le (fresh h0 h'):=λb o hb=>by
 have h1:=View.mX _ _ hb;have h2 : ∀x,o≠.deferred x:=by intro x e;subst e;unfold View.cf at hb;split at hb<;>cases hb
 unfold fresh at h1 ⊢;split at h1
 ·cases h1
 rename_i hge;rw[if_neg hge,hs.same b (.inr ?_)]
 ·exact h1
 rw[h1];intro e;exact h2 _ (Option.some.inj e)
theorem oh.rd[Rep α]{h:Heap}{v:Value}{l:List α}(hs:oh h0.size h h')(hr:SlRd (fresh h0 h) v l):SlRd (fresh h0 h') v l:=
 dw.1 ((dw.2 hr).cf.mono hs.mO)
theorem hZ{h:Heap}{b:Nat}(hb:b<h.size):grow W h h' b=W b:=by unfold grow;rw[if_pos hb]
theorem oN.grown{J:View->Heap->Prop}(hJ:oN n J){h:Heap}(hj:J W h)(hn:n<=h.size)(hle:(vw h).le (vw h')):J (grow W h h') h':=
 hJ.move hj (λb hb=>hZ V4) (km (Vx (hJ.le hj) hle)) (λb hb hlt=>⟨(wR hle).block b hlt V5,by rw[hZ hlt];exact hb⟩) (bL hle)
variable{bytes:Nat}{y:Operand}
theorem KK{t e:TypeId}{z:Value}{x:Operand}{h:Heap}{k:IntKind}(hT:eU P t e 1 bytes z)(hx:asg us x = .int k n)(hy:asg us y = .int k n)(hz1:z.cells = #[z])(hb:bytes*n<=140737488355328)(hb2:n<=140737488355328)(hk:K (VE (VC ⟨h.size,0,VD⟩) n n) (h.push (.cells (List.replicate n z).toArray e))):step P (.makeSlice t x y) ty us h K:=by
 obtain⟨ht,⟨i,hi,hz,hsize,hby⟩,hzs,hsz,hsmall⟩:=hT;refine dr (cO λw hw=>?_);subst hw;have hrun:=run_make (P:=P) w t e i z ht hi hz k k (n:Int) (n:Int) V4 (Tf _) (by
  rw[hby];have:((bytes*n:Nat):Int)<=281474976710656:=by omega
  rwa [Int.natCast_mul]at this) V4;simp only[Sn,hsize,SX]at hrun
 have hm:madeCells z.cells n=(List.replicate n z).toArray:=by
  rw[hz1];apply Array.ext
  ·simp[madeCells]
  intro j h1 h2;simp[madeCells,Nat.mod_one]
 rw[hm]at hrun;refine⟨_,w.alloc (.cells (List.replicate n z).toArray e),?_,jl _ _,hk⟩;simp only[bQ,execOp,hx,hy];simp[hrun]
theorem OwnT.same{α:Type}[Rep α]{W:View}{h h':Heap}{e:TypeId}{v:Value}{l:List α}(o:OwnT W h e v l)(hb : ∀b,v.ownBlock=VC b->h'[b]? = h[b]?):OwnT W h' e v l:=by
 obtain⟨bd,xs,⟨h1,h2⟩,h3⟩:=o;refine⟨bd,xs,⟨h1,?_⟩,h3⟩;rcases h2 with h2 | ⟨g,cap,cur,rfl,hg,h4⟩
 ·exact .inl h2
 exact .inr ⟨g,cap,cur,rfl,(hb g rfl).trans hg,h4⟩
structure Rw{α:Type}[Rep α](W:View)(h:Heap)(ot e:TypeId)(g:Nat)(rv:List Value)(ls:List (List α)):Prop where
 wle:W.le (vw h)
 wg:W g=VD
 blk:h[g]? = VC (.cells rv.toArray ot (0,0))
 len:rv.length=ls.length
 own : ∀i,i<ls.length->OwnT nothing h e (nth rv i) (nth ls i)
 av : ∀i,i<ls.length->Av W (nth rv i)
 ng : ∀i,i<ls.length->(nth rv i).ownBlock≠VC g
 dj : ∀i j,i<ls.length->j<ls.length->i≠j->(nth rv i).ownBlock=VD\/(nth rv i).ownBlock≠(nth rv j).ownBlock
section
variable{α:Type}[Rep α]{W:View}{h h':Heap}{ot e:TypeId}{g:Nat}{rv:List Value}{ls:List (List α)}
theorem Rw.lt(r:Rw W h ot e g rv ls):g<h.size:=(Sj.1 r.blk).1
theorem aD[Inhabited β]{i:Nat}{x:β}(hi:i<n):nth (List.replicate n x) i=x:=by rw[az (by simpa using hi)];simp
theorem Rw.start(hW:W.le (vw h))(hg:W g=VD)(hb:h[g]? = VC (.cells (List.replicate n (VE VD 0 0)).toArray ot (0,0))):Rw (α:=α) W h ot e g (List.replicate n (VE VD 0 0)) (List.replicate n []):=
 ⟨hW,hg,hb,by simp,λi hi=>by rw[aD (by simpa using hi),aD (by simpa using hi)];exact OwnT.nil ..,λi hi=>by rw[aD (by simpa using hi)];exact Av.nil _ _ _,
  λi hi=>by rw[aD (by simpa using hi)];simp[Value.ownBlock],λi j hi hj _=>by rw[aD (by simpa using hi)];exact .inl rfl⟩
theorem Rw.move(r:Rw W h ot e g rv ls){W':View}(h1:W'.le (vw h'))(h2 : ∀b,W b=VD->b<h.size->h'[b]? = h[b]?/\W' b=VD):Rw W' h' ot e g rv ls:=
 {wle:=h1,wg:=(h2 g r.wg r.lt).2,blk:=(h2 g r.wg r.lt).1.trans r.blk,len:=r.len,ng:=r.ng,dj:=r.dj
  own:=λi hi=>(r.own i hi).same λb hb=>(h2 b (r.av i hi b hb) ((r.own i hi).lt hb)).1
  av:=λi hi b hb=>(h2 b (r.av i hi b hb) ((r.own i hi).lt hb)).2 }
theorem Rw.ext(r:Rw W h ot e g rv ls)(hle:(vw h).le (vw h')):Rw W h' ot e g rv ls:=
 r.move (Vx r.wle hle) λb hb hlt=>⟨(wR hle).block b hlt V5,hb⟩
theorem bs[Inhabited β]{l:List β}{i j:Nat}{x:β}(hj:j<l.length):nth (l.set i x) j=if i=j then x else nth l j:=by
 rw[az (by simpa using hj),List.getElem_set];split
 ·rfl
 rw[az hj]
theorem Rw.put{h2 h3:Heap}{i:Nat}{v':Value}{l':List α}(r:Rw W h ot e g rv ls)(hi:i<ls.length)(o:OwnT nothing h2 e v' l')(m:lO h h2 (nth rv i) v')(hb:h3[g]? = VC (.cells (rv.set i v').toArray ot (0,0)))(hoth : ∀k,k≠g->h3[k]? = h2[k]?)(hsz:h3.size=h2.size):Rw W h3 ot e g (rv.set i v') (ls.set i l'):=by
 obtain⟨hw',ha'⟩:=m.view r.wle (r.av i hi);have hlt:=r.lt;have ng':v'.ownBlock≠VC g:=by
  rcases m.at_ with e | e
  ·rw[e];exact r.ng i hi
  rw[e];intro e2;cases e2;omega
 have hv' : ∀j,j<ls.length->j≠i->(nth rv j).ownBlock=VD\/(nth rv j).ownBlock≠v'.ownBlock:=by
  intro j hj hne;rcases m.at_ with e | e
  ·rw[e];exact r.dj j i hj hi hne
  right;rw[e];intro e2;have:=(r.own j hj).lt e2;omega
 have rl:=r.len;refine⟨λb x hb=>?_,r.wg,hb,by simp[rl],λj hj=>?_,λj hj=>?_,λj hj=>?_,λj k hj hk hne=>?_⟩
 ·have hne:b≠g:=λe=>by rw[e,r.wg]at hb;cases hb
  show h3[b]? = _;rw[hoth b hne];exact hw' b x hb
 ·rw[SC]at hj;rw[bs V4,bs hj];split
  ·exact o.same λb hb=>hoth b (λe=>ng' (by rw[hb,e]))
  rename_i hne;refine((r.own j hj).kept m.kept (r.dj j i hj hi (λe=>hne e.symm))).same λb hb=>hoth b (λe=>r.ng j hj (by rw[hb,e]))
 ·rw[SC]at hj;rw[bs V4];split
  ·exact ha'
  exact r.av j hj
 ·rw[SC]at hj;rw[bs V4];split
  ·exact ng'
  exact r.ng j hj
 rw[SC]at hj hk;rw[bs V4,bs V4];split
 ·rename_i e1;rw[if_neg V4];rcases hv' k hk V4 with e | e
  ·rcases hb2:v'.ownBlock with _ | b
   ·exact .inl rfl
   right;rw[e];simp
  exact .inr λe2=>e e2.symm
 split
 ·rename_i e1 e2;exact hv' j hj V4
 exact r.dj j k hj hk hne
theorem Rw.rd(r:Rw W h ot e g rv ls){X:View}(hg:X g=h[g]?)(hx : ∀i b,i<ls.length->(nth rv i).ownBlock=VC b->X b=h[b]?)(hb:ls.length<=140737488355328):SlRd X (VE (VC ⟨g,0,VD⟩) ls.length ls.length) ls:=by
 refine⟨VC ⟨g,0,VD⟩,ls.length,rfl,RX _,hb,.inr ⟨_,rfl,rfl,λi hi=>?_⟩⟩;rw[bF rfl];have hlen:=r.len;refine⟨[nth rv i],⟨rv.toArray,ot,(0,0),rfl,by rw[hg];exact r.blk,?_⟩,nth rv i,rfl,?_⟩
 ·rw[az V4];simp only[Tj,show Rep.n (List α)=1 from rfl,SX,SL,Uy];have hd:rv.drop i=rv[i]::rv.drop (i+1):=SD V4;show List.take (0+1) (List.drop i rv)=_;rw[hd];rfl
 rw[<-az hi];exact(r.own i hi).rd (λ_ _ h=>by cases h) (hx i · hi)
theorem Rw.fresh{h0:Heap}(r:Rw W h ot e g rv ls)(h0W:(vw h0).le W)(hb:ls.length<=140737488355328):SlRd (Lft.fresh h0 h) (VE (VC ⟨g,0,VD⟩) ls.length ls.length) ls:=by
 have key : ∀b,W b=VD->h0.size<=b:=by
  intro b hb;rcases Sb b h0.size with hlt | hge
  ·have:=h0W b h0[b] (Sv hlt);rw[hb]at this;cases this
  exact hge
 refine r.rd (by unfold Lft.fresh;rw[if_neg (Vq.2 (key g r.wg))]) (λi b hi hbb=>by unfold Lft.fresh;rw[if_neg (Vq.2 (key b (r.av i hi b hbb)))]) hb
end
def skip(B:Nat)(h:Heap):View:=λb=>if b=B then VD else h[b]?
theorem dm{B:Nat}{h:Heap}:(skip B h).le (vw h):=λb o hb=>by
 unfold skip at hb;split at hb
 ·cases hb
 exact hb
theorem n8{B b:Nat}{h:Heap}(hb:b≠B):skip B h b=h[b]?:=by unfold skip;rw[if_neg hb]
section
variable{α:Type}[Rep α]{W:View}{h h':Heap}{B:Nat}{T e:TypeId}{v:Value}{l:List α}
end
end
section
open Go.MapKept
variable{po:OP}{pp:PP}
structure dh(d:TypeDesc)(h:Heap)(r:Nat)(f:Value->Option Value):Prop where
 ex : ∃es clock,h[r]? = VC (.map es clock)/\(∀x∈es.toList,IsKey d x.key)/\Stamped es clock/\∀k v,IsKey d k->((∃x∈es.toList,x.key=k/\x.val=v)↔f k=VC v)
theorem dh.lt{d:TypeDesc}{h:Heap}{r:Nat}{f:Value->Option Value}(m:dh d h r f):r<h.size:=by obtain⟨es,c,h1,_⟩:=m.ex;exact(Sj.1 h1).1
theorem dh.same{d:TypeDesc}{h h':Heap}{r:Nat}{f:Value->Option Value}(m:dh d h r f)(e:h'[r]? = h[r]?):dh d h' r f:=by obtain⟨es,c,h1,h2⟩:=m.ex;exact⟨es,c,by rw[e];exact h1,h2⟩
theorem dh.ext{d:TypeDesc}{h h':Heap}{r:Nat}{f:Value->Option Value}(m:dh d h r f)(hle:(vw h).le (vw h')):dh d h' r f:=by obtain⟨es,c,h1,h2⟩:=m.ex;exact⟨es,c,hle _ _ h1,h2⟩
theorem dh.none{d:TypeDesc}{h:Heap}{r:Nat}(hr:h[r]? = VC (.map #[] 0)):dh d h r λ_=>none:=
 ⟨#[],0,hr,by simp,stamped_empty 0,by simp⟩
section
variable{P:Program}{ty:TypeId}{us:List (Nat × Value)}{h:Heap}{K:Value->Heap->Prop}{d:TypeDesc}{r:Nat}{f:Value->Option Value}{t k e:TypeId}
theorem lU(hk:K (.map (VC h.size)) (h.push (.map #[] 0))):step P (.makeMap t .none) ty us h K:=by refine dr (cO λw hw=>?_);subst hw;refine⟨_,w.alloc (.map #[] 0),?_,jl _ _,hk⟩;simp only[bQ,execOp];simp[Instr.makeMap,newObj];rfl
variable{y:Operand}
theorem xO{x:Operand}{u z:Value}(ht:P.underlying t=VC (.map k e))(hd:P.underlying k=VC d)(hz:(P.info? e).map (·.zero)=VC (VC z))(hx:asg us x = .map (VC r))(hy:asg us y=u)(hu:IsKey d u)(m:dh d h r f)(hk:K ((f u).getD z) h):step P (.lookup t x y VH) ty us h K:=by
 obtain⟨es,c,h1,h2,h3,h4⟩:=m.ex;simp only[Sc]at hz;obtain⟨i,hi,hz⟩:=hz;refine dr (cO λw hw=>⟨_,w,?_,Same.refl _,by rw[hw];exact hk⟩);have hz':(zeroValue e).run P w = .ok z w:=by simp[zeroValue,typeInfo,hi,hz]
 rw[<-hw]at h1;simp only[bQ,execOp,hx,hy];rcases findNow_spec hu es.toList 0 h2 with⟨g1,g2⟩ | ⟨j,x,g1,g2,g3⟩
 ·have hf:f u = .none:=by
   cases hfu:f u with
   | none=>rfl
   | some v=>obtain⟨x,hx,e1,_⟩:=(h4 u v hu).2 hfu;exact absurd e1 (g2 x hx)
  simp[Instr.lookup,run_underlying ht,MapKept.run_getObj_map h1,MapKept.run_checkKey hd hu,MapKept.run_findKey hd g1,Result.andThen,hf,hz']
 have hf:f u=VC x.val:=(h4 u x.val hu).1 ⟨x,SE g2,g3,rfl⟩;simp[Instr.lookup,run_underlying ht,MapKept.run_getObj_map h1,MapKept.run_checkKey hd hu,MapKept.run_findKey hd g1,Result.andThen,hf]
theorem FX{w:World}{u v:Value}(ht:P.underlying t=VC (.map k e))(hd:P.underlying k=VC d)(hu:IsKey d u)(m:dh d w.heap r f)(g:Value->Option Value)(hg:g u=VC v)(hg2 : ∀j,j≠u->g j=f j):
  ∃o,(Instr.mapUpdate t (.map (VC r)) u v).run P w = .ok () { w with heap:=w.heap.setIfInBounds r o }/\dh d (w.heap.setIfInBounds r o) r g:=by
 obtain⟨es,c,h1,h2,h3,h4⟩:=m.ex;rcases findNow_spec hu es.toList 0 h2 with⟨g1,g2⟩ | ⟨j,x,g1,g2,g3⟩
 ·refine⟨.map (es.push { key:=u,val:=v,born:=c }) (c+1),?_,_,_,(MapKept.heap_set h1).1,?_,stamped_push h3 g2,?_⟩
  ·simp[Instr.mapUpdate,run_underlying ht,MapKept.run_getObj_map h1,MapKept.run_checkKey hd hu,MapKept.run_findKey hd g1,MapKept.run_setObj_map _ h1,Result.andThen]
  ·intro x hx;simp only[UE,R1,RY]at hx;rcases hx with hx | rfl
   ·exact h2 x hx
   exact hu
  intro q p hq;constructor
  ·rintro⟨x,hx,e1,e2⟩;simp only[UE,R1,RY]at hx;rcases hx with hx | rfl
   ·rw[hg2 q (λe=>g2 x hx (e1.trans e))];exact(h4 q p hq).1 ⟨x,hx,e1,e2⟩
   simp only at e1 e2;subst e1;subst e2;exact hg
  intro hp;by_cases e:q=u
  ·subst e;rw[hg]at hp;cases hp;exact⟨{ key:=q,val:=v,born:=c },by simp,rfl,rfl⟩
  rw[hg2 q e]at hp;obtain⟨x,hx,e⟩:=(h4 q p hq).2 hp;exact⟨x,by simp[show x∈es from by simpa using hx],e⟩
 have hj:es[j]? = VC x:=by simpa using g2
 have hmem:x∈es.toList:=SE g2;have hlt:j<es.size:=(Sj.1 hj).1;have hkeyf : ∀e',es[j]? = VC e'->({ e' with key:=u,val:=v }:MapEntry).key=e'.key:=λe' he'=>by rw[hj]at he';cases he';exact g3.symm
 have hst:Stamped (es.modify j (λe'=>{ e' with key:=u,val:=v })) c:=stamped_modify h3 _ _ (λ_ _=>rfl) (λe' _ he'=>hkeyf e' he');have hget : ∀i y,(es.modify j (λe'=>{ e' with key:=u,val:=v }))[i]? = VC y↔(i=j/\y={ x with key:=u,val:=v })\/(i≠j/\es[i]? = VC y):=by
  intro i y;rw[TZ];by_cases hij:i=j
  ·subst hij;rw[if_pos rfl,hj];simp[eq_comm]
  rw[if_neg (Ne.symm hij)];simp[hij]
 have huniq : ∀i y,es[i]? = VC y->y.key=u->i=j:=by
  intro i y hy hk;have hnd:=h3.2.2;have e1:(es.toList.map (·.key))[i]? = VC u:=by simp[hy,hk]
  have e2:(es.toList.map (·.key))[j]? = VC u:=by simp[hj,g3]
  have hl1:=(S7.1 e1);have hl2:=(S7.1 e2);obtain⟨l1,q1⟩:=hl1;obtain⟨l2,q2⟩:=hl2;exact(List.getElem_inj hnd).1 (q1.trans q2.symm)
 refine⟨.map (es.modify j (λe'=>{ e' with key:=u,val:=v })) c,?_,_,_,(MapKept.heap_set h1).1,?_,hst,?_⟩
 ·simp[Instr.mapUpdate,run_underlying ht,MapKept.run_getObj_map h1,MapKept.run_checkKey hd hu,MapKept.run_findKey hd g1,hj,g3,MapKept.run_keyThatStays hu,MapKept.run_setObj_map _ h1,Result.andThen]
 ·intro y hy;obtain⟨i,hi⟩:=TN hy;have hi:(es.modify j (λe'=>{ e' with key:=u,val:=v }))[i]? = VC y:=by rw[S4]at hi;exact hi
  rcases(hget i y).1 hi with⟨_,rfl⟩ | ⟨_,h5⟩
  ·exact hu
  exact h2 y (SE (by simpa using h5))
 intro q p hq;constructor
 ·rintro⟨y,hy,e1,e2⟩;obtain⟨i,hi⟩:=TN hy;have hi:(es.modify j (λe'=>{ e' with key:=u,val:=v }))[i]? = VC y:=by rw[S4]at hi;exact hi
  rcases(hget i y).1 hi with⟨_,rfl⟩ | ⟨h6,h5⟩
  ·simp only at e1 e2;subst e1;subst e2;exact hg
  rw[hg2 q (λe=>h6 (huniq i y h5 (e1.trans e)))];exact(h4 q p hq).1 ⟨y,SE (by simpa using h5),e1,e2⟩
 intro hp;by_cases hqu:q=u
 ·subst hqu;rw[hg]at hp;cases hp;refine⟨{ x with key:=q,val:=v },SE (i:=j) ?_,rfl,rfl⟩;rw[S4];exact(hget j { x with key:=q,val:=v }).2 (.inl ⟨rfl,rfl⟩)
 rw[hg2 q hqu]at hp;obtain⟨y,hy,e1,e2⟩:=(h4 q p hq).2 hp;obtain⟨i,hi⟩:=TN hy;have hi':es[i]? = VC y:=by simpa using hi
 refine⟨y,SE (i:=i) ?_,e1,e2⟩;rw[S4];refine(hget i y).2 (.inr ⟨λe=>?_,hi'⟩);subst e;rw[hj]at hi';cases hi';exact hqu (e1.symm.trans g3)
variable{op:Op}
theorem kS{x q:Operand}{u v:Value}(hop:op = .mapUpdate t x y q\/op = .insert t x y q)(ht:P.underlying t=VC (.map k e))(hd:P.underlying k=VC d)(hx:asg us x = .map (VC r))(hy:asg us y=u)(hq:asg us q=v)(hu:IsKey d u)(m:dh d h r f)(g:Value->Option Value)(hg:g u=VC v)(hg2 : ∀j,j≠u->g j=f j)(hk : ∀h':Heap,h'.size=h.size->(∀b,b≠r->h'[b]? = h[b]?)->dh d h' r g->K undef h'):step P op ty us h K:=by refine dr (pO λw hw=>?_);subst hw;obtain⟨o,h1,h2⟩:=FX (v:=v) ht hd hu m g hg hg2;obtain⟨es,c,h3,_⟩:=m.ex;have hoth:=(MapKept.heap_set (o':=o) h3).2;refine⟨{ w with heap:=w.heap.setIfInBounds r o },?_,Same.pC rfl rfl rfl V5 h3 V5 (λk _ hne=>hoth k hne),hk _ V5 hoth h2⟩;rcases hop with rfl | rfl<;>simp only[bQ,execOp,hx,hy,hq]<;>simp[h1]
end
def mapI(f:Int->Option Int):Value->Option Value
 | Vz VA j=>(f j).map (.int .i64)
 | _=>VD
@[simp] theorem DO{f:Int->Option Int}{j:Int}:mapI f (Vz VA j)=(f j).map (.int .i64):=rfl
def mapB(s:Int->Bool):Value->Option Value
 | Vz VA j=>if s j then VC (.bool VG) else VD
 | _=>VD
@[simp] theorem D8{s:Int->Bool}{j:Int}:mapB s (Vz VA j)=if s j then VC (.bool VG) else none:=rfl
theorem cM{j:Int}:IsKey (.int .i64) (Vz VA j):=rfl
theorem wm{f g:Int->Option Int}{j v:Int}(h : ∀i,g i=if i=j then VC v else f i):mapI g (Vz VA j)=VC (Vz VA v)/\∀u,u≠Vz VA j->mapI g u=mapI f u:=by
 refine⟨by simp[h],λu hu=>?_⟩;cases u<;>try rfl
 rename_i k i;cases k<;>try rfl
 have:i≠j:=λe=>hu (by rw[e]);simp[h,this]
theorem Ko{f g:Int->Bool}{j:Int}(h : ∀i,g i=if i=j then VG else f i):mapB g (Vz VA j)=VC (.bool VG)/\∀u,u≠Vz VA j->mapB g u=mapB f u:=by
 refine⟨by simp[h],λu hu=>?_⟩;cases u<;>try rfl
 rename_i k i;cases k<;>try rfl
 have:i≠j:=λe=>hu (by rw[e]);simp[h,this]
@[simp] theorem Qg{s:Bool}:(if s=VG then VC (Value.bool VG) else .none).getD (.bool VH) = .bool s:=by cases s<;>rfl
end
section
variable{po:OP}{pp:PP}
variable{P:Program}{ρ:Env}
theorem aa{x y:LC}{Q:Post}{h:Heap}(hx : ∀z,z=y->LC.wp P x (fL (LC.wp P z Q) Q) ρ h):LC.wp P (.seq x y) Q ρ h:=hx y rfl
variable{kill:List Nat}{sets args:List (Nat × E)}{chk:List E}{op:Op}{ty:TypeId}{dst:Option Nat}{keep:Bool}{next:Reg}
theorem dg{m:Option View}{grd:Option (E × Bool)}{tail:Bool}{Q:Env->Heap->Prop}{h:Heap}(hx : ∀z,z=next->eZ P m (.loud kill sets args grd chk tail op ty dst keep z) Q ρ h):eZ P m (.loud kill sets args grd chk tail op ty dst keep next) Q ρ h:=hx next rfl
def sw{α:Type}[Rep α](X:View):List Value->List α->Prop
 | [],[]=>True
 | v::vs,d::ds=>Rd X v d/\sw X vs ds
 | _,_=>False
theorem sw.len{α:Type}[Rep α]{X:View} : ∀{vs:List Value} {ds:List α},sw X vs ds->vs.length=ds.length
 | [],[],_=>rfl
 | _::_,_::_,h=>by simp[sw.len h.2]
theorem sw.get{α:Type}[Rep α]{X:View} : ∀{vs:List Value} {ds:List α},sw X vs ds->∀(i:Nat) (h1:i<vs.length) (h2:i<ds.length),Rd X vs[i] ds[i]
 | _::_,_::_,h,0,_,_=>h.1
 | _::_,_::_,h,i+1,h1,h2=>h.2.get i _ _
variable{α:Type}
theorem Rd.Ps[Rep α]{X:View}{v:Value}{d:α}(ha:Rep.agg α=VH)(h:Rd X v d):v.cells = #[v]:=by unfold Rd at h;rw[if_neg (by simp[ha])]at h;have hfl:=Rep.flat h v V5;cases v<;>first | rfl | simp[Value.oneCell']at hfl
theorem EG : ∀(vs:List Value) (k:Nat) (A:Array Value),(∀v∈vs,v.cells = #[v])->k+vs.length=A.size->
  ∃B,Instr.fill (λj=>VC (j*1,1)) A ((vs.zipIdx k).map λp=>(p.2,p.1))=VC B/\B.toList=A.toList.take k++vs
 | [],k,A,_,hk=>⟨A,rfl,by simp at hk;rw[Sr (by simp[hk])];simp⟩
 | v::vs,k,A,hv,hk=>by
  have hc:=hv v (Sg ..);obtain⟨B,h1,h2⟩:=EG vs (k+1) (A.setIfInBounds k v) (λu hu=>hv u (Sa _ hu)) (by simp at hk ⊢;omega);refine⟨B,?_,?_⟩
  ·simp only[UQ,S8,Instr.fill,hc,SX];rw[if_neg (by simp at hk ⊢;omega)];simpa using h1
  rw[h2];have hkA:k<A.toList.length:=by simp at hk ⊢;omega
  rw[Si (by simpa using hkA)];simp[UU]
end
structure Cat(α β:Type) where
 a:α
 b:β
instance {α β:Type}[Rep α][Rep β]:Rep (Cat α β) where
 n:=Rep.n α+Rep.n β
 agg:=true
 rd:=λH cs d=>∃c1 c2,cs=c1++c2/\Rep.rd H c1 d.a/\Rep.rd H c2 d.b
 mono:=λhk ⟨c1,c2,h1,h2,h3⟩=>⟨c1,c2,h1,Rep.mono hk h2,Rep.mono hk h3⟩
 len:=λ⟨c1,c2,h1,h2,h3⟩=>by rw[h1,Sf,Rep.len h2,Rep.len h3]
 one:=λh=>by cases h
 flat:=λ⟨c1,c2,h1,h2,h3⟩ u hu=>by
  rw[h1]at hu
  rcases R1.1 hu with hu | hu
  ·exact Rep.flat h2 u hu
  ·exact Rep.flat h3 u hu
 pos:=Nat.add_pos_left Rep.pos _
 cf:=λ⟨c1,c2,h1,h2,h3⟩=>⟨c1,c2,h1,Rep.cf h2,Rep.cf h3⟩
abbrev Rep.via{α γ:Type}[Rep α](f:γ->α):Rep γ where
 n:=Rep.n α
 agg:=Rep.agg α
 rd:=λH cs d=>Rep.rd H cs (f d)
 mono:=λhk h=>Rep.mono hk h
 len:=λh=>Rep.len h
 one:=λh=>Rep.one h
 flat:=λh=>Rep.flat h
 pos:=Rep.pos
 cf:=λh=>Rep.cf h
variable{H:View}
theorem Fp{a:Addr}{c1 c2:List Value}(h:gN H a (c1++c2)):gN H a c1/\gN H (a.add c1.length) c2:=by
 obtain⟨c,T,fz,hs,hb,he⟩:=h;rw[Sf]at he;have h1:(c.toList.drop a.off).take c1.length=c1:=by have:=congrArg (List.take c1.length) he;rw[TC,Tw V4,UC]at this;exact this
 have h2:(c.toList.drop (a.off+c1.length)).take c2.length=c2:=by have:=congrArg (List.drop c1.length) he;rw[TB,TU,List.drop_left]at this;rw[show c1.length+c2.length-c1.length=c2.length by omega]at this;exact this
 refine⟨⟨c,T,fz,hs,hb,h1⟩,?_⟩;rw[bF hs];exact⟨c,T,fz,rfl,hb,h2⟩
variable{α β:Type}
theorem At.cat[Rep α][Rep β]{a:Addr}{d:Cat α β}(h:At H a d):At H a d.a/\At H (a.add (Rep.n α)) d.b:=by obtain⟨cs,h1,c1,c2,rfl,h2,h3⟩:=h;obtain⟨g1,g2⟩:=Fp h1;rw[Rep.len h2]at g2;exact⟨⟨c1,g1,h2⟩,⟨c2,g2,h3⟩⟩
theorem At.int{H:View}{a:Addr}{d:Int}(h:At H a d):aq H a=VC (Vz VA d):=by obtain⟨u,h1,h2⟩:=h.load rfl;rw[(bu.1 h2).1]at h1;exact h1
theorem At.list[Rep α]{a:Addr}{l:List α}(h:At H a l): ∃v,aq H a=VC v/\SlRd H v l:=by obtain⟨u,h1,h2⟩:=h.load rfl;exact⟨u,h1,dw.1 h2⟩
theorem At.i32{H:View}{a:Addr}{d:I32}(h:At H a d):aq H a=VC (Vz VB d.v):=by obtain⟨u,h1,h2⟩:=h.load rfl;rw[(F9.1 h2).1]at h1;exact h1
structure InD where
 frm:Int
 val:Int
 deriving Inhabited,DecidableEq
instance:Rep InD:=Rep.via λd=>Cat.mk d.frm d.val
structure PhiD where
 dst:Int
 ins:List InD
 deriving Inhabited,DecidableEq
instance:Rep PhiD:=Rep.via λd=>Cat.mk d.dst d.ins
structure InsD where
 op:Int
 dst:Int
 two:Int
 args:List Int
 imm:I32
 deriving Inhabited,DecidableEq
instance:Rep InsD:=Rep.via λd=>Cat.mk d.op (Cat.mk d.dst (Cat.mk d.two (Cat.mk d.args d.imm)))
structure db where
 kind:Int
 args:List Int
 to:List Int
 imm:I32
 deriving Inhabited,DecidableEq
instance:Rep db:=Rep.via λd=>Cat.mk d.kind (Cat.mk d.args (Cat.mk d.to d.imm))
structure BlkD where
 phis:List PhiD
 ins:List InsD
 term:db
 deriving Inhabited,DecidableEq
instance:Rep BlkD:=Rep.via λd=>Cat.mk d.phis (Cat.mk d.ins d.term)
structure ak where
 params:Int
 blocks:List BlkD
 deriving Inhabited,DecidableEq
instance:Rep ak:=Rep.via λd=>Cat.mk d.params d.blocks
section
open Go.MapKept
variable{po:OP}{pp:PP}
section
variable{P:Program}{ty:TypeId}{us:List (Nat × Value)}{h:Heap}{K:Value->Heap->Prop}
def isIface:TypeDesc->Bool
 | .interface _=>VG
 | _=>VH
theorem Lz{t:TypeId}{d:TypeDesc}{x:Operand}{v:Value}(hd:P.underlying t=VC d)(hn:isIface d=VH)(hx:asg us x=v)(hk:K (.iface t v) h):step P (.makeInterface t x) ty us h K:=by refine dr (cO λw hw=>⟨.iface t v,w,?_,Same.refl _,by rw[hw];exact hk⟩);simp only[bQ,execOp,hx];cases d<;>first | (simp[isIface]at hn;done) | (simp[Instr.makeInterface,run_underlying hd];done)
theorem K7{x:Operand}{t:TypeId}{v:Value}(hx:asg us x = .iface t v)(hk:po.op [{ v:=.iface t v,recovered:=false }] h):step P (.panic x) ty us h K:=by
 refine dr ?_;intro w hw r o a K' Q' hK hQ;have hr:(bQ (.panic x) ty us).run P w = .halt (.panic (.iface t v)) w:=by simp only[bQ,execOp,hx];simp[Instr.panic,goPanic,Sem.run]
 rw[hr];simp only[Oper.uponIn];exact hQ _ w (by rw[hw];exact hk) (Same.refl _)
theorem IL{T xT:TypeId}{d:TypeDesc}{x:Operand}{v:Value}(hd:P.underlying T=VC d)(hn:isIface d=VH)(hx:asg us x = .iface T v)(hk:K (.tuple #[v,.bool VG]) h):step P (.typeAssert x xT T VG) ty us h K:=by refine dr (cO λw hw=>⟨.tuple #[v,.bool VG],w,?_,Same.refl _,by rw[hw];exact hk⟩);simp only[bQ,execOp,hx];cases d<;>first | (simp[isIface]at hn;done) | (simp[Instr.typeAssert,run_underlying hd];done)
variable{r:Nat}{y:Operand}
theorem eo{t k e:TypeId}{d:TypeDesc}{f:Value->Option Value}{x:Operand}{u z:Value}(ht:P.underlying t=VC (.map k e))(hd:P.underlying k=VC d)(hz:(P.info? e).map (·.zero)=VC (VC z))(hx:asg us x = .map (VC r))(hy:asg us y=u)(hu:IsKey d u)(m:dh d h r f)(hk:K (.tuple #[(f u).getD z,.bool (f u).isSome]) h):step P (.lookup t x y VG) ty us h K:=by
 obtain⟨es,c,h1,h2,h3,h4⟩:=m.ex;simp only[Sc]at hz;obtain⟨i,hi,hz⟩:=hz;refine dr (cO λw hw=>⟨_,w,?_,Same.refl _,by rw[hw];exact hk⟩);have hz':(zeroValue e).run P w = .ok z w:=by simp[zeroValue,typeInfo,hi,hz]
 rw[<-hw]at h1;simp only[bQ,execOp,hx,hy];rcases MapKept.findNow_spec hu es.toList 0 h2 with⟨g1,g2⟩ | ⟨j,x,g1,g2,g3⟩
 ·have hf:f u = .none:=by
   cases hfu:f u with
   | none=>rfl
   | some v=>obtain⟨x,hx,e1,_⟩:=(h4 u v hu).2 hfu;exact absurd e1 (g2 x hx)
  simp[Instr.lookup,run_underlying ht,MapKept.run_getObj_map h1,MapKept.run_checkKey hd hu,MapKept.run_findKey hd g1,Result.andThen,hf,hz']
 have hf:f u=VC x.val:=(h4 u x.val hu).1 ⟨x,SE g2,g3,rfl⟩;simp[Instr.lookup,run_underlying ht,MapKept.run_getObj_map h1,MapKept.run_checkKey hd hu,MapKept.run_findKey hd g1,Result.andThen,hf]
variable{b:Bool}
theorem Fu{T:TypeId}{ms:Array (String × TypeId)}{w:World}{v:Value}(hd:P.underlying T=VC (.interface ms))(hv:v = .nilIface/\b=VG\/∃t u,v = .iface t u/\b=VH):(Op.equal T v .nilIface).run P w = .ok b w:=by
 have key : ∀n,(Op.equalIn (n+1) T v .nilIface).run P w = .ok b w:=λn=>by rcases hv with⟨rfl,rfl⟩ | ⟨t,u,rfl,rfl⟩<;>simp[Op.equalIn,run_underlying hd]
 exact key 9999
theorem ED{T rt:TypeId}{ms:Array (String × TypeId)}{x:Operand}{v:Value}(hd:P.underlying T=VC (.interface ms))(hx:asg us x=v)(hv:v = .nilIface/\b=VG\/∃t u,v = .iface t u/\b=VH)(hk:K (.bool b) h):
  step P (.binOp .eql T x (.const .nilIface) rt) ty us h K:=by refine dr (cO λw hw=>⟨.bool b,w,?_,Same.refl _,by rw[hw];exact hk⟩);simp only[bQ,execOp,hx,AZ];have:=Fu (w:=w) hd hv;rcases hv with⟨rfl,rfl⟩ | ⟨t,u,rfl,rfl⟩<;>simp[eqGuard,binOp,this]
end
end
def uY(P:Program)(g:FuncId)(args:Array Value)(u:FrameMode)(h:Heap)(S:FrameMode->Heap->Prop):Prop:=
 ∀w:World,w.heap=h->CallsDIn (Fw VD) 0 P g args u w λe u' w'=>e = .returned (.tuple #[])/\S u' w'.heap/\Same w w'
variable{P:Program}{caps:Array Value}
theorem FM{fn:Func}{a:Act}{w:World}{R:Ending->World->Prop}{g:FuncId}{S:FrameMode->Heap->Prop}{u:FrameMode}(hg:isFn P g=VG)(hd:a.defers=[{ target:=.fn (.func g) caps,args:=#[] }])(hu:u≠.run)(hc:uY P g caps u w.heap S)(hS : ∀u' w',S u' w'.heap->Same w w'->settle u' = .returning/\∃v,(results fn a.tmps).run P w' = .ok v w'/\R (.returned v) w'):LeavesIn (Fw VD) 0 P fn a.tmps R a.defers u w:=by
 rw[hd];refine leavesIn_cons (f:=g) (args:=caps) hu (by simp[Fw,Fence.wide]) ?_ (λ_ _=>trivial) ((hc w rfl).mono ?_)
 ·unfold isFn at hg;cases hfn':P.funcs[g]? with
  | none=>simp[hfn']at hg
  | some fn'=>simp only[hfn',Se,bne_iff_ne,ne_eq]at hg;obtain⟨h1,h2⟩:=hg;simp[invoke,callFunc,program,Sem.run,hfn',h1,Option.isNone];cases hb:fn'.body<;>simp[hb]at h2 ⊢
 rintro e u' w' ⟨rfl,h1,h2⟩;obtain⟨h3,v,h4,h5⟩:=hS u' w' h1 h2;show LeavesIn (Fw VD) 0 P fn a.tmps R [] (settle u') w';rw[h3];exact⟨v,h4,h5⟩
def wv(ρ:Env):List Operand->Option (List Value)
 | []=>VC []
 | .tmp t::l=>match look ρ t,wv ρ l with
  | some v,VC vs=>VC (v::vs)
  | _,_=>VD
 | _::_=>VD
theorem zV{ρ:Env}{a:Act}(hs:Sat ρ a) : ∀{l:List Operand} {vs:List Value},wv ρ l=VC vs->l.map a.eval=vs
 | [],vs,h=>by simp[wv]at h;subst h;rfl
 | .tmp t::l,vs,h=>by
  simp only[wv]at h;split at h
  ·rename_i v vs' h1 h2;simp only[RW]at h;subst h;have:=hs t v h1;simp[Act.eval,this,zV hs h2]
  cases h
 | .const _::_,_,h=>by simp[wv]at h
 | .global _::_,_,h=>by simp[wv]at h
 | .func _::_,_,h=>by simp[wv]at h
theorem tN{f:FuncId}{fn:Func}{c0 c1:Code}{id:Nat}{o1 o2:Oper}{g t:Nat}{capops:Array Operand}{tys:Array TypeId}{live0 liveR0 live1 liveR1:List Nat}{L0 L1:LC}{res:List E}{args:List Value}{h:Heap}{R:Value->Heap->Prop}{Mid:Env->Heap->Prop}(hm:P.follows .mixedOrders=VG)(hf:P.funcs[f]? = VC fn)(hb:fn.body=VC (.seq c0 (.seq (.region id #[o1,o2] VH) c1)))(h1:o1.op = .makeFunc (.func g) #[] capops)(h1d:o1.dst=VC t)(h1g:o1.guard=VD)(h2:o2.op = .defer ⟨.value (.tmp t),#[],tys⟩)(h2d:o2.dst=VD)(h2g:o2.guard=VD)(ht:t<fn.ntmps)(hg:isFn P g=VG)(hL0:eE P fn.ntmps live0 liveR0 VH c0=VC L0)(hp0:L0.plain=VG)(hL1:eE P fn.ntmps live1 liveR1 VH c1=VC L1)(hp1:L1.plain=VG)(hres:fn.results.toList.mapM (resE P)=VC res)(hn:args.length<=fn.ntmps)(hw:@LC.wp noPP P L0 (fL Mid λ_ _ _=>False) (lN 0 args) h)(hmid : ∀ρ hh,Mid ρ hh->∃capv,wv ρ capops.toList=VC capv/\∃pp:PP,
   @LC.wp pp P L1 (λe ρ2 h2=>(e = .normal\/e = .ret)/\∃S,uY P g capv.toArray .returning h2 S/\∀u' h3,S u' h3->settle u' = .returning/\∃vs,evs (look ρ2) (vw h3) res=VC vs/\R (pack vs) h3) (cK ρ [t]) hh/\
   ∀ch ρ2 h2,pp.kp ch h2->pp.fx ρ2->∃S,uY P g capv.toArray (.panicking ch) h2 S/\∀u' h3,S u' h3->settle u' = .returning/\∃vs,evs (look ρ2) (vw h3) res=VC vs/\R (pack vs) h3):
  ay P f args.toArray h R:=by
 intro w hwh;subst hwh;have hsat:Sat (lN 0 args) { tmps:=args.toArray++Array.replicate (fn.ntmps-args.toArray.size) undef,defers:=[] }:=by
  intro t v hl;obtain⟨_,h2⟩:=rB args 0 t v hl;have:t<args.length:=by
   rcases Sb t args.length with h | h
   ·exact h
   simp[SM h]at h2
  simp only[Nat.sub_zero]at h2;simp only[UK,T3,this,if_true,UL];exact h2
 refine(callsIn_wide (n:=0)).1 (callsIn_of_wp_defers hf hb trivial (wpIn_seq (wpIn_mono (ee (r:=VD) hm c0 hL0 (λ_=>rfl) hw hsat Vt) ?_)));rintro e a1 w1 ⟨ρ1,s1,n1,⟨ms,hds,hms,_⟩,hq,hS1⟩;rw[hms hp0]at hds;have hds:a1.defers=[]:=hds;have hq:=tI hq;cases e with
 | normal=>
  obtain⟨capv,hcap,pp,hwp,hpan⟩:=hmid ρ1 w1.heap hq;have hev:=zV s1 hcap;refine wpIn_seq (wpIn_region_list ?_);have wt1:Region.wanted o1 (yielded #[o1,o2] a1.tmps)=true:=by simp[Region.wanted,h1g]
  have hf1:(execOp a1.eval o1).run P w1 = .ok (.value (.func (.func g) #[] capv.toArray)) w1:=by
   simp only[execOp,h1];have:capops.map a1.eval=capv.toArray:=by rw[<-hev,<-Array.toList_inj];simp
   simp[this,Instr.makeFunc]
  have hput:a1.put o1.dst (.func (.func g) #[] capv.toArray)={ tmps:=a1.tmps.setIfInBounds t (.func (.func g) #[] capv.toArray),defers:=a1.defers }:=by rw[h1d];rfl
  have hget:(a1.tmps.setIfInBounds t (.func (.func g) #[] capv.toArray))[t]? = VC (.func (.func g) #[] capv.toArray):=by rw[UA];simp[n1,ht]
  simp only[wpListIn];rw[if_pos wt1];refine⟨λ_ _=>trivial,?_⟩;rw[Oper.semAt_eq _ _ _ (by intro c e;rw[h1]at e;cases e),hf1];simp only[Oper.uponIn,hput];have wt2:Region.wanted o2 (yielded #[o1,o2] (a1.tmps.setIfInBounds t (.func (.func g) #[] capv.toArray)))=true:=by simp[Region.wanted,h2g]
  rw[if_pos wt2];have hf2:(execOp (Act.eval { tmps:=a1.tmps.setIfInBounds t (.func (.func g) #[] capv.toArray),defers:=a1.defers }) o2).run P w1 = .ok (.defer { target:=.fn (.func g) capv.toArray,args:=#[] }) w1:=by simp only[execOp,h2];simp[resolve,Act.eval,hget,Deferred.ofValue]
  refine⟨λ_ _=>trivial,?_⟩;rw[show Fence.wide.round=VD from rfl,Oper.semAt_none,hf2];simp only[Oper.uponIn,h2d,Act.put,hds];show c1.wpIn (Fw VD) 0 P _ _ _;have s2:Sat (cK ρ1 [t]) { tmps:=a1.tmps.setIfInBounds t (.func (.func g) #[] capv.toArray),defers:=[{ target:=.fn (.func g) capv.toArray,args:=#[] }] }:=by intro x v hl;obtain⟨e1,e2⟩:=oJ _ _ _ _ hl;have hne:t≠x:=λe=>e1 (by simp[e]);simp only[S3 hne];exact s1 x v e2
  refine wpIn_mono (ee (pp:=pp) (r:=VD) (a:={ tmps:=a1.tmps.setIfInBounds t (.func (.func g) #[] capv.toArray),defers:=[{ target:=.fn (.func g) capv.toArray,args:=#[] }] }) hm c1 hL1 (λ_=>rfl) hwp s2 (by simp[n1])) ?_;rintro e a2 w2 ⟨ρ2,s3,n3,⟨ms2,hds2,hms2,_⟩,hq2,hS2⟩;rw[hms2 hp1]at hds2;have hds2:a2.defers=[{ target:=.fn (.func g) capv.toArray,args:=#[] }]:=hds2;have fin : ∀(u:FrameMode),u≠.run->(∃S,uY P g capv.toArray u w2.heap S/\∀u' h3,S u' h3->settle u' = .returning/\∃vs,evs (look ρ2) (vw h3) res=VC vs/\R (pack vs) h3)->
    LeavesIn (Fw VD) 0 P fn a2.tmps (λe w'=>∃v,e = .returned v/\R v w'.heap/\Same w w') a2.defers u w2:=by rintro u hu ⟨S,hc,hS⟩;refine FM hg hds2 hu hc λu' w' hu' hsame=>?_;obtain⟨g1,vs,g2,g3⟩:=hS u' w'.heap hu';exact⟨g1,pack vs,px hres (tz (λt v h=>s3 t v h) g2),pack vs,rfl,g3,(hS1.trans hS2).trans hsame⟩
  cases e with
  | normal=>exact fin .returning V5 hq2.2
  | ret=>exact fin .returning V5 hq2.2
  | panic ch=>exact fin (.panicking ch) V5 (hpan ch ρ2 w2.heap hq2.2 hq2.1)
  | exit i=>rcases hq2.1 with h | h<;>cases h
  | goto l=>rcases hq2.1 with h | h<;>cases h
  | outgrown=>rcases hq2.1 with h | h<;>cases h
 | _=>exact hq.elim
def kZ:FrameMode->Value × FrameMode
 | .panicking ({ v,recovered:=false,goexit:=false }::older)=>(v,.panicking ({ v,recovered:=true }::older))
 | u=>(.nilIface,u)
theorem rP{g:FuncId}{fn:Func}{c1:Code}{id t:Nat}{o:Oper}{tys:Array TypeId}{live liveR:List Nat}{L:LC}{args:List Value}{u:FrameMode}{h:Heap}{S:FrameMode->Heap->Prop}(hm:P.follows .mixedOrders=VG)(hf:P.funcs[g]? = VC fn)(hb:fn.body=VC (.seq (.region id #[o] VH) c1))(ho:o.op = .call ⟨.builtin .recover,#[],tys⟩)(hod:o.dst=VC t)(hog:o.guard=VD)(ht:t<fn.ntmps)(hL:eE P fn.ntmps live liveR VH c1=VC L)(hp:L.plain=VG)(hr:fn.results = #[])(hn:args.length<=fn.ntmps)(hw:@LC.wp noPP P L (λe _ h'=>(e = .normal\/e = .ret)/\S (kZ u).2 h') ((t,(kZ u).1)::cK (lN 0 args) [t]) h):uY P g args.toArray u h S:=by
 intro w hwh;subst hwh;refine callsDIn_of_wpSIn hf hb trivial λc₀ cs hu=>?_;apply wpSIn_seq;apply wpSIn_region;have hsat:Sat (lN 0 args) { tmps:=args.toArray++Array.replicate (fn.ntmps-args.toArray.size) undef,defers:=[] }:=by
  intro t v hl;obtain⟨_,h2⟩:=rB args 0 t v hl;have:t<args.length:=by
   rcases Sb t args.length with h | h
   ·exact h
   simp[SM h]at h2
  simp only[Nat.sub_zero]at h2;simp only[UK,T3,this,if_true,UL];exact h2
 have hsz:(args.toArray++Array.replicate (fn.ntmps-args.toArray.size) undef).size=fn.ntmps:=by simp;omega
 have hex : ∀ρ,(execOp ρ o).run P w = .ok .recover w:=λρ=>by simp only[execOp,ho];simp[resolve,invoke,builtin]
 generalize args.toArray++Array.replicate (fn.ntmps-args.toArray.size) undef=tm at hsat hsz;have hwant : ∀tm',Region.wanted o (yielded #[o] tm')=true:=λtm'=>by simp[Region.wanted,hog]
 have key : ∀(v:Value) (c':Frame),(kZ u).1=v->c'={ c₀ with mode:=(kZ u).2 }->c1.wpSIn (Fw VD) 0 P (bodyPostS P fn c₀ cs λe u' w'=>e = .returned (.tuple #[])/\S u' w'.heap/\Same w w') { tmps:=tm.setIfInBounds t v,defers:=[] } (c'::cs) w:=by
  intro v c' hv hc';have s2:Sat ((t,(kZ u).1)::cK (lN 0 args) [t]) { tmps:=tm.setIfInBounds t v,defers:=[] }:=by
   intro x y hl;simp only[look]at hl;split at hl
   ·rename_i e;subst e;simp only[RW]at hl;rw[<-hl,hv,UA];simp[hsz,ht]
   rename_i e;obtain⟨e1,e2⟩:=oJ _ _ _ _ hl;simp only[S3 e];exact hsat x y e2
  refine wpSIn_of_wpIn rfl (wpIn_mono (ee (pp:=noPP) (r:=VD) (a:={ tmps:=tm.setIfInBounds t v,defers:=[] }) hm c1 hL (λ_=>rfl) hw s2 (by simp[hsz])) ?_);rintro e a2 w2 ⟨ρ2,s3,n3,⟨ms2,hds2,hms2,_⟩,hq2,hS2⟩;rw[hms2 hp]at hds2;have hds2:a2.defers=[]:=hds2;have hq2:=tI hq2;have hres:(results fn a2.tmps).run P w2 = .ok (.tuple #[]) w2:=by simp[results,hr]
  have fin:a2.defers=[]/\∃u',c'::cs={ c₀ with mode:=u' }::cs/\∃v,(results fn a2.tmps).run P w2 = .ok v w2/\Ending.returned v = .returned (.tuple #[])/\S u' w2.heap/\Same w w2:=
   ⟨hds2,_,by rw[hc'],_,hres,rfl,hq2.2,hS2⟩;cases e with
  | normal=>exact fin
  | ret=>exact fin
  | panic ch=>rcases hq2.1 with h | h<;>cases h
  | exit i=>rcases hq2.1 with h | h<;>cases h
  | goto l=>rcases hq2.1 with h | h<;>cases h
  | outgrown=>rcases hq2.1 with h | h<;>cases h
 have hr0:List.range (#[o]:Array Oper).size=[0]:=rfl;rw[hr0];simp only[wpOpsSIn];have ho0:(#[o]:Array Oper)[0]? = VC o:=rfl;rw[ho0];simp only[hwant,if_true,hex];refine⟨λ_ _=>trivial,?_⟩;by_cases hcase : ∃v older,u = .panicking ({ v,recovered:=false,goexit:=false }::older)
 ·obtain⟨v,older,rfl⟩:=hcase;have e:recoverD (c₀::cs)=VC (v,{ c₀ with mode:=.panicking ({ v,recovered:=true }::older) }::cs):=by simp only[recoverD,hu]
  rw[e];simp only[hod];exact key v _ rfl rfl
 have e:recoverD (c₀::cs)=none:=by
  simp only[recoverD,hu];split
  ·exact absurd ⟨_,_,rfl⟩ hcase
  rfl
 have er:kZ u=(.nilIface,u):=by
  unfold kZ;split
  ·exact absurd ⟨_,_,rfl⟩ hcase
  rfl
 rw[e];simp only[hod];exact key .nilIface c₀ (by rw[er]) (by rw[er,<-hu])
section
variable{po po2:OP}{pp:PP}
structure Part(α β:Type)[Rep α][Rep β](o:Nat)(get:α->β)(set:α->β->α):Prop where
 fits:o+Rep.n β<=Rep.n α
 get : ∀{H:View} {cs:List Value} {d:α},Rep.rd H cs d->Rep.rd H ((cs.drop o).take (Rep.n β)) (get d)
 set : ∀{H:View} {cs us:List Value} {d:α} {x:β},Rep.rd H cs d->Rep.rd H us x->Rep.rd H (cs.take o++us++cs.drop (o+Rep.n β)) (set d x)
theorem Part.all[Rep α]:Part α α 0 (λd=>d) (λ_ x=>x) where
 fits:=by simp
 get:=λh=>by rw[TW,Sr (by rw[Rep.len h];exact RX _)];exact h
 set:=λh k=>by
  have:=Rep.len h
  rw[T8,SV,SO V4,TR];exact k
section
variable{α β γ:Type}[Rep α][Rep β][Rep γ]{o:Nat}
theorem Part.fst{g:α->γ}{s:α->γ->α}(p:Part α γ o g s):Part (Cat α β) γ o (λd=>g d.a) (λd x=>⟨s d.a x,d.b⟩) where
 fits:=St p.fits (Vf _ _)
 get:=by
  rintro H cs d ⟨c1,c2,rfl,h1,h2⟩
  have l1:=Rep.len h1
  have f:=p.fits
  rw[S6 V4,SU Vt]
  exact p.get h1
 set:=by
  rintro H cs us d x ⟨c1,c2,rfl,h1,h2⟩ k
  have l1:=Rep.len h1
  have f:=p.fits
  refine⟨_,c2,?_,p.set h1 k,h2⟩
  rw[SU V4,S6 V4]
  simp[Sk]
theorem Part.snd{g:β->γ}{s:β->γ->β}(p:Part β γ o g s):Part (Cat α β) γ (Rep.n α+o) (λd=>g d.b) (λd x=>⟨d.a,s d.b x⟩) where
 fits:=by
  have:=p.fits
  show Rep.n α+o+Rep.n γ<=Rep.n α+Rep.n β
  omega
 get:=by
  rintro H cs d ⟨c1,c2,rfl,h1,h2⟩
  have l1:=Rep.len h1
  rw[T7,SO V4,SV,show Rep.n α+o-c1.length=o by omega]
  exact p.get h2
 set:=by
  rintro H cs us d x ⟨c1,c2,rfl,h1,h2⟩ k
  have l1:=Rep.len h1
  refine⟨c1,_,?_,h1,p.set h2 k⟩
  rw[TK,Sr V4,show Rep.n α+o-c1.length=o by omega,T7,SO V4,SV,
   show Rep.n α+o+Rep.n γ-c1.length=o+Rep.n γ by omega]
  simp[Sk]
end
theorem Part.via{α β γ:Type}[ra:Rep α][rb:Rep β]{f:γ->α}{o o':Nat}{g:α->β}{s:α->β->α}(p:Part α β o g s){g':γ->β}{s':γ->β->γ}(hg : ∀d,g' d=g (f d))(hs : ∀d x,f (s' d x)=s (f d) x)(ho:o=o':=by rfl):@Part γ β (Rep.via f) rb o' g' s':=by subst ho;exact @Part.mk γ β (Rep.via f) rb o g' s' p.fits (fun{H cs d} h=>by rw[hg];exact p.get h) (fun{H cs us d x} h k=>by have:=p.set (show Rep.rd H cs (f d) from h) k;rw[<-hs]at this;exact this)
theorem At.part[Rep α][Rep β]{o:Nat}{g:α->β}{s:α->β->α}(p:Part α β o g s){a:Addr}{d:α}(h:At H a d):At H (a.add o) (g d):=by obtain⟨cs,h1,h2⟩:=h;have l:=Rep.len h2;exact⟨_,DA h1 o (Rep.n β) (by rw[l];exact p.fits),p.get h2⟩
theorem Rd.Qu[Rep α][Rep β]{o:Nat}{g:α->β}{s:α->β->α}(p:Part α β o g s)(ha:Rep.agg α=VG)(hb:Rep.agg β=VH){K:View}{v:Value}{d:α}(h:Rd H v d): ∃u,Un.ev K (.part o) v=VC u/\Rd H u (g d):=by
 unfold Rd at h;rw[if_pos ha]at h;obtain⟨cs,rfl,h⟩:=h;have l:=Rep.len h;have f:=p.fits;have k:=p.get h;rw[Rep.one hb]at f k;have hlt:o<cs.size:=by simpa using(show o<cs.toList.length by omega)
 refine⟨cs[o],by simp[hlt],?_⟩;unfold Rd;rw[if_neg (by simp[hb])];rw[SD (by simpa using hlt)]at k;simpa using k
theorem InD.QR:Part InD Int 0 InD.frm (λd x=>{ d with frm:=x }):=(Part.fst Part.all).via (λ_=>rfl) λ_ _=>rfl
theorem InD.G4:Part InD Int 1 InD.val (λd x=>{ d with val:=x }):=(Part.snd Part.all).via (λ_=>rfl) λ_ _=>rfl
theorem PhiD.iG:Part PhiD Int 0 PhiD.dst (λd x=>{ d with dst:=x }):=(Part.fst Part.all).via (λ_=>rfl) λ_ _=>rfl
theorem PhiD.jm:Part PhiD (List InD) 1 PhiD.ins (λd x=>{ d with ins:=x }):=(Part.snd Part.all).via (λ_=>rfl) λ_ _=>rfl
theorem InsD.xG:Part InsD Int 0 InsD.op (λd x=>{ d with op:=x }):=(Part.fst Part.all).via (λ_=>rfl) λ_ _=>rfl
theorem InsD.iG:Part InsD Int 1 InsD.dst (λd x=>{ d with dst:=x }):=(Part.snd (Part.fst Part.all)).via (λ_=>rfl) λ_ _=>rfl
theorem InsD.BT:Part InsD Int 2 InsD.two (λd x=>{ d with two:=x }):=(Part.snd (Part.snd (Part.fst Part.all))).via (λ_=>rfl) λ_ _=>rfl
theorem InsD.e9:Part InsD (List Int) 3 InsD.args (λd x=>{ d with args:=x }):=(Part.snd (Part.snd (Part.snd (Part.fst Part.all)))).via (λ_=>rfl) λ_ _=>rfl
theorem InsD.lL:Part InsD I32 4 InsD.imm (λd x=>{ d with imm:=x }):=(Part.snd (Part.snd (Part.snd (Part.snd Part.all)))).via (λ_=>rfl) λ_ _=>rfl
theorem db.Cg:Part db Int 0 db.kind (λd x=>{ d with kind:=x }):=(Part.fst Part.all).via (λ_=>rfl) λ_ _=>rfl
theorem db.e9:Part db (List Int) 1 db.args (λd x=>{ d with args:=x }):=(Part.snd (Part.fst Part.all)).via (λ_=>rfl) λ_ _=>rfl
theorem db.Cl:Part db (List Int) 2 db.to (λd x=>{ d with to:=x }):=(Part.snd (Part.snd (Part.fst Part.all))).via (λ_=>rfl) λ_ _=>rfl
theorem db.lL:Part db I32 3 db.imm (λd x=>{ d with imm:=x }):=(Part.snd (Part.snd (Part.snd Part.all))).via (λ_=>rfl) λ_ _=>rfl
theorem BlkD.uC:Part BlkD (List PhiD) 0 BlkD.phis (λd x=>{ d with phis:=x }):=(Part.fst Part.all).via (λ_=>rfl) λ_ _=>rfl
theorem BlkD.jm:Part BlkD (List InsD) 1 BlkD.ins (λd x=>{ d with ins:=x }):=(Part.snd (Part.fst Part.all)).via (λ_=>rfl) λ_ _=>rfl
theorem BlkD.nh:Part BlkD db 2 BlkD.term (λd x=>{ d with term:=x }):=(Part.snd (Part.snd Part.all)).via (λ_=>rfl) λ_ _=>rfl
theorem ak.Ap:Part ak Int 0 ak.params (λd x=>{ d with params:=x }):=(Part.fst Part.all).via (λ_=>rfl) λ_ _=>rfl
theorem ak.qg:Part ak (List BlkD) 1 ak.blocks (λd x=>{ d with blocks:=x }):=(Part.snd Part.all).via (λ_=>rfl) λ_ _=>rfl
def Sl{α:Type}[Rep α](H:View)(a:Addr)(v:Value)(l:List α):Prop:=aq H a=VC v/\SlRd H v l
theorem At.sl[Rep α]{a:Addr}{l:List α}(h:At H a l): ∃v,Sl H a v l:=h.list
variable{n:Nat}
theorem Addr.z{b o:Nat}:(⟨b,o,VD⟩:Addr).add n=⟨b,o+n,VD⟩:=bF rfl n
section
variable{α:Type}[Rep α]{P:Program}{ty:TypeId}{us:List (Nat × Value)}{h:Heap}
theorem gn{v:Value}{d:α}(hr:Rd H v d):Rep.rd H v.cells.toList d/\v.cells.size=Rep.n α/\∀c∈v.cells.toList,c.oneCell'=true:=by
 unfold Rd at hr;split at hr
 ·obtain⟨cs,rfl,h⟩:=hr;exact⟨h,by rw[<-Rep.len h];rfl,λc hc=>Rep.flat h c hc⟩
 rename_i ha;have hone:=Rep.one (α:=α) (by simpa using ha);have hfl:=Rep.flat hr v V5;have:v.cells = #[v]:=by cases v<;>first | rfl | simp[Value.oneCell']at hfl
 rw[this];exact⟨by simpa using hr,by simp[hone],by simpa using hfl⟩
theorem rh{b:Nat}{v:Value}{d:α}{t:TypeId}{fz:Nat × Nat}(hb:H b=VC (.cells v.cells t fz))(hr:Rd H v d):At H ⟨b,0,VD⟩ d:=
 ⟨_,⟨v.cells,t,fz,rfl,hb,by simp;exact Sr V5⟩,(gn hr).1⟩
variable{K:Value->Heap->Prop}
theorem eI{t:TypeId}{x:Operand}{v:Value}{d:α}(hx:asg us x=v)(hv:Rd (vw h) v d)(hk : ∀h':Heap,h'=h.push (.cells v.cells t)->(vw h).le (vw h')->h'.size=h.size+1->At (vw h') ⟨h.size,0,VD⟩ d->K (ptz h.size) h'):step P (.box t x) ty us h K:=
 ef hx (hk _ rfl (b8 _ _) V5 (rh (t:=t) (fz:=(0,0)) (by simp[vw]) (hv.mono (b8 _ _))))
theorem SlRd.whole{K:View}{v:Value}{l:List α}(h:SlRd H v l)(ha:Rep.agg α=VG)(hk:H.le K){i:Nat}(hi:i<l.length): ∃u,Un.ev K (.bI (Rep.n α)) (VF (VC ((slA v).add (i*Rep.n α))))=VC u/\Rd K u l[i]:=
 ((h.at hi).mono hk).bI ha
end
theorem At.rng{a:Addr}{d:Int}(h:At H a d):-9223372036854775808<=d/\d<=9223372036854775807:=by obtain⟨u,h1,h2⟩:=h.load rfl;exact(bu.1 h2).2
theorem At.bool{H:View}{a:Addr}{d:Bool}(h:At H a d):aq H a=VC (.bool d):=by obtain⟨u,h1,h2⟩:=h.load rfl;rw[qN.1 h2]at h1;exact h1
theorem aL[Rep α]:SlRd H (VE VD 0 0) ([]:List α):=⟨VD,0,rfl,by simp,by simp,.inl rfl⟩
variable{ty:TypeId}{bytes:Nat}{us:List (Nat × Value)}{K:Value->Heap->Prop}
theorem nJ[Rep α]{t e:Nat}{z:Value}{ps:Array (Nat × Operand)}{vs:List Value}{ds:List α}{h:Heap}(ha:Rep.agg α=VH)(hT:eU P t e 1 bytes z)(hp:ps.map (λp=>(p.1,asg us p.2))=((vs.zipIdx 0).map λp=>(p.2,p.1)).toArray){X:View}(hr:sw X vs ds)(hX:X.le (vw h))(hn:ds.length=n)(hb:n<=16777216)(hk : ∀u h',(vw h).le (vw h')->h'.size=h.size+1->(∀Y:View,X.le Y->Y h.size=h'[h.size]?->SlRd Y u ds)->u.ownBlock=VC h.size->K u h'):step P (.buildSlice t n ps) ty us h K:=by
 have hl:=hr.len;obtain⟨B,h1,h2⟩:=EG vs 0 ((Array.range (n*1)).map (z.cells[· % z.cells.size]!)) (λv hv=>by obtain⟨i,hi,rfl⟩:=Sy hv;exact(hr.get i hi V4).Ps ha) Vt;have hB:B=vs.toArray:=by rw[<-Array.toList_inj,h2];simp
 refine vU hT V4 hp h1 ?_;have hle:=b8 h (.cells B e);have hone:=Rep.one (α:=α) ha;refine hk _ _ hle V5 (λY hY hYb=>⟨VC ⟨h.size,0,VD⟩,n,by rw[hn],by omega,by omega,.inr ⟨_,rfl,rfl,λi hi=>?_⟩⟩) rfl;rw[bF rfl,hone];refine⟨[vs[i]],⟨B,e,(0,0),rfl,by rw[hYb];simp,?_⟩,?_⟩
 ·rw[hB];have hd:vs.drop i=vs[i]::vs.drop (i+1):=SD V4;simp only[Tj,SX,SL,Uy];show List.take (0+1) (List.drop i vs)=_;rw[hd];rfl
 have:=(hr.get i V4 hi).mono hY;unfold Rd at this;rw[if_neg (by simp[ha])]at this;exact this
def mapE{β:Type}(enc:β->Value)(f:Int->Option β):Value->Option Value
 | Vz VA j=>(f j).map enc
 | _=>VD
@[simp] theorem og{enc:β->Value}{f:Int->Option β}{j:Int}:mapE enc f (Vz VA j)=(f j).map enc:=rfl
def putM{β:Type}(f:Int->Option β)(j:Int)(v:β):Int->Option β:=λi=>if i=j then VC v else f i
theorem gX{enc:β->Value}{f:Int->Option β}{j:Int}{v:β}:mapE enc (putM f j v) (Vz VA j)=VC (enc v)/\∀u,u≠Vz VA j->mapE enc (putM f j v) u=mapE enc f u:=by
 refine⟨by simp[putM],λu hu=>?_⟩;cases u<;>try rfl
 rename_i k i;cases k<;>try rfl
 have:i≠j:=λe=>hu (by rw[e]);simp[putM,this]
theorem mj{enc:β->Value}:mapE enc (λ_=>.none)=λ_=>.none:=by
 funext u;cases u<;>try rfl
 rename_i k i;cases k<;>rfl
theorem Kept.skip{h h':Heap}{r:Nat}(k:Kept h h' (VC r)):(skip r h).le (Lft.skip r h'):=λb o hb=>by
 unfold Lft.skip at hb ⊢;split at hb
 ·cases hb
 rename_i hne;rw[if_neg hne];have hlt:=(Sj.1 hb).1;rw[k.block b hlt (by simpa using hne)];exact hb
variable{h':Heap}{r:Nat}
theorem Kept.GU{h:Heap}(k:Kept h h' (VC r)):(Lft.skip r h).le (vw h'):=Vx k.skip dm
theorem Kept.of_le{h:Heap}{b:Option Nat}(hle:(vw h).le (vw h')):Kept h h' b:=⟨bL hle,λk hk _=>by have:=hle k h[k] (Sv hk);rw[Sv hk];exact this⟩
theorem Kept.upd{h:Heap}(hs:h'.size=h.size)(ho : ∀b,b≠r->h'[b]? = h[b]?):Kept h h' (VC r):=⟨by omega,λk _ hk=>ho k (by simpa using hk)⟩
variable{ty2:TypeId}{y:Operand}{us2:Value->List (Nat × Value)}
theorem gA{h:Heap}{t:TypeId}{z:Value}{x:Operand}{v:Value}(hz:(P.info? t).map (·.zero)=VC (VC z))(hzc:z.cells.size=n)(hsz:da P t=VC n)(hv:v.cells.size=n)(hone : ∀c∈v.cells.toList,c.oneCell'=VG)(hx : ∀p,asg (us2 p) x=p)(hy : ∀p,asg (us2 p) y=v)(hk : ∀h':Heap,(vw h).le (vw h')->h'.size=h.size+1->h'[h.size]? = VC (.cells v.cells t (0,0))->K (ptz h.size) h'):
  @step po P (.alloc t) ty us h λp h2=>@step po2 P (.store t x y) ty2 (us2 p) h2 λ_ h3=>K p h3:=by
 refine dQ hz ?_;refine eJ (g:=h.size) (o:=0) (n:=n) (v:=v) (cur:=z.cells) (e:=t) hsz (hx _) (hy _) hv hone V5 V4 λh' hs ⟨row,hrow,he⟩ hoth=>?_;have hrow2:row=v.cells:=by rw[<-Array.toList_inj,he];simp only[T8,SV,Tj];rw[SO (by simp[hzc]),TR]
 rw[hrow2]at hrow;have hle:(vw h).le (vw h'):=λb o hb=>by have hlt:=View.lt (View.le_refl (vw h)) hb;show h'[b]? = _;rw[hoth b V4];exact b8 _ _ b o hb
 exact hk h' hle (by rw[hs];simp) hrow
section
variable{σ α ε:Type}{f:σ->α->Except ε σ}{s s':σ}{l:List α}{k:Nat}{t:ε}
theorem FR[Inhabited α](h:k<l.length)(hs:(l.take k).foldlM f s = .ok s'):(l.take (k+1)).foldlM f s=f s' (nth l k):=by rw[Si h,U0,hs,az h];show List.foldlM f s' [l[k]]=f s' l[k];rw[TF];cases f s' l[k]<;>rfl
theorem Jf(h:(l.take k).foldlM f s = .error t):l.foldlM f s = .error t:=by
 have e:l.foldlM f s=(l.take k++l.drop k).foldlM f s:=by rw[TY]
 rw[e,U0,h];rfl
end
def upE{σ ε:Type}(f:Nat->σ->Except ε σ):Nat->σ->Except ε σ
 | 0,s=>.ok s
 | k+1,s=>match upE f k s with
  | .ok s'=>f k s'
  | .error t=>.error t
theorem qn{σ ε:Type}{f:Nat->σ->Except ε σ}{k:Nat}{s s':σ}(h:upE f k s = .ok s'):upE f (k+1) s=f k s':=by simp only[upE,h]
theorem Cp{σ ε:Type}{f:Nat->σ->Except ε σ}{s:σ}{t:ε} : ∀{n k:Nat},k<=n->upE f k s = .error t->upE f n s = .error t
 | 0,k,hk,h=>by
  have:k=0:=by omega
  subst this;exact h
 | n+1,k,hk,h=>by
  rcases Sb n k with hlt | hge
  ·have:k=n+1:=by omega
   subst this;exact h
  simp only[upE,Cp hge h]
theorem CF{σ ε:Type}{f:Nat->σ->Except ε σ}{k:Nat}{s s':σ}{t:ε}(h:upE f k s = .ok s')(hk:k<n)(he:f k s' = .error t):upE f n s = .error t:=
 Cp (k:=k+1) hk (by rw[qn h,he])
theorem cW[Rep α]{h:Heap}{t:TypeId}{z:Value}{x:Operand}{v:Value}{d:α}{X:View}(hz:(P.info? t).map (·.zero)=VC (VC z))(hzc:z.cells.size=Rep.n α)(hsz:da P t=VC (Rep.n α))(hv:Rd X v d)(hx : ∀p,asg (us2 p) x=p)(hy : ∀p,asg (us2 p) y=v)(hk : ∀h':Heap,(vw h).le (vw h')->h'.size=h.size+1->(∀Y:View,X.le Y->Y h.size=h'[h.size]?->At Y ⟨h.size,0,VD⟩ d)->K (ptz h.size) h'):
  @step po P (.alloc t) ty us h λp h2=>@step po2 P (.store t x y) ty2 (us2 p) h2 λ_ h3=>K p h3:=by obtain⟨c1,c2,c3⟩:=gn hv;exact gA hz hzc hsz c2 c3 hx hy λh' hle hs hb=>hk h' hle hs λY hY hYb=>rh (by rw[hYb];exact hb) (hv.mono hY)
theorem mD{B:Nat}{d:BlkD}(h:At H ⟨B,0,VD⟩ d): ∃vp vi va vt,Sl H ⟨B,0,VD⟩ vp d.phis/\Sl H ⟨B,1,VD⟩ vi d.ins/\aq H ⟨B,2,VD⟩=VC (Vz VA d.term.kind)/\Sl H ⟨B,3,VD⟩ va d.term.args/\Sl H ⟨B,4,VD⟩ vt d.term.to:=by obtain⟨vp,h1⟩:=(h.part BlkD.uC).sl;obtain⟨vi,h2⟩:=(h.part BlkD.jm).sl;have ht:=h.part BlkD.nh;obtain⟨va,h4⟩:=(ht.part db.e9).sl;obtain⟨vt,h5⟩:=(ht.part db.Cl).sl;exact⟨vp,vi,va,vt,by simpa using h1,by simpa using h2,by simpa using(ht.part db.Cg).int,by simpa using h4,by simpa using h5⟩
theorem yP{B:Nat}{d:PhiD}(h:At H ⟨B,0,VD⟩ d):aq H ⟨B,0,VD⟩=VC (Vz VA d.dst)/\∃v,Sl H ⟨B,1,VD⟩ v d.ins:=by obtain⟨v,hv⟩:=(h.part PhiD.jm).sl;exact⟨by simpa using(h.part PhiD.iG).int,v,by simpa using hv⟩
theorem nC{B:Nat}{d:InsD}(h:At H ⟨B,0,VD⟩ d):aq H ⟨B,0,VD⟩=VC (Vz VA d.op)/\aq H ⟨B,1,VD⟩=VC (Vz VA d.dst)/\aq H ⟨B,2,VD⟩=VC (Vz VA d.two)/\∃v,Sl H ⟨B,3,VD⟩ v d.args:=by obtain⟨v,hv⟩:=(h.part InsD.e9).sl;exact⟨by simpa using(h.part InsD.xG).int,by simpa using(h.part InsD.iG).int,by simpa using(h.part InsD.BT).int,v,by simpa using hv⟩
theorem fh{B:Nat}{d:ak}(h:At H ⟨B,0,VD⟩ d):aq H ⟨B,0,VD⟩=VC (Vz VA d.params)/\∃v,Sl H ⟨B,1,VD⟩ v d.blocks:=by obtain⟨v,hv⟩:=(h.part ak.qg).sl;exact⟨by simpa using(h.part ak.Ap).int,v,by simpa using hv⟩
theorem Gf{B:Nat}{d:InD}(h:At H ⟨B,0,VD⟩ d):aq H ⟨B,0,VD⟩=VC (Vz VA d.frm)/\aq H ⟨B,1,VD⟩=VC (Vz VA d.val):=
 ⟨by simpa using(h.part InD.QR).int,by simpa using(h.part InD.G4).int⟩
theorem SlRd.wh[Rep α][Inhabited α]{v:Value}{l:List α}(h:SlRd H v l)(ha:Rep.agg α=VG){N:Nat}(hn:Rep.n α=N){i:Nat}(hi:i<l.length): ∃u,(∀K:View,H.le K->Un.ev K (.bI N) (VF (VC ((slA v).add (i*N))))=VC u)/\Rd H u (nth l i):=by subst hn;obtain⟨u,h1,h2⟩:=h.whole ha (View.le_refl H) hi;refine⟨u,λK hk=>?_,by rw[az hi];exact h2⟩;have:=dW (ρ:=λ_=>VD) (e:=.un (.bI (Rep.n α)) (.con (VF (VC ((slA v).add (i*Rep.n α)))))) hk (v:=u) (by simpa using h1);simpa using this
instance:Inhabited BlkD:=⟨⟨[],[],⟨0,[],[],⟨0⟩⟩⟩⟩
theorem xk{h:Heap}{f:FuncId}{t:Nat}{ops:List Operand}{T:Array TypeId}(hf:asg us (.tmp t) = .func (.func f) #[] caps){R:Value->Heap->Prop}{Rp:List PanicEntry->Heap->Prop}(hfn:isFn P f=VG)(hc:jG P f (ops.map (asg us)++caps.toList).toArray h R Rp)(hk : ∀v h',R v h'->K v h')(hp : ∀ch h',Rp ch h'->po.op ch h'):@step po P (.call ⟨.value (.tmp t),ops.toArray,T⟩) ty us h K:=by
 refine dr (po:=po) (yg (po:=po) (R:=R) (f:=f) (args:=(ops.map (asg us)++caps.toList).toArray) (λw _=>?_) hc hk hp);unfold isFn at hfn;cases hfn':P.funcs[f]? with
 | none=>simp[hfn']at hfn
 | some fn=>simp only[hfn',Se,bne_iff_ne,ne_eq]at hfn;obtain⟨h1,h2⟩:=hfn;simp[bQ,execOp,resolve,Deferred.ofValue,hf,invoke,callFunc,program,Sem.run,hfn',h1,Option.isNone];cases hb:fn.body<;>simp[hb]at h2 ⊢
variable{b:Bool}
@[simp] theorem PZ{v:Value}:gdv b undef v=undef:=rfl
@[simp] theorem Qb{o:Option Value}:gdO b undef o=VC undef:=rfl
end
end Go.Lft
namespace Go.Lft
theorem follows:Tryz.prog.follows .mixedOrders=true:=by kernel_rfl
abbrev T.int:Nat:=3
abbrev T.bool:Nat:=4
abbrev T.aZ:Nat:=22
abbrev T.oQ:Nat:=24
abbrev T.gB:Nat:=26
abbrev T.ku:Nat:=29
abbrev T.qY:Nat:=31
abbrev T.jF:Nat:=33
abbrev T.qm:Nat:=34
abbrev T.Pz:Nat:=39
abbrev T.fM:Nat:=42
abbrev T.nS:Nat:=47
abbrev T.kI:Nat:=48
abbrev T.eX:Nat:=50
abbrev T.gI:Nat:=52
abbrev T.lF:Nat:=53
abbrev T.iZ:Nat:=55
abbrev T.uM:Nat:=57
abbrev T.du:Nat:=59
abbrev T.tO:Nat:=84
abbrev T.bE:Nat:=86
abbrev T.lh:Nat:=88
abbrev T.jR:Nat:=91
abbrev T.qe:Nat:=92
abbrev T.fi:Nat:=94
abbrev T.qG:Nat:=97
abbrev T.yE:Nat:=98
abbrev T.fj:Nat:=102
abbrev T.DE:Nat:=103
abbrev T.HJ:Nat:=107
abbrev T.A7:Nat:=121
abbrev T.iO:Nat:=135
abbrev T.fH:Nat:=138
abbrev T.nQ:Nat:=140
abbrev T.Mo:Nat:=175
abbrev T.iF:Nat:=180
abbrev T.iC:Nat:=181
abbrev T.oC:Nat:=183
abbrev T.gh:Nat:=184
abbrev T.xp:Nat:=186
abbrev T.bf:Nat:=190
abbrev T.yz:Nat:=204
abbrev T.bZ:Nat:=232
abbrev T.kK:Nat:=234
abbrev T.gR:Nat:=236
abbrev T.cY:Nat:=238
abbrev T.Dj:Nat:=242
abbrev T.gJ:Nat:=256
abbrev T.nV:Nat:=258
abbrev T.fV:Nat:=259
abbrev T.jD:Nat:=261
abbrev T.dS:Nat:=295
abbrev T.ey:Nat:=297
theorem U.int:Tryz.prog.underlying T.int=VC (.int .i64):=by kernel_rfl
theorem U.aZ:Tryz.prog.underlying T.aZ=VC (.slice T.int):=by kernel_rfl
theorem El.aZ:eU VI T.aZ T.int 1 8 (Vz VA 0):=gZ V0 V0 rfl V6
theorem El.oQ:eU VI T.oQ T.fi 6 112 (.agg #[(VE VD 0 0),(VE VD 0 0),(Vz VA 0),(VE VD 0 0),(VE VD 0 0),(Vz VB 0)]):=gZ V0 V0 rfl V6
theorem El.ku:eU VI T.ku T.fM 2 16 (.agg #[(Vz VA 0),(Vz VA 0)]):=gZ V0 V0 rfl V6
theorem El.qY:eU VI T.qY T.gI 7 104 (.agg #[(VE VD 0 0),(VE VD 0 0),(Vz VA 0),(Vz VA 0),(Vz VA 0),(VE VD 0 0),(Vz VB 0)]):=gZ V0 V0 rfl V6
theorem El.nS:eU VI T.nS T.iZ 2 32 (.agg #[(Vz VA 0),(VE VD 0 0)]):=gZ V0 V0 rfl V6
theorem El.kI:eU VI T.kI T.du 8 80 (.agg #[(Vz VA 0),(Vz VA 0),(Vz VA 0),(Vz VA 0),(Vz VA 0),(Vz VA 0),(Vz VB 0),(VE VD 0 0)]):=gZ V0 V0 rfl V6
theorem U.lF:Tryz.prog.underlying T.lF=VC (.slice T.uM):=by kernel_rfl
theorem El.lF:eU VI T.lF T.uM 2 16 (.agg #[(Vz VA 0),(Vz VA 0)]):=gZ V0 V0 rfl V6
theorem El.lh:eU VI T.lh T.aZ 1 24 (VE VD 0 0):=gZ V0 V0 rfl V6
theorem El.qe:eU VI T.qe T.fj 5 56 (.agg #[(Vz VA 0),(Vz VA 0),(Vz VA 0),(VE VD 0 0),(Vz VB 0)]):=gZ V0 V0 rfl V6
theorem El.qG:eU VI T.qG T.bool 1 1 (.bool VH):=gZ V0 V0 rfl V6
theorem El.yE:eU VI T.yE T.qG 1 24 (VE VD 0 0):=gZ V0 V0 rfl V6
theorem El.iO:eU VI T.iO T.fH 4 64 (.agg #[(Vz VA 0),(Vz VA 0),(VE VD 0 0),(VE VD 0 0)]):=gZ V0 V0 rfl V6
theorem U.iF:Tryz.prog.underlying T.iF=VC (.map T.int T.bool):=by kernel_rfl
theorem U.iC:Tryz.prog.underlying T.iC=VC (.map T.int T.oC):=by kernel_rfl
theorem U.oC:Tryz.prog.underlying T.oC=VC (.array 2 T.int):=by kernel_rfl
theorem El.bZ:eU VI T.bZ T.kK 2 16 (.agg #[(Vz VA 0),(Vz VA 0)]):=gZ V0 V0 rfl V6
theorem U.cY:Tryz.prog.underlying T.cY=VC (.map T.int T.gR):=by kernel_rfl
theorem U.fV:Tryz.prog.underlying T.fV=VC (.map T.int T.kK):=by kernel_rfl
theorem U.ey:Tryz.prog.underlying T.ey=VC (.map T.int T.dS):=by kernel_rfl
open Go.ChangeShapes Go.WideShapes Go.RowKit
structure RT(P:Program)(t:TypeId)(α:Type)[Rep α]:Prop where
 cells : ∀{H:Type} {enc:TypeId × Value->H} {W:World} {spare:Nat->Bool} {held:Bool} {fuel:Nat} {cs:List Value} {d:DataW H} {ps:List MemPlace},
  DataW.trod enc P W 0 spare held fuel t cs=VC (d,ps)->(∀b∈d.weights P t,b<=reachBytes)->∃x:α,Rep.rd (vw W.heap) cs x
 val : ∀{W:World} {r:Reach} {base:Nat} {v:Value},Value.okWide P W r base t v->if Rep.agg α then ∃cs,v = .agg cs else v.cells = #[v]
theorem RT.arg{P:Program}{t:TypeId}{α:Type}[Rep α](rt:RT P t α){H:Type}{enc:TypeId × Value->H}{W:World}{spare:Nat->Bool}{held:Bool}{v:Value}{d:DataW H}{ps:List MemPlace}{r:Reach}{base:Nat}(h:DataW.Trod enc P W 0 spare held t v d ps)(hok:Value.okWide P W r base t v)(hw : ∀b∈d.weights P t,b<=reachBytes): ∃x:α,Rd (vw W.heap) v x:=by
 obtain⟨fuel,h⟩:=h;obtain⟨x,hx⟩:=rt.cells h hw;have hv:=rt.val hok;refine⟨x,?_⟩;unfold Rd;split
 ·rename_i ha;rw[if_pos ha]at hv;obtain⟨cs,rfl⟩:=hv;exact⟨cs,rfl,hx⟩
 rename_i ha;rw[if_neg ha]at hv;rw[hv]at hx;exact hx
theorem wf_i64{n:Int}(h:(Lit.int .i64 n).wf=VG):-9223372036854775808<=n/\n<=9223372036854775807:=by simp only[Lit.wf,Se,decide_eq_true_eq]at h;simpa[IntKind.min,IntKind.max,IntKind.signed,IntKind.bits]using h
section
variable{P:Program}{t e:TypeId}{H:Type}{enc:TypeId × Value->H}{W:World}{spare:Nat->Bool}{held:Bool}{fuel:Nat}{cs:List Value}{x:DataW H × List MemPlace}
theorem trod_int{k:IntKind}(ht:P.underlying t=VC (.int k))(h:DataW.trod enc P W 0 spare held fuel t cs=VC x): ∃n,cs=[.int k n]/\(Lit.int k n).wf=true:=by
 cases fuel with
 | zero=>simp[DataW.trod]at h
 | succ n=>unfold DataW.trod at h;rw[ht]at h;split at h<;>simp_all
end
section
variable{P:Program}{t e:TypeId}
theorem OY(ht:P.underlying t=VC (.int .i64)):RT P t Int where
 cells:=fun{H enc W spare held fuel cs d ps} h _=>by
  obtain⟨n,rfl,hw⟩:=trod_int ht h
  exact⟨n,rfl,wf_i64 hw⟩
 val:=fun{W r base v} h=>by
  simp only[Value.okWide,ht,Cell.okWide]at h
  cases v<;>simp[Cell.ok,ht]at h ⊢<;>first | rfl | simp[Rep.agg,Value.cells]
theorem Bu{W:World}{a:Addr}{v:Value}(h:W.cell? a=VC v):a.spot=VD/\∃c T fz,W.heap[a.block]? = VC (.cells c T fz)/\c[a.off]? = VC v:=by
 unfold World.cell? at h;split at h
 ·rename_i c T fz hb;split at h
  ·cases h
  rename_i hs;exact⟨by simpa using hs,c,T,fz,hb,h⟩
 cases h
theorem zJ{W:World}{a:Addr}{n:Nat}{c:List Value}(hn:0<n)(h:W.cells? 0 a n=VC c):a.spot=VD/\gN (vw W.heap) a c:=by
 obtain⟨_,hl,hc⟩:=World.cells?_some h;have h0:=hc 0 hn;have e0:a.add 0=a:=by simp[Addr.add]
 rw[e0,SJ V4]at h0;obtain⟨hs,arr,T,fz,hb,_⟩:=Bu h0;refine⟨hs,arr,T,fz,hs,hb,UF λi=>?_⟩;by_cases hi:i<n
 ·have h1:=hc i hi;rw[bF hs]at h1;simp only[World.cell?,hb]at h1;rw[Tu,if_pos V4,Ug];simpa using h1
 rw[SM Vt,SM V4]
theorem xQ{H:Type}{P:Program}{e:TypeId} : ∀{l:List (DataW H)} {d:DataW H},d∈l->∀b∈d.weights P e,b∈DataW.weightsAll P e l
 | x::l,d,hd,b,hb=>by
  rw[DataW.weightsAll,R1];rcases Sp.1 hd with rfl | hd
  ·exact .inl hb
  exact .inr (xQ hd b hb)
theorem Kf{α:Type}[Rep α](ht:P.underlying t=VC (.slice e))(hc:P.cellsOf e=Rep.n α)(hby:1<=P.bytesOf e)(re:RT P e α):RT P t (List α) where
 cells:=fun{H enc W spare held fuel cs d ps} h hw=>by
  rcases DataW.trod_slice ht h with⟨rfl,_⟩ | ⟨a,len,cap,elems,rest,n,_,rfl,hx,_,hlc,hcm,hel,hget,_,_⟩
  ·exact⟨[],_,rfl,VD,0,rfl,by simp,by simp,.inl rfl⟩
  ·simp only[TM]at hx
   obtain⟨rfl,_⟩:=hx
   have hwt : ∀b∈(DataW.slice (elems.map (·.1)) (rest.map (·.1))).weights P t,b<=reachBytes:=hw
   unfold DataW.weights at hwt
   rw[ht]at hwt
   simp only[Sp,R1,TI]at hwt
   have hlen:len<=140737488351232:=by
    have h1:=hwt _ (.inl rfl)
    have h2:elems.length*1<=(elems.length+rest.length)*P.bytesOf e:=T9 V4 hby
    have h3:reachBytes=140737488351232:=rfl
    omega
   have hpos:=Rep.pos (α:=α)
   have each : ∀i,i<len->∃x:α,∃c,W.cells? 0 (a.add (i*Rep.n α)) (Rep.n α)=VC c/\Rep.rd (vw W.heap) c x:=by
    intro i hi
    have h1:=hget i hi
    rw[hc,SJ V4,Sq]at h1
    obtain⟨c,hc1,hc2⟩:=h1
    obtain⟨x,hx⟩:=re.cells (d:=elems[i].1) (ps:=elems[i].2) hc2 λb hb=>hwt b (.inr (.inl (xQ (SZ.2 ⟨_,S9 V4,rfl⟩) b hb)))
    exact⟨x,c,hc1,hx⟩
   have key : ∀k,k<=len->∃l:List α,l.length=k/\∀(i:Nat) (hi:i<l.length),∃c,W.cells? 0 (a.add (i*Rep.n α)) (Rep.n α)=VC c/\Rep.rd (vw W.heap) c l[i]:=by
    intro k
    induction k with
    | zero=>exact λ_=>⟨[],rfl,λi hi=>by simp at hi⟩
    | succ k ih=>
     intro hk
     obtain⟨l,h1,h2⟩:=ih V4
     obtain⟨x,c,h3,h4⟩:=each k V4
     refine⟨l++[x],by simp[h1],λi hi=>?_⟩
     rcases Sb i l.length with hlt | hge
     ·rw[T5 hlt];exact h2 i hlt
     ·have:i=k:=by simp at hi;omega
      subst this
      rw[Us hge]
      simp only[h1,Uo,TS]
      exact⟨c,h3,h4⟩
   obtain⟨l,h1,h2⟩:=key len (RX _)
   refine⟨l,_,rfl,VC a,cap,by rw[h1],by omega,by omega,?_⟩
   rcases SW len with h0 | h0
   ·left;exact Ss V4
   ·right
    obtain⟨c,h3,_⟩:=h2 0 V4
    have e0:a.add (0*Rep.n α)=a:=by simp[Addr.add]
    rw[e0]at h3
    refine⟨a,rfl,(zJ hpos h3).1,λi hi=>?_⟩
    obtain⟨c,h3,h4⟩:=h2 i hi
    exact⟨c,(zJ hpos h3).2,h4⟩
 val:=fun{W r base v} h=>by
  simp only[Value.okWide,ht,Cell.okWide]at h
  cases v<;>simp[Cell.ok,ht]at h ⊢<;>first | rfl | simp[Rep.agg,Value.cells]
end
theorem Jm{w w':World}(hs:Same w w')(hle:(vw w.heap).le (vw w'.heap)):Below w.heap.size w w':=
 ⟨hs.os,hs.tape,hs.output,hs.size,λk hk=>by have:=hle k w.heap[k] (Sv hk);rw[Sv hk];exact this⟩
theorem tY{H:Type}{enc:TypeId × Value->H}{P:Program}{W W':World}(hl:laidOutB P=VG)(hb:Below W.heap.size W W') : ∀{ts:List TypeId} {vs:List Value} {ds:List (DataW H)} {ps:List MemPlace},
  (∀t∈ts,P.readableRec t=VG/\t<P.types.size)->DataW.TrodAll enc P W 0 (λ_=>VG) VG ts vs ds ps->(∀x∈ps,x.block<W.heap.size)->DataW.TrodAll enc P W' 0 (λb=>decide (b<W.heap.size)) VG ts vs ds ps
 | [],vs,ds,ps,_,h,_=>by obtain⟨rfl,rfl,rfl⟩:=trodAll_nil h;rfl
 | t::ts,vs,ds,ps,hr,h,hlt=>by obtain⟨v,vs',d,ds',p,q,rfl,rfl,rfl,h1,h2⟩:=trodAll_cons h;obtain⟨g1,g2⟩:=hr t (Sg ..);exact⟨p,q,Below.trod hl g1 g2 h1 hb λx hx=>hlt x (SK _ hx),tY hl hb (λt ht=>hr t (Sa _ ht)) h2 λx hx=>hlt x (SQ _ hx),rfl⟩
theorem Lx{H:Type}{enc:TypeId × Value->H}{P:Program}{fn:Func}{s:ChangeSpec}{W W':World}{args:Array Value}{ds gs:List (DataW H)}{before:List MemPlace}{fresh:Bool}{tb:TypeId}(hl:laidOutB P=VG)(hr : ∀t∈fn.params.toList,P.readableRec t=VG/\t<P.types.size)(hW:DataW.Whole enc P fn.params.toList s.vars VH W args.toList ds gs before)(hv:s.vars=[])(hs:s.fn H (ds++gs)={ results:=[.lit (.bool VG)],args:=ds })(hres:fn.resultTypes = #[tb])(htb:P.underlying tb=VC .bool)(hb:Below W.heap.size W W'):s.post enc P fn VH fresh VH VH W args (.bool VG) W':=by
 have hW0:=hW;obtain⟨p,q,hA,hV,rfl,_,_⟩:=hW;rw[hv]at hV;obtain⟨rfl,rfl⟩:=trodVars_none hV;have hlt : ∀x∈p,x.block<W.heap.size:=λx hx=>by simpa using hW0.lt x (SK _ hx)
 refine⟨ds,[],p++[],[],p,[],hW0,?_,?_,?_,hb.frame _,λh=>by cases h⟩
 ·rw[hs,hres];exact trodAll_mk1 (shut_bool htb VG)
 ·rw[hs];exact tY hl hb hr hA hlt
 rw[hv,hs];rfl
end Go.Lft
namespace Go.Lft
theorem Tryz.own:ownKnob Tryz.prog.godebug=none:=by kernel_rfl
theorem Tryz.laidOut:laidOutB VI=true:=by kernel_rfl
theorem rtI:RT VI T.int Int:=OY V0
theorem rtIs:RT VI T.aZ (List Int):=Kf (e:=T.int) V0 V0 (of_decide_eq_true V0) rtI
open Go.ChangeShapes Go.WideShapes Go.RowKit
theorem Qp{H:Type}{enc:TypeId × Value->H}{P:Program}{a:Assume}{C:Checked}{os:Os}{f:FuncId}{fn:Func}{s:ChangeSpec}{conds:List PathCond}{fresh:Bool}{tb t1 t2:TypeId}{α β:Type}[Rep α][Rep β]{X:World->Prop}{F:Heap->Prop}(hX : ∀w w':World,w.heap=w'.heap->X w->X w')(hF : ∀w,X w->F w.heap)(own:ownKnob C.prog.godebug=VD)(started:os.Started)(noInit:C.prog.inits.idxOf? f=VD)(hfn:C.prog.funcs[f]? = VC fn)(hP:C.prog=P)(witness : ∃(w:World) (tape:Tape) (i:Input),w.os=os/\(w.forCall tape i).Shaped C.prog/\i.vars=[]/\Input.okWide C.prog (w.forCall tape i) .any w.heap.size f i/\
   ((s.pre enc C.prog fn conds VH (w.forCall tape i).memory i.args/\X (w.forCall tape i).memory)/\sizedMet enc C.prog fn (OpenSpec.ofChange s) VH (w.forCall tape i).memory i.args)/\a.holds C.prog (lone (Frame.enter C.prog f i.args .normal) [] (w.forCall tape i)))(hl:laidOutB P=VG)(hr : ∀t∈fn.params.toList,P.readableRec t=VG/\t<P.types.size)(hv:s.vars=[])(hs : ∀ds,ds.length=2->s.fn H ds={ results:=[.lit (.bool VG)],args:=ds })(hres:fn.resultTypes = #[tb])(htb:P.underlying tb=VC .bool)(hp:fn.params = #[t1,t2])(r1:RT P t1 α)(r2:RT P t2 β)(hcall : ∀(h:Heap) (v1:Value) (x1:α) (v2:Value) (x2:β),F h->Rd (vw h) v1 x1->Rd (vw h) v2 x2->ay P f #[v1,v2] h (λv h'=>v = .bool VG/\(vw h).le (vw h'))):
  ReturnsInHanded a C os f .any (λw args=>(s.pre enc C.prog fn conds VH w args/\X w)/\sizedMet enc C.prog fn (OpenSpec.ofChange s) VH w args) (s.post enc C.prog fn VH fresh VH VH):=by
 subst hP;refine returnsInHanded_of_change_and (X:=λw _=>X w) (λw w' _ hh h=>hX w w' hh h) own started noInit hfn witness ?_;intro W base args ds gs before hval hW _ hwt hXW _;have hW0:=hW;obtain⟨p,q,hA,hV,_,_,_⟩:=hW;rw[hv]at hV;obtain⟨hgs,_⟩:=trodVars_none hV;rw[hp]at hA;obtain⟨v1,v2,d1,d2,p1,p2,hargs,hds,_,h1,h2⟩:=trodAll_two hA;have hlen:(ds++gs).length=2:=by rw[hds,hgs];rfl
 have e0:s.plain.varTypes C.prog=[]:=by simp[DataSpec.varTypes,ChangeSpec.plain,hv]
 rw[hgs,hds,hp,e0]at hwt;simp only[TR,SR,decide_eq_true_eq]at hwt;obtain⟨x1,q1⟩:=r1.arg h1 (hval 0 t1 v1 (by rw[hp];rfl) (by rw[hargs];rfl)) (λb hb=>hwt b (by simp[DataW.weightsEach,hb]));obtain⟨x2,q2⟩:=r2.arg h2 (hval 1 t2 v2 (by rw[hp];rfl) (by rw[hargs];rfl)) (λb hb=>hwt b (by simp[DataW.weightsEach,hb]));rw[hargs];refine(hcall W.heap v1 x1 v2 x2 (hF W hXW) q1 q2 W rfl).mono ?_;rintro e W' ⟨v,rfl,⟨rfl,hle⟩,hsame⟩;rw[<-hargs];have hgs':ds++gs=ds:=by rw[hgs,TR]
 exact⟨_,rfl,Lx hl hr hW0 hv (by rw[hs _ hlen,hgs']) hres htb (Jm hsame hle)⟩
end Go.Lft
namespace Go.Lft
abbrev Gr:=List (List Int)
def pZ(g:Gr)(a b:Int):Bool:=decide (0<=a/\a<g.length/\0<=b/\b<g.length)&&(nth g a.toNat).contains b
def nr(g:Gr)(a:Int):List Int:=sift (λb=>pZ g a b) (λb=>(b:Int)) g.length
def xE(g:Gr):Gr:=rows (λb=>sift (λa=>pZ g a b) (λa=>(a:Int)) g.length) g.length
def yK(gone:Int)(l:List Int)(i:Nat)(out:List Bool):List Bool:=out.set (nth l i).toNat (nth out (nth l i).toNat||decide (nth l i≠gone))
def outBlock(g:Gr)(gone:Int)(a:Nat)(out:List Bool):List Bool:=if nth out a then up (yK gone (nr g a)) (nr g a).length out else out
def pL(g:Gr)(gone:Int)(out:List Bool):List Bool:=up (outBlock g gone) g.length out
def pT(g:Gr)(gone:Int):List Bool:=
 if g.length=0\/gone=0 then List.replicate g.length VH else up (λ_=>pL g gone) g.length ((List.replicate g.length VH).set 0 VG)
theorem CE{β γ:Type}(m:β->γ){f:Nat->β->β}(hf : ∀k x,m (f k x)=m x)(n:Nat)(x:β):m (up f n x)=m x:=by
 induction n with
 | zero=>rfl
 | succ n ih=>rw[up,hf,ih]
def domC(g:Gr)(a b:Nat):Bool:=nth (pT g (-1)) a&&nth (pT g (-1)) b&&(decide ((a:Int)=(b:Int))||!nth (pT g a) b)
def sU(l:List Int)(a:Int):Nat->Int->Bool
 | 0,_=>VH
 | k+1,b=>if b=a then VG else if b<0\/(l.length:Int)<=b then VH else sU l a k (nth l b.toNat)
def eM(l:List Int)(a b:Int):Bool:=decide (0<=a/\a<l.length/\0<=b/\b<l.length)&&sU l a (l.length+1) b
def Hy(p:Nat->Bool)(b:Nat)(s:Bool):Bool:=s&&p b
def yi(p:Nat->Bool)(n:Nat):Bool:=up (Hy p) n VG
theorem zB{p:Nat->Bool}{n:Nat}:yi p (n+1)=(yi p n&&p n):=rfl
theorem FD{g:Gr}:(xE g).length=g.length:=by simp[xE]
def kU(nx:Int->List Int):Nat->Int->List Bool × List Int->List Bool × List Int
 | 0,_,s=>s
 | n+1,a,s=>let r:=up (λi s=>if nth s.1 (nth (nx a) i).toNat then s else kU nx n (nth (nx a) i) s) (nx a).length (s.1.set a.toNat VG,s.2);(r.1,r.2++[a])
def dq(nx:Int->List Int)(n:Nat)(a:Int)(i:Nat)(s:List Bool × List Int):List Bool × List Int:=if nth s.1 (nth (nx a) i).toNat then s else kU nx n (nth (nx a) i) s
theorem ma{nx:Int->List Int}{n:Nat}{a:Int}{s:List Bool × List Int}:
  kU nx (n+1) a s=((up (dq nx n a) (nx a).length (s.1.set a.toNat VG,s.2)).1,(up (dq nx n a) (nx a).length (s.1.set a.toNat VG,s.2)).2++[a]):=rfl
def dI(t:List Bool):Nat:=t.count VH
theorem kC{t:List Bool}{i:Nat}(hi:i<t.length)(hf:nth t i=VH):dI (t.set i VG)+1=dI t:=by rw[az hi]at hf;unfold dI;rw[List.count_set hi];have hp:0<t.count false:=SS.2 (hf▸S9 hi);simp[hf];omega
theorem BD{t:List Bool}{i:Nat}:dI (t.set i VG)<=dI t:=by
 rcases Sb i t.length with hi | hi
 ·unfold dI;rw[List.count_set hi];simp
 rw[List.set_eq_of_length_le hi];exact RX _
theorem xq{β:Type}(I:β->Prop){f:Nat->β->β}(hf : ∀k x,I x->I (f k x))(n:Nat)(x:β)(hx:I x):I (up f n x):=by
 induction n with
 | zero=>exact hx
 | succ n ih=>rw[up];exact hf _ _ ih
theorem rL{nx:Int->List Int}{m c:Nat} : ∀(n:Nat) (a:Int) (s:List Bool × List Int),s.1.length=m/\dI s.1<=c->(kU nx n a s).1.length=m/\dI (kU nx n a s).1<=c
 | 0,_,_,h=>h
 | n+1,a,s,h=>by
  rw[ma];refine xq (λs:List Bool × List Int=>s.1.length=m/\dI s.1<=c) (λk x hx=>?_) _ _ ⟨by simpa using h.1,St BD h.2⟩;unfold dq;split
  ·exact hx
  exact rL n _ x hx
def nj(nx:Int->List Int)(n:Nat):List Int:=if n=0 then[] else(kU nx n 0 (List.replicate n VH,[])).2.reverse
theorem nM{α:Type}[Rep α]{W:View}{h:Heap}{e:TypeId}{v:Value}{l:List α}(o:OwnT W h e v l):v.cells = #[v]/\v.oneCell'=true:=by have:=o.len (K:=nothing);cases v<;>first | exact⟨rfl,rfl⟩ | (simp[Un.ev,vL]at this)
section
set_option maxRecDepth 100000
def q:List LC->LC|[]=>.skip|[a]=>a|a::b::l=>.seq a (q (b::l))
def k(K:List Nat)(S:List (Nat×E)):LC:=.reg VH (.fin K S [])
def f(n c i:Nat)(K K2:List Nat)(e:E)(b:LC):LC:=.seq (.seq (.reg VH (.fin K [(c,e)] [])) (.cond (.tmp c) [c] .skip (.exit n))) (.seq b (.reg VH (.fin K2 [(i,.bin (.arith .add) (.tmp i) (.con (Vz VA 1)))] [])))
def u(n:Nat)(x y:LC):LC:=.cond (.tmp n) [n] x y
def v(n:Nat)(x:LC):LC:=.block n (.loop x)
def l(K:List Nat)(S A:List (Nat×E))(o:Op)(y d:Nat)(r:Reg):Reg:=.loud K S A VD [] VH o y (VC d) VG r
def s(K:List Nat)(S A:List (Nat×E))(o:Op)(r:Reg):Reg:=.loud K S A VD [] VH o 0 VD VH r
def p(A:List (Nat×E))(o:Op)(y d:Nat)(r:Reg):Reg:=.loud [] [] A VD [] VH o y (VC d) VG r
def z:Reg:=.fin [] [] []
def w:List Nat->List (Nat×E)|[]=>[]|a::l=>(a,.tmp a)::w l
def t(n:Nat):E:=.tmp n
def c(n:Int):E:=.con (Vz VA n)
def d(x:E):E:=.un .load x
def e(n:Nat)(x:E):E:=.un (.fld n) x
def g(n:Nat)(x:E):E:=.un .load (.un (.fld n) x)
def i(n:Nat)(x y:E):E:=.bin (.idx n) x y
def h(x:E):E:=.un .len x
def j(o:BinOp)(x y:E):E:=.bin (.cmp o) x y
def o(x y:E):E:=.bin (.arith .add) x y
def a(n:Nat):Operand:=.tmp n
def x(n:Nat)(A:List Nat)(T:List Nat):Op:=.call ⟨.value (.func n),(A.map .tmp).toArray,T.toArray⟩
theorem sh:(∀a,q [a]=a)/\(∀a b l,q (a::b::l)=.seq a (q (b::l)))/\(∀K S,k K S=.reg VH (.fin K S []))/\(∀n c i K L e b,f n c i K L e b=.seq (.seq (.reg VH (.fin K [(c,e)] [])) (.cond (.tmp c) [c] .skip (.exit n))) (.seq b (.reg VH (.fin L [(i,.bin (.arith .add) (.tmp i) (.con (Vz VA 1)))] []))))/\(∀n x y,u n x y=.cond (.tmp n) [n] x y)/\(∀n x,v n x=.block n (.loop x))/\(∀K S A o y d r,l K S A o y d r=.loud K S A VD [] VH o y (VC d) VG r)/\(∀K S A o r,s K S A o r=.loud K S A VD [] VH o 0 VD VH r)/\(∀A o y d r,p A o y d r=.loud [] [] A VD [] VH o y (VC d) VG r)/\(z=.fin [] [] [])/\(w []=[])/\(∀a l,w (a::l)=(a,.tmp a)::w l)/\(∀n,t n=.tmp n)/\(∀n,c n=.con (Vz VA n))/\(∀x,d x=.un .load x)/\(∀n x,e n x=.un (.fld n) x)/\(∀n x,g n x=.un .load (.un (.fld n) x))/\(∀n x y,i n x y=.bin (.idx n) x y)/\(∀x,h x=.un .len x)/\(∀o x y,j o x y=.bin (.cmp o) x y)/\(∀m n,o m n=.bin (.arith .add) m n)/\(∀n,a n=.tmp n)/\(∀n A T,x n A T=.call ⟨.value (.func n),(A.map .tmp).toArray,T.toArray⟩)/\(∀(p:Nat->Operand) n l,List.map p (n::l)=p n::l.map p)/\(∀p:Nat->Operand,List.map p []=[]):=⟨λ_=>rfl,λ_ _ _=>rfl,λ_ _=>rfl,λ_ _ _ _ _ _ _=>rfl,λ_ _ _=>rfl,λ_ _=>rfl,λ_ _ _ _ _ _ _=>rfl,λ_ _ _ _ _=>rfl,λ_ _ _ _ _=>rfl,rfl,rfl,λ_ _=>rfl,λ_=>rfl,λ_=>rfl,λ_=>rfl,λ_ _=>rfl,λ_ _=>rfl,λ_ _ _=>rfl,λ_=>rfl,λ_ _ _=>rfl,λ_ _=>rfl,λ_=>rfl,λ_ _ _=>rfl,λ_ _ _=>rfl,λ_=>rfl⟩
set_option maxRecDepth 100000
set_option maxHeartbeats 4000000
def A.bc:=lkA Tryz.f7
def B.bc:=lkB Tryz.f7
def L.bc.l3:LC:=lkL QP Tryz.f7 A.bc B.bc [1,1,1,1,1,1,0,1,0,0,1,0,0,1,0,0,1,0,0,1,1,1,0,0] lfc
def L.bc.l2:LC:=lkL QP Tryz.f7 A.bc B.bc [1,1,1,1,1,1,0,1,0,0,1,0,0,1,0,0] (lfS lfc (lfS (lfB (lfS lfc (lfS lfc (lfS lfc (lfB (lfO L.bc.l3)))))) lfc))
def L.bc.l1:LC:=lkL QP Tryz.f7 A.bc B.bc [1,1,1,1,1,1,0,1,0,0] (lfS lfc (lfS (lfB (lfS lfc (lfB (lfO L.bc.l2)))) lfc))
def L.bc:LFn:=lkG QP Tryz.f7 A.bc B.bc (lfS lfc (lfS lfc (lfS lfc (lfS lfc (lfS lfc (lfS lfc (lfS (lfS lfc (lfB (lfO L.bc.l1))) lfc)))))))
theorem E.bc:aP VI Tryz.f7=VC L.bc:=V0
def L.oK:LFn:=lkF QP Tryz.f10
theorem E.oK:aP VI Tryz.f10=VC L.oK:=V0
end
section
set_option maxRecDepth 100000
set_option maxHeartbeats 4000000
def A.au:=lkA Tryz.f11
def B.au:=lkB Tryz.f11
def L.au.l1:LC:=lkL QP Tryz.f11 A.au B.au [1,1,1,1,1,1,1,0,1,0,0] lfc
def L.au.l3:LC:=lkL QP Tryz.f11 A.au B.au [1,1,1,1,1,1,1,1,1,0,1,0,0,1,0,0,1,1,1,0,0] lfc
def L.au.l2:LC:=lkL QP Tryz.f11 A.au B.au [1,1,1,1,1,1,1,1,1,0,1,0,0] (lfS lfc (lfS (lfB (lfS lfc (lfS lfc (lfS lfc (lfB (lfO L.au.l3)))))) lfc))
def L.au.l6:LC:=lkL QP Tryz.f11 A.au B.au [1,1,1,1,1,1,1,1,1,1,1,0,1,0,0,1,0,0,1,0,0,1,0,0,1,1,0,1,0,0] lfc
def L.au.l7:LC:=lkL QP Tryz.f11 A.au B.au [1,1,1,1,1,1,1,1,1,1,1,0,1,0,0,1,0,0,1,0,0,1,0,0,1,1,1,0,1,0,0] lfc
def L.au.l8:LC:=lkL QP Tryz.f11 A.au B.au [1,1,1,1,1,1,1,1,1,1,1,0,1,0,0,1,0,0,1,0,0,1,0,0,1,1,1,1,1,1,1,0,1,0,0] lfc
def L.au.l10:LC:=lkL QP Tryz.f11 A.au B.au [1,1,1,1,1,1,1,1,1,1,1,0,1,0,0,1,0,0,1,0,0,1,0,0,1,1,1,1,1,1,1,1,0,1,0,0,1,0,0,1,0,1,0,0] lfc
def L.au.l11:LC:=lkL QP Tryz.f11 A.au B.au [1,1,1,1,1,1,1,1,1,1,1,0,1,0,0,1,0,0,1,0,0,1,0,0,1,1,1,1,1,1,1,1,0,1,0,0,1,0,0,1,1,1,0,0] lfc
def L.au.l9:LC:=lkL QP Tryz.f11 A.au B.au [1,1,1,1,1,1,1,1,1,1,1,0,1,0,0,1,0,0,1,0,0,1,0,0,1,1,1,1,1,1,1,1,0,1,0,0] (lfS lfc (lfS (lfB (lfS lfc (lfS (lfS lfc (lfB (lfO L.au.l10))) (lfS lfc (lfB (lfO L.au.l11)))))) lfc))
def L.au.l12:LC:=lkL QP Tryz.f11 A.au B.au [1,1,1,1,1,1,1,1,1,1,1,0,1,0,0,1,0,0,1,0,0,1,0,0,1,1,1,1,1,1,1,1,1,1,0,1,0,0] lfc
def L.au.l5:LC:=lkL QP Tryz.f11 A.au B.au [1,1,1,1,1,1,1,1,1,1,1,0,1,0,0,1,0,0,1,0,0] (lfS lfc (lfS (lfB (lfS lfc (lfS lfc (lfS (lfS lfc (lfB (lfO L.au.l6))) (lfS (lfS lfc (lfB (lfO L.au.l7))) (lfS lfc (lfS lfc (lfS lfc (lfS (lfS lfc (lfB (lfO L.au.l8))) (lfS (lfS lfc (lfB (lfO L.au.l9))) (lfS lfc (lfS (lfS lfc (lfB (lfO L.au.l12))) lfc)))))))))))) lfc))
def L.au.l4:LC:=lkL QP Tryz.f11 A.au B.au [1,1,1,1,1,1,1,1,1,1,1,0,1,0,0] (lfS lfc (lfS (lfB (lfS lfc (lfB (lfO L.au.l5)))) lfc))
def L.au.l15:LC:=lkL QP Tryz.f11 A.au B.au [1,1,1,1,1,1,1,1,1,1,1,1,0,1,0,0,1,0,0,1,1,0,0,1,0,0,1,0,1,0,0] lfc
def L.au.l14:LC:=lkL QP Tryz.f11 A.au B.au [1,1,1,1,1,1,1,1,1,1,1,1,0,1,0,0,1,0,0,1,1,0,0] (lfS lfc (lfS (lfB (lfS lfc (lfS (lfS lfc (lfB (lfO L.au.l15))) lfc))) lfc))
def L.au.l13:LC:=lkL QP Tryz.f11 A.au B.au [1,1,1,1,1,1,1,1,1,1,1,1,0,1,0,0] (lfS lfc (lfS (lfB (lfS lfc (lfS lfc (lfB (lfO L.au.l14))))) lfc))
def L.au:LFn:=lkG QP Tryz.f11 A.au B.au (lfS lfc (lfS lfc (lfS lfc (lfS lfc (lfS lfc (lfS lfc (lfS lfc (lfS (lfS lfc (lfB (lfO L.au.l1))) (lfS lfc (lfS (lfS lfc (lfB (lfO L.au.l2))) (lfS lfc (lfS (lfS lfc (lfB (lfO L.au.l4))) (lfS (lfS lfc (lfB (lfO L.au.l13))) lfc)))))))))))))
theorem E.au:aP VI Tryz.f11=VC L.au:=V0
def L.qV:LFn:=lkF QP Tryz.f12
theorem E.qV:aP VI Tryz.f12=VC L.qV:=V0
def A.eC:=lkA Tryz.f13
def B.eC:=lkB Tryz.f13
def L.eC.l1:LC:=lkL QP Tryz.f13 A.eC B.eC [1,1,1,1,0,1,0,0] lfc
def L.eC:LFn:=lkG QP Tryz.f13 A.eC B.eC (lfS lfc (lfS lfc (lfS lfc (lfS lfc (lfS (lfS lfc (lfB (lfO L.eC.l1))) lfc)))))
theorem E.eC:aP VI Tryz.f13=VC L.eC:=V0
def L.ib.l2:LC:=by apply(fun{b:LC}(_:b=q [k [52] [(52,j .lss (t 51) (t 50))],u 52 .skip (.exit 2),.block 3 (q [.reg VH (l [53,54] [(54,.un (.bI 2) (i 2 (t 49) (t 51)))] [] (.alloc 55) 0 18 (s [] [] (w [18,54]) (.store 55 (a 18) (a 54)) z)),.reg VG (l [55,56,57,58,59,60] [(56,g 0 (t 16)),(58,g 0 (t 18))] [(60,g 1 (t 18))] (x 48 [60] [53]) 53 61 (p (w [58,61]) (.build 55 #[(0,a 58),(1,a 61)]) 55 62 (p (w [62]) (.buildSlice 47 1 #[(0,a 62)]) 47 63 (.loud [] [] (w [56,63]) VD [] VG (.call ⟨.builtin .append,#[a 56,a 63],#[47,47]⟩) 47 (VC 64) VG (s [65] [] [(65,e 0 (t 16)),(64,t 64)] (.store 47 (a 65) (a 64)) z)))))]),k [66,51] [(51,o (t 51) (c 1))]])=>b);simp only[sh];rfl
def L.ib.l1:LC:=by apply(fun{b:LC}(_:b=q [k [44] [(44,j .lss (t 43) (t 42))],u 44 .skip (.exit 0),.block 1 (q [.reg VH (l [45,46,47] [(45,t 43),(47,.un (.bI 6) (i 6 (t 41) (t 43)))] [] (.alloc 3) 0 14 (p [] (.alloc 94) 0 15 (s [] [] (w [14,45]) (.store 3 (a 14) (a 45)) (s [] [] (w [15,47]) (.store 94 (a 15) (a 47)) z)))),.reg VH (p [] (.alloc 52) 0 16 z),q [k [48,49,50,51] [(49,g 0 (t 15)),(50,h (g 0 (t 15))),(51,c 0)],v 2 L.ib.l2],.reg VH (l [67,68,69] [] [(67,.un (.bI 2) (t 2)),(68,d (t 3)),(69,d (t 14))] (x 49 [67,68,69] [26,29,3]) 112 70 (p [] (.alloc 112) 0 19 (s [] [] (w [19,70]) (.store 112 (a 19) (a 70)) z))),.reg VH (l [71] [(71,.un (.fn 50) (.snoc (.snoc (.snoc (.snoc (.snoc (.snoc (.con (.tuple #[])) (t 2)) (t 14)) (t 11)) (t 16)) (t 15)) (t 13)))] [] (.alloc 116) 0 20 (s [] [] (w [20,71]) (.store 116 (a 20) (a 71)) z)),q [.reg VH (l [72] [] [(72,d (t 19))] (x 53 [72] [112]) 118 73 z),.block 4 (.rangef (t 73) [74] (k [21] [(21,t 74)]) (.block 5 (q [.reg VH (l [76,77,78,79,80] [] [(79,g 6 (.un .nilPtr (d (t 19)))),(80,t 21)] (.lookup 121 (a 79) (a 80) VG) 120 81 (.fin [75,82,83,22,23] [(22,.un (.ext 0) (t 81)),(23,.un (.ext 1) (t 81))] [])),q [k [84,85] [(85,.un .not (t 23))],u 85 (q [.reg VH (.loud [86,87] [] [(86,d (t 20)),(87,t 21)] VD [] VH (.call ⟨.value (a 86),#[a 87,.const (Vz VA 0)],#[3,3]⟩) 0 (VC 88) VH z),.exit 5]) .skip],.reg VG (.loud [89,90,91,92,93,94,95] [] [(12,t 12),(95,o (d (t 12)) (g 1 (i 2 (d (t 3)) (t 22))))] VD [] VG (.store 3 (a 12) (a 95)) 0 VD VH z),.reg VG (.loud [96,97,98,99,100,101,102] [] [(96,d (t 20)),(97,t 21),(102,g 0 (i 2 (d (t 3)) (t 22)))] VD [] VG (.call ⟨.value (a 96),#[a 97,a 102],#[3,3]⟩) 0 (VC 103) VH z)])))],.reg VH (l [104,105,106] [(105,g 1 (t 10))] [(106,.un (.bI 7) (t 16))] (.buildSlice 31 1 #[(0,a 106)]) 31 107 (p (w [105,107]) (.call ⟨.builtin .append,#[a 105,a 107],#[31,31]⟩) 31 108 (s [109] [] [(109,e 1 (t 10)),(108,t 108)] (.store 31 (a 109) (a 108)) z)))]),k [110,43] [(43,o (t 43) (c 1))]])=>b);simp only[sh];rfl
def L.ib:LFn:=by apply(fun{b:LFn}(_:b=⟨[.un (.bI 2) (t 4),t 5,t 6],q [.reg VH (p (w [0]) (.box 26 (a 0)) 0 2 (p (w [1]) (.box 29 (a 1)) 0 3 (p [] (.alloc 33) 0 4 (.fin [5,6] [(5,c 0),(6,c 0)] [])))),.reg VH (l [25,26] [] [(25,d (t 3)),(26,.un (.bI 2) (t 2))] (x 46 [25,26] [29,26]) 109 27 (.fin [24,28,29,30,7,8,9] [(7,.un (.ext 0) (t 27))] [.un (.ext 2) (t 27),.un (.ext 1) (t 27)])),q [k [31,32] [(32,j .neq (t 7) (c 0))],u 32 (q [.reg VH (p [] (.build 33 #[]) 33 33 (s [34] [(34,t 7)] (w [4,33]) (.store 33 (a 4) (a 33)) (.fin [5,6] [(5,c 0),(6,t 34)] []))),.ret]) .skip],.reg VH (l [35,36] [] [(36,g 0 (t 2))] (.build 33 #[(0,a 36)]) 33 37 (p [] (.alloc 33) 0 10 (s [] [] (w [10,37]) (.store 33 (a 10) (a 37)) z))),.reg VH (l [38] [] [(38,.un (.bI 2) (t 2))] (x 47 [38] [26]) 3 39 (p [] (.alloc 3) 0 11 (p [] (.alloc 3) 0 12 (p [] (.alloc 4) 0 13 (s [] [] (w [11,39]) (.store 3 (a 11) (a 39)) (s [] [] (w [12]) (.store 3 (a 12) (.const (Vz VA 0))) (s [] [] (w [13]) (.store 4 (a 13) (.const (.bool VH))) z))))))),q [k [40,41,42,43] [(41,g 1 (t 2)),(42,h (g 1 (t 2))),(43,c 0)],v 0 L.ib.l1],q [k [111] [(111,d (t 13))],u 111 (q [.reg VH (p [] (.build 33 #[]) 33 112 (s [] [] (w [4,112]) (.store 33 (a 4) (a 112)) (.fin [5,6] [(5,c 0),(6,c 2)] []))),.ret]) .skip],.reg VG (s [113,114] [(114,d (t 12))] [(4,t 4),(113,.un (.bI 2) (t 10))] (.store 33 (a 4) (a 113)) (.fin [5,6] [(5,t 114),(6,c 0)] [])),.ret]⟩)=>b);simp only[sh];rfl
theorem E.ib:aP VI Tryz.f14=VC L.ib:=V0
end
section
set_option maxRecDepth 100000
set_option maxHeartbeats 4000000
def A.eA:=lkA Tryz.f19
def B.eA:=lkB Tryz.f19
def L.eA.l2:LC:=lkL QP Tryz.f19 A.eA B.eA [1,1,1,0,1,0,0,1,0,0,1,0,0] lfc
def L.eA.l1:LC:=lkL QP Tryz.f19 A.eA B.eA [1,1,1,0,1,0,0] (lfS lfc (lfS (lfB (lfS lfc (lfB (lfO L.eA.l2)))) lfc))
def L.eA:LFn:=lkG QP Tryz.f19 A.eA B.eA (lfS lfc (lfS lfc (lfS lfc (lfS (lfS lfc (lfB (lfO L.eA.l1))) lfc))))
theorem E.eA:aP VI Tryz.f19=VC L.eA:=V0
def L.qW:LFn:=lkF QP Tryz.f20
theorem E.qW:aP VI Tryz.f20=VC L.qW:=V0
def A.iJ:=lkA Tryz.f27
def B.iJ:=lkB Tryz.f27
def L.iJ.l1:LC:=lkL QP Tryz.f27 A.iJ B.iJ [1,1,0,1,0,0] lfc
def L.iJ:LFn:=lkG QP Tryz.f27 A.iJ B.iJ (lfS lfc (lfS lfc (lfS (lfS lfc (lfB (lfO L.iJ.l1))) lfc)))
theorem E.iJ:aP VI Tryz.f27=VC L.iJ:=V0
def L.mH:LFn:=lkF QP Tryz.f31
theorem E.mH:aP VI Tryz.f31=VC L.mH:=V0
end
section
set_option maxRecDepth 100000
set_option maxHeartbeats 4000000
def L.jz.l1:LC:=by apply(fun{b:LC}(_:b=q [k [52] [(52,j .lss (t 51) (t 50))],u 52 .skip (.exit 0),.block 1 (q [k [53,12] [(12,t 51)],.reg VH (s [54,55,56] [] [(56,i 1 (d (t 11)) (t 12))] (.store 3 (a 56) (.const (Vz VA (-1)))) z)]),k [57,51] [(51,o (t 51) (c 1))]])=>b);simp only[sh];rfl
def L.jz:LFn:=by apply(fun{b:LFn}(_:b=⟨[t 6],q [.reg VH (p (w [0]) (.box 26 (a 0)) 0 3 (.fin [6] [(6,.con (VE VD 0 0))] [])),.reg VH (l [17,18] [] [(17,t 1),(18,.un (.bI 2) (t 3))] (x 46 [17,18] [29,26]) 109 19 (.fin [16,20,21,22,7,8,9] [(7,.un (.ext 0) (t 19))] [.un (.ext 2) (t 19),.un (.ext 1) (t 19)])),q [k [23,24,25,26,27,28,29,30,31,32,33,34,35] [(35,.ite (.ite (j .neq (t 7) (c 0)) (.con (.bool VG)) (j .lss (t 2) (c 0))) (.con (.bool VG)) (j .geq (t 2) (h (g 1 (t 3)))))],u 35 (q [k [6] [(6,.con (VE VD 0 0))],.ret]) .skip],.reg VH (l [36,37,38] [] [(36,.un (.bI 2) (t 3)),(37,t 1),(38,t 2)] (x 49 [36,37,38] [26,29,3]) 112 39 (p [] (.alloc 112) 0 10 (s [] [] (w [10,39]) (.store 112 (a 10) (a 39)) z))),.reg VH (l [40,41,42,43,44,45,46,47] [] [(47,o (h (g 1 (i 6 (g 1 (t 3)) (t 2)))) (c 1)),(47,o (h (g 1 (i 6 (g 1 (t 3)) (t 2)))) (c 1))] (.makeSlice 22 (a 47) (a 47)) 22 48 (p [] (.alloc 22) 0 11 (s [] [] (w [11,48]) (.store 22 (a 11) (a 48)) z))),q [k [49,50,51] [(50,h (d (t 11))),(51,c 0)],v 0 L.jz.l1],q [.reg VH (l [58] [] [(58,d (t 10))] (x 53 [58] [112]) 118 59 z),.block 2 (.rangef (t 59) [60] (k [13] [(13,t 60)]) (.block 3 (q [.reg VH (l [62,63,64,65,66] [] [(65,g 6 (.un .nilPtr (d (t 10)))),(66,t 13)] (.lookup 121 (a 65) (a 66) VG) 120 67 (.fin [61,68,69,14,15] [(14,.un (.ext 0) (t 67)),(15,.un (.ext 1) (t 67))] [])),k [70] [(70,t 15)],u 70 (.reg VH (s [71,72,73,74] [] [(74,i 1 (d (t 11)) (t 13)),(73,t 14)] (.store 3 (a 74) (a 73)) z)) .skip])))],k [75,6] [(6,d (t 11))],.ret]⟩)=>b);simp only[sh];rfl
theorem E.jz:aP VI Tryz.f32=VC L.jz:=V0
def A.fq:=lkA Tryz.f33
def B.fq:=lkB Tryz.f33
def L.fq.l1:LC:=lkL QP Tryz.f33 A.fq B.fq [1,1,0,1,0,0] lfc
def L.fq:LFn:=lkG QP Tryz.f33 A.fq B.fq (lfS lfc (lfS lfc (lfS (lfS lfc (lfB (lfO L.fq.l1))) lfc)))
theorem E.fq:aP VI Tryz.f33=VC L.fq:=V0
def L.jC:LFn:=lkF QP Tryz.f34
theorem E.jC:aP VI Tryz.f34=VC L.jC:=V0
def A.aQ:=lkA Tryz.f35
def B.aQ:=lkB Tryz.f35
def L.aQ.l1:LC:=lkL QP Tryz.f35 A.aQ B.aQ [1,1,0,1,0,0] lfc
def L.aQ.l3:LC:=lkL QP Tryz.f35 A.aQ B.aQ [1,1,1,0,1,0,0,1,0,0,1,1,0,0] lfc
def L.aQ.l2:LC:=lkL QP Tryz.f35 A.aQ B.aQ [1,1,1,0,1,0,0] (lfS lfc (lfS (lfB (lfS lfc (lfS lfc (lfB (lfO L.aQ.l3))))) lfc))
def L.aQ:LFn:=lkG QP Tryz.f35 A.aQ B.aQ (lfS lfc (lfS lfc (lfS (lfS lfc (lfB (lfO L.aQ.l1))) (lfS (lfS lfc (lfB (lfO L.aQ.l2))) lfc))))
theorem E.aQ:aP VI Tryz.f35=VC L.aQ:=V0
def A.dB:=lkA Tryz.f36
def B.dB:=lkB Tryz.f36
def L.dB.l2:LC:=lkL QP Tryz.f36 A.dB B.dB [1,1,0,1,0,0,1,0,0,1,1,0,0] lfc
def L.dB.l1:LC:=lkL QP Tryz.f36 A.dB B.dB [1,1,0,1,0,0] (lfS lfc (lfS (lfB (lfS lfc (lfS lfc (lfB (lfO L.dB.l2))))) lfc))
def L.dB:LFn:=lkG QP Tryz.f36 A.dB B.dB (lfS lfc (lfS lfc (lfS (lfS lfc (lfB (lfO L.dB.l1))) lfc)))
theorem E.dB:aP VI Tryz.f36=VC L.dB:=V0
def L.jg:LFn:=lkF QP Tryz.f37
theorem E.jg:aP VI Tryz.f37=VC L.jg:=V0
def A.cL:=lkA Tryz.f38
def B.cL:=lkB Tryz.f38
def L.cL.l2:LC:=lkL QP Tryz.f38 A.cL B.cL [1,1,1,1,0,1,0,0,1,0,0,1,1,0,0] lfc
def L.cL.l1:LC:=lkL QP Tryz.f38 A.cL B.cL [1,1,1,1,0,1,0,0] (lfS lfc (lfS (lfB (lfS lfc (lfS lfc (lfB (lfO L.cL.l2))))) lfc))
def L.cL:LFn:=lkG QP Tryz.f38 A.cL B.cL (lfS lfc (lfS lfc (lfS lfc (lfS lfc (lfS (lfS lfc (lfB (lfO L.cL.l1))) lfc)))))
theorem E.cL:aP VI Tryz.f38=VC L.cL:=V0
def L.oS:LFn:=lkF QP Tryz.f39
theorem E.oS:aP VI Tryz.f39=VC L.oS:=V0
def A.bD:=lkA Tryz.f40
def B.bD:=lkB Tryz.f40
def L.bD.l1:LC:=lkL QP Tryz.f40 A.bD B.bD [1,0,1,1,1,1,1,1,1,1,1,0,1,1,0,1,0,0] lfc
def L.bD:LFn:=lkG QP Tryz.f40 A.bD B.bD (lfS lfc (lfB (lfS lfc (lfK lfc (lfS lfc (lfK lfc (lfS lfc (lfK lfc (lfS lfc (lfK lfc (lfS lfc (lfK (lfS lfc (lfS lfc (lfS (lfS lfc (lfB (lfO L.bD.l1))) lfc))) lfc))))))))))))
theorem E.bD:aP VI Tryz.f40=VC L.bD:=V0
def L.kh:LFn:=lkF QP Tryz.f41
theorem E.kh:aP VI Tryz.f41=VC L.kh:=V0
def A.cD:=lkA Tryz.f42
def B.cD:=lkB Tryz.f42
def L.cD.l1:LC:=lkL QP Tryz.f42 A.cD B.cD [1,1,0,1,0,0] lfc
def L.cD.l2:LC:=lkL QP Tryz.f42 A.cD B.cD [1,1,1,1,0,1,0,0] lfc
def L.cD:LFn:=lkG QP Tryz.f42 A.cD B.cD (lfS lfc (lfS lfc (lfS (lfS lfc (lfB (lfO L.cD.l1))) (lfS lfc (lfS (lfS lfc (lfB (lfO L.cD.l2))) lfc)))))
theorem E.cD:aP VI Tryz.f42=VC L.cD:=V0
def L.gE:LFn:=lkF QP Tryz.f43
theorem E.gE:aP VI Tryz.f43=VC L.gE:=V0
def L.jB:LFn:=lkF QP Tryz.f44
theorem E.jB:aP VI Tryz.f44=VC L.jB:=V0
def L.pb:LFn:=lkF QP Tryz.f45
theorem E.pb:aP VI Tryz.f45=VC L.pb:=V0
end
section
set_option maxRecDepth 100000
set_option maxHeartbeats 4000000
def A.bG:=lkA Tryz.f46
def B.bG:=lkB Tryz.f46
def L.bG.l1:LC:=lkL QP Tryz.f46 A.bG B.bG [1,1,1,1,0,1,0,0] lfc
def L.bG.l3:LC:=lkL QP Tryz.f46 A.bG B.bG [1,1,1,1,1,1,0,1,0,0,1,1,0,0,1,1,0,0] lfc
def L.bG.l2:LC:=lkL QP Tryz.f46 A.bG B.bG [1,1,1,1,1,1,0,1,0,0] (lfS lfc (lfS lfc (lfS (lfB (lfS lfc (lfS lfc (lfB (lfO L.bG.l3))))) lfc)))
def L.bG.l5:LC:=lkL QP Tryz.f46 A.bG B.bG [1,1,1,1,1,1,1,1,1,0,1,0,0,1,1,0,0,1,1,0,0] lfc
def L.bG.l4:LC:=lkL QP Tryz.f46 A.bG B.bG [1,1,1,1,1,1,1,1,1,0,1,0,0] (lfS lfc (lfS lfc (lfS (lfB (lfS lfc (lfS lfc (lfB (lfO L.bG.l5))))) lfc)))
def L.bG:LFn:=lkG QP Tryz.f46 A.bG B.bG (lfS lfc (lfS lfc (lfS lfc (lfS lfc (lfS (lfS lfc (lfB (lfO L.bG.l1))) (lfS lfc (lfS (lfS lfc (lfB (lfO L.bG.l2))) (lfS lfc (lfS lfc (lfS (lfS lfc (lfB (lfO L.bG.l4))) lfc))))))))))
theorem E.bG:aP VI Tryz.f46=VC L.bG:=V0
def L.ti:LFn:=lkF QP Tryz.f47
theorem E.ti:aP VI Tryz.f47=VC L.ti:=V0
def L.jY:LFn:=lkF QP Tryz.f48
theorem E.jY:aP VI Tryz.f48=VC L.jY:=V0
def A.di:=lkA Tryz.f49
def B.di:=lkB Tryz.f49
def L.di.l1:LC:=lkL QP Tryz.f49 A.di B.di [1,1,1,0,1,0,0] lfc
def L.di.l2:LC:=lkL QP Tryz.f49 A.di B.di [1,1,1,1,0,1,0,0] lfc
def L.di:LFn:=lkG QP Tryz.f49 A.di B.di (lfS lfc (lfS lfc (lfS lfc (lfS (lfS lfc (lfB (lfO L.di.l1))) (lfS (lfS lfc (lfB (lfO L.di.l2))) lfc)))))
theorem E.di:aP VI Tryz.f49=VC L.di:=V0
def A.dL:=lkA Tryz.f50
def B.dL:=lkB Tryz.f50
def L.dL.l1:LC:=lkL QP Tryz.f50 A.dL B.dL [1,0,1,0,0] lfc
def L.dL:LFn:=lkG QP Tryz.f50 A.dL B.dL (lfS lfc (lfS (lfS lfc (lfB (lfO L.dL.l1))) lfc))
theorem E.dL:aP VI Tryz.f50=VC L.dL:=V0
def L.tL:LFn:=lkF QP Tryz.f51
theorem E.tL:aP VI Tryz.f51=VC L.tL:=V0
def L.fK:LFn:=lkF QP Tryz.f52
theorem E.fK:aP VI Tryz.f52=VC L.fK:=V0
def A.aI:=lkA Tryz.f53
def B.aI:=lkB Tryz.f53
def L.aI.l1:LC:=lkL QP Tryz.f53 A.aI B.aI [1,1,1,0,1,0,0] lfc
def L.aI.l3:LC:=lkL QP Tryz.f53 A.aI B.aI [1,1,1,1,0,1,0,0,1,0,0,1,1,0,0] lfc
def L.aI.l2:LC:=lkL QP Tryz.f53 A.aI B.aI [1,1,1,1,0,1,0,0] (lfS lfc (lfS (lfB (lfS lfc (lfS lfc (lfB (lfO L.aI.l3))))) lfc))
def L.aI:LFn:=lkG QP Tryz.f53 A.aI B.aI (lfS lfc (lfS lfc (lfS lfc (lfS (lfS lfc (lfB (lfO L.aI.l1))) (lfS (lfS lfc (lfB (lfO L.aI.l2))) lfc)))))
theorem E.aI:aP VI Tryz.f53=VC L.aI:=V0
end
section
set_option maxRecDepth 100000
set_option maxHeartbeats 4000000
def A.bM:=lkA Tryz.f63
def B.bM:=lkB Tryz.f63
def L.bM.l3:LC:=lkL QP Tryz.f63 A.bM B.bM [1,1,0,1,0,0,1,0,0,1,0,1,0,0,1,0,0,1,0,1,0,0] lfc
def L.bM.l2:LC:=lkL QP Tryz.f63 A.bM B.bM [1,1,0,1,0,0,1,0,0,1,0,1,0,0] (lfS lfc (lfS (lfB (lfS lfc (lfS (lfS lfc (lfB (lfO L.bM.l3))) lfc))) lfc))
def L.bM.l4:LC:=lkL QP Tryz.f63 A.bM B.bM [1,1,0,1,0,0,1,0,0,1,1,0,1,0,0] lfc
def L.bM.l1:LC:=lkL QP Tryz.f63 A.bM B.bM [1,1,0,1,0,0] (lfS lfc (lfS (lfB (lfS lfc (lfS (lfS lfc (lfB (lfO L.bM.l2))) (lfS (lfS lfc (lfB (lfO L.bM.l4))) lfc)))) lfc))
def L.bM:LFn:=lkG QP Tryz.f63 A.bM B.bM (lfS lfc (lfS lfc (lfS (lfS lfc (lfB (lfO L.bM.l1))) lfc)))
theorem E.bM:aP VI Tryz.f63=VC L.bM:=V0
def L.pa:LFn:=lkF QP Tryz.f64
theorem E.pa:aP VI Tryz.f64=VC L.pa:=V0
def L.pg:LFn:=lkF QP Tryz.f71
theorem E.pg:aP VI Tryz.f71=VC L.pg:=V0
end
section
set_option maxRecDepth 100000
set_option maxHeartbeats 4000000
def L.jJ:LFn:=lkF QP Tryz.f86
theorem E.jJ:aP VI Tryz.f86=VC L.jJ:=V0
def L.kf:LFn:=lkF QP Tryz.f87
theorem E.kf:aP VI Tryz.f87=VC L.kf:=V0
def L.ir:LFn:=lkF QP Tryz.f88
theorem E.ir:aP VI Tryz.f88=VC L.ir:=V0
def A.fm:=lkA Tryz.f89
def B.fm:=lkB Tryz.f89
def L.fm.l1:LC:=lkL QP Tryz.f89 A.fm B.fm [1,1,0,1,0,0] lfc
def L.fm:LFn:=lkG QP Tryz.f89 A.fm B.fm (lfS lfc (lfS lfc (lfS (lfS lfc (lfB (lfO L.fm.l1))) lfc)))
theorem E.fm:aP VI Tryz.f89=VC L.fm:=V0
def L.ll:LFn:=lkF QP Tryz.f90
theorem E.ll:aP VI Tryz.f90=VC L.ll:=V0
def A.cS:=lkA Tryz.f91
def B.cS:=lkB Tryz.f91
def L.cS.l2:LC:=lkL QP Tryz.f91 A.cS B.cS [1,1,0,1,0,0,1,1,0,1,1,0,1,0,0] lfc
def L.cS.l1:LC:=lkL QP Tryz.f91 A.cS B.cS [1,1,0,1,0,0] (lfS lfc (lfS lfc (lfB (lfS lfc (lfS lfc (lfS (lfS lfc (lfB (lfO L.cS.l2))) lfc))))))
def L.cS:LFn:=lkG QP Tryz.f91 A.cS B.cS (lfS lfc (lfS lfc (lfS (lfS lfc (lfB (lfO L.cS.l1))) lfc)))
theorem E.cS:aP VI Tryz.f91=VC L.cS:=V0
def L.yN:LFn:=lkF QP Tryz.f92
theorem E.yN:aP VI Tryz.f92=VC L.yN:=V0
def L.mw:LFn:=lkF QP Tryz.f93
theorem E.mw:aP VI Tryz.f93=VC L.mw:=V0
def A.bO:=lkA Tryz.f94
def B.bO:=lkB Tryz.f94
def L.bO.l3:LC:=lkL QP Tryz.f94 A.bO B.bO [1,1,0,0,1,1,0,0,1,0,1,0,0,1,1,0,0,1,1,0,1,0,0] lfc
def L.bO.l2:LC:=lkL QP Tryz.f94 A.bO B.bO [1,1,0,0,1,1,0,0,1,0,1,0,0] (lfS lfc (lfS lfc (lfS (lfB (lfS lfc (lfS lfc (lfS (lfS lfc (lfB (lfO L.bO.l3))) lfc)))) lfc)))
def L.bO.l4:LC:=lkL QP Tryz.f94 A.bO B.bO [1,1,0,0,1,1,0,0,1,1,0,1,0,0] lfc
def L.bO.l1:LC:=lkL QP Tryz.f94 A.bO B.bO [1,1,0,0] (lfS lfc (lfS lfc (lfS (lfB (lfS lfc (lfS (lfS lfc (lfB (lfO L.bO.l2))) (lfS (lfS lfc (lfB (lfO L.bO.l4))) lfc)))) lfc)))
def L.bO:LFn:=lkG QP Tryz.f94 A.bO B.bO (lfS lfc (lfS lfc (lfB (lfO L.bO.l1))))
theorem E.bO:aP VI Tryz.f94=VC L.bO:=V0
def A.eF:=lkA Tryz.f95
def B.eF:=lkB Tryz.f95
def L.eF.l1:LC:=lkL QP Tryz.f95 A.eF B.eF [1,0,0] lfc
def L.eF:LFn:=lkG QP Tryz.f95 A.eF B.eF (lfS lfc (lfB (lfO L.eF.l1)))
theorem E.eF:aP VI Tryz.f95=VC L.eF:=V0
def L.nA:LFn:=lkF QP Tryz.f96
theorem E.nA:aP VI Tryz.f96=VC L.nA:=V0
end
section
set_option maxRecDepth 100000
set_option maxHeartbeats 4000000
def A.bX:=lkA Tryz.f97
def B.bX:=lkB Tryz.f97
def L.bX.l1:LC:=lkL QP Tryz.f97 A.bX B.bX [1,1,1,1,0,0] lfc
def L.bX:LFn:=lkG QP Tryz.f97 A.bX B.bX (lfS lfc (lfS lfc (lfS lfc (lfS lfc (lfB (lfO L.bX.l1))))))
theorem E.bX:aP VI Tryz.f97=VC L.bX:=V0
def L.gx:LFn:=lkF QP Tryz.f98
theorem E.gx:aP VI Tryz.f98=VC L.gx:=V0
def A.bH:=lkA Tryz.f99
def B.bH:=lkB Tryz.f99
def L.bH.l1:LC:=lkL QP Tryz.f99 A.bH B.bH [1,0,0] lfc
def L.bH:LFn:=lkG QP Tryz.f99 A.bH B.bH (lfS lfc (lfB (lfO L.bH.l1)))
theorem E.bH:aP VI Tryz.f99=VC L.bH:=V0
def L.mB:LFn:=lkF QP Tryz.f104
theorem E.mB:aP VI Tryz.f104=VC L.mB:=V0
def L.mE:LFn:=lkF QP Tryz.f105
theorem E.mE:aP VI Tryz.f105=VC L.mE:=V0
def L.mI:LFn:=lkF QP Tryz.f107
theorem E.mI:aP VI Tryz.f107=VC L.mI:=V0
def L.my:LFn:=lkF QP Tryz.f110
theorem E.my:aP VI Tryz.f110=VC L.my:=V0
end
section
set_option maxRecDepth 100000
set_option maxHeartbeats 4000000
def L.qB:LFn:=lkF QP Tryz.f112
theorem E.qB:aP VI Tryz.f112=VC L.qB:=V0
def R.om:List E:=[.un .load (.tmp 2),.un .load (.tmp 3),.un .load (.tmp 4)]

def L.mA:LC:=by apply(fun{b:LC}(_:b=.reg VH (p (w [0]) (.box 26 (a 0)) 0 1 (p [] (.alloc 34) 0 2 (p [] (.alloc 3) 0 3 (p [] (.alloc 3) 0 4 z)))))=>b);simp only[sh];rfl
theorem E.mA:eE VI Tryz.f116.ntmps (gW Tryz.f116) (DH Tryz.f116) VH (CC Tryz.f116)=VC L.mA:=V0
def L.iP.l1:LC:=by apply(fun{b:LC}(_:b=q [k [26] [(26,j .lss (t 25) (t 24))],u 26 .skip (.exit 0),.block 1 (q [.reg VH (l [27,28] [(28,.un (.bI 6) (i 6 (t 23) (t 25)))] [] (.alloc 94) 0 7 (s [] [] (w [7,28]) (.store 94 (a 7) (a 28)) z)),k [29,30,31,32,33,34,35,36,37,5] [(5,o (t 5) (o (h (g 0 (t 7))) (h (g 1 (t 7)))))]]),k [38,25] [(25,o (t 25) (c 1))]])=>b);simp only[sh];rfl
def L.iP:LC:=by apply(fun{b:LC}(_:b=q [.reg VH (l [10,11] [] [(11,g 0 (t 1))] (.call ⟨.value (.func 96),#[a 11,.const (Vz VA 0),.const (Vz VA 4)],#[3,3,3]⟩) 4 12 (.loud [] [] (w [12]) VD [] VH (.call ⟨.value (.func 154),#[a 12,.const (Vz VA 1),.const (Vz VA 0),.const (Vz VA 0)],#[4,34,3,3]⟩) 0 (VC 13) VH z)),.reg VH (.loud [14,15,16,17] [] [(17,j .gtr (h (g 1 (t 1))) (c 0))] VD [] VH (.call ⟨.value (.func 154),#[a 17,.const (Vz VA 14),.const (Vz VA 0),.const (Vz VA 0)],#[4,34,3,3]⟩) 0 (VC 18) VH z),k [19,20,21,5] [(5,h (g 1 (t 1)))],q [k [22,23,24,25] [(23,g 1 (t 1)),(24,h (g 1 (t 1))),(25,c 0)],v 0 L.iP.l1],.reg VH (.loud [39,40,41,42,43,44,45,46] [] [(46,.ite (j .leq (h (g 1 (t 1))) (c 512)) (j .leq (t 5) (c 4096)) (.con (.bool VH)))] VD [] VH (.call ⟨.value (.func 154),#[a 46,.const (Vz VA 2),.const (Vz VA 0),.const (Vz VA 0)],#[4,34,3,3]⟩) 0 (VC 47) VH z),.reg VH (l [48] [(48,.un (.bI 2) (t 1))] [] (.makeMap 259 VD) 259 49 (p (w [48,49]) (.build 261 #[(0,a 48),(1,a 49)]) 261 50 (p (w [50]) (.box 261 (a 50)) 258 51 (.fin [8] [(8,t 51)] [])))),.reg VH (.loud [52] [] [(52,t 8)] VD [] VH (x 155 [52] [258]) 0 (VC 53) VH z),.reg VH (.loud [54] [] [(54,t 8)] VD [] VH (x 156 [54] [258]) 0 (VC 55) VH z),.reg VH (s [] [] (w [2]) (.store 34 (a 2) (.const (Vz VA 0))) (s [] [] (w [3]) (.store 3 (a 3) (.const (Vz VA 0))) (s [] [] (w [4]) (.store 3 (a 4) (.const (Vz VA 0))) z))),.ret])=>b);simp only[sh];rfl
theorem E.iP:eE VI Tryz.f116.ntmps (gW Tryz.f116) (DH Tryz.f116) VH (JK Tryz.f116)=VC L.iP:=V0
theorem R.AB:Tryz.f116.results.toList.mapM (resE VI)=VC R.om:=by kernel_rfl
theorem B.om:Tryz.f116.body=VC (.seq (CC Tryz.f116) (.seq (.region (OI (OR Tryz.f116)) #[OL Tryz.f116 0,OL Tryz.f116 1] VH) (JK Tryz.f116))):=by kernel_rfl
end
section
set_option maxRecDepth 100000
set_option maxHeartbeats 4000000
def L.iV:LFn:=lkF QP Tryz.f133
theorem E.iV:aP VI Tryz.f133=VC L.iV:=V0
def L.tp:LFn:=lkF QP Tryz.f134
theorem E.tp:aP VI Tryz.f134=VC L.tp:=V0
def L.oX:LFn:=lkF QP Tryz.f135
theorem E.oX:aP VI Tryz.f135=VC L.oX:=V0
def A.bV:=lkA Tryz.f136
def B.bV:=lkB Tryz.f136
def L.bV.l1:LC:=lkL QP Tryz.f136 A.bV B.bV [0,1,0,0] lfc
def L.bV.l2:LC:=lkL QP Tryz.f136 A.bV B.bV [1,1,0,0] lfc
def L.bV:LFn:=lkG QP Tryz.f136 A.bV B.bV (lfS (lfS lfc (lfB (lfO L.bV.l1))) (lfS lfc (lfB (lfO L.bV.l2))))
theorem E.bV:aP VI Tryz.f136=VC L.bV:=V0
def L.slices_Contains_int:LFn:=lkF QP Tryz.f137
theorem E.slices_Contains_int:aP VI Tryz.f137=VC L.slices_Contains_int:=V0
def A.fI:=lkA Tryz.f138
def B.fI:=lkB Tryz.f138
def L.fI:LFn:=lkG QP Tryz.f138 A.fI B.fI (lfS lfc (lfS lfc (lfS lfc (lfS (lfB (lfS lfc (lfK lfc (lfS lfc (lfK lfc (lfS lfc lfc)))))) lfc))))
theorem E.fI:aP VI Tryz.f138=VC L.fI:=V0
def A.bw:=lkA Tryz.f139
def B.bw:=lkB Tryz.f139
def L.bw.l1:LC:=lkL QP Tryz.f139 A.bw B.bw [1,1,1,1,1,1,1,0,1,0,0] lfc
def L.bw.l2:LC:=lkL QP Tryz.f139 A.bw B.bw [1,1,1,1,1,1,1,1,1,1,1,1,0,1,0,0] lfc
def L.bw:LFn:=lkG QP Tryz.f139 A.bw B.bw (lfS lfc (lfS lfc (lfS lfc (lfS lfc (lfS lfc (lfS lfc (lfS lfc (lfS (lfS lfc (lfB (lfO L.bw.l1))) (lfS lfc (lfS lfc (lfS lfc (lfS lfc (lfS (lfS lfc (lfB (lfO L.bw.l2))) lfc)))))))))))))
theorem E.bw:aP VI Tryz.f139=VC L.bw:=V0
def L.pk:LFn:=lkF QP Tryz.f140
theorem E.pk:aP VI Tryz.f140=VC L.pk:=V0
def L.oU:LFn:=lkF QP Tryz.f141
theorem E.oU:aP VI Tryz.f141=VC L.oU:=V0
def A.cC:=lkA Tryz.f142
def B.cC:=lkB Tryz.f142
def L.cC.l1:LC:=lkL QP Tryz.f142 A.cC B.cC [1,0,1,0,0] lfc
def L.cC:LFn:=lkG QP Tryz.f142 A.cC B.cC (lfS lfc (lfS (lfS lfc (lfB (lfO L.cC.l1))) lfc))
theorem E.cC:aP VI Tryz.f142=VC L.cC:=V0
end
section
set_option maxRecDepth 100000
set_option maxHeartbeats 4000000
def L.gj:LFn:=by apply(fun{b:LFn}(_:b=⟨[],q [.reg VH (p [] (.call ⟨.builtin .recover,#[],#[]⟩) 20 6 z),.block 0 (q [.reg VH (p (w [6]) (.binOp .eql 20 (a 6) (.const .nilIface) 20) 4 8 z),u 8 (.reg VH (.fin [3] [] [t 6])) (q [.reg VH (p (w [6]) (.typeAssert (a 6) 20 256 VG) 0 9 (.fin [10,11] [(10,.un (.ext 1) (t 9)),(11,.un (.ext 0) (t 9))] [])),u 10 (q [.reg VH (p [] (.alloc 256) 0 4 (s [] [] (w [4,11]) (.store 256 (a 4) (a 11)) z)),.reg VG (s [12,13,14,15,16,17] [(15,g 1 (t 4)),(17,g 2 (t 4))] [(0,t 0),(13,g 0 (t 4))] (.store 34 (a 0) (a 13)) (s [] [] (w [1,15]) (.store 3 (a 1) (a 15)) (.loud [] [] (w [2,17]) VD [] VG (.store 3 (a 2) (a 17)) 0 VD VH z)))]) (q [k [5] [(5,t 6)],.reg VH (s [7] [] [(7,t 5)] (.panic (a 7)) z)])])])]⟩)=>b);simp only[sh];rfl
theorem Q.gj:Tryz.f153.body=VC (.seq (.region (OI (CC Tryz.f153)) #[PQ Tryz.f153 0] VH) (Oo Tryz.f153)):=by kernel_rfl
theorem E.sf:eE VI Tryz.f153.ntmps (gW Tryz.f153) (DH Tryz.f153) VH (Oo Tryz.f153)=VC L.gj.body.tail:=V0
def L.od:LFn:=lkF QP Tryz.f154
theorem E.od:aP VI Tryz.f154=VC L.od:=V0
def A.aE:=lkA Tryz.f155
def B.aE:=lkB Tryz.f155
def L.aE.l2:LC:=lkL QP Tryz.f155 A.aE B.aE [1,0,0,1,1,0,0,1,0,1,0,0] lfc
def L.aE.l3:LC:=lkL QP Tryz.f155 A.aE B.aE [1,0,0,1,1,0,0,1,1,0,1,0,0] lfc
def L.aE.l4:LC:=lkL QP Tryz.f155 A.aE B.aE [1,0,0,1,1,0,0,1,1,1,1,1,1,0,0] lfc
def L.aE.l1:LC:=lkL QP Tryz.f155 A.aE B.aE [1,0,0] (lfS lfc (lfS lfc (lfS (lfB (lfS lfc (lfS (lfS lfc (lfB (lfO L.aE.l2))) (lfS (lfS lfc (lfB (lfO L.aE.l3))) (lfS lfc (lfS lfc (lfS lfc (lfB (lfO L.aE.l4))))))))) lfc)))
def L.aE:LFn:=lkG QP Tryz.f155 A.aE B.aE (lfS lfc (lfB (lfO L.aE.l1)))
theorem E.aE:aP VI Tryz.f155=VC L.aE:=V0
def A.aw:=lkA Tryz.f156
def B.aw:=lkB Tryz.f156
def L.aw.l1:LC:=lkL QP Tryz.f156 A.aw B.aw [1,1,1,0,1,0,0] lfc
def L.aw.l4:LC:=lkL QP Tryz.f156 A.aw B.aw [1,1,1,1,1,1,1,0,0,1,1,0,0,1,0,1,0,0,1,1,0,0,1,1,0,1,0,0] lfc
def L.aw.l5:LC:=lkL QP Tryz.f156 A.aw B.aw [1,1,1,1,1,1,1,0,0,1,1,0,0,1,0,1,0,0,1,1,0,0,1,1,1,1,1,0,0] lfc
def L.aw.l3:LC:=lkL QP Tryz.f156 A.aw B.aw [1,1,1,1,1,1,1,0,0,1,1,0,0,1,0,1,0,0] (lfS lfc (lfS lfc (lfS (lfB (lfS lfc (lfS lfc (lfS (lfS lfc (lfB (lfO L.aw.l4))) (lfS lfc (lfS lfc (lfB (lfO L.aw.l5)))))))) lfc)))
def L.aw.l7:LC:=lkL QP Tryz.f156 A.aw B.aw [1,1,1,1,1,1,1,0,0,1,1,0,0,1,1,0,1,0,0,1,1,0,0,1,1,0,0] lfc
def L.aw.l6:LC:=lkL QP Tryz.f156 A.aw B.aw [1,1,1,1,1,1,1,0,0,1,1,0,0,1,1,0,1,0,0] (lfS lfc (lfS lfc (lfS (lfB (lfS lfc (lfS lfc (lfB (lfO L.aw.l7))))) lfc)))
def L.aw.l8:LC:=lkL QP Tryz.f156 A.aw B.aw [1,1,1,1,1,1,1,0,0,1,1,0,0,1,1,1,1,0,0] lfc
def L.aw.l2:LC:=lkL QP Tryz.f156 A.aw B.aw [1,1,1,1,1,1,1,0,0] (lfS lfc (lfS lfc (lfS (lfB (lfS lfc (lfS (lfS lfc (lfB (lfO L.aw.l3))) (lfS (lfS lfc (lfB (lfO L.aw.l6))) (lfS lfc (lfB (lfO L.aw.l8))))))) lfc)))
def L.aw:LFn:=lkG QP Tryz.f156 A.aw B.aw (lfS lfc (lfS lfc (lfS lfc (lfS (lfS lfc (lfB (lfO L.aw.l1))) (lfS lfc (lfS lfc (lfS lfc (lfB (lfO L.aw.l2)))))))))
theorem E.aw:aP VI Tryz.f156=VC L.aw:=V0
end
section
set_option maxRecDepth 100000
set_option maxHeartbeats 4000000
def A.strings_Fields:=lkA Tryz.f184
def B.strings_Fields:=lkB Tryz.f184
def A.slices_Index_int:=lkA Tryz.f185
def B.slices_Index_int:=lkB Tryz.f185
def L.slices_Index_int.l1:LC:=lkL QP Tryz.f185 A.slices_Index_int B.slices_Index_int [1,0,1,0,0] lfc
def L.slices_Index_int:LFn:=lkG QP Tryz.f185 A.slices_Index_int B.slices_Index_int (lfS lfc (lfS (lfS lfc (lfB (lfO L.slices_Index_int.l1))) lfc))
theorem E.slices_Index_int:aP VI Tryz.f185=VC L.slices_Index_int:=V0
def L.j0:LFn:=lkF QP Tryz.f186
theorem E.j0:aP VI Tryz.f186=VC L.j0:=V0
def L.gu:LFn:=lkF QP Tryz.f187
theorem E.gu:aP VI Tryz.f187=VC L.gu:=V0
def L.gy:LFn:=lkF QP Tryz.f188
theorem E.gy:aP VI Tryz.f188=VC L.gy:=V0
def L.gk:LFn:=lkF QP Tryz.f189
theorem E.gk:aP VI Tryz.f189=VC L.gk:=V0
def L.pY:LFn:=lkF QP Tryz.f190
theorem E.pY:aP VI Tryz.f190=VC L.pY:=V0
def L.gi:LFn:=lkF QP Tryz.f191
theorem E.gi:aP VI Tryz.f191=VC L.gi:=V0
def L.gH:LFn:=lkF QP Tryz.f192
theorem E.gH:aP VI Tryz.f192=VC L.gH:=V0
def L.gq:LFn:=lkF QP Tryz.f193
theorem E.gq:aP VI Tryz.f193=VC L.gq:=V0
def A.cZ:=lkA Tryz.f194
def B.cZ:=lkB Tryz.f194
def L.cZ:LFn:=lkG QP Tryz.f194 A.cZ B.cZ (lfS lfc (lfS lfc (lfS lfc lfc)))
theorem E.cZ:aP VI Tryz.f194=VC L.cZ:=V0
def L.ix:LFn:=lkF QP Tryz.f195
theorem E.ix:aP VI Tryz.f195=VC L.ix:=V0
end
section
set_option maxRecDepth 100000
set_option maxHeartbeats 4000000
def L.gG:LFn:=lkF QP Tryz.f196
theorem E.gG:aP VI Tryz.f196=VC L.gG:=V0
def L.jK:LFn:=lkF QP Tryz.f197
theorem E.jK:aP VI Tryz.f197=VC L.jK:=V0
def L.fX:LFn:=lkF QP Tryz.f198
theorem E.fX:aP VI Tryz.f198=VC L.fX:=V0
def L.gl:LFn:=lkF QP Tryz.f199
theorem E.gl:aP VI Tryz.f199=VC L.gl:=V0
def A.bT:=lkA Tryz.f209
def B.bT:=lkB Tryz.f209
def L.bT.l1:LC:=lkL QP Tryz.f209 A.bT B.bT [0,1,0,0] lfc
def L.bT.l2:LC:=lkL QP Tryz.f209 A.bT B.bT [1,1,0,0] lfc
def L.bT:LFn:=lkG QP Tryz.f209 A.bT B.bT (lfS (lfS lfc (lfB (lfO L.bT.l1))) (lfS lfc (lfB (lfO L.bT.l2))))
theorem E.bT:aP VI Tryz.f209=VC L.bT:=V0
def L.lD:LFn:=lkF QP Tryz.f210
theorem E.lD:aP VI Tryz.f210=VC L.lD:=V0
def L.nE:LFn:=lkF QP Tryz.f211
theorem E.nE:aP VI Tryz.f211=VC L.nE:=V0
def A.iM:=lkA Tryz.f212
def B.iM:=lkB Tryz.f212
def L.iM.l1:LC:=lkL QP Tryz.f212 A.iM B.iM [1,1,0,1,0,0] lfc
def L.iM:LFn:=lkG QP Tryz.f212 A.iM B.iM (lfS lfc (lfS lfc (lfS (lfS lfc (lfB (lfO L.iM.l1))) lfc)))
theorem E.iM:aP VI Tryz.f212=VC L.iM:=V0
def L.oO:LFn:=lkF QP Tryz.f213
theorem E.oO:aP VI Tryz.f213=VC L.oO:=V0
def L.pf:LFn:=by apply(fun{b:LFn}(_:b=⟨[t 2],q [k [2] [(2,.con (VE VD 0 0))],.reg VH (l [6,7] [] [(7,h (t 0)),(7,h (t 0))] (.makeSlice 88 (a 7) (a 7)) 88 8 (p [] (.alloc 88) 0 3 (s [] [] (w [3,8]) (.store 88 (a 3) (a 8)) z))),q [.reg VH (l [9] [] [(9,t 0)] (x 238 [9] [88]) 318 10 z),.block 0 (.rangef (t 10) [11,12] (q [k [4] [(4,t 11)],k [5] [(5,t 12)]]) (.block 1 (.reg VG (l [13,14,15,16,17,18,19] [(13,d (t 3)),(14,t 5),(18,d (i 1 (d (t 3)) (t 5)))] [(19,t 4)] (.buildSlice 22 1 #[(0,a 19)]) 22 20 (p (w [18,20]) (.call ⟨.builtin .append,#[a 18,a 20],#[22,22]⟩) 22 21 (.loud [22] [] [(22,i 1 (t 13) (t 14)),(21,t 21)] VD [] VG (.store 22 (a 22) (a 21)) 0 VD VH z))))))],k [23,2] [(2,d (t 3))],.ret]⟩)=>b);simp only[sh];rfl
theorem E.pf:aP VI Tryz.f214=VC L.pf:=V0
def A.bP:=lkA Tryz.f215
def B.bP:=lkB Tryz.f215
def L.bP.l1:LC:=lkL QP Tryz.f215 A.bP B.bP [1,1,1,1,0,1,0,0] lfc
def L.bP.l2:LC:=lkL QP Tryz.f215 A.bP B.bP [1,1,1,1,1,0,1,0,0] lfc
def L.bP.l5:LC:=lkL QP Tryz.f215 A.bP B.bP [1,1,1,1,1,1,1,0,1,0,0,1,0,1,1,0,0,1,1,0,0,1,1,0,1,0,0] lfc
def L.bP.l4:LC:=lkL QP Tryz.f215 A.bP B.bP [1,1,1,1,1,1,1,0,1,0,0,1,0,1,1,0,0] (lfS lfc (lfS lfc (lfS (lfB (lfS lfc (lfS lfc (lfS (lfS lfc (lfB (lfO L.bP.l5))) lfc)))) lfc)))
def L.bP.l3:LC:=lkL QP Tryz.f215 A.bP B.bP [1,1,1,1,1,1,1,0,1,0,0] (lfS lfc (lfB (lfS lfc (lfS lfc (lfB (lfO L.bP.l4))))))
def L.bP:LFn:=lkG QP Tryz.f215 A.bP B.bP (lfS lfc (lfS lfc (lfS lfc (lfS lfc (lfS (lfS lfc (lfB (lfO L.bP.l1))) (lfS (lfS lfc (lfB (lfO L.bP.l2))) (lfS lfc (lfS (lfS lfc (lfB (lfO L.bP.l3))) lfc))))))))
theorem E.bP:aP VI Tryz.f215=VC L.bP:=V0
def L.gO:LFn:=lkF QP Tryz.f216
theorem E.gO:aP VI Tryz.f216=VC L.gO:=V0
def A.dp:=lkA Tryz.f217
def B.dp:=lkB Tryz.f217
def L.dp.l1:LC:=lkL QP Tryz.f217 A.dp B.dp [1,1,1,0,1,0,0] lfc
def L.dp:LFn:=lkG QP Tryz.f217 A.dp B.dp (lfS lfc (lfS lfc (lfS lfc (lfS (lfS lfc (lfB (lfO L.dp.l1))) lfc))))
theorem E.dp:aP VI Tryz.f217=VC L.dp:=V0
end
section
set_option maxRecDepth 100000
set_option maxHeartbeats 4000000
def A.cH:=lkA Tryz.f224
def B.cH:=lkB Tryz.f224
def L.cH.l2:LC:=lkL QP Tryz.f224 A.cH B.cH [1,0,1,0,0,1,1,0,0,1,1,0,0] lfc
def L.cH.l1:LC:=lkL QP Tryz.f224 A.cH B.cH [1,0,1,0,0] (lfS lfc (lfS lfc (lfS (lfB (lfS lfc (lfS lfc (lfB (lfO L.cH.l2))))) lfc)))
def L.cH:LFn:=lkG QP Tryz.f224 A.cH B.cH (lfS lfc (lfS (lfS lfc (lfB (lfO L.cH.l1))) lfc))
theorem E.cH:aP VI Tryz.f224=VC L.cH:=V0
def L.iE:LFn:=lkF QP Tryz.f225
theorem E.iE:aP VI Tryz.f225=VC L.iE:=V0
def L.iy:LFn:=lkF QP Tryz.f226
theorem E.iy:aP VI Tryz.f226=VC L.iy:=V0
def A.dG:=lkA Tryz.f227
def B.dG:=lkB Tryz.f227
def L.dG:LFn:=lkG QP Tryz.f227 A.dG B.dG (lfS lfc (lfS lfc lfc))
theorem E.dG:aP VI Tryz.f227=VC L.dG:=V0
end
section
set_option maxRecDepth 100000
set_option maxHeartbeats 4000000
end
section
set_option maxRecDepth 100000
set_option maxHeartbeats 4000000
def A.dK:=lkA Tryz.f229
def B.dK:=lkB Tryz.f229
def L.dK:LFn:=lkG QP Tryz.f229 A.dK B.dK (lfS lfc (lfS lfc (lfS lfc (lfS lfc lfc))))
theorem E.dK:aP VI Tryz.f229=VC L.dK:=V0
def A.dH:=lkA Tryz.f230
def B.dH:=lkB Tryz.f230
def L.dH:LFn:=lkG QP Tryz.f230 A.dH B.dH (lfS lfc (lfS lfc lfc))
theorem E.dH:aP VI Tryz.f230=VC L.dH:=V0
def L.je:LFn:=lkF QP Tryz.f232
theorem E.je:aP VI Tryz.f232=VC L.je:=V0
def L.jc:LFn:=lkF QP Tryz.f233
theorem E.jc:aP VI Tryz.f233=VC L.jc:=V0
def A.fo:=lkA Tryz.f234
def B.fo:=lkB Tryz.f234
def L.fo.l1:LC:=lkL QP Tryz.f234 A.fo B.fo [1,1,0,1,0,0] lfc
def L.fo:LFn:=lkG QP Tryz.f234 A.fo B.fo (lfS lfc (lfS lfc (lfS (lfS lfc (lfB (lfO L.fo.l1))) lfc)))
theorem E.fo:aP VI Tryz.f234=VC L.fo:=V0
def A.eG:=lkA Tryz.f235
def B.eG:=lkB Tryz.f235
def L.eG.l1:LC:=lkL QP Tryz.f235 A.eG B.eG [1,1,0,1,0,0] lfc
def L.eG:LFn:=lkG QP Tryz.f235 A.eG B.eG (lfS lfc (lfS lfc (lfS (lfS lfc (lfB (lfO L.eG.l1))) lfc)))
theorem E.eG:aP VI Tryz.f235=VC L.eG:=V0
def A.dM:=lkA Tryz.f236
def B.dM:=lkB Tryz.f236
def L.dM.l1:LC:=lkL QP Tryz.f236 A.dM B.dM [1,0,1,0,0] lfc
def L.dM:LFn:=lkG QP Tryz.f236 A.dM B.dM (lfS lfc (lfS (lfS lfc (lfB (lfO L.dM.l1))) lfc))
theorem E.dM:aP VI Tryz.f236=VC L.dM:=V0
def L.oT:LFn:=lkF QP Tryz.f238
theorem E.oT:aP VI Tryz.f238=VC L.oT:=V0
def A.dO:=lkA Tryz.f239
def B.dO:=lkB Tryz.f239
def L.dO.l1:LC:=lkL QP Tryz.f239 A.dO B.dO [1,1,0,0,0] lfc
def L.dO:LFn:=lkG QP Tryz.f239 A.dO B.dO (lfS lfc (lfS lfc (lfS (lfB (lfO L.dO.l1)) lfc)))
theorem E.dO:aP VI Tryz.f239=VC L.dO:=V0
def L.jf:LFn:=lkF QP Tryz.f240
theorem E.jf:aP VI Tryz.f240=VC L.jf:=V0
def A.cR:=lkA Tryz.f244
def B.cR:=lkB Tryz.f244
def L.cR.l2:LC:=lkL QP Tryz.f244 A.cR B.cR [1,0,0,1,1,0,0,1,1,0,0] lfc
def L.cR.l1:LC:=lkL QP Tryz.f244 A.cR B.cR [1,0,0] (lfS lfc (lfS lfc (lfS (lfB (lfS lfc (lfS lfc (lfB (lfO L.cR.l2))))) lfc)))
def L.cR:LFn:=lkG QP Tryz.f244 A.cR B.cR (lfS lfc (lfB (lfO L.cR.l1)))
theorem E.cR:aP VI Tryz.f244=VC L.cR:=V0
end
end Go.Lft
namespace Go.Proofs
open Go.Shelf
def Tryz.EA:Go.Shelf.Ren:=⟨fun | 189=>242 | 125=>248 | 257=>247 | 128=>258 | 129=>259 | 294=>249 | 295=>250 | 296=>251 | 297=>252 | 298=>253 | 299=>254 | 216=>255 | 300=>256 | 301=>257 | 328=>260 | 329=>261 | 330=>262 | 331=>263 | 332=>264 | 215=>265 | 343=>266 | n=>n,fun | 28=>22 | 3=>3 | 46=>68 | 0=>0 | 51=>226 | 53=>348 | 4=>4 | 183=>342 | 182=>341 | 131=>120 | 5=>5 | 9=>9 | 218=>349 | 222=>353 | 228=>355 | 229=>292 | n=>n,fun | n=>n⟩
theorem Tryz.Hf:Go.Proofs.Lays.n189 VI Tryz.EA:={
 mixed:=by kernel_rfl
 f125:=Tryz.func248.trans (congrArg VC V0)
 f128:=Tryz.func258.trans (congrArg VC V0)
 f129:=Tryz.func259.trans (congrArg VC V0)
 f189:=Tryz.func242.trans (congrArg VC V0)
 f215:=Tryz.func265.trans (congrArg VC V0)
 f216:=Tryz.func255.trans (congrArg VC V0)
 f257:=Tryz.func247.trans (congrArg VC V0)
 f294:=Tryz.func249.trans (congrArg VC V0)
 f295:=Tryz.func250.trans (congrArg VC V0)
 f296:=Tryz.func251.trans (congrArg VC V0)
 f297:=Tryz.func252.trans (congrArg VC V0)
 f298:=Tryz.func253.trans (congrArg VC V0)
 f299:=Tryz.func254.trans (congrArg VC V0)
 f300:=Tryz.func256.trans (congrArg VC V0)
 f301:=Tryz.func257.trans (congrArg VC V0)
 f328:=Tryz.func260.trans (congrArg VC V0)
 f329:=Tryz.func261.trans (congrArg VC V0)
 f330:=Tryz.func262.trans (congrArg VC V0)
 f331:=Tryz.func263.trans (congrArg VC V0)
 f332:=Tryz.func264.trans (congrArg VC V0)
 f343:=Tryz.func266.trans (congrArg VC V0)
 t0:=Tryz.underlying0
 a0:=Tryz.isAgg0
 z0:=Tryz.sizeOf0
 v0:=Tryz.zeroValue0
 t3:=Tryz.underlying3
 a3:=Tryz.isAgg3
 z3:=Tryz.sizeOf3
 v3:=Tryz.zeroValue3
 t4:=Tryz.underlying4
 a4:=Tryz.isAgg4
 z4:=Tryz.sizeOf4
 v4:=Tryz.zeroValue4
 t5:=Tryz.underlying5
 a5:=Tryz.isAgg5
 z5:=Tryz.sizeOf5
 v5:=Tryz.zeroValue5
 t9:=Tryz.underlying9
 a9:=Tryz.isAgg9
 z9:=Tryz.sizeOf9
 v9:=Tryz.zeroValue9
 t28:=Tryz.underlying22
 a28:=Tryz.isAgg22
 z28:=Tryz.sizeOf22
 v28:=Tryz.zeroValue22
 t46:=Tryz.underlying68
 a46:=Tryz.isAgg68
 z46:=Tryz.sizeOf68
 v46:=Tryz.zeroValue68
 t51:=Tryz.underlying226
 a51:=Tryz.isAgg226
 z51:=Tryz.sizeOf226
 v51:=Tryz.zeroValue226
 t53:=Tryz.underlying348
 a53:=Tryz.isAgg348
 z53:=Tryz.sizeOf348
 v53:=Tryz.zeroValue348
 t131:=Tryz.underlying120
 a131:=Tryz.isAgg120
 z131:=Tryz.sizeOf120
 v131:=Tryz.zeroValue120
 t182:=Tryz.underlying341
 a182:=Tryz.isAgg341
 z182:=Tryz.sizeOf341
 v182:=Tryz.zeroValue341
 t183:=Tryz.underlying342
 a183:=Tryz.isAgg342
 z183:=Tryz.sizeOf342
 v183:=Tryz.zeroValue342
 t218:=Tryz.underlying349
 a218:=Tryz.isAgg349
 z218:=Tryz.sizeOf349
 v218:=Tryz.zeroValue349
 t222:=Tryz.underlying353
 a222:=Tryz.isAgg353
 z222:=Tryz.sizeOf353
 v222:=Tryz.zeroValue353
 t228:=Tryz.underlying355
 a228:=Tryz.isAgg355
 z228:=Tryz.sizeOf355
 v228:=Tryz.zeroValue355
 t229:=Tryz.underlying292
 a229:=Tryz.isAgg292
 z229:=Tryz.sizeOf292
 v229:=Tryz.zeroValue292 }
open Go.Sort Go.RowKit in
theorem Tryz.slices_Sort_int(blk off cap:Nat)(zs:List Int)(w:World)(hH:Holds (Vz .i64) w blk off zs.toArray)(hblk:blk<w.heap.size)(hsz:zs.length<4611686018427387904) :
  Calls VI 242 #[VE (VC ⟨blk,off,VD⟩) zs.length cap] w λe w'=>e = .returned (.tuple #[])/\∃n os,w'=grow (putRow (Vz .i64) (Sort.ahead w n) blk off (zs.mergeSort λx y=>decide (x<=y)).toArray) os:=Any.slices_Sort_int Tryz.Hf blk off cap zs w hH hblk hsz
def Tryz.Ep:Go.Shelf.Ren:=⟨fun | 112=>237 | n=>n,fun | 28=>22 | 3=>3 | 4=>4 | 0=>0 | n=>n,fun | n=>n⟩
theorem Tryz.Hj:Go.Proofs.Lays.n112 VI Tryz.Ep:={
 mixed:=by kernel_rfl
 f112:=Tryz.func237.trans (congrArg VC V0)
 t0:=Tryz.underlying0
 a0:=Tryz.isAgg0
 z0:=Tryz.sizeOf0
 v0:=Tryz.zeroValue0
 t3:=Tryz.underlying3
 a3:=Tryz.isAgg3
 z3:=Tryz.sizeOf3
 v3:=Tryz.zeroValue3
 t4:=Tryz.underlying4
 a4:=Tryz.isAgg4
 z4:=Tryz.sizeOf4
 v4:=Tryz.zeroValue4
 t28:=Tryz.underlying22
 a28:=Tryz.isAgg22
 z28:=Tryz.sizeOf22
 v28:=Tryz.zeroValue22 }
open Go.RowKit Go.Lib Go.Sort in
/-- slices.Reverse at []int: "Reverse reverses the elements of the slice in place.": THE SLICE's CELLS HOLD 'zs.reverse' BEHIND THE CALL; all else is as it was, but for the count of draws (the exchange 's[i], s[j] = s[j], s[i]' draws its order, once a round). IN THE WORDS OF slices.Sort's CONTRACT: 'Holds': the cells hold zs and none is frozen; 'putRow': the world with those cells holding another array. A slice of length 0 that is not nil is among them ('zs = []'); nil: '.._nil'. (LAID: no walk: one application.) -/
theorem Tryz.slices_Reverse_int(blk off cap:Nat)(zs:List Int)(w:World)(hH:Holds (Vz .i64) w blk off zs.toArray)(hsz:zs.length<=9223372036854775807) :
  Calls VI 237 #[VE (VC ⟨blk,off,VD⟩) zs.length cap] w λe w'=>e = .returned (.tuple #[])/\∃n,w'=putRow (Vz .i64) (Sort.ahead w n) blk off zs.reverse.toArray:=Any.slices_Reverse_int Tryz.Hj blk off cap zs w hH hsz
open Go.RowKit Go.Lib Go.Sort in
/-- The same at a slice of length 0, a nil one too: nothing is read, nothing written, nothing drawn. (LAID: no walk: one application.) -/
theorem Tryz.slices_Reverse_int_empty(a:Option Addr)(cap:Nat)(w:World) :
  Calls VI 237 #[.slice a 0 cap] w λe w'=>e = .returned (.tuple #[])/\w'=w:=Any.slices_Reverse_int_empty Tryz.Hj a cap w
def Tryz.AA:Go.Shelf.Ren:=⟨fun | 20=>243 | n=>n,fun | 22=>22 | 3=>3 | 4=>4 | 0=>0 | n=>n,fun | n=>n⟩
theorem Tryz.BN:Go.Proofs.Lays2.n20 VI Tryz.AA:={
 mixed:=by kernel_rfl
 f20:=Tryz.func243.trans (congrArg VC V0)
 t0:=Tryz.underlying0
 a0:=Tryz.isAgg0
 z0:=Tryz.sizeOf0
 v0:=Tryz.zeroValue0
 t3:=Tryz.underlying3
 a3:=Tryz.isAgg3
 z3:=Tryz.sizeOf3
 v3:=Tryz.zeroValue3
 t4:=Tryz.underlying4
 a4:=Tryz.isAgg4
 z4:=Tryz.sizeOf4
 v4:=Tryz.zeroValue4
 t22:=Tryz.underlying22
 a22:=Tryz.isAgg22
 z22:=Tryz.sizeOf22
 v22:=Tryz.zeroValue22
 i3:=by kernel_rfl }
open Go.RowKit Go.Lib Go.Sort in
/-- slices.Compact at []int: "Compact replaces consecutive runs of equal elements with a single copy. This is like the uniq command found on Unix. Compact modifies the contents of the slice s and returns the modified slice, which may have a smaller length. Compact zeroes the elements between the new length and the original length. The result preserves the nilness of s.": IT RETURNS THE SLICE CUT TO 'Lib.compact zs'; ITS CELLS HOLD 'Lib.compact zs', THEN ZERO VALUES up to the old length; all else is as it was, but for the count of draws. IN THE WORDS OF slices.Sort's CONTRACT ('Holds', 'putRow'): so the everyday 'slices.Sort(xs); xs = slices.Compact(xs)' goes from the one contract to the other. It asks 'zs.length <= cap' (every slice's: the reslicing 's[:k]' looks at it). Length 0, nil: '.._empty'. (LAID: no walk: one application.) -/
theorem Tryz.slices_Compact_int(blk off cap:Nat)(zs:List Int)(w:World)(hH:Holds (Vz .i64) w blk off zs.toArray)(hsz:zs.length<=9223372036854775807)(hcap:zs.length<=cap) :
  Calls VI 243 #[VE (VC ⟨blk,off,VD⟩) zs.length cap] w λe w'=>e = .returned (VE (VC ⟨blk,off,VD⟩) (Lib.compact zs).length cap)/\∃q,w'=putRow (Vz .i64) (Sort.ahead w q) blk off (Lib.compact zs++List.replicate (zs.length-(Lib.compact zs).length) 0).toArray:=Any.slices_Compact_int Tryz.BN blk off cap zs w hH hsz hcap
open Go.RowKit Go.Lib Go.Sort in
/-- The same at a slice of length 0, a nil one too: it comes back as it is. (LAID: no walk: one application.) -/
theorem Tryz.slices_Compact_int_empty(a:Option Addr)(cap:Nat)(w:World) :
  Calls VI 243 #[.slice a 0 cap] w λe w'=>e = .returned (.slice a 0 cap)/\w'=w:=Any.slices_Compact_int_empty Tryz.BN a cap w
open Go.RowKit Go.Sort in
/-- .. and plain. (LAID: no walk: one application.) -/
theorem Tryz.slices_Sort_int_none(p:Option Addr)(cap:Nat)(w:World) :
  Calls VI 242 #[.slice p 0 cap] w λe w'=>e = .returned (.tuple #[])/\w'=w:=Any.slices_Sort_int_none Tryz.Hf p cap w
end Go.Proofs
