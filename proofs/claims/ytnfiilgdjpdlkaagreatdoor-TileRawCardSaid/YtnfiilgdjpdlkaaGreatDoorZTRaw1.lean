/- A part of the proof: LftX, LftY, LftZ, LftF, LftG, LftH, LftM, LftN, LftQ, LftU, LftJ, LftK, T, LftP, Ua, Law, Ga, La, Lb, Lc, Ld, Le, Lf, Lg, Lh, Li, Lj, Lk, Ll, Shelf. -/
import Derived.Test.YtnfiilgdjpdlkaaGreatDoorZTRaw0
import Derived.KernelRfl
import Derived.ChangeKeysEq
import Derived.MapKept
import Derived.RecoverIn
import Derived.Test.YtnfiilgdjpdlkaaGreatDoorChecked
import Derived.ProofKit
import Derived.OpenShut
import Derived.HandedShaped
import Derived.LaidMore
import Derived.Test.YtnfiilgdjpdlkaaGreatDoorProg
import Derived.Shelf.Small.Bits
import Derived.Shelf.Small.Wraps
import Derived.Shelf.Strconv.Itoa0
import Derived.Shelf.Sort.Plain
import Derived.Shelf.Unicode.Latin
import Derived.Shelf.Unicode.Is16White
import Derived.Shelf.Unicode.IsSpaceAny
import Derived.Shelf.Unicode.Is16Any
import Derived.Shelf.Unicode.Is32Any
import Derived.Shelf.Unicode.ExclAny
import Derived.Shelf.Slices.Turned
import Derived.Shelf.Slices.Reverse
import Derived.Ground.Names2Prog
import Derived.Shelf.Slices.CompactI
import Derived.Shelf.Slices.SearchI
import Derived.Shelf.Slices.Cells
import Derived.Shelf.Slices.In.SortNone
set_option linter.unusedSimpArgs false
set_option linter.unusedVariables false
open Go.Value renaming int->RG,slice->RL,pointer->RM
open Go.IntKind renaming i64->RH,i32->RI
open Option renaming some->RJ,none->RK
open Bool renaming true->RN,false->RO
open Go.Proofs.Tryz renaming prog->RP
namespace Go.Lft
open Go
section
variable {po:OP} {pp:PP}
def step [po:OP] (P:Program) (op:Op) (ty:TypeId) (us:List (Nat × Value)) (h:Heap) (K:Value->Heap->Prop):Prop:=iz P (bT op ty us) h K
variable{P:Program}{op:Op}{ty:TypeId}{us:List (Nat × Value)}{h':Heap}{K:Value->Heap->Prop}
@[congr] theorem LF{us':List (Nat × Value)}{h:Heap}(e1:us=us')(e2:h=h'):step P op ty us h K=step P op ty us' h' K:=by rw[e1,e2]
def grdP (o:Option Value) (b:Bool) (A B:Prop):Prop:=∃gv,o=RJ gv/\(gv = .bool b->A)/\(gv≠.bool b->B)
variable{b:Bool}
@[congr] theorem Lq{o o':Option Value}{A B:Prop}(h:o=o'):grdP o b A B=grdP o' b A B:=by rw[h]
@[simp] theorem Nb{A B:Prop}:grdP (RJ (.bool RN)) RN A B=A:=by simp[grdP]
@[simp] theorem MU{A B:Prop}:grdP (RJ (.bool RN)) RO A B=B:=by simp[grdP]
@[simp] theorem M8{A B:Prop}:grdP (RJ (.bool RO)) RN A B=B:=by simp[grdP]
@[simp] theorem M0{A B:Prop}:grdP (RJ (.bool RO)) RO A B=A:=by simp[grdP]
@[simp] theorem L8{A B p:Prop}[Decidable p]:grdP (RJ (.bool (decide p))) RN A B=((p->A)/\(¬p->B)):=by simp[grdP]
@[simp] theorem LB{A B p:Prop}[Decidable p]:grdP (RJ (.bool (decide p))) RO A B=((p->B)/\(¬p->A)):=by simp[grdP,and_comm]
@[simp] theorem Mt{A B:Prop}{x:Bool}:grdP (RJ (.bool (!x))) b A B=grdP (RJ (.bool x)) (!b) A B:=by cases x<;>cases b<;>simp
@[simp] theorem LA{A B:Prop}:grdP (RJ undef) b A B=B:=by simp[grdP,undef]
section
variable {P:Program} {Q:Env->Heap->Prop} {ρ:Env} {h:Heap}
variable{kill:List Nat}{sets args:List (Nat × E)}{chk:List E}{dst:Option Nat}{keep:Bool}{next:Reg}
@[simp] theorem Kx{tail:Bool}:
  eW P RK (.loud kill sets args RK chk tail op ty dst keep next) Q ρ h=sat (evP (look ρ) (vw h) sets) λvs=>sat (evP (look ρ) (vw h) args) λus=>okE (look ρ) (vw h) chk/\pp.fx (dx (bY ρ kill) vs)/\
   @step (opAt RK) P op ty us h λv h'=>eW P RK next Q (putE (dx (bY ρ kill) vs) dst keep v) h':=by
 simp only[eW,cY,sat,step,iu,Option.map_none];refine propext ⟨λ⟨vs,us,h1,h2,h3,hfx,h4⟩=>⟨vs,h1,us,h2,h3,hfx,h4.mono λv h' hh=>?_⟩,λ⟨vs,h1,us,h2,h3,hfx,h4⟩=>⟨vs,us,h1,h2,h3,hfx,h4.mono λv h' hh=>?_⟩⟩
 ·have:=hh.2;cases tail<;>exact this
 cases tail<;>exact⟨by simp,hh⟩
@[simp] theorem Ky{g:E}:
  eW P RK (.loud kill sets args (RJ (g,b)) chk RO op ty dst keep next) Q ρ h=sat (evP (look ρ) (vw h) sets) λvs=>sat (evP (look ρ) (vw h) args) λus=>okE (look ρ) (vw h) chk/\pp.fx (dx (bY ρ kill) vs)/\
   grdP (ev (look ρ) (vw h) g) b (@step (opAt RK) P op ty us h λv h'=>eW P RK next Q (putE (dx (bY ρ kill) vs) dst keep v) h') (eW P RK next Q (putE (dx (bY ρ kill) vs) dst keep undef) h):=by simp only[eW,cY,sat,step,iu,grdP];refine propext ⟨λ⟨vs,us,h1,h2,h3,hfx,gv,h4,h5,h6⟩=>⟨vs,h1,us,h2,h3,hfx,gv,h4,λe=>(h5 e).mono λv h' hh=>hh.2,h6⟩,λ⟨vs,h1,us,h2,h3,hfx,gv,h4,h5,h6⟩=>⟨vs,us,h1,h2,h3,hfx,gv,h4,λe=>(h5 e).mono λv h' hh=>⟨by simp,hh⟩,h6⟩⟩
variable{H:View}
@[simp] theorem J3:
  eW P (RJ H) (.loud kill sets args RK chk RO op ty dst keep next) Q ρ h=sat (evP (look ρ) H sets) λvs=>sat (evP (look ρ) H args) λus=>okE (look ρ) H chk/\pp.fx (dx (bY ρ kill) vs)/\
   @step (opAt (RJ H)) P op ty us h λv h'=>H.le (vw h')/\eW P (RJ H) next Q (putE (dx (bY ρ kill) vs) dst keep v) h':=by
 simp only[eW,cY,sat,step,mN];refine propext ⟨λ⟨vs,us,h1,h2,h3,hfx,h4⟩=>⟨vs,h1,us,h2,h3,hfx,h4.mono λv h' hh=>?_⟩,λ⟨vs,h1,us,h2,h3,hfx,h4⟩=>⟨vs,us,h1,h2,h3,hfx,h4.mono λv h' hh=>?_⟩⟩
 ·exact⟨by simpa using hh.1,hh.2⟩
 exact⟨by simpa using hh.1,hh.2⟩
@[simp] theorem Ku:
  eW P (RJ H) (.loud kill sets args RK chk RN op ty dst keep next) Q ρ h=sat (evP (look ρ) H sets) λvs=>sat (evP (look ρ) H args) λus=>okE (look ρ) H chk/\pp.fx (dx (bY ρ kill) vs)/\
   @step (opAt (RJ H)) P op ty us h λv h'=>eW P (RJ nothing) next Q (putE (dx (bY ρ kill) vs) dst keep v) h':=by
 simp only[eW,cY,sat,step,mN];refine propext ⟨λ⟨vs,us,h1,h2,h3,hfx,h4⟩=>⟨vs,h1,us,h2,h3,hfx,h4.mono λv h' hh=>?_⟩,λ⟨vs,h1,us,h2,h3,hfx,h4⟩=>⟨vs,us,h1,h2,h3,hfx,h4.mono λv h' hh=>?_⟩⟩
 ·exact hh.2
 exact⟨by simp,hh⟩
@[simp] theorem JI{g:E}:
  eW P (RJ H) (.loud kill sets args (RJ (g,b)) chk RO op ty dst keep next) Q ρ h=sat (evP (look ρ) H sets) λvs=>sat (evP (look ρ) H args) λus=>okE (look ρ) H chk/\pp.fx (dx (bY ρ kill) vs)/\
   grdP (ev (look ρ) H g) b (@step (opAt (RJ H)) P op ty us h λv h'=>H.le (vw h')/\eW P (RJ H) next Q (putE (dx (bY ρ kill) vs) dst keep v) h') (eW P (RJ H) next Q (putE (dx (bY ρ kill) vs) dst keep undef) h):=by simp only[eW,cY,sat,step,mN,grdP];refine propext ⟨λ⟨vs,us,h1,h2,h3,hfx,gv,h4,h5,h6⟩=>⟨vs,h1,us,h2,h3,hfx,gv,h4,λe=>(h5 e).mono λv h' hh=>⟨by simpa using hh.1,hh.2⟩,h6⟩,λ⟨vs,h1,us,h2,h3,hfx,gv,h4,h5,h6⟩=>⟨vs,us,h1,h2,h3,hfx,gv,h4,λe=>(h5 e).mono λv h' hh=>⟨by simpa using hh.1,hh.2⟩,h6⟩⟩
@[simp] theorem Jz:
  cY View.sub P (RJ H) (.loud kill sets args RK chk RO op ty dst keep next) Q ρ h=sat (evP (look ρ) H sets) λvs=>sat (evP (look ρ) H args) λus=>okE (look ρ) H chk/\pp.fx (dx (bY ρ kill) vs)/\
   @step (opAt (RJ H)) P op ty us h λv h'=>H.sub (vw h')/\cY View.sub P (RJ H) next Q (putE (dx (bY ρ kill) vs) dst keep v) h':=by
 simp only[cY,sat,step,mN];refine propext ⟨λ⟨vs,us,h1,h2,h3,hfx,h4⟩=>⟨vs,h1,us,h2,h3,hfx,h4.mono λv h' hh=>?_⟩,λ⟨vs,h1,us,h2,h3,hfx,h4⟩=>⟨vs,us,h1,h2,h3,hfx,h4.mono λv h' hh=>?_⟩⟩
 ·exact⟨by simpa using hh.1,hh.2⟩
 exact⟨by simpa using hh.1,hh.2⟩
@[simp] theorem JG:
  cY View.sub P (RJ H) (.loud kill sets args RK chk RN op ty dst keep next) Q ρ h=sat (evP (look ρ) H sets) λvs=>sat (evP (look ρ) H args) λus=>okE (look ρ) H chk/\pp.fx (dx (bY ρ kill) vs)/\
   @step (opAt (RJ H)) P op ty us h λv h'=>cY View.sub P (RJ nothing) next Q (putE (dx (bY ρ kill) vs) dst keep v) h':=by
 simp only[cY,sat,step,mN];refine propext ⟨λ⟨vs,us,h1,h2,h3,hfx,h4⟩=>⟨vs,h1,us,h2,h3,hfx,h4.mono λv h' hh=>?_⟩,λ⟨vs,h1,us,h2,h3,hfx,h4⟩=>⟨vs,us,h1,h2,h3,hfx,h4.mono λv h' hh=>?_⟩⟩
 ·exact hh.2
 exact⟨by simp,hh⟩
@[simp] theorem IB{g:E}:
  cY View.sub P (RJ H) (.loud kill sets args (RJ (g,b)) chk RO op ty dst keep next) Q ρ h=sat (evP (look ρ) H sets) λvs=>sat (evP (look ρ) H args) λus=>okE (look ρ) H chk/\pp.fx (dx (bY ρ kill) vs)/\
   grdP (ev (look ρ) H g) b (@step (opAt (RJ H)) P op ty us h λv h'=>H.sub (vw h')/\cY View.sub P (RJ H) next Q (putE (dx (bY ρ kill) vs) dst keep v) h') (cY View.sub P (RJ H) next Q (putE (dx (bY ρ kill) vs) dst keep undef) h):=by simp only[cY,sat,step,mN,grdP];refine propext ⟨λ⟨vs,us,h1,h2,h3,hfx,gv,h4,h5,h6⟩=>⟨vs,h1,us,h2,h3,hfx,gv,h4,λe=>(h5 e).mono λv h' hh=>⟨by simpa using hh.1,hh.2⟩,h6⟩,λ⟨vs,h1,us,h2,h3,hfx,gv,h4,h5,h6⟩=>⟨vs,us,h1,h2,h3,hfx,gv,h4,λe=>(h5 e).mono λv h' hh=>⟨by simpa using hh.1,hh.2⟩,h6⟩⟩
@[simp] theorem Lx:
  cY View.sub P (RJ H) (.fin kill sets chk) Q ρ h=sat (evP (look ρ) H sets) λvs=>okE (look ρ) H chk/\Q (dx (bY ρ kill) vs) h:=rfl
@[simp] theorem MT{ρ:Env}:@PP.fx noPP ρ=True:=rfl
@[simp] theorem M5{Rp:List PanicEntry->Heap->Prop}{ρ:Env}:@PP.fx (ppOf Rp) ρ=True:=rfl
@[simp] theorem Lr{m:Option View}{x y:Reg}:eW P m (.both x y) Q ρ h=(eW P m x Q ρ h/\eW P m y Q ρ h):=rfl
end
theorem sT{s:Sem Next}{f:FuncId}{args:Array Value}{h:Heap}{R:Value->Heap->Prop}(hs : ∀w:World,w.heap=h->s.run P w = .ok (.enter f args) w)(hc:az P f args h R)(hk : ∀v h',R v h'->K v h'):iz P s h K:=by intro w hw r o a K' Q' hK hQ;rw[hs w hw];simp only[Oper.uponIn];refine⟨λh=>by simp[Fw,Fence.wide]at h,sC ((hc w hw).mono ?_)⟩;rintro e w' ⟨v,rfl,hR,hsame⟩;exact hK v w' (hk _ _ hR) hsame
theorem vV{s:Sem Next}{f:FuncId}{args:Array Value}{h:Heap}{R:Value->Heap->Prop}{Rp:List PanicEntry->Heap->Prop}(hs : ∀w:World,w.heap=h->s.run P w = .ok (.enter f args) w)(hc:ji P f args h R Rp)(hk : ∀v h',R v h'->K v h')(hp : ∀ch h',Rp ch h'->po.op ch h'):iz P s h K:=by
 intro w hw r o a K' Q' hK hQ;rw[hs w hw];simp only[Oper.uponIn];refine⟨λh=>by simp[Fw,Fence.wide]at h,sC ((hc w hw).mono ?_)⟩;rintro e w' (⟨v,rfl,hR,hsame⟩ | ⟨ch,rfl,hR,hsame⟩)
 ·exact hK v w' (hk _ _ hR) hsame
 exact hQ ch w' (hp _ _ hR) hsame
theorem Dq{f:FuncId}{ops:Array Operand}{T:Array TypeId}{args:Array Value}{h:Heap}(R:Value->Heap->Prop)(Rp:List PanicEntry->Heap->Prop)(hf:isFn P f=RN)(ha:ops.map (asg us)=args)(hc:ji P f args h R Rp)(hk : ∀v h',R v h'->K v h')(hp : ∀ch h',Rp ch h'->po.op ch h'):
  step P (.call ⟨.value (.func f),ops,T⟩) ty us h K:=by
 subst ha;refine vV (λw _=>?_) hc hk hp;unfold isFn at hf;cases hfn:P.funcs[f]? with
 | none=>simp[hfn]at hf
 | some fn=>simp only[hfn,NS,bne_iff_ne,ne_eq]at hf;obtain⟨h1,h2⟩:=hf;simp[bT,execOp,resolve,Deferred.ofValue,asg,invoke,callFunc,program,Sem.run,hfn,h1,Option.isNone];cases hb:fn.body<;>simp[hb]at h2 ⊢
theorem oC{f:FuncId}{ops:Array Operand}{T:Array TypeId}{args:Array Value}{h:Heap}(R:Value->Heap->Prop)(hf:isFn P f=RN)(ha:ops.map (asg us)=args)(hc:az P f args h R)(hk : ∀v h',R v h'->K v h'):
  step P (.call ⟨.value (.func f),ops,T⟩) ty us h K:=by
 subst ha;refine sT (λw _=>?_) hc hk;unfold isFn at hf;cases hfn:P.funcs[f]? with
 | none=>simp[hfn]at hf
 | some fn=>simp only[hfn,NS,bne_iff_ne,ne_eq]at hf;obtain⟨h1,h2⟩:=hf;simp[bT,execOp,resolve,Deferred.ofValue,asg,invoke,callFunc,program,Sem.run,hfn,h1,Option.isNone];cases hb:fn.body<;>simp[hb]at h2 ⊢
def gF [po:OP] (P:Program) (f:FuncId) (T:Array TypeId) (ty:TypeId) (args:List Value) (h:Heap) (K:Value->Heap->Prop):Prop:=
 step P (.call ⟨.value (.func f),args.toArray.map .const,T⟩) ty [] h K
@[simp] theorem M7{t:Nat}:asg us (.tmp t)=(look us t).getD undef:=rfl
@[simp] theorem yJ{v:Value}:asg us (.const v)=v:=rfl
@[simp] theorem Mw{f:FuncId}:asg us (.func f) = .func (.func f) #[] #[]:=rfl
@[simp] theorem Lt{g:Nat}:asg us (.global g) = RM (RJ ⟨g,0,RK⟩):=rfl
theorem ja{f:FuncId}{ops:List Operand}{T:Array TypeId}{h:Heap}:
  step P (.call ⟨.value (.func f),ops.toArray,T⟩) ty us h K=gF P f T ty (ops.map (asg us)) h K:=by unfold gF step;congr 1;simp[bT,execOp,resolve,Deferred.ofValue,Rl]
section
variable {P:Program} {f:FuncId} {x y z u v:Operand} {T:Array TypeId} {ty:TypeId} {us:List (Nat × Value)} {h:Heap} {K:Value->Heap->Prop}
@[simp] theorem K7:step P (.call ⟨.value (.func f),#[],T⟩) ty us h K=gF P f T ty [] h K:=ja (ops:=[])
@[simp] theorem KS:step P (.call ⟨.value (.func f),#[x],T⟩) ty us h K=gF P f T ty [asg us x] h K:=ja (ops:=[x])
@[simp] theorem LP:step P (.call ⟨.value (.func f),#[x,y],T⟩) ty us h K=gF P f T ty [asg us x,asg us y] h K:=ja (ops:=[x,y])
@[simp] theorem Ld:step P (.call ⟨.value (.func f),#[x,y,z],T⟩) ty us h K=gF P f T ty [asg us x,asg us y,asg us z] h K:=ja (ops:=[x,y,z])
@[simp] theorem KW:step P (.call ⟨.value (.func f),#[x,y,z,u],T⟩) ty us h K=gF P f T ty [asg us x,asg us y,asg us z,asg us u] h K:=ja (ops:=[x,y,z,u])
@[simp] theorem K1:step P (.call ⟨.value (.func f),#[x,y,z,u,v],T⟩) ty us h K=gF P f T ty [asg us x,asg us y,asg us z,asg us u,asg us v] h K:=ja (ops:=[x,y,z,u,v])
end
@[congr] theorem GA{f:FuncId}{T:Array TypeId}{args args':List Value}{h:Heap}(ha:args=args'):gF P f T ty args h K=gF P f T ty args' h K:=by rw[ha]
theorem ah{f:FuncId}{T:Array TypeId}{args:List Value}{h:Heap}{R:Value->Heap->Prop}(hf:isFn P f=RN)(hc:az P f args.toArray h R)(hk : ∀v h',R v h'->K v h'):gF P f T ty args h K:=
 oC R hf (by simp[Rl]) hc hk
theorem en{f:FuncId}{T:Array TypeId}{args:List Value}{h:Heap}{R:Value->Heap->Prop}{Rp:List PanicEntry->Heap->Prop}(hf:isFn P f=RN)(hc:ji P f args.toArray h R Rp)(hk : ∀v h',R v h'->K v h')(hp : ∀ch h',Rp ch h'->po.op ch h'):gF P f T ty args h K:=
 Dq R Rp hf (by simp[Rl]) hc hk hp
theorem cK{s:Sem Next}{h:Heap}(hs : ∀w:World,w.heap=h->∃v w',s.run P w = .ok (.value v) w'/\Same w w'/\K v w'.heap):iz P s h K:=by intro w hw r o a K' Q' hK hQ;obtain⟨v,w',h1,h2,h3⟩:=hs w hw;rw[h1];exact hK v w' h3 h2
theorem qX{s:Sem Next}{h:Heap}(hs : ∀w:World,w.heap=h->∃w',s.run P w = .ok .skip w'/\Same w w'/\K undef w'.heap):iz P s h K:=by intro w hw r o a K' Q' hK hQ;obtain⟨w',h1,h2,h3⟩:=hs w hw;rw[h1];exact hK undef w' h3 h2
theorem iX(w:World)(o:Obj):Same w (w.alloc o):=Same.An rfl rfl rfl Sa λk hk=>heap_alloc_old w o hk
variable{n size:Nat}{cs:Array Value}
theorem pN{t e:TypeId}{ps:Array (Nat × Operand)}{h:Heap}{i:TypeInfo}{z:Value}{vs:List (Nat × Value)}(ht:P.underlying t=RJ (.slice e))(hi:P.info? e=RJ i)(hz:i.zero=RJ z)(hs:i.size=size)(hn:n*size<=16777216)(hp:ps.map (λp=>(p.1,asg us p.2))=vs.toArray)(hf:Instr.fill (λj=>RJ (j*size,size)) ((Array.range (n*size)).map (z.cells[· % z.cells.size]!)) vs=RJ cs)(hk:K (RL (RJ ⟨h.size,0,RK⟩) n n) (h.push (.cells cs e))):step P (.buildSlice t n ps) ty us h K:=by
 subst hs;refine cK λw hw=>?_;subst hw;have hn':¬(16777216<n*i.size):=by omega
 refine⟨_,w.alloc (.cells cs e),?_,iX _ _,hk⟩;have hp':(ps.map λx=>match x with | (i,x)=>(i,asg us x))=vs.toArray:=hp;by_cases h0:n*i.size=0
 ·have e1 : ∀f:Nat->Value,(Array.range 0).map f = #[]:=λf=>by simp[Array.range_zero']
  rw[h0,e1]at hf;simp only[bT,execOp,hp'];simp[Instr.buildSlice,run_underlying ht,sizeOf,typeInfo,hi,h0,newRow,e1,hf]
 simp only[bT,execOp,hp'];simp[Instr.buildSlice,run_underlying ht,sizeOf,typeInfo,hi,hn',newRow,h0,zeroValue,hz,hf]
def xf (h:Heap) (e:TypeId) (size:Nat) (v:Value) (n:Nat) (xs:List Value):Prop:=
  xs.length=n*size/\
  ((v = RL RK 0 0/\n=0)\/
   ∃g cap cur,v = RL (RJ ⟨g,0,RK⟩) n cap/\h[g]? = RJ (.cells cur e (0,0))/\n<=cap/\cap<=maxLen/\cur.size=cap*size/\cur.toList.take (n*size)=xs)
structure Kept (h h':Heap) (b:Option Nat):Prop where
 size:h.size<=h'.size
 block : ∀k,k<h.size->RJ k≠b->h'[k]? = h[k]?
theorem Kept.refl(h:Heap)(b:Option Nat):Kept h h b:=⟨NO _,λ_ _ _=>rfl⟩
theorem Kept.push (h:Heap) (o:Obj) (b:Option Nat):Kept h (h.push o) b:=⟨by simp,λk hk _=>by rw[Array.getElem?_push,if_neg R3]⟩
theorem Kept.trans {h h' h'':Heap} {b:Option Nat} (k:Kept h h' b) (k':Kept h' h'' b):Kept h h'' b:=
 ⟨OD k.size k'.size,λx hx hb=>(k'.block x (QA hx k.size) hb).trans (k.block x hx hb)⟩
def Av (W:View) (v:Value):Prop:=∀b,v.ownBlock=RJ b->W b=RK
variable{W:View}
theorem Kept.view{h:Heap}{v:Value}(k:Kept h h' v.ownBlock)(hw:W.le (vw h))(ha:Av W v):W.le (vw h'):=by
 intro b o hb;have hlt:=View.lt hw hb;have hne:RJ b≠v.ownBlock:=λe=>by rw[ha b e.symm]at hb;cases hb
 show h'[b]? = RJ o;rw[k.block b hlt hne];exact hw b o hb
theorem Kept.EV{h:Heap}(k:Kept h h' RK)(hw:W.le (vw h)):W.le (vw h'):=by intro b o hb;show h'[b]? = RJ o;rw[k.block b (View.lt hw hb) Sa];exact hw b o hb
theorem bM(h:Heap)(o:Obj):(vw h).le (vw (h.push o)):=(Kept.push h o RK).EV RD
theorem HZ{h:Heap}(hle:(vw h).le (vw h'))(hs:h.size<=h'.size):Kept h h' none:=
 ⟨hs,λk hk _=>by have:h[k]? = RJ h[k]:=N6 hk;rw[this];exact hle k _ this⟩
theorem cw{h:Heap}(hle:(vw h).le (vw h')):h.size<=h'.size:=by
 rcases NQ h'.size h.size with hlt | hge
 ·have h1:h[h'.size]? = RJ h[h'.size]:=N6 hlt;have h2:h'[h'.size]? = RJ h[h'.size]:=hle _ _ h1;simp at h2
 exact hge
theorem uD{h:Heap}(hle:(vw h).le (vw h')):Kept h h' none:=HZ hle (cw hle)
theorem xf.kept{h h':Heap}{e:TypeId}{size n:Nat}{v:Value}{xs:List Value}{b:Option Nat}(ho:xf h e size v n xs)(k:Kept h h' b)(hb:v.ownBlock=RK\/v.ownBlock≠b):xf h' e size v n xs:=by
 refine⟨ho.1,?_⟩;rcases ho.2 with hn | ⟨g,cap,cur,rfl,hg,rest⟩
 ·exact .inl hn
 refine .inr ⟨g,cap,cur,rfl,?_,rest⟩;rw[k.block g (NV.1 hg).1 (by simpa[Value.ownBlock]using hb)];exact hg
structure fm (P:Program) (t e:TypeId) (size bytes:Nat) (z:Value):Prop where
 ht:P.underlying t=RJ (.slice e)
 hi : ∃i,P.info? e=RJ i/\i.zero=RJ z/\i.size=size/\i.bytes=bytes
 hz:z.cells.size=size
 hs:0<size
 hm:size<=1000
variable{bytes:Nat}
theorem De{t e:TypeId}{z:Value}(hT:fm P t e size bytes z){w:World}{v:Value}{xs:List Value}(hown:xf w.heap e size v n xs){a:Option Addr}{m c:Nat}{news:List Value}(hl:news.length=m*size)(hnews : ∀ad,a=RJ ad->∀j u,news[j]? = RJ u->w.cell? (ad.add j)=RJ u)(hnil:a=RK->m=0)(h1 : ∀u∈news,u.oneCell'=RN)(hbytes:(n+m)*bytes<=140737488355328)(h63:n+m<=140737488355328):
  ∃v' w',(Builtin.append_ #[t,t] ty #[v,.slice a m c]).run P w = .ok v' w'/\Same w w'/\xf w'.heap e size v' (n+m) (xs++news)/\Kept w.heap w'.heap v.ownBlock/\
   (v'.ownBlock=v.ownBlock\/v'.ownBlock=RJ w.heap.size):=by
 obtain⟨ht,⟨i,hi,hz,hsize,hby⟩,hzs,hsz,_⟩:=hT;subst hsize;subst hby;cases a with
 | none=>
  obtain rfl:=hnil rfl;have hn:news=[]:=N3 (by simpa using hl);subst hn;have hrun:(Builtin.append_ #[t,t] ty #[v,RL RK 0 c]).run P w = .ok v w:=by
   rcases hown.2 with⟨rfl,rfl⟩ | ⟨g,cap,cur,rfl,hg,hnc,hcm,hcs,htake⟩
   ·simp[Builtin.append_,run_underlying ht,sizeOf,typeInfo,hi,Builtin.lenOf,Builtin.firstCells]
   simp[Builtin.append_,run_underlying ht,sizeOf,typeInfo,hi,Builtin.lenOf,Builtin.firstCells,hnc,storeCells]
  exact⟨v,w,hrun,Same.refl _,by simpa using hown,Kept.refl _ _,.inl rfl⟩
 | some ad=>
  have hnews:=hnews ad rfl;have hlen:(xs++news).length=(n+m)*i.size:=by rw[N1,hown.1,hl,P7]
  have h63':n+m<=maxLen:=by simp only[maxLen];omega
  have grown : ∀(old:Nat),old<n+m->∀row,
    xf (w.drew.alloc (.cells (xs.toArray++news.toArray++Builtin.zeroCells z.cells (grownCap w (n+m) old e-(n+m))) e)).heap e i.size
     (RL (RJ ⟨w.heap.size,0,RK⟩) (n+m) (grownCap w (n+m) old e)) (n+m) (xs++news)/\
    Kept w.heap (w.drew.alloc (.cells (xs.toArray++news.toArray++Builtin.zeroCells z.cells (grownCap w (n+m) old e-(n+m))) e)).heap row:=by
   intro old ho row;have hge:=grownCap_ge w (n+m) old e;have hcm:grownCap w (n+m) old e<=maxLen:=grownCap_le_maxLen w (n+m) old e h63';refine⟨⟨hlen,.inr ⟨w.heap.size,_,_,rfl,heap_alloc_new w.drew _,hge,hcm,?_,?_⟩⟩,⟨by simp,λk hk _=>by rw[heap_alloc_old w.drew _ (by simpa using hk)];rfl⟩⟩
   ·simp only[Array.size_append,PM,size_zeroCells,hzs,hown.1,hl,<-Nat.add_mul];congr 1;omega
   simp only[Array.toList_append,N2];rw[<-List.append_assoc,<-hlen];exact QY
  rcases hown.2 with⟨rfl,rfl⟩ | ⟨g,cap,cur,rfl,hg,hnc,hcm,hcs,htake⟩
  ·have hx:xs=[]:=N3 (by simpa using hown.1);subst hx;by_cases hm:m=0
   ·subst hm;have hn:news=[]:=N3 (by simpa using hl);subst hn;refine⟨RL RK 0 0,w,?_,Same.refl _,⟨by simp,.inl ⟨rfl,rfl⟩⟩,Kept.refl _ _,.inl rfl⟩;simp[Builtin.append_,run_underlying ht,sizeOf,typeInfo,hi,Builtin.lenOf,Builtin.firstCells,loadCells,loadCellsFrom]
   have hr:=run_append_nil (P:=P) w t ty e i z ht hi hz ad m c news hl hnews R3 R3 (by have hb:=hbytes;simp only[O7]at hb;omega);have hgr:=grown 0 R3 RK;simp only[O7,OW,Array.empty_append]at hgr ⊢;exact⟨_,_,hr,Same.An rfl rfl rfl hgr.2.size (λk hk=>hgr.2.block k hk Sa),hgr.1,⟨hgr.2.size,λk hk _=>hgr.2.block k hk Sa⟩,.inr rfl⟩
  by_cases hroom:n+m<=cap
  ·have hfit:n*i.size+news.length<=cur.size:=by rw[hl,hcs,<-Nat.add_mul];exact OE _ hroom
   have hr:=run_append_room (P:=P) w t ty e i ht hi g n cap cur hg ad m c news hl hnews h1 hroom hfit;refine⟨_,_,hr,Same.sL rfl rfl rfl Sa hg Sa (λk _ hne=>setRow_other w g k _ (λe=>hne e)),⟨hlen,.inr ⟨g,cap,_,rfl,setRow_heap w g cur _ e _ hg,hroom,hcm,?_,?_⟩⟩,⟨by simp,λk hk hne=>setRow_other w g k _ (λe=>hne (by simp[Value.ownBlock,e]))⟩,.inl rfl⟩
   ·simp only[PM,N1,OT,OM,PO];omega
   rw[htake,<-hlen];exact QY
  have holds : ∀j u,xs[j]? = RJ u->w.cell? ((⟨g,0,RK⟩:Addr).add j)=RJ u:=by intro j u hu;have:=World.ownsRow.cells (w:=w) (base:=0) (e:=e) (size:=i.size) (v:=RL (RJ ⟨g,0,RK⟩) n cap) (n:=n) (xs:=xs) ⟨hown.1,.inr ⟨g,cap,cur,rfl,PV _,hg,hnc,hcm,hcs,htake⟩⟩ (g:=g) rfl j u hu;exact this
  have hr:=run_append_grow (P:=P) w t ty e i z ht hi hz ⟨g,0,RK⟩ n cap xs hown.1 holds ad m c news hl hnews R3 R3 (growslice_fits R3 hbytes);have hgr:=grown cap R3 RK;exact⟨_,_,hr,Same.An rfl rfl rfl hgr.2.size (λk hk=>hgr.2.block k hk Sa),hgr.1,⟨hgr.2.size,λk hk _=>hgr.2.block k hk Sa⟩,.inr rfl⟩
theorem du{h:Heap}(hr:iz P (bT op ty us) h K):step P op ty us h K:=hr
attribute [irreducible] step gF
end
section
variable {po:OP} {pp:PP}
def fresh (h h':Heap):View:=λb=>if b<h.size then RK else h'[b]?
theorem lK(h h':Heap):(fresh h h').le (vw h'):=λb o hb=>by
 unfold fresh at hb;split at hb
 ·cases hb
 exact hb
theorem gu(V:View)(h h':Heap):(fresh h h').le (grow V h h'):=λb o hb=>by
 unfold fresh at hb;unfold grow;split at hb
 ·cases hb
 rename_i hlt;rw[if_neg hlt];exact hb
structure lE (h h':Heap) (v v':Value):Prop where
 kept:Kept h h' v.ownBlock
 at_:v'.ownBlock=v.ownBlock\/v'.ownBlock=RJ h.size
theorem lE.view {h h':Heap} {v v':Value} (m:lE h h' v v') {W:View} (hw:W.le (vw h)) (ha:Av W v):W.le (vw h')/\Av W v':=by
 refine⟨m.kept.view hw ha,λb hb=>?_⟩;rcases m.at_ with e | e
 ·exact ha b (by rw[<-e];exact hb)
 rw[e]at hb;simp only[NN]at hb;exact View.cM hw R3
theorem Av.nil(W:View)(n c:Nat):Av W (RL RK n c):=λb hb=>by simp[Value.ownBlock]at hb
section
variable {α:Type} [Rep α]
def OwnT (W:View) (h:Heap) (e:TypeId) (v:Value) (l:List α):Prop:=
 l.length<=140737488355328/\∃xs,xf h e (Rep.n α) v l.length xs/\∀(i:Nat) (hi:i<l.length),Rep.rd W ((xs.drop (i*Rep.n α)).take (Rep.n α)) l[i]
def SrcT (Ho Hi:View) (u:Value) (l:List α):Prop:=
 ∃a c,u = .slice a l.length c/\(a=RK->l=[])/\∃news:List Value,news.length=l.length*Rep.n α/\(∀ad,a=RJ ad->∀j x,news[j]? = RJ x->an Ho (ad.add j)=RJ x)/\
  ∀(i:Nat) (hi:i<l.length),Rep.rd Hi ((news.drop (i*Rep.n α)).take (Rep.n α)) l[i]
theorem OwnT.nil(W:View)(h:Heap)(e:TypeId):OwnT (α:=α) W h e (RL RK 0 0) []:=
 ⟨by simp,[],⟨by simp,.inl ⟨rfl,rfl⟩⟩,λi hi=>by simp at hi⟩
variable {W:View} {h h':Heap} {e:TypeId} {v:Value} {l:List α}
theorem OwnT.len (o:OwnT W h e v l) {K:View}:Un.ev K .len v=RJ (RG RH l.length):=by
 obtain⟨_,xs,⟨_,hx⟩,_⟩:=o;rcases hx with⟨rfl,hn⟩ | ⟨g,cap,cur,rfl,_⟩
 ·rw[hn];rfl
 rfl
theorem OwnT.mono (o:OwnT W h e v l) {W':View} (hw:W.le W'):OwnT W' h e v l:=
 let ⟨b,xs,h1,h2⟩:=o
 ⟨b,xs,h1,λi hi=>Rep.mono hw (h2 i hi)⟩
theorem OwnT.kept (o:OwnT W h e v l) {b:Option Nat} (k:Kept h h' b) (hb:v.ownBlock=RK\/v.ownBlock≠b):OwnT W h' e v l:=
 let ⟨bd,xs,h1,h2⟩:=o
 ⟨bd,xs,h1.kept k hb,h2⟩
theorem OwnT.ext(o:OwnT W h e v l)(k:(vw h).le (vw h')):OwnT W h' e v l:=o.kept (uD k) (by cases v.ownBlock<;>simp)
variable{n:Nat}
theorem CW{xs:List Value}{len:Nat}(hl:xs.length=len*n)(hr : ∀(i:Nat),i<len->∀u∈(xs.drop (i*n)).take n,u.oneCell'=RN): ∀u∈xs,u.oneCell'=true:=by
 intro u hu;obtain⟨j,hj,rfl⟩:=N7 hu;have hn:0<n:=by
  rcases PG n with h | h
  ·subst h;simp at hl;subst hl;simp at hj
  exact h
 have hlt:j / n<len:=by rw[Nat.div_lt_iff_lt_mul hn];omega
 refine hr (j / n) hlt _ ?_;have hm:=Nat.mod_lt j hn;have hd:=Nat.div_add_mod j n;have:((xs.drop (j / n*n)).take n)[j % n]? = RJ xs[j]:=by
  rw[Pq,if_pos hm,PX];have:j / n*n+j % n=j:=by rw[Nat.mul_comm];exact hd
  rw[this];exact OI hj
 exact OQ this
theorem Ff{xs ys:List Value}{a i:Nat}(hx:xs.length=a*n):((xs++ys).drop (i*n)).take n=if i<a then(xs.drop (i*n)).take n else(ys.drop ((i-a)*n)).take n:=by
 split
 ·rename_i h;have h1:i*n+n<=a*n:=by rw[<-Nat.succ_mul];exact OE _ h
  rw[O3 R3,OS R9]
 rename_i h;have h1:a*n<=i*n:=OE _ R3;have h2:(i-a)*n=i*n-a*n:=Nat.sub_mul ..;rw[PS,OL R3,OW,hx,h2]
variable{P:Program}{ty:TypeId}{bytes:Nat}{y:Operand}{us:List (Nat × Value)}{K:Value->Heap->Prop}
theorem dU{t:TypeId}{z:Value}{x:Operand}{u:Value}{l2:List α}(hT:fm P t e (Rep.n α) bytes z)(hx:asg us x=v)(hy:asg us y=u)(ho:OwnT W h e v l)(hs:SrcT (vw h) W u l2)(hb:(l.length+l2.length)*bytes<=140737488355328)(hb2:l.length+l2.length<=140737488355328)(hk : ∀v' h',OwnT W h' e v' (l++l2)->lE h h' v v'->K v' h'):step P (.call ⟨.builtin .append,#[x,y],#[t,t]⟩) ty us h K:=by
 obtain⟨hbd,xs,h1,h2⟩:=ho;obtain⟨a,c,rfl,hnil,news,h3,h4,h5⟩:=hs;refine du (cK λw hw=>?_);subst hw;have hflat : ∀u∈news,u.oneCell'=true:=CW h3 λi hi=>Rep.flat (h5 i hi);obtain⟨v',w',g1,g2,g3,g4,g5⟩:=De hT (ty:=ty) h1 h3 (λad ha j u hu=>h4 ad ha j u hu) (c:=c) (λha=>by rw[hnil ha];rfl) hflat hb hb2;refine⟨v',w',?_,g2,hk v' w'.heap ⟨by simpa using hb2,xs++news,by simpa using g3,λi hi=>?_⟩ ⟨g4,g5⟩⟩
 ·simp only[bT,execOp];simp[resolve,invoke,builtin,hx,hy,g1]
 rw[Ff h1.1];split
 ·rename_i hlt;rw[Qv hlt];exact h2 i hlt
 rename_i hge;rw[Qj R3];exact h5 (i-l.length) (by simp at hi;omega)
variable{H:View}
theorem SlRd.src{K:View}(s:SlRd H v l)(hk:H.le K):SrcT K H v l:=by
 obtain⟨a,cap,rfl,h1,h2,h3⟩:=s;rcases h3 with rfl | ⟨ad,rfl,hs,hat⟩
 ·exact⟨a,cap,rfl,λ_=>rfl,[],by simp,λ_ _ j x hx=>by simp at hx,λi hi=>by simp at hi⟩
 refine⟨RJ ad,cap,rfl,(λh=>by cases h),?_⟩;cases hl:l with
 | nil=>exact⟨[],by simp,λ_ _ j x hx=>by simp at hx,λi hi=>by simp at hi⟩
 | cons d0 l0=>
  rw[<-hl];have hpos:0<l.length:=by rw[hl];simp
  obtain⟨cs0,⟨c,T,fz,_,hb,_⟩,_⟩:=hat 0 hpos;have hblk:H ad.block=RJ (.cells c T fz):=by rw[bR hs]at hb;exact hb
  have hcs : ∀(i:Nat) (hi:i<l.length),Rep.rd H ((c.toList.drop (ad.off+i*Rep.n α)).take (Rep.n α)) l[i]:=by intro i hi;obtain⟨cs,⟨c',T',fz',_,hb',he⟩,hr⟩:=hat i hi;rw[bR hs]at hb' he;simp only at hb' he;rw[hblk]at hb';cases hb';rw[Rep.len hr]at he;rw[he];exact hr
  have htot:ad.off+l.length*Rep.n α<=c.toList.length:=by
   have:=Rep.len (hcs (l.length-1) R3);have hn:=Rep.pos (α:=α);simp only[OT,OM]at this;have e1:l.length*Rep.n α=(l.length-1)*Rep.n α+Rep.n α:=by rw[<-Nat.succ_mul];congr 1;omega
   omega
  refine⟨(c.toList.drop ad.off).take (l.length*Rep.n α),?_,?_,?_⟩
  ·simp only[OT,OM];omega
  ·intro ad' e j x hx;cases e;have hj:j<l.length*Rep.n α:=by
    rcases NQ j (l.length*Rep.n α)with h | h
    ·exact h
    rw[ON R9]at hx;cases hx
   rw[Pq,if_pos hj,PX]at hx;rw[bR hs];simp only[an,hk _ _ hblk];simpa using hx
  intro i hi;have h1:i*Rep.n α+Rep.n α<=l.length*Rep.n α:=by rw[<-Nat.succ_mul];exact OE _ hi
  rw[Pw,Px,PR,Pz R3];exact hcs i hi
variable{V:View}
theorem OwnT.rd(o:OwnT W h e v l)(hw:W.le V)(hv : ∀b,v.ownBlock=RJ b->V b=h[b]?):SlRd V v l:=by
 obtain⟨hbd,xs,⟨hx,hown⟩,hel⟩:=o;rcases hown with⟨rfl,hn⟩ | ⟨g,cap,cur,rfl,hg,h1,h2,h3,h4⟩
 ·have:l=[]:=N3 hn;subst this;exact⟨RK,0,rfl,by simp,by simp,.inl rfl⟩
 refine⟨RJ ⟨g,0,RK⟩,cap,rfl,h1,hbd,.inr ⟨_,rfl,rfl,λi hi=>?_⟩⟩;refine⟨(xs.drop (i*Rep.n α)).take (Rep.n α),⟨cur,e,(0,0),?_,?_,?_⟩,Rep.mono hw (hel i hi)⟩
 ·rw[bR rfl]
 ·rw[bR rfl];rw[hv g rfl];exact hg
 rw[bR rfl,Rep.len (hel i hi)];have hle:i*Rep.n α+Rep.n α<=l.length*Rep.n α:=by rw[<-Nat.succ_mul];exact OE _ hi
 rw[<-h4,Pw,Px];simp only[O7];rw[Pz R3]
theorem OwnT.fresh {h0:Heap} (o:OwnT W h e v l) (hW:W.le (fresh h0 h)) (ha:Av (vw h0) v):SlRd (Lft.fresh h0 h) v l:=by
 refine o.rd hW λb hb=>?_;have:=ha b hb;simp only[vw]at this;have hge:h0.size<=b:=by
  rcases NQ b h0.size with h | h
  ·simp[h]at this
  exact h
 simp only[Lft.fresh,if_neg (Rz.2 hge)]
theorem oh{t:TypeId}{z:Value}{x:Operand}{u:Value}{d:α}(hT:fm P t e (Rep.n α) bytes z)(hx:asg us x=u)(hr:Rd W u d)(hk : ∀u' h',SrcT (vw h') W u' [d]->(vw h).le (vw h')->h'.size=h.size+1->K u' h'):step P (.buildSlice t 1 #[(0,x)]) ty us h K:=by
 have hTT:=hT;obtain⟨ht,⟨i,hi,hz,hsize,hby⟩,hzs,hsz,hsmall⟩:=hT;have hcells:Rep.rd W u.cells.toList d/\u.cells.size=Rep.n α:=by
  unfold Rd at hr;split at hr
  ·obtain⟨cs,rfl,h⟩:=hr;exact⟨h,by rw[<-Rep.len h];rfl⟩
  rename_i ha;have hone:=Rep.one (α:=α) (by simpa using ha);have hfl:=Rep.flat hr u Sa;have:u.cells = #[u]:=by cases u<;>first | rfl | simp[Value.oneCell']at hfl
  rw[this];exact⟨by simpa using hr,by simp[hone]⟩
 have hfill:Instr.fill (λj=>RJ (j*Rep.n α,Rep.n α)) ((Array.range (1*Rep.n α)).map (z.cells[· % z.cells.size]!)) [(0,u)]=RJ u.cells:=by
  have hlen : ∀(A:Array Value) (cs:Array Value),A.size=cs.size->cs.zipIdx.foldl (λcs' (p:Value × Nat)=>cs'.setIfInBounds (0+p.2) p.1) A=cs:=by
   intro A cs hA;have key : ∀(l:List Value) (k:Nat) (B:Array Value),B.size=k+l.length->((l.zipIdx k).foldl (λcs' (p:Value × Nat)=>cs'.setIfInBounds (0+p.2) p.1) B).toList=B.toList.take k++l:=by
    intro l;induction l with
    | nil=>intro k B hB;simp at hB;simp only[List.zipIdx_nil,List.foldl_nil,Pn];rw[NY (by simp[hB])]
    | cons y l ih=>
     intro k B hB;simp only[QN,N8];rw[ih (k+1) _ (by simp at hB ⊢;omega)];simp only[O7,Q0];have hk:k<B.toList.length:=by simp at hB ⊢;omega
     rw[NT (by simpa using hk)];simp[QU]
   rw[<-Array.toList_inj,<-Array.foldl_toList,Array.toList_zipIdx];have:=key cs.toList 0 A (by simpa using hA);simpa using this
  simp only[Instr.fill,P9,O7,Array.size_map,Array.size_range,Rm,hcells.2,ne_eq,not_true,decide_false,Ry,gt_iff_lt,Nat.lt_irrefl];simp only[Pp,if_false];congr 1;have:=hlen ((Array.range (Rep.n α)).map (z.cells[· % z.cells.size]!)) u.cells (by simp[hcells.2]);simpa using this
 refine pN ht hi hz hsize R3 (vs:=[(0,u)]) (by simp[hx]) hfill (hk _ _ ?_ (bM _ _) Sa);refine⟨RJ ⟨h.size,0,RK⟩,1,rfl,(λh=>by cases h),u.cells.toList,by simp[hcells.2],?_,?_⟩
 ·intro ad e j x hx;cases e;rw[bR rfl];simp only[an,vw,Qw];simpa using hx
 intro i hi';simp only[OX,Qy,O7,Nat.lt_one_iff]at hi';subst hi';have:(u.cells.toList.take (Rep.n α))=u.cells.toList:=by rw[NY];simp[hcells.2]
 simpa[this]using hcells.1
theorem mH{t:TypeId}{z:Value}{x:Operand}{k:IntKind}{d:α}(hT:fm P t e (Rep.n α) bytes z)(hx:asg us x = .int k n)(hy:asg us y = .int k n)(hr:Rep.rd W z.cells.toList d)(hb:bytes*n<=140737488355328)(hb2:n<=140737488355328)(hk : ∀v' h',OwnT W h' e v' (List.replicate n d)->lE h h' (RL RK 0 0) v'->(vw h).le (vw h')->v'.ownBlock=RJ h.size->K v' h'):step P (.makeSlice t x y) ty us h K:=by
 obtain⟨ht,⟨i,hi,hz,hsize,hby⟩,hzs,hsz,hsmall⟩:=hT;refine du (cK λw hw=>?_);subst hw;have hrun:=run_make (P:=P) w t e i z ht hi hz k k (n:Int) (n:Int) R3 (QB _) (by
  rw[hby];have:((bytes*n:Nat):Int)<=281474976710656:=by omega
  rwa [Int.natCast_mul]at this) R3;simp only[Ow]at hrun;refine⟨RL (RJ ⟨w.heap.size,0,RK⟩) n n,w.alloc (.cells (madeCells z.cells (n*i.size)) e),?_,iX _ _,hk _ _ ?_ ⟨Kept.push _ _ _,.inr rfl⟩ (bM _ _) rfl⟩
 ·simp only[bT,execOp,hx,hy];simp[hrun]
 refine⟨by simpa using hb2,((madeCells z.cells (n*Rep.n α)).toList.take (n*Rep.n α)),⟨by simp[size_madeCells],.inr ⟨w.heap.size,n,madeCells z.cells (n*Rep.n α),by simp,?_,by simp,by simp only[maxLen];omega,by simp[size_madeCells],by simp⟩⟩,?_⟩
 ·rw[hsize];exact heap_alloc_new w _
 intro j hj;simp only[OO]at hj;have he:((((madeCells z.cells (n*Rep.n α)).toList.take (n*Rep.n α)).drop (j*Rep.n α)).take (Rep.n α))=z.cells.toList:=by
  have h1:j*Rep.n α+Rep.n α<=n*Rep.n α:=by rw[<-Nat.succ_mul];exact OE _ hj
  refine Ps ?_ λm hm1 hm2=>?_
  ·simp[size_madeCells,hzs];omega
  simp only[OT,OM]at hm1;simp only[List.getElem_take,QF,madeCells,Array.toList_map,List.getElem_map,Array.toList_range,List.getElem_range];have hm:m<z.cells.size:=by simpa using hm2
  have hmod:(j*Rep.n α+m) % z.cells.size=m:=by rw[hzs,Nat.mul_comm,Nat.mul_add_mod];exact Nat.mod_eq_of_lt R3
  rw[hmod];simp[hm]
 rw[he];simpa using hr
theorem sF{t:TypeId}{x:Operand}{i:Nat}{u:Value}{d:α}(hsz:df P t=RJ (Rep.n α))(hx:asg us x = RM (RJ ((slA v).add (i*Rep.n α))))(hy:asg us y=u)(ho:OwnT W h e v l)(hi:i<l.length)(hr:Rd W u d)(hk : ∀h',OwnT W h' e v (l.set i d)->lE h h' v v->K undef h'):step P (.store t x y) ty us h K:=by
 have hcells:Rep.rd W u.cells.toList d/\u.cells.size=Rep.n α:=by
  unfold Rd at hr;split at hr
  ·obtain⟨cs,rfl,h⟩:=hr;exact⟨h,by rw[<-Rep.len h];rfl⟩
  rename_i ha;have hone:=Rep.one (α:=α) (by simpa using ha);have hfl:=Rep.flat hr u Sa;have:u.cells = #[u]:=by cases u<;>first | rfl | simp[Value.oneCell']at hfl
  rw[this];exact⟨by simpa using hr,by simp[hone]⟩
 obtain⟨hbd,xs,⟨hxl,hown⟩,hel⟩:=ho;refine du (qX λw hw=>?_);subst hw;rcases hown with⟨rfl,hn⟩ | ⟨g,cap,cur,rfl,hg,h1,h2,h3,h4⟩
 ·omega
 have hle:i*Rep.n α+Rep.n α<=l.length*Rep.n α:=by rw[<-Nat.succ_mul];exact OE _ hi
 have hcap:l.length*Rep.n α<=cap*Rep.n α:=OE _ h1;have hlen:u.cells.toList.length=Rep.n α:=by simpa using hcells.2
 have hrun:=run_storeCells_at P g (i*Rep.n α) e u.cells.toList 0 cur w hg (by simp only[Nat.add_zero];omega) (λc hc=>Rep.flat hcells.1 c hc);have hadd:(slA (RL (RJ ⟨g,0,RK⟩) l.length cap)).add (i*Rep.n α)=⟨g,i*Rep.n α,RK⟩:=by show(⟨g,0,RK⟩:Addr).add _=_;rw[bR rfl];simp
 have hszr:=run_sizeOf (P:=P) (w:=w) hsz;obtain⟨row,hrow⟩ : ∃row:Array Value,row.toList=cur.toList.take (i*Rep.n α)++u.cells.toList++cur.toList.drop (i*Rep.n α+Rep.n α):=⟨(cur.toList.take (i*Rep.n α)++u.cells.toList++cur.toList.drop (i*Rep.n α+Rep.n α)).toArray,rfl⟩;have hrun':Sem.run P (storeCells ⟨g,i*Rep.n α,RK⟩ u.cells.toList) w = .ok () (w.setRow g row):=by rw[hrun];congr 2;rw[<-Array.toList_inj,hrow,hlen];rfl
 have hrsz:row.size=cap*Rep.n α:=by have:=congrArg List.length hrow;simp only[PO,N1,OT,OM,hcells.2]at this;omega
 refine⟨w.setRow g row,?_,Same.sL rfl rfl rfl Sa hg Sa (λk _ hne=>setRow_other w g k _ (λe=>hne e)),hk (w.setRow g row).heap ⟨by simpa using hbd,xs.take (i*Rep.n α)++u.cells.toList++xs.drop (i*Rep.n α+Rep.n α),⟨?_,.inr ⟨g,cap,row,by simp,setRow_heap w g cur row e _ hg,by simpa using h1,h2,?_,?_⟩⟩,?_⟩ ⟨⟨by simp,λk hk hne=>setRow_other w g k _ (λe=>hne (by simp[Value.ownBlock,e]))⟩,.inl rfl⟩⟩
 ·simp only[bT,execOp,hx,hy,hadd];simp[Instr.storeAt,Instr.sureAddr,storeVar,hszr,hcells.2,hrun']
 ·simp only[N1,OT,OM,hlen,OH];omega
 ·exact hrsz
 ·simp only[OH];rw[hrow,<-h4,Px,Pz R3,N2,N2];have e1:(cur.toList.take (i*Rep.n α)).length=i*Rep.n α:=by simp;omega
  rw[PF,e1,NY R3];congr 1;rw[PF,hlen,NY R3];congr 1;rw[Pw];congr 1;omega
 intro j hj;simp only[OH]at hj;have hjle:j*Rep.n α+Rep.n α<=l.length*Rep.n α:=by rw[<-Nat.succ_mul];exact OE _ hj
 have e1:(xs.take (i*Rep.n α)).length=i*Rep.n α:=by simp;omega
 by_cases hij:i=j
 ·subst hij;rw[N2,PS,e1,OL R3,OW,QG,PH,OS R3,NY R3];simpa using hcells.1
 have hset:(l.set i d)[j]'(by simpa using hj)=l[j]:=by simp[hij]
 rw[hset];have:((xs.take (i*Rep.n α)++u.cells.toList++xs.drop (i*Rep.n α+Rep.n α)).drop (j*Rep.n α)).take (Rep.n α)=(xs.drop (j*Rep.n α)).take (Rep.n α):=by
  rcases NQ j i with hlt | hge
  ·have h5:j*Rep.n α+Rep.n α<=i*Rep.n α:=by rw[<-Nat.succ_mul];exact OE _ hlt
   rw[N2,O3 R3,OS R9,Pw,Px,Pz R3]
  have h5:i*Rep.n α+Rep.n α<=j*Rep.n α:=by rw[<-Nat.succ_mul];exact OE _ R3
  have e2:(xs.take (i*Rep.n α)++u.cells.toList).length=i*Rep.n α+Rep.n α:=by rw[N1,e1,hlen]
  rw[PS,OL R3,OW,e2,PR];congr 2;omega
 rw[this];exact hel j hj
end
end
section
variable {po po2 po3:OP} {pp:PP}
def up {β:Type} (f:Nat->β->β):Nat->β->β
 | 0,x=>x
 | k+1,x=>f k (up f k x)
def Old (V:View) (h0:Heap) (W:View):Prop:=∀b o,b<h0.size->W b=RJ o->V b=RJ o
theorem Old.refl(V:View)(h0:Heap):Old V h0 V:=λ_ _ _ h=>h
theorem Old.nothing (V:View) (h0:Heap):Old V h0 nothing:=λ_ _ _ h=>by cases h
theorem Old.grow {V W:View} {h0 h1 h2:Heap} (o:Old V h0 W) (hs:h0.size<=h1.size):Old V h0 (grow W h1 h2):=λb x hb hx=>by unfold Lft.grow at hx;rw[if_pos R3]at hx;exact o b x hb hx
theorem Old.le {V W:View} {h0 h:Heap} (o:Old V h0 W) (hw:W.le (vw h)):W.le (Lft.grow V h0 h):=λb x hx=>by
 unfold Lft.grow;split
 ·exact o b x (by assumption) hx
 exact hw b x hx
variable{H:View}
@[simp] theorem bO:nothing.le H:=λ_ _ h=>by cases h
theorem GM(h h':Heap):fresh h h'=Lft.grow nothing h h':=by funext b;unfold fresh Lft.grow;rfl
section
variable {α:Type} [Rep α] {V W:View} {h0 h h':Heap} {e:TypeId} {v:Value} {l:List α}
theorem OwnT.lt(o:OwnT W h e v l){b:Nat}(hb:v.ownBlock=RJ b):b<h.size:=by
 obtain⟨_,xs,⟨_,hown⟩,_⟩:=o;rcases hown with⟨rfl,_⟩ | ⟨g,cap,cur,rfl,hg,_⟩
 ·simp[Value.ownBlock]at hb
 simp only[Value.ownBlock,NN]at hb;subst hb;exact(NV.1 hg).1
theorem OwnT.now(o:OwnT W h e v l)(hw:W.le (vw h)):SlRd (vw h) v l:=o.rd hw λ_ _=>rfl
theorem OwnT.grown(o:OwnT W h e v l)(hw:W.le (vw h))(ho:Old V h0 W)(ha:Av (vw h0) v):SlRd (Lft.grow V h0 h) v l:=by
 refine o.rd (ho.le hw) λb hb=>?_;have:=ha b hb;simp only[vw]at this;have hge:h0.size<=b:=by
  rcases NQ b h0.size with h | h
  ·simp[h]at this
  exact h
 simp only[Lft.grow,if_neg (Rz.2 hge)]
theorem Av.grow (ha:Av W v) (hl : ∀b,v.ownBlock=RJ b->b<h.size):Av (Lft.grow W h h') v:=λb hb=>by unfold Lft.grow;rw[if_pos (hl b hb)];exact ha b hb
structure Mine (V:View) (h0 h:Heap) (W:View) (e:TypeId) (v:Value) (l:List α):Prop where
 old:(vw h0).le (vw h)
 wle:W.le (vw h)
 av:Av W v
 av0:Av (vw h0) v
 agree:Old V h0 W
 own:OwnT W h e v l
theorem Mine.start(hV:V.le (vw h)):Mine (α:=α) V h h V e (RL RK 0 0) []:=
 ⟨View.le_refl _,hV,Av.nil _ _ _,Av.nil _ _ _,Old.refl _ _,OwnT.nil ..⟩
theorem Mine.ext (m:Mine V h0 h W e v l) (k:(vw h).le (vw h')):Mine V h0 h' (Lft.grow W h h') e v l:=
 ⟨RE m.old k,gU (RE m.wle k),m.av.grow λ_ hb=>m.own.lt hb,m.av0,m.agree.grow (cw m.old),(m.own.ext k).mono (aW m.wle)⟩
theorem Mine.ext'(m:Mine V h0 h W e v l)(k:(vw h).le (vw h')):Mine V h0 h' W e v l:=
 ⟨RE m.old k,RE m.wle k,m.av,m.av0,m.agree,m.own.ext k⟩
theorem Mine.result(m:Mine V h0 h W e v l):SlRd (Lft.grow V h0 h) v l:=m.own.grown m.wle m.agree m.av0
theorem Mine.fresh (m:Mine nothing h0 h W e v l):SlRd (Lft.fresh h0 h) v l:=by rw[GM];exact m.result
theorem Mine.now (m:Mine V h0 h W e v l):SlRd (vw h) v l:=m.own.now m.wle
theorem Mine.iH{v':Value}{l':List α}(m:Mine V h0 h W e v l)(o:OwnT W h' e v' l')(k:lE h h' v v'):Mine V h0 h' W e v' l':=
 let ⟨a1,a2⟩:=k.view m.wle m.av
 let ⟨b1,b2⟩:=k.view m.old m.av0
 ⟨b1,a1,a2,b2,m.agree,o⟩
variable{P:Program}{ty ty2:TypeId}{bytes:Nat}{y:Operand}{us:List (Nat × Value)}{us2:Value->List (Nat × Value)}
theorem Mine.push{t:TypeId}{z:Value}{x y2:Operand}{u:Value}{d:α}{K:Value->Value->Heap->Prop}(m:Mine V h0 h W e v l)(hT:fm P t e (Rep.n α) bytes z)(hx:asg us x=u)(hr:Rd W u d)(hb:(l.length+1)*bytes<=140737488355328)(hb2:l.length+1<=140737488355328)(hy : ∀u,asg (us2 u) y=v)(hy2 : ∀u,asg (us2 u) y2=u)(hk : ∀u v' h',Mine V h0 h' W e v' (l++[d])->K u v' h'):
  @step po P (.buildSlice t 1 #[(0,x)]) ty us h λu h2=>@step po2 P (.call ⟨.builtin .append,#[y,y2],#[t,t]⟩) ty2 (us2 u) h2 λv' h3=>K u v' h3:=by refine oh hT hx hr λu h2 hs hle _=>?_;have m2:=m.ext' hle;exact dU hT (hy u) (hy2 u) m2.own hs hb hb2 λv' h3 ho hm=>hk u v' h3 (m2.iH ho hm)
variable{n:Nat}{K:Value->Heap->Prop}
theorem Mine.made{t:TypeId}{z:Value}{x:Operand}{k:IntKind}{d:α}(hT:fm P t e (Rep.n α) bytes z)(hle:(vw h0).le (vw h))(hW:W.le (vw h))(ho:Old V h0 W)(hx:asg us x = .int k n)(hy:asg us y = .int k n)(hr:Rep.rd W z.cells.toList d)(hb:bytes*n<=140737488355328)(hb2:n<=140737488355328)(hk : ∀v' h',Mine V h0 h' W e v' (List.replicate n d)->(vw h).le (vw h')->v'.ownBlock=RJ h.size->K v' h'):step P (.makeSlice t x y) ty us h K:=
 mH hT hx hy hr hb hb2 λv' h' ow mv le hb=>hk v' h' ⟨RE hle le,RE hW le,λb hb'=>by rw[hb]at hb';cases hb';exact View.cM hW (NO _),λb hb'=>by rw[hb]at hb';cases hb';exact View.cM hle (NO _),ho,ow⟩ le hb
theorem Mine.put{t:TypeId}{x:Operand}{i:Nat}{u:Value}{d:α}(m:Mine V h0 h W e v l)(hsz:df P t=RJ (Rep.n α))(hx:asg us x = RM (RJ ((slA v).add (i*Rep.n α))))(hy:asg us y=u)(hi:i<l.length)(hr:Rd W u d)(hk : ∀h',Mine V h0 h' W e v (l.set i d)->K undef h'):step P (.store t x y) ty us h K:=
 sF hsz hx hy m.own hi hr λh' ho hm=>hk h' (m.iH ho hm)
theorem Mine.put1{t:TypeId}{x:Operand}{i:Nat}{u:Value}{d:α}(m:Mine V h0 h W e v l)(hsz:df P t=RJ (Rep.n α))(hn:Rep.n α=1)(hx:asg us x = RM (RJ ((slA v).add i)))(hy:asg us y=u)(hi:i<l.length)(hr:Rd W u d)(hk : ∀h',Mine V h0 h' W e v (l.set i d)->K undef h'):step P (.store t x y) ty us h K:=
 m.put hsz (i:=i) (by rw[hn,OR];exact hx) hy hi hr hk
end
variable{β:Type}
theorem FA{f:Nat->List β->List β}{m:Nat}(hf : ∀k x,(f k x).length<=x.length+m)(n:Nat)(x:List β):(up f n x).length<=x.length+n*m:=by
 induction n with
 | zero=>simp[up]
 | succ n ih=>have:=hf n (up f n x);rw[up,OZ];omega
def sift {β:Type} (p:Nat->Bool) (x:Nat->β) (n:Nat):List β:=up (λb l=>if p b then l++[x b] else l) n []
theorem qy{p:Nat->Bool}{x:Nat->β}(n:Nat):(sift p x n).length<=n:=by have:=FA (f:=λb l=>if p b then l++[x b] else l) (m:=1) (λk x=>by split<;>simp) n [];simpa[sift]using this
variable{n:Nat}
theorem oI{p:Nat->Bool}{x:Nat->β}(h:p n=RN):sift p x (n+1)=sift p x n++[x n]:=by rw[sift,up,if_pos h];rfl
theorem nb{p:Nat->Bool}{x:Nat->β}(h:p n=RO):sift p x (n+1)=sift p x n:=by rw[sift,up,if_neg (by simp[h])];rfl
def rows {β:Type} (x:Nat->β) (n:Nat):List β:=(List.range n).map x
theorem e9{x:Nat->β}:rows x (n+1)=rows x n++[x n]:=by simp[rows,P2]
@[simp] theorem nv{x:Nat->β}:(rows x n).length=n:=by simp[rows]
@[simp] theorem LW{x:Nat->β}:rows x 0=[]:=rfl
@[simp] theorem L6{p:Nat->Bool}{x:Nat->β}:sift p x 0=[]:=rfl
theorem rj{p:Nat->Bool}{x:Nat->β}:sift p x n=((List.range n).filter p).map x:=by
 induction n with
 | zero=>rfl
 | succ n ih=>
  rw[P2,Q1,PY,<-ih];cases h:p n with
  | true=>rw[oI h];simp[h]
  | false=>rw[nb h];simp[h]
theorem tx{x:Nat->β}{d:β}{k:Nat}(hk:k<n):(rows x k++List.replicate (n-k) d).set k (x k)=rows x (k+1)++List.replicate (n-(k+1)) d:=by
 have e:n-k=(n-(k+1))+1:=by omega
 rw[List.set_append_right _ _ Sa,nv,QG,e,List.replicate_succ,List.set_cons_zero,e9,N2];rfl
theorem gG[Inhabited β]{x:Nat->β}{i:Nat}(h:i<n):nth (rows x n) i=x i:=by rw[aA (by simpa using h)];simp[rows]
theorem xK{h h1 h2:Heap}(hle:(vw h).le (vw h1)):(fresh h1 h2).le (fresh h h2):=λb o hb=>by
 have:=cw hle;unfold fresh at hb ⊢;split at hb
 ·cases hb
 rw[if_neg R3];exact hb
variable{P:Program}{size bytes:Nat}
theorem ig{t e:Nat}{z:Value}(ht:P.underlying t=RJ (.slice e))(h:(P.info? e).map (λi=>(i.zero,i.size,i.bytes))=RJ (RJ z,size,bytes))(hz:z.cells.size=size)(hs:0<size/\size<=1000):fm P t e size bytes z:=by simp only[NR,Pu]at h;obtain⟨i,h1,h2,h3,h4⟩:=h;exact⟨ht,⟨i,h1,h2,h3,h4⟩,hz,hs.1,hs.2⟩
theorem pZ{a:Int}(h0:-9223372036854775808<=a)(h1:a<=9223372036854775807):Rd H (RG RH a) a:=bg.2 ⟨rfl,h0,h1⟩
variable{b:Bool}
theorem JB:Rd H (.bool b) b:=wQ.2 rfl
end
section
variable {po:OP} {pp:PP}
variable{ρ:Env}
theorem ag{ts:List Nat}{u:Nat}:look (bY ρ ts) u=if ts.contains u then RK else look ρ u:=by
 induction ρ with
 | nil=>simp
 | cons p ρ ih=>
  obtain⟨k,x⟩:=p;rw[mQ];by_cases hk:ts.contains k=RN
  ·simp only[hk,if_true,ih,uI];split
   ·rfl
   rename_i h;split
   ·rename_i e;subst e;exact absurd hk h
   rfl
  rw[if_neg hk,uI,uI,ih];by_cases h1:k=u
  ·subst h1;rw[if_pos rfl,if_pos rfl,if_neg hk]
  rw[if_neg h1,if_neg h1]
theorem oy {ρ ρ':Env} : ∀{ks:List Nat},(∀t∈ks,look ρ t=look ρ' t)->bF ks ρ=bF ks ρ'
 | [],_=>rfl
 | k::ks,h=>by have ih:bF ks ρ=bF ks ρ':=oy λt ht=>h t (NZ _ ht);simp only[bF,h k NX,ih]
theorem mZ{ts:List Nat}(h : ∀p∈ρ,ts.contains p.1=RO):bY ρ ts=ρ:=by
 induction ρ with
 | nil=>rfl
 | cons p ρ ih=>obtain⟨k,x⟩:=p;have h1:=h (k,x) NX;simp only at h1;rw[mQ,h1,if_neg Sa,ih (λp hp=>h p (NZ _ hp))]
theorem ni{t:Nat}{v:Value}(h : ∀p∈ρ,p.1≠t):bY (setE ρ t v) [t]=ρ:=by
 have hid:bY ρ [t]=ρ:=mZ λp hp=>by simpa using λe=>h p hp e
 induction ρ with
 | nil=>simp[setE]
 | cons p ρ ih=>
  obtain⟨k,x⟩:=p;have hk:=h (k,x) NX;simp only at hk;have hid2:bY ρ [t]=ρ:=mZ λp hp=>by simpa using λe=>h p (NZ _ hp) e
  simp only[setE,if_neg hk];split
  ·rw[mQ,if_pos Sa,hid]
  rw[mQ,if_neg (by simpa using hk),ih (λp hp=>h p (NZ _ hp)) hid2]
theorem nH{X Y:Env->Heap->Prop}{R:Post}:eU X (eU Y R)=eU X R:=by funext e ρ h;cases e<;>rfl
abbrev forL (a i c:Nat) (ks ks2:List Nat) (bound:E) (body:LC):LC:=
 .loop (.seq (.seq (.reg RO (.fin ks [(c,.bin (.cmp .lss) (.tmp i) bound)] [])) (.cond (.tmp c) [c] .skip (.exit a)))
  (.seq body (.reg RO (.fin ks2 [(i,.bin (.arith .add) (.tmp i) (.con (RG RH 1)))] []))))
def vU (kp ks ks2:List Nat) (c i:Nat):Bool:=kp.all λt=>!ks.contains t&&t != c&&(t == i||!ks2.contains t)
theorem zip_fst{kp:List Nat}{vs:List Value}{p:Nat × Value}(h:p∈kp.zip vs):p.1∈kp:=(List.of_mem_zip h).1
variable{P:Program}{Q:Post}{body:LC}
theorem bX{h:Heap}{a i c:Nat}{ks ks2:List Nat}{bound:E}{σ:Type}(kp:List Nat)(vals:σ->Nat->List Value)(J:σ->Nat->Heap->Prop)(n:Nat)(s0:σ)(hok:vU kp ks ks2 c i=RN)(hn:n<=9223372036854775806)(h0:bF kp ρ=kp.zip (vals s0 0))(hj:J s0 0 h)(hi : ∀s k,look (kp.zip (vals s k)) i=RJ (RG RH k))(hb : ∀s k h,k<=n->J s k h->ev (look (kp.zip (vals s k))) (vw h) bound=RJ (RG RH n))(round : ∀s k h,k<n->J s k h->∀K:Env->Heap->Prop,(∀s' ρ' h',look ρ' i=RJ (RG RH k)->bF kp (setE ρ' i (RG RH ((k:Int)+1)))=kp.zip (vals s' (k+1))->J s' (k+1) h'->K ρ' h')->body.wp P (eU K (fe a Q)) (kp.zip (vals s k)) h)(done : ∀s h,J s n h->Q .normal (kp.zip (vals s n)) h):LC.wp P (forL a i c ks ks2 bound body) (fe a Q) ρ h:=by
 simp only[vU,OJ,NS,Pl,bne_iff_ne,OV,beq_iff_eq,ne_eq]at hok;refine gY kp (λm ρ h=>∃s k,k<=n/\ρ=kp.zip (vals s k)/\m=n-k/\J s k h) n ⟨s0,0,by omega,h0,by omega,hj⟩ ?_;rintro m ρ h ⟨s,k,hk,rfl,rfl,hJ⟩ K hK;have hkill:bY (kp.zip (vals s k)) ks=kp.zip (vals s k):=mZ λp hp=>(hok p.1 (zip_fst hp)).1.1;have hne : ∀p∈kp.zip (vals s k),p.1≠c:=λp hp=>(hok p.1 (zip_fst hp)).1.2;have hk2 : ∀v,bY (setE (kp.zip (vals s k)) c v) [c]=kp.zip (vals s k):=λv=>ni hne;have hlk : ∀v,look (setE (kp.zip (vals s k)) c v) c=RJ v:=λv=>by rw[af,if_pos rfl]
 simp only[pF,kF,jX,iu,lF,nZ,mL,lT,hi,hb s k h hk hJ,Ov,Gt,km,nS,true_and,dx,hkill,fQ,lI,hlk,mw,hk2,tO,sY,oX,oU,if_true];refine⟨λhlt=>?_,λhge=>?_⟩
 ·have hlt':k<n:=by omega
  rw[nH];refine round s k h hlt' hJ _ λs' ρ' h' hl he hJ'=>?_;simp only[kF,jX,iu,lF,nZ,mL,lT,hl,nS,true_and,Ov,Ab,Ov,AP,km,dx,fQ,true_and];rw[bh R3 R3];refine hK (n-(k+1)) _ _ R3 ⟨s',k+1,by omega,?_,rfl,hJ'⟩;rw[<-he];refine oy λt ht=>?_;rw[af,af,ag];split
  ·rfl
  rename_i hti;rcases(hok t ht).2 with e | e
  ·exact absurd e.symm hti
  rw[e];rfl
 have:k=n:=by omega
 subst this;exact done s h hJ
abbrev forR (a i c:Nat) (ks ks2:List Nat) (bound:E) (body:LC):LC:=
 .loop (.seq (.reg RO (.fin ks [(c,.bin (.cmp .lss) (.tmp i) bound)] [])) (.seq (.cond (.tmp c) [c] .skip (.exit a))
  (.seq body (.reg RO (.fin ks2 [(i,.bin (.arith .add) (.tmp i) (.con (RG RH 1)))] [])))))
theorem aV{h:Heap}{a i c:Nat}{ks ks2:List Nat}{bound:E}{σ:Type}(kp:List Nat)(vals:σ->Nat->List Value)(J:σ->Nat->Heap->Prop)(n:Nat)(s0:σ)(hok:vU kp ks ks2 c i=RN)(hn:n<=9223372036854775806)(h0:bF kp ρ=kp.zip (vals s0 0))(hj:J s0 0 h)(hi : ∀s k,look (kp.zip (vals s k)) i=RJ (RG RH k))(hb : ∀s k h,k<=n->J s k h->ev (look (kp.zip (vals s k))) (vw h) bound=RJ (RG RH n))(round : ∀s k h,k<n->J s k h->∀K:Env->Heap->Prop,(∀s' ρ' h',look ρ' i=RJ (RG RH k)->bF kp (setE ρ' i (RG RH ((k:Int)+1)))=kp.zip (vals s' (k+1))->J s' (k+1) h'->K ρ' h')->body.wp P (eU K (fe a Q)) (kp.zip (vals s k)) h)(done : ∀s h,J s n h->Q .normal (kp.zip (vals s n)) h):LC.wp P (forR a i c ks ks2 bound body) (fe a Q) ρ h:=by
 simp only[vU,OJ,NS,Pl,bne_iff_ne,OV,beq_iff_eq,ne_eq]at hok;refine gY kp (λm ρ h=>∃s k,k<=n/\ρ=kp.zip (vals s k)/\m=n-k/\J s k h) n ⟨s0,0,by omega,h0,by omega,hj⟩ ?_;rintro m ρ h ⟨s,k,hk,rfl,rfl,hJ⟩ K hK;have hkill:bY (kp.zip (vals s k)) ks=kp.zip (vals s k):=mZ λp hp=>(hok p.1 (zip_fst hp)).1.1;have hne : ∀p∈kp.zip (vals s k),p.1≠c:=λp hp=>(hok p.1 (zip_fst hp)).1.2;have hk2 : ∀v,bY (setE (kp.zip (vals s k)) c v) [c]=kp.zip (vals s k):=λv=>ni hne;have hlk : ∀v,look (setE (kp.zip (vals s k)) c v) c=RJ v:=λv=>by rw[af,if_pos rfl]
 simp only[pF,kF,jX,iu,lF,nZ,mL,lT,hi,hb s k h hk hJ,Ov,Gt,km,nS,true_and,dx,hkill,fQ,lI,hlk,mw,hk2,tO,sY,oX,oU,if_true];refine⟨λhlt=>?_,λhge=>?_⟩
 ·have hlt':k<n:=by omega
  rw[nH];refine round s k h hlt' hJ _ λs' ρ' h' hl he hJ'=>?_;simp only[kF,jX,iu,lF,nZ,mL,lT,hl,nS,true_and,Ov,Ab,Ov,AP,km,dx,fQ,true_and];rw[bh R3 R3];refine hK (n-(k+1)) _ _ R3 ⟨s',k+1,by omega,?_,rfl,hJ'⟩;rw[<-he];refine oy λt ht=>?_;rw[af,af,ag];split
  ·rfl
  rename_i hti;rcases(hok t ht).2 with e | e
  ·exact absurd e.symm hti
  rw[e];rfl
 have:k=n:=by omega
 subst this;exact done s h hJ
theorem aH{h:Heap}{r:Reg}(H:View)(hH:H.le (vw h))(hw:eW P (RJ H) r (Q .normal) ρ h):LC.wp P (.reg RN r) Q ρ h:=⟨H,View.ym hH,jW (λ_ _=>View.ym) hw⟩
theorem Ge{h:Heap}{r:Reg}(H:View)(hH:H.sub (vw h))(hw:cY View.sub P (RJ H) r (Q .normal) ρ h):LC.wp P (.reg RN r) Q ρ h:=⟨H,hH,hw⟩
end
section
variable {po po2 po3:OP} {pp:PP}
variable{n:Nat}
@[simp] theorem HJ{b o:Nat}:(⟨b,o,RK⟩:Addr).add n=⟨b,o+n,RK⟩:=bR rfl n
variable{H:View}
@[simp] theorem LV{a:Addr}:Un.ev H .nilPtr (RM (RJ a))=RJ (RM (RJ a)):=rfl
@[simp] theorem ND{a:Addr}{o:Nat}:Un.ev H (.fld o) (RM (RJ a))=RJ (RM (RJ (a.add o))):=rfl
@[simp] theorem MR{k q:IntKind}{a:Int}:Un.ev H (.conv k) (.int q a)=RJ (.int k (k.wrap a)):=rfl
variable{cs:Array Value}
@[simp] theorem M6{o:Nat}:Un.ev H (.part o) (.agg cs)=cs[o]?:=rfl
@[simp] theorem MQ{o:Nat}:Un.ev H (.parts o n) (.agg cs)=RJ (.agg (cs.extract o (o+n))):=rfl
@[simp] theorem Ny{o:Nat}:Un.ev H (.ext o) (.tuple cs)=cs[o]?:=rfl
def Kd:Value->Value->Option Value
 | .tuple vs,u=>RJ (.tuple (vs.push u))
 | _,_=>RK
@[simp] theorem Kq{vs:Array Value}{u:Value}:Kd (.tuple vs) u=RJ (.tuple (vs.push u)):=rfl
@[simp] theorem Lj{σ:Nat->Option Value}{x y:E}:ev σ H (.snoc x y)=(ev σ H x).bind λv=>(ev σ H y).bind λu=>Kd v u:=by
 simp only[ev];cases hx:ev σ H x with
 | none=>rfl
 | some v=>
  cases hy:ev σ H y with
  | none=>cases v<;>rfl
  | some u=>cases v<;>rfl
@[simp] theorem NK{f:Nat}{vs:Array Value}:Un.ev H (.fn f) (.tuple vs)=RJ (.func (.func f) #[] vs):=rfl
@[simp] theorem Mb:(Value.agg cs).cells=cs:=rfl
@[simp] theorem KI{a:Option Addr}{c:Nat}:(Value.slice a n c).cells = #[.slice a n c]:=rfl
@[simp] theorem L5{k:IntKind}{n:Int}:(RG k n).cells = #[.int k n]:=rfl
variable{b:Bool}
@[simp] theorem LO:(Value.bool b).cells = #[.bool b]:=rfl
@[simp] theorem IC{a:Option Addr}:(Value.pointer a).cells = #[.pointer a]:=rfl
def EJ (P:Program) (t:TypeId):Option (List (Nat × Nat)):=
 match P.underlying t with
 | some (.struct fields)=>fields.toList.mapM λf=>(df P f.type).map λn=>(f.offset,n)
 | some (.array k e)=>(df P e).map λn=>(List.range k).map λi=>(i*n,n)
 | _=>RK
section
variable {P:Program} {ty:TypeId} {us:List (Nat × Value)} {h:Heap} {K:Value->Heap->Prop}
theorem zv {f g:Nat->Option (Nat × Nat)} (hfg : ∀i p,f i=RJ p->g i=RJ p) : ∀{vs:List (Nat × Value)} {c cs:Array Value},Instr.fill f c vs=RJ cs->Instr.fill g c vs=RJ cs
 | [],c,cs,h=>h
 | (i,v)::vs,c,cs,h=>by
  simp only[Instr.fill]at h ⊢;split at h
  ·cases h
  rename_i off size hi;rw[hfg i _ hi];simp only;split at h
  ·cases h
  rename_i hc;rw[if_neg hc];exact zv hfg h
theorem run_places {w:World} : ∀{fs:List Field} {ps:List (Nat × Nat)},(fs.mapM λf=>(df P f.type).map λn=>(f.offset,n))=RJ ps->
  (fs.mapM fun(f:Field)=>Prod.mk f.offset <$> sizeOf f.type).run P w=Result.ok ps w
 | [],ps,h=>by simp at h;subst h;simp
 | f::fs,ps,h=>by simp only[Rv,Option.bind_eq_bind,N0,NR]at h;obtain⟨p,⟨n,hn,rfl⟩,ps',h2,h3⟩:=h;simp only[Option.pure_def,NN]at h3;subst h3;have ih:=run_places (w:=w) h2;simp[Rv,Sem.run_bind,run_sizeOf hn,ih]
theorem ak{t:TypeId}{ps:Array (Nat × Operand)}{vs:List (Nat × Value)}{z:Value}{places:List (Nat × Nat)}(hz:(P.info? t).map (·.zero)=RJ (RJ z))(hpl:EJ P t=RJ places)(hp:ps.map (λp=>(p.1,asg us p.2))=vs.toArray)(hf:Instr.fill (places[·]?) z.cells vs=RJ cs)(hk:K (.agg cs) h):step P (.build t ps) ty us h K:=by
 refine du (cK λw hw=>⟨.agg cs,w,?_,Same.refl _,by rw[hw];exact hk⟩);have hp':(ps.map λx=>match x with | (i,x)=>(i,asg us x))=vs.toArray:=hp;simp only[NR]at hz;obtain⟨i,hi,hz⟩:=hz;simp only[bT,execOp,hp'];unfold EJ at hpl;split at hpl
 ·rename_i fields hu;have hr:=run_places (P:=P) (w:=w) hpl;have hr2:(fields.mapM fun(f:Field)=>Prod.mk f.offset <$> sizeOf f.type).run P w=Result.ok places.toArray w:=by rw[Rk];simp only[Sem.run_map];erw [hr];rfl
  have hf':Instr.fill (places.toArray[·]?) z.cells vs=RJ cs:=by simpa using hf
  simp[Instr.build,zeroValue,typeInfo,hi,hz,run_underlying hu,hr2,hf',hf]
 ·rename_i k e hu;simp only[NR]at hpl;obtain⟨n,hn,rfl⟩:=hpl;have hf':=zv (g:=λi=>RJ (i*n,n)) (λi p hp=>by
   simp only[PD,NR]at hp;obtain⟨j,hj,rfl⟩:=hp;rcases NQ i k with hlt | hge
   ·rw[List.getElem?_range hlt]at hj;cases hj;rfl
   rw[ON (by simpa using hge)]at hj;cases hj) hf;simp[Instr.build,zeroValue,typeInfo,hi,hz,run_underlying hu,run_sizeOf hn,hf']
 cases hpl
variable{size bytes:Nat}
theorem tt{t e:TypeId}{z:Value}{ps:Array (Nat × Operand)}{vs:List (Nat × Value)}(hT:fm P t e size bytes z)(hn:n*size<=16777216)(hp:ps.map (λp=>(p.1,asg us p.2))=vs.toArray)(hf:Instr.fill (λj=>RJ (j*size,size)) ((Array.range (n*size)).map (z.cells[· % z.cells.size]!)) vs=RJ cs)(hk:K (RL (RJ ⟨h.size,0,RK⟩) n n) (h.push (.cells cs e))):step P (.buildSlice t n ps) ty us h K:=by obtain⟨ht,⟨i,hi,hz,hsize,hby⟩,_⟩:=hT;exact pN ht hi hz hsize hn hp hf hk
theorem cZ{t:TypeId}{z:Value}(hz:(P.info? t).map (·.zero)=RJ (RJ z))(hk:K (RM (RJ ⟨h.size,0,RK⟩)) (h.push (.cells z.cells t))):step P (.alloc t) ty us h K:=by simp only[NR]at hz;obtain⟨i,hi,hz⟩:=hz;refine du (cK λw hw=>?_);subst hw;refine⟨_,w.alloc (.cells z.cells t),?_,iX _ _,hk⟩;simp only[bT,execOp];simp[Instr.alloc,zeroValue,typeInfo,hi,hz,newVar,newRow]
theorem cu{t:TypeId}{x:Operand}{v:Value}(hx:asg us x=v)(hk:K (RM (RJ ⟨h.size,0,RK⟩)) (h.push (.cells v.cells t))):step P (.box t x) ty us h K:=by refine du (cK λw hw=>?_);subst hw;refine⟨_,w.alloc (.cells v.cells t),?_,iX _ _,hk⟩;simp only[bT,execOp];simp[Instr.box,hx,newVar,newRow]
variable{y:Operand}
theorem eJ{t e:TypeId}{g o:Nat}{x:Operand}{v:Value}{cur:Array Value}(hsz:df P t=RJ n)(hx:asg us x = RM (RJ ⟨g,o,RK⟩))(hy:asg us y=v)(hv:v.cells.size=n)(h1 : ∀c∈v.cells.toList,c.oneCell'=RN)(hg:h[g]? = RJ (.cells cur e (0,0)))(hfit:o+n<=cur.size)(hk : ∀h':Heap,h'.size=h.size->(∃row:Array Value,h'[g]? = RJ (.cells row e (0,0))/\row.toList=cur.toList.take o++v.cells.toList++cur.toList.drop (o+n))->(∀k,k≠g->h'[k]? = h[k]?)->K undef h'):step P (.store t x y) ty us h K:=by
 refine du (qX λw hw=>?_);subst hw;have hlen:v.cells.toList.length=n:=by simpa using hv
 have hrun:=run_storeCells_at P g o e v.cells.toList 0 cur w hg (by simp only[Nat.add_zero];omega) h1;obtain⟨row,hrow⟩ : ∃row:Array Value,row.toList=cur.toList.take o++v.cells.toList++cur.toList.drop (o+n):=⟨(cur.toList.take o++v.cells.toList++cur.toList.drop (o+n)).toArray,rfl⟩;have hrun':Sem.run P (storeCells ⟨g,o,RK⟩ v.cells.toList) w = .ok () (w.setRow g row):=by rw[hrun];congr 2;rw[<-Array.toList_inj,hrow,hlen];rfl
 refine⟨w.setRow g row,?_,Same.sL rfl rfl rfl Sa hg Sa (λk _ hne=>setRow_other w g k _ (λe=>hne e)),hk _ Sa ⟨row,setRow_heap w g cur row e _ hg,hrow⟩ λk hne=>setRow_other w g k _ (λe=>hne e)⟩;simp only[bT,execOp,hx,hy];simp[Instr.storeAt,Instr.sureAddr,storeVar,run_sizeOf (P:=P) (w:=w) hsz,hv,hrun']
variable{ty2:TypeId}{us2:Value->List (Nat × Value)}
theorem uE{t:TypeId}{z:Value}{x:Operand}{v:Value}{K:Value->Heap->Prop}(hz:(P.info? t).map (·.zero)=RJ (RJ z))(hzc:z.cells.size=1)(hsz:df P t=RJ 1)(hv:v.cells = #[v])(hone:v.oneCell'=RN)(hx : ∀p,asg (us2 p) x=p)(hy : ∀p,asg (us2 p) y=v)(hk : ∀h':Heap,(vw h).le (vw h')->h'.size=h.size+1->h'[h.size]? = RJ (.cells #[v] t (0,0))->K (RM (RJ ⟨h.size,0,RK⟩)) h'):
  @step po P (.alloc t) ty us h λp h2=>@step po2 P (.store t x y) ty2 (us2 p) h2 λ_ h3=>K p h3:=by
 refine cZ hz ?_;refine eJ (g:=h.size) (o:=0) (n:=1) (v:=v) (cur:=z.cells) (e:=t) hsz (hx _) (hy _) (by rw[hv];rfl) (by rw[hv];simpa using hone) Sa R3 λh' hs ⟨row,hrow,he⟩ hoth=>?_;have hrow2:row = #[v]:=by rw[<-Array.toList_inj,he,hv];simp only[PT,OW,O7];rw[OL (by simp[hzc])];rfl
 rw[hrow2]at hrow;refine hk h' (λb o hb=>?_) (by rw[hs];simp) hrow;have hlt:=View.lt (View.le_refl (vw h)) hb;show h'[b]? = _;rw[hoth b R3];exact bM _ _ b o hb
variable{caps:Array Value}
theorem bV{f:FuncId}{t:Nat}{ops:List Operand}{T:Array TypeId}(hf:asg us (.tmp t) = .func (.func f) #[] caps){R:Value->Heap->Prop}(hfn:isFn P f=RN)(hc:az P f (ops.map (asg us)++caps.toList).toArray h R)(hk : ∀v h',R v h'->K v h'):step P (.call ⟨.value (.tmp t),ops.toArray,T⟩) ty us h K:=by
 refine du (sT (R:=R) (f:=f) (args:=(ops.map (asg us)++caps.toList).toArray) (λw _=>?_) hc hk);unfold isFn at hfn;cases hfn':P.funcs[f]? with
 | none=>simp[hfn']at hfn
 | some fn=>simp only[hfn',NS,bne_iff_ne,ne_eq]at hfn;obtain⟨h1,h2⟩:=hfn;simp[bT,execOp,resolve,Deferred.ofValue,hf,invoke,callFunc,program,Sem.run,hfn',h1,Option.isNone];cases hb:fn.body<;>simp[hb]at h2 ⊢
theorem Du{e:TypeId}{w:World}{a b:Int}{ki:IntKind}(he:P.underlying e=RJ (.int ki)):(Op.equalIn (n+1) e (.int ki a) (.int ki b)).run P w = .ok (a == b) w:=by simp[Op.equalIn,run_underlying he]
theorem zg{e:TypeId}{w:World}{o:Nat}{v:Value}(ha:oq P e=RJ RO)(hv:cs[o]? = RJ v):(Go.part e cs o).run P w = .ok v w:=by simp[Go.part,oL ha,hv]
theorem AU{t e:TypeId}{w:World}{a b c d:Int}{ki:IntKind}(hu:P.underlying t=RJ (.array 2 e))(he:P.underlying e=RJ (.int ki))(hs:df P e=RJ 1)(ha:oq P e=RJ RO):
  (Op.equal t (.agg #[.int ki a,.int ki b]) (.agg #[.int ki c,.int ki d])).run P w = .ok (a == c&&b == d) w:=by
 simp only[df,NR]at hs;obtain⟨i,hi,hs⟩:=hs;have hc:P.cellsOf e=1:=by simp[Program.cellsOf,hi,hs]
 show(Op.equalIn (9999+1) t _ _).run P w=_;rw[run_equalIn_array (P:=P) (w:=w) (d:=9999) (xs:=_) (ys:=_) hu hi,hc];have p0 : ∀{x y:Int},(Go.part e #[.int ki x,.int ki y] 0).run P w = .ok (.int ki x) w:=zg ha rfl;have p1 : ∀{x y:Int},(Go.part e #[.int ki x,.int ki y] 1).run P w = .ok (.int ki y) w:=zg ha rfl;simp[P2,Op.eqItems,p0,p1,Du he];by_cases h1:a=c<;>by_cases h2:b=d<;>simp[h1,h2]
end
instance:Rep (Int × Int) where
 n:=2
 agg:=true
 rd:=λ_ cs d=>cs=[RG RH d.1,RG RH d.2]/\(-9223372036854775808<=d.1/\d.1<=9223372036854775807)/\-9223372036854775808<=d.2/\d.2<=9223372036854775807
 mono:=λ_ h=>h
 len:=λh=>by rw[h.1];rfl
 one:=λh=>by cases h
 flat:=λh u hu=>by rw[h.1]at hu;simp at hu;rcases hu with rfl | rfl<;>rfl
 pos:=by decide
 fJ:=λh=>h
theorem rI{v:Value}{d:Int × Int}:Rd H v d↔v = .agg #[RG RH d.1,RG RH d.2]/\(-9223372036854775808<=d.1/\d.1<=9223372036854775807)/\-9223372036854775808<=d.2/\d.2<=9223372036854775807:=by
 simp only[Rd,Rep.agg,Rep.rd,if_true];constructor
 ·rintro⟨cs,rfl,h1,h2⟩;refine⟨?_,h2⟩;congr 1;rw[<-Array.toList_inj,h1]
 rintro⟨rfl,h2⟩;exact⟨_,rfl,rfl,h2⟩
variable{α:Type}
theorem SlRd.idxn[Rep α]{v:Value}{l:List α}(h:SlRd H v l){N:Nat}(hn:Rep.n α=N){k:IntKind}{i:Int}(h0:0<=i)(h1:i<l.length):Bn.ev (.idx N) v (.int k i)=RJ (RM (RJ ((slA v).add (i.toNat*N)))):=by have:=h.idx (k:=k) h0 h1;rw[hn]at this;exact this
theorem SlRd.EA{K:View}{v:Value}{l:List (Int × Int)}(h:SlRd H v l)(hk:H.le K){i:Nat}(hi:i<l.length):an K (((slA v).add (i*2)).add 0)=RJ (RG RH (nth l i).1)/\an K (((slA v).add (i*2)).add 1)=RJ (RG RH (nth l i).2):=by obtain⟨cs,h1,h2⟩:=(h.at hi).mono hk;rw[aA hi];obtain⟨e,_⟩:=h2;subst e;exact⟨gq h1 (i:=0) rfl,gq h1 (i:=1) rfl⟩
end
section
variable {po po2 po3:OP} {pp:PP}
variable{P:Program}{K:Value->Heap->Prop}
theorem C6{s:Sem Next}{l:Nat}{vs:List Value}{h:Heap}{R:Bool->Heap->Prop}(hs : ∀w:World,w.heap=h->s.run P w=(Instr.yield l vs.toArray).run P w)(hy:CX P l vs h R)(hk : ∀b h',R b h'->K (.bool b) h'):iz P s h K:=by intro w hw r o a K' Q' hK hQ;obtain⟨f,tmps,asg,body,h1,h2⟩:=hy w hw;rw[hs w hw,h1];simp only[Oper.uponIn];have h3:RoundIn (Fw r) 0 P l f tmps asg body w _:=h2;refine⟨λh=>by simp[Fw,Fence.wide]at h,h3.mono ?_⟩;rintro e w' ⟨b,rfl,hR,hsame⟩;exact hK _ w' (hk _ _ hR) hsame
variable{ty:TypeId}{us:List (Nat × Value)}
theorem Ix{t l:Nat}{ops:List Operand}{T:Array TypeId}{h:Heap}(hf:asg us (.tmp t) = .func (.yield l) #[] #[]){R:Bool->Heap->Prop}(hy:CX P l (ops.map (asg us)) h R)(hk : ∀b h',R b h'->K (.bool b) h'):step P (.call ⟨.value (.tmp t),ops.toArray,T⟩) ty us h K:=by refine du (C6 (l:=l) (vs:=ops.map (asg us)) (λw _=>?_) hy hk);simp[bT,execOp,resolve,Deferred.ofValue,hf,invoke]
variable{β:Type}{body:LC}{Q:Post}{ρ:Env}
theorem C1{enc:β->List Value}{g:E}{ps:List Nat}{asg:LC}{h:Heap}{gf:Nat}{caps:List Value}{all:List β}{A:β->Env}(V W0:View)(I:Option Exit->Nat->View->Heap->Prop)(hg:ev (look ρ) (vw h) g=RJ (.func (.func gf) #[] caps.toArray))(hf:isFn P gf=RN)(hi:Iter P gf caps V (all.map enc))(hl : ∀x,(enc x).length=ps.length)(hV:V.le W0)(hI : ∀e k,px h.size (I e k))(h0:I RK 0 W0 h)(hasg : ∀x h1,@LC.wp noPP P asg (λe ρ1 h2=>e = .normal/\h2=h1/\ρ1=A x) (dx ρ (ps.zip (enc x))) h1)(round : ∀k x W h1,(∀b,b<h.size->W b=W0 b)->all[k]? = RJ x->I RK k W h1->∀K:Post,(∀ρ2 h3,I RK (k+1) W h3->K .normal ρ2 h3)->(∀e ρ2 h3,e≠.normal->I (RJ e) (k+1) W h3->K e ρ2 h3)->@LC.wp noPP P body K (A x) h1)(done : ∀W h1,(∀b,b<h.size->W b=W0 b)->I RK all.length W h1->Q .normal ρ h1)(left : ∀e k W h1,(∀b,b<h.size->W b=W0 b)->I (RJ e) k W h1->Q e ρ h1):LC.wp P (.rangef g ps asg body) Q ρ h:=by
 refine⟨gf,caps,V,W0,all.map enc,I,λk=>match all[k]? with | some x=>A x | none=>[],hg,hf,hi,λvs hvs=>?_,hV,hI,h0,λk vs W h1 ha hk hIk=>?_,λW h1 a b=>done W h1 a (by simpa using b),λe k W h1 _ _=>left e k W h1⟩
 ·obtain⟨x,_,rfl⟩:=Pk.1 hvs;exact hl x
 rw[PD,NR]at hk;obtain⟨x,hk,rfl⟩:=hk;simp only[hk];refine⟨hasg x h1,round k x W h1 ha hk hIk _ (λρ2 h3 hh=>hh) λe ρ2 h3 hne hh=>?_⟩;cases e<;>first | exact absurd rfl hne | exact hh
theorem SlRd.drop {α:Type} [Rep α] {H:View} {v:Value} {l:List α} (h:SlRd H v l) {n:Nat} (hn:n<=l.length) {kd:IntKind} : ∃u,Bn.ev (.lo (Rep.n α)) v (.int kd n)=RJ u/\SlRd H u (l.drop n):=by
 obtain⟨a,cap,rfl,h1,h2,h3⟩:=h;refine⟨.slice (if cap=n then a else a.map (·.add (n*Rep.n α))) (l.length-n) (cap-n),by simp[Bn.ev,vL,vI,hn],if cap=n then a else a.map (·.add (n*Rep.n α)),cap-n,?_,?_,?_,?_⟩
 ·rw[OM]
 ·rw[OM];omega
 ·rw[OM];omega
 rcases h3 with rfl | ⟨ad,rfl,hs,hat⟩
 ·left;simp
 by_cases hc:cap=n
 ·left;simp;omega
 refine .inr ⟨ad.add (n*Rep.n α),by simp[hc],by rw[bR hs],λi hi=>?_⟩;rw[OM]at hi;rw[QF];have:=hat (n+i) R3;rw[bR hs]at this ⊢;rw[bR rfl];simpa[P7,Nat.add_assoc]using this
def but (v:Value) (h:Heap):View:=λb=>if v.ownBlock=RJ b then RK else h[b]?
theorem HU{v:Value}{h:Heap}:(but v h).le (vw h):=λb o hb=>by
 unfold but at hb;split at hb
 ·cases hb
 exact hb
theorem KO{v:Value}{h:Heap}:Av (but v h) v:=λb hb=>by unfold but;rw[if_pos hb]
variable{h':Heap}
theorem A5{v:Value}{h:Heap}(hle:(vw h).le (vw h')):(but v h).le (but v h'):=λb o hb=>by
 unfold but at *;split at hb
 ·cases hb
 rename_i hne;rw[if_neg hne];exact hle b o hb
variable{V:View}
theorem Li{v:Value}{h:Heap}(hV:V.le (vw h))(ha:Av V v):V.le (but v h):=λb o hb=>by
 unfold but;split
 ·rename_i e;rw[ha b e]at hb;cases hb
 exact hV b o hb
variable{α:Type}{h0:Heap}{W:View}
theorem Mine.beside[Rep α][Rep β]{h:Heap}{e e1:TypeId}{v2 v1 v1':Value}{l2:List α}{l1':List β}(m2:Mine nothing h0 h nothing e v2 l2)(m1:Mine V h0 h' W e1 v1' l1')(mv:lE h h' v1 v1')(ne:v2.ownBlock=RK\/v2.ownBlock≠v1.ownBlock):Mine nothing h0 h' nothing e v2 l2:=
 ⟨m1.old,λ_ _ h=>(by cases h),λ_ _=>rfl,m2.av0,Old.nothing _ _,m2.own.kept mv.kept ne⟩
theorem Mine.over[Rep α]{h:Heap}{e:TypeId}{v:Value}{l:List α}(m:Mine V h0 h nothing e v l):Mine (vw h0) h0 h (but v h) e v l:=
 ⟨m.old,HU,KO,m.av0,λb o hb hx=>by have h1:=HU b o hx;have h2:h0[b]? = RJ h0[b]:=N6 hb;have h3:h[b]? = RJ h0[b]:=m.old b _ h2;have h4:h[b]? = RJ o:=h1;rw[h3]at h4;cases h4;exact h2,m.own.mono (λ_ _ h=>by cases h)⟩
theorem Mine.Mj{h:Heap}{e:TypeId}{v:Value}{l:List Int}(m:Mine V h0 h W e v l):Mine nothing h0 h nothing e v l:=
 ⟨m.old,λ_ _ h=>(by cases h),λ_ _=>rfl,m.av0,Old.nothing _ _,m.own⟩
variable{n:Nat}
theorem LJ{a:Addr}{c m:Nat}{k:IntKind}{i:Int}(h0:0<=i)(h1:i<n):Bn.ev (.idx m) (RL (RJ a) n c) (.int k i)=RJ (RM (RJ (a.add (i.toNat*m)))):=by simp[Bn.ev,vL,vI,h0,h1]
theorem JK{a:Addr}{c:Nat}{k:IntKind}{i:Int}(h0:0<=i)(h1:i<n):Bn.ev (.idx 1) (RL (RJ a) n c) (.int k i)=RJ (RM (RJ (a.add i.toNat))):=by rw[LJ h0 h1,OR]
variable{H:View}
theorem de{b o:Nat}{c:Array Value}{T:TypeId}{fz:Nat × Nat}{v:Value}(h:H b=RJ (.cells c T fz))(hv:c[o]? = RJ v):an H ⟨b,o,RK⟩=RJ v:=by simp[an,h,hv]
theorem SlRd.cells {α:Type} [Rep α] {H:View} {v:Value} {l:List α} (h:SlRd H v l):v.cells = #[v]/\v.oneCell'=true:=by obtain⟨a,cap,rfl,_⟩:=h;exact⟨rfl,rfl⟩
theorem pO.ext{h0 h h':Heap}(hs:pO h0.size h h')(hle:(vw h0).le (vw h)):(vw h0).le (vw h'):=λb o hb=>by have hlt:=View.lt (View.le_refl (vw h0)) hb;show h'[b]? = _;rw[hs.same b (.inl hlt)];exact hle b o hb
theorem pO.lK{h:Heap}(hs:pO h0.size h h'):(fresh h0 h).fJ.le (fresh h0 h'):=λb o hb=>by
 have h1:=View.Iz _ _ hb;have h2 : ∀x,o≠.deferred x:=by intro x e;subst e;unfold View.fJ at hb;split at hb<;>cases hb
 unfold fresh at h1 ⊢;split at h1
 ·cases h1
 rename_i hge;rw[if_neg hge,hs.same b (.inr ?_)]
 ·exact h1
 rw[h1];intro e;exact h2 _ (Option.some.inj e)
theorem pO.rd[Rep α]{h:Heap}{v:Value}{l:List α}(hs:pO h0.size h h')(hr:SlRd (fresh h0 h) v l):SlRd (fresh h0 h') v l:=
 eG.1 ((eG.2 hr).fJ.mono hs.lK)
theorem jo{h:Heap}{b:Nat}(hb:b<h.size):grow W h h' b=W b:=by unfold grow;rw[if_pos hb]
theorem px.grown{J:View->Heap->Prop}(hJ:px n J){h:Heap}(hj:J W h)(hn:n<=h.size)(hle:(vw h).le (vw h')):J (grow W h h') h':=
 hJ.move hj (λb hb=>jo R3) (gU (RE (hJ.le hj) hle)) (λb hb hlt=>⟨(uD hle).block b hlt Sa,by rw[jo hlt];exact hb⟩) (cw hle)
variable{bytes:Nat}{y:Operand}
theorem Gq{t e:TypeId}{z:Value}{x:Operand}{h:Heap}{k:IntKind}(hT:fm P t e 1 bytes z)(hx:asg us x = .int k n)(hy:asg us y = .int k n)(hz1:z.cells = #[z])(hb:bytes*n<=140737488355328)(hb2:n<=140737488355328)(hk:K (RL (RJ ⟨h.size,0,RK⟩) n n) (h.push (.cells (List.replicate n z).toArray e))):step P (.makeSlice t x y) ty us h K:=by
 obtain⟨ht,⟨i,hi,hz,hsize,hby⟩,hzs,hsz,hsmall⟩:=hT;refine du (cK λw hw=>?_);subst hw;have hrun:=run_make (P:=P) w t e i z ht hi hz k k (n:Int) (n:Int) R3 (QB _) (by
  rw[hby];have:((bytes*n:Nat):Int)<=281474976710656:=by omega
  rwa [Int.natCast_mul]at this) R3;simp only[Ow,hsize,OR]at hrun
 have hm:madeCells z.cells n=(List.replicate n z).toArray:=by
  rw[hz1];apply Array.ext
  ·simp[madeCells]
  intro j h1 h2;simp[madeCells,Nat.mod_one]
 rw[hm]at hrun;refine⟨_,w.alloc (.cells (List.replicate n z).toArray e),?_,iX _ _,hk⟩;simp only[bT,execOp,hx,hy];simp[hrun]
theorem OwnT.same[Rep α]{h:Heap}{e:TypeId}{v:Value}{l:List α}(o:OwnT W h e v l)(hb : ∀b,v.ownBlock=RJ b->h'[b]? = h[b]?):OwnT W h' e v l:=by
 obtain⟨bd,xs,⟨h1,h2⟩,h3⟩:=o;refine⟨bd,xs,⟨h1,?_⟩,h3⟩;rcases h2 with h2 | ⟨g,cap,cur,rfl,hg,h4⟩
 ·exact .inl h2
 exact .inr ⟨g,cap,cur,rfl,(hb g rfl).trans hg,h4⟩
structure Rw {α:Type} [Rep α] (W:View) (h:Heap) (ot e:TypeId) (g:Nat) (rv:List Value) (ls:List (List α)):Prop where
 wle:W.le (vw h)
 wg:W g=RK
 blk:h[g]? = RJ (.cells rv.toArray ot (0,0))
 len:rv.length=ls.length
 own : ∀i,i<ls.length->OwnT nothing h e (nth rv i) (nth ls i)
 av : ∀i,i<ls.length->Av W (nth rv i)
 ng : ∀i,i<ls.length->(nth rv i).ownBlock≠RJ g
 dj : ∀i j,i<ls.length->j<ls.length->i≠j->(nth rv i).ownBlock=RK\/(nth rv i).ownBlock≠(nth rv j).ownBlock
section
variable {α:Type} [Rep α] {W:View} {h h':Heap} {ot e:TypeId} {g:Nat} {rv:List Value} {ls:List (List α)}
theorem Rw.lt(r:Rw W h ot e g rv ls):g<h.size:=(NV.1 r.blk).1
theorem aI[Inhabited β]{i:Nat}{x:β}(hi:i<n):nth (List.replicate n x) i=x:=by rw[aA (by simpa using hi)];simp
theorem Rw.start(hW:W.le (vw h))(hg:W g=RK)(hb:h[g]? = RJ (.cells (List.replicate n (RL RK 0 0)).toArray ot (0,0))):Rw (α:=α) W h ot e g (List.replicate n (RL RK 0 0)) (List.replicate n []):=
 ⟨hW,hg,hb,by simp,λi hi=>by rw[aI (by simpa using hi),aI (by simpa using hi)];exact OwnT.nil ..,λi hi=>by rw[aI (by simpa using hi)];exact Av.nil _ _ _,
  λi hi=>by rw[aI (by simpa using hi)];simp[Value.ownBlock],λi j hi hj _=>by rw[aI (by simpa using hi)];exact .inl rfl⟩
theorem Rw.move(r:Rw W h ot e g rv ls){W':View}(h1:W'.le (vw h'))(h2 : ∀b,W b=RK->b<h.size->h'[b]? = h[b]?/\W' b=RK):Rw W' h' ot e g rv ls:=
 {wle:=h1,wg:=(h2 g r.wg r.lt).2,blk:=(h2 g r.wg r.lt).1.trans r.blk,len:=r.len,ng:=r.ng,dj:=r.dj
  own:=λi hi=>(r.own i hi).same λb hb=>(h2 b (r.av i hi b hb) ((r.own i hi).lt hb)).1
  av:=λi hi b hb=>(h2 b (r.av i hi b hb) ((r.own i hi).lt hb)).2 }
theorem Rw.ext(r:Rw W h ot e g rv ls)(hle:(vw h).le (vw h')):Rw W h' ot e g rv ls:=
 r.move (RE r.wle hle) λb hb hlt=>⟨(uD hle).block b hlt Sa,hb⟩
theorem bN[Inhabited β]{l:List β}{i j:Nat}{x:β}(hj:j<l.length):nth (l.set i x) j=if i=j then x else nth l j:=by
 rw[aA (by simpa using hj),List.getElem_set];split
 ·rfl
 rw[aA hj]
theorem Rw.put{h2 h3:Heap}{i:Nat}{v':Value}{l':List α}(r:Rw W h ot e g rv ls)(hi:i<ls.length)(o:OwnT nothing h2 e v' l')(m:lE h h2 (nth rv i) v')(hb:h3[g]? = RJ (.cells (rv.set i v').toArray ot (0,0)))(hoth : ∀k,k≠g->h3[k]? = h2[k]?)(hsz:h3.size=h2.size):Rw W h3 ot e g (rv.set i v') (ls.set i l'):=by
 obtain⟨hw',ha'⟩:=m.view r.wle (r.av i hi);have hlt:=r.lt;have ng':v'.ownBlock≠RJ g:=by
  rcases m.at_ with e | e
  ·rw[e];exact r.ng i hi
  rw[e];intro e2;cases e2;omega
 have hv' : ∀j,j<ls.length->j≠i->(nth rv j).ownBlock=RK\/(nth rv j).ownBlock≠v'.ownBlock:=by
  intro j hj hne;rcases m.at_ with e | e
  ·rw[e];exact r.dj j i hj hi hne
  right;rw[e];intro e2;have:=(r.own j hj).lt e2;omega
 have rl:=r.len;refine⟨λb x hb=>?_,r.wg,hb,by simp[rl],λj hj=>?_,λj hj=>?_,λj hj=>?_,λj k hj hk hne=>?_⟩
 ·have hne:b≠g:=λe=>by rw[e,r.wg]at hb;cases hb
  show h3[b]? = _;rw[hoth b hne];exact hw' b x hb
 ·rw[OH]at hj;rw[bN R3,bN hj];split
  ·exact o.same λb hb=>hoth b (λe=>ng' (by rw[hb,e]))
  rename_i hne;refine((r.own j hj).kept m.kept (r.dj j i hj hi (λe=>hne e.symm))).same λb hb=>hoth b (λe=>r.ng j hj (by rw[hb,e]))
 ·rw[OH]at hj;rw[bN R3];split
  ·exact ha'
  exact r.av j hj
 ·rw[OH]at hj;rw[bN R3];split
  ·exact ng'
  exact r.ng j hj
 rw[OH]at hj hk;rw[bN R3,bN R3];split
 ·rename_i e1;rw[if_neg R3];rcases hv' k hk R3 with e | e
  ·rcases hb2:v'.ownBlock with _ | b
   ·exact .inl rfl
   right;rw[e];simp
  exact .inr λe2=>e e2.symm
 split
 ·rename_i e1 e2;exact hv' j hj R3
 exact r.dj j k hj hk hne
theorem Rw.rd (r:Rw W h ot e g rv ls) {X:View} (hg:X g=h[g]?) (hx : ∀i b,i<ls.length->(nth rv i).ownBlock=RJ b->X b=h[b]?) (hb:ls.length<=140737488355328):SlRd X (RL (RJ ⟨g,0,RK⟩) ls.length ls.length) ls:=by
 refine⟨RJ ⟨g,0,RK⟩,ls.length,rfl,NO _,hb,.inr ⟨_,rfl,rfl,λi hi=>?_⟩⟩;rw[bR rfl];have hlen:=r.len;refine⟨[nth rv i],⟨rv.toArray,ot,(0,0),rfl,by rw[hg];exact r.blk,?_⟩,nth rv i,rfl,?_⟩
 ·rw[aA R3];simp only[O7,show Rep.n (List α)=1 from rfl,OR,OX,Qy];have hd:rv.drop i=rv[i]::rv.drop (i+1):=OG R3;show List.take (0+1) (List.drop i rv)=_;rw[hd];rfl
 rw[<-aA hi];exact(r.own i hi).rd (λ_ _ h=>by cases h) (hx i · hi)
theorem Rw.fresh {h0:Heap} (r:Rw W h ot e g rv ls) (h0W:(vw h0).le W) (hb:ls.length<=140737488355328):SlRd (Lft.fresh h0 h) (RL (RJ ⟨g,0,RK⟩) ls.length ls.length) ls:=by
 have key : ∀b,W b=RK->h0.size<=b:=by
  intro b hb;rcases NQ b h0.size with hlt | hge
  ·have:=h0W b h0[b] (N6 hlt);rw[hb]at this;cases this
  exact hge
 refine r.rd (by unfold Lft.fresh;rw[if_neg (Rz.2 (key g r.wg))]) (λi b hi hbb=>by unfold Lft.fresh;rw[if_neg (Rz.2 (key b (r.av i hi b hbb)))]) hb
end
def skip (B:Nat) (h:Heap):View:=λb=>if b=B then RK else h[b]?
theorem db{B:Nat}{h:Heap}:(skip B h).le (vw h):=λb o hb=>by
 unfold skip at hb;split at hb
 ·cases hb
 exact hb
theorem nk{B b:Nat}{h:Heap}(hb:b≠B):skip B h b=h[b]?:=by unfold skip;rw[if_neg hb]
section
variable {α:Type} [Rep α] {W:View} {h h':Heap} {B:Nat} {T e:TypeId} {v:Value} {l:List α}
end
end
section
open Go Go.MapKept
variable {po:OP} {pp:PP}
structure dW (d:TypeDesc) (h:Heap) (r:Nat) (f:Value->Option Value):Prop where
 ex : ∃es clock,h[r]? = RJ (.map es clock)/\(∀x∈es.toList,IsKey d x.key)/\Stamped es clock/\∀k v,IsKey d k->((∃x∈es.toList,x.key=k/\x.val=v)↔f k=RJ v)
theorem dW.lt{d:TypeDesc}{h:Heap}{r:Nat}{f:Value->Option Value}(m:dW d h r f):r<h.size:=by obtain⟨es,c,h1,_⟩:=m.ex;exact(NV.1 h1).1
variable{h':Heap}{r:Nat}
theorem dW.same{d:TypeDesc}{h:Heap}{f:Value->Option Value}(m:dW d h r f)(e:h'[r]? = h[r]?):dW d h' r f:=by obtain⟨es,c,h1,h2⟩:=m.ex;exact⟨es,c,by rw[e];exact h1,h2⟩
theorem dW.ext{d:TypeDesc}{h h':Heap}{r:Nat}{f:Value->Option Value}(m:dW d h r f)(hle:(vw h).le (vw h')):dW d h' r f:=by obtain⟨es,c,h1,h2⟩:=m.ex;exact⟨es,c,hle _ _ h1,h2⟩
theorem dW.none {d:TypeDesc} {h:Heap} {r:Nat} (hr:h[r]? = RJ (.map #[] 0)):dW d h r λ_=>none:=
 ⟨#[],0,hr,by simp,stamped_empty 0,by simp⟩
section
variable {P:Program} {ty:TypeId} {us:List (Nat × Value)} {h:Heap} {K:Value->Heap->Prop} {d:TypeDesc} {r:Nat} {f:Value->Option Value} {t k e:TypeId}
theorem nj(hk:K (.map (RJ h.size)) (h.push (.map #[] 0))):step P (.makeMap t .none) ty us h K:=by refine du (cK λw hw=>?_);subst hw;refine⟨_,w.alloc (.map #[] 0),?_,iX _ _,hk⟩;simp only[bT,execOp];simp[Instr.makeMap,newObj];rfl
variable{y:Operand}
theorem Gb{x:Operand}{u z:Value}(ht:P.underlying t=RJ (.map k e))(hd:P.underlying k=RJ d)(hz:(P.info? e).map (·.zero)=RJ (RJ z))(hx:asg us x = .map (RJ r))(hy:asg us y=u)(hu:IsKey d u)(m:dW d h r f)(hk:K ((f u).getD z) h):step P (.lookup t x y RO) ty us h K:=by
 obtain⟨es,c,h1,h2,h3,h4⟩:=m.ex;simp only[NR]at hz;obtain⟨i,hi,hz⟩:=hz;refine du (cK λw hw=>⟨_,w,?_,Same.refl _,by rw[hw];exact hk⟩);have hz':(zeroValue e).run P w = .ok z w:=by simp[zeroValue,typeInfo,hi,hz]
 rw[<-hw]at h1;simp only[bT,execOp,hx,hy];rcases findNow_spec hu es.toList 0 h2 with⟨g1,g2⟩ | ⟨j,x,g1,g2,g3⟩
 ·have hf:f u = .none:=by
   cases hfu:f u with
   | none=>rfl
   | some v=>obtain⟨x,hx,e1,_⟩:=(h4 u v hu).2 hfu;exact absurd e1 (g2 x hx)
  simp[Instr.lookup,run_underlying ht,MapKept.run_getObj_map h1,MapKept.run_checkKey hd hu,MapKept.run_findKey hd g1,Result.andThen,hf,hz']
 have hf:f u=RJ x.val:=(h4 u x.val hu).1 ⟨x,OQ g2,g3,rfl⟩;simp[Instr.lookup,run_underlying ht,MapKept.run_getObj_map h1,MapKept.run_checkKey hd hu,MapKept.run_findKey hd g1,Result.andThen,hf]
theorem Da{w:World}{u v:Value}(ht:P.underlying t=RJ (.map k e))(hd:P.underlying k=RJ d)(hu:IsKey d u)(m:dW d w.heap r f)(g:Value->Option Value)(hg:g u=RJ v)(hg2 : ∀j,j≠u->g j=f j):
  ∃o,(Instr.mapUpdate t (.map (RJ r)) u v).run P w = .ok () { w with heap:=w.heap.setIfInBounds r o }/\dW d (w.heap.setIfInBounds r o) r g:=by
 obtain⟨es,c,h1,h2,h3,h4⟩:=m.ex;rcases findNow_spec hu es.toList 0 h2 with⟨g1,g2⟩ | ⟨j,x,g1,g2,g3⟩
 ·refine⟨.map (es.push { key:=u,val:=v,born:=c }) (c+1),?_,_,_,(MapKept.heap_set h1).1,?_,stamped_push h3 g2,?_⟩
  ·simp[Instr.mapUpdate,run_underlying ht,MapKept.run_getObj_map h1,MapKept.run_checkKey hd hu,MapKept.run_findKey hd g1,MapKept.run_setObj_map _ h1,Result.andThen]
  ·intro x hx;simp only[Array.toList_push,NU,NW]at hx;rcases hx with hx | rfl
   ·exact h2 x hx
   exact hu
  intro q p hq;constructor
  ·rintro⟨x,hx,e1,e2⟩;simp only[Array.toList_push,NU,NW]at hx;rcases hx with hx | rfl
   ·rw[hg2 q (λe=>g2 x hx (e1.trans e))];exact(h4 q p hq).1 ⟨x,hx,e1,e2⟩
   simp only at e1 e2;subst e1;subst e2;exact hg
  intro hp;by_cases e:q=u
  ·subst e;rw[hg]at hp;cases hp;exact⟨{ key:=q,val:=v,born:=c },by simp,rfl,rfl⟩
  rw[hg2 q e]at hp;obtain⟨x,hx,e⟩:=(h4 q p hq).2 hp;exact⟨x,by simp[show x∈es from by simpa using hx],e⟩
 have hj:es[j]? = RJ x:=by simpa using g2
 have hmem:x∈es.toList:=OQ g2;have hlt:j<es.size:=(NV.1 hj).1;have hkeyf : ∀e',es[j]? = RJ e'->({ e' with key:=u,val:=v }:MapEntry).key=e'.key:=λe' he'=>by rw[hj]at he';cases he';exact g3.symm
 have hst:Stamped (es.modify j (λe'=>{ e' with key:=u,val:=v })) c:=stamped_modify h3 _ _ (λ_ _=>rfl) (λe' _ he'=>hkeyf e' he');have hget : ∀i y,(es.modify j (λe'=>{ e' with key:=u,val:=v }))[i]? = RJ y↔(i=j/\y={ x with key:=u,val:=v })\/(i≠j/\es[i]? = RJ y):=by
  intro i y;rw[QJ];by_cases hij:i=j
  ·subst hij;rw[if_pos rfl,hj];simp[eq_comm]
  rw[if_neg (Ne.symm hij)];simp[hij]
 have huniq : ∀i y,es[i]? = RJ y->y.key=u->i=j:=by
  intro i y hy hk;have hnd:=h3.2.2;have e1:(es.toList.map (·.key))[i]? = RJ u:=by simp[hy,hk]
  have e2:(es.toList.map (·.key))[j]? = RJ u:=by simp[hj,g3]
  have hl1:=(Qs.1 e1);have hl2:=(Qs.1 e2);obtain⟨l1,q1⟩:=hl1;obtain⟨l2,q2⟩:=hl2;exact(List.getElem_inj hnd).1 (q1.trans q2.symm)
 refine⟨.map (es.modify j (λe'=>{ e' with key:=u,val:=v })) c,?_,_,_,(MapKept.heap_set h1).1,?_,hst,?_⟩
 ·simp[Instr.mapUpdate,run_underlying ht,MapKept.run_getObj_map h1,MapKept.run_checkKey hd hu,MapKept.run_findKey hd g1,hj,g3,MapKept.run_keyThatStays hu,MapKept.run_setObj_map _ h1,Result.andThen]
 ·intro y hy;obtain⟨i,hi⟩:=QR hy;have hi:(es.modify j (λe'=>{ e' with key:=u,val:=v }))[i]? = RJ y:=by rw[PJ]at hi;exact hi
  rcases(hget i y).1 hi with⟨_,rfl⟩ | ⟨_,h5⟩
  ·exact hu
  exact h2 y (OQ (by simpa using h5))
 intro q p hq;constructor
 ·rintro⟨y,hy,e1,e2⟩;obtain⟨i,hi⟩:=QR hy;have hi:(es.modify j (λe'=>{ e' with key:=u,val:=v }))[i]? = RJ y:=by rw[PJ]at hi;exact hi
  rcases(hget i y).1 hi with⟨_,rfl⟩ | ⟨h6,h5⟩
  ·simp only at e1 e2;subst e1;subst e2;exact hg
  rw[hg2 q (λe=>h6 (huniq i y h5 (e1.trans e)))];exact(h4 q p hq).1 ⟨y,OQ (by simpa using h5),e1,e2⟩
 intro hp;by_cases hqu:q=u
 ·subst hqu;rw[hg]at hp;cases hp;refine⟨{ x with key:=q,val:=v },OQ (i:=j) ?_,rfl,rfl⟩;rw[PJ];exact(hget j { x with key:=q,val:=v }).2 (.inl ⟨rfl,rfl⟩)
 rw[hg2 q hqu]at hp;obtain⟨y,hy,e1,e2⟩:=(h4 q p hq).2 hp;obtain⟨i,hi⟩:=QR hy;have hi':es[i]? = RJ y:=by simpa using hi
 refine⟨y,OQ (i:=i) ?_,e1,e2⟩;rw[PJ];refine(hget i y).2 (.inr ⟨λe=>?_,hi'⟩);subst e;rw[hj]at hi';cases hi';exact hqu (e1.symm.trans g3)
variable{op:Op}
theorem kU{x q:Operand}{u v:Value}(hop:op = .mapUpdate t x y q\/op = .insert t x y q)(ht:P.underlying t=RJ (.map k e))(hd:P.underlying k=RJ d)(hx:asg us x = .map (RJ r))(hy:asg us y=u)(hq:asg us q=v)(hu:IsKey d u)(m:dW d h r f)(g:Value->Option Value)(hg:g u=RJ v)(hg2 : ∀j,j≠u->g j=f j)(hk : ∀h':Heap,h'.size=h.size->(∀b,b≠r->h'[b]? = h[b]?)->dW d h' r g->K undef h'):step P op ty us h K:=by refine du (qX λw hw=>?_);subst hw;obtain⟨o,h1,h2⟩:=Da (v:=v) ht hd hu m g hg hg2;obtain⟨es,c,h3,_⟩:=m.ex;have hoth:=(MapKept.heap_set (o':=o) h3).2;refine⟨{ w with heap:=w.heap.setIfInBounds r o },?_,Same.sL rfl rfl rfl Sa h3 Sa (λk _ hne=>hoth k hne),hk _ Sa hoth h2⟩;rcases hop with rfl | rfl<;>simp only[bT,execOp,hx,hy,hq]<;>simp[h1]
end
def mapI (f:Int->Option Int):Value->Option Value
 | RG RH j=>(f j).map (.int .i64)
 | _=>RK
@[simp] theorem ME{f:Int->Option Int}{j:Int}:mapI f (RG RH j)=(f j).map (.int .i64):=rfl
def mapB (s:Int->Bool):Value->Option Value
 | RG RH j=>if s j then RJ (.bool RN) else RK
 | _=>RK
@[simp] theorem CB{s:Int->Bool}{j:Int}:mapB s (RG RH j)=if s j then RJ (.bool RN) else none:=rfl
theorem fH{j:Int}:IsKey (.int .i64) (RG RH j):=rfl
theorem HW{f g:Int->Bool}{j:Int}(h : ∀i,g i=if i=j then RN else f i):mapB g (RG RH j)=RJ (.bool RN)/\∀u,u≠RG RH j->mapB g u=mapB f u:=by
 refine⟨by simp[h],λu hu=>?_⟩;cases u<;>try rfl
 rename_i k i;cases k<;>try rfl
 have:i≠j:=λe=>hu (by rw[e]);simp[h,this]
@[simp] theorem Ma{s:Bool}:(if s=RN then RJ (Value.bool RN) else .none).getD (.bool RO) = .bool s:=by cases s<;>rfl
end
section
variable {po:OP} {pp:PP}
variable{P:Program}{Q:Post}{ρ:Env}
theorem aa{x y:LC}{h:Heap}(hx : ∀z,z=y->LC.wp P x (eU (LC.wp P z Q) Q) ρ h):LC.wp P (.seq x y) Q ρ h:=hx y rfl
variable{kill:List Nat}{sets args:List (Nat × E)}{chk:List E}{op:Op}{ty:TypeId}{dst:Option Nat}{keep:Bool}{next:Reg}
theorem zl{k:Bool}{grd:Option (E × Bool)}{tail:Bool}{h:Heap}(hx : ∀z,z=next->LC.wp P (.reg k (.loud kill sets args grd chk tail op ty dst keep z)) Q ρ h):LC.wp P (.reg k (.loud kill sets args grd chk tail op ty dst keep next)) Q ρ h:=hx next rfl
theorem aw{m:Option View}{grd:Option (E × Bool)}{tail:Bool}{Q:Env->Heap->Prop}{h:Heap}(hx : ∀z,z=next->eW P m (.loud kill sets args grd chk tail op ty dst keep z) Q ρ h):eW P m (.loud kill sets args grd chk tail op ty dst keep next) Q ρ h:=hx next rfl
def na {α:Type} [Rep α] (X:View):List Value->List α->Prop
 | [],[]=>True
 | v::vs,d::ds=>Rd X v d/\na X vs ds
 | _,_=>False
theorem na.len {α:Type} [Rep α] {X:View} : ∀{vs:List Value} {ds:List α},na X vs ds->vs.length=ds.length
 | [],[],_=>rfl
 | _::_,_::_,h=>by simp[na.len h.2]
theorem na.get {α:Type} [Rep α] {X:View} : ∀{vs:List Value} {ds:List α},na X vs ds->∀(i:Nat) (h1:i<vs.length) (h2:i<ds.length),Rd X vs[i] ds[i]
 | _::_,_::_,h,0,_,_=>h.1
 | _::_,_::_,h,i+1,h1,h2=>h.2.get i _ _
theorem na.mono {α:Type} [Rep α] {X Y:View} (hk:X.le Y) : ∀{vs:List Value} {ds:List α},na X vs ds->na Y vs ds
 | [],[],_=>trivial
 | _::_,_::_,h=>⟨h.1.mono hk,h.2.mono hk⟩
variable{α:Type}{X:View}
theorem Rd.LM[Rep α]{v:Value}{d:α}(ha:Rep.agg α=RO)(h:Rd X v d):v.cells = #[v]:=by unfold Rd at h;rw[if_neg (by simp[ha])]at h;have hfl:=Rep.flat h v Sa;cases v<;>first | rfl | simp[Value.oneCell']at hfl
theorem Co : ∀(vs:List Value) (k:Nat) (A:Array Value),(∀v∈vs,v.cells = #[v])->k+vs.length=A.size->
  ∃B,Instr.fill (λj=>RJ (j*1,1)) A ((vs.zipIdx k).map λp=>(p.2,p.1))=RJ B/\B.toList=A.toList.take k++vs
 | [],k,A,_,hk=>⟨A,rfl,by simp at hk;rw[NY (by simp[hk])];simp⟩
 | v::vs,k,A,hv,hk=>by
  have hc:=hv v (NX ..);obtain⟨B,h1,h2⟩:=Co vs (k+1) (A.setIfInBounds k v) (λu hu=>hv u (NZ _ hu)) (by simp at hk ⊢;omega);refine⟨B,?_,?_⟩
  ·simp only[QN,Pv,Instr.fill,hc,OR];rw[if_neg (by simp at hk ⊢;omega)];simpa using h1
  rw[h2];have hkA:k<A.toList.length:=by simp at hk ⊢;omega
  rw[NT (by simpa using hkA)];simp[QU]
end
structure Cat (α β:Type) where
 a:α
 b:β
instance {α β:Type} [Rep α] [Rep β]:Rep (Cat α β) where
 n:=Rep.n α+Rep.n β
 agg:=true
 rd:=λH cs d=>∃c1 c2,cs=c1++c2/\Rep.rd H c1 d.a/\Rep.rd H c2 d.b
 mono:=λhk ⟨c1,c2,h1,h2,h3⟩=>⟨c1,c2,h1,Rep.mono hk h2,Rep.mono hk h3⟩
 len:=λ⟨c1,c2,h1,h2,h3⟩=>by rw[h1,N1,Rep.len h2,Rep.len h3]
 one:=λh=>by cases h
 flat:=λ⟨c1,c2,h1,h2,h3⟩ u hu=>by
  rw[h1]at hu
  rcases NU.1 hu with hu | hu
  ·exact Rep.flat h2 u hu
  ·exact Rep.flat h3 u hu
 pos:=Nat.add_pos_left Rep.pos _
 fJ:=λ⟨c1,c2,h1,h2,h3⟩=>⟨c1,c2,h1,Rep.fJ h2,Rep.fJ h3⟩
abbrev Rep.via {α γ:Type} [Rep α] (f:γ->α):Rep γ where
 n:=Rep.n α
 agg:=Rep.agg α
 rd:=λH cs d=>Rep.rd H cs (f d)
 mono:=λhk h=>Rep.mono hk h
 len:=λh=>Rep.len h
 one:=λh=>Rep.one h
 flat:=λh=>Rep.flat h
 pos:=Rep.pos
 fJ:=λh=>Rep.fJ h
theorem At.int {H:View} {a:Addr} {d:Int} (h:At H a d):an H a=RJ (RG RH d):=by obtain⟨u,h1,h2⟩:=h.load rfl;rw[(bg.1 h2).1]at h1;exact h1
variable{α:Type}{H:View}
theorem At.list[Rep α]{a:Addr}{l:List α}(h:At H a l): ∃v,an H a=RJ v/\SlRd H v l:=by obtain⟨u,h1,h2⟩:=h.load rfl;exact⟨u,h1,eG.1 h2⟩
theorem At.i32 {H:View} {a:Addr} {d:I32} (h:At H a d):an H a=RJ (RG RI d.v):=by obtain⟨u,h1,h2⟩:=h.load rfl;rw[(uo.1 h2).1]at h1;exact h1
structure InD where
 frm:Int
 val:Int
 deriving Inhabited,DecidableEq
instance:Rep InD:=Rep.via λd=>Cat.mk d.frm d.val
structure PhiD where
 dst:Int
 ins:List InD
 deriving Inhabited,DecidableEq
instance:Rep PhiD:=Rep.via λd=>Cat.mk d.dst d.ins
structure InsD where
 op:Int
 dst:Int
 two:Int
 args:List Int
 imm:I32
 deriving Inhabited,DecidableEq
instance:Rep InsD:=Rep.via λd=>Cat.mk d.op (Cat.mk d.dst (Cat.mk d.two (Cat.mk d.args d.imm)))
structure cB where
 kind:Int
 args:List Int
 to:List Int
 imm:I32
 deriving Inhabited,DecidableEq
instance:Rep cB:=Rep.via λd=>Cat.mk d.kind (Cat.mk d.args (Cat.mk d.to d.imm))
structure BlkD where
 phis:List PhiD
 ins:List InsD
 term:cB
 deriving Inhabited,DecidableEq
instance:Rep BlkD:=Rep.via λd=>Cat.mk d.phis (Cat.mk d.ins d.term)
structure aq where
 params:Int
 blocks:List BlkD
 deriving Inhabited,DecidableEq
instance:Rep aq:=Rep.via λd=>Cat.mk d.params d.blocks
section
open Go Go.MapKept
variable {po:OP} {pp:PP}
section
variable {P:Program} {ty:TypeId} {us:List (Nat × Value)} {h:Heap} {K:Value->Heap->Prop}
def isIface:TypeDesc->Bool
 | .interface _=>RN
 | _=>RO
theorem Io{t:TypeId}{d:TypeDesc}{x:Operand}{v:Value}(hd:P.underlying t=RJ d)(hn:isIface d=RO)(hx:asg us x=v)(hk:K (.iface t v) h):step P (.makeInterface t x) ty us h K:=by refine du (cK λw hw=>⟨.iface t v,w,?_,Same.refl _,by rw[hw];exact hk⟩);simp only[bT,execOp,hx];cases d<;>first | (simp[isIface]at hn;done) | (simp[Instr.makeInterface,run_underlying hd];done)
theorem G8{x:Operand}{t:TypeId}{v:Value}(hx:asg us x = .iface t v)(hk:po.op [{ v:=.iface t v,recovered:=false }] h):step P (.panic x) ty us h K:=by
 refine du ?_;intro w hw r o a K' Q' hK hQ;have hr:(bT (.panic x) ty us).run P w = .halt (.panic (.iface t v)) w:=by simp only[bT,execOp,hx];simp[Instr.panic,goPanic,Sem.run]
 rw[hr];simp only[Oper.uponIn];exact hQ _ w (by rw[hw];exact hk) (Same.refl _)
theorem FE{T xT:TypeId}{d:TypeDesc}{x:Operand}{v:Value}(hd:P.underlying T=RJ d)(hn:isIface d=RO)(hx:asg us x = .iface T v)(hk:K (.tuple #[v,.bool RN]) h):step P (.typeAssert x xT T RN) ty us h K:=by refine du (cK λw hw=>⟨.tuple #[v,.bool RN],w,?_,Same.refl _,by rw[hw];exact hk⟩);simp only[bT,execOp,hx];cases d<;>first | (simp[isIface]at hn;done) | (simp[Instr.typeAssert,run_underlying hd];done)
variable{r:Nat}{y:Operand}
theorem np{t k e:TypeId}{d:TypeDesc}{f:Value->Option Value}{x:Operand}{u z:Value}(ht:P.underlying t=RJ (.map k e))(hd:P.underlying k=RJ d)(hz:(P.info? e).map (·.zero)=RJ (RJ z))(hx:asg us x = .map (RJ r))(hy:asg us y=u)(hu:IsKey d u)(m:dW d h r f)(hk:K (.tuple #[(f u).getD z,.bool (f u).isSome]) h):step P (.lookup t x y RN) ty us h K:=by
 obtain⟨es,c,h1,h2,h3,h4⟩:=m.ex;simp only[NR]at hz;obtain⟨i,hi,hz⟩:=hz;refine du (cK λw hw=>⟨_,w,?_,Same.refl _,by rw[hw];exact hk⟩);have hz':(zeroValue e).run P w = .ok z w:=by simp[zeroValue,typeInfo,hi,hz]
 rw[<-hw]at h1;simp only[bT,execOp,hx,hy];rcases MapKept.findNow_spec hu es.toList 0 h2 with⟨g1,g2⟩ | ⟨j,x,g1,g2,g3⟩
 ·have hf:f u = .none:=by
   cases hfu:f u with
   | none=>rfl
   | some v=>obtain⟨x,hx,e1,_⟩:=(h4 u v hu).2 hfu;exact absurd e1 (g2 x hx)
  simp[Instr.lookup,run_underlying ht,MapKept.run_getObj_map h1,MapKept.run_checkKey hd hu,MapKept.run_findKey hd g1,Result.andThen,hf,hz']
 have hf:f u=RJ x.val:=(h4 u x.val hu).1 ⟨x,OQ g2,g3,rfl⟩;simp[Instr.lookup,run_underlying ht,MapKept.run_getObj_map h1,MapKept.run_checkKey hd hu,MapKept.run_findKey hd g1,Result.andThen,hf]
variable{b:Bool}
theorem C2{T:TypeId}{ms:Array (String × TypeId)}{w:World}{v:Value}(hd:P.underlying T=RJ (.interface ms))(hv:v = .nilIface/\b=RN\/∃t u,v = .iface t u/\b=RO):(Op.equal T v .nilIface).run P w = .ok b w:=by
 have key : ∀n,(Op.equalIn (n+1) T v .nilIface).run P w = .ok b w:=λn=>by rcases hv with⟨rfl,rfl⟩ | ⟨t,u,rfl,rfl⟩<;>simp[Op.equalIn,run_underlying hd]
 exact key 9999
theorem Bf{T rt:TypeId}{ms:Array (String × TypeId)}{x:Operand}{v:Value}(hd:P.underlying T=RJ (.interface ms))(hx:asg us x=v)(hv:v = .nilIface/\b=RN\/∃t u,v = .iface t u/\b=RO)(hk:K (.bool b) h):
  step P (.binOp .eql T x (.const .nilIface) rt) ty us h K:=by refine du (cK λw hw=>⟨.bool b,w,?_,Same.refl _,by rw[hw];exact hk⟩);simp only[bT,execOp,hx,yJ];have:=C2 (w:=w) hd hv;rcases hv with⟨rfl,rfl⟩ | ⟨t,u,rfl,rfl⟩<;>simp[eqGuard,binOp,this]
end
end
def sU (P:Program) (g:FuncId) (args:Array Value) (u:FrameMode) (h:Heap) (S:FrameMode->Heap->Prop):Prop:=
 ∀w:World,w.heap=h->CallsDIn (Fw RK) 0 P g args u w λe u' w'=>e = .returned (.tuple #[])/\S u' w'.heap/\Same w w'
variable{P:Program}{caps:Array Value}
theorem Dc{fn:Func}{a:Act}{w:World}{R:Ending->World->Prop}{g:FuncId}{S:FrameMode->Heap->Prop}{u:FrameMode}(hg:isFn P g=RN)(hd:a.defers=[{ target:=.fn (.func g) caps,args:=#[] }])(hu:u≠.run)(hc:sU P g caps u w.heap S)(hS : ∀u' w',S u' w'.heap->Same w w'->settle u' = .returning/\∃v,(results fn a.tmps).run P w' = .ok v w'/\R (.returned v) w'):LeavesIn (Fw RK) 0 P fn a.tmps R a.defers u w:=by
 rw[hd];refine leavesIn_cons (f:=g) (args:=caps) hu (by simp[Fw,Fence.wide]) ?_ (λ_ _=>trivial) ((hc w rfl).mono ?_)
 ·unfold isFn at hg;cases hfn':P.funcs[g]? with
  | none=>simp[hfn']at hg
  | some fn'=>simp only[hfn',NS,bne_iff_ne,ne_eq]at hg;obtain⟨h1,h2⟩:=hg;simp[invoke,callFunc,program,Sem.run,hfn',h1,Option.isNone];cases hb:fn'.body<;>simp[hb]at h2 ⊢
 rintro e u' w' ⟨rfl,h1,h2⟩;obtain⟨h3,v,h4,h5⟩:=hS u' w' h1 h2;show LeavesIn (Fw RK) 0 P fn a.tmps R [] (settle u') w';rw[h3];exact⟨v,h4,h5⟩
def tH (ρ:Env):List Operand->Option (List Value)
 | []=>RJ []
 | .tmp t::l=>match look ρ t,tH ρ l with
  | some v,RJ vs=>RJ (v::vs)
  | _,_=>RK
 | _::_=>RK
theorem xI {ρ:Env} {a:Act} (hs:Sat ρ a) : ∀{l:List Operand} {vs:List Value},tH ρ l=RJ vs->l.map a.eval=vs
 | [],vs,h=>by simp[tH]at h;subst h;rfl
 | .tmp t::l,vs,h=>by
  simp only[tH]at h;split at h
  ·rename_i v vs' h1 h2;simp only[NN]at h;subst h;have:=hs t v h1;simp[Act.eval,this,xI hs h2]
  cases h
 | .const _::_,_,h=>by simp[tH]at h
 | .global _::_,_,h=>by simp[tH]at h
 | .func _::_,_,h=>by simp[tH]at h
theorem rN{f:FuncId}{fn:Func}{c0 c1:Code}{id:Nat}{o1 o2:Oper}{g t:Nat}{capops:Array Operand}{tys:Array TypeId}{live0 liveR0 live1 liveR1:List Nat}{L0 L1:LC}{res:List E}{args:List Value}{h:Heap}{R:Value->Heap->Prop}{Mid:Env->Heap->Prop}(hm:P.follows .mixedOrders=RN)(hf:P.funcs[f]? = RJ fn)(hb:fn.body=RJ (.seq c0 (.seq (.region id #[o1,o2] RO) c1)))(h1:o1.op = .makeFunc (.func g) #[] capops)(h1d:o1.dst=RJ t)(h1g:o1.guard=RK)(h2:o2.op = .defer ⟨.value (.tmp t),#[],tys⟩)(h2d:o2.dst=RK)(h2g:o2.guard=RK)(ht:t<fn.ntmps)(hg:isFn P g=RN)(hL0:eF P fn.ntmps live0 liveR0 RO c0=RJ L0)(hp0:L0.plain=RN)(hL1:eF P fn.ntmps live1 liveR1 RO c1=RJ L1)(hp1:L1.plain=RN)(hres:fn.results.toList.mapM (resE P)=RJ res)(hn:args.length<=fn.ntmps)(hw:@LC.wp noPP P L0 (eU Mid λ_ _ _=>False) (kN 0 args) h)(hmid : ∀ρ hh,Mid ρ hh->∃capv,tH ρ capops.toList=RJ capv/\∃pp:PP,
   @LC.wp pp P L1 (λe ρ2 h2=>(e = .normal\/e = .ret)/\∃S,sU P g capv.toArray .returning h2 S/\∀u' h3,S u' h3->settle u' = .returning/\∃vs,evs (look ρ2) (vw h3) res=RJ vs/\R (pack vs) h3) (bY ρ [t]) hh/\
   ∀ch ρ2 h2,pp.kp ch h2->pp.fx ρ2->∃S,sU P g capv.toArray (.panicking ch) h2 S/\∀u' h3,S u' h3->settle u' = .returning/\∃vs,evs (look ρ2) (vw h3) res=RJ vs/\R (pack vs) h3):
  az P f args.toArray h R:=by
 intro w hwh;subst hwh;have hsat:Sat (kN 0 args) { tmps:=args.toArray++Array.replicate (fn.ntmps-args.toArray.size) undef,defers:=[] }:=by
  intro t v hl;obtain⟨_,h2⟩:=pg args 0 t v hl;have:t<args.length:=by
   rcases NQ t args.length with h | h
   ·exact h
   simp[ON h]at h2
  simp only[Nat.sub_zero]at h2;simp only[QI,PM,this,if_true,P4];exact h2
 refine(callsIn_wide (n:=0)).1 (callsIn_of_wp_defers hf hb trivial (wpIn_seq (wpIn_mono (ef (r:=RK) hm c0 hL0 (λ_=>rfl) hw hsat R9) ?_)));rintro e a1 w1 ⟨ρ1,s1,n1,⟨ms,hds,hms,_⟩,hq,hS1⟩;rw[hms hp0]at hds;have hds:a1.defers=[]:=hds;have hq:=rL hq;cases e with
 | normal=>
  obtain⟨capv,hcap,pp,hwp,hpan⟩:=hmid ρ1 w1.heap hq;have hev:=xI s1 hcap;refine wpIn_seq (wpIn_region_list ?_);have wt1:Region.wanted o1 (yielded #[o1,o2] a1.tmps)=true:=by simp[Region.wanted,h1g]
  have hf1:(execOp a1.eval o1).run P w1 = .ok (.value (.func (.func g) #[] capv.toArray)) w1:=by
   simp only[execOp,h1];have:capops.map a1.eval=capv.toArray:=by rw[<-hev,<-Array.toList_inj];simp
   simp[this,Instr.makeFunc]
  have hput:a1.put o1.dst (.func (.func g) #[] capv.toArray)={ tmps:=a1.tmps.setIfInBounds t (.func (.func g) #[] capv.toArray),defers:=a1.defers }:=by rw[h1d];rfl
  have hget:(a1.tmps.setIfInBounds t (.func (.func g) #[] capv.toArray))[t]? = RJ (.func (.func g) #[] capv.toArray):=by rw[QD];simp[n1,ht]
  simp only[wpListIn];rw[if_pos wt1];refine⟨λ_ _=>trivial,?_⟩;rw[Oper.semAt_eq _ _ _ (by intro c e;rw[h1]at e;cases e),hf1];simp only[Oper.uponIn,hput];have wt2:Region.wanted o2 (yielded #[o1,o2] (a1.tmps.setIfInBounds t (.func (.func g) #[] capv.toArray)))=true:=by simp[Region.wanted,h2g]
  rw[if_pos wt2];have hf2:(execOp (Act.eval { tmps:=a1.tmps.setIfInBounds t (.func (.func g) #[] capv.toArray),defers:=a1.defers }) o2).run P w1 = .ok (.defer { target:=.fn (.func g) capv.toArray,args:=#[] }) w1:=by simp only[execOp,h2];simp[resolve,Act.eval,hget,Deferred.ofValue]
  refine⟨λ_ _=>trivial,?_⟩;rw[show Fence.wide.round=RK from rfl,Oper.semAt_none,hf2];simp only[Oper.uponIn,h2d,Act.put,hds];show c1.wpIn (Fw RK) 0 P _ _ _;have s2:Sat (bY ρ1 [t]) { tmps:=a1.tmps.setIfInBounds t (.func (.func g) #[] capv.toArray),defers:=[{ target:=.fn (.func g) capv.toArray,args:=#[] }] }:=by intro x v hl;obtain⟨e1,e2⟩:=mX _ _ _ _ hl;have hne:t≠x:=λe=>e1 (by simp[e]);simp only[OY hne];exact s1 x v e2
  refine wpIn_mono (ef (pp:=pp) (r:=RK) (a:={ tmps:=a1.tmps.setIfInBounds t (.func (.func g) #[] capv.toArray),defers:=[{ target:=.fn (.func g) capv.toArray,args:=#[] }] }) hm c1 hL1 (λ_=>rfl) hwp s2 (by simp[n1])) ?_;rintro e a2 w2 ⟨ρ2,s3,n3,⟨ms2,hds2,hms2,_⟩,hq2,hS2⟩;rw[hms2 hp1]at hds2;have hds2:a2.defers=[{ target:=.fn (.func g) capv.toArray,args:=#[] }]:=hds2;have fin : ∀(u:FrameMode),u≠.run->(∃S,sU P g capv.toArray u w2.heap S/\∀u' h3,S u' h3->settle u' = .returning/\∃vs,evs (look ρ2) (vw h3) res=RJ vs/\R (pack vs) h3)->
    LeavesIn (Fw RK) 0 P fn a2.tmps (λe w'=>∃v,e = .returned v/\R v w'.heap/\Same w w') a2.defers u w2:=by rintro u hu ⟨S,hc,hS⟩;refine Dc hg hds2 hu hc λu' w' hu' hsame=>?_;obtain⟨g1,vs,g2,g3⟩:=hS u' w'.heap hu';exact⟨g1,pack vs,nL hres (ry (λt v h=>s3 t v h) g2),pack vs,rfl,g3,(hS1.trans hS2).trans hsame⟩
  cases e with
  | normal=>exact fin .returning Sa hq2.2
  | ret=>exact fin .returning Sa hq2.2
  | panic ch=>exact fin (.panicking ch) Sa (hpan ch ρ2 w2.heap hq2.2 hq2.1)
  | exit i=>rcases hq2.1 with h | h<;>cases h
  | goto l=>rcases hq2.1 with h | h<;>cases h
  | outgrown=>rcases hq2.1 with h | h<;>cases h
 | _=>exact hq.elim
def kz:FrameMode->Value × FrameMode
 | .panicking ({ v,recovered:=false,goexit:=false }::older)=>(v,.panicking ({ v,recovered:=true }::older))
 | u=>(.nilIface,u)
theorem qS{g:FuncId}{fn:Func}{c1:Code}{id t:Nat}{o:Oper}{tys:Array TypeId}{live liveR:List Nat}{L:LC}{args:List Value}{u:FrameMode}{h:Heap}{S:FrameMode->Heap->Prop}(hm:P.follows .mixedOrders=RN)(hf:P.funcs[g]? = RJ fn)(hb:fn.body=RJ (.seq (.region id #[o] RO) c1))(ho:o.op = .call ⟨.builtin .recover,#[],tys⟩)(hod:o.dst=RJ t)(hog:o.guard=RK)(ht:t<fn.ntmps)(hL:eF P fn.ntmps live liveR RO c1=RJ L)(hp:L.plain=RN)(hr:fn.results = #[])(hn:args.length<=fn.ntmps)(hw:@LC.wp noPP P L (λe _ h'=>(e = .normal\/e = .ret)/\S (kz u).2 h') ((t,(kz u).1)::bY (kN 0 args) [t]) h):sU P g args.toArray u h S:=by
 intro w hwh;subst hwh;refine callsDIn_of_wpSIn hf hb trivial λc₀ cs hu=>?_;apply wpSIn_seq;apply wpSIn_region;have hsat:Sat (kN 0 args) { tmps:=args.toArray++Array.replicate (fn.ntmps-args.toArray.size) undef,defers:=[] }:=by
  intro t v hl;obtain⟨_,h2⟩:=pg args 0 t v hl;have:t<args.length:=by
   rcases NQ t args.length with h | h
   ·exact h
   simp[ON h]at h2
  simp only[Nat.sub_zero]at h2;simp only[QI,PM,this,if_true,P4];exact h2
 have hsz:(args.toArray++Array.replicate (fn.ntmps-args.toArray.size) undef).size=fn.ntmps:=by simp;omega
 have hex : ∀ρ,(execOp ρ o).run P w = .ok .recover w:=λρ=>by simp only[execOp,ho];simp[resolve,invoke,builtin]
 generalize args.toArray++Array.replicate (fn.ntmps-args.toArray.size) undef=tm at hsat hsz;have hwant : ∀tm',Region.wanted o (yielded #[o] tm')=true:=λtm'=>by simp[Region.wanted,hog]
 have key : ∀(v:Value) (c':Frame),(kz u).1=v->c'={ c₀ with mode:=(kz u).2 }->c1.wpSIn (Fw RK) 0 P (bodyPostS P fn c₀ cs λe u' w'=>e = .returned (.tuple #[])/\S u' w'.heap/\Same w w') { tmps:=tm.setIfInBounds t v,defers:=[] } (c'::cs) w:=by
  intro v c' hv hc';have s2:Sat ((t,(kz u).1)::bY (kN 0 args) [t]) { tmps:=tm.setIfInBounds t v,defers:=[] }:=by
   intro x y hl;simp only[look]at hl;split at hl
   ·rename_i e;subst e;simp only[NN]at hl;rw[<-hl,hv,QD];simp[hsz,ht]
   rename_i e;obtain⟨e1,e2⟩:=mX _ _ _ _ hl;simp only[OY e];exact hsat x y e2
  refine wpSIn_of_wpIn rfl (wpIn_mono (ef (pp:=noPP) (r:=RK) (a:={ tmps:=tm.setIfInBounds t v,defers:=[] }) hm c1 hL (λ_=>rfl) hw s2 (by simp[hsz])) ?_);rintro e a2 w2 ⟨ρ2,s3,n3,⟨ms2,hds2,hms2,_⟩,hq2,hS2⟩;rw[hms2 hp]at hds2;have hds2:a2.defers=[]:=hds2;have hq2:=rL hq2;have hres:(results fn a2.tmps).run P w2 = .ok (.tuple #[]) w2:=by simp[results,hr]
  have fin:a2.defers=[]/\∃u',c'::cs={ c₀ with mode:=u' }::cs/\∃v,(results fn a2.tmps).run P w2 = .ok v w2/\Ending.returned v = .returned (.tuple #[])/\S u' w2.heap/\Same w w2:=
   ⟨hds2,_,by rw[hc'],_,hres,rfl,hq2.2,hS2⟩;cases e with
  | normal=>exact fin
  | ret=>exact fin
  | panic ch=>rcases hq2.1 with h | h<;>cases h
  | exit i=>rcases hq2.1 with h | h<;>cases h
  | goto l=>rcases hq2.1 with h | h<;>cases h
  | outgrown=>rcases hq2.1 with h | h<;>cases h
 have hr0:List.range (#[o]:Array Oper).size=[0]:=rfl;rw[hr0];simp only[wpOpsSIn];have ho0:(#[o]:Array Oper)[0]? = RJ o:=rfl;rw[ho0];simp only[hwant,if_true,hex];refine⟨λ_ _=>trivial,?_⟩;by_cases hcase : ∃v older,u = .panicking ({ v,recovered:=false,goexit:=false }::older)
 ·obtain⟨v,older,rfl⟩:=hcase;have e:recoverD (c₀::cs)=RJ (v,{ c₀ with mode:=.panicking ({ v,recovered:=true }::older) }::cs):=by simp only[recoverD,hu]
  rw[e];simp only[hod];exact key v _ rfl rfl
 have e:recoverD (c₀::cs)=none:=by
  simp only[recoverD,hu];split
  ·exact absurd ⟨_,_,rfl⟩ hcase
  rfl
 have er:kz u=(.nilIface,u):=by
  unfold kz;split
  ·exact absurd ⟨_,_,rfl⟩ hcase
  rfl
 rw[e];simp only[hod];exact key .nilIface c₀ (by rw[er]) (by rw[er,<-hu])
section
variable {po po2:OP} {pp:PP}
structure Part (α β:Type) [Rep α] [Rep β] (o:Nat) (get:α->β) (set:α->β->α):Prop where
 fits:o+Rep.n β<=Rep.n α
 get : ∀{H:View} {cs:List Value} {d:α},Rep.rd H cs d->Rep.rd H ((cs.drop o).take (Rep.n β)) (get d)
 set : ∀{H:View} {cs us:List Value} {d:α} {x:β},Rep.rd H cs d->Rep.rd H us x->Rep.rd H (cs.take o++us++cs.drop (o+Rep.n β)) (set d x)
theorem Part.all[Rep α]:Part α α 0 (λd=>d) (λ_ x=>x) where
 fits:=by simp
 get:=λh=>by rw[PH,NY (by rw[Rep.len h];exact NO _)];exact h
 set:=λh k=>by
  have:=Rep.len h
  rw[PT,OW,OL R3,Pn];exact k
section
variable {α β γ:Type} [Rep α] [Rep β] [Rep γ] {o:Nat}
theorem Part.fst{g:α->γ}{s:α->γ->α}(p:Part α γ o g s):Part (Cat α β) γ o (λd=>g d.a) (λd x=>⟨s d.a x,d.b⟩) where
 fits:=OD p.fits (Nat.le_add_right _ _)
 get:=by
  rintro H cs d ⟨c1,c2,rfl,h1,h2⟩
  have l1:=Rep.len h1
  have f:=p.fits
  rw[O3 R3,OS R9]
  exact p.get h1
 set:=by
  rintro H cs us d x ⟨c1,c2,rfl,h1,h2⟩ k
  have l1:=Rep.len h1
  have f:=p.fits
  refine⟨_,c2,?_,p.set h1 k,h2⟩
  rw[OS R3,O3 R3]
  simp[N2]
theorem Part.snd{g:β->γ}{s:β->γ->β}(p:Part β γ o g s):Part (Cat α β) γ (Rep.n α+o) (λd=>g d.b) (λd x=>⟨d.a,s d.b x⟩) where
 fits:=by
  have:=p.fits
  show Rep.n α+o+Rep.n γ<=Rep.n α+Rep.n β
  omega
 get:=by
  rintro H cs d ⟨c1,c2,rfl,h1,h2⟩
  have l1:=Rep.len h1
  rw[PS,OL R3,OW,show Rep.n α+o-c1.length=o by omega]
  exact p.get h2
 set:=by
  rintro H cs us d x ⟨c1,c2,rfl,h1,h2⟩ k
  have l1:=Rep.len h1
  refine⟨c1,_,?_,h1,p.set h2 k⟩
  rw[PF,NY R3,show Rep.n α+o-c1.length=o by omega,PS,OL R3,OW,
   show Rep.n α+o+Rep.n γ-c1.length=o+Rep.n γ by omega]
  simp[N2]
end
theorem Part.via {α β γ:Type} [ra:Rep α] [rb:Rep β] {f:γ->α} {o o':Nat} {g:α->β} {s:α->β->α} (p:Part α β o g s) {g':γ->β} {s':γ->β->γ} (hg : ∀d,g' d=g (f d)) (hs : ∀d x,f (s' d x)=s (f d) x) (ho:o=o':=by rfl):@Part γ β (Rep.via f) rb o' g' s':=by subst ho;exact @Part.mk γ β (Rep.via f) rb o g' s' p.fits (fun{H cs d} h=>by rw[hg];exact p.get h) (fun{H cs us d x} h k=>by have:=p.set (show Rep.rd H cs (f d) from h) k;rw[<-hs]at this;exact this)
variable{β:Type}
theorem At.part[Rep α][Rep β]{o:Nat}{g:α->β}{s:α->β->α}(p:Part α β o g s){a:Addr}{d:α}(h:At H a d):At H (a.add o) (g d):=by obtain⟨cs,h1,h2⟩:=h;have l:=Rep.len h2;exact⟨_,AZ h1 o (Rep.n β) (by rw[l];exact p.fits),p.get h2⟩
theorem Rd.MJ[Rep α][Rep β]{o:Nat}{g:α->β}{s:α->β->α}(p:Part α β o g s)(ha:Rep.agg α=RN)(hb:Rep.agg β=RO){K:View}{v:Value}{d:α}(h:Rd H v d): ∃u,Un.ev K (.part o) v=RJ u/\Rd H u (g d):=by
 unfold Rd at h;rw[if_pos ha]at h;obtain⟨cs,rfl,h⟩:=h;have l:=Rep.len h;have f:=p.fits;have k:=p.get h;rw[Rep.one hb]at f k;have hlt:o<cs.size:=by simpa using(show o<cs.toList.length by omega)
 refine⟨cs[o],by simp[hlt],?_⟩;unfold Rd;rw[if_neg (by simp[hb])];rw[OG (by simpa using hlt)]at k;simpa using k
theorem InD.HL:Part InD Int 0 InD.frm (λd x=>{ d with frm:=x }):=(Part.fst Part.all).via (λ_=>rfl) λ_ _=>rfl
theorem InD.A9:Part InD Int 1 InD.val (λd x=>{ d with val:=x }):=(Part.snd Part.all).via (λ_=>rfl) λ_ _=>rfl
theorem PhiD.iB:Part PhiD Int 0 PhiD.dst (λd x=>{ d with dst:=x }):=(Part.fst Part.all).via (λ_=>rfl) λ_ _=>rfl
theorem PhiD.jY:Part PhiD (List InD) 1 PhiD.ins (λd x=>{ d with ins:=x }):=(Part.snd Part.all).via (λ_=>rfl) λ_ _=>rfl
theorem InsD.tN:Part InsD Int 0 InsD.op (λd x=>{ d with op:=x }):=(Part.fst Part.all).via (λ_=>rfl) λ_ _=>rfl
theorem InsD.iB:Part InsD Int 1 InsD.dst (λd x=>{ d with dst:=x }):=(Part.snd (Part.fst Part.all)).via (λ_=>rfl) λ_ _=>rfl
theorem InsD.yp:Part InsD Int 2 InsD.two (λd x=>{ d with two:=x }):=(Part.snd (Part.snd (Part.fst Part.all))).via (λ_=>rfl) λ_ _=>rfl
theorem InsD.eX:Part InsD (List Int) 3 InsD.args (λd x=>{ d with args:=x }):=(Part.snd (Part.snd (Part.snd (Part.fst Part.all)))).via (λ_=>rfl) λ_ _=>rfl
theorem InsD.gx:Part InsD I32 4 InsD.imm (λd x=>{ d with imm:=x }):=(Part.snd (Part.snd (Part.snd (Part.snd Part.all)))).via (λ_=>rfl) λ_ _=>rfl
theorem cB.yu:Part cB Int 0 cB.kind (λd x=>{ d with kind:=x }):=(Part.fst Part.all).via (λ_=>rfl) λ_ _=>rfl
theorem cB.eX:Part cB (List Int) 1 cB.args (λd x=>{ d with args:=x }):=(Part.snd (Part.fst Part.all)).via (λ_=>rfl) λ_ _=>rfl
theorem cB.yb:Part cB (List Int) 2 cB.to (λd x=>{ d with to:=x }):=(Part.snd (Part.snd (Part.fst Part.all))).via (λ_=>rfl) λ_ _=>rfl
theorem cB.gx:Part cB I32 3 cB.imm (λd x=>{ d with imm:=x }):=(Part.snd (Part.snd (Part.snd Part.all))).via (λ_=>rfl) λ_ _=>rfl
theorem BlkD.sQ:Part BlkD (List PhiD) 0 BlkD.phis (λd x=>{ d with phis:=x }):=(Part.fst Part.all).via (λ_=>rfl) λ_ _=>rfl
theorem BlkD.jY:Part BlkD (List InsD) 1 BlkD.ins (λd x=>{ d with ins:=x }):=(Part.snd (Part.fst Part.all)).via (λ_=>rfl) λ_ _=>rfl
theorem BlkD.mY:Part BlkD cB 2 BlkD.term (λd x=>{ d with term:=x }):=(Part.snd (Part.snd Part.all)).via (λ_=>rfl) λ_ _=>rfl
theorem aq.Iy:Part aq Int 0 aq.params (λd x=>{ d with params:=x }):=(Part.fst Part.all).via (λ_=>rfl) λ_ _=>rfl
theorem aq.qj:Part aq (List BlkD) 1 aq.blocks (λd x=>{ d with blocks:=x }):=(Part.snd Part.all).via (λ_=>rfl) λ_ _=>rfl
def Sl {α:Type} [Rep α] (H:View) (a:Addr) (v:Value) (l:List α):Prop:=an H a=RJ v/\SlRd H v l
theorem At.sl[Rep α]{a:Addr}{l:List α}(h:At H a l): ∃v,Sl H a v l:=h.list
variable{n:Nat}
theorem Addr.z{b o:Nat}:(⟨b,o,RK⟩:Addr).add n=⟨b,o+n,RK⟩:=bR rfl n
section
variable {α:Type} [Rep α] {P:Program} {ty:TypeId} {us:List (Nat × Value)} {h:Heap}
theorem fS{v:Value}{d:α}(hr:Rd H v d):Rep.rd H v.cells.toList d/\v.cells.size=Rep.n α/\∀c∈v.cells.toList,c.oneCell'=true:=by
 unfold Rd at hr;split at hr
 ·obtain⟨cs,rfl,h⟩:=hr;exact⟨h,by rw[<-Rep.len h];rfl,λc hc=>Rep.flat h c hc⟩
 rename_i ha;have hone:=Rep.one (α:=α) (by simpa using ha);have hfl:=Rep.flat hr v Sa;have:v.cells = #[v]:=by cases v<;>first | rfl | simp[Value.oneCell']at hfl
 rw[this];exact⟨by simpa using hr,by simp[hone],by simpa using hfl⟩
theorem og{b:Nat}{v:Value}{d:α}{t:TypeId}{fz:Nat × Nat}(hb:H b=RJ (.cells v.cells t fz))(hr:Rd H v d):At H ⟨b,0,RK⟩ d:=
 ⟨_,⟨v.cells,t,fz,rfl,hb,by simp;exact NY Sa⟩,(fS hr).1⟩
variable{K:Value->Heap->Prop}
theorem fW{t:TypeId}{x:Operand}{v:Value}{d:α}(hx:asg us x=v)(hv:Rd (vw h) v d)(hk : ∀h':Heap,h'=h.push (.cells v.cells t)->(vw h).le (vw h')->h'.size=h.size+1->At (vw h') ⟨h.size,0,RK⟩ d->K (RM (RJ ⟨h.size,0,RK⟩)) h'):step P (.box t x) ty us h K:=
 cu hx (hk _ rfl (bM _ _) Sa (og (t:=t) (fz:=(0,0)) (by simp[vw]) (hv.mono (bM _ _))))
theorem SlRd.whole{K:View}{v:Value}{l:List α}(h:SlRd H v l)(ha:Rep.agg α=RN)(hk:H.le K){i:Nat}(hi:i<l.length): ∃u,Un.ev K (.aZ (Rep.n α)) (RM (RJ ((slA v).add (i*Rep.n α))))=RJ u/\Rd K u l[i]:=
 ((h.at hi).mono hk).aZ ha
end
theorem At.rng{a:Addr}{d:Int}(h:At H a d):-9223372036854775808<=d/\d<=9223372036854775807:=by obtain⟨u,h1,h2⟩:=h.load rfl;exact(bg.1 h2).2
theorem At.bool {H:View} {a:Addr} {d:Bool} (h:At H a d):an H a=RJ (.bool d):=by obtain⟨u,h1,h2⟩:=h.load rfl;rw[wQ.1 h2]at h1;exact h1
theorem aE[Rep α]:SlRd H (RL RK 0 0) ([]:List α):=⟨RK,0,rfl,by simp,by simp,.inl rfl⟩
variable{ty:TypeId}{bytes:Nat}{us:List (Nat × Value)}{K:Value->Heap->Prop}{X:View}
theorem mq[Rep α]{t e:Nat}{z:Value}{ps:Array (Nat × Operand)}{vs:List Value}{ds:List α}{h:Heap}(ha:Rep.agg α=RO)(hT:fm P t e 1 bytes z)(hp:ps.map (λp=>(p.1,asg us p.2))=((vs.zipIdx 0).map λp=>(p.2,p.1)).toArray)(hr:na X vs ds)(hX:X.le (vw h))(hn:ds.length=n)(hb:n<=16777216)(hk : ∀u h',(vw h).le (vw h')->h'.size=h.size+1->(∀Y:View,X.le Y->Y h.size=h'[h.size]?->SlRd Y u ds)->u.ownBlock=RJ h.size->K u h'):step P (.buildSlice t n ps) ty us h K:=by
 have hl:=hr.len;obtain⟨B,h1,h2⟩:=Co vs 0 ((Array.range (n*1)).map (z.cells[· % z.cells.size]!)) (λv hv=>by obtain⟨i,hi,rfl⟩:=N7 hv;exact(hr.get i hi R3).LM ha) R9;have hB:B=vs.toArray:=by rw[<-Array.toList_inj,h2];simp
 refine tt hT R3 hp h1 ?_;have hle:=bM h (.cells B e);have hone:=Rep.one (α:=α) ha;refine hk _ _ hle Sa (λY hY hYb=>⟨RJ ⟨h.size,0,RK⟩,n,by rw[hn],by omega,by omega,.inr ⟨_,rfl,rfl,λi hi=>?_⟩⟩) rfl;rw[bR rfl,hone];refine⟨[vs[i]],⟨B,e,(0,0),rfl,by rw[hYb];simp,?_⟩,?_⟩
 ·rw[hB];have hd:vs.drop i=vs[i]::vs.drop (i+1):=OG R3;simp only[O7,OR,OX,Qy];show List.take (0+1) (List.drop i vs)=_;rw[hd];rfl
 have:=(hr.get i R3 hi).mono hY;unfold Rd at this;rw[if_neg (by simp[ha])]at this;exact this
def mapE {β:Type} (enc:β->Value) (f:Int->Option β):Value->Option Value
 | RG RH j=>(f j).map enc
 | _=>RK
@[simp] theorem qD{enc:β->Value}{f:Int->Option β}{j:Int}:mapE enc f (RG RH j)=(f j).map enc:=rfl
def putM {β:Type} (f:Int->Option β) (j:Int) (v:β):Int->Option β:=λi=>if i=j then RJ v else f i
theorem jA{enc:β->Value}{f:Int->Option β}{j:Int}{v:β}:mapE enc (putM f j v) (RG RH j)=RJ (enc v)/\∀u,u≠RG RH j->mapE enc (putM f j v) u=mapE enc f u:=by
 refine⟨by simp[putM],λu hu=>?_⟩;cases u<;>try rfl
 rename_i k i;cases k<;>try rfl
 have:i≠j:=λe=>hu (by rw[e]);simp[putM,this]
theorem qY{enc:β->Value}:mapE enc (λ_=>.none)=λ_=>.none:=by
 funext u;cases u<;>try rfl
 rename_i k i;cases k<;>rfl
theorem Kept.skip {h h':Heap} {r:Nat} (k:Kept h h' (RJ r)):(skip r h).le (Lft.skip r h'):=λb o hb=>by
 unfold Lft.skip at hb ⊢;split at hb
 ·cases hb
 rename_i hne;rw[if_neg hne];have hlt:=(NV.1 hb).1;rw[k.block b hlt (by simpa using hne)];exact hb
variable{h':Heap}{r:Nat}
theorem Kept.Ew{h:Heap}(k:Kept h h' (RJ r)):(Lft.skip r h).le (vw h'):=RE k.skip db
theorem Kept.of_le{h:Heap}{b:Option Nat}(hle:(vw h).le (vw h')):Kept h h' b:=⟨cw hle,λk hk _=>by have:=hle k h[k] (N6 hk);rw[N6 hk];exact this⟩
theorem Kept.upd{h:Heap}(hs:h'.size=h.size)(ho : ∀b,b≠r->h'[b]? = h[b]?):Kept h h' (RJ r):=⟨by omega,λk _ hk=>ho k (by simpa using hk)⟩
variable{ty2:TypeId}{y:Operand}{us2:Value->List (Nat × Value)}
theorem fG{h:Heap}{t:TypeId}{z:Value}{x:Operand}{v:Value}(hz:(P.info? t).map (·.zero)=RJ (RJ z))(hzc:z.cells.size=n)(hsz:df P t=RJ n)(hv:v.cells.size=n)(hone : ∀c∈v.cells.toList,c.oneCell'=RN)(hx : ∀p,asg (us2 p) x=p)(hy : ∀p,asg (us2 p) y=v)(hk : ∀h':Heap,(vw h).le (vw h')->h'.size=h.size+1->h'[h.size]? = RJ (.cells v.cells t (0,0))->K (RM (RJ ⟨h.size,0,RK⟩)) h'):
  @step po P (.alloc t) ty us h λp h2=>@step po2 P (.store t x y) ty2 (us2 p) h2 λ_ h3=>K p h3:=by
 refine cZ hz ?_;refine eJ (g:=h.size) (o:=0) (n:=n) (v:=v) (cur:=z.cells) (e:=t) hsz (hx _) (hy _) hv hone Sa R3 λh' hs ⟨row,hrow,he⟩ hoth=>?_;have hrow2:row=v.cells:=by rw[<-Array.toList_inj,he];simp only[PT,OW,O7];rw[OL (by simp[hzc]),Pn]
 rw[hrow2]at hrow;have hle:(vw h).le (vw h'):=λb o hb=>by have hlt:=View.lt (View.le_refl (vw h)) hb;show h'[b]? = _;rw[hoth b R3];exact bM _ _ b o hb
 exact hk h' hle (by rw[hs];simp) hrow
section
variable {σ α ε:Type} {f:σ->α->Except ε σ} {s s':σ} {l:List α} {k:Nat} {t:ε}
theorem Dk[Inhabited α](h:k<l.length)(hs:(l.take k).foldlM f s = .ok s'):(l.take (k+1)).foldlM f s=f s' (nth l k):=by rw[NT h,Q2,hs,aA h];show List.foldlM f s' [l[k]]=f s' l[k];rw[Pt];cases f s' l[k]<;>rfl
theorem E7(h:(l.take k).foldlM f s = .error t):l.foldlM f s = .error t:=by
 have e:l.foldlM f s=(l.take k++l.drop k).foldlM f s:=by rw[PA]
 rw[e,Q2,h];rfl
end
def upE {σ ε:Type} (f:Nat->σ->Except ε σ):Nat->σ->Except ε σ
 | 0,s=>.ok s
 | k+1,s=>match upE f k s with
  | .ok s'=>f k s'
  | .error t=>.error t
theorem jz{σ ε:Type}{f:Nat->σ->Except ε σ}{k:Nat}{s s':σ}(h:upE f k s = .ok s'):upE f (k+1) s=f k s':=by simp only[upE,h]
theorem AR {σ ε:Type} {f:Nat->σ->Except ε σ} {s:σ} {t:ε} : ∀{n k:Nat},k<=n->upE f k s = .error t->upE f n s = .error t
 | 0,k,hk,h=>by
  have:k=0:=by omega
  subst this;exact h
 | n+1,k,hk,h=>by
  rcases NQ n k with hlt | hge
  ·have:k=n+1:=by omega
   subst this;exact h
  simp only[upE,AR hge h]
theorem qI{σ ε:Type}{f:Nat->σ->Except ε σ}{k:Nat}{s s':σ}{t:ε}(h:upE f k s = .ok s')(hk:k<n)(he:f k s' = .error t):upE f n s = .error t:=
 AR (k:=k+1) hk (by rw[jz h,he])
theorem dt[Rep α]{h:Heap}{t:TypeId}{z:Value}{x:Operand}{v:Value}{d:α}(hz:(P.info? t).map (·.zero)=RJ (RJ z))(hzc:z.cells.size=Rep.n α)(hsz:df P t=RJ (Rep.n α))(hv:Rd X v d)(hx : ∀p,asg (us2 p) x=p)(hy : ∀p,asg (us2 p) y=v)(hk : ∀h':Heap,(vw h).le (vw h')->h'.size=h.size+1->(∀Y:View,X.le Y->Y h.size=h'[h.size]?->At Y ⟨h.size,0,RK⟩ d)->K (RM (RJ ⟨h.size,0,RK⟩)) h'):
  @step po P (.alloc t) ty us h λp h2=>@step po2 P (.store t x y) ty2 (us2 p) h2 λ_ h3=>K p h3:=by obtain⟨c1,c2,c3⟩:=fS hv;exact fG hz hzc hsz c2 c3 hx hy λh' hle hs hb=>hk h' hle hs λY hY hYb=>og (by rw[hYb];exact hb) (hv.mono hY)
theorem jm{B:Nat}{d:BlkD}(h:At H ⟨B,0,RK⟩ d): ∃vp vi va vt,Sl H ⟨B,0,RK⟩ vp d.phis/\Sl H ⟨B,1,RK⟩ vi d.ins/\an H ⟨B,2,RK⟩=RJ (RG RH d.term.kind)/\Sl H ⟨B,3,RK⟩ va d.term.args/\Sl H ⟨B,4,RK⟩ vt d.term.to:=by obtain⟨vp,h1⟩:=(h.part BlkD.sQ).sl;obtain⟨vi,h2⟩:=(h.part BlkD.jY).sl;have ht:=h.part BlkD.mY;obtain⟨va,h4⟩:=(ht.part cB.eX).sl;obtain⟨vt,h5⟩:=(ht.part cB.yb).sl;exact⟨vp,vi,va,vt,by simpa using h1,by simpa using h2,by simpa using(ht.part cB.yu).int,by simpa using h4,by simpa using h5⟩
theorem Ar{B:Nat}{d:PhiD}(h:At H ⟨B,0,RK⟩ d):an H ⟨B,0,RK⟩=RJ (RG RH d.dst)/\∃v,Sl H ⟨B,1,RK⟩ v d.ins:=by obtain⟨v,hv⟩:=(h.part PhiD.jY).sl;exact⟨by simpa using(h.part PhiD.iB).int,v,by simpa using hv⟩
theorem fI{B:Nat}{d:InsD}(h:At H ⟨B,0,RK⟩ d):an H ⟨B,0,RK⟩=RJ (RG RH d.op)/\an H ⟨B,1,RK⟩=RJ (RG RH d.dst)/\an H ⟨B,2,RK⟩=RJ (RG RH d.two)/\∃v,Sl H ⟨B,3,RK⟩ v d.args:=by obtain⟨v,hv⟩:=(h.part InsD.eX).sl;exact⟨by simpa using(h.part InsD.tN).int,by simpa using(h.part InsD.iB).int,by simpa using(h.part InsD.yp).int,v,by simpa using hv⟩
theorem gH{B:Nat}{d:aq}(h:At H ⟨B,0,RK⟩ d):an H ⟨B,0,RK⟩=RJ (RG RH d.params)/\∃v,Sl H ⟨B,1,RK⟩ v d.blocks:=by obtain⟨v,hv⟩:=(h.part aq.qj).sl;exact⟨by simpa using(h.part aq.Iy).int,v,by simpa using hv⟩
theorem C3{B:Nat}{d:InD}(h:At H ⟨B,0,RK⟩ d):an H ⟨B,0,RK⟩=RJ (RG RH d.frm)/\an H ⟨B,1,RK⟩=RJ (RG RH d.val):=
 ⟨by simpa using(h.part InD.HL).int,by simpa using(h.part InD.A9).int⟩
theorem SlRd.wh[Rep α][Inhabited α]{v:Value}{l:List α}(h:SlRd H v l)(ha:Rep.agg α=RN){N:Nat}(hn:Rep.n α=N){i:Nat}(hi:i<l.length): ∃u,(∀K:View,H.le K->Un.ev K (.aZ N) (RM (RJ ((slA v).add (i*N))))=RJ u)/\Rd H u (nth l i):=by subst hn;obtain⟨u,h1,h2⟩:=h.whole ha (View.le_refl H) hi;refine⟨u,λK hk=>?_,by rw[aA hi];exact h2⟩;have:=dk (ρ:=λ_=>RK) (e:=.un (.aZ (Rep.n α)) (.con (RM (RJ ((slA v).add (i*Rep.n α)))))) hk (v:=u) (by simpa using h1);simpa using this
instance:Inhabited BlkD:=⟨⟨[],[],⟨0,[],[],⟨0⟩⟩⟩⟩
theorem uP{h:Heap}{f:FuncId}{t:Nat}{ops:List Operand}{T:Array TypeId}(hf:asg us (.tmp t) = .func (.func f) #[] caps){R:Value->Heap->Prop}{Rp:List PanicEntry->Heap->Prop}(hfn:isFn P f=RN)(hc:ji P f (ops.map (asg us)++caps.toList).toArray h R Rp)(hk : ∀v h',R v h'->K v h')(hp : ∀ch h',Rp ch h'->po.op ch h'):@step po P (.call ⟨.value (.tmp t),ops.toArray,T⟩) ty us h K:=by
 refine du (po:=po) (vV (po:=po) (R:=R) (f:=f) (args:=(ops.map (asg us)++caps.toList).toArray) (λw _=>?_) hc hk hp);unfold isFn at hfn;cases hfn':P.funcs[f]? with
 | none=>simp[hfn']at hfn
 | some fn=>simp only[hfn',NS,bne_iff_ne,ne_eq]at hfn;obtain⟨h1,h2⟩:=hfn;simp[bT,execOp,resolve,Deferred.ofValue,hf,invoke,callFunc,program,Sem.run,hfn',h1,Option.isNone];cases hb:fn.body<;>simp[hb]at h2 ⊢
variable{b:Bool}
@[simp] theorem L4{v:Value}:gdv b undef v=undef:=rfl
@[simp] theorem LX{o:Option Value}:gdO b undef o=RJ undef:=rfl
end
end Go.Lft
namespace Go.Proofs.YtnfiilgdjpdlkaaGreatDoor
open Go Go.Lft
theorem follows:Tryz.prog.follows .mixedOrders=true:=by kernel_rfl
abbrev T.int:Nat:=3
abbrev T.bool:Nat:=4
abbrev T.aQ:Nat:=22
abbrev T.KK:Nat:=23
abbrev T.nN:Nat:=25
abbrev T.dX:Nat:=27
abbrev T.rp:Nat:=30
abbrev T.oM:Nat:=31
abbrev T.jy:Nat:=33
abbrev T.fy:Nat:=35
abbrev T.cW:Nat:=36
abbrev T.gA:Nat:=38
abbrev T.aG:Nat:=40
abbrev T.iy:Nat:=50
abbrev T.kP:Nat:=55
abbrev T.oz:Nat:=57
abbrev T.ny:Nat:=64
abbrev T.dR:Nat:=70
abbrev T.cU:Nat:=80
abbrev T.rU:Nat:=87
abbrev T.bu:Nat:=89
abbrev T.tK:Nat:=91
abbrev T.pC:Nat:=93
abbrev T.uH:Nat:=95
abbrev T.vu:Nat:=97
abbrev T.bc:Nat:=101
abbrev T.yd:Nat:=107
abbrev T.jO:Nat:=108
abbrev T.gP:Nat:=109
abbrev T.gg:Nat:=110
abbrev T.bP:Nat:=113
abbrev T.jU:Nat:=116
abbrev T.kI:Nat:=120
abbrev T.lQ:Nat:=123
abbrev T.rm:Nat:=124
abbrev T.CJ:Nat:=127
abbrev T.dv:Nat:=132
abbrev T.gE:Nat:=136
abbrev T.cQ:Nat:=138
abbrev T.gr:Nat:=144
abbrev T.nf:Nat:=146
abbrev T.gh:Nat:=147
abbrev T.jc:Nat:=149
abbrev T.IH:Nat:=154
abbrev T.gw:Nat:=157
abbrev T.cC:Nat:=160
abbrev T.dQ:Nat:=185
abbrev T.eA:Nat:=187
theorem U.int:Tryz.prog.underlying T.int=RJ (.int .i64):=by kernel_rfl
theorem U.aQ:Tryz.prog.underlying T.aQ=RJ (.slice T.int):=by kernel_rfl
theorem El.aQ:fm RP T.aQ T.int 1 8 (RG RH 0):=ig R1 R1 rfl R4
theorem El.nN:fm RP T.nN T.fy 6 112 (.agg #[(RL RK 0 0),(RL RK 0 0),(RG RH 0),(RL RK 0 0),(RL RK 0 0),(RG RI 0)]):=ig R1 R1 rfl R4
theorem El.rp:fm RP T.rp T.pC 2 32 (.agg #[(RG RH 0),(RL RK 0 0)]):=ig R1 R1 rfl R4
theorem El.oM:fm RP T.oM T.dR 5 56 (.agg #[(RG RH 0),(RG RH 0),(RG RH 0),(RL RK 0 0),(RG RI 0)]):=ig R1 R1 rfl R4
theorem El.cW:fm RP T.cW T.cU 8 80 (.agg #[(RG RH 0),(RG RH 0),(RG RH 0),(RG RH 0),(RG RH 0),(RG RH 0),(RG RI 0),(RL RK 0 0)]):=ig R1 R1 rfl R4
theorem U.iy:Tryz.prog.underlying T.iy=RJ (.array 2 T.int):=by kernel_rfl
theorem El.kP:fm RP T.kP T.ny 2 16 (.agg #[(RG RH 0),(RG RH 0)]):=ig R1 R1 rfl R4
theorem El.tK:fm RP T.tK T.uH 2 16 (.agg #[(RG RH 0),(RG RH 0)]):=ig R1 R1 rfl R4
theorem U.jO:Tryz.prog.underlying T.jO=RJ (.map T.int T.bool):=by kernel_rfl
theorem U.gP:Tryz.prog.underlying T.gP=RJ (.map T.int T.iy):=by kernel_rfl
theorem El.bP:fm RP T.bP T.jU 2 16 (.agg #[(RG RH 0),(RG RH 0)]):=ig R1 R1 rfl R4
theorem El.kI:fm RP T.kI T.aQ 1 24 (RL RK 0 0):=ig R1 R1 rfl R4
theorem El.lQ:fm RP T.lQ T.bool 1 1 (.bool RO):=ig R1 R1 rfl R4
theorem El.rm:fm RP T.rm T.lQ 1 24 (RL RK 0 0):=ig R1 R1 rfl R4
theorem U.cQ:Tryz.prog.underlying T.cQ=RJ (.map T.int T.gE):=by kernel_rfl
theorem U.gh:Tryz.prog.underlying T.gh=RJ (.map T.int T.jU):=by kernel_rfl
theorem El.gw:fm RP T.gw T.cC 4 64 (.agg #[(RG RH 0),(RG RH 0),(RL RK 0 0),(RL RK 0 0)]):=ig R1 R1 rfl R4
theorem U.eA:Tryz.prog.underlying T.eA=RJ (.map T.int T.dQ):=by kernel_rfl
end Go.Proofs.YtnfiilgdjpdlkaaGreatDoor
namespace Go.Lft
open Go Go.ChangeShapes Go.WideShapes Go.RowKit
structure RT (P:Program) (t:TypeId) (α:Type) [Rep α]:Prop where
 cells : ∀{H:Type} {enc:TypeId × Value->H} {W:World} {spare:Nat->Bool} {held:Bool} {fuel:Nat} {cs:List Value} {d:DataW H} {ps:List MemPlace},
  DataW.trod enc P W 0 spare held fuel t cs=RJ (d,ps)->(∀b∈d.weights P t,b<=reachBytes)->∃x:α,Rep.rd (vw W.heap) cs x
 val : ∀{W:World} {r:Reach} {base:Nat} {v:Value},Value.okWide P W r base t v->if Rep.agg α then ∃cs,v = .agg cs else v.cells = #[v]
theorem RT.arg{P:Program}{t:TypeId}{α:Type}[Rep α](rt:RT P t α){H:Type}{enc:TypeId × Value->H}{W:World}{spare:Nat->Bool}{held:Bool}{v:Value}{d:DataW H}{ps:List MemPlace}{r:Reach}{base:Nat}(h:DataW.Trod enc P W 0 spare held t v d ps)(hok:Value.okWide P W r base t v)(hw : ∀b∈d.weights P t,b<=reachBytes): ∃x:α,Rd (vw W.heap) v x:=by
 obtain⟨fuel,h⟩:=h;obtain⟨x,hx⟩:=rt.cells h hw;have hv:=rt.val hok;refine⟨x,?_⟩;unfold Rd;split
 ·rename_i ha;rw[if_pos ha]at hv;obtain⟨cs,rfl⟩:=hv;exact⟨cs,rfl,hx⟩
 rename_i ha;rw[if_neg ha]at hv;rw[hv]at hx;exact hx
theorem wf_i64{n:Int}(h:(Lit.int .i64 n).wf=RN):-9223372036854775808<=n/\n<=9223372036854775807:=by simp only[Lit.wf,NS,decide_eq_true_eq]at h;simpa[IntKind.min,IntKind.max,IntKind.signed,IntKind.bits]using h
section
variable {P:Program} {t e:TypeId} {H:Type} {enc:TypeId × Value->H} {W:World} {spare:Nat->Bool} {held:Bool} {fuel:Nat} {cs:List Value} {x:DataW H × List MemPlace}
theorem trod_int{k:IntKind}(ht:P.underlying t=RJ (.int k))(h:DataW.trod enc P W 0 spare held fuel t cs=RJ x): ∃n,cs=[.int k n]/\(Lit.int k n).wf=true:=by
 cases fuel with
 | zero=>simp[DataW.trod]at h
 | succ n=>unfold DataW.trod at h;rw[ht]at h;split at h<;>simp_all
end
section
variable {P:Program} {t e:TypeId}
theorem Lw(ht:P.underlying t=RJ (.int .i64)):RT P t Int where
 cells:=fun{H enc W spare held fuel cs d ps} h _=>by
  obtain⟨n,rfl,hw⟩:=trod_int ht h
  exact⟨n,rfl,wf_i64 hw⟩
 val:=fun{W r base v} h=>by
  simp only[Value.okWide,ht,Cell.okWide]at h
  cases v<;>simp[Cell.ok,ht]at h ⊢<;>first | rfl | simp[Rep.agg,Value.cells]
theorem zj{W:World}{a:Addr}{v:Value}(h:W.cell? a=RJ v):a.spot=RK/\∃c T fz,W.heap[a.block]? = RJ (.cells c T fz)/\c[a.off]? = RJ v:=by
 unfold World.cell? at h;split at h
 ·rename_i c T fz hb;split at h
  ·cases h
  rename_i hs;exact⟨by simpa using hs,c,T,fz,hb,h⟩
 cases h
theorem xX{W:World}{a:Addr}{n:Nat}{c:List Value}(hn:0<n)(h:W.cells? 0 a n=RJ c):a.spot=RK/\jf (vw W.heap) a c:=by
 obtain⟨_,hl,hc⟩:=World.cells?_some h;have h0:=hc 0 hn;have e0:a.add 0=a:=by simp[Addr.add]
 rw[e0,OI R3]at h0;obtain⟨hs,arr,T,fz,hb,_⟩:=zj h0;refine⟨hs,arr,T,fz,hs,hb,QH λi=>?_⟩;by_cases hi:i<n
 ·have h1:=hc i hi;rw[bR hs]at h1;simp only[World.cell?,hb]at h1;rw[Pq,if_pos R3,PX];simpa using h1
 rw[ON R9,ON R3]
theorem vQ {H:Type} {P:Program} {e:TypeId} : ∀{l:List (DataW H)} {d:DataW H},d∈l->∀b∈d.weights P e,b∈DataW.weightsAll P e l
 | x::l,d,hd,b,hb=>by
  rw[DataW.weightsAll,NU];rcases N5.1 hd with rfl | hd
  ·exact .inl hb
  exact .inr (vQ hd b hb)
theorem Ik{α:Type}[Rep α](ht:P.underlying t=RJ (.slice e))(hc:P.cellsOf e=Rep.n α)(hby:1<=P.bytesOf e)(re:RT P e α):RT P t (List α) where
 cells:=fun{H enc W spare held fuel cs d ps} h hw=>by
  rcases DataW.trod_slice ht h with⟨rfl,_⟩ | ⟨a,len,cap,elems,rest,n,_,rfl,hx,_,hlc,hcm,hel,hget,_,_⟩
  ·exact⟨[],_,rfl,RK,0,rfl,by simp,by simp,.inl rfl⟩
  ·simp only[Pu]at hx
   obtain⟨rfl,_⟩:=hx
   have hwt : ∀b∈(DataW.slice (elems.map (·.1)) (rest.map (·.1))).weights P t,b<=reachBytes:=hw
   unfold DataW.weights at hwt
   rw[ht]at hwt
   simp only[N5,NU,Po]at hwt
   have hlen:len<=140737488351232:=by
    have h1:=hwt _ (.inl rfl)
    have h2:elems.length*1<=(elems.length+rest.length)*P.bytesOf e:=P8 R3 hby
    have h3:reachBytes=140737488351232:=rfl
    omega
   have hpos:=Rep.pos (α:=α)
   have each : ∀i,i<len->∃x:α,∃c,W.cells? 0 (a.add (i*Rep.n α)) (Rep.n α)=RJ c/\Rep.rd (vw W.heap) c x:=by
    intro i hi
    have h1:=hget i hi
    rw[hc,OI R3,N0]at h1
    obtain⟨c,hc1,hc2⟩:=h1
    obtain⟨x,hx⟩:=re.cells (d:=elems[i].1) (ps:=elems[i].2) hc2 λb hb=>hwt b (.inr (.inl (vQ (Pk.2 ⟨_,O5 R3,rfl⟩) b hb)))
    exact⟨x,c,hc1,hx⟩
   have key : ∀k,k<=len->∃l:List α,l.length=k/\∀(i:Nat) (hi:i<l.length),∃c,W.cells? 0 (a.add (i*Rep.n α)) (Rep.n α)=RJ c/\Rep.rd (vw W.heap) c l[i]:=by
    intro k
    induction k with
    | zero=>exact λ_=>⟨[],rfl,λi hi=>by simp at hi⟩
    | succ k ih=>
     intro hk
     obtain⟨l,h1,h2⟩:=ih R3
     obtain⟨x,c,h3,h4⟩:=each k R3
     refine⟨l++[x],by simp[h1],λi hi=>?_⟩
     rcases NQ i l.length with hlt | hge
     ·rw[Qv hlt];exact h2 i hlt
     ·have:i=k:=by simp at hi;omega
      subst this
      rw[Qj hge]
      simp only[h1,QG,PE]
      exact⟨c,h3,h4⟩
   obtain⟨l,h1,h2⟩:=key len (NO _)
   refine⟨l,_,rfl,RJ a,cap,by rw[h1],by omega,by omega,?_⟩
   rcases PG len with h0 | h0
   ·left;exact N3 R3
   ·right
    obtain⟨c,h3,_⟩:=h2 0 R3
    have e0:a.add (0*Rep.n α)=a:=by simp[Addr.add]
    rw[e0]at h3
    refine⟨a,rfl,(xX hpos h3).1,λi hi=>?_⟩
    obtain⟨c,h3,h4⟩:=h2 i hi
    exact⟨c,(xX hpos h3).2,h4⟩
 val:=fun{W r base v} h=>by
  simp only[Value.okWide,ht,Cell.okWide]at h
  cases v<;>simp[Cell.ok,ht]at h ⊢<;>first | rfl | simp[Rep.agg,Value.cells]
theorem I7(ht:P.underlying t=RJ (.array 2 e))(he:P.underlying e=RJ (.int .i64))(hc:P.cellsOf e=1)(hc2:P.cellsOf t=2):RT P t (Int × Int) where
 cells:=fun{H enc W spare held fuel cs d ps} h _=>by
  obtain⟨xs,m,_,_,hl,hxl,hget⟩:=DataW.trod_array ht h
  rw[hc2]at hl
  match cs,hl with
  | [u,v],_=>
   have h0:=hget 0 R3
   have h1:=hget 1 R3
   rw[hc,OI R3]at h0 h1
   obtain⟨a,e1,w1⟩:=trod_int he h0
   obtain⟨b,e2,w2⟩:=trod_int he h1
   simp at e1 e2
   subst e1;subst e2
   exact⟨(a,b),rfl,wf_i64 w1,wf_i64 w2⟩
 val:=fun{W r base v} h=>by
  simp only[Value.okWide,ht]at h
  obtain⟨cs,rfl,_⟩:=h
  exact⟨cs,rfl⟩
end
theorem G3{w w':World}(hs:Same w w')(hle:(vw w.heap).le (vw w'.heap)):Below w.heap.size w w':=
 ⟨hs.os,hs.tape,hs.output,hs.size,λk hk=>by have:=hle k w.heap[k] (N6 hk);rw[N6 hk];exact this⟩
theorem rO {H:Type} {enc:TypeId × Value->H} {P:Program} {W W':World} (hl:laidOutB P=RN) (hb:Below W.heap.size W W') : ∀{ts:List TypeId} {vs:List Value} {ds:List (DataW H)} {ps:List MemPlace},
  (∀t∈ts,P.readableRec t=RN/\t<P.types.size)->DataW.TrodAll enc P W 0 (λ_=>RN) RN ts vs ds ps->(∀x∈ps,x.block<W.heap.size)->DataW.TrodAll enc P W' 0 (λb=>decide (b<W.heap.size)) RN ts vs ds ps
 | [],vs,ds,ps,_,h,_=>by obtain⟨rfl,rfl,rfl⟩:=trodAll_nil h;rfl
 | t::ts,vs,ds,ps,hr,h,hlt=>by obtain⟨v,vs',d,ds',p,q,rfl,rfl,rfl,h1,h2⟩:=trodAll_cons h;obtain⟨g1,g2⟩:=hr t (NX ..);exact⟨p,q,Below.trod hl g1 g2 h1 hb λx hx=>hlt x (O9 _ hx),rO hl hb (λt ht=>hr t (NZ _ ht)) h2 λx hx=>hlt x (O6 _ hx),rfl⟩
theorem Ih{H:Type}{enc:TypeId × Value->H}{P:Program}{fn:Func}{s:ChangeSpec}{W W':World}{args:Array Value}{ds gs:List (DataW H)}{before:List MemPlace}{fresh:Bool}{tb:TypeId}(hl:laidOutB P=RN)(hr : ∀t∈fn.params.toList,P.readableRec t=RN/\t<P.types.size)(hW:DataW.Whole enc P fn.params.toList s.vars RO W args.toList ds gs before)(hv:s.vars=[])(hs:s.fn H (ds++gs)={ results:=[.lit (.bool RN)],args:=ds })(hres:fn.resultTypes = #[tb])(htb:P.underlying tb=RJ .bool)(hb:Below W.heap.size W W'):s.post enc P fn RO fresh RO RO W args (.bool RN) W':=by
 have hW0:=hW;obtain⟨p,q,hA,hV,rfl,_,_⟩:=hW;rw[hv]at hV;obtain⟨rfl,rfl⟩:=trodVars_none hV;have hlt : ∀x∈p,x.block<W.heap.size:=λx hx=>by simpa using hW0.lt x (O9 _ hx)
 refine⟨ds,[],p++[],[],p,[],hW0,?_,?_,?_,hb.frame _,λh=>by cases h⟩
 ·rw[hs,hres];exact trodAll_mk1 (shut_bool htb RN)
 ·rw[hs];exact rO hl hb hr hA hlt
 rw[hv,hs];rfl
end Go.Lft
namespace Go.Proofs.YtnfiilgdjpdlkaaGreatDoor
open Go Go.Lft
theorem Tryz.own:ownKnob Tryz.prog.godebug=none:=by kernel_rfl
theorem Tryz.laidOut:laidOutB RP=true:=by kernel_rfl
theorem rtI:RT RP T.int Int:=Lw R1
theorem rtIs:RT RP T.aQ (List Int):=Ik (e:=T.int) R1 R1 (of_decide_eq_true R1) rtI
end Go.Proofs.YtnfiilgdjpdlkaaGreatDoor
namespace Go.Lft
open Go Go.ChangeShapes Go.WideShapes Go.RowKit
theorem Mu{H:Type}{enc:TypeId × Value->H}{P:Program}{a:Assume}{C:Checked}{os:Os}{f:FuncId}{fn:Func}{s:ChangeSpec}{conds:List PathCond}{fresh:Bool}{tb t1 t2 t3:TypeId}{α β γ:Type}[Rep α][Rep β][Rep γ]{X:World->Prop}{F:Heap->Prop}(hX : ∀w w':World,w.heap=w'.heap->X w->X w')(hF : ∀w,X w->F w.heap)(own:ownKnob C.prog.godebug=RK)(started:os.Started)(noInit:C.prog.inits.idxOf? f=RK)(hfn:C.prog.funcs[f]? = RJ fn)(hP:C.prog=P)(witness : ∃(w:World) (tape:Tape) (i:Input),w.os=os/\(w.forCall tape i).Shaped C.prog/\i.vars=[]/\Input.okWide C.prog (w.forCall tape i) .any w.heap.size f i/\
   ((s.pre enc C.prog fn conds RO (w.forCall tape i).memory i.args/\X (w.forCall tape i).memory)/\sizedMet enc C.prog fn (OpenSpec.ofChange s) RO (w.forCall tape i).memory i.args)/\a.holds C.prog (lone (Frame.enter C.prog f i.args .normal) [] (w.forCall tape i)))(hl:laidOutB P=RN)(hr : ∀t∈fn.params.toList,P.readableRec t=RN/\t<P.types.size)(hv:s.vars=[])(hs : ∀ds,ds.length=3->s.fn H ds={ results:=[.lit (.bool RN)],args:=ds })(hres:fn.resultTypes = #[tb])(htb:P.underlying tb=RJ .bool)(hp:fn.params = #[t1,t2,t3])(r1:RT P t1 α)(r2:RT P t2 β)(r3:RT P t3 γ)(hcall : ∀(h:Heap) (v1:Value) (x1:α) (v2:Value) (x2:β) (v3:Value) (x3:γ),F h->Rd (vw h) v1 x1->Rd (vw h) v2 x2->Rd (vw h) v3 x3->az P f #[v1,v2,v3] h (λv h'=>v = .bool RN/\(vw h).le (vw h'))):
  ReturnsInHanded a C os f .any (λw args=>(s.pre enc C.prog fn conds RO w args/\X w)/\sizedMet enc C.prog fn (OpenSpec.ofChange s) RO w args) (s.post enc C.prog fn RO fresh RO RO):=by
 subst hP;refine returnsInHanded_of_change_and (X:=λw _=>X w) (λw w' _ hh h=>hX w w' hh h) own started noInit hfn witness ?_;intro W base args ds gs before hval hW _ hwt hXW _;have hW0:=hW;obtain⟨p,q,hA,hV,_,_,_⟩:=hW;rw[hv]at hV;obtain⟨hgs,_⟩:=trodVars_none hV;rw[hp]at hA;obtain⟨v1,v2,v3,d1,d2,d3,p1,p2,p3,hargs,hds,_,h1,h2,h3⟩:=trodAll_three hA;have hlen:(ds++gs).length=3:=by rw[hds,hgs];rfl
 have e0:s.plain.varTypes C.prog=[]:=by simp[DataSpec.varTypes,ChangeSpec.plain,hv]
 rw[hgs,hds,hp,e0]at hwt;simp only[Pn,OJ,decide_eq_true_eq]at hwt;obtain⟨x1,q1⟩:=r1.arg h1 (hval 0 t1 v1 (by rw[hp];rfl) (by rw[hargs];rfl)) (λb hb=>hwt b (by simp[DataW.weightsEach,hb]));obtain⟨x2,q2⟩:=r2.arg h2 (hval 1 t2 v2 (by rw[hp];rfl) (by rw[hargs];rfl)) (λb hb=>hwt b (by simp[DataW.weightsEach,hb]));obtain⟨x3,q3⟩:=r3.arg h3 (hval 2 t3 v3 (by rw[hp];rfl) (by rw[hargs];rfl)) (λb hb=>hwt b (by simp[DataW.weightsEach,hb]));rw[hargs];refine(hcall W.heap v1 x1 v2 x2 v3 x3 (hF W hXW) q1 q2 q3 W rfl).mono ?_;rintro e W' ⟨v,rfl,⟨rfl,hle⟩,hsame⟩;rw[<-hargs];have hgs':ds++gs=ds:=by rw[hgs,Pn]
 exact⟨_,rfl,Ih hl hr hW0 hv (by rw[hs _ hlen,hgs']) hres htb (G3 hsame hle)⟩
end Go.Lft
namespace Go.Proofs.YtnfiilgdjpdlkaaGreatDoor
open Go Go.Lft
abbrev Gr:=List (List Int)
def oE (g:Gr) (a b:Int):Bool:=decide (0<=a/\a<g.length/\0<=b/\b<g.length)&&(nth g a.toNat).contains b
def mb (g:Gr) (a:Int):List Int:=sift (λb=>oE g a b) (λb=>(b:Int)) g.length
def uC (g:Gr):Gr:=rows (λb=>sift (λa=>oE g a b) (λa=>(a:Int)) g.length) g.length
def wI (gone:Int) (l:List Int) (i:Nat) (out:List Bool):List Bool:=out.set (nth l i).toNat (nth out (nth l i).toNat||decide (nth l i≠gone))
def outBlock (g:Gr) (gone:Int) (a:Nat) (out:List Bool):List Bool:=if nth out a then up (wI gone (mb g a)) (mb g a).length out else out
def oN (g:Gr) (gone:Int) (out:List Bool):List Bool:=up (outBlock g gone) g.length out
def oA (g:Gr) (gone:Int):List Bool:=
 if g.length=0\/gone=0 then List.replicate g.length RO else up (λ_=>oN g gone) g.length ((List.replicate g.length RO).set 0 RN)
theorem zT{β γ:Type}(m:β->γ){f:Nat->β->β}(hf : ∀k x,m (f k x)=m x)(n:Nat)(x:β):m (up f n x)=m x:=by
 induction n with
 | zero=>rfl
 | succ n ih=>rw[up,hf,ih]
def domC (g:Gr) (a b:Nat):Bool:=nth (oA g (-1)) a&&nth (oA g (-1)) b&&(decide ((a:Int)=(b:Int))||!nth (oA g a) b)
def qv (l:List Int) (a:Int):Nat->Int->Bool
 | 0,_=>RO
 | k+1,b=>if b=a then RN else if b<0\/(l.length:Int)<=b then RO else qv l a k (nth l b.toNat)
def eO (l:List Int) (a b:Int):Bool:=decide (0<=a/\a<l.length/\0<=b/\b<l.length)&&qv l a (l.length+1) b
def DY (p:Nat->Bool) (b:Nat) (s:Bool):Bool:=s&&p b
def vY (p:Nat->Bool) (n:Nat):Bool:=up (DY p) n RN
theorem xg{p:Nat->Bool}{n:Nat}:vY p (n+1)=(vY p n&&p n):=rfl
theorem DE{g:Gr}:(uC g).length=g.length:=by simp[uC]
def jZ (nx:Int->List Int):Nat->Int->List Bool × List Int->List Bool × List Int
 | 0,_,s=>s
 | n+1,a,s=>let r:=up (λi s=>if nth s.1 (nth (nx a) i).toNat then s else jZ nx n (nth (nx a) i) s) (nx a).length (s.1.set a.toNat RN,s.2);(r.1,r.2++[a])
def dd (nx:Int->List Int) (n:Nat) (a:Int) (i:Nat) (s:List Bool × List Int):List Bool × List Int:=if nth s.1 (nth (nx a) i).toNat then s else jZ nx n (nth (nx a) i) s
theorem kR{nx:Int->List Int}{n:Nat}{a:Int}{s:List Bool × List Int}:
  jZ nx (n+1) a s=((up (dd nx n a) (nx a).length (s.1.set a.toNat RN,s.2)).1,(up (dd nx n a) (nx a).length (s.1.set a.toNat RN,s.2)).2++[a]):=rfl
def dH (t:List Bool):Nat:=t.count RO
theorem jR{t:List Bool}{i:Nat}(hi:i<t.length)(hf:nth t i=RO):dH (t.set i RN)+1=dH t:=by rw[aA hi]at hf;unfold dH;rw[List.count_set hi];have hp:0<t.count false:=List.count_pos_iff.2 (hf▸O5 hi);simp[hf];omega
theorem y7{t:List Bool}{i:Nat}:dH (t.set i RN)<=dH t:=by
 rcases NQ i t.length with hi | hi
 ·unfold dH;rw[List.count_set hi];simp
 rw[List.set_eq_of_length_le hi];exact NO _
theorem ug{β:Type}(I:β->Prop){f:Nat->β->β}(hf : ∀k x,I x->I (f k x))(n:Nat)(x:β)(hx:I x):I (up f n x):=by
 induction n with
 | zero=>exact hx
 | succ n ih=>rw[up];exact hf _ _ ih
theorem qx {nx:Int->List Int} {m c:Nat} : ∀(n:Nat) (a:Int) (s:List Bool × List Int),s.1.length=m/\dH s.1<=c->(jZ nx n a s).1.length=m/\dH (jZ nx n a s).1<=c
 | 0,_,_,h=>h
 | n+1,a,s,h=>by
  rw[kR];refine ug (λs:List Bool × List Int=>s.1.length=m/\dH s.1<=c) (λk x hx=>?_) _ _ ⟨by simpa using h.1,OD y7 h.2⟩;unfold dd;split
  ·exact hx
  exact qx n _ x hx
def lZ (nx:Int->List Int) (n:Nat):List Int:=if n=0 then[] else(jZ nx n 0 (List.replicate n RO,[])).2.reverse
theorem mF{α:Type}[Rep α]{W:View}{h:Heap}{e:TypeId}{v:Value}{l:List α}(o:OwnT W h e v l):v.cells = #[v]/\v.oneCell'=true:=by have:=o.len (K:=nothing);cases v<;>first | exact⟨rfl,rfl⟩ | (simp[Un.ev,vL]at this)
end Go.Proofs.YtnfiilgdjpdlkaaGreatDoor
namespace Go.Proofs.YtnfiilgdjpdlkaaGreatDoor
open Go Go.Lft
section
set_option maxRecDepth 100000
def q:List LC->LC|[]=>.skip|[a]=>a|a::b::l=>.seq a (q (b::l))
def k(K:List Nat)(S:List (Nat×E)):LC:=.reg RO (.fin K S [])
def f(n c i:Nat)(K K2:List Nat)(e:E)(b:LC):LC:=.seq (.seq (.reg RO (.fin K [(c,e)] [])) (.cond (.tmp c) [c] .skip (.exit n))) (.seq b (.reg RO (.fin K2 [(i,.bin (.arith .add) (.tmp i) (.con (RG RH 1)))] [])))
def u(n:Nat)(x y:LC):LC:=.cond (.tmp n) [n] x y
def v(n:Nat)(x:LC):LC:=.block n (.loop x)
def l(K:List Nat)(S A:List (Nat×E))(o:Op)(y d:Nat)(r:Reg):Reg:=.loud K S A RK [] RO o y (RJ d) RN r
def s(K:List Nat)(S A:List (Nat×E))(o:Op)(r:Reg):Reg:=.loud K S A RK [] RO o 0 RK RO r
def p(A:List (Nat×E))(o:Op)(y d:Nat)(r:Reg):Reg:=.loud [] [] A RK [] RO o y (RJ d) RN r
def z:Reg:=.fin [] [] []
def w:List Nat->List (Nat×E)|[]=>[]|a::l=>(a,.tmp a)::w l
def t(n:Nat):E:=.tmp n
def c(n:Int):E:=.con (RG RH n)
def d(x:E):E:=.un .load x
def e(n:Nat)(x:E):E:=.un (.fld n) x
def g(n:Nat)(x:E):E:=.un .load (.un (.fld n) x)
def i(n:Nat)(x y:E):E:=.bin (.idx n) x y
def h(x:E):E:=.un .len x
def j(o:BinOp)(x y:E):E:=.bin (.cmp o) x y
def o(x y:E):E:=.bin (.arith .add) x y
def a(n:Nat):Operand:=.tmp n
def x(n:Nat)(A:List Nat)(T:List Nat):Op:=.call ⟨.value (.func n),(A.map .tmp).toArray,T.toArray⟩
theorem sh:(∀a,q [a]=a)/\(∀a b l,q (a::b::l)=.seq a (q (b::l)))/\(∀K S,k K S=.reg RO (.fin K S []))/\(∀n c i K L e b,f n c i K L e b=.seq (.seq (.reg RO (.fin K [(c,e)] [])) (.cond (.tmp c) [c] .skip (.exit n))) (.seq b (.reg RO (.fin L [(i,.bin (.arith .add) (.tmp i) (.con (RG RH 1)))] []))))/\(∀n x y,u n x y=.cond (.tmp n) [n] x y)/\(∀n x,v n x=.block n (.loop x))/\(∀K S A o y d r,l K S A o y d r=.loud K S A RK [] RO o y (RJ d) RN r)/\(∀K S A o r,s K S A o r=.loud K S A RK [] RO o 0 RK RO r)/\(∀A o y d r,p A o y d r=.loud [] [] A RK [] RO o y (RJ d) RN r)/\(z=.fin [] [] [])/\(w []=[])/\(∀a l,w (a::l)=(a,.tmp a)::w l)/\(∀n,t n=.tmp n)/\(∀n,c n=.con (RG RH n))/\(∀x,d x=.un .load x)/\(∀n x,e n x=.un (.fld n) x)/\(∀n x,g n x=.un .load (.un (.fld n) x))/\(∀n x y,i n x y=.bin (.idx n) x y)/\(∀x,h x=.un .len x)/\(∀o x y,j o x y=.bin (.cmp o) x y)/\(∀m n,o m n=.bin (.arith .add) m n)/\(∀n,a n=.tmp n)/\(∀n A T,x n A T=.call ⟨.value (.func n),(A.map .tmp).toArray,T.toArray⟩)/\(∀(p:Nat->Operand) n l,List.map p (n::l)=p n::l.map p)/\(∀p:Nat->Operand,List.map p []=[]):=⟨λ_=>rfl,λ_ _ _=>rfl,λ_ _=>rfl,λ_ _ _ _ _ _ _=>rfl,λ_ _ _=>rfl,λ_ _=>rfl,λ_ _ _ _ _ _ _=>rfl,λ_ _ _ _ _=>rfl,λ_ _ _ _ _=>rfl,rfl,rfl,λ_ _=>rfl,λ_=>rfl,λ_=>rfl,λ_=>rfl,λ_ _=>rfl,λ_ _=>rfl,λ_ _ _=>rfl,λ_=>rfl,λ_ _ _=>rfl,λ_ _=>rfl,λ_=>rfl,λ_ _ _=>rfl,λ_ _ _=>rfl,λ_=>rfl⟩
set_option maxRecDepth 100000
set_option maxHeartbeats 4000000
def L.lB:LFn:=lkF QP Tryz.f4
theorem E.lB:aL RP Tryz.f4=RJ L.lB:=R1
end
section
set_option maxRecDepth 100000
set_option maxHeartbeats 4000000
def A.gN:=lkA Tryz.f11
def B.gN:=lkB Tryz.f11
def L.gN:LFn:=lkG QP Tryz.f11 A.gN B.gN (lfS lfc (lfS lfc lfc))
theorem E.gN:aL RP Tryz.f11=RJ L.gN:=R1
def L.pf:LFn:=lkF QP Tryz.f13
theorem E.pf:aL RP Tryz.f13=RJ L.pf:=R1
def L.nO:LFn:=lkF QP Tryz.f14
theorem E.nO:aL RP Tryz.f14=RJ L.nO:=R1
def L.pn:LFn:=lkF QP Tryz.f15
theorem E.pn:aL RP Tryz.f15=RJ L.pn:=R1
def L.rK:LFn:=lkF QP Tryz.f16
theorem E.rK:aL RP Tryz.f16=RJ L.rK:=R1
def A.dr:=lkA Tryz.f17
def B.dr:=lkB Tryz.f17
def L.dr.l1:LC:=lkL QP Tryz.f17 A.dr B.dr [1,1,0,1,0,0] lfc
def L.dr:LFn:=lkG QP Tryz.f17 A.dr B.dr (lfS lfc (lfS lfc (lfS (lfS lfc (lfB (lfO L.dr.l1))) lfc)))
theorem E.dr:aL RP Tryz.f17=RJ L.dr:=R1
def L.ll:LFn:=lkF QP Tryz.f18
theorem E.ll:aL RP Tryz.f18=RJ L.ll:=R1
def A.fg:=lkA Tryz.f19
def B.fg:=lkB Tryz.f19
def L.fg.l1:LC:=lkL QP Tryz.f19 A.fg B.fg [1,1,0,1,0,0] lfc
def L.fg:LFn:=lkG QP Tryz.f19 A.fg B.fg (lfS lfc (lfS lfc (lfS (lfS lfc (lfB (lfO L.fg.l1))) lfc)))
theorem E.fg:aL RP Tryz.f19=RJ L.fg:=R1
def L.rH:LFn:=lkF QP Tryz.f20
theorem E.rH:aL RP Tryz.f20=RJ L.rH:=R1
def L.pz:LFn:=lkF QP Tryz.f21
theorem E.pz:aL RP Tryz.f21=RJ L.pz:=R1
end
section
set_option maxRecDepth 100000
set_option maxHeartbeats 4000000
def A.ic:=lkA Tryz.f22
def B.ic:=lkB Tryz.f22
def L.ic.l1:LC:=lkL QP Tryz.f22 A.ic B.ic [1,1,0,1,0,0] lfc
def L.ic:LFn:=lkG QP Tryz.f22 A.ic B.ic (lfS lfc (lfS lfc (lfS (lfS lfc (lfB (lfO L.ic.l1))) lfc)))
theorem E.ic:aL RP Tryz.f22=RJ L.ic:=R1
def A.fj:=lkA Tryz.f23
def B.fj:=lkB Tryz.f23
def L.fj.l1:LC:=lkL QP Tryz.f23 A.fj B.fj [1,1,0,1,0,0] lfc
def L.fj:LFn:=lkG QP Tryz.f23 A.fj B.fj (lfS lfc (lfS lfc (lfS (lfS lfc (lfB (lfO L.fj.l1))) lfc)))
theorem E.fj:aL RP Tryz.f23=RJ L.fj:=R1
def L.lD:LFn:=lkF QP Tryz.f24
theorem E.lD:aL RP Tryz.f24=RJ L.lD:=R1
def A.bw:=lkA Tryz.f26
def B.bw:=lkB Tryz.f26
def L.bw.l1:LC:=lkL QP Tryz.f26 A.bw B.bw [1,1,1,1,0,1,0,0] lfc
def L.bw.l3:LC:=lkL QP Tryz.f26 A.bw B.bw [1,1,1,1,1,1,0,1,0,0,1,1,0,0,1,1,0,0] lfc
def L.bw.l2:LC:=lkL QP Tryz.f26 A.bw B.bw [1,1,1,1,1,1,0,1,0,0] (lfS lfc (lfS lfc (lfS (lfB (lfS lfc (lfS lfc (lfB (lfO L.bw.l3))))) lfc)))
def L.bw.l5:LC:=lkL QP Tryz.f26 A.bw B.bw [1,1,1,1,1,1,1,1,1,0,1,0,0,1,1,0,0,1,1,0,0] lfc
def L.bw.l4:LC:=lkL QP Tryz.f26 A.bw B.bw [1,1,1,1,1,1,1,1,1,0,1,0,0] (lfS lfc (lfS lfc (lfS (lfB (lfS lfc (lfS lfc (lfB (lfO L.bw.l5))))) lfc)))
def L.bw:LFn:=lkG QP Tryz.f26 A.bw B.bw (lfS lfc (lfS lfc (lfS lfc (lfS lfc (lfS (lfS lfc (lfB (lfO L.bw.l1))) (lfS lfc (lfS (lfS lfc (lfB (lfO L.bw.l2))) (lfS lfc (lfS lfc (lfS (lfS lfc (lfB (lfO L.bw.l4))) lfc))))))))))
theorem E.bw:aL RP Tryz.f26=RJ L.bw:=R1
def L.nP:LFn:=lkF QP Tryz.f27
theorem E.nP:aL RP Tryz.f27=RJ L.nP:=R1
def L.kg:LFn:=lkF QP Tryz.f28
theorem E.kg:aL RP Tryz.f28=RJ L.kg:=R1
def L.q7:LFn:=lkF QP Tryz.f33
theorem E.q7:aL RP Tryz.f33=RJ L.q7:=R1
def L.jh:LFn:=lkF QP Tryz.f34
theorem E.jh:aL RP Tryz.f34=RJ L.jh:=R1
end
section
set_option maxRecDepth 100000
set_option maxHeartbeats 4000000
def A.au:=lkA Tryz.f35
def B.au:=lkB Tryz.f35
def L.au.l1:LC:=lkL QP Tryz.f35 A.au B.au [1,1,1,1,1,1,1,0,1,0,0] lfc
def L.au.l3:LC:=lkL QP Tryz.f35 A.au B.au [1,1,1,1,1,1,1,1,1,0,1,0,0,1,0,0,1,1,1,0,0] lfc
def L.au.l2:LC:=lkL QP Tryz.f35 A.au B.au [1,1,1,1,1,1,1,1,1,0,1,0,0] (lfS lfc (lfS (lfB (lfS lfc (lfS lfc (lfS lfc (lfB (lfO L.au.l3)))))) lfc))
def L.au.l6:LC:=lkL QP Tryz.f35 A.au B.au [1,1,1,1,1,1,1,1,1,1,1,0,1,0,0,1,0,0,1,0,0,1,0,0,1,1,0,1,0,0] lfc
def L.au.l7:LC:=lkL QP Tryz.f35 A.au B.au [1,1,1,1,1,1,1,1,1,1,1,0,1,0,0,1,0,0,1,0,0,1,0,0,1,1,1,0,1,0,0] lfc
def L.au.l8:LC:=lkL QP Tryz.f35 A.au B.au [1,1,1,1,1,1,1,1,1,1,1,0,1,0,0,1,0,0,1,0,0,1,0,0,1,1,1,1,1,1,1,0,1,0,0] lfc
def L.au.l10:LC:=lkL QP Tryz.f35 A.au B.au [1,1,1,1,1,1,1,1,1,1,1,0,1,0,0,1,0,0,1,0,0,1,0,0,1,1,1,1,1,1,1,1,0,1,0,0,1,0,0,1,0,1,0,0] lfc
def L.au.l11:LC:=lkL QP Tryz.f35 A.au B.au [1,1,1,1,1,1,1,1,1,1,1,0,1,0,0,1,0,0,1,0,0,1,0,0,1,1,1,1,1,1,1,1,0,1,0,0,1,0,0,1,1,1,0,0] lfc
def L.au.l9:LC:=lkL QP Tryz.f35 A.au B.au [1,1,1,1,1,1,1,1,1,1,1,0,1,0,0,1,0,0,1,0,0,1,0,0,1,1,1,1,1,1,1,1,0,1,0,0] (lfS lfc (lfS (lfB (lfS lfc (lfS (lfS lfc (lfB (lfO L.au.l10))) (lfS lfc (lfB (lfO L.au.l11)))))) lfc))
def L.au.l12:LC:=lkL QP Tryz.f35 A.au B.au [1,1,1,1,1,1,1,1,1,1,1,0,1,0,0,1,0,0,1,0,0,1,0,0,1,1,1,1,1,1,1,1,1,1,0,1,0,0] lfc
def L.au.l5:LC:=lkL QP Tryz.f35 A.au B.au [1,1,1,1,1,1,1,1,1,1,1,0,1,0,0,1,0,0,1,0,0] (lfS lfc (lfS (lfB (lfS lfc (lfS lfc (lfS (lfS lfc (lfB (lfO L.au.l6))) (lfS (lfS lfc (lfB (lfO L.au.l7))) (lfS lfc (lfS lfc (lfS lfc (lfS (lfS lfc (lfB (lfO L.au.l8))) (lfS (lfS lfc (lfB (lfO L.au.l9))) (lfS lfc (lfS (lfS lfc (lfB (lfO L.au.l12))) lfc)))))))))))) lfc))
def L.au.l4:LC:=lkL QP Tryz.f35 A.au B.au [1,1,1,1,1,1,1,1,1,1,1,0,1,0,0] (lfS lfc (lfS (lfB (lfS lfc (lfB (lfO L.au.l5)))) lfc))
def L.au.l15:LC:=lkL QP Tryz.f35 A.au B.au [1,1,1,1,1,1,1,1,1,1,1,1,0,1,0,0,1,0,0,1,1,0,0,1,0,0,1,0,1,0,0] lfc
def L.au.l14:LC:=lkL QP Tryz.f35 A.au B.au [1,1,1,1,1,1,1,1,1,1,1,1,0,1,0,0,1,0,0,1,1,0,0] (lfS lfc (lfS (lfB (lfS lfc (lfS (lfS lfc (lfB (lfO L.au.l15))) lfc))) lfc))
def L.au.l13:LC:=lkL QP Tryz.f35 A.au B.au [1,1,1,1,1,1,1,1,1,1,1,1,0,1,0,0] (lfS lfc (lfS (lfB (lfS lfc (lfS lfc (lfB (lfO L.au.l14))))) lfc))
def L.au:LFn:=lkG QP Tryz.f35 A.au B.au (lfS lfc (lfS lfc (lfS lfc (lfS lfc (lfS lfc (lfS lfc (lfS lfc (lfS (lfS lfc (lfB (lfO L.au.l1))) (lfS lfc (lfS (lfS lfc (lfB (lfO L.au.l2))) (lfS lfc (lfS (lfS lfc (lfB (lfO L.au.l4))) (lfS (lfS lfc (lfB (lfO L.au.l13))) lfc)))))))))))))
theorem E.au:aL RP Tryz.f35=RJ L.au:=R1
def L.nG:LFn:=lkF QP Tryz.f36
theorem E.nG:aL RP Tryz.f36=RJ L.nG:=R1
def L.tB:LFn:=lkF QP Tryz.f37
theorem E.tB:aL RP Tryz.f37=RJ L.tB:=R1
def L.wS:LFn:=lkF QP Tryz.f38
theorem E.wS:aL RP Tryz.f38=RJ L.wS:=R1
def L.lj:LFn:=lkF QP Tryz.f39
theorem E.lj:aL RP Tryz.f39=RJ L.lj:=R1
def L.kf:LFn:=lkF QP Tryz.f40
theorem E.kf:aL RP Tryz.f40=RJ L.kf:=R1
def A.strings_Fields:=lkA Tryz.f41
def B.strings_Fields:=lkB Tryz.f41
def L.nT:LFn:=lkF QP Tryz.f42
theorem E.nT:aL RP Tryz.f42=RJ L.nT:=R1
def A.cH:=lkA Tryz.f43
def B.cH:=lkB Tryz.f43
def L.cH.l2:LC:=lkL QP Tryz.f43 A.cH B.cH [1,1,0,1,0,0,1,1,0,1,1,0,1,0,0] lfc
def L.cH.l1:LC:=lkL QP Tryz.f43 A.cH B.cH [1,1,0,1,0,0] (lfS lfc (lfS lfc (lfB (lfS lfc (lfS lfc (lfS (lfS lfc (lfB (lfO L.cH.l2))) lfc))))))
def L.cH:LFn:=lkG QP Tryz.f43 A.cH B.cH (lfS lfc (lfS lfc (lfS (lfS lfc (lfB (lfO L.cH.l1))) lfc)))
theorem E.cH:aL RP Tryz.f43=RJ L.cH:=R1
def R.mR:List E:=[.un .load (.tmp 2),.un .load (.tmp 3),.un .load (.tmp 4)]

def L.lh:LC:=by apply(fun{b:LC}(_:b=.reg RO (p (w [0]) (.box 27 (a 0)) 0 1 (p [] (.alloc 57) 0 2 (p [] (.alloc 3) 0 3 (p [] (.alloc 3) 0 4 z)))))=>b);simp only[sh];rfl
theorem E.lh:eF RP Tryz.f44.ntmps (iV Tryz.f44) (BZ Tryz.f44) RO (Am Tryz.f44)=RJ L.lh:=R1
def L.ir.l1:LC:=by apply(fun{b:LC}(_:b=q [k [26] [(26,j .lss (t 25) (t 24))],u 26 .skip (.exit 0),.block 1 (q [.reg RO (l [27,28] [(28,.un (.aZ 6) (i 6 (t 23) (t 25)))] [] (.alloc 35) 0 7 (s [] [] (w [7,28]) (.store 35 (a 7) (a 28)) z)),k [29,30,31,32,33,34,35,36,37,5] [(5,o (t 5) (o (h (g 0 (t 7))) (h (g 1 (t 7)))))]]),k [38,25] [(25,o (t 25) (c 1))]])=>b);simp only[sh];rfl
def L.ir:LC:=by apply(fun{b:LC}(_:b=q [.reg RO (l [10,11] [] [(11,g 0 (t 1))] (.call ⟨.value (.func 69),#[a 11,.const (RG RH 0),.const (RG RH 4)],#[3,3,3]⟩) 4 12 (.loud [] [] (w [12]) RK [] RO (.call ⟨.value (.func 68),#[a 12,.const (RG RH 1),.const (RG RH 0),.const (RG RH 0)],#[4,57,3,3]⟩) 0 (RJ 13) RO z)),.reg RO (.loud [14,15,16,17] [] [(17,j .gtr (h (g 1 (t 1))) (c 0))] RK [] RO (.call ⟨.value (.func 68),#[a 17,.const (RG RH 14),.const (RG RH 0),.const (RG RH 0)],#[4,57,3,3]⟩) 0 (RJ 18) RO z),k [19,20,21,5] [(5,h (g 1 (t 1)))],q [k [22,23,24,25] [(23,g 1 (t 1)),(24,h (g 1 (t 1))),(25,c 0)],v 0 L.ir.l1],.reg RO (.loud [39,40,41,42,43,44,45,46] [] [(46,.ite (j .leq (h (g 1 (t 1))) (c 512)) (j .leq (t 5) (c 4096)) (.con (.bool RO)))] RK [] RO (.call ⟨.value (.func 68),#[a 46,.const (RG RH 2),.const (RG RH 0),.const (RG RH 0)],#[4,57,3,3]⟩) 0 (RJ 47) RO z),.reg RO (l [48] [(48,.un (.aZ 2) (t 1))] [] (.makeMap 147 RK) 147 49 (p (w [48,49]) (.build 149 #[(0,a 48),(1,a 49)]) 149 50 (p (w [50]) (.box 149 (a 50)) 146 51 (.fin [8] [(8,t 51)] [])))),.reg RO (.loud [52] [] [(52,t 8)] RK [] RO (x 70 [52] [146]) 0 (RJ 53) RO z),.reg RO (.loud [54] [] [(54,t 8)] RK [] RO (x 71 [54] [146]) 0 (RJ 55) RO z),.reg RO (s [] [] (w [2]) (.store 57 (a 2) (.const (RG RH 0))) (s [] [] (w [3]) (.store 3 (a 3) (.const (RG RH 0))) (s [] [] (w [4]) (.store 3 (a 4) (.const (RG RH 0))) z))),.ret])=>b);simp only[sh];rfl
theorem E.ir:eF RP Tryz.f44.ntmps (iV Tryz.f44) (BZ Tryz.f44) RO (GN Tryz.f44)=RJ L.ir:=R1
theorem R.yD:Tryz.f44.results.toList.mapM (resE RP)=RJ R.mR:=by kernel_rfl
theorem B.mR:Tryz.f44.body=RJ (.seq (Am Tryz.f44) (.seq (.region (J9 (Kl Tryz.f44)) #[Kh Tryz.f44 0,Kh Tryz.f44 1] RO) (GN Tryz.f44))):=by kernel_rfl
def A.bE:=lkA Tryz.f45
def B.bE:=lkB Tryz.f45
def L.bE.l3:LC:=lkL QP Tryz.f45 A.bE B.bE [1,1,0,0,1,1,0,0,1,0,1,0,0,1,1,0,0,1,1,0,1,0,0] lfc
def L.bE.l2:LC:=lkL QP Tryz.f45 A.bE B.bE [1,1,0,0,1,1,0,0,1,0,1,0,0] (lfS lfc (lfS lfc (lfS (lfB (lfS lfc (lfS lfc (lfS (lfS lfc (lfB (lfO L.bE.l3))) lfc)))) lfc)))
def L.bE.l4:LC:=lkL QP Tryz.f45 A.bE B.bE [1,1,0,0,1,1,0,0,1,1,0,1,0,0] lfc
def L.bE.l1:LC:=lkL QP Tryz.f45 A.bE B.bE [1,1,0,0] (lfS lfc (lfS lfc (lfS (lfB (lfS lfc (lfS (lfS lfc (lfB (lfO L.bE.l2))) (lfS (lfS lfc (lfB (lfO L.bE.l4))) lfc)))) lfc)))
def L.bE:LFn:=lkG QP Tryz.f45 A.bE B.bE (lfS lfc (lfS lfc (lfB (lfO L.bE.l1))))
theorem E.bE:aL RP Tryz.f45=RJ L.bE:=R1
end
section
set_option maxRecDepth 100000
set_option maxHeartbeats 4000000
def A.bL:=lkA Tryz.f46
def B.bL:=lkB Tryz.f46
def L.bL.l1:LC:=lkL QP Tryz.f46 A.bL B.bL [0,1,0,0] lfc
def L.bL.l2:LC:=lkL QP Tryz.f46 A.bL B.bL [1,1,0,0] lfc
def L.bL:LFn:=lkG QP Tryz.f46 A.bL B.bL (lfS (lfS lfc (lfB (lfO L.bL.l1))) (lfS lfc (lfB (lfO L.bL.l2))))
theorem E.bL:aL RP Tryz.f46=RJ L.bL:=R1
def L.slices_Contains_int:LFn:=lkF QP Tryz.f47
theorem E.slices_Contains_int:aL RP Tryz.f47=RJ L.slices_Contains_int:=R1
def A.aO:=lkA Tryz.f50
def B.aO:=lkB Tryz.f50
def L.aO.l1:LC:=lkL QP Tryz.f50 A.aO B.aO [1,1,0,1,0,0] lfc
def L.aO.l3:LC:=lkL QP Tryz.f50 A.aO B.aO [1,1,1,0,1,0,0,1,0,0,1,1,0,0] lfc
def L.aO.l2:LC:=lkL QP Tryz.f50 A.aO B.aO [1,1,1,0,1,0,0] (lfS lfc (lfS (lfB (lfS lfc (lfS lfc (lfB (lfO L.aO.l3))))) lfc))
def L.aO:LFn:=lkG QP Tryz.f50 A.aO B.aO (lfS lfc (lfS lfc (lfS (lfS lfc (lfB (lfO L.aO.l1))) (lfS (lfS lfc (lfB (lfO L.aO.l2))) lfc))))
theorem E.aO:aL RP Tryz.f50=RJ L.aO:=R1
def A.dw:=lkA Tryz.f51
def B.dw:=lkB Tryz.f51
def L.dw.l2:LC:=lkL QP Tryz.f51 A.dw B.dw [1,1,0,1,0,0,1,0,0,1,1,0,0] lfc
def L.dw.l1:LC:=lkL QP Tryz.f51 A.dw B.dw [1,1,0,1,0,0] (lfS lfc (lfS (lfB (lfS lfc (lfS lfc (lfB (lfO L.dw.l2))))) lfc))
def L.dw:LFn:=lkG QP Tryz.f51 A.dw B.dw (lfS lfc (lfS lfc (lfS (lfS lfc (lfB (lfO L.dw.l1))) lfc)))
theorem E.dw:aL RP Tryz.f51=RJ L.dw:=R1
def L.iD:LFn:=lkF QP Tryz.f52
theorem E.iD:aL RP Tryz.f52=RJ L.iD:=R1
def A.cr:=lkA Tryz.f53
def B.cr:=lkB Tryz.f53
def L.cr.l2:LC:=lkL QP Tryz.f53 A.cr B.cr [1,1,1,1,0,1,0,0,1,0,0,1,1,0,0] lfc
def L.cr.l1:LC:=lkL QP Tryz.f53 A.cr B.cr [1,1,1,1,0,1,0,0] (lfS lfc (lfS (lfB (lfS lfc (lfS lfc (lfB (lfO L.cr.l2))))) lfc))
def L.cr:LFn:=lkG QP Tryz.f53 A.cr B.cr (lfS lfc (lfS lfc (lfS lfc (lfS lfc (lfS (lfS lfc (lfB (lfO L.cr.l1))) lfc)))))
theorem E.cr:aL RP Tryz.f53=RJ L.cr:=R1
def L.oc:LFn:=lkF QP Tryz.f54
theorem E.oc:aL RP Tryz.f54=RJ L.oc:=R1
def A.bo:=lkA Tryz.f55
def B.bo:=lkB Tryz.f55
def L.bo.l1:LC:=lkL QP Tryz.f55 A.bo B.bo [1,0,1,1,1,1,1,1,1,1,1,0,1,1,0,1,0,0] lfc
def L.bo:LFn:=lkG QP Tryz.f55 A.bo B.bo (lfS lfc (lfB (lfS lfc (lfK lfc (lfS lfc (lfK lfc (lfS lfc (lfK lfc (lfS lfc (lfK lfc (lfS lfc (lfK (lfS lfc (lfS lfc (lfS (lfS lfc (lfB (lfO L.bo.l1))) lfc))) lfc))))))))))))
theorem E.bo:aL RP Tryz.f55=RJ L.bo:=R1
def L.jI:LFn:=lkF QP Tryz.f56
theorem E.jI:aL RP Tryz.f56=RJ L.jI:=R1
def A.cm:=lkA Tryz.f57
def B.cm:=lkB Tryz.f57
def L.cm.l1:LC:=lkL QP Tryz.f57 A.cm B.cm [1,1,0,1,0,0] lfc
def L.cm.l2:LC:=lkL QP Tryz.f57 A.cm B.cm [1,1,1,1,0,1,0,0] lfc
def L.cm:LFn:=lkG QP Tryz.f57 A.cm B.cm (lfS lfc (lfS lfc (lfS (lfS lfc (lfB (lfO L.cm.l1))) (lfS lfc (lfS (lfS lfc (lfB (lfO L.cm.l2))) lfc)))))
theorem E.cm:aL RP Tryz.f57=RJ L.cm:=R1
def L.gn:LFn:=lkF QP Tryz.f58
theorem E.gn:aL RP Tryz.f58=RJ L.gn:=R1
def L.jn:LFn:=lkF QP Tryz.f59
theorem E.jn:aL RP Tryz.f59=RJ L.jn:=R1
end
section
set_option maxRecDepth 100000
set_option maxHeartbeats 4000000
def A.aX:=lkA Tryz.f60
def B.aX:=lkB Tryz.f60
def L.aX.l1:LC:=lkL QP Tryz.f60 A.aX B.aX [1,1,1,1,0,1,0,0] lfc
def L.aX.l2:LC:=lkL QP Tryz.f60 A.aX B.aX [1,1,1,1,1,1,1,1,1,1,0,1,0,0] lfc
def L.aX.l3:LC:=lkL QP Tryz.f60 A.aX B.aX [1,1,1,1,1,1,1,1,1,1,1,0,1,0,0] lfc
def L.aX.l5:LC:=lkL QP Tryz.f60 A.aX B.aX [1,1,1,1,1,1,1,1,1,1,1,1,1,1,0,1,0,0,1,0,0,1,1,0,1,0,0,1,0,0] lfc
def L.aX.l6:LC:=lkL QP Tryz.f60 A.aX B.aX [1,1,1,1,1,1,1,1,1,1,1,1,1,1,0,1,0,0,1,0,0,1,1,1,1,1,1,0,1,0,0] lfc
def L.aX.l7:LC:=lkL QP Tryz.f60 A.aX B.aX [1,1,1,1,1,1,1,1,1,1,1,1,1,1,0,1,0,0,1,0,0,1,1,1,1,1,1,1,1,1,0,0] lfc
def L.aX.l4:LC:=lkL QP Tryz.f60 A.aX B.aX [1,1,1,1,1,1,1,1,1,1,1,1,1,1,0,1,0,0] (lfS lfc (lfS (lfB (lfS lfc (lfS lfc (lfS (lfS lfc (lfK (lfS (lfS lfc (lfB (lfO L.aX.l5))) lfc) lfc)) (lfS lfc (lfS lfc (lfS lfc (lfS (lfS lfc (lfB (lfO L.aX.l6))) (lfS lfc (lfS lfc (lfB (lfO L.aX.l7)))))))))))) lfc))
def L.aX:LFn:=lkG QP Tryz.f60 A.aX B.aX (lfS lfc (lfS lfc (lfS lfc (lfS lfc (lfS (lfS lfc (lfB (lfO L.aX.l1))) (lfS lfc (lfS lfc (lfS lfc (lfS lfc (lfS lfc (lfS (lfS lfc (lfB (lfO L.aX.l2))) (lfS (lfS lfc (lfB (lfO L.aX.l3))) (lfS lfc (lfS lfc (lfS (lfS lfc (lfB (lfO L.aX.l4))) lfc)))))))))))))))
theorem E.aX:aL RP Tryz.f60=RJ L.aX:=R1
def L.pA:LFn:=lkF QP Tryz.f61
theorem E.pA:aL RP Tryz.f61=RJ L.pA:=R1
def A.dS:=lkA Tryz.f62
def B.dS:=lkB Tryz.f62
def L.dS:LFn:=lkG QP Tryz.f62 A.dS B.dS (lfS lfc (lfS lfc (lfS lfc (lfS lfc (lfS (lfB (lfS lfc (lfK lfc (lfS lfc (lfK lfc (lfS lfc (lfK lfc lfc))))))) lfc)))))
theorem E.dS:aL RP Tryz.f62=RJ L.dS:=R1
def A.fu:=lkA Tryz.f63
def B.fu:=lkB Tryz.f63
def L.fu:LFn:=lkG QP Tryz.f63 A.fu B.fu (lfS lfc (lfS lfc (lfS lfc (lfS (lfB (lfS lfc (lfK lfc (lfS lfc (lfK lfc (lfS lfc lfc)))))) lfc))))
theorem E.fu:aL RP Tryz.f63=RJ L.fu:=R1
end
section
set_option maxRecDepth 100000
set_option maxHeartbeats 4000000
def A.bf:=lkA Tryz.f64
def B.bf:=lkB Tryz.f64
def L.bf.l1:LC:=lkL QP Tryz.f64 A.bf B.bf [1,1,1,1,1,1,1,0,1,0,0] lfc
def L.bf.l2:LC:=lkL QP Tryz.f64 A.bf B.bf [1,1,1,1,1,1,1,1,1,1,1,1,0,1,0,0] lfc
def L.bf:LFn:=lkG QP Tryz.f64 A.bf B.bf (lfS lfc (lfS lfc (lfS lfc (lfS lfc (lfS lfc (lfS lfc (lfS lfc (lfS (lfS lfc (lfB (lfO L.bf.l1))) (lfS lfc (lfS lfc (lfS lfc (lfS lfc (lfS (lfS lfc (lfB (lfO L.bf.l2))) lfc)))))))))))))
theorem E.bf:aL RP Tryz.f64=RJ L.bf:=R1
def L.gi:LFn:=by apply(fun{b:LFn}(_:b=⟨[],q [.reg RO (p [] (.call ⟨.builtin .recover,#[],#[]⟩) 20 6 z),.block 0 (q [.reg RO (p (w [6]) (.binOp .eql 20 (a 6) (.const .nilIface) 20) 4 8 z),u 8 (.reg RO (.fin [3] [] [t 6])) (q [.reg RO (p (w [6]) (.typeAssert (a 6) 20 144 RN) 0 9 (.fin [10,11] [(10,.un (.ext 1) (t 9)),(11,.un (.ext 0) (t 9))] [])),u 10 (q [.reg RO (p [] (.alloc 144) 0 4 (s [] [] (w [4,11]) (.store 144 (a 4) (a 11)) z)),.reg RN (s [12,13,14,15,16,17] [(15,g 1 (t 4)),(17,g 2 (t 4))] [(0,t 0),(13,g 0 (t 4))] (.store 57 (a 0) (a 13)) (s [] [] (w [1,15]) (.store 3 (a 1) (a 15)) (.loud [] [] (w [2,17]) RK [] RN (.store 3 (a 2) (a 17)) 0 RK RO z)))]) (q [k [5] [(5,t 6)],.reg RO (s [7] [] [(7,t 5)] (.panic (a 7)) z)])])])]⟩)=>b);simp only[sh];rfl
theorem Q.gi:Tryz.f67.body=RJ (.seq (.region (J9 (Am Tryz.f67)) #[KL Tryz.f67 0] RO) (J8 Tryz.f67)):=by kernel_rfl
theorem E.qm:eF RP Tryz.f67.ntmps (iV Tryz.f67) (BZ Tryz.f67) RO (J8 Tryz.f67)=RJ L.gi.body.tail:=R1
def L.nr:LFn:=lkF QP Tryz.f68
theorem E.nr:aL RP Tryz.f68=RJ L.nr:=R1
def L.mA:LFn:=lkF QP Tryz.f69
theorem E.mA:aL RP Tryz.f69=RJ L.mA:=R1
def A.aJ:=lkA Tryz.f70
def B.aJ:=lkB Tryz.f70
def L.aJ.l2:LC:=lkL QP Tryz.f70 A.aJ B.aJ [1,0,0,1,1,0,0,1,0,1,0,0] lfc
def L.aJ.l3:LC:=lkL QP Tryz.f70 A.aJ B.aJ [1,0,0,1,1,0,0,1,1,0,1,0,0] lfc
def L.aJ.l4:LC:=lkL QP Tryz.f70 A.aJ B.aJ [1,0,0,1,1,0,0,1,1,1,1,1,1,0,0] lfc
def L.aJ.l1:LC:=lkL QP Tryz.f70 A.aJ B.aJ [1,0,0] (lfS lfc (lfS lfc (lfS (lfB (lfS lfc (lfS (lfS lfc (lfB (lfO L.aJ.l2))) (lfS (lfS lfc (lfB (lfO L.aJ.l3))) (lfS lfc (lfS lfc (lfS lfc (lfB (lfO L.aJ.l4))))))))) lfc)))
def L.aJ:LFn:=lkG QP Tryz.f70 A.aJ B.aJ (lfS lfc (lfB (lfO L.aJ.l1)))
theorem E.aJ:aL RP Tryz.f70=RJ L.aJ:=R1
def A.ay:=lkA Tryz.f71
def B.ay:=lkB Tryz.f71
def L.ay.l1:LC:=lkL QP Tryz.f71 A.ay B.ay [1,1,1,0,1,0,0] lfc
def L.ay.l4:LC:=lkL QP Tryz.f71 A.ay B.ay [1,1,1,1,1,1,1,0,0,1,1,0,0,1,0,1,0,0,1,1,0,0,1,1,0,1,0,0] lfc
def L.ay.l5:LC:=lkL QP Tryz.f71 A.ay B.ay [1,1,1,1,1,1,1,0,0,1,1,0,0,1,0,1,0,0,1,1,0,0,1,1,1,1,1,0,0] lfc
def L.ay.l3:LC:=lkL QP Tryz.f71 A.ay B.ay [1,1,1,1,1,1,1,0,0,1,1,0,0,1,0,1,0,0] (lfS lfc (lfS lfc (lfS (lfB (lfS lfc (lfS lfc (lfS (lfS lfc (lfB (lfO L.ay.l4))) (lfS lfc (lfS lfc (lfB (lfO L.ay.l5)))))))) lfc)))
def L.ay.l7:LC:=lkL QP Tryz.f71 A.ay B.ay [1,1,1,1,1,1,1,0,0,1,1,0,0,1,1,0,1,0,0,1,1,0,0,1,1,0,0] lfc
def L.ay.l6:LC:=lkL QP Tryz.f71 A.ay B.ay [1,1,1,1,1,1,1,0,0,1,1,0,0,1,1,0,1,0,0] (lfS lfc (lfS lfc (lfS (lfB (lfS lfc (lfS lfc (lfB (lfO L.ay.l7))))) lfc)))
def L.ay.l8:LC:=lkL QP Tryz.f71 A.ay B.ay [1,1,1,1,1,1,1,0,0,1,1,0,0,1,1,1,1,0,0] lfc
def L.ay.l2:LC:=lkL QP Tryz.f71 A.ay B.ay [1,1,1,1,1,1,1,0,0] (lfS lfc (lfS lfc (lfS (lfB (lfS lfc (lfS (lfS lfc (lfB (lfO L.ay.l3))) (lfS (lfS lfc (lfB (lfO L.ay.l6))) (lfS lfc (lfB (lfO L.ay.l8))))))) lfc)))
def L.ay:LFn:=lkG QP Tryz.f71 A.ay B.ay (lfS lfc (lfS lfc (lfS lfc (lfS (lfS lfc (lfB (lfO L.ay.l1))) (lfS lfc (lfS lfc (lfS lfc (lfB (lfO L.ay.l2)))))))))
theorem E.ay:aL RP Tryz.f71=RJ L.ay:=R1
def L.nX:LFn:=lkF QP Tryz.f72
theorem E.nX:aL RP Tryz.f72=RJ L.nX:=R1
def A.slices_Index_int:=lkA Tryz.f73
def B.slices_Index_int:=lkB Tryz.f73
def L.slices_Index_int.l1:LC:=lkL QP Tryz.f73 A.slices_Index_int B.slices_Index_int [1,0,1,0,0] lfc
def L.slices_Index_int:LFn:=lkG QP Tryz.f73 A.slices_Index_int B.slices_Index_int (lfS lfc (lfS (lfS lfc (lfB (lfO L.slices_Index_int.l1))) lfc))
theorem E.slices_Index_int:aL RP Tryz.f73=RJ L.slices_Index_int:=R1
def L.jq:LFn:=lkF QP Tryz.f88
theorem E.jq:aL RP Tryz.f88=RJ L.jq:=R1
def L.jD:LFn:=lkF QP Tryz.f89
theorem E.jD:aL RP Tryz.f89=RJ L.jD:=R1
def L.gX:LFn:=lkF QP Tryz.f90
theorem E.gX:aL RP Tryz.f90=RJ L.gX:=R1
end
section
set_option maxRecDepth 100000
set_option maxHeartbeats 4000000
def A.bC:=lkA Tryz.f91
def B.bC:=lkB Tryz.f91
def L.bC.l3:LC:=lkL QP Tryz.f91 A.bC B.bC [1,1,0,1,0,0,1,0,0,1,0,1,0,0,1,0,0,1,0,1,0,0] lfc
def L.bC.l2:LC:=lkL QP Tryz.f91 A.bC B.bC [1,1,0,1,0,0,1,0,0,1,0,1,0,0] (lfS lfc (lfS (lfB (lfS lfc (lfS (lfS lfc (lfB (lfO L.bC.l3))) lfc))) lfc))
def L.bC.l4:LC:=lkL QP Tryz.f91 A.bC B.bC [1,1,0,1,0,0,1,0,0,1,1,0,1,0,0] lfc
def L.bC.l1:LC:=lkL QP Tryz.f91 A.bC B.bC [1,1,0,1,0,0] (lfS lfc (lfS (lfB (lfS lfc (lfS (lfS lfc (lfB (lfO L.bC.l2))) (lfS (lfS lfc (lfB (lfO L.bC.l4))) lfc)))) lfc))
def L.bC:LFn:=lkG QP Tryz.f91 A.bC B.bC (lfS lfc (lfS lfc (lfS (lfS lfc (lfB (lfO L.bC.l1))) lfc)))
theorem E.bC:aL RP Tryz.f91=RJ L.bC:=R1
def A.bH:=lkA Tryz.f92
def B.bH:=lkB Tryz.f92
def L.bH.l2:LC:=lkL QP Tryz.f92 A.bH B.bH [1,1,1,0,1,0,0,1,0,0,1,1,1,1,1,0,1,0,0] lfc
def L.bH.l3:LC:=lkL QP Tryz.f92 A.bH B.bH [1,1,1,0,1,0,0,1,0,0,1,1,1,1,1,1,0,1,0,0] lfc
def L.bH.l4:LC:=lkL QP Tryz.f92 A.bH B.bH [1,1,1,0,1,0,0,1,0,0,1,1,1,1,1,1,1,1,0,0] lfc
def L.bH.l1:LC:=lkL QP Tryz.f92 A.bH B.bH [1,1,1,0,1,0,0] (lfS lfc (lfS (lfB (lfS lfc (lfS lfc (lfS lfc (lfS lfc (lfS lfc (lfS (lfS lfc (lfB (lfO L.bH.l2))) (lfS (lfS lfc (lfB (lfO L.bH.l3))) (lfS lfc (lfB (lfO L.bH.l4))))))))))) lfc))
def L.bH:LFn:=lkG QP Tryz.f92 A.bH B.bH (lfS lfc (lfS lfc (lfS lfc (lfS (lfS lfc (lfB (lfO L.bH.l1))) lfc))))
theorem E.bH:aL RP Tryz.f92=RJ L.bH:=R1
def A.cA:=lkA Tryz.f93
def B.cA:=lkB Tryz.f93
def L.cA.l1:LC:=lkL QP Tryz.f93 A.cA B.cA [1,1,0,1,0,0] lfc
def L.cA.l3:LC:=lkL QP Tryz.f93 A.cA B.cA [1,1,1,0,1,0,0,1,0,0,1,0,0] lfc
def L.cA.l2:LC:=lkL QP Tryz.f93 A.cA B.cA [1,1,1,0,1,0,0] (lfS lfc (lfS (lfB (lfS lfc (lfB (lfO L.cA.l3)))) lfc))
def L.cA:LFn:=lkG QP Tryz.f93 A.cA B.cA (lfS lfc (lfS lfc (lfS (lfS lfc (lfB (lfO L.cA.l1))) (lfS (lfS lfc (lfB (lfO L.cA.l2))) lfc))))
theorem E.cA:aL RP Tryz.f93=RJ L.cA:=R1
def L.mI:LFn:=lkF QP Tryz.f94
theorem E.mI:aL RP Tryz.f94=RJ L.mI:=R1
def L.nQ:LFn:=lkF QP Tryz.f95
theorem E.nQ:aL RP Tryz.f95=RJ L.nQ:=R1
def L.jG:LFn:=lkF QP Tryz.f96
theorem E.jG:aL RP Tryz.f96=RJ L.jG:=R1
def L.kq:LFn:=lkF QP Tryz.f97
theorem E.kq:aL RP Tryz.f97=RJ L.kq:=R1
def A.gm:=lkA Tryz.f98
def B.gm:=lkB Tryz.f98
def L.gm:LFn:=lkG QP Tryz.f98 A.gm B.gm (lfS lfc (lfS lfc (lfS lfc (lfS lfc (lfS lfc (lfS (lfS lfc (lfB (lfS lfc (lfK lfc (lfS lfc (lfK lfc lfc)))))) lfc))))))
theorem E.gm:aL RP Tryz.f98=RJ L.gm:=R1
def L.js:LFn:=lkF QP Tryz.f99
theorem E.js:aL RP Tryz.f99=RJ L.js:=R1
def L.jM:LFn:=lkF QP Tryz.f100
theorem E.jM:aL RP Tryz.f100=RJ L.jM:=R1
def L.fR:LFn:=lkF QP Tryz.f101
theorem E.fR:aL RP Tryz.f101=RJ L.fR:=R1
def L.fO:LFn:=lkF QP Tryz.f102
theorem E.fO:aL RP Tryz.f102=RJ L.fO:=R1
def L.fV:LFn:=lkF QP Tryz.f103
theorem E.fV:aL RP Tryz.f103=RJ L.fV:=R1
def L.ov:LFn:=lkF QP Tryz.f104
theorem E.ov:aL RP Tryz.f104=RJ L.ov:=R1
def L.fT:LFn:=lkF QP Tryz.f105
theorem E.fT:aL RP Tryz.f105=RJ L.fT:=R1
def L.gl:LFn:=lkF QP Tryz.f106
theorem E.gl:aL RP Tryz.f106=RJ L.gl:=R1
def L.fM:LFn:=lkF QP Tryz.f107
theorem E.fM:aL RP Tryz.f107=RJ L.fM:=R1
end
section
set_option maxRecDepth 100000
set_option maxHeartbeats 4000000
def A.cS:=lkA Tryz.f108
def B.cS:=lkB Tryz.f108
def L.cS:LFn:=lkG QP Tryz.f108 A.cS B.cS (lfS lfc (lfS lfc (lfS lfc lfc)))
theorem E.cS:aL RP Tryz.f108=RJ L.cS:=R1
def L.gV:LFn:=lkF QP Tryz.f109
theorem E.gV:aL RP Tryz.f109=RJ L.gV:=R1
def L.fN:LFn:=lkF QP Tryz.f110
theorem E.fN:aL RP Tryz.f110=RJ L.fN:=R1
def L.jj:LFn:=lkF QP Tryz.f111
theorem E.jj:aL RP Tryz.f111=RJ L.jj:=R1
def L.gp:LFn:=lkF QP Tryz.f112
theorem E.gp:aL RP Tryz.f112=RJ L.gp:=R1
def L.fZ:LFn:=lkF QP Tryz.f113
theorem E.fZ:aL RP Tryz.f113=RJ L.fZ:=R1
def A.bK:=lkA Tryz.f115
def B.bK:=lkB Tryz.f115
def L.bK.l1:LC:=lkL QP Tryz.f115 A.bK B.bK [0,1,0,0] lfc
def L.bK.l2:LC:=lkL QP Tryz.f115 A.bK B.bK [1,1,0,0] lfc
def L.bK:LFn:=lkG QP Tryz.f115 A.bK B.bK (lfS (lfS lfc (lfB (lfO L.bK.l1))) (lfS lfc (lfB (lfO L.bK.l2))))
theorem E.bK:aL RP Tryz.f115=RJ L.bK:=R1
def L.kC:LFn:=lkF QP Tryz.f116
theorem E.kC:aL RP Tryz.f116=RJ L.kC:=R1
def L.mJ:LFn:=lkF QP Tryz.f117
theorem E.mJ:aL RP Tryz.f117=RJ L.mJ:=R1
def A.ia:=lkA Tryz.f118
def B.ia:=lkB Tryz.f118
def L.ia.l1:LC:=lkL QP Tryz.f118 A.ia B.ia [1,1,0,1,0,0] lfc
def L.ia:LFn:=lkG QP Tryz.f118 A.ia B.ia (lfS lfc (lfS lfc (lfS (lfS lfc (lfB (lfO L.ia.l1))) lfc)))
theorem E.ia:aL RP Tryz.f118=RJ L.ia:=R1
def L.nC:LFn:=lkF QP Tryz.f119
theorem E.nC:aL RP Tryz.f119=RJ L.nC:=R1
def L.nM:LFn:=by apply(fun{b:LFn}(_:b=⟨[t 2],q [k [2] [(2,.con (RL RK 0 0))],.reg RO (l [6,7] [] [(7,h (t 0)),(7,h (t 0))] (.makeSlice 120 (a 7) (a 7)) 120 8 (p [] (.alloc 120) 0 3 (s [] [] (w [3,8]) (.store 120 (a 3) (a 8)) z))),q [.reg RO (l [9] [] [(9,t 0)] (x 144 [9] [120]) 216 10 z),.block 0 (.rangef (t 10) [11,12] (q [k [4] [(4,t 11)],k [5] [(5,t 12)]]) (.block 1 (.reg RN (l [13,14,15,16,17,18,19] [(13,d (t 3)),(14,t 5),(18,d (i 1 (d (t 3)) (t 5)))] [(19,t 4)] (.buildSlice 22 1 #[(0,a 19)]) 22 20 (p (w [18,20]) (.call ⟨.builtin .append,#[a 18,a 20],#[22,22]⟩) 22 21 (.loud [22] [] [(22,i 1 (t 13) (t 14)),(21,t 21)] RK [] RN (.store 22 (a 22) (a 21)) 0 RK RO z))))))],k [23,2] [(2,d (t 3))],.ret]⟩)=>b);simp only[sh];rfl
theorem E.nM:aL RP Tryz.f120=RJ L.nM:=R1
end
section
set_option maxRecDepth 100000
set_option maxHeartbeats 4000000
def A.bG:=lkA Tryz.f121
def B.bG:=lkB Tryz.f121
def L.bG.l1:LC:=lkL QP Tryz.f121 A.bG B.bG [1,1,1,1,0,1,0,0] lfc
def L.bG.l2:LC:=lkL QP Tryz.f121 A.bG B.bG [1,1,1,1,1,0,1,0,0] lfc
def L.bG.l5:LC:=lkL QP Tryz.f121 A.bG B.bG [1,1,1,1,1,1,1,0,1,0,0,1,0,1,1,0,0,1,1,0,0,1,1,0,1,0,0] lfc
def L.bG.l4:LC:=lkL QP Tryz.f121 A.bG B.bG [1,1,1,1,1,1,1,0,1,0,0,1,0,1,1,0,0] (lfS lfc (lfS lfc (lfS (lfB (lfS lfc (lfS lfc (lfS (lfS lfc (lfB (lfO L.bG.l5))) lfc)))) lfc)))
def L.bG.l3:LC:=lkL QP Tryz.f121 A.bG B.bG [1,1,1,1,1,1,1,0,1,0,0] (lfS lfc (lfB (lfS lfc (lfS lfc (lfB (lfO L.bG.l4))))))
def L.bG:LFn:=lkG QP Tryz.f121 A.bG B.bG (lfS lfc (lfS lfc (lfS lfc (lfS lfc (lfS (lfS lfc (lfB (lfO L.bG.l1))) (lfS (lfS lfc (lfB (lfO L.bG.l2))) (lfS lfc (lfS (lfS lfc (lfB (lfO L.bG.l3))) lfc))))))))
theorem E.bG:aL RP Tryz.f121=RJ L.bG:=R1
def L.gz:LFn:=lkF QP Tryz.f122
theorem E.gz:aL RP Tryz.f122=RJ L.gz:=R1
def A.dc:=lkA Tryz.f123
def B.dc:=lkB Tryz.f123
def L.dc.l1:LC:=lkL QP Tryz.f123 A.dc B.dc [1,1,1,0,1,0,0] lfc
def L.dc:LFn:=lkG QP Tryz.f123 A.dc B.dc (lfS lfc (lfS lfc (lfS lfc (lfS (lfS lfc (lfB (lfO L.dc.l1))) lfc))))
theorem E.dc:aL RP Tryz.f123=RJ L.dc:=R1
def L.iK:LFn:=lkF QP Tryz.f124
theorem E.iK:aL RP Tryz.f124=RJ L.iK:=R1
def L.mj:LFn:=lkF QP Tryz.f125
theorem E.mj:aL RP Tryz.f125=RJ L.mj:=R1
def L.pB:LFn:=lkF QP Tryz.f126
theorem E.pB:aL RP Tryz.f126=RJ L.pB:=R1
def A.dP:=lkA Tryz.f127
def B.dP:=lkB Tryz.f127
def L.dP.l2:LC:=lkL QP Tryz.f127 A.dP B.dP [1,0,1,0,0,1,0,0,1,0,0] lfc
def L.dP.l1:LC:=lkL QP Tryz.f127 A.dP B.dP [1,0,1,0,0] (lfS lfc (lfS (lfB (lfS lfc (lfB (lfO L.dP.l2)))) lfc))
def L.dP:LFn:=lkG QP Tryz.f127 A.dP B.dP (lfS lfc (lfS (lfS lfc (lfB (lfO L.dP.l1))) lfc))
theorem E.dP:aL RP Tryz.f127=RJ L.dP:=R1
def A.dq:=lkA Tryz.f128
def B.dq:=lkB Tryz.f128
def L.dq.l1:LC:=lkL QP Tryz.f128 A.dq B.dq [1,1,1,1,1,1,0,1,0,0] lfc
def L.dq:LFn:=lkG QP Tryz.f128 A.dq B.dq (lfS lfc (lfS lfc (lfS lfc (lfS lfc (lfS lfc (lfS lfc (lfS (lfS lfc (lfB (lfO L.dq.l1))) lfc)))))))
theorem E.dq:aL RP Tryz.f128=RJ L.dq:=R1
def A.cj:=lkA Tryz.f129
def B.cj:=lkB Tryz.f129
def L.cj.l2:LC:=lkL QP Tryz.f129 A.cj B.cj [1,0,1,0,0,1,1,0,0,1,1,0,0] lfc
def L.cj.l1:LC:=lkL QP Tryz.f129 A.cj B.cj [1,0,1,0,0] (lfS lfc (lfS lfc (lfS (lfB (lfS lfc (lfS lfc (lfB (lfO L.cj.l2))))) lfc)))
def L.cj:LFn:=lkG QP Tryz.f129 A.cj B.cj (lfS lfc (lfS (lfS lfc (lfB (lfO L.cj.l1))) lfc))
theorem E.cj:aL RP Tryz.f129=RJ L.cj:=R1
def L.gW:LFn:=lkF QP Tryz.f130
theorem E.gW:aL RP Tryz.f130=RJ L.gW:=R1
def L.gR:LFn:=lkF QP Tryz.f131
theorem E.gR:aL RP Tryz.f131=RJ L.gR:=R1
def A.dG:=lkA Tryz.f132
def B.dG:=lkB Tryz.f132
def L.dG:LFn:=lkG QP Tryz.f132 A.dG B.dG (lfS lfc (lfS lfc lfc))
theorem E.dG:aL RP Tryz.f132=RJ L.dG:=R1
end
section
set_option maxRecDepth 100000
set_option maxHeartbeats 4000000
end
section
set_option maxRecDepth 100000
set_option maxHeartbeats 4000000
def A.dC:=lkA Tryz.f134
def B.dC:=lkB Tryz.f134
def L.dC:LFn:=lkG QP Tryz.f134 A.dC B.dC (lfS lfc (lfS lfc (lfS lfc (lfS lfc lfc))))
theorem E.dC:aL RP Tryz.f134=RJ L.dC:=R1
def A.dD:=lkA Tryz.f135
def B.dD:=lkB Tryz.f135
def L.dD:LFn:=lkG QP Tryz.f135 A.dD B.dD (lfS lfc (lfS lfc lfc))
theorem E.dD:aL RP Tryz.f135=RJ L.dD:=R1
def L.iF:LFn:=lkF QP Tryz.f138
theorem E.iF:aL RP Tryz.f138=RJ L.iF:=R1
def L.iE:LFn:=lkF QP Tryz.f139
theorem E.iE:aL RP Tryz.f139=RJ L.iE:=R1
def A.fi:=lkA Tryz.f140
def B.fi:=lkB Tryz.f140
def L.fi.l1:LC:=lkL QP Tryz.f140 A.fi B.fi [1,1,0,1,0,0] lfc
def L.fi:LFn:=lkG QP Tryz.f140 A.fi B.fi (lfS lfc (lfS lfc (lfS (lfS lfc (lfB (lfO L.fi.l1))) lfc)))
theorem E.fi:aL RP Tryz.f140=RJ L.fi:=R1
def A.eD:=lkA Tryz.f141
def B.eD:=lkB Tryz.f141
def L.eD.l1:LC:=lkL QP Tryz.f141 A.eD B.eD [1,1,0,1,0,0] lfc
def L.eD:LFn:=lkG QP Tryz.f141 A.eD B.eD (lfS lfc (lfS lfc (lfS (lfS lfc (lfB (lfO L.eD.l1))) lfc)))
theorem E.eD:aL RP Tryz.f141=RJ L.eD:=R1
def A.dI:=lkA Tryz.f142
def B.dI:=lkB Tryz.f142
def L.dI.l1:LC:=lkL QP Tryz.f142 A.dI B.dI [1,0,1,0,0] lfc
def L.dI:LFn:=lkG QP Tryz.f142 A.dI B.dI (lfS lfc (lfS (lfS lfc (lfB (lfO L.dI.l1))) lfc))
theorem E.dI:aL RP Tryz.f142=RJ L.dI:=R1
def L.nB:LFn:=lkF QP Tryz.f144
theorem E.nB:aL RP Tryz.f144=RJ L.nB:=R1
def A.dL:=lkA Tryz.f145
def B.dL:=lkB Tryz.f145
def L.dL.l1:LC:=lkL QP Tryz.f145 A.dL B.dL [1,1,0,0,0] lfc
def L.dL:LFn:=lkG QP Tryz.f145 A.dL B.dL (lfS lfc (lfS lfc (lfS (lfB (lfO L.dL.l1)) lfc)))
theorem E.dL:aL RP Tryz.f145=RJ L.dL:=R1
def L.iC:LFn:=lkF QP Tryz.f146
theorem E.iC:aL RP Tryz.f146=RJ L.iC:=R1
def A.fL:=lkA Tryz.f147
def B.fL:=lkB Tryz.f147
def L.fL.l1:LC:=lkL QP Tryz.f147 A.fL B.fL [1,1,0,1,0,0] lfc
def L.fL:LFn:=lkG QP Tryz.f147 A.fL B.fL (lfS lfc (lfS lfc (lfS (lfS lfc (lfB (lfO L.fL.l1))) lfc)))
theorem E.fL:aL RP Tryz.f147=RJ L.fL:=R1
def A.cG:=lkA Tryz.f150
def B.cG:=lkB Tryz.f150
def L.cG.l2:LC:=lkL QP Tryz.f150 A.cG B.cG [1,0,0,1,1,0,0,1,1,0,0] lfc
def L.cG.l1:LC:=lkL QP Tryz.f150 A.cG B.cG [1,0,0] (lfS lfc (lfS lfc (lfS (lfB (lfS lfc (lfS lfc (lfB (lfO L.cG.l2))))) lfc)))
def L.cG:LFn:=lkG QP Tryz.f150 A.cG B.cG (lfS lfc (lfB (lfO L.cG.l1)))
theorem E.cG:aL RP Tryz.f150=RJ L.cG:=R1
end
end Go.Proofs.YtnfiilgdjpdlkaaGreatDoor
namespace Go.Proofs
open Go.Shelf
def Tryz.BX:Go.Shelf.Ren:=⟨fun | 189=>148 | 125=>152 | 257=>151 | 128=>162 | 129=>163 | 294=>153 | 295=>154 | 296=>155 | 297=>156 | 298=>157 | 299=>158 | 216=>159 | 300=>160 | 301=>161 | 328=>164 | 329=>165 | 330=>166 | 331=>167 | 332=>168 | 215=>169 | 343=>170 | n=>n,fun | 28=>22 | 3=>3 | 46=>76 | 0=>0 | 51=>151 | 53=>74 | 4=>4 | 183=>225 | 182=>224 | 131=>167 | 5=>5 | 9=>9 | 218=>231 | 222=>235 | 228=>237 | 229=>182 | n=>n,fun | n=>n⟩
theorem Tryz.Ep:Go.Proofs.Lays.n189 RP Tryz.BX:={
 mixed:=by kernel_rfl
 f125:=Tryz.func152.trans (congrArg RJ R1)
 f128:=Tryz.func162.trans (congrArg RJ R1)
 f129:=Tryz.func163.trans (congrArg RJ R1)
 f189:=Tryz.func148.trans (congrArg RJ R1)
 f215:=Tryz.func169.trans (congrArg RJ R1)
 f216:=Tryz.func159.trans (congrArg RJ R1)
 f257:=Tryz.func151.trans (congrArg RJ R1)
 f294:=Tryz.func153.trans (congrArg RJ R1)
 f295:=Tryz.func154.trans (congrArg RJ R1)
 f296:=Tryz.func155.trans (congrArg RJ R1)
 f297:=Tryz.func156.trans (congrArg RJ R1)
 f298:=Tryz.func157.trans (congrArg RJ R1)
 f299:=Tryz.func158.trans (congrArg RJ R1)
 f300:=Tryz.func160.trans (congrArg RJ R1)
 f301:=Tryz.func161.trans (congrArg RJ R1)
 f328:=Tryz.func164.trans (congrArg RJ R1)
 f329:=Tryz.func165.trans (congrArg RJ R1)
 f330:=Tryz.func166.trans (congrArg RJ R1)
 f331:=Tryz.func167.trans (congrArg RJ R1)
 f332:=Tryz.func168.trans (congrArg RJ R1)
 f343:=Tryz.func170.trans (congrArg RJ R1)
 t0:=Tryz.underlying0
 a0:=Tryz.isAgg0
 z0:=Tryz.sizeOf0
 v0:=Tryz.zeroValue0
 t3:=Tryz.underlying3
 a3:=Tryz.isAgg3
 z3:=Tryz.sizeOf3
 v3:=Tryz.zeroValue3
 t4:=Tryz.underlying4
 a4:=Tryz.isAgg4
 z4:=Tryz.sizeOf4
 v4:=Tryz.zeroValue4
 t5:=Tryz.underlying5
 a5:=Tryz.isAgg5
 z5:=Tryz.sizeOf5
 v5:=Tryz.zeroValue5
 t9:=Tryz.underlying9
 a9:=Tryz.isAgg9
 z9:=Tryz.sizeOf9
 v9:=Tryz.zeroValue9
 t28:=Tryz.underlying22
 a28:=Tryz.isAgg22
 z28:=Tryz.sizeOf22
 v28:=Tryz.zeroValue22
 t46:=Tryz.underlying76
 a46:=Tryz.isAgg76
 z46:=Tryz.sizeOf76
 v46:=Tryz.zeroValue76
 t51:=Tryz.underlying151
 a51:=Tryz.isAgg151
 z51:=Tryz.sizeOf151
 v51:=Tryz.zeroValue151
 t53:=Tryz.underlying74
 a53:=Tryz.isAgg74
 z53:=Tryz.sizeOf74
 v53:=Tryz.zeroValue74
 t131:=Tryz.underlying167
 a131:=Tryz.isAgg167
 z131:=Tryz.sizeOf167
 v131:=Tryz.zeroValue167
 t182:=Tryz.underlying224
 a182:=Tryz.isAgg224
 z182:=Tryz.sizeOf224
 v182:=Tryz.zeroValue224
 t183:=Tryz.underlying225
 a183:=Tryz.isAgg225
 z183:=Tryz.sizeOf225
 v183:=Tryz.zeroValue225
 t218:=Tryz.underlying231
 a218:=Tryz.isAgg231
 z218:=Tryz.sizeOf231
 v218:=Tryz.zeroValue231
 t222:=Tryz.underlying235
 a222:=Tryz.isAgg235
 z222:=Tryz.sizeOf235
 v222:=Tryz.zeroValue235
 t228:=Tryz.underlying237
 a228:=Tryz.isAgg237
 z228:=Tryz.sizeOf237
 v228:=Tryz.zeroValue237
 t229:=Tryz.underlying182
 a229:=Tryz.isAgg182
 z229:=Tryz.sizeOf182
 v229:=Tryz.zeroValue182 }
open Go.Sort Go.RowKit in
theorem Tryz.slices_Sort_int (blk off cap:Nat) (zs:List Int) (w:World) (hH:Holds (RG .i64) w blk off zs.toArray) (hblk:blk<w.heap.size) (hsz:zs.length<4611686018427387904) :
  Calls RP 148 #[RL (RJ ⟨blk,off,RK⟩) zs.length cap] w λe w'=>e = .returned (.tuple #[])/\∃n os,w'=grow (putRow (RG .i64) (Sort.ahead w n) blk off (zs.mergeSort λx y=>decide (x<=y)).toArray) os:=Any.slices_Sort_int Tryz.Ep blk off cap zs w hH hblk hsz
def Tryz.Cr:Go.Shelf.Ren:=⟨fun | 112=>143 | n=>n,fun | 28=>22 | 3=>3 | 4=>4 | 0=>0 | n=>n,fun | n=>n⟩
theorem Tryz.D0:Go.Proofs.Lays.n112 RP Tryz.Cr:={
 mixed:=by kernel_rfl
 f112:=Tryz.func143.trans (congrArg RJ R1)
 t0:=Tryz.underlying0
 a0:=Tryz.isAgg0
 z0:=Tryz.sizeOf0
 v0:=Tryz.zeroValue0
 t3:=Tryz.underlying3
 a3:=Tryz.isAgg3
 z3:=Tryz.sizeOf3
 v3:=Tryz.zeroValue3
 t4:=Tryz.underlying4
 a4:=Tryz.isAgg4
 z4:=Tryz.sizeOf4
 v4:=Tryz.zeroValue4
 t28:=Tryz.underlying22
 a28:=Tryz.isAgg22
 z28:=Tryz.sizeOf22
 v28:=Tryz.zeroValue22 }
open Go.RowKit Go.Lib Go.Sort in
/-- slices.Reverse at []int: "Reverse reverses the elements of the slice in place.": THE SLICE's CELLS HOLD 'zs.reverse' BEHIND THE CALL; all else is as it was, but for the count of draws (the exchange 's[i], s[j] = s[j], s[i]' draws its order, once a round). IN THE WORDS OF slices.Sort's CONTRACT: 'Holds': the cells hold zs and none is frozen; 'putRow': the world with those cells holding another array. A slice of length 0 that is not nil is among them ('zs = []'); nil: '.._nil'. (LAID: no walk: one application.) -/
theorem Tryz.slices_Reverse_int (blk off cap:Nat) (zs:List Int) (w:World) (hH:Holds (RG .i64) w blk off zs.toArray) (hsz:zs.length<=9223372036854775807) :
  Calls RP 143 #[RL (RJ ⟨blk,off,RK⟩) zs.length cap] w λe w'=>e = .returned (.tuple #[])/\∃n,w'=putRow (RG .i64) (Sort.ahead w n) blk off zs.reverse.toArray:=Any.slices_Reverse_int Tryz.D0 blk off cap zs w hH hsz
open Go.RowKit Go.Lib Go.Sort in
/-- The same at a slice of length 0, a nil one too: nothing is read, nothing written, nothing drawn. (LAID: no walk: one application.) -/
theorem Tryz.slices_Reverse_int_empty (a:Option Addr) (cap:Nat) (w:World) :
  Calls RP 143 #[.slice a 0 cap] w λe w'=>e = .returned (.tuple #[])/\w'=w:=Any.slices_Reverse_int_empty Tryz.D0 a cap w
def Tryz.yF:Go.Shelf.Ren:=⟨fun | 20=>149 | n=>n,fun | 22=>22 | 3=>3 | 4=>4 | 0=>0 | n=>n,fun | n=>n⟩
theorem Tryz.yP:Go.Proofs.Lays2.n20 RP Tryz.yF:={
 mixed:=by kernel_rfl
 f20:=Tryz.func149.trans (congrArg RJ R1)
 t0:=Tryz.underlying0
 a0:=Tryz.isAgg0
 z0:=Tryz.sizeOf0
 v0:=Tryz.zeroValue0
 t3:=Tryz.underlying3
 a3:=Tryz.isAgg3
 z3:=Tryz.sizeOf3
 v3:=Tryz.zeroValue3
 t4:=Tryz.underlying4
 a4:=Tryz.isAgg4
 z4:=Tryz.sizeOf4
 v4:=Tryz.zeroValue4
 t22:=Tryz.underlying22
 a22:=Tryz.isAgg22
 z22:=Tryz.sizeOf22
 v22:=Tryz.zeroValue22
 i3:=by kernel_rfl }
open Go.RowKit Go.Lib Go.Sort in
/-- slices.Compact at []int: "Compact replaces consecutive runs of equal elements with a single copy. This is like the uniq command found on Unix. Compact modifies the contents of the slice s and returns the modified slice, which may have a smaller length. Compact zeroes the elements between the new length and the original length. The result preserves the nilness of s.": IT RETURNS THE SLICE CUT TO 'Lib.compact zs'; ITS CELLS HOLD 'Lib.compact zs', THEN ZERO VALUES up to the old length; all else is as it was, but for the count of draws. IN THE WORDS OF slices.Sort's CONTRACT ('Holds', 'putRow'): so the everyday 'slices.Sort(xs); xs = slices.Compact(xs)' goes from the one contract to the other. It asks 'zs.length <= cap' (every slice's: the reslicing 's[:k]' looks at it). Length 0, nil: '.._empty'. (LAID: no walk: one application.) -/
theorem Tryz.slices_Compact_int (blk off cap:Nat) (zs:List Int) (w:World) (hH:Holds (RG .i64) w blk off zs.toArray) (hsz:zs.length<=9223372036854775807) (hcap:zs.length<=cap) :
  Calls RP 149 #[RL (RJ ⟨blk,off,RK⟩) zs.length cap] w λe w'=>e = .returned (RL (RJ ⟨blk,off,RK⟩) (Lib.compact zs).length cap)/\∃q,w'=putRow (RG .i64) (Sort.ahead w q) blk off (Lib.compact zs++List.replicate (zs.length-(Lib.compact zs).length) 0).toArray:=Any.slices_Compact_int Tryz.yP blk off cap zs w hH hsz hcap
open Go.RowKit Go.Lib Go.Sort in
/-- The same at a slice of length 0, a nil one too: it comes back as it is. (LAID: no walk: one application.) -/
theorem Tryz.slices_Compact_int_empty (a:Option Addr) (cap:Nat) (w:World) :
  Calls RP 149 #[.slice a 0 cap] w λe w'=>e = .returned (.slice a 0 cap)/\w'=w:=Any.slices_Compact_int_empty Tryz.yP a cap w
open Go.RowKit Go.Sort in
/-- .. and plain. (LAID: no walk: one application.) -/
theorem Tryz.slices_Sort_int_none (p:Option Addr) (cap:Nat) (w:World) :
  Calls RP 148 #[.slice p 0 cap] w λe w'=>e = .returned (.tuple #[])/\w'=w:=Any.slices_Sort_int_none Tryz.Ep p cap w
end Go.Proofs
