/- A part of the proof: LftX, LftY, LftZ, LftF, LftG, LftH, LftM, LftN, LftQ, LftU, LftJ, LftK, T, LftP, LftA, Ua, Law, Ga, La, Lb, Lc, Ld, Le, Lf, Lg, Lh, Li, Lj, Lk, Ll, Shelf. -/
import Derived.Test.YtnfiilgdjpdlkaaGreatDoorZTAll0
import Derived.KernelRfl
import Derived.ChangeKeysEq
import Derived.MapKept
import Derived.RecoverIn
import Derived.Test.YtnfiilgdjpdlkaaGreatDoorChecked
import Derived.ProofKit
import Derived.OpenShut
import Derived.HandedShaped
import Derived.LaidMore
import Derived.Test.YtnfiilgdjpdlkaaGreatDoorProg
import Derived.Shelf.Small.Bits
import Derived.Shelf.Small.Wraps
import Derived.Shelf.Strconv.Itoa0
import Derived.Shelf.Sort.Plain
import Derived.Shelf.Unicode.Latin
import Derived.Shelf.Unicode.Is16White
import Derived.Shelf.Unicode.IsSpaceAny
import Derived.Shelf.Unicode.Is16Any
import Derived.Shelf.Unicode.Is32Any
import Derived.Shelf.Unicode.ExclAny
import Derived.Shelf.Slices.Turned
import Derived.Shelf.Slices.Reverse
import Derived.Ground.Names2Prog
import Derived.Shelf.Slices.CompactI
import Derived.Shelf.Slices.SearchI
import Derived.Shelf.Slices.Cells
import Derived.Shelf.Slices.In.SortNone
set_option linter.unusedSimpArgs false
set_option linter.unusedVariables false
namespace Go.Lft
open Go
section
variable {po:OP} {pp:PP}
def step [po:OP] (P:Program) (op:Op) (ty:TypeId) (us:List (Nat × Value)) (h:Heap) (K:Value->Heap->Prop):Prop:=ia P (bW op ty us) h K
variable{P:Program}{op:Op}{ty:TypeId}{us:List (Nat × Value)}{h':Heap}{K:Value->Heap->Prop}
@[congr] theorem I2{us':List (Nat × Value)}{h:Heap}(e1:us=us')(e2:h=h'):step P op ty us h K=step P op ty us' h' K:=by rw[e1,e2]
def grdP (o:Option Value) (b:Bool) (A B:Prop):Prop:=∃gv,o=some gv/\(gv = .bool b->A)/\(gv≠.bool b->B)
variable{b:Bool}
@[congr] theorem IM{o o':Option Value}{A B:Prop}(h:o=o'):grdP o b A B=grdP o' b A B:=by rw[h]
@[simp] theorem Kv{A B:Prop}:grdP (some (.bool true)) true A B=A:=by simp[grdP]
@[simp] theorem Kz{A B:Prop}:grdP (some (.bool true)) false A B=B:=by simp[grdP]
@[simp] theorem Ks{A B:Prop}:grdP (some (.bool false)) true A B=B:=by simp[grdP]
@[simp] theorem Kw{A B:Prop}:grdP (some (.bool false)) false A B=A:=by simp[grdP]
@[simp] theorem Jx{A B p:Prop}[Decidable p]:grdP (some (.bool (decide p))) true A B=((p->A)/\(¬p->B)):=by simp[grdP]
@[simp] theorem Jf{A B p:Prop}[Decidable p]:grdP (some (.bool (decide p))) false A B=((p->B)/\(¬p->A)):=by simp[grdP,and_comm]
@[simp] theorem Kj{A B:Prop}{x:Bool}:grdP (some (.bool (!x))) b A B=grdP (some (.bool x)) (!b) A B:=by cases x<;>cases b<;>simp
@[simp] theorem Jm{A B:Prop}:grdP (some undef) b A B=B:=by simp[grdP,undef]
section
variable {P:Program} {Q:Env->Heap->Prop} {ρ:Env} {h:Heap}
variable{kill:List Nat}{sets args:List (Nat × E)}{chk:List E}{dst:Option Nat}{keep:Bool}{next:Reg}
@[simp] theorem HO{tail:Bool}:
  eZ P none (.loud kill sets args none chk tail op ty dst keep next) Q ρ h=sat (evP (look ρ) (vw h) sets) λvs=>sat (evP (look ρ) (vw h) args) λus=>okE (look ρ) (vw h) chk/\pp.fx (dQ (cO ρ kill) vs)/\
   @step (opAt none) P op ty us h λv h'=>eZ P none next Q (putE (dQ (cO ρ kill) vs) dst keep v) h':=by
 simp only[eZ,de,sat,step,hZ,Option.map_none];refine propext ⟨λ⟨vs,us,h1,h2,h3,hfx,h4⟩=>⟨vs,h1,us,h2,h3,hfx,h4.mono λv h' hh=>?_⟩,λ⟨vs,h1,us,h2,h3,hfx,h4⟩=>⟨vs,us,h1,h2,h3,hfx,h4.mono λv h' hh=>?_⟩⟩
 ·have:=hh.2;cases tail<;>exact this
 cases tail<;>exact⟨by simp,hh⟩
@[simp] theorem HV{g:E}:
  eZ P none (.loud kill sets args (some (g,b)) chk false op ty dst keep next) Q ρ h=sat (evP (look ρ) (vw h) sets) λvs=>sat (evP (look ρ) (vw h) args) λus=>okE (look ρ) (vw h) chk/\pp.fx (dQ (cO ρ kill) vs)/\
   grdP (ev (look ρ) (vw h) g) b (@step (opAt none) P op ty us h λv h'=>eZ P none next Q (putE (dQ (cO ρ kill) vs) dst keep v) h') (eZ P none next Q (putE (dQ (cO ρ kill) vs) dst keep undef) h):=by simp only[eZ,de,sat,step,hZ,grdP];refine propext ⟨λ⟨vs,us,h1,h2,h3,hfx,gv,h4,h5,h6⟩=>⟨vs,h1,us,h2,h3,hfx,gv,h4,λe=>(h5 e).mono λv h' hh=>hh.2,h6⟩,λ⟨vs,h1,us,h2,h3,hfx,gv,h4,h5,h6⟩=>⟨vs,us,h1,h2,h3,hfx,gv,h4,λe=>(h5 e).mono λv h' hh=>⟨by simp,hh⟩,h6⟩⟩
variable{H:View}
@[simp] theorem Ia:
  eZ P (some H) (.loud kill sets args none chk false op ty dst keep next) Q ρ h=sat (evP (look ρ) H sets) λvs=>sat (evP (look ρ) H args) λus=>okE (look ρ) H chk/\pp.fx (dQ (cO ρ kill) vs)/\
   @step (opAt (some H)) P op ty us h λv h'=>H.le (vw h')/\eZ P (some H) next Q (putE (dQ (cO ρ kill) vs) dst keep v) h':=by
 simp only[eZ,de,sat,step,lE];refine propext ⟨λ⟨vs,us,h1,h2,h3,hfx,h4⟩=>⟨vs,h1,us,h2,h3,hfx,h4.mono λv h' hh=>?_⟩,λ⟨vs,h1,us,h2,h3,hfx,h4⟩=>⟨vs,us,h1,h2,h3,hfx,h4.mono λv h' hh=>?_⟩⟩
 ·exact⟨by simpa using hh.1,hh.2⟩
 exact⟨by simpa using hh.1,hh.2⟩
@[simp] theorem Il:
  eZ P (some H) (.loud kill sets args none chk true op ty dst keep next) Q ρ h=sat (evP (look ρ) H sets) λvs=>sat (evP (look ρ) H args) λus=>okE (look ρ) H chk/\pp.fx (dQ (cO ρ kill) vs)/\
   @step (opAt (some H)) P op ty us h λv h'=>eZ P (some nothing) next Q (putE (dQ (cO ρ kill) vs) dst keep v) h':=by
 simp only[eZ,de,sat,step,lE];refine propext ⟨λ⟨vs,us,h1,h2,h3,hfx,h4⟩=>⟨vs,h1,us,h2,h3,hfx,h4.mono λv h' hh=>?_⟩,λ⟨vs,h1,us,h2,h3,hfx,h4⟩=>⟨vs,us,h1,h2,h3,hfx,h4.mono λv h' hh=>?_⟩⟩
 ·exact hh.2
 exact⟨by simp,hh⟩
@[simp] theorem G0{g:E}:
  eZ P (some H) (.loud kill sets args (some (g,b)) chk false op ty dst keep next) Q ρ h=sat (evP (look ρ) H sets) λvs=>sat (evP (look ρ) H args) λus=>okE (look ρ) H chk/\pp.fx (dQ (cO ρ kill) vs)/\
   grdP (ev (look ρ) H g) b (@step (opAt (some H)) P op ty us h λv h'=>H.le (vw h')/\eZ P (some H) next Q (putE (dQ (cO ρ kill) vs) dst keep v) h') (eZ P (some H) next Q (putE (dQ (cO ρ kill) vs) dst keep undef) h):=by simp only[eZ,de,sat,step,lE,grdP];refine propext ⟨λ⟨vs,us,h1,h2,h3,hfx,gv,h4,h5,h6⟩=>⟨vs,h1,us,h2,h3,hfx,gv,h4,λe=>(h5 e).mono λv h' hh=>⟨by simpa using hh.1,hh.2⟩,h6⟩,λ⟨vs,h1,us,h2,h3,hfx,gv,h4,h5,h6⟩=>⟨vs,us,h1,h2,h3,hfx,gv,h4,λe=>(h5 e).mono λv h' hh=>⟨by simpa using hh.1,hh.2⟩,h6⟩⟩
@[simp] theorem Hr:
  de View.sub P (some H) (.loud kill sets args none chk false op ty dst keep next) Q ρ h=sat (evP (look ρ) H sets) λvs=>sat (evP (look ρ) H args) λus=>okE (look ρ) H chk/\pp.fx (dQ (cO ρ kill) vs)/\
   @step (opAt (some H)) P op ty us h λv h'=>H.sub (vw h')/\de View.sub P (some H) next Q (putE (dQ (cO ρ kill) vs) dst keep v) h':=by
 simp only[de,sat,step,lE];refine propext ⟨λ⟨vs,us,h1,h2,h3,hfx,h4⟩=>⟨vs,h1,us,h2,h3,hfx,h4.mono λv h' hh=>?_⟩,λ⟨vs,h1,us,h2,h3,hfx,h4⟩=>⟨vs,us,h1,h2,h3,hfx,h4.mono λv h' hh=>?_⟩⟩
 ·exact⟨by simpa using hh.1,hh.2⟩
 exact⟨by simpa using hh.1,hh.2⟩
@[simp] theorem Hx:
  de View.sub P (some H) (.loud kill sets args none chk true op ty dst keep next) Q ρ h=sat (evP (look ρ) H sets) λvs=>sat (evP (look ρ) H args) λus=>okE (look ρ) H chk/\pp.fx (dQ (cO ρ kill) vs)/\
   @step (opAt (some H)) P op ty us h λv h'=>de View.sub P (some nothing) next Q (putE (dQ (cO ρ kill) vs) dst keep v) h':=by
 simp only[de,sat,step,lE];refine propext ⟨λ⟨vs,us,h1,h2,h3,hfx,h4⟩=>⟨vs,h1,us,h2,h3,hfx,h4.mono λv h' hh=>?_⟩,λ⟨vs,h1,us,h2,h3,hfx,h4⟩=>⟨vs,us,h1,h2,h3,hfx,h4.mono λv h' hh=>?_⟩⟩
 ·exact hh.2
 exact⟨by simp,hh⟩
@[simp] theorem Ga{g:E}:
  de View.sub P (some H) (.loud kill sets args (some (g,b)) chk false op ty dst keep next) Q ρ h=sat (evP (look ρ) H sets) λvs=>sat (evP (look ρ) H args) λus=>okE (look ρ) H chk/\pp.fx (dQ (cO ρ kill) vs)/\
   grdP (ev (look ρ) H g) b (@step (opAt (some H)) P op ty us h λv h'=>H.sub (vw h')/\de View.sub P (some H) next Q (putE (dQ (cO ρ kill) vs) dst keep v) h') (de View.sub P (some H) next Q (putE (dQ (cO ρ kill) vs) dst keep undef) h):=by simp only[de,sat,step,lE,grdP];refine propext ⟨λ⟨vs,us,h1,h2,h3,hfx,gv,h4,h5,h6⟩=>⟨vs,h1,us,h2,h3,hfx,gv,h4,λe=>(h5 e).mono λv h' hh=>⟨by simpa using hh.1,hh.2⟩,h6⟩,λ⟨vs,h1,us,h2,h3,hfx,gv,h4,h5,h6⟩=>⟨vs,us,h1,h2,h3,hfx,gv,h4,λe=>(h5 e).mono λv h' hh=>⟨by simpa using hh.1,hh.2⟩,h6⟩⟩
@[simp] theorem Jd:
  de View.sub P (some H) (.fin kill sets chk) Q ρ h=sat (evP (look ρ) H sets) λvs=>okE (look ρ) H chk/\Q (dQ (cO ρ kill) vs) h:=rfl
@[simp] theorem Ku{ρ:Env}:@PP.fx noPP ρ=True:=rfl
@[simp] theorem Km{Rp:List PanicEntry->Heap->Prop}{ρ:Env}:@PP.fx (ppOf Rp) ρ=True:=rfl
@[simp] theorem Ir{m:Option View}{x y:Reg}:eZ P m (.both x y) Q ρ h=(eZ P m x Q ρ h/\eZ P m y Q ρ h):=rfl
end
theorem pZ{s:Sem Next}{f:FuncId}{args:Array Value}{h:Heap}{R:Value->Heap->Prop}(hs : ∀w:World,w.heap=h->s.run P w = .ok (.enter f args) w)(hc:az P f args h R)(hk : ∀v h',R v h'->K v h'):ia P s h K:=by intro w hw r o a K' Q' hK hQ;rw[hs w hw];simp only[Oper.uponIn];refine⟨λh=>by simp[Fw,Fence.wide]at h,qv ((hc w hw).mono ?_)⟩;rintro e w' ⟨v,rfl,hR,hsame⟩;exact hK v w' (hk _ _ hR) hsame
theorem sQ{s:Sem Next}{f:FuncId}{args:Array Value}{h:Heap}{R:Value->Heap->Prop}{Rp:List PanicEntry->Heap->Prop}(hs : ∀w:World,w.heap=h->s.run P w = .ok (.enter f args) w)(hc:iP P f args h R Rp)(hk : ∀v h',R v h'->K v h')(hp : ∀ch h',Rp ch h'->po.op ch h'):ia P s h K:=by
 intro w hw r o a K' Q' hK hQ;rw[hs w hw];simp only[Oper.uponIn];refine⟨λh=>by simp[Fw,Fence.wide]at h,qv ((hc w hw).mono ?_)⟩;rintro e w' (⟨v,rfl,hR,hsame⟩ | ⟨ch,rfl,hR,hsame⟩)
 ·exact hK v w' (hk _ _ hR) hsame
 exact hQ ch w' (hp _ _ hR) hsame
theorem AL{f:FuncId}{ops:Array Operand}{T:Array TypeId}{args:Array Value}{h:Heap}(R:Value->Heap->Prop)(Rp:List PanicEntry->Heap->Prop)(hf:isFn P f=true)(ha:ops.map (asg us)=args)(hc:iP P f args h R Rp)(hk : ∀v h',R v h'->K v h')(hp : ∀ch h',Rp ch h'->po.op ch h'):
  step P (.call ⟨.value (.func f),ops,T⟩) ty us h K:=by
 subst ha;refine sQ (λw _=>?_) hc hk hp;unfold isFn at hf;cases hfn:P.funcs[f]? with
 | none=>simp[hfn]at hf
 | some fn=>simp only[hfn,Ly,bne_iff_ne,ne_eq]at hf;obtain⟨h1,h2⟩:=hf;simp[bW,execOp,resolve,Deferred.ofValue,asg,invoke,callFunc,program,Sem.run,hfn,h1,Option.isNone];cases hb:fn.body<;>simp[hb]at h2 ⊢
theorem rT{f:FuncId}{ops:Array Operand}{T:Array TypeId}{args:Array Value}{h:Heap}(R:Value->Heap->Prop)(hf:isFn P f=true)(ha:ops.map (asg us)=args)(hc:az P f args h R)(hk : ∀v h',R v h'->K v h'):
  step P (.call ⟨.value (.func f),ops,T⟩) ty us h K:=by
 subst ha;refine pZ (λw _=>?_) hc hk;unfold isFn at hf;cases hfn:P.funcs[f]? with
 | none=>simp[hfn]at hf
 | some fn=>simp only[hfn,Ly,bne_iff_ne,ne_eq]at hf;obtain⟨h1,h2⟩:=hf;simp[bW,execOp,resolve,Deferred.ofValue,asg,invoke,callFunc,program,Sem.run,hfn,h1,Option.isNone];cases hb:fn.body<;>simp[hb]at h2 ⊢
def gz [po:OP] (P:Program) (f:FuncId) (T:Array TypeId) (ty:TypeId) (args:List Value) (h:Heap) (K:Value->Heap->Prop):Prop:=
 step P (.call ⟨.value (.func f),args.toArray.map .const,T⟩) ty [] h K
@[simp] theorem Kq{t:Nat}:asg us (.tmp t)=(look us t).getD undef:=rfl
@[simp] theorem xe{v:Value}:asg us (.const v)=v:=rfl
@[simp] theorem Ki{f:FuncId}:asg us (.func f) = .func (.func f) #[] #[]:=rfl
@[simp] theorem Jh{g:Nat}:asg us (.global g) = .pointer (some ⟨g,0,none⟩):=rfl
theorem iT{f:FuncId}{ops:List Operand}{T:Array TypeId}{h:Heap}:
  step P (.call ⟨.value (.func f),ops.toArray,T⟩) ty us h K=gz P f T ty (ops.map (asg us)) h K:=by unfold gz step;congr 1;simp[bW,execOp,resolve,Deferred.ofValue,N6]
section
variable {P:Program} {f:FuncId} {x y z u v:Operand} {T:Array TypeId} {ty:TypeId} {us:List (Nat × Value)} {h:Heap} {K:Value->Heap->Prop}
@[simp] theorem I6:step P (.call ⟨.value (.func f),#[],T⟩) ty us h K=gz P f T ty [] h K:=iT (ops:=[])
@[simp] theorem IU:step P (.call ⟨.value (.func f),#[x],T⟩) ty us h K=gz P f T ty [asg us x] h K:=iT (ops:=[x])
@[simp] theorem Iq:step P (.call ⟨.value (.func f),#[x,y],T⟩) ty us h K=gz P f T ty [asg us x,asg us y] h K:=iT (ops:=[x,y])
@[simp] theorem Je:step P (.call ⟨.value (.func f),#[x,y,z],T⟩) ty us h K=gz P f T ty [asg us x,asg us y,asg us z] h K:=iT (ops:=[x,y,z])
@[simp] theorem IJ:step P (.call ⟨.value (.func f),#[x,y,z,u],T⟩) ty us h K=gz P f T ty [asg us x,asg us y,asg us z,asg us u] h K:=iT (ops:=[x,y,z,u])
@[simp] theorem Iu:step P (.call ⟨.value (.func f),#[x,y,z,u,v],T⟩) ty us h K=gz P f T ty [asg us x,asg us y,asg us z,asg us u,asg us v] h K:=iT (ops:=[x,y,z,u,v])
end
@[congr] theorem D0{f:FuncId}{T:Array TypeId}{args args':List Value}{h:Heap}(ha:args=args'):gz P f T ty args h K=gz P f T ty args' h K:=by rw[ha]
theorem ah{f:FuncId}{T:Array TypeId}{args:List Value}{h:Heap}{R:Value->Heap->Prop}(hf:isFn P f=true)(hc:az P f args.toArray h R)(hk : ∀v h',R v h'->K v h'):gz P f T ty args h K:=
 rT R hf (by simp[N6]) hc hk
theorem eB{f:FuncId}{T:Array TypeId}{args:List Value}{h:Heap}{R:Value->Heap->Prop}{Rp:List PanicEntry->Heap->Prop}(hf:isFn P f=true)(hc:iP P f args.toArray h R Rp)(hk : ∀v h',R v h'->K v h')(hp : ∀ch h',Rp ch h'->po.op ch h'):gz P f T ty args h K:=
 AL R Rp hf (by simp[N6]) hc hk hp
theorem cH{s:Sem Next}{h:Heap}(hs : ∀w:World,w.heap=h->∃v w',s.run P w = .ok (.value v) w'/\Same w w'/\K v w'.heap):ia P s h K:=by intro w hw r o a K' Q' hK hQ;obtain⟨v,w',h1,h2,h3⟩:=hs w hw;rw[h1];exact hK v w' h3 h2
theorem pa{s:Sem Next}{h:Heap}(hs : ∀w:World,w.heap=h->∃w',s.run P w = .ok .skip w'/\Same w w'/\K undef w'.heap):ia P s h K:=by intro w hw r o a K' Q' hK hQ;obtain⟨w',h1,h2,h3⟩:=hs w hw;rw[h1];exact hK undef w' h3 h2
theorem iD(w:World)(o:Obj):Same w (w.alloc o):=Same.xX rfl rfl rfl Sa λk hk=>heap_alloc_old w o hk
variable{n size:Nat}{cs:Array Value}
theorem nW{t e:TypeId}{ps:Array (Nat × Operand)}{h:Heap}{i:TypeInfo}{z:Value}{vs:List (Nat × Value)}(ht:P.underlying t=some (.slice e))(hi:P.info? e=some i)(hz:i.zero=some z)(hs:i.size=size)(hn:n*size<=16777216)(hp:ps.map (λp=>(p.1,asg us p.2))=vs.toArray)(hf:Instr.fill (λj=>some (j*size,size)) ((Array.range (n*size)).map (z.cells[· % z.cells.size]!)) vs=some cs)(hk:K (.slice (some ⟨h.size,0,none⟩) n n) (h.push (.cells cs e))):step P (.buildSlice t n ps) ty us h K:=by
 subst hs;refine cH λw hw=>?_;subst hw;have hn':¬(16777216<n*i.size):=by omega
 refine⟨_,w.alloc (.cells cs e),?_,iD _ _,hk⟩;have hp':(ps.map λx=>match x with | (i,x)=>(i,asg us x))=vs.toArray:=hp;by_cases h0:n*i.size=0
 ·have e1 : ∀f:Nat->Value,(Array.range 0).map f = #[]:=λf=>by simp[Array.range_zero']
  rw[h0,e1]at hf;simp only[bW,execOp,hp'];simp[Instr.buildSlice,run_underlying ht,sizeOf,typeInfo,hi,h0,newRow,e1,hf]
 simp only[bW,execOp,hp'];simp[Instr.buildSlice,run_underlying ht,sizeOf,typeInfo,hi,hn',newRow,h0,zeroValue,hz,hf]
def tX (h:Heap) (e:TypeId) (size:Nat) (v:Value) (n:Nat) (xs:List Value):Prop:=
  xs.length=n*size/\
  ((v = .slice none 0 0/\n=0)\/
   ∃g cap cur,v = .slice (some ⟨g,0,none⟩) n cap/\h[g]? = some (.cells cur e (0,0))/\n<=cap/\cap<=maxLen/\cur.size=cap*size/\cur.toList.take (n*size)=xs)
structure Kept (h h':Heap) (b:Option Nat):Prop where
 size:h.size<=h'.size
 block : ∀k,k<h.size->some k≠b->h'[k]? = h[k]?
theorem Kept.refl(h:Heap)(b:Option Nat):Kept h h b:=⟨Lp _,λ_ _ _=>rfl⟩
theorem Kept.push (h:Heap) (o:Obj) (b:Option Nat):Kept h (h.push o) b:=⟨by simp,λk hk _=>by rw[Array.getElem?_push,if_neg Yb]⟩
theorem Kept.trans {h h' h'':Heap} {b:Option Nat} (k:Kept h h' b) (k':Kept h' h'' b):Kept h h'' b:=
 ⟨LM k.size k'.size,λx hx hb=>(k'.block x (N0 hx k.size) hb).trans (k.block x hx hb)⟩
def Av (W:View) (v:Value):Prop:=∀b,v.ownBlock=some b->W b=none
variable{W:View}
theorem Kept.view{h:Heap}{v:Value}(k:Kept h h' v.ownBlock)(hw:W.le (vw h))(ha:Av W v):W.le (vw h'):=by
 intro b o hb;have hlt:=View.lt hw hb;have hne:some b≠v.ownBlock:=λe=>by rw[ha b e.symm]at hb;cases hb
 show h'[b]? = some o;rw[k.block b hlt hne];exact hw b o hb
theorem Kept.Dg{h:Heap}(k:Kept h h' none)(hw:W.le (vw h)):W.le (vw h'):=by intro b o hb;show h'[b]? = some o;rw[k.block b (View.lt hw hb) Sa];exact hw b o hb
theorem bV(h:Heap)(o:Obj):(vw h).le (vw (h.push o)):=(Kept.push h o none).Dg (View.le_refl _)
theorem EG{h:Heap}(hle:(vw h).le (vw h'))(hs:h.size<=h'.size):Kept h h' none:=
 ⟨hs,λk hk _=>by have:h[k]? = some h[k]:=LK hk;rw[this];exact hle k _ this⟩
theorem cG{h:Heap}(hle:(vw h).le (vw h')):h.size<=h'.size:=by
 rcases Lr h'.size h.size with hlt | hge
 ·have h1:h[h'.size]? = some h[h'.size]:=LK hlt;have h2:h'[h'.size]? = some h[h'.size]:=hle _ _ h1;simp at h2
 exact hge
theorem sF{h:Heap}(hle:(vw h).le (vw h')):Kept h h' none:=EG hle (cG hle)
theorem tX.kept{h h':Heap}{e:TypeId}{size n:Nat}{v:Value}{xs:List Value}{b:Option Nat}(ho:tX h e size v n xs)(k:Kept h h' b)(hb:v.ownBlock=none\/v.ownBlock≠b):tX h' e size v n xs:=by
 refine⟨ho.1,?_⟩;rcases ho.2 with hn | ⟨g,cap,cur,rfl,hg,rest⟩
 ·exact .inl hn
 refine .inr ⟨g,cap,cur,rfl,?_,rest⟩;rw[k.block g (Lu.1 hg).1 (by simpa[Value.ownBlock]using hb)];exact hg
structure fm (P:Program) (t e:TypeId) (size bytes:Nat) (z:Value):Prop where
 ht:P.underlying t=some (.slice e)
 hi : ∃i,P.info? e=some i/\i.zero=some z/\i.size=size/\i.bytes=bytes
 hz:z.cells.size=size
 hs:0<size
 hm:size<=1000
variable{bytes:Nat}
theorem BA{t e:TypeId}{z:Value}(hT:fm P t e size bytes z){w:World}{v:Value}{xs:List Value}(hown:tX w.heap e size v n xs){a:Option Addr}{m c:Nat}{news:List Value}(hl:news.length=m*size)(hnews : ∀ad,a=some ad->∀j u,news[j]? = some u->w.cell? (ad.add j)=some u)(hnil:a=none->m=0)(h1 : ∀u∈news,u.oneCell'=true)(hbytes:(n+m)*bytes<=140737488355328)(h63:n+m<=140737488355328):
  ∃v' w',(Builtin.append_ #[t,t] ty #[v,.slice a m c]).run P w = .ok v' w'/\Same w w'/\tX w'.heap e size v' (n+m) (xs++news)/\Kept w.heap w'.heap v.ownBlock/\
   (v'.ownBlock=v.ownBlock\/v'.ownBlock=some w.heap.size):=by
 obtain⟨ht,⟨i,hi,hz,hsize,hby⟩,hzs,hsz,_⟩:=hT;subst hsize;subst hby;cases a with
 | none=>
  obtain rfl:=hnil rfl;have hn:news=[]:=Ls (by simpa using hl);subst hn;have hrun:(Builtin.append_ #[t,t] ty #[v,.slice none 0 c]).run P w = .ok v w:=by
   rcases hown.2 with⟨rfl,rfl⟩ | ⟨g,cap,cur,rfl,hg,hnc,hcm,hcs,htake⟩
   ·simp[Builtin.append_,run_underlying ht,sizeOf,typeInfo,hi,Builtin.lenOf,Builtin.firstCells]
   simp[Builtin.append_,run_underlying ht,sizeOf,typeInfo,hi,Builtin.lenOf,Builtin.firstCells,hnc,storeCells]
  exact⟨v,w,hrun,Same.refl _,by simpa using hown,Kept.refl _ _,.inl rfl⟩
 | some ad=>
  have hnews:=hnews ad rfl;have hlen:(xs++news).length=(n+m)*i.size:=by rw[Lv,hown.1,hl,NC]
  have h63':n+m<=maxLen:=by simp only[maxLen];omega
  have grown : ∀(old:Nat),old<n+m->∀row,
    tX (w.drew.alloc (.cells (xs.toArray++news.toArray++Builtin.zeroCells z.cells (grownCap w (n+m) old e-(n+m))) e)).heap e i.size
     (.slice (some ⟨w.heap.size,0,none⟩) (n+m) (grownCap w (n+m) old e)) (n+m) (xs++news)/\
    Kept w.heap (w.drew.alloc (.cells (xs.toArray++news.toArray++Builtin.zeroCells z.cells (grownCap w (n+m) old e-(n+m))) e)).heap row:=by
   intro old ho row;have hge:=grownCap_ge w (n+m) old e;have hcm:grownCap w (n+m) old e<=maxLen:=grownCap_le_maxLen w (n+m) old e h63';refine⟨⟨hlen,.inr ⟨w.heap.size,_,_,rfl,heap_alloc_new w.drew _,hge,hcm,?_,?_⟩⟩,⟨by simp,λk hk _=>by rw[heap_alloc_old w.drew _ (by simpa using hk)];rfl⟩⟩
   ·simp only[Array.size_append,Nr,size_zeroCells,hzs,hown.1,hl,<-Nat.add_mul];congr 1;omega
   simp only[Array.toList_append,LD];rw[<-List.append_assoc,<-hlen];exact N5
  rcases hown.2 with⟨rfl,rfl⟩ | ⟨g,cap,cur,rfl,hg,hnc,hcm,hcs,htake⟩
  ·have hx:xs=[]:=Ls (by simpa using hown.1);subst hx;by_cases hm:m=0
   ·subst hm;have hn:news=[]:=Ls (by simpa using hl);subst hn;refine⟨.slice none 0 0,w,?_,Same.refl _,⟨by simp,.inl ⟨rfl,rfl⟩⟩,Kept.refl _ _,.inl rfl⟩;simp[Builtin.append_,run_underlying ht,sizeOf,typeInfo,hi,Builtin.lenOf,Builtin.firstCells,loadCells,loadCellsFrom]
   have hr:=run_append_nil (P:=P) w t ty e i z ht hi hz ad m c news hl hnews Yb Yb (by have hb:=hbytes;simp only[MR]at hb;omega);have hgr:=grown 0 Yb none;simp only[MR,LR,Array.empty_append]at hgr ⊢;exact⟨_,_,hr,Same.xX rfl rfl rfl hgr.2.size (λk hk=>hgr.2.block k hk Sa),hgr.1,⟨hgr.2.size,λk hk _=>hgr.2.block k hk Sa⟩,.inr rfl⟩
  by_cases hroom:n+m<=cap
  ·have hfit:n*i.size+news.length<=cur.size:=by rw[hl,hcs,<-Nat.add_mul];exact LP _ hroom
   have hr:=run_append_room (P:=P) w t ty e i ht hi g n cap cur hg ad m c news hl hnews h1 hroom hfit;refine⟨_,_,hr,Same.qn rfl rfl rfl Sa hg Sa (λk _ hne=>setRow_other w g k _ (λe=>hne e)),⟨hlen,.inr ⟨g,cap,_,rfl,setRow_heap w g cur _ e _ hg,hroom,hcm,?_,?_⟩⟩,⟨by simp,λk hk hne=>setRow_other w g k _ (λe=>hne (by simp[Value.ownBlock,e]))⟩,.inl rfl⟩
   ·simp only[Nr,Lv,LZ,L2,Nw];omega
   rw[htake,<-hlen];exact N5
  have holds : ∀j u,xs[j]? = some u->w.cell? ((⟨g,0,none⟩:Addr).add j)=some u:=by intro j u hu;have:=World.ownsRow.cells (w:=w) (base:=0) (e:=e) (size:=i.size) (v:=.slice (some ⟨g,0,none⟩) n cap) (n:=n) (xs:=xs) ⟨hown.1,.inr ⟨g,cap,cur,rfl,NO _,hg,hnc,hcm,hcs,htake⟩⟩ (g:=g) rfl j u hu;exact this
  have hr:=run_append_grow (P:=P) w t ty e i z ht hi hz ⟨g,0,none⟩ n cap xs hown.1 holds ad m c news hl hnews Yb Yb (growslice_fits Yb hbytes);have hgr:=grown cap Yb none;exact⟨_,_,hr,Same.xX rfl rfl rfl hgr.2.size (λk hk=>hgr.2.block k hk Sa),hgr.1,⟨hgr.2.size,λk hk _=>hgr.2.block k hk Sa⟩,.inr rfl⟩
theorem dz{h:Heap}(hr:ia P (bW op ty us) h K):step P op ty us h K:=hr
attribute [irreducible] step gz
end
section
variable {po:OP} {pp:PP}
def fresh (h h':Heap):View:=λb=>if b<h.size then none else h'[b]?
theorem kI(h h':Heap):(fresh h h').le (vw h'):=λb o hb=>by
 unfold fresh at hb;split at hb
 ·cases hb
 exact hb
theorem jw(V:View)(h h':Heap):(fresh h h').le (grow V h h'):=λb o hb=>by
 unfold fresh at hb;unfold grow;split at hb
 ·cases hb
 rename_i hlt;rw[if_neg hlt];exact hb
structure kK (h h':Heap) (v v':Value):Prop where
 kept:Kept h h' v.ownBlock
 at_:v'.ownBlock=v.ownBlock\/v'.ownBlock=some h.size
theorem kK.view {h h':Heap} {v v':Value} (m:kK h h' v v') {W:View} (hw:W.le (vw h)) (ha:Av W v):W.le (vw h')/\Av W v':=by
 refine⟨m.kept.view hw ha,λb hb=>?_⟩;rcases m.at_ with e | e
 ·exact ha b (by rw[<-e];exact hb)
 rw[e]at hb;simp only[Ln]at hb;exact View.df hw Yb
theorem Av.nil(W:View)(n c:Nat):Av W (.slice none n c):=λb hb=>by simp[Value.ownBlock]at hb
section
variable {α:Type} [Rep α]
def OwnT (W:View) (h:Heap) (e:TypeId) (v:Value) (l:List α):Prop:=
 l.length<=140737488355328/\∃xs,tX h e (Rep.n α) v l.length xs/\∀(i:Nat) (hi:i<l.length),Rep.rd W ((xs.drop (i*Rep.n α)).take (Rep.n α)) l[i]
def SrcT (Ho Hi:View) (u:Value) (l:List α):Prop:=
 ∃a c,u = .slice a l.length c/\(a=none->l=[])/\∃news:List Value,news.length=l.length*Rep.n α/\(∀ad,a=some ad->∀j x,news[j]? = some x->ao Ho (ad.add j)=some x)/\
  ∀(i:Nat) (hi:i<l.length),Rep.rd Hi ((news.drop (i*Rep.n α)).take (Rep.n α)) l[i]
theorem OwnT.nil(W:View)(h:Heap)(e:TypeId):OwnT (α:=α) W h e (.slice none 0 0) []:=
 ⟨by simp,[],⟨by simp,.inl ⟨rfl,rfl⟩⟩,λi hi=>by simp at hi⟩
variable {W:View} {h h':Heap} {e:TypeId} {v:Value} {l:List α}
theorem OwnT.len (o:OwnT W h e v l) {K:View}:Un.ev K .len v=some (.int .i64 l.length):=by
 obtain⟨_,xs,⟨_,hx⟩,_⟩:=o;rcases hx with⟨rfl,hn⟩ | ⟨g,cap,cur,rfl,_⟩
 ·rw[hn];rfl
 rfl
theorem OwnT.mono (o:OwnT W h e v l) {W':View} (hw:W.le W'):OwnT W' h e v l:=
 let ⟨b,xs,h1,h2⟩:=o
 ⟨b,xs,h1,λi hi=>Rep.mono hw (h2 i hi)⟩
theorem OwnT.kept (o:OwnT W h e v l) {b:Option Nat} (k:Kept h h' b) (hb:v.ownBlock=none\/v.ownBlock≠b):OwnT W h' e v l:=
 let ⟨bd,xs,h1,h2⟩:=o
 ⟨bd,xs,h1.kept k hb,h2⟩
theorem OwnT.ext(o:OwnT W h e v l)(k:(vw h).le (vw h')):OwnT W h' e v l:=o.kept (sF k) (by cases v.ownBlock<;>simp)
variable{n:Nat}
theorem AH{xs:List Value}{len:Nat}(hl:xs.length=len*n)(hr : ∀(i:Nat),i<len->∀u∈(xs.drop (i*n)).take n,u.oneCell'=true): ∀u∈xs,u.oneCell'=true:=by
 intro u hu;obtain⟨j,hj,rfl⟩:=LS hu;have hn:0<n:=by
  rcases NF n with h | h
  ·subst h;simp at hl;subst hl;simp at hj
  exact h
 have hlt:j / n<len:=by rw[Nat.div_lt_iff_lt_mul hn];omega
 refine hr (j / n) hlt _ ?_;have hm:=Nat.mod_lt j hn;have hd:=Nat.div_add_mod j n;have:((xs.drop (j / n*n)).take n)[j % n]? = some xs[j]:=by
  rw[MV,if_pos hm,Ni];have:j / n*n+j % n=j:=by rw[Nat.mul_comm];exact hd
  rw[this];exact LY hj
 exact L8 this
theorem DF{xs ys:List Value}{a i:Nat}(hx:xs.length=a*n):((xs++ys).drop (i*n)).take n=if i<a then(xs.drop (i*n)).take n else(ys.drop ((i-a)*n)).take n:=by
 split
 ·rename_i h;have h1:i*n+n<=a*n:=by rw[<-Nat.succ_mul];exact LP _ h
  rw[MJ Yb,MB (by simp;omega)]
 rename_i h;have h1:a*n<=i*n:=LP _ Yb;have h2:(i-a)*n=i*n-a*n:=Nat.sub_mul ..;rw[Ny,L5 Yb,LR,hx,h2]
variable{P:Program}{ty:TypeId}{bytes:Nat}{y:Operand}{us:List (Nat × Value)}{K:Value->Heap->Prop}
theorem bY{t:TypeId}{z:Value}{x:Operand}{u:Value}{l2:List α}(hT:fm P t e (Rep.n α) bytes z)(hx:asg us x=v)(hy:asg us y=u)(ho:OwnT W h e v l)(hs:SrcT (vw h) W u l2)(hb:(l.length+l2.length)*bytes<=140737488355328)(hb2:l.length+l2.length<=140737488355328)(hk : ∀v' h',OwnT W h' e v' (l++l2)->kK h h' v v'->K v' h'):step P (.call ⟨.builtin .append,#[x,y],#[t,t]⟩) ty us h K:=by
 obtain⟨hbd,xs,h1,h2⟩:=ho;obtain⟨a,c,rfl,hnil,news,h3,h4,h5⟩:=hs;refine dz (cH λw hw=>?_);subst hw;have hflat : ∀u∈news,u.oneCell'=true:=AH h3 λi hi=>Rep.flat (h5 i hi);obtain⟨v',w',g1,g2,g3,g4,g5⟩:=BA hT (ty:=ty) h1 h3 (λad ha j u hu=>h4 ad ha j u hu) (c:=c) (λha=>by rw[hnil ha];rfl) hflat hb hb2;refine⟨v',w',?_,g2,hk v' w'.heap ⟨by simpa using hb2,xs++news,by simpa using g3,λi hi=>?_⟩ ⟨g4,g5⟩⟩
 ·simp only[bW,execOp];simp[resolve,invoke,builtin,hx,hy,g1]
 rw[DF h1.1];split
 ·rename_i hlt;rw[NV hlt];exact h2 i hlt
 rename_i hge;rw[OU Yb];exact h5 (i-l.length) (by simp at hi;omega)
variable{H:View}
theorem SlRd.src{K:View}(s:SlRd H v l)(hk:H.le K):SrcT K H v l:=by
 obtain⟨a,cap,rfl,h1,h2,h3⟩:=s;rcases h3 with rfl | ⟨ad,rfl,hs,hat⟩
 ·exact⟨a,cap,rfl,λ_=>rfl,[],by simp,λ_ _ j x hx=>by simp at hx,λi hi=>by simp at hi⟩
 refine⟨some ad,cap,rfl,(λh=>by cases h),?_⟩;cases hl:l with
 | nil=>exact⟨[],by simp,λ_ _ j x hx=>by simp at hx,λi hi=>by simp at hi⟩
 | cons d0 l0=>
  rw[<-hl];have hpos:0<l.length:=by rw[hl];simp
  obtain⟨cs0,⟨c,T,fz,_,hb,_⟩,_⟩:=hat 0 hpos;have hblk:H ad.block=some (.cells c T fz):=by rw[bN hs]at hb;exact hb
  have hcs : ∀(i:Nat) (hi:i<l.length),Rep.rd H ((c.toList.drop (ad.off+i*Rep.n α)).take (Rep.n α)) l[i]:=by intro i hi;obtain⟨cs,⟨c',T',fz',_,hb',he⟩,hr⟩:=hat i hi;rw[bN hs]at hb' he;simp only at hb' he;rw[hblk]at hb';cases hb';rw[Rep.len hr]at he;rw[he];exact hr
  have htot:ad.off+l.length*Rep.n α<=c.toList.length:=by
   have:=Rep.len (hcs (l.length-1) Yb);have hn:=Rep.pos (α:=α);simp only[LZ,L2]at this;have e1:l.length*Rep.n α=(l.length-1)*Rep.n α+Rep.n α:=by rw[<-Nat.succ_mul];congr 1;omega
   omega
  refine⟨(c.toList.drop ad.off).take (l.length*Rep.n α),?_,?_,?_⟩
  ·simp only[LZ,L2];omega
  ·intro ad' e j x hx;cases e;have hj:j<l.length*Rep.n α:=by
    rcases Lr j (l.length*Rep.n α)with h | h
    ·exact h
    rw[L4 (by simp;omega)]at hx;cases hx
   rw[MV,if_pos hj,Ni]at hx;rw[bN hs];simp only[ao,hk _ _ hblk];simpa using hx
  intro i hi;have h1:i*Rep.n α+Rep.n α<=l.length*Rep.n α:=by rw[<-Nat.succ_mul];exact LP _ hi
  rw[ML,MH,M3,L7 Yb];exact hcs i hi
variable{V:View}
theorem OwnT.rd(o:OwnT W h e v l)(hw:W.le V)(hv : ∀b,v.ownBlock=some b->V b=h[b]?):SlRd V v l:=by
 obtain⟨hbd,xs,⟨hx,hown⟩,hel⟩:=o;rcases hown with⟨rfl,hn⟩ | ⟨g,cap,cur,rfl,hg,h1,h2,h3,h4⟩
 ·have:l=[]:=Ls hn;subst this;exact⟨none,0,rfl,by simp,by simp,.inl rfl⟩
 refine⟨some ⟨g,0,none⟩,cap,rfl,h1,hbd,.inr ⟨_,rfl,rfl,λi hi=>?_⟩⟩;refine⟨(xs.drop (i*Rep.n α)).take (Rep.n α),⟨cur,e,(0,0),?_,?_,?_⟩,Rep.mono hw (hel i hi)⟩
 ·rw[bN rfl]
 ·rw[bN rfl];rw[hv g rfl];exact hg
 rw[bN rfl,Rep.len (hel i hi)];have hle:i*Rep.n α+Rep.n α<=l.length*Rep.n α:=by rw[<-Nat.succ_mul];exact LP _ hi
 rw[<-h4,ML,MH];simp only[MR];rw[L7 Yb]
theorem OwnT.fresh {h0:Heap} (o:OwnT W h e v l) (hW:W.le (fresh h0 h)) (ha:Av (vw h0) v):SlRd (Lft.fresh h0 h) v l:=by
 refine o.rd hW λb hb=>?_;have:=ha b hb;simp only[vw]at this;have hge:h0.size<=b:=by
  rcases Lr b h0.size with h | h
  ·simp[h]at this
  exact h
 simp only[Lft.fresh,if_neg (Pk.2 hge)]
theorem mF{t:TypeId}{z:Value}{x:Operand}{u:Value}{d:α}(hT:fm P t e (Rep.n α) bytes z)(hx:asg us x=u)(hr:Rd W u d)(hk : ∀u' h',SrcT (vw h') W u' [d]->(vw h).le (vw h')->h'.size=h.size+1->K u' h'):step P (.buildSlice t 1 #[(0,x)]) ty us h K:=by
 have hTT:=hT;obtain⟨ht,⟨i,hi,hz,hsize,hby⟩,hzs,hsz,hsmall⟩:=hT;have hcells:Rep.rd W u.cells.toList d/\u.cells.size=Rep.n α:=by
  unfold Rd at hr;split at hr
  ·obtain⟨cs,rfl,h⟩:=hr;exact⟨h,by rw[<-Rep.len h];rfl⟩
  rename_i ha;have hone:=Rep.one (α:=α) (by simpa using ha);have hfl:=Rep.flat hr u Sa;have:u.cells = #[u]:=by cases u<;>first | rfl | simp[Value.oneCell']at hfl
  rw[this];exact⟨by simpa using hr,by simp[hone]⟩
 have hfill:Instr.fill (λj=>some (j*Rep.n α,Rep.n α)) ((Array.range (1*Rep.n α)).map (z.cells[· % z.cells.size]!)) [(0,u)]=some u.cells:=by
  have hlen : ∀(A:Array Value) (cs:Array Value),A.size=cs.size->cs.zipIdx.foldl (λcs' (p:Value × Nat)=>cs'.setIfInBounds (0+p.2) p.1) A=cs:=by
   intro A cs hA;have key : ∀(l:List Value) (k:Nat) (B:Array Value),B.size=k+l.length->((l.zipIdx k).foldl (λcs' (p:Value × Nat)=>cs'.setIfInBounds (0+p.2) p.1) B).toList=B.toList.take k++l:=by
    intro l;induction l with
    | nil=>intro k B hB;simp at hB;simp only[List.zipIdx_nil,List.foldl_nil,Nn];rw[Lw (by simp[hB])]
    | cons y l ih=>
     intro k B hB;simp only[Oz,LW];rw[ih (k+1) _ (by simp at hB ⊢;omega)];simp only[MR,OL];have hk:k<B.toList.length:=by simp at hB ⊢;omega
     rw[LG (by simpa using hk)];simp[OG]
   rw[<-Array.toList_inj,<-Array.foldl_toList,Array.toList_zipIdx];have:=key cs.toList 0 A (by simpa using hA);simpa using this
  simp only[Instr.fill,M5,MR,Array.size_map,Array.size_range,OW,hcells.2,ne_eq,not_true,decide_false,Pj,gt_iff_lt,Nat.lt_irrefl];simp only[MU,if_false];congr 1;have:=hlen ((Array.range (Rep.n α)).map (z.cells[· % z.cells.size]!)) u.cells (by simp[hcells.2]);simpa using this
 refine nW ht hi hz hsize Yb (vs:=[(0,u)]) (by simp[hx]) hfill (hk _ _ ?_ (bV _ _) Sa);refine⟨some ⟨h.size,0,none⟩,1,rfl,(λh=>by cases h),u.cells.toList,by simp[hcells.2],?_,?_⟩
 ·intro ad e j x hx;cases e;rw[bN rfl];simp only[ao,vw,NW];simpa using hx
 intro i hi';simp only[MI,NY,MR,Nat.lt_one_iff]at hi';subst hi';have:(u.cells.toList.take (Rep.n α))=u.cells.toList:=by rw[Lw];simp[hcells.2]
 simpa[this]using hcells.1
theorem nv{t:TypeId}{z:Value}{x:Operand}{k:IntKind}{d:α}(hT:fm P t e (Rep.n α) bytes z)(hx:asg us x = .int k n)(hy:asg us y = .int k n)(hr:Rep.rd W z.cells.toList d)(hb:bytes*n<=140737488355328)(hb2:n<=140737488355328)(hk : ∀v' h',OwnT W h' e v' (List.replicate n d)->kK h h' (.slice none 0 0) v'->(vw h).le (vw h')->v'.ownBlock=some h.size->K v' h'):step P (.makeSlice t x y) ty us h K:=by
 obtain⟨ht,⟨i,hi,hz,hsize,hby⟩,hzs,hsz,hsmall⟩:=hT;refine dz (cH λw hw=>?_);subst hw;have hrun:=run_make (P:=P) w t e i z ht hi hz k k (n:Int) (n:Int) Yb (N1 _) (by
  rw[hby];have:((bytes*n:Nat):Int)<=281474976710656:=by omega
  rwa [Int.natCast_mul]at this) Yb;simp only[LN]at hrun;refine⟨.slice (some ⟨w.heap.size,0,none⟩) n n,w.alloc (.cells (madeCells z.cells (n*i.size)) e),?_,iD _ _,hk _ _ ?_ ⟨Kept.push _ _ _,.inr rfl⟩ (bV _ _) rfl⟩
 ·simp only[bW,execOp,hx,hy];simp[hrun]
 refine⟨by simpa using hb2,((madeCells z.cells (n*Rep.n α)).toList.take (n*Rep.n α)),⟨by simp[size_madeCells],.inr ⟨w.heap.size,n,madeCells z.cells (n*Rep.n α),by simp,?_,by simp,by simp only[maxLen];omega,by simp[size_madeCells],by simp⟩⟩,?_⟩
 ·rw[hsize];exact heap_alloc_new w _
 intro j hj;simp only[MD]at hj;have he:((((madeCells z.cells (n*Rep.n α)).toList.take (n*Rep.n α)).drop (j*Rep.n α)).take (Rep.n α))=z.cells.toList:=by
  have h1:j*Rep.n α+Rep.n α<=n*Rep.n α:=by rw[<-Nat.succ_mul];exact LP _ hj
  refine Ng ?_ λm hm1 hm2=>?_
  ·simp[size_madeCells,hzs];omega
  simp only[LZ,L2]at hm1;simp only[OV,NL,madeCells,Array.toList_map,List.getElem_map,Array.toList_range,List.getElem_range];have hm:m<z.cells.size:=by simpa using hm2
  have hmod:(j*Rep.n α+m) % z.cells.size=m:=by rw[hzs,Nat.mul_comm,Nat.mul_add_mod];exact Nat.mod_eq_of_lt Yb
  rw[hmod];simp[hm]
 rw[he];simpa using hr
theorem rE{t:TypeId}{x:Operand}{i:Nat}{u:Value}{d:α}(hsz:db P t=some (Rep.n α))(hx:asg us x = .pointer (some ((slA v).add (i*Rep.n α))))(hy:asg us y=u)(ho:OwnT W h e v l)(hi:i<l.length)(hr:Rd W u d)(hk : ∀h',OwnT W h' e v (l.set i d)->kK h h' v v->K undef h'):step P (.store t x y) ty us h K:=by
 have hcells:Rep.rd W u.cells.toList d/\u.cells.size=Rep.n α:=by
  unfold Rd at hr;split at hr
  ·obtain⟨cs,rfl,h⟩:=hr;exact⟨h,by rw[<-Rep.len h];rfl⟩
  rename_i ha;have hone:=Rep.one (α:=α) (by simpa using ha);have hfl:=Rep.flat hr u Sa;have:u.cells = #[u]:=by cases u<;>first | rfl | simp[Value.oneCell']at hfl
  rw[this];exact⟨by simpa using hr,by simp[hone]⟩
 obtain⟨hbd,xs,⟨hxl,hown⟩,hel⟩:=ho;refine dz (pa λw hw=>?_);subst hw;rcases hown with⟨rfl,hn⟩ | ⟨g,cap,cur,rfl,hg,h1,h2,h3,h4⟩
 ·omega
 have hle:i*Rep.n α+Rep.n α<=l.length*Rep.n α:=by rw[<-Nat.succ_mul];exact LP _ hi
 have hcap:l.length*Rep.n α<=cap*Rep.n α:=LP _ h1;have hlen:u.cells.toList.length=Rep.n α:=by simpa using hcells.2
 have hrun:=run_storeCells_at P g (i*Rep.n α) e u.cells.toList 0 cur w hg (by simp only[Nat.add_zero];omega) (λc hc=>Rep.flat hcells.1 c hc);have hadd:(slA (.slice (some ⟨g,0,none⟩) l.length cap)).add (i*Rep.n α)=⟨g,i*Rep.n α,none⟩:=by show(⟨g,0,none⟩:Addr).add _=_;rw[bN rfl];simp
 have hszr:=run_sizeOf (P:=P) (w:=w) hsz;obtain⟨row,hrow⟩ : ∃row:Array Value,row.toList=cur.toList.take (i*Rep.n α)++u.cells.toList++cur.toList.drop (i*Rep.n α+Rep.n α):=⟨(cur.toList.take (i*Rep.n α)++u.cells.toList++cur.toList.drop (i*Rep.n α+Rep.n α)).toArray,rfl⟩;have hrun':Sem.run P (storeCells ⟨g,i*Rep.n α,none⟩ u.cells.toList) w = .ok () (w.setRow g row):=by rw[hrun];congr 2;rw[<-Array.toList_inj,hrow,hlen];rfl
 have hrsz:row.size=cap*Rep.n α:=by have:=congrArg List.length hrow;simp only[Nw,Lv,LZ,L2,hcells.2]at this;omega
 refine⟨w.setRow g row,?_,Same.qn rfl rfl rfl Sa hg Sa (λk _ hne=>setRow_other w g k _ (λe=>hne e)),hk (w.setRow g row).heap ⟨by simpa using hbd,xs.take (i*Rep.n α)++u.cells.toList++xs.drop (i*Rep.n α+Rep.n α),⟨?_,.inr ⟨g,cap,row,by simp,setRow_heap w g cur row e _ hg,by simpa using h1,h2,?_,?_⟩⟩,?_⟩ ⟨⟨by simp,λk hk hne=>setRow_other w g k _ (λe=>hne (by simp[Value.ownBlock,e]))⟩,.inl rfl⟩⟩
 ·simp only[bW,execOp,hx,hy,hadd];simp[Instr.storeAt,Instr.sureAddr,storeVar,hszr,hcells.2,hrun']
 ·simp only[Lv,LZ,L2,hlen,LJ];omega
 ·exact hrsz
 ·simp only[LJ];rw[hrow,<-h4,MH,L7 Yb,LD,LD];have e1:(cur.toList.take (i*Rep.n α)).length=i*Rep.n α:=by simp;omega
  rw[Nh,e1,Lw Yb];congr 1;rw[Nh,hlen,Lw Yb];congr 1;rw[ML];congr 1;omega
 intro j hj;simp only[LJ]at hj;have hjle:j*Rep.n α+Rep.n α<=l.length*Rep.n α:=by rw[<-Nat.succ_mul];exact LP _ hj
 have e1:(xs.take (i*Rep.n α)).length=i*Rep.n α:=by simp;omega
 by_cases hij:i=j
 ·subst hij;rw[LD,Ny,e1,L5 Yb,LR,OH,Nj,MB Yb,Lw Yb];simpa using hcells.1
 have hset:(l.set i d)[j]'(by simpa using hj)=l[j]:=by simp[hij]
 rw[hset];have:((xs.take (i*Rep.n α)++u.cells.toList++xs.drop (i*Rep.n α+Rep.n α)).drop (j*Rep.n α)).take (Rep.n α)=(xs.drop (j*Rep.n α)).take (Rep.n α):=by
  rcases Lr j i with hlt | hge
  ·have h5:j*Rep.n α+Rep.n α<=i*Rep.n α:=by rw[<-Nat.succ_mul];exact LP _ hlt
   rw[LD,MJ Yb,MB (by simp;omega),ML,MH,L7 Yb]
  have h5:i*Rep.n α+Rep.n α<=j*Rep.n α:=by rw[<-Nat.succ_mul];exact LP _ Yb
  have e2:(xs.take (i*Rep.n α)++u.cells.toList).length=i*Rep.n α+Rep.n α:=by rw[Lv,e1,hlen]
  rw[Ny,L5 Yb,LR,e2,M3];congr 2;omega
 rw[this];exact hel j hj
end
end
section
variable {po po2 po3:OP} {pp:PP}
def up {β:Type} (f:Nat->β->β):Nat->β->β
 | 0,x=>x
 | k+1,x=>f k (up f k x)
def Old (V:View) (h0:Heap) (W:View):Prop:=∀b o,b<h0.size->W b=some o->V b=some o
theorem Old.refl(V:View)(h0:Heap):Old V h0 V:=λ_ _ _ h=>h
theorem Old.nothing (V:View) (h0:Heap):Old V h0 nothing:=λ_ _ _ h=>by cases h
theorem Old.grow {V W:View} {h0 h1 h2:Heap} (o:Old V h0 W) (hs:h0.size<=h1.size):Old V h0 (grow W h1 h2):=λb x hb hx=>by unfold Lft.grow at hx;rw[if_pos Yb]at hx;exact o b x hb hx
theorem Old.le {V W:View} {h0 h:Heap} (o:Old V h0 W) (hw:W.le (vw h)):W.le (Lft.grow V h0 h):=λb x hx=>by
 unfold Lft.grow;split
 ·exact o b x (by assumption) hx
 exact hw b x hx
variable{H:View}
@[simp] theorem bS:nothing.le H:=λ_ _ h=>by cases h
theorem E2(h h':Heap):fresh h h'=Lft.grow nothing h h':=by funext b;unfold fresh Lft.grow;rfl
section
variable {α:Type} [Rep α] {V W:View} {h0 h h':Heap} {e:TypeId} {v:Value} {l:List α}
theorem OwnT.lt(o:OwnT W h e v l){b:Nat}(hb:v.ownBlock=some b):b<h.size:=by
 obtain⟨_,xs,⟨_,hown⟩,_⟩:=o;rcases hown with⟨rfl,_⟩ | ⟨g,cap,cur,rfl,hg,_⟩
 ·simp[Value.ownBlock]at hb
 simp only[Value.ownBlock,Ln]at hb;subst hb;exact(Lu.1 hg).1
theorem OwnT.now(o:OwnT W h e v l)(hw:W.le (vw h)):SlRd (vw h) v l:=o.rd hw λ_ _=>rfl
theorem OwnT.grown(o:OwnT W h e v l)(hw:W.le (vw h))(ho:Old V h0 W)(ha:Av (vw h0) v):SlRd (Lft.grow V h0 h) v l:=by
 refine o.rd (ho.le hw) λb hb=>?_;have:=ha b hb;simp only[vw]at this;have hge:h0.size<=b:=by
  rcases Lr b h0.size with h | h
  ·simp[h]at this
  exact h
 simp only[Lft.grow,if_neg (Pk.2 hge)]
theorem Av.grow (ha:Av W v) (hl : ∀b,v.ownBlock=some b->b<h.size):Av (Lft.grow W h h') v:=λb hb=>by unfold Lft.grow;rw[if_pos (hl b hb)];exact ha b hb
structure Mine (V:View) (h0 h:Heap) (W:View) (e:TypeId) (v:Value) (l:List α):Prop where
 old:(vw h0).le (vw h)
 wle:W.le (vw h)
 av:Av W v
 av0:Av (vw h0) v
 agree:Old V h0 W
 own:OwnT W h e v l
theorem Mine.start(hV:V.le (vw h)):Mine (α:=α) V h h V e (.slice none 0 0) []:=
 ⟨View.le_refl _,hV,Av.nil _ _ _,Av.nil _ _ _,Old.refl _ _,OwnT.nil ..⟩
theorem Mine.ext (m:Mine V h0 h W e v l) (k:(vw h).le (vw h')):Mine V h0 h' (Lft.grow W h h') e v l:=
 ⟨View.le_trans m.old k,lk (View.le_trans m.wle k),m.av.grow λ_ hb=>m.own.lt hb,m.av0,m.agree.grow (cG m.old),(m.own.ext k).mono (bP m.wle)⟩
theorem Mine.ext'(m:Mine V h0 h W e v l)(k:(vw h).le (vw h')):Mine V h0 h' W e v l:=
 ⟨View.le_trans m.old k,View.le_trans m.wle k,m.av,m.av0,m.agree,m.own.ext k⟩
theorem Mine.result(m:Mine V h0 h W e v l):SlRd (Lft.grow V h0 h) v l:=m.own.grown m.wle m.agree m.av0
theorem Mine.fresh (m:Mine nothing h0 h W e v l):SlRd (Lft.fresh h0 h) v l:=by rw[E2];exact m.result
theorem Mine.now (m:Mine V h0 h W e v l):SlRd (vw h) v l:=m.own.now m.wle
theorem Mine.jf{v':Value}{l':List α}(m:Mine V h0 h W e v l)(o:OwnT W h' e v' l')(k:kK h h' v v'):Mine V h0 h' W e v' l':=
 let ⟨a1,a2⟩:=k.view m.wle m.av
 let ⟨b1,b2⟩:=k.view m.old m.av0
 ⟨b1,a1,a2,b2,m.agree,o⟩
variable{P:Program}{ty ty2:TypeId}{bytes:Nat}{y:Operand}{us:List (Nat × Value)}{us2:Value->List (Nat × Value)}
theorem Mine.push{t:TypeId}{z:Value}{x y2:Operand}{u:Value}{d:α}{K:Value->Value->Heap->Prop}(m:Mine V h0 h W e v l)(hT:fm P t e (Rep.n α) bytes z)(hx:asg us x=u)(hr:Rd W u d)(hb:(l.length+1)*bytes<=140737488355328)(hb2:l.length+1<=140737488355328)(hy : ∀u,asg (us2 u) y=v)(hy2 : ∀u,asg (us2 u) y2=u)(hk : ∀u v' h',Mine V h0 h' W e v' (l++[d])->K u v' h'):
  @step po P (.buildSlice t 1 #[(0,x)]) ty us h λu h2=>@step po2 P (.call ⟨.builtin .append,#[y,y2],#[t,t]⟩) ty2 (us2 u) h2 λv' h3=>K u v' h3:=by refine mF hT hx hr λu h2 hs hle _=>?_;have m2:=m.ext' hle;exact bY hT (hy u) (hy2 u) m2.own hs hb hb2 λv' h3 ho hm=>hk u v' h3 (m2.jf ho hm)
variable{n:Nat}{K:Value->Heap->Prop}
theorem Mine.made{t:TypeId}{z:Value}{x:Operand}{k:IntKind}{d:α}(hT:fm P t e (Rep.n α) bytes z)(hle:(vw h0).le (vw h))(hW:W.le (vw h))(ho:Old V h0 W)(hx:asg us x = .int k n)(hy:asg us y = .int k n)(hr:Rep.rd W z.cells.toList d)(hb:bytes*n<=140737488355328)(hb2:n<=140737488355328)(hk : ∀v' h',Mine V h0 h' W e v' (List.replicate n d)->(vw h).le (vw h')->v'.ownBlock=some h.size->K v' h'):step P (.makeSlice t x y) ty us h K:=
 nv hT hx hy hr hb hb2 λv' h' ow mv le hb=>hk v' h' ⟨View.le_trans hle le,View.le_trans hW le,λb hb'=>by rw[hb]at hb';cases hb';exact View.df hW (Lp _),λb hb'=>by rw[hb]at hb';cases hb';exact View.df hle (Lp _),ho,ow⟩ le hb
theorem Mine.put{t:TypeId}{x:Operand}{i:Nat}{u:Value}{d:α}(m:Mine V h0 h W e v l)(hsz:db P t=some (Rep.n α))(hx:asg us x = .pointer (some ((slA v).add (i*Rep.n α))))(hy:asg us y=u)(hi:i<l.length)(hr:Rd W u d)(hk : ∀h',Mine V h0 h' W e v (l.set i d)->K undef h'):step P (.store t x y) ty us h K:=
 rE hsz hx hy m.own hi hr λh' ho hm=>hk h' (m.jf ho hm)
theorem Mine.put1{t:TypeId}{x:Operand}{i:Nat}{u:Value}{d:α}(m:Mine V h0 h W e v l)(hsz:db P t=some (Rep.n α))(hn:Rep.n α=1)(hx:asg us x = .pointer (some ((slA v).add i)))(hy:asg us y=u)(hi:i<l.length)(hr:Rd W u d)(hk : ∀h',Mine V h0 h' W e v (l.set i d)->K undef h'):step P (.store t x y) ty us h K:=
 m.put hsz (i:=i) (by rw[hn,MA];exact hx) hy hi hr hk
end
variable{β:Type}
theorem DQ{f:Nat->List β->List β}{m:Nat}(hf : ∀k x,(f k x).length<=x.length+m)(n:Nat)(x:List β):(up f n x).length<=x.length+n*m:=by
 induction n with
 | zero=>simp[up]
 | succ n ih=>have:=hf n (up f n x);rw[up,MC];omega
def sift {β:Type} (p:Nat->Bool) (x:Nat->β) (n:Nat):List β:=up (λb l=>if p b then l++[x b] else l) n []
theorem oD{p:Nat->Bool}{x:Nat->β}(n:Nat):(sift p x n).length<=n:=by have:=DQ (f:=λb l=>if p b then l++[x b] else l) (m:=1) (λk x=>by split<;>simp) n [];simpa[sift]using this
variable{n:Nat}
theorem mU{p:Nat->Bool}{x:Nat->β}(h:p n=true):sift p x (n+1)=sift p x n++[x n]:=by rw[sift,up,if_pos h];rfl
theorem mb{p:Nat->Bool}{x:Nat->β}(h:p n=false):sift p x (n+1)=sift p x n:=by rw[sift,up,if_neg (by simp[h])];rfl
def rows {β:Type} (x:Nat->β) (n:Nat):List β:=(List.range n).map x
theorem fA{x:Nat->β}:rows x (n+1)=rows x n++[x n]:=by simp[rows,NI]
@[simp] theorem na{x:Nat->β}:(rows x n).length=n:=by simp[rows]
@[simp] theorem Jr{x:Nat->β}:rows x 0=[]:=rfl
@[simp] theorem JC{p:Nat->Bool}{x:Nat->β}:sift p x 0=[]:=rfl
theorem oU{p:Nat->Bool}{x:Nat->β}:sift p x n=((List.range n).filter p).map x:=by
 induction n with
 | zero=>rfl
 | succ n ih=>
  rw[NI,OM,NG,<-ih];cases h:p n with
  | true=>rw[mU h];simp[h]
  | false=>rw[mb h];simp[h]
theorem uF{x:Nat->β}{d:β}{k:Nat}(hk:k<n):(rows x k++List.replicate (n-k) d).set k (x k)=rows x (k+1)++List.replicate (n-(k+1)) d:=by
 have e:n-k=(n-(k+1))+1:=by omega
 rw[List.set_append_right _ _ Sa,na,OH,e,List.replicate_succ,List.set_cons_zero,fA,LD];rfl
theorem gG[Inhabited β]{x:Nat->β}{i:Nat}(h:i<n):nth (rows x n) i=x i:=by rw[aC (by simpa using h)];simp[rows]
theorem tY{h h1 h2:Heap}(hle:(vw h).le (vw h1)):(fresh h1 h2).le (fresh h h2):=λb o hb=>by
 have:=cG hle;unfold fresh at hb ⊢;split at hb
 ·cases hb
 rw[if_neg Yb];exact hb
variable{P:Program}{size bytes:Nat}
theorem gR{t e:Nat}{z:Value}(ht:P.underlying t=some (.slice e))(h:(P.info? e).map (λi=>(i.zero,i.size,i.bytes))=some (some z,size,bytes))(hz:z.cells.size=size)(hs:0<size/\size<=1000):fm P t e size bytes z:=by simp only[Lq,MZ]at h;obtain⟨i,h1,h2,h3,h4⟩:=h;exact⟨ht,⟨i,h1,h2,h3,h4⟩,hz,hs.1,hs.2⟩
theorem ox{a:Int}(h0:-9223372036854775808<=a)(h1:a<=9223372036854775807):Rd H (.int .i64 a) a:=bK.2 ⟨rfl,h0,h1⟩
variable{b:Bool}
theorem IF:Rd H (.bool b) b:=tQ.2 rfl
end
section
variable {po:OP} {pp:PP}
variable{ρ:Env}
theorem ag{ts:List Nat}{u:Nat}:look (cO ρ ts) u=if ts.contains u then none else look ρ u:=by
 induction ρ with
 | nil=>simp
 | cons p ρ ih=>
  obtain⟨k,x⟩:=p;rw[lQ];by_cases hk:ts.contains k=true
  ·simp only[hk,if_true,ih,rS];split
   ·rfl
   rename_i h;split
   ·rename_i e;subst e;exact absurd hk h
   rfl
  rw[if_neg hk,rS,rS,ih];by_cases h1:k=u
  ·subst h1;rw[if_pos rfl,if_pos rfl,if_neg hk]
  rw[if_neg h1,if_neg h1]
theorem mX {ρ ρ':Env} : ∀{ks:List Nat},(∀t∈ks,look ρ t=look ρ' t)->ck ks ρ=ck ks ρ'
 | [],_=>rfl
 | k::ks,h=>by have ih:ck ks ρ=ck ks ρ':=mX λt ht=>h t (LB _ ht);simp only[ck,h k LA,ih]
theorem nf{ts:List Nat}(h : ∀p∈ρ,ts.contains p.1=false):cO ρ ts=ρ:=by
 induction ρ with
 | nil=>rfl
 | cons p ρ ih=>obtain⟨k,x⟩:=p;have h1:=h (k,x) LA;simp only at h1;rw[lQ,h1,if_neg Sa,ih (λp hp=>h p (LB _ hp))]
theorem nC{t:Nat}{v:Value}(h : ∀p∈ρ,p.1≠t):cO (setE ρ t v) [t]=ρ:=by
 have hid:cO ρ [t]=ρ:=nf λp hp=>by simpa using λe=>h p hp e
 induction ρ with
 | nil=>simp[setE]
 | cons p ρ ih=>
  obtain⟨k,x⟩:=p;have hk:=h (k,x) LA;simp only at hk;have hid2:cO ρ [t]=ρ:=nf λp hp=>by simpa using λe=>h p (LB _ hp) e
  simp only[setE,if_neg hk];split
  ·rw[lQ,if_pos Sa,hid]
  rw[lQ,if_neg (by simpa using hk),ih (λp hp=>h p (LB _ hp)) hid2]
theorem mf{X Y:Env->Heap->Prop}{R:Post}:gr X (gr Y R)=gr X R:=by funext e ρ h;cases e<;>rfl
abbrev forL (a i c:Nat) (ks ks2:List Nat) (bound:E) (body:LC):LC:=
 .loop (.seq (.seq (.reg false (.fin ks [(c,.bin (.cmp .lss) (.tmp i) bound)] [])) (.cond (.tmp c) [c] .skip (.exit a)))
  (.seq body (.reg false (.fin ks2 [(i,.bin (.arith .add) (.tmp i) (.con (.int .i64 1)))] []))))
def th (kp ks ks2:List Nat) (c i:Nat):Bool:=kp.all λt=>!ks.contains t&&t != c&&(t == i||!ks2.contains t)
theorem zip_fst{kp:List Nat}{vs:List Value}{p:Nat × Value}(h:p∈kp.zip vs):p.1∈kp:=(List.of_mem_zip h).1
variable{P:Program}{Q:Post}{body:LC}
theorem dR{h:Heap}{a i c:Nat}{ks ks2:List Nat}{bound:E}{σ:Type}(kp:List Nat)(vals:σ->Nat->List Value)(J:σ->Nat->Heap->Prop)(n:Nat)(s0:σ)(hok:th kp ks ks2 c i=true)(hn:n<=9223372036854775806)(h0:ck kp ρ=kp.zip (vals s0 0))(hj:J s0 0 h)(hi : ∀s k,look (kp.zip (vals s k)) i=some (.int .i64 k))(hb : ∀s k h,k<=n->J s k h->ev (look (kp.zip (vals s k))) (vw h) bound=some (.int .i64 n))(round : ∀s k h,k<n->J s k h->∀K:Env->Heap->Prop,(∀s' ρ' h',look ρ' i=some (.int .i64 k)->ck kp (setE ρ' i (.int .i64 ((k:Int)+1)))=kp.zip (vals s' (k+1))->J s' (k+1) h'->K ρ' h')->body.wp P (gr K (fN a Q)) (kp.zip (vals s k)) h)(done : ∀s h,J s n h->Q .normal (kp.zip (vals s n)) h):LC.wp P (forL a i c ks ks2 bound body) (fN a Q) ρ h:=by
 simp only[th,L6,Ly,Ns,bne_iff_ne,MF,beq_iff_eq,ne_eq]at hok;refine jR kp (λm ρ h=>∃s k,k<=n/\ρ=kp.zip (vals s k)/\m=n-k/\J s k h) n ⟨s0,0,by omega,h0,by omega,hj⟩ ?_;rintro m ρ h ⟨s,k,hk,rfl,rfl,hJ⟩ K hK;have hkill:cO (kp.zip (vals s k)) ks=kp.zip (vals s k):=nf λp hp=>(hok p.1 (zip_fst hp)).1.1;have hne : ∀p∈kp.zip (vals s k),p.1≠c:=λp hp=>(hok p.1 (zip_fst hp)).1.2;have hk2 : ∀v,cO (setE (kp.zip (vals s k)) c v) [c]=kp.zip (vals s k):=λv=>nC hne;have hlk : ∀v,look (setE (kp.zip (vals s k)) c v) c=some v:=λv=>by rw[af,if_pos rfl]
 simp only[tL,mz,jz,hZ,kQ,mh,lC,n8,hi,hb s k h hk hJ,LI,F9,jN,ml,true_and,dQ,hkill,fT,nc,hlk,lz,hk2,qC,qL,nD,nH,if_true];refine⟨λhlt=>?_,λhge=>?_⟩
 ·have hlt':k<n:=by omega
  rw[mf];refine round s k h hlt' hJ _ λs' ρ' h' hl he hJ'=>?_;simp only[mz,jz,hZ,kQ,mh,lC,n8,hl,ml,true_and,LI,yd,LI,yf,jN,dQ,fT,true_and];rw[bZ Yb Yb];refine hK (n-(k+1)) _ _ Yb ⟨s',k+1,by omega,?_,rfl,hJ'⟩;rw[<-he];refine mX λt ht=>?_;rw[af,af,ag];split
  ·rfl
  rename_i hti;rcases(hok t ht).2 with e | e
  ·exact absurd e.symm hti
  rw[e];rfl
 have:k=n:=by omega
 subst this;exact done s h hJ
abbrev forR (a i c:Nat) (ks ks2:List Nat) (bound:E) (body:LC):LC:=
 .loop (.seq (.reg false (.fin ks [(c,.bin (.cmp .lss) (.tmp i) bound)] [])) (.seq (.cond (.tmp c) [c] .skip (.exit a))
  (.seq body (.reg false (.fin ks2 [(i,.bin (.arith .add) (.tmp i) (.con (.int .i64 1)))] [])))))
theorem aS{h:Heap}{a i c:Nat}{ks ks2:List Nat}{bound:E}{σ:Type}(kp:List Nat)(vals:σ->Nat->List Value)(J:σ->Nat->Heap->Prop)(n:Nat)(s0:σ)(hok:th kp ks ks2 c i=true)(hn:n<=9223372036854775806)(h0:ck kp ρ=kp.zip (vals s0 0))(hj:J s0 0 h)(hi : ∀s k,look (kp.zip (vals s k)) i=some (.int .i64 k))(hb : ∀s k h,k<=n->J s k h->ev (look (kp.zip (vals s k))) (vw h) bound=some (.int .i64 n))(round : ∀s k h,k<n->J s k h->∀K:Env->Heap->Prop,(∀s' ρ' h',look ρ' i=some (.int .i64 k)->ck kp (setE ρ' i (.int .i64 ((k:Int)+1)))=kp.zip (vals s' (k+1))->J s' (k+1) h'->K ρ' h')->body.wp P (gr K (fN a Q)) (kp.zip (vals s k)) h)(done : ∀s h,J s n h->Q .normal (kp.zip (vals s n)) h):LC.wp P (forR a i c ks ks2 bound body) (fN a Q) ρ h:=by
 simp only[th,L6,Ly,Ns,bne_iff_ne,MF,beq_iff_eq,ne_eq]at hok;refine jR kp (λm ρ h=>∃s k,k<=n/\ρ=kp.zip (vals s k)/\m=n-k/\J s k h) n ⟨s0,0,by omega,h0,by omega,hj⟩ ?_;rintro m ρ h ⟨s,k,hk,rfl,rfl,hJ⟩ K hK;have hkill:cO (kp.zip (vals s k)) ks=kp.zip (vals s k):=nf λp hp=>(hok p.1 (zip_fst hp)).1.1;have hne : ∀p∈kp.zip (vals s k),p.1≠c:=λp hp=>(hok p.1 (zip_fst hp)).1.2;have hk2 : ∀v,cO (setE (kp.zip (vals s k)) c v) [c]=kp.zip (vals s k):=λv=>nC hne;have hlk : ∀v,look (setE (kp.zip (vals s k)) c v) c=some v:=λv=>by rw[af,if_pos rfl]
 simp only[tL,mz,jz,hZ,kQ,mh,lC,n8,hi,hb s k h hk hJ,LI,F9,jN,ml,true_and,dQ,hkill,fT,nc,hlk,lz,hk2,qC,qL,nD,nH,if_true];refine⟨λhlt=>?_,λhge=>?_⟩
 ·have hlt':k<n:=by omega
  rw[mf];refine round s k h hlt' hJ _ λs' ρ' h' hl he hJ'=>?_;simp only[mz,jz,hZ,kQ,mh,lC,n8,hl,ml,true_and,LI,yd,LI,yf,jN,dQ,fT,true_and];rw[bZ Yb Yb];refine hK (n-(k+1)) _ _ Yb ⟨s',k+1,by omega,?_,rfl,hJ'⟩;rw[<-he];refine mX λt ht=>?_;rw[af,af,ag];split
  ·rfl
  rename_i hti;rcases(hok t ht).2 with e | e
  ·exact absurd e.symm hti
  rw[e];rfl
 have:k=n:=by omega
 subst this;exact done s h hJ
theorem aP{h:Heap}{r:Reg}(H:View)(hH:H.le (vw h))(hw:eZ P (some H) r (Q .normal) ρ h):LC.wp P (.reg true r) Q ρ h:=⟨H,View.vH hH,jD (λ_ _=>View.vH) hw⟩
theorem CM{h:Heap}{r:Reg}(H:View)(hH:H.sub (vw h))(hw:de View.sub P (some H) r (Q .normal) ρ h):LC.wp P (.reg true r) Q ρ h:=⟨H,hH,hw⟩
end
section
variable {po po2 po3:OP} {pp:PP}
variable{n:Nat}
@[simp] theorem JQ{b o:Nat}:(⟨b,o,none⟩:Addr).add n=⟨b,o+n,none⟩:=bN rfl n
variable{H:View}
@[simp] theorem JA{a:Addr}:Un.ev H .nilPtr (.pointer (some a))=some (.pointer (some a)):=rfl
@[simp] theorem K0{a:Addr}{o:Nat}:Un.ev H (.fld o) (.pointer (some a))=some (.pointer (some (a.add o))):=rfl
@[simp] theorem Kt{k q:IntKind}{a:Int}:Un.ev H (.conv k) (.int q a)=some (.int k (k.wrap a)):=rfl
variable{cs:Array Value}
@[simp] theorem Ky{o:Nat}:Un.ev H (.part o) (.agg cs)=cs[o]?:=rfl
@[simp] theorem J6{o:Nat}:Un.ev H (.parts o n) (.agg cs)=some (.agg (cs.extract o (o+n))):=rfl
@[simp] theorem KB{o:Nat}:Un.ev H (.ext o) (.tuple cs)=cs[o]?:=rfl
def HL:Value->Value->Option Value
 | .tuple vs,u=>some (.tuple (vs.push u))
 | _,_=>none
@[simp] theorem HY{vs:Array Value}{u:Value}:HL (.tuple vs) u=some (.tuple (vs.push u)):=rfl
@[simp] theorem I1{σ:Nat->Option Value}{x y:E}:ev σ H (.snoc x y)=(ev σ H x).bind λv=>(ev σ H y).bind λu=>HL v u:=by
 simp only[ev];cases hx:ev σ H x with
 | none=>rfl
 | some v=>
  cases hy:ev σ H y with
  | none=>cases v<;>rfl
  | some u=>cases v<;>rfl
@[simp] theorem K6{f:Nat}{vs:Array Value}:Un.ev H (.fn f) (.tuple vs)=some (.func (.func f) #[] vs):=rfl
@[simp] theorem Jt:(Value.agg cs).cells=cs:=rfl
@[simp] theorem Ij{a:Option Addr}{c:Nat}:(Value.slice a n c).cells = #[.slice a n c]:=rfl
@[simp] theorem Jv{k:IntKind}{n:Int}:(Value.int k n).cells = #[.int k n]:=rfl
variable{b:Bool}
@[simp] theorem ID:(Value.bool b).cells = #[.bool b]:=rfl
@[simp] theorem Gc{a:Option Addr}:(Value.pointer a).cells = #[.pointer a]:=rfl
def Cy (P:Program) (t:TypeId):Option (List (Nat × Nat)):=
 match P.underlying t with
 | some (.struct fields)=>fields.toList.mapM λf=>(db P f.type).map λn=>(f.offset,n)
 | some (.array k e)=>(db P e).map λn=>(List.range k).map λi=>(i*n,n)
 | _=>none
section
variable {P:Program} {ty:TypeId} {us:List (Nat × Value)} {h:Heap} {K:Value->Heap->Prop}
theorem xl {f g:Nat->Option (Nat × Nat)} (hfg : ∀i p,f i=some p->g i=some p) : ∀{vs:List (Nat × Value)} {c cs:Array Value},Instr.fill f c vs=some cs->Instr.fill g c vs=some cs
 | [],c,cs,h=>h
 | (i,v)::vs,c,cs,h=>by
  simp only[Instr.fill]at h ⊢;split at h
  ·cases h
  rename_i off size hi;rw[hfg i _ hi];simp only;split at h
  ·cases h
  rename_i hc;rw[if_neg hc];exact xl hfg h
theorem run_places {w:World} : ∀{fs:List Field} {ps:List (Nat × Nat)},(fs.mapM λf=>(db P f.type).map λn=>(f.offset,n))=some ps->
  (fs.mapM fun(f:Field)=>Prod.mk f.offset <$> sizeOf f.type).run P w=Result.ok ps w
 | [],ps,h=>by simp at h;subst h;simp
 | f::fs,ps,h=>by simp only[O7,Option.bind_eq_bind,Lz,Lq]at h;obtain⟨p,⟨n,hn,rfl⟩,ps',h2,h3⟩:=h;simp only[Option.pure_def,Ln]at h3;subst h3;have ih:=run_places (w:=w) h2;simp[O7,Sem.run_bind,run_sizeOf hn,ih]
theorem ay{t:TypeId}{ps:Array (Nat × Operand)}{vs:List (Nat × Value)}{z:Value}{places:List (Nat × Nat)}(hz:(P.info? t).map (·.zero)=some (some z))(hpl:Cy P t=some places)(hp:ps.map (λp=>(p.1,asg us p.2))=vs.toArray)(hf:Instr.fill (places[·]?) z.cells vs=some cs)(hk:K (.agg cs) h):step P (.build t ps) ty us h K:=by
 refine dz (cH λw hw=>⟨.agg cs,w,?_,Same.refl _,by rw[hw];exact hk⟩);have hp':(ps.map λx=>match x with | (i,x)=>(i,asg us x))=vs.toArray:=hp;simp only[Lq]at hz;obtain⟨i,hi,hz⟩:=hz;simp only[bW,execOp,hp'];unfold Cy at hpl;split at hpl
 ·rename_i fields hu;have hr:=run_places (P:=P) (w:=w) hpl;have hr2:(fields.mapM fun(f:Field)=>Prod.mk f.offset <$> sizeOf f.type).run P w=Result.ok places.toArray w:=by rw[OT];simp only[Sem.run_map];erw [hr];rfl
  have hf':Instr.fill (places.toArray[·]?) z.cells vs=some cs:=by simpa using hf
  simp[Instr.build,zeroValue,typeInfo,hi,hz,run_underlying hu,hr2,hf',hf]
 ·rename_i k e hu;simp only[Lq]at hpl;obtain⟨n,hn,rfl⟩:=hpl;have hf':=xl (g:=λi=>some (i*n,n)) (λi p hp=>by
   simp only[M6,Lq]at hp;obtain⟨j,hj,rfl⟩:=hp;rcases Lr i k with hlt | hge
   ·rw[List.getElem?_range hlt]at hj;cases hj;rfl
   rw[L4 (by simpa using hge)]at hj;cases hj) hf;simp[Instr.build,zeroValue,typeInfo,hi,hz,run_underlying hu,run_sizeOf hn,hf']
 cases hpl
variable{size bytes:Nat}
theorem pg{t e:TypeId}{z:Value}{ps:Array (Nat × Operand)}{vs:List (Nat × Value)}(hT:fm P t e size bytes z)(hn:n*size<=16777216)(hp:ps.map (λp=>(p.1,asg us p.2))=vs.toArray)(hf:Instr.fill (λj=>some (j*size,size)) ((Array.range (n*size)).map (z.cells[· % z.cells.size]!)) vs=some cs)(hk:K (.slice (some ⟨h.size,0,none⟩) n n) (h.push (.cells cs e))):step P (.buildSlice t n ps) ty us h K:=by obtain⟨ht,⟨i,hi,hz,hsize,hby⟩,_⟩:=hT;exact nW ht hi hz hsize hn hp hf hk
theorem ed{t:TypeId}{z:Value}(hz:(P.info? t).map (·.zero)=some (some z))(hk:K (.pointer (some ⟨h.size,0,none⟩)) (h.push (.cells z.cells t))):step P (.alloc t) ty us h K:=by simp only[Lq]at hz;obtain⟨i,hi,hz⟩:=hz;refine dz (cH λw hw=>?_);subst hw;refine⟨_,w.alloc (.cells z.cells t),?_,iD _ _,hk⟩;simp only[bW,execOp];simp[Instr.alloc,zeroValue,typeInfo,hi,hz,newVar,newRow]
theorem dK{t:TypeId}{x:Operand}{v:Value}(hx:asg us x=v)(hk:K (.pointer (some ⟨h.size,0,none⟩)) (h.push (.cells v.cells t))):step P (.box t x) ty us h K:=by refine dz (cH λw hw=>?_);subst hw;refine⟨_,w.alloc (.cells v.cells t),?_,iD _ _,hk⟩;simp only[bW,execOp];simp[Instr.box,hx,newVar,newRow]
variable{y:Operand}
theorem fq{t e:TypeId}{g o:Nat}{x:Operand}{v:Value}{cur:Array Value}(hsz:db P t=some n)(hx:asg us x = .pointer (some ⟨g,o,none⟩))(hy:asg us y=v)(hv:v.cells.size=n)(h1 : ∀c∈v.cells.toList,c.oneCell'=true)(hg:h[g]? = some (.cells cur e (0,0)))(hfit:o+n<=cur.size)(hk : ∀h':Heap,h'.size=h.size->(∃row:Array Value,h'[g]? = some (.cells row e (0,0))/\row.toList=cur.toList.take o++v.cells.toList++cur.toList.drop (o+n))->(∀k,k≠g->h'[k]? = h[k]?)->K undef h'):step P (.store t x y) ty us h K:=by
 refine dz (pa λw hw=>?_);subst hw;have hlen:v.cells.toList.length=n:=by simpa using hv
 have hrun:=run_storeCells_at P g o e v.cells.toList 0 cur w hg (by simp only[Nat.add_zero];omega) h1;obtain⟨row,hrow⟩ : ∃row:Array Value,row.toList=cur.toList.take o++v.cells.toList++cur.toList.drop (o+n):=⟨(cur.toList.take o++v.cells.toList++cur.toList.drop (o+n)).toArray,rfl⟩;have hrun':Sem.run P (storeCells ⟨g,o,none⟩ v.cells.toList) w = .ok () (w.setRow g row):=by rw[hrun];congr 2;rw[<-Array.toList_inj,hrow,hlen];rfl
 refine⟨w.setRow g row,?_,Same.qn rfl rfl rfl Sa hg Sa (λk _ hne=>setRow_other w g k _ (λe=>hne e)),hk _ Sa ⟨row,setRow_heap w g cur row e _ hg,hrow⟩ λk hne=>setRow_other w g k _ (λe=>hne e)⟩;simp only[bW,execOp,hx,hy];simp[Instr.storeAt,Instr.sureAddr,storeVar,run_sizeOf (P:=P) (w:=w) hsz,hv,hrun']
variable{ty2:TypeId}{us2:Value->List (Nat × Value)}
theorem rQ{t:TypeId}{z:Value}{x:Operand}{v:Value}{K:Value->Heap->Prop}(hz:(P.info? t).map (·.zero)=some (some z))(hzc:z.cells.size=1)(hsz:db P t=some 1)(hv:v.cells = #[v])(hone:v.oneCell'=true)(hx : ∀p,asg (us2 p) x=p)(hy : ∀p,asg (us2 p) y=v)(hk : ∀h':Heap,(vw h).le (vw h')->h'.size=h.size+1->h'[h.size]? = some (.cells #[v] t (0,0))->K (.pointer (some ⟨h.size,0,none⟩)) h'):
  @step po P (.alloc t) ty us h λp h2=>@step po2 P (.store t x y) ty2 (us2 p) h2 λ_ h3=>K p h3:=by
 refine ed hz ?_;refine fq (g:=h.size) (o:=0) (n:=1) (v:=v) (cur:=z.cells) (e:=t) hsz (hx _) (hy _) (by rw[hv];rfl) (by rw[hv];simpa using hone) Sa Yb λh' hs ⟨row,hrow,he⟩ hoth=>?_;have hrow2:row = #[v]:=by rw[<-Array.toList_inj,he,hv];simp only[NP,LR,MR];rw[L5 (by simp[hzc])];rfl
 rw[hrow2]at hrow;refine hk h' (λb o hb=>?_) (by rw[hs];simp) hrow;have hlt:=View.lt (View.le_refl (vw h)) hb;show h'[b]? = _;rw[hoth b Yb];exact bV _ _ b o hb
variable{caps:Array Value}
theorem cj{f:FuncId}{t:Nat}{ops:List Operand}{T:Array TypeId}(hf:asg us (.tmp t) = .func (.func f) #[] caps){R:Value->Heap->Prop}(hfn:isFn P f=true)(hc:az P f (ops.map (asg us)++caps.toList).toArray h R)(hk : ∀v h',R v h'->K v h'):step P (.call ⟨.value (.tmp t),ops.toArray,T⟩) ty us h K:=by
 refine dz (pZ (R:=R) (f:=f) (args:=(ops.map (asg us)++caps.toList).toArray) (λw _=>?_) hc hk);unfold isFn at hfn;cases hfn':P.funcs[f]? with
 | none=>simp[hfn']at hfn
 | some fn=>simp only[hfn',Ly,bne_iff_ne,ne_eq]at hfn;obtain⟨h1,h2⟩:=hfn;simp[bW,execOp,resolve,Deferred.ofValue,hf,invoke,callFunc,program,Sem.run,hfn',h1,Option.isNone];cases hb:fn.body<;>simp[hb]at h2 ⊢
theorem Bc{e:TypeId}{w:World}{a b:Int}{ki:IntKind}(he:P.underlying e=some (.int ki)):(Op.equalIn (n+1) e (.int ki a) (.int ki b)).run P w = .ok (a == b) w:=by simp[Op.equalIn,run_underlying he]
theorem xm{e:TypeId}{w:World}{o:Nat}{v:Value}(ha:mC P e=some false)(hv:cs[o]? = some v):(Go.part e cs o).run P w = .ok v w:=by simp[Go.part,mR ha,hv]
theorem yU{t e:TypeId}{w:World}{a b c d:Int}{ki:IntKind}(hu:P.underlying t=some (.array 2 e))(he:P.underlying e=some (.int ki))(hs:db P e=some 1)(ha:mC P e=some false):
  (Op.equal t (.agg #[.int ki a,.int ki b]) (.agg #[.int ki c,.int ki d])).run P w = .ok (a == c&&b == d) w:=by
 simp only[db,Lq]at hs;obtain⟨i,hi,hs⟩:=hs;have hc:P.cellsOf e=1:=by simp[Program.cellsOf,hi,hs]
 show(Op.equalIn (9999+1) t _ _).run P w=_;rw[run_equalIn_array (P:=P) (w:=w) (d:=9999) (xs:=_) (ys:=_) hu hi,hc];have p0 : ∀{x y:Int},(Go.part e #[.int ki x,.int ki y] 0).run P w = .ok (.int ki x) w:=xm ha rfl;have p1 : ∀{x y:Int},(Go.part e #[.int ki x,.int ki y] 1).run P w = .ok (.int ki y) w:=xm ha rfl;simp[NI,Op.eqItems,p0,p1,Bc he];by_cases h1:a=c<;>by_cases h2:b=d<;>simp[h1,h2]
end
instance:Rep (Int × Int) where
 n:=2
 agg:=true
 rd:=λ_ cs d=>cs=[.int .i64 d.1,.int .i64 d.2]/\(-9223372036854775808<=d.1/\d.1<=9223372036854775807)/\-9223372036854775808<=d.2/\d.2<=9223372036854775807
 mono:=λ_ h=>h
 len:=λh=>by rw[h.1];rfl
 one:=λh=>by cases h
 flat:=λh u hu=>by rw[h.1]at hu;simp at hu;rcases hu with rfl | rfl<;>rfl
 pos:=by decide
 fM:=λh=>h
theorem oT{v:Value}{d:Int × Int}:Rd H v d↔v = .agg #[.int .i64 d.1,.int .i64 d.2]/\(-9223372036854775808<=d.1/\d.1<=9223372036854775807)/\-9223372036854775808<=d.2/\d.2<=9223372036854775807:=by
 simp only[Rd,Rep.agg,Rep.rd,if_true];constructor
 ·rintro⟨cs,rfl,h1,h2⟩;refine⟨?_,h2⟩;congr 1;rw[<-Array.toList_inj,h1]
 rintro⟨rfl,h2⟩;exact⟨_,rfl,rfl,h2⟩
variable{α:Type}
theorem SlRd.idxn[Rep α]{v:Value}{l:List α}(h:SlRd H v l){N:Nat}(hn:Rep.n α=N){k:IntKind}{i:Int}(h0:0<=i)(h1:i<l.length):Bn.ev (.idx N) v (.int k i)=some (.pointer (some ((slA v).add (i.toNat*N)))):=by have:=h.idx (k:=k) h0 h1;rw[hn]at this;exact this
theorem SlRd.Cc{K:View}{v:Value}{l:List (Int × Int)}(h:SlRd H v l)(hk:H.le K){i:Nat}(hi:i<l.length):ao K (((slA v).add (i*2)).add 0)=some (.int .i64 (nth l i).1)/\ao K (((slA v).add (i*2)).add 1)=some (.int .i64 (nth l i).2):=by obtain⟨cs,h1,h2⟩:=(h.at hi).mono hk;rw[aC hi];obtain⟨e,_⟩:=h2;subst e;exact⟨gJ h1 (i:=0) rfl,gJ h1 (i:=1) rfl⟩
end
section
variable {po po2 po3:OP} {pp:PP}
variable{P:Program}{K:Value->Heap->Prop}
theorem BE{s:Sem Next}{l:Nat}{vs:List Value}{h:Heap}{R:Bool->Heap->Prop}(hs : ∀w:World,w.heap=h->s.run P w=(Instr.yield l vs.toArray).run P w)(hy:AS P l vs h R)(hk : ∀b h',R b h'->K (.bool b) h'):ia P s h K:=by intro w hw r o a K' Q' hK hQ;obtain⟨f,tmps,asg,body,h1,h2⟩:=hy w hw;rw[hs w hw,h1];simp only[Oper.uponIn];have h3:RoundIn (Fw r) 0 P l f tmps asg body w _:=h2;refine⟨λh=>by simp[Fw,Fence.wide]at h,h3.mono ?_⟩;rintro e w' ⟨b,rfl,hR,hsame⟩;exact hK _ w' (hk _ _ hR) hsame
variable{ty:TypeId}{us:List (Nat × Value)}
theorem En{t l:Nat}{ops:List Operand}{T:Array TypeId}{h:Heap}(hf:asg us (.tmp t) = .func (.yield l) #[] #[]){R:Bool->Heap->Prop}(hy:AS P l (ops.map (asg us)) h R)(hk : ∀b h',R b h'->K (.bool b) h'):step P (.call ⟨.value (.tmp t),ops.toArray,T⟩) ty us h K:=by refine dz (BE (l:=l) (vs:=ops.map (asg us)) (λw _=>?_) hy hk);simp[bW,execOp,resolve,Deferred.ofValue,hf,invoke]
variable{β:Type}{body:LC}{Q:Post}{ρ:Env}
theorem AY{enc:β->List Value}{g:E}{ps:List Nat}{asg:LC}{h:Heap}{gf:Nat}{caps:List Value}{all:List β}{A:β->Env}(V W0:View)(I:Option Exit->Nat->View->Heap->Prop)(hg:ev (look ρ) (vw h) g=some (.func (.func gf) #[] caps.toArray))(hf:isFn P gf=true)(hi:Iter P gf caps V (all.map enc))(hl : ∀x,(enc x).length=ps.length)(hV:V.le W0)(hI : ∀e k,nA h.size (I e k))(h0:I none 0 W0 h)(hasg : ∀x h1,@LC.wp noPP P asg (λe ρ1 h2=>e = .normal/\h2=h1/\ρ1=A x) (dQ ρ (ps.zip (enc x))) h1)(round : ∀k x W h1,(∀b,b<h.size->W b=W0 b)->all[k]? = some x->I none k W h1->∀K:Post,(∀ρ2 h3,I none (k+1) W h3->K .normal ρ2 h3)->(∀e ρ2 h3,e≠.normal->I (some e) (k+1) W h3->K e ρ2 h3)->@LC.wp noPP P body K (A x) h1)(done : ∀W h1,(∀b,b<h.size->W b=W0 b)->I none all.length W h1->Q .normal ρ h1)(left : ∀e k W h1,(∀b,b<h.size->W b=W0 b)->I (some e) k W h1->Q e ρ h1):LC.wp P (.rangef g ps asg body) Q ρ h:=by
 refine⟨gf,caps,V,W0,all.map enc,I,λk=>match all[k]? with | some x=>A x | none=>[],hg,hf,hi,λvs hvs=>?_,hV,hI,h0,λk vs W h1 ha hk hIk=>?_,λW h1 a b=>done W h1 a (by simpa using b),λe k W h1 _ _=>left e k W h1⟩
 ·obtain⟨x,_,rfl⟩:=MP.1 hvs;exact hl x
 rw[M6,Lq]at hk;obtain⟨x,hk,rfl⟩:=hk;simp only[hk];refine⟨hasg x h1,round k x W h1 ha hk hIk _ (λρ2 h3 hh=>hh) λe ρ2 h3 hne hh=>?_⟩;cases e<;>first | exact absurd rfl hne | exact hh
theorem SlRd.drop {α:Type} [Rep α] {H:View} {v:Value} {l:List α} (h:SlRd H v l) {n:Nat} (hn:n<=l.length) {kd:IntKind} : ∃u,Bn.ev (.lo (Rep.n α)) v (.int kd n)=some u/\SlRd H u (l.drop n):=by
 obtain⟨a,cap,rfl,h1,h2,h3⟩:=h;refine⟨.slice (if cap=n then a else a.map (·.add (n*Rep.n α))) (l.length-n) (cap-n),by simp[Bn.ev,vL,vI,hn],if cap=n then a else a.map (·.add (n*Rep.n α)),cap-n,?_,?_,?_,?_⟩
 ·rw[L2]
 ·rw[L2];omega
 ·rw[L2];omega
 rcases h3 with rfl | ⟨ad,rfl,hs,hat⟩
 ·left;simp
 by_cases hc:cap=n
 ·left;simp;omega
 refine .inr ⟨ad.add (n*Rep.n α),by simp[hc],by rw[bN hs],λi hi=>?_⟩;rw[L2]at hi;rw[NL];have:=hat (n+i) Yb;rw[bN hs]at this ⊢;rw[bN rfl];simpa[NC,Nat.add_assoc]using this
def but (v:Value) (h:Heap):View:=λb=>if v.ownBlock=some b then none else h[b]?
theorem Ev{v:Value}{h:Heap}:(but v h).le (vw h):=λb o hb=>by
 unfold but at hb;split at hb
 ·cases hb
 exact hb
theorem IZ{v:Value}{h:Heap}:Av (but v h) v:=λb hb=>by unfold but;rw[if_pos hb]
variable{h':Heap}
theorem zB{v:Value}{h:Heap}(hle:(vw h).le (vw h')):(but v h).le (but v h'):=λb o hb=>by
 unfold but at *;split at hb
 ·cases hb
 rename_i hne;rw[if_neg hne];exact hle b o hb
variable{V:View}
theorem I3{v:Value}{h:Heap}(hV:V.le (vw h))(ha:Av V v):V.le (but v h):=λb o hb=>by
 unfold but;split
 ·rename_i e;rw[ha b e]at hb;cases hb
 exact hV b o hb
variable{α:Type}{h0:Heap}{W:View}
theorem Mine.beside[Rep α][Rep β]{h:Heap}{e e1:TypeId}{v2 v1 v1':Value}{l2:List α}{l1':List β}(m2:Mine nothing h0 h nothing e v2 l2)(m1:Mine V h0 h' W e1 v1' l1')(mv:kK h h' v1 v1')(ne:v2.ownBlock=none\/v2.ownBlock≠v1.ownBlock):Mine nothing h0 h' nothing e v2 l2:=
 ⟨m1.old,λ_ _ h=>(by cases h),λ_ _=>rfl,m2.av0,Old.nothing _ _,m2.own.kept mv.kept ne⟩
theorem Mine.over[Rep α]{h:Heap}{e:TypeId}{v:Value}{l:List α}(m:Mine V h0 h nothing e v l):Mine (vw h0) h0 h (but v h) e v l:=
 ⟨m.old,Ev,IZ,m.av0,λb o hb hx=>by have h1:=Ev b o hx;have h2:h0[b]? = some h0[b]:=LK hb;have h3:h[b]? = some h0[b]:=m.old b _ h2;have h4:h[b]? = some o:=h1;rw[h3]at h4;cases h4;exact h2,m.own.mono (λ_ _ h=>by cases h)⟩
theorem Mine.JJ{h:Heap}{e:TypeId}{v:Value}{l:List Int}(m:Mine V h0 h W e v l):Mine nothing h0 h nothing e v l:=
 ⟨m.old,λ_ _ h=>(by cases h),λ_ _=>rfl,m.av0,Old.nothing _ _,m.own⟩
variable{n:Nat}
theorem Iv{a:Addr}{c m:Nat}{k:IntKind}{i:Int}(h0:0<=i)(h1:i<n):Bn.ev (.idx m) (.slice (some a) n c) (.int k i)=some (.pointer (some (a.add (i.toNat*m)))):=by simp[Bn.ev,vL,vI,h0,h1]
theorem Hy{a:Addr}{c:Nat}{k:IntKind}{i:Int}(h0:0<=i)(h1:i<n):Bn.ev (.idx 1) (.slice (some a) n c) (.int k i)=some (.pointer (some (a.add i.toNat))):=by rw[Iv h0 h1,MA]
variable{H:View}
theorem dq{b o:Nat}{c:Array Value}{T:TypeId}{fz:Nat × Nat}{v:Value}(h:H b=some (.cells c T fz))(hv:c[o]? = some v):ao H ⟨b,o,none⟩=some v:=by simp[ao,h,hv]
theorem SlRd.cells {α:Type} [Rep α] {H:View} {v:Value} {l:List α} (h:SlRd H v l):v.cells = #[v]/\v.oneCell'=true:=by obtain⟨a,cap,rfl,_⟩:=h;exact⟨rfl,rfl⟩
theorem nM.ext{h0 h h':Heap}(hs:nM h0.size h h')(hle:(vw h0).le (vw h)):(vw h0).le (vw h'):=λb o hb=>by have hlt:=View.lt (View.le_refl (vw h0)) hb;show h'[b]? = _;rw[hs.same b (.inl hlt)];exact hle b o hb
theorem nM.kI{h:Heap}(hs:nM h0.size h h'):(fresh h0 h).fM.le (fresh h0 h'):=λb o hb=>by
 have h1:=View.FQ _ _ hb;have h2 : ∀x,o≠.deferred x:=by intro x e;subst e;unfold View.fM at hb;split at hb<;>cases hb
 unfold fresh at h1 ⊢;split at h1
 ·cases h1
 rename_i hge;rw[if_neg hge,hs.same b (.inr ?_)]
 ·exact h1
 rw[h1];intro e;exact h2 _ (Option.some.inj e)
theorem nM.rd[Rep α]{h:Heap}{v:Value}{l:List α}(hs:nM h0.size h h')(hr:SlRd (fresh h0 h) v l):SlRd (fresh h0 h') v l:=
 eO.1 ((eO.2 hr).fM.mono hs.kI)
theorem iU{h:Heap}{b:Nat}(hb:b<h.size):grow W h h' b=W b:=by unfold grow;rw[if_pos hb]
theorem nA.grown{J:View->Heap->Prop}(hJ:nA n J){h:Heap}(hj:J W h)(hn:n<=h.size)(hle:(vw h).le (vw h')):J (grow W h h') h':=
 hJ.move hj (λb hb=>iU Yb) (lk (View.le_trans (hJ.le hj) hle)) (λb hb hlt=>⟨(sF hle).block b hlt Sa,by rw[iU hlt];exact hb⟩) (cG hle)
variable{bytes:Nat}{y:Operand}
theorem FX{t e:TypeId}{z:Value}{x:Operand}{h:Heap}{k:IntKind}(hT:fm P t e 1 bytes z)(hx:asg us x = .int k n)(hy:asg us y = .int k n)(hz1:z.cells = #[z])(hb:bytes*n<=140737488355328)(hb2:n<=140737488355328)(hk:K (.slice (some ⟨h.size,0,none⟩) n n) (h.push (.cells (List.replicate n z).toArray e))):step P (.makeSlice t x y) ty us h K:=by
 obtain⟨ht,⟨i,hi,hz,hsize,hby⟩,hzs,hsz,hsmall⟩:=hT;refine dz (cH λw hw=>?_);subst hw;have hrun:=run_make (P:=P) w t e i z ht hi hz k k (n:Int) (n:Int) Yb (N1 _) (by
  rw[hby];have:((bytes*n:Nat):Int)<=281474976710656:=by omega
  rwa [Int.natCast_mul]at this) Yb;simp only[LN,hsize,MA]at hrun
 have hm:madeCells z.cells n=(List.replicate n z).toArray:=by
  rw[hz1];apply Array.ext
  ·simp[madeCells]
  intro j h1 h2;simp[madeCells,Nat.mod_one]
 rw[hm]at hrun;refine⟨_,w.alloc (.cells (List.replicate n z).toArray e),?_,iD _ _,hk⟩;simp only[bW,execOp,hx,hy];simp[hrun]
theorem OwnT.same[Rep α]{h:Heap}{e:TypeId}{v:Value}{l:List α}(o:OwnT W h e v l)(hb : ∀b,v.ownBlock=some b->h'[b]? = h[b]?):OwnT W h' e v l:=by
 obtain⟨bd,xs,⟨h1,h2⟩,h3⟩:=o;refine⟨bd,xs,⟨h1,?_⟩,h3⟩;rcases h2 with h2 | ⟨g,cap,cur,rfl,hg,h4⟩
 ·exact .inl h2
 exact .inr ⟨g,cap,cur,rfl,(hb g rfl).trans hg,h4⟩
structure Rw {α:Type} [Rep α] (W:View) (h:Heap) (ot e:TypeId) (g:Nat) (rv:List Value) (ls:List (List α)):Prop where
 wle:W.le (vw h)
 wg:W g=none
 blk:h[g]? = some (.cells rv.toArray ot (0,0))
 len:rv.length=ls.length
 own : ∀i,i<ls.length->OwnT nothing h e (nth rv i) (nth ls i)
 av : ∀i,i<ls.length->Av W (nth rv i)
 ng : ∀i,i<ls.length->(nth rv i).ownBlock≠some g
 dj : ∀i j,i<ls.length->j<ls.length->i≠j->(nth rv i).ownBlock=none\/(nth rv i).ownBlock≠(nth rv j).ownBlock
section
variable {α:Type} [Rep α] {W:View} {h h':Heap} {ot e:TypeId} {g:Nat} {rv:List Value} {ls:List (List α)}
theorem Rw.lt(r:Rw W h ot e g rv ls):g<h.size:=(Lu.1 r.blk).1
theorem aF[Inhabited β]{i:Nat}{x:β}(hi:i<n):nth (List.replicate n x) i=x:=by rw[aC (by simpa using hi)];simp
theorem Rw.start(hW:W.le (vw h))(hg:W g=none)(hb:h[g]? = some (.cells (List.replicate n (.slice none 0 0)).toArray ot (0,0))):Rw (α:=α) W h ot e g (List.replicate n (.slice none 0 0)) (List.replicate n []):=
 ⟨hW,hg,hb,by simp,λi hi=>by rw[aF (by simpa using hi),aF (by simpa using hi)];exact OwnT.nil ..,λi hi=>by rw[aF (by simpa using hi)];exact Av.nil _ _ _,
  λi hi=>by rw[aF (by simpa using hi)];simp[Value.ownBlock],λi j hi hj _=>by rw[aF (by simpa using hi)];exact .inl rfl⟩
theorem Rw.move(r:Rw W h ot e g rv ls){W':View}(h1:W'.le (vw h'))(h2 : ∀b,W b=none->b<h.size->h'[b]? = h[b]?/\W' b=none):Rw W' h' ot e g rv ls:=
 {wle:=h1,wg:=(h2 g r.wg r.lt).2,blk:=(h2 g r.wg r.lt).1.trans r.blk,len:=r.len,ng:=r.ng,dj:=r.dj
  own:=λi hi=>(r.own i hi).same λb hb=>(h2 b (r.av i hi b hb) ((r.own i hi).lt hb)).1
  av:=λi hi b hb=>(h2 b (r.av i hi b hb) ((r.own i hi).lt hb)).2 }
theorem Rw.ext(r:Rw W h ot e g rv ls)(hle:(vw h).le (vw h')):Rw W h' ot e g rv ls:=
 r.move (View.le_trans r.wle hle) λb hb hlt=>⟨(sF hle).block b hlt Sa,hb⟩
theorem bQ[Inhabited β]{l:List β}{i j:Nat}{x:β}(hj:j<l.length):nth (l.set i x) j=if i=j then x else nth l j:=by
 rw[aC (by simpa using hj),List.getElem_set];split
 ·rfl
 rw[aC hj]
theorem Rw.put{h2 h3:Heap}{i:Nat}{v':Value}{l':List α}(r:Rw W h ot e g rv ls)(hi:i<ls.length)(o:OwnT nothing h2 e v' l')(m:kK h h2 (nth rv i) v')(hb:h3[g]? = some (.cells (rv.set i v').toArray ot (0,0)))(hoth : ∀k,k≠g->h3[k]? = h2[k]?)(hsz:h3.size=h2.size):Rw W h3 ot e g (rv.set i v') (ls.set i l'):=by
 obtain⟨hw',ha'⟩:=m.view r.wle (r.av i hi);have hlt:=r.lt;have ng':v'.ownBlock≠some g:=by
  rcases m.at_ with e | e
  ·rw[e];exact r.ng i hi
  rw[e];intro e2;cases e2;omega
 have hv' : ∀j,j<ls.length->j≠i->(nth rv j).ownBlock=none\/(nth rv j).ownBlock≠v'.ownBlock:=by
  intro j hj hne;rcases m.at_ with e | e
  ·rw[e];exact r.dj j i hj hi hne
  right;rw[e];intro e2;have:=(r.own j hj).lt e2;omega
 have rl:=r.len;refine⟨λb x hb=>?_,r.wg,hb,by simp[rl],λj hj=>?_,λj hj=>?_,λj hj=>?_,λj k hj hk hne=>?_⟩
 ·have hne:b≠g:=λe=>by rw[e,r.wg]at hb;cases hb
  show h3[b]? = _;rw[hoth b hne];exact hw' b x hb
 ·rw[LJ]at hj;rw[bQ Yb,bQ hj];split
  ·exact o.same λb hb=>hoth b (λe=>ng' (by rw[hb,e]))
  rename_i hne;refine((r.own j hj).kept m.kept (r.dj j i hj hi (λe=>hne e.symm))).same λb hb=>hoth b (λe=>r.ng j hj (by rw[hb,e]))
 ·rw[LJ]at hj;rw[bQ Yb];split
  ·exact ha'
  exact r.av j hj
 ·rw[LJ]at hj;rw[bQ Yb];split
  ·exact ng'
  exact r.ng j hj
 rw[LJ]at hj hk;rw[bQ Yb,bQ Yb];split
 ·rename_i e1;rw[if_neg Yb];rcases hv' k hk Yb with e | e
  ·rcases hb2:v'.ownBlock with _ | b
   ·exact .inl rfl
   right;rw[e];simp
  exact .inr λe2=>e e2.symm
 split
 ·rename_i e1 e2;exact hv' j hj Yb
 exact r.dj j k hj hk hne
theorem Rw.rd (r:Rw W h ot e g rv ls) {X:View} (hg:X g=h[g]?) (hx : ∀i b,i<ls.length->(nth rv i).ownBlock=some b->X b=h[b]?) (hb:ls.length<=140737488355328):SlRd X (.slice (some ⟨g,0,none⟩) ls.length ls.length) ls:=by
 refine⟨some ⟨g,0,none⟩,ls.length,rfl,Lp _,hb,.inr ⟨_,rfl,rfl,λi hi=>?_⟩⟩;rw[bN rfl];have hlen:=r.len;refine⟨[nth rv i],⟨rv.toArray,ot,(0,0),rfl,by rw[hg];exact r.blk,?_⟩,nth rv i,rfl,?_⟩
 ·rw[aC Yb];simp only[MR,show Rep.n (List α)=1 from rfl,MA,MI,NY];have hd:rv.drop i=rv[i]::rv.drop (i+1):=LU Yb;show List.take (0+1) (List.drop i rv)=_;rw[hd];rfl
 rw[<-aC hi];exact(r.own i hi).rd (λ_ _ h=>by cases h) (hx i · hi)
theorem Rw.fresh {h0:Heap} (r:Rw W h ot e g rv ls) (h0W:(vw h0).le W) (hb:ls.length<=140737488355328):SlRd (Lft.fresh h0 h) (.slice (some ⟨g,0,none⟩) ls.length ls.length) ls:=by
 have key : ∀b,W b=none->h0.size<=b:=by
  intro b hb;rcases Lr b h0.size with hlt | hge
  ·have:=h0W b h0[b] (LK hlt);rw[hb]at this;cases this
  exact hge
 refine r.rd (by unfold Lft.fresh;rw[if_neg (Pk.2 (key g r.wg))]) (λi b hi hbb=>by unfold Lft.fresh;rw[if_neg (Pk.2 (key b (r.av i hi b hbb)))]) hb
end
def skip (B:Nat) (h:Heap):View:=λb=>if b=B then none else h[b]?
theorem dk{B:Nat}{h:Heap}:(skip B h).le (vw h):=λb o hb=>by
 unfold skip at hb;split at hb
 ·cases hb
 exact hb
theorem lK{B b:Nat}{h:Heap}(hb:b≠B):skip B h b=h[b]?:=by unfold skip;rw[if_neg hb]
section
variable {α:Type} [Rep α] {W:View} {h h':Heap} {B:Nat} {T e:TypeId} {v:Value} {l:List α}
end
end
section
open Go Go.MapKept
variable {po:OP} {pp:PP}
structure dZ (d:TypeDesc) (h:Heap) (r:Nat) (f:Value->Option Value):Prop where
 ex : ∃es clock,h[r]? = some (.map es clock)/\(∀x∈es.toList,IsKey d x.key)/\Stamped es clock/\∀k v,IsKey d k->((∃x∈es.toList,x.key=k/\x.val=v)↔f k=some v)
theorem dZ.lt{d:TypeDesc}{h:Heap}{r:Nat}{f:Value->Option Value}(m:dZ d h r f):r<h.size:=by obtain⟨es,c,h1,_⟩:=m.ex;exact(Lu.1 h1).1
variable{h':Heap}{r:Nat}
theorem dZ.same{d:TypeDesc}{h:Heap}{f:Value->Option Value}(m:dZ d h r f)(e:h'[r]? = h[r]?):dZ d h' r f:=by obtain⟨es,c,h1,h2⟩:=m.ex;exact⟨es,c,by rw[e];exact h1,h2⟩
theorem dZ.ext{d:TypeDesc}{h h':Heap}{r:Nat}{f:Value->Option Value}(m:dZ d h r f)(hle:(vw h).le (vw h')):dZ d h' r f:=by obtain⟨es,c,h1,h2⟩:=m.ex;exact⟨es,c,hle _ _ h1,h2⟩
theorem dZ.none {d:TypeDesc} {h:Heap} {r:Nat} (hr:h[r]? = some (.map #[] 0)):dZ d h r λ_=>none:=
 ⟨#[],0,hr,by simp,stamped_empty 0,by simp⟩
section
variable {P:Program} {ty:TypeId} {us:List (Nat × Value)} {h:Heap} {K:Value->Heap->Prop} {d:TypeDesc} {r:Nat} {f:Value->Option Value} {t k e:TypeId}
theorem lP(hk:K (.map (some h.size)) (h.push (.map #[] 0))):step P (.makeMap t .none) ty us h K:=by refine dz (cH λw hw=>?_);subst hw;refine⟨_,w.alloc (.map #[] 0),?_,iD _ _,hk⟩;simp only[bW,execOp];simp[Instr.makeMap,newObj];rfl
variable{y:Operand}
theorem DM{x:Operand}{u z:Value}(ht:P.underlying t=some (.map k e))(hd:P.underlying k=some d)(hz:(P.info? e).map (·.zero)=some (some z))(hx:asg us x = .map (some r))(hy:asg us y=u)(hu:IsKey d u)(m:dZ d h r f)(hk:K ((f u).getD z) h):step P (.lookup t x y false) ty us h K:=by
 obtain⟨es,c,h1,h2,h3,h4⟩:=m.ex;simp only[Lq]at hz;obtain⟨i,hi,hz⟩:=hz;refine dz (cH λw hw=>⟨_,w,?_,Same.refl _,by rw[hw];exact hk⟩);have hz':(zeroValue e).run P w = .ok z w:=by simp[zeroValue,typeInfo,hi,hz]
 rw[<-hw]at h1;simp only[bW,execOp,hx,hy];rcases findNow_spec hu es.toList 0 h2 with⟨g1,g2⟩ | ⟨j,x,g1,g2,g3⟩
 ·have hf:f u = .none:=by
   cases hfu:f u with
   | none=>rfl
   | some v=>obtain⟨x,hx,e1,_⟩:=(h4 u v hu).2 hfu;exact absurd e1 (g2 x hx)
  simp[Instr.lookup,run_underlying ht,MapKept.run_getObj_map h1,MapKept.run_checkKey hd hu,MapKept.run_findKey hd g1,Result.andThen,hf,hz']
 have hf:f u=some x.val:=(h4 u x.val hu).1 ⟨x,L8 g2,g3,rfl⟩;simp[Instr.lookup,run_underlying ht,MapKept.run_getObj_map h1,MapKept.run_checkKey hd hu,MapKept.run_findKey hd g1,Result.andThen,hf]
theorem AW{w:World}{u v:Value}(ht:P.underlying t=some (.map k e))(hd:P.underlying k=some d)(hu:IsKey d u)(m:dZ d w.heap r f)(g:Value->Option Value)(hg:g u=some v)(hg2 : ∀j,j≠u->g j=f j):
  ∃o,(Instr.mapUpdate t (.map (some r)) u v).run P w = .ok () { w with heap:=w.heap.setIfInBounds r o }/\dZ d (w.heap.setIfInBounds r o) r g:=by
 obtain⟨es,c,h1,h2,h3,h4⟩:=m.ex;rcases findNow_spec hu es.toList 0 h2 with⟨g1,g2⟩ | ⟨j,x,g1,g2,g3⟩
 ·refine⟨.map (es.push { key:=u,val:=v,born:=c }) (c+1),?_,_,_,(MapKept.heap_set h1).1,?_,stamped_push h3 g2,?_⟩
  ·simp[Instr.mapUpdate,run_underlying ht,MapKept.run_getObj_map h1,MapKept.run_checkKey hd hu,MapKept.run_findKey hd g1,MapKept.run_setObj_map _ h1,Result.andThen]
  ·intro x hx;simp only[Array.toList_push,Lt,Lx]at hx;rcases hx with hx | rfl
   ·exact h2 x hx
   exact hu
  intro q p hq;constructor
  ·rintro⟨x,hx,e1,e2⟩;simp only[Array.toList_push,Lt,Lx]at hx;rcases hx with hx | rfl
   ·rw[hg2 q (λe=>g2 x hx (e1.trans e))];exact(h4 q p hq).1 ⟨x,hx,e1,e2⟩
   simp only at e1 e2;subst e1;subst e2;exact hg
  intro hp;by_cases e:q=u
  ·subst e;rw[hg]at hp;cases hp;exact⟨{ key:=q,val:=v,born:=c },by simp,rfl,rfl⟩
  rw[hg2 q e]at hp;obtain⟨x,hx,e⟩:=(h4 q p hq).2 hp;exact⟨x,by simp[show x∈es from by simpa using hx],e⟩
 have hj:es[j]? = some x:=by simpa using g2
 have hmem:x∈es.toList:=L8 g2;have hlt:j<es.size:=(Lu.1 hj).1;have hkeyf : ∀e',es[j]? = some e'->({ e' with key:=u,val:=v }:MapEntry).key=e'.key:=λe' he'=>by rw[hj]at he';cases he';exact g3.symm
 have hst:Stamped (es.modify j (λe'=>{ e' with key:=u,val:=v })) c:=stamped_modify h3 _ _ (λ_ _=>rfl) (λe' _ he'=>hkeyf e' he');have hget : ∀i y,(es.modify j (λe'=>{ e' with key:=u,val:=v }))[i]? = some y↔(i=j/\y={ x with key:=u,val:=v })\/(i≠j/\es[i]? = some y):=by
  intro i y;rw[Ov];by_cases hij:i=j
  ·subst hij;rw[if_pos rfl,hj];simp[eq_comm]
  rw[if_neg (Ne.symm hij)];simp[hij]
 have huniq : ∀i y,es[i]? = some y->y.key=u->i=j:=by
  intro i y hy hk;have hnd:=h3.2.2;have e1:(es.toList.map (·.key))[i]? = some u:=by simp[hy,hk]
  have e2:(es.toList.map (·.key))[j]? = some u:=by simp[hj,g3]
  have hl1:=(NS.1 e1);have hl2:=(NS.1 e2);obtain⟨l1,q1⟩:=hl1;obtain⟨l2,q2⟩:=hl2;exact(List.getElem_inj hnd).1 (q1.trans q2.symm)
 refine⟨.map (es.modify j (λe'=>{ e' with key:=u,val:=v })) c,?_,_,_,(MapKept.heap_set h1).1,?_,hst,?_⟩
 ·simp[Instr.mapUpdate,run_underlying ht,MapKept.run_getObj_map h1,MapKept.run_checkKey hd hu,MapKept.run_findKey hd g1,hj,g3,MapKept.run_keyThatStays hu,MapKept.run_setObj_map _ h1,Result.andThen]
 ·intro y hy;obtain⟨i,hi⟩:=OC hy;have hi:(es.modify j (λe'=>{ e' with key:=u,val:=v }))[i]? = some y:=by rw[Nk]at hi;exact hi
  rcases(hget i y).1 hi with⟨_,rfl⟩ | ⟨_,h5⟩
  ·exact hu
  exact h2 y (L8 (by simpa using h5))
 intro q p hq;constructor
 ·rintro⟨y,hy,e1,e2⟩;obtain⟨i,hi⟩:=OC hy;have hi:(es.modify j (λe'=>{ e' with key:=u,val:=v }))[i]? = some y:=by rw[Nk]at hi;exact hi
  rcases(hget i y).1 hi with⟨_,rfl⟩ | ⟨h6,h5⟩
  ·simp only at e1 e2;subst e1;subst e2;exact hg
  rw[hg2 q (λe=>h6 (huniq i y h5 (e1.trans e)))];exact(h4 q p hq).1 ⟨y,L8 (by simpa using h5),e1,e2⟩
 intro hp;by_cases hqu:q=u
 ·subst hqu;rw[hg]at hp;cases hp;refine⟨{ x with key:=q,val:=v },L8 (i:=j) ?_,rfl,rfl⟩;rw[Nk];exact(hget j { x with key:=q,val:=v }).2 (.inl ⟨rfl,rfl⟩)
 rw[hg2 q hqu]at hp;obtain⟨y,hy,e1,e2⟩:=(h4 q p hq).2 hp;obtain⟨i,hi⟩:=OC hy;have hi':es[i]? = some y:=by simpa using hi
 refine⟨y,L8 (i:=i) ?_,e1,e2⟩;rw[Nk];refine(hget i y).2 (.inr ⟨λe=>?_,hi'⟩);subst e;rw[hj]at hi';cases hi';exact hqu (e1.symm.trans g3)
variable{op:Op}
theorem km{x q:Operand}{u v:Value}(hop:op = .mapUpdate t x y q\/op = .insert t x y q)(ht:P.underlying t=some (.map k e))(hd:P.underlying k=some d)(hx:asg us x = .map (some r))(hy:asg us y=u)(hq:asg us q=v)(hu:IsKey d u)(m:dZ d h r f)(g:Value->Option Value)(hg:g u=some v)(hg2 : ∀j,j≠u->g j=f j)(hk : ∀h':Heap,h'.size=h.size->(∀b,b≠r->h'[b]? = h[b]?)->dZ d h' r g->K undef h'):step P op ty us h K:=by refine dz (pa λw hw=>?_);subst hw;obtain⟨o,h1,h2⟩:=AW (v:=v) ht hd hu m g hg hg2;obtain⟨es,c,h3,_⟩:=m.ex;have hoth:=(MapKept.heap_set (o':=o) h3).2;refine⟨{ w with heap:=w.heap.setIfInBounds r o },?_,Same.qn rfl rfl rfl Sa h3 Sa (λk _ hne=>hoth k hne),hk _ Sa hoth h2⟩;rcases hop with rfl | rfl<;>simp only[bW,execOp,hx,hy,hq]<;>simp[h1]
end
def mapI (f:Int->Option Int):Value->Option Value
 | .int .i64 j=>(f j).map (.int .i64)
 | _=>none
@[simp] theorem Kf{f:Int->Option Int}{j:Int}:mapI f (.int .i64 j)=(f j).map (.int .i64):=rfl
def mapB (s:Int->Bool):Value->Option Value
 | .int .i64 j=>if s j then some (.bool true) else none
 | _=>none
@[simp] theorem zf{s:Int->Bool}{j:Int}:mapB s (.int .i64 j)=if s j then some (.bool true) else none:=rfl
theorem fK{j:Int}:IsKey (.int .i64) (.int .i64 j):=rfl
theorem FV{f g:Int->Bool}{j:Int}(h : ∀i,g i=if i=j then true else f i):mapB g (.int .i64 j)=some (.bool true)/\∀u,u≠.int .i64 j->mapB g u=mapB f u:=by
 refine⟨by simp[h],λu hu=>?_⟩;cases u<;>try rfl
 rename_i k i;cases k<;>try rfl
 have:i≠j:=λe=>hu (by rw[e]);simp[h,this]
@[simp] theorem JE{s:Bool}:(if s=true then some (Value.bool true) else .none).getD (.bool false) = .bool s:=by cases s<;>rfl
end
section
variable {po:OP} {pp:PP}
variable{P:Program}{Q:Post}{ρ:Env}
theorem ab{x y:LC}{h:Heap}(hx : ∀z,z=y->LC.wp P x (gr (LC.wp P z Q) Q) ρ h):LC.wp P (.seq x y) Q ρ h:=hx y rfl
variable{kill:List Nat}{sets args:List (Nat × E)}{chk:List E}{op:Op}{ty:TypeId}{dst:Option Nat}{keep:Bool}{next:Reg}
theorem xF{k:Bool}{grd:Option (E × Bool)}{tail:Bool}{h:Heap}(hx : ∀z,z=next->LC.wp P (.reg k (.loud kill sets args grd chk tail op ty dst keep z)) Q ρ h):LC.wp P (.reg k (.loud kill sets args grd chk tail op ty dst keep next)) Q ρ h:=hx next rfl
theorem bf{m:Option View}{grd:Option (E × Bool)}{tail:Bool}{Q:Env->Heap->Prop}{h:Heap}(hx : ∀z,z=next->eZ P m (.loud kill sets args grd chk tail op ty dst keep z) Q ρ h):eZ P m (.loud kill sets args grd chk tail op ty dst keep next) Q ρ h:=hx next rfl
def oB {α:Type} [Rep α] (X:View):List Value->List α->Prop
 | [],[]=>True
 | v::vs,d::ds=>Rd X v d/\oB X vs ds
 | _,_=>False
theorem oB.len {α:Type} [Rep α] {X:View} : ∀{vs:List Value} {ds:List α},oB X vs ds->vs.length=ds.length
 | [],[],_=>rfl
 | _::_,_::_,h=>by simp[oB.len h.2]
theorem oB.get {α:Type} [Rep α] {X:View} : ∀{vs:List Value} {ds:List α},oB X vs ds->∀(i:Nat) (h1:i<vs.length) (h2:i<ds.length),Rd X vs[i] ds[i]
 | _::_,_::_,h,0,_,_=>h.1
 | _::_,_::_,h,i+1,h1,h2=>h.2.get i _ _
variable{α:Type}
theorem Rd.Jk[Rep α]{X:View}{v:Value}{d:α}(ha:Rep.agg α=false)(h:Rd X v d):v.cells = #[v]:=by unfold Rd at h;rw[if_neg (by simp[ha])]at h;have hfl:=Rep.flat h v Sa;cases v<;>first | rfl | simp[Value.oneCell']at hfl
theorem yY : ∀(vs:List Value) (k:Nat) (A:Array Value),(∀v∈vs,v.cells = #[v])->k+vs.length=A.size->
  ∃B,Instr.fill (λj=>some (j*1,1)) A ((vs.zipIdx k).map λp=>(p.2,p.1))=some B/\B.toList=A.toList.take k++vs
 | [],k,A,_,hk=>⟨A,rfl,by simp at hk;rw[Lw (by simp[hk])];simp⟩
 | v::vs,k,A,hv,hk=>by
  have hc:=hv v (LA ..);obtain⟨B,h1,h2⟩:=yY vs (k+1) (A.setIfInBounds k v) (λu hu=>hv u (LB _ hu)) (by simp at hk ⊢;omega);refine⟨B,?_,?_⟩
  ·simp only[Oz,M0,Instr.fill,hc,MA];rw[if_neg (by simp at hk ⊢;omega)];simpa using h1
  rw[h2];have hkA:k<A.toList.length:=by simp at hk ⊢;omega
  rw[LG (by simpa using hkA)];simp[OG]
end
structure Cat (α β:Type) where
 a:α
 b:β
instance {α β:Type} [Rep α] [Rep β]:Rep (Cat α β) where
 n:=Rep.n α+Rep.n β
 agg:=true
 rd:=λH cs d=>∃c1 c2,cs=c1++c2/\Rep.rd H c1 d.a/\Rep.rd H c2 d.b
 mono:=λhk ⟨c1,c2,h1,h2,h3⟩=>⟨c1,c2,h1,Rep.mono hk h2,Rep.mono hk h3⟩
 len:=λ⟨c1,c2,h1,h2,h3⟩=>by rw[h1,Lv,Rep.len h2,Rep.len h3]
 one:=λh=>by cases h
 flat:=λ⟨c1,c2,h1,h2,h3⟩ u hu=>by
  rw[h1]at hu
  rcases Lt.1 hu with hu | hu
  ·exact Rep.flat h2 u hu
  ·exact Rep.flat h3 u hu
 pos:=Nat.add_pos_left Rep.pos _
 fM:=λ⟨c1,c2,h1,h2,h3⟩=>⟨c1,c2,h1,Rep.fM h2,Rep.fM h3⟩
abbrev Rep.via {α γ:Type} [Rep α] (f:γ->α):Rep γ where
 n:=Rep.n α
 agg:=Rep.agg α
 rd:=λH cs d=>Rep.rd H cs (f d)
 mono:=λhk h=>Rep.mono hk h
 len:=λh=>Rep.len h
 one:=λh=>Rep.one h
 flat:=λh=>Rep.flat h
 pos:=Rep.pos
 fM:=λh=>Rep.fM h
variable{H:View}
theorem zn{a:Addr}{c1 c2:List Value}(h:fZ H a (c1++c2)):fZ H a c1/\fZ H (a.add c1.length) c2:=by
 obtain⟨c,T,fz,hs,hb,he⟩:=h;rw[Lv]at he;have h1:(c.toList.drop a.off).take c1.length=c1:=by have:=congrArg (List.take c1.length) he;rw[MH,L7 Yb,N5]at this;exact this
 have h2:(c.toList.drop (a.off+c1.length)).take c2.length=c2:=by have:=congrArg (List.drop c1.length) he;rw[ML,M3,List.drop_left]at this;rw[show c1.length+c2.length-c1.length=c2.length by omega]at this;exact this
 refine⟨⟨c,T,fz,hs,hb,h1⟩,?_⟩;rw[bN hs];exact⟨c,T,fz,rfl,hb,h2⟩
variable{α β:Type}
theorem At.cat[Rep α][Rep β]{a:Addr}{d:Cat α β}(h:At H a d):At H a d.a/\At H (a.add (Rep.n α)) d.b:=by obtain⟨cs,h1,c1,c2,rfl,h2,h3⟩:=h;obtain⟨g1,g2⟩:=zn h1;rw[Rep.len h2]at g2;exact⟨⟨c1,g1,h2⟩,⟨c2,g2,h3⟩⟩
theorem At.int {H:View} {a:Addr} {d:Int} (h:At H a d):ao H a=some (.int .i64 d):=by obtain⟨u,h1,h2⟩:=h.load rfl;rw[(bK.1 h2).1]at h1;exact h1
theorem At.list[Rep α]{a:Addr}{l:List α}(h:At H a l): ∃v,ao H a=some v/\SlRd H v l:=by obtain⟨u,h1,h2⟩:=h.load rfl;exact⟨u,h1,eO.1 h2⟩
theorem At.i32 {H:View} {a:Addr} {d:I32} (h:At H a d):ao H a=some (.int .i32 d.v):=by obtain⟨u,h1,h2⟩:=h.load rfl;rw[(A1.1 h2).1]at h1;exact h1
structure InD where
 frm:Int
 val:Int
 deriving Inhabited,DecidableEq
instance:Rep InD:=Rep.via λd=>Cat.mk d.frm d.val
structure PhiD where
 dst:Int
 ins:List InD
 deriving Inhabited,DecidableEq
instance:Rep PhiD:=Rep.via λd=>Cat.mk d.dst d.ins
structure InsD where
 op:Int
 dst:Int
 two:Int
 args:List Int
 imm:I32
 deriving Inhabited,DecidableEq
instance:Rep InsD:=Rep.via λd=>Cat.mk d.op (Cat.mk d.dst (Cat.mk d.two (Cat.mk d.args d.imm)))
structure dD where
 kind:Int
 args:List Int
 to:List Int
 imm:I32
 deriving Inhabited,DecidableEq
instance:Rep dD:=Rep.via λd=>Cat.mk d.kind (Cat.mk d.args (Cat.mk d.to d.imm))
structure BlkD where
 phis:List PhiD
 ins:List InsD
 term:dD
 deriving Inhabited,DecidableEq
instance:Rep BlkD:=Rep.via λd=>Cat.mk d.phis (Cat.mk d.ins d.term)
structure an where
 params:Int
 blocks:List BlkD
 deriving Inhabited,DecidableEq
instance:Rep an:=Rep.via λd=>Cat.mk d.params d.blocks
section
open Go Go.MapKept
variable {po:OP} {pp:PP}
section
variable {P:Program} {ty:TypeId} {us:List (Nat × Value)} {h:Heap} {K:Value->Heap->Prop}
def isIface:TypeDesc->Bool
 | .interface _=>true
 | _=>false
theorem Fx{t:TypeId}{d:TypeDesc}{x:Operand}{v:Value}(hd:P.underlying t=some d)(hn:isIface d=false)(hx:asg us x=v)(hk:K (.iface t v) h):step P (.makeInterface t x) ty us h K:=by refine dz (cH λw hw=>⟨.iface t v,w,?_,Same.refl _,by rw[hw];exact hk⟩);simp only[bW,execOp,hx];cases d<;>first | (simp[isIface]at hn;done) | (simp[Instr.makeInterface,run_underlying hd];done)
theorem FN{x:Operand}{t:TypeId}{v:Value}(hx:asg us x = .iface t v)(hk:po.op [{ v:=.iface t v,recovered:=false }] h):step P (.panic x) ty us h K:=by
 refine dz ?_;intro w hw r o a K' Q' hK hQ;have hr:(bW (.panic x) ty us).run P w = .halt (.panic (.iface t v)) w:=by simp only[bW,execOp,hx];simp[Instr.panic,goPanic,Sem.run]
 rw[hr];simp only[Oper.uponIn];exact hQ _ w (by rw[hw];exact hk) (Same.refl _)
theorem C3{T xT:TypeId}{d:TypeDesc}{x:Operand}{v:Value}(hd:P.underlying T=some d)(hn:isIface d=false)(hx:asg us x = .iface T v)(hk:K (.tuple #[v,.bool true]) h):step P (.typeAssert x xT T true) ty us h K:=by refine dz (cH λw hw=>⟨.tuple #[v,.bool true],w,?_,Same.refl _,by rw[hw];exact hk⟩);simp only[bW,execOp,hx];cases d<;>first | (simp[isIface]at hn;done) | (simp[Instr.typeAssert,run_underlying hd];done)
variable{r:Nat}{y:Operand}
theorem lH{t k e:TypeId}{d:TypeDesc}{f:Value->Option Value}{x:Operand}{u z:Value}(ht:P.underlying t=some (.map k e))(hd:P.underlying k=some d)(hz:(P.info? e).map (·.zero)=some (some z))(hx:asg us x = .map (some r))(hy:asg us y=u)(hu:IsKey d u)(m:dZ d h r f)(hk:K (.tuple #[(f u).getD z,.bool (f u).isSome]) h):step P (.lookup t x y true) ty us h K:=by
 obtain⟨es,c,h1,h2,h3,h4⟩:=m.ex;simp only[Lq]at hz;obtain⟨i,hi,hz⟩:=hz;refine dz (cH λw hw=>⟨_,w,?_,Same.refl _,by rw[hw];exact hk⟩);have hz':(zeroValue e).run P w = .ok z w:=by simp[zeroValue,typeInfo,hi,hz]
 rw[<-hw]at h1;simp only[bW,execOp,hx,hy];rcases MapKept.findNow_spec hu es.toList 0 h2 with⟨g1,g2⟩ | ⟨j,x,g1,g2,g3⟩
 ·have hf:f u = .none:=by
   cases hfu:f u with
   | none=>rfl
   | some v=>obtain⟨x,hx,e1,_⟩:=(h4 u v hu).2 hfu;exact absurd e1 (g2 x hx)
  simp[Instr.lookup,run_underlying ht,MapKept.run_getObj_map h1,MapKept.run_checkKey hd hu,MapKept.run_findKey hd g1,Result.andThen,hf,hz']
 have hf:f u=some x.val:=(h4 u x.val hu).1 ⟨x,L8 g2,g3,rfl⟩;simp[Instr.lookup,run_underlying ht,MapKept.run_getObj_map h1,MapKept.run_checkKey hd hu,MapKept.run_findKey hd g1,Result.andThen,hf]
variable{b:Bool}
theorem AI{T:TypeId}{ms:Array (String × TypeId)}{w:World}{v:Value}(hd:P.underlying T=some (.interface ms))(hv:v = .nilIface/\b=true\/∃t u,v = .iface t u/\b=false):(Op.equal T v .nilIface).run P w = .ok b w:=by
 have key : ∀n,(Op.equalIn (n+1) T v .nilIface).run P w = .ok b w:=λn=>by rcases hv with⟨rfl,rfl⟩ | ⟨t,u,rfl,rfl⟩<;>simp[Op.equalIn,run_underlying hd]
 exact key 9999
theorem Af{T rt:TypeId}{ms:Array (String × TypeId)}{x:Operand}{v:Value}(hd:P.underlying T=some (.interface ms))(hx:asg us x=v)(hv:v = .nilIface/\b=true\/∃t u,v = .iface t u/\b=false)(hk:K (.bool b) h):
  step P (.binOp .eql T x (.const .nilIface) rt) ty us h K:=by refine dz (cH λw hw=>⟨.bool b,w,?_,Same.refl _,by rw[hw];exact hk⟩);simp only[bW,execOp,hx,xe];have:=AI (w:=w) hd hv;rcases hv with⟨rfl,rfl⟩ | ⟨t,u,rfl,rfl⟩<;>simp[eqGuard,binOp,this]
end
end
def qx (P:Program) (g:FuncId) (args:Array Value) (u:FrameMode) (h:Heap) (S:FrameMode->Heap->Prop):Prop:=
 ∀w:World,w.heap=h->CallsDIn (Fw none) 0 P g args u w λe u' w'=>e = .returned (.tuple #[])/\S u' w'.heap/\Same w w'
variable{P:Program}{caps:Array Value}
theorem Bm{fn:Func}{a:Act}{w:World}{R:Ending->World->Prop}{g:FuncId}{S:FrameMode->Heap->Prop}{u:FrameMode}(hg:isFn P g=true)(hd:a.defers=[{ target:=.fn (.func g) caps,args:=#[] }])(hu:u≠.run)(hc:qx P g caps u w.heap S)(hS : ∀u' w',S u' w'.heap->Same w w'->settle u' = .returning/\∃v,(results fn a.tmps).run P w' = .ok v w'/\R (.returned v) w'):LeavesIn (Fw none) 0 P fn a.tmps R a.defers u w:=by
 rw[hd];refine leavesIn_cons (f:=g) (args:=caps) hu (by simp[Fw,Fence.wide]) ?_ (λ_ _=>trivial) ((hc w rfl).mono ?_)
 ·unfold isFn at hg;cases hfn':P.funcs[g]? with
  | none=>simp[hfn']at hg
  | some fn'=>simp only[hfn',Ly,bne_iff_ne,ne_eq]at hg;obtain⟨h1,h2⟩:=hg;simp[invoke,callFunc,program,Sem.run,hfn',h1,Option.isNone];cases hb:fn'.body<;>simp[hb]at h2 ⊢
 rintro e u' w' ⟨rfl,h1,h2⟩;obtain⟨h3,v,h4,h5⟩:=hS u' w' h1 h2;show LeavesIn (Fw none) 0 P fn a.tmps R [] (settle u') w';rw[h3];exact⟨v,h4,h5⟩
def qT (ρ:Env):List Operand->Option (List Value)
 | []=>some []
 | .tmp t::l=>match look ρ t,qT ρ l with
  | some v,some vs=>some (v::vs)
  | _,_=>none
 | _::_=>none
theorem vK {ρ:Env} {a:Act} (hs:Sat ρ a) : ∀{l:List Operand} {vs:List Value},qT ρ l=some vs->l.map a.eval=vs
 | [],vs,h=>by simp[qT]at h;subst h;rfl
 | .tmp t::l,vs,h=>by
  simp only[qT]at h;split at h
  ·rename_i v vs' h1 h2;simp only[Ln]at h;subst h;have:=hs t v h1;simp[Act.eval,this,vK hs h2]
  cases h
 | .const _::_,_,h=>by simp[qT]at h
 | .global _::_,_,h=>by simp[qT]at h
 | .func _::_,_,h=>by simp[qT]at h
theorem pF{f:FuncId}{fn:Func}{c0 c1:Code}{id:Nat}{o1 o2:Oper}{g t:Nat}{capops:Array Operand}{tys:Array TypeId}{live0 liveR0 live1 liveR1:List Nat}{L0 L1:LC}{res:List E}{args:List Value}{h:Heap}{R:Value->Heap->Prop}{Mid:Env->Heap->Prop}(hm:P.follows .mixedOrders=true)(hf:P.funcs[f]? = some fn)(hb:fn.body=some (.seq c0 (.seq (.region id #[o1,o2] false) c1)))(h1:o1.op = .makeFunc (.func g) #[] capops)(h1d:o1.dst=some t)(h1g:o1.guard=none)(h2:o2.op = .defer ⟨.value (.tmp t),#[],tys⟩)(h2d:o2.dst=none)(h2g:o2.guard=none)(ht:t<fn.ntmps)(hg:isFn P g=true)(hL0:eJ P fn.ntmps live0 liveR0 false c0=some L0)(hp0:L0.plain=true)(hL1:eJ P fn.ntmps live1 liveR1 false c1=some L1)(hp1:L1.plain=true)(hres:fn.results.toList.mapM (resE P)=some res)(hn:args.length<=fn.ntmps)(hw:@LC.wp noPP P L0 (gr Mid λ_ _ _=>False) (jX 0 args) h)(hmid : ∀ρ hh,Mid ρ hh->∃capv,qT ρ capops.toList=some capv/\∃pp:PP,
   @LC.wp pp P L1 (λe ρ2 h2=>(e = .normal\/e = .ret)/\∃S,qx P g capv.toArray .returning h2 S/\∀u' h3,S u' h3->settle u' = .returning/\∃vs,evs (look ρ2) (vw h3) res=some vs/\R (pack vs) h3) (cO ρ [t]) hh/\
   ∀ch ρ2 h2,pp.kp ch h2->pp.fx ρ2->∃S,qx P g capv.toArray (.panicking ch) h2 S/\∀u' h3,S u' h3->settle u' = .returning/\∃vs,evs (look ρ2) (vw h3) res=some vs/\R (pack vs) h3):
  az P f args.toArray h R:=by
 intro w hwh;subst hwh;have hsat:Sat (jX 0 args) { tmps:=args.toArray++Array.replicate (fn.ntmps-args.toArray.size) undef,defers:=[] }:=by
  intro t v hl;obtain⟨_,h2⟩:=nz args 0 t v hl;have:t<args.length:=by
   rcases Lr t args.length with h | h
   ·exact h
   simp[L4 h]at h2
  simp only[Nat.sub_zero]at h2;simp only[N9,Nr,this,if_true,NJ];exact h2
 refine(callsIn_wide (n:=0)).1 (callsIn_of_wp_defers hf hb trivial (wpIn_seq (wpIn_mono (eA (r:=none) hm c0 hL0 (λ_=>rfl) hw hsat (by simp;omega)) ?_)));rintro e a1 w1 ⟨ρ1,s1,n1,⟨ms,hds,hms,_⟩,hq,hS1⟩;rw[hms hp0]at hds;have hds:a1.defers=[]:=hds;have hq:=oZ hq;cases e with
 | normal=>
  obtain⟨capv,hcap,pp,hwp,hpan⟩:=hmid ρ1 w1.heap hq;have hev:=vK s1 hcap;refine wpIn_seq (wpIn_region_list ?_);have wt1:Region.wanted o1 (yielded #[o1,o2] a1.tmps)=true:=by simp[Region.wanted,h1g]
  have hf1:(execOp a1.eval o1).run P w1 = .ok (.value (.func (.func g) #[] capv.toArray)) w1:=by
   simp only[execOp,h1];have:capops.map a1.eval=capv.toArray:=by rw[<-hev,<-Array.toList_inj];simp
   simp[this,Instr.makeFunc]
  have hput:a1.put o1.dst (.func (.func g) #[] capv.toArray)={ tmps:=a1.tmps.setIfInBounds t (.func (.func g) #[] capv.toArray),defers:=a1.defers }:=by rw[h1d];rfl
  have hget:(a1.tmps.setIfInBounds t (.func (.func g) #[] capv.toArray))[t]? = some (.func (.func g) #[] capv.toArray):=by rw[N3];simp[n1,ht]
  simp only[wpListIn];rw[if_pos wt1];refine⟨λ_ _=>trivial,?_⟩;rw[Oper.semAt_eq _ _ _ (by intro c e;rw[h1]at e;cases e),hf1];simp only[Oper.uponIn,hput];have wt2:Region.wanted o2 (yielded #[o1,o2] (a1.tmps.setIfInBounds t (.func (.func g) #[] capv.toArray)))=true:=by simp[Region.wanted,h2g]
  rw[if_pos wt2];have hf2:(execOp (Act.eval { tmps:=a1.tmps.setIfInBounds t (.func (.func g) #[] capv.toArray),defers:=a1.defers }) o2).run P w1 = .ok (.defer { target:=.fn (.func g) capv.toArray,args:=#[] }) w1:=by simp only[execOp,h2];simp[resolve,Act.eval,hget,Deferred.ofValue]
  refine⟨λ_ _=>trivial,?_⟩;rw[show Fence.wide.round=none from rfl,Oper.semAt_none,hf2];simp only[Oper.uponIn,h2d,Act.put,hds];show c1.wpIn (Fw none) 0 P _ _ _;have s2:Sat (cO ρ1 [t]) { tmps:=a1.tmps.setIfInBounds t (.func (.func g) #[] capv.toArray),defers:=[{ target:=.fn (.func g) capv.toArray,args:=#[] }] }:=by intro x v hl;obtain⟨e1,e2⟩:=lN _ _ _ _ hl;have hne:t≠x:=λe=>e1 (by simp[e]);simp only[MG hne];exact s1 x v e2
  refine wpIn_mono (eA (pp:=pp) (r:=none) (a:={ tmps:=a1.tmps.setIfInBounds t (.func (.func g) #[] capv.toArray),defers:=[{ target:=.fn (.func g) capv.toArray,args:=#[] }] }) hm c1 hL1 (λ_=>rfl) hwp s2 (by simp[n1])) ?_;rintro e a2 w2 ⟨ρ2,s3,n3,⟨ms2,hds2,hms2,_⟩,hq2,hS2⟩;rw[hms2 hp1]at hds2;have hds2:a2.defers=[{ target:=.fn (.func g) capv.toArray,args:=#[] }]:=hds2;have fin : ∀(u:FrameMode),u≠.run->(∃S,qx P g capv.toArray u w2.heap S/\∀u' h3,S u' h3->settle u' = .returning/\∃vs,evs (look ρ2) (vw h3) res=some vs/\R (pack vs) h3)->
    LeavesIn (Fw none) 0 P fn a2.tmps (λe w'=>∃v,e = .returned v/\R v w'.heap/\Same w w') a2.defers u w2:=by rintro u hu ⟨S,hc,hS⟩;refine Bm hg hds2 hu hc λu' w' hu' hsame=>?_;obtain⟨g1,vs,g2,g3⟩:=hS u' w'.heap hu';exact⟨g1,pack vs,mc hres (pz (λt v h=>s3 t v h) g2),pack vs,rfl,g3,(hS1.trans hS2).trans hsame⟩
  cases e with
  | normal=>exact fin .returning Sa hq2.2
  | ret=>exact fin .returning Sa hq2.2
  | panic ch=>exact fin (.panicking ch) Sa (hpan ch ρ2 w2.heap hq2.2 hq2.1)
  | exit i=>rcases hq2.1 with h | h<;>cases h
  | goto l=>rcases hq2.1 with h | h<;>cases h
  | outgrown=>rcases hq2.1 with h | h<;>cases h
 | _=>exact hq.elim
def jF:FrameMode->Value × FrameMode
 | .panicking ({ v,recovered:=false,goexit:=false }::older)=>(v,.panicking ({ v,recovered:=true }::older))
 | u=>(.nilIface,u)
theorem oA{g:FuncId}{fn:Func}{c1:Code}{id t:Nat}{o:Oper}{tys:Array TypeId}{live liveR:List Nat}{L:LC}{args:List Value}{u:FrameMode}{h:Heap}{S:FrameMode->Heap->Prop}(hm:P.follows .mixedOrders=true)(hf:P.funcs[g]? = some fn)(hb:fn.body=some (.seq (.region id #[o] false) c1))(ho:o.op = .call ⟨.builtin .recover,#[],tys⟩)(hod:o.dst=some t)(hog:o.guard=none)(ht:t<fn.ntmps)(hL:eJ P fn.ntmps live liveR false c1=some L)(hp:L.plain=true)(hr:fn.results = #[])(hn:args.length<=fn.ntmps)(hw:@LC.wp noPP P L (λe _ h'=>(e = .normal\/e = .ret)/\S (jF u).2 h') ((t,(jF u).1)::cO (jX 0 args) [t]) h):qx P g args.toArray u h S:=by
 intro w hwh;subst hwh;refine callsDIn_of_wpSIn hf hb trivial λc₀ cs hu=>?_;apply wpSIn_seq;apply wpSIn_region;have hsat:Sat (jX 0 args) { tmps:=args.toArray++Array.replicate (fn.ntmps-args.toArray.size) undef,defers:=[] }:=by
  intro t v hl;obtain⟨_,h2⟩:=nz args 0 t v hl;have:t<args.length:=by
   rcases Lr t args.length with h | h
   ·exact h
   simp[L4 h]at h2
  simp only[Nat.sub_zero]at h2;simp only[N9,Nr,this,if_true,NJ];exact h2
 have hsz:(args.toArray++Array.replicate (fn.ntmps-args.toArray.size) undef).size=fn.ntmps:=by simp;omega
 have hex : ∀ρ,(execOp ρ o).run P w = .ok .recover w:=λρ=>by simp only[execOp,ho];simp[resolve,invoke,builtin]
 generalize args.toArray++Array.replicate (fn.ntmps-args.toArray.size) undef=tm at hsat hsz;have hwant : ∀tm',Region.wanted o (yielded #[o] tm')=true:=λtm'=>by simp[Region.wanted,hog]
 have key : ∀(v:Value) (c':Frame),(jF u).1=v->c'={ c₀ with mode:=(jF u).2 }->c1.wpSIn (Fw none) 0 P (bodyPostS P fn c₀ cs λe u' w'=>e = .returned (.tuple #[])/\S u' w'.heap/\Same w w') { tmps:=tm.setIfInBounds t v,defers:=[] } (c'::cs) w:=by
  intro v c' hv hc';have s2:Sat ((t,(jF u).1)::cO (jX 0 args) [t]) { tmps:=tm.setIfInBounds t v,defers:=[] }:=by
   intro x y hl;simp only[look]at hl;split at hl
   ·rename_i e;subst e;simp only[Ln]at hl;rw[<-hl,hv,N3];simp[hsz,ht]
   rename_i e;obtain⟨e1,e2⟩:=lN _ _ _ _ hl;simp only[MG e];exact hsat x y e2
  refine wpSIn_of_wpIn rfl (wpIn_mono (eA (pp:=noPP) (r:=none) (a:={ tmps:=tm.setIfInBounds t v,defers:=[] }) hm c1 hL (λ_=>rfl) hw s2 (by simp[hsz])) ?_);rintro e a2 w2 ⟨ρ2,s3,n3,⟨ms2,hds2,hms2,_⟩,hq2,hS2⟩;rw[hms2 hp]at hds2;have hds2:a2.defers=[]:=hds2;have hq2:=oZ hq2;have hres:(results fn a2.tmps).run P w2 = .ok (.tuple #[]) w2:=by simp[results,hr]
  have fin:a2.defers=[]/\∃u',c'::cs={ c₀ with mode:=u' }::cs/\∃v,(results fn a2.tmps).run P w2 = .ok v w2/\Ending.returned v = .returned (.tuple #[])/\S u' w2.heap/\Same w w2:=
   ⟨hds2,_,by rw[hc'],_,hres,rfl,hq2.2,hS2⟩;cases e with
  | normal=>exact fin
  | ret=>exact fin
  | panic ch=>rcases hq2.1 with h | h<;>cases h
  | exit i=>rcases hq2.1 with h | h<;>cases h
  | goto l=>rcases hq2.1 with h | h<;>cases h
  | outgrown=>rcases hq2.1 with h | h<;>cases h
 have hr0:List.range (#[o]:Array Oper).size=[0]:=rfl;rw[hr0];simp only[wpOpsSIn];have ho0:(#[o]:Array Oper)[0]? = some o:=rfl;rw[ho0];simp only[hwant,if_true,hex];refine⟨λ_ _=>trivial,?_⟩;by_cases hcase : ∃v older,u = .panicking ({ v,recovered:=false,goexit:=false }::older)
 ·obtain⟨v,older,rfl⟩:=hcase;have e:recoverD (c₀::cs)=some (v,{ c₀ with mode:=.panicking ({ v,recovered:=true }::older) }::cs):=by simp only[recoverD,hu]
  rw[e];simp only[hod];exact key v _ rfl rfl
 have e:recoverD (c₀::cs)=none:=by
  simp only[recoverD,hu];split
  ·exact absurd ⟨_,_,rfl⟩ hcase
  rfl
 have er:jF u=(.nilIface,u):=by
  unfold jF;split
  ·exact absurd ⟨_,_,rfl⟩ hcase
  rfl
 rw[e];simp only[hod];exact key .nilIface c₀ (by rw[er]) (by rw[er,<-hu])
section
variable {po po2:OP} {pp:PP}
structure Part (α β:Type) [Rep α] [Rep β] (o:Nat) (get:α->β) (set:α->β->α):Prop where
 fits:o+Rep.n β<=Rep.n α
 get : ∀{H:View} {cs:List Value} {d:α},Rep.rd H cs d->Rep.rd H ((cs.drop o).take (Rep.n β)) (get d)
 set : ∀{H:View} {cs us:List Value} {d:α} {x:β},Rep.rd H cs d->Rep.rd H us x->Rep.rd H (cs.take o++us++cs.drop (o+Rep.n β)) (set d x)
theorem Part.all[Rep α]:Part α α 0 (λd=>d) (λ_ x=>x) where
 fits:=by simp
 get:=λh=>by rw[Nj,Lw (by rw[Rep.len h];exact Lp _)];exact h
 set:=λh k=>by
  have:=Rep.len h
  rw[NP,LR,L5 Yb,Nn];exact k
section
variable {α β γ:Type} [Rep α] [Rep β] [Rep γ] {o:Nat}
theorem Part.fst{g:α->γ}{s:α->γ->α}(p:Part α γ o g s):Part (Cat α β) γ o (λd=>g d.a) (λd x=>⟨s d.a x,d.b⟩) where
 fits:=LM p.fits (Nat.le_add_right _ _)
 get:=by
  rintro H cs d ⟨c1,c2,rfl,h1,h2⟩
  have l1:=Rep.len h1
  have f:=p.fits
  rw[MJ Yb,MB (by simp;omega)]
  exact p.get h1
 set:=by
  rintro H cs us d x ⟨c1,c2,rfl,h1,h2⟩ k
  have l1:=Rep.len h1
  have f:=p.fits
  refine⟨_,c2,?_,p.set h1 k,h2⟩
  rw[MB Yb,MJ Yb]
  simp[LD]
theorem Part.snd{g:β->γ}{s:β->γ->β}(p:Part β γ o g s):Part (Cat α β) γ (Rep.n α+o) (λd=>g d.b) (λd x=>⟨d.a,s d.b x⟩) where
 fits:=by
  have:=p.fits
  show Rep.n α+o+Rep.n γ<=Rep.n α+Rep.n β
  omega
 get:=by
  rintro H cs d ⟨c1,c2,rfl,h1,h2⟩
  have l1:=Rep.len h1
  rw[Ny,L5 Yb,LR,show Rep.n α+o-c1.length=o by omega]
  exact p.get h2
 set:=by
  rintro H cs us d x ⟨c1,c2,rfl,h1,h2⟩ k
  have l1:=Rep.len h1
  refine⟨c1,_,?_,h1,p.set h2 k⟩
  rw[Nh,Lw Yb,show Rep.n α+o-c1.length=o by omega,Ny,L5 Yb,LR,
   show Rep.n α+o+Rep.n γ-c1.length=o+Rep.n γ by omega]
  simp[LD]
end
theorem Part.via {α β γ:Type} [ra:Rep α] [rb:Rep β] {f:γ->α} {o o':Nat} {g:α->β} {s:α->β->α} (p:Part α β o g s) {g':γ->β} {s':γ->β->γ} (hg : ∀d,g' d=g (f d)) (hs : ∀d x,f (s' d x)=s (f d) x) (ho:o=o':=by rfl):@Part γ β (Rep.via f) rb o' g' s':=by subst ho;exact @Part.mk γ β (Rep.via f) rb o g' s' p.fits (fun{H cs d} h=>by rw[hg];exact p.get h) (fun{H cs us d x} h k=>by have:=p.set (show Rep.rd H cs (f d) from h) k;rw[<-hs]at this;exact this)
theorem At.part[Rep α][Rep β]{o:Nat}{g:α->β}{s:α->β->α}(p:Part α β o g s){a:Addr}{d:α}(h:At H a d):At H (a.add o) (g d):=by obtain⟨cs,h1,h2⟩:=h;have l:=Rep.len h2;exact⟨_,zY h1 o (Rep.n β) (by rw[l];exact p.fits),p.get h2⟩
theorem Rd.JP[Rep α][Rep β]{o:Nat}{g:α->β}{s:α->β->α}(p:Part α β o g s)(ha:Rep.agg α=true)(hb:Rep.agg β=false){K:View}{v:Value}{d:α}(h:Rd H v d): ∃u,Un.ev K (.part o) v=some u/\Rd H u (g d):=by
 unfold Rd at h;rw[if_pos ha]at h;obtain⟨cs,rfl,h⟩:=h;have l:=Rep.len h;have f:=p.fits;have k:=p.get h;rw[Rep.one hb]at f k;have hlt:o<cs.size:=by simpa using(show o<cs.toList.length by omega)
 refine⟨cs[o],by simp[hlt],?_⟩;unfold Rd;rw[if_neg (by simp[hb])];rw[LU (by simpa using hlt)]at k;simpa using k
theorem InD.JK:Part InD Int 0 InD.frm (λd x=>{ d with frm:=x }):=(Part.fst Part.all).via (λ_=>rfl) λ_ _=>rfl
theorem InD.zl:Part InD Int 1 InD.val (λd x=>{ d with val:=x }):=(Part.snd Part.all).via (λ_=>rfl) λ_ _=>rfl
theorem PhiD.ix:Part PhiD Int 0 PhiD.dst (λd x=>{ d with dst:=x }):=(Part.fst Part.all).via (λ_=>rfl) λ_ _=>rfl
theorem PhiD.mw:Part PhiD (List InD) 1 PhiD.ins (λd x=>{ d with ins:=x }):=(Part.snd Part.all).via (λ_=>rfl) λ_ _=>rfl
theorem InsD.tB:Part InsD Int 0 InsD.op (λd x=>{ d with op:=x }):=(Part.fst Part.all).via (λ_=>rfl) λ_ _=>rfl
theorem InsD.ix:Part InsD Int 1 InsD.dst (λd x=>{ d with dst:=x }):=(Part.snd (Part.fst Part.all)).via (λ_=>rfl) λ_ _=>rfl
theorem InsD.xn:Part InsD Int 2 InsD.two (λd x=>{ d with two:=x }):=(Part.snd (Part.snd (Part.fst Part.all))).via (λ_=>rfl) λ_ _=>rfl
theorem InsD.fj:Part InsD (List Int) 3 InsD.args (λd x=>{ d with args:=x }):=(Part.snd (Part.snd (Part.snd (Part.fst Part.all)))).via (λ_=>rfl) λ_ _=>rfl
theorem InsD.jQ:Part InsD I32 4 InsD.imm (λd x=>{ d with imm:=x }):=(Part.snd (Part.snd (Part.snd (Part.snd Part.all)))).via (λ_=>rfl) λ_ _=>rfl
theorem dD.By:Part dD Int 0 dD.kind (λd x=>{ d with kind:=x }):=(Part.fst Part.all).via (λ_=>rfl) λ_ _=>rfl
theorem dD.fj:Part dD (List Int) 1 dD.args (λd x=>{ d with args:=x }):=(Part.snd (Part.fst Part.all)).via (λ_=>rfl) λ_ _=>rfl
theorem dD.C5:Part dD (List Int) 2 dD.to (λd x=>{ d with to:=x }):=(Part.snd (Part.snd (Part.fst Part.all))).via (λ_=>rfl) λ_ _=>rfl
theorem dD.jQ:Part dD I32 3 dD.imm (λd x=>{ d with imm:=x }):=(Part.snd (Part.snd (Part.snd Part.all))).via (λ_=>rfl) λ_ _=>rfl
theorem BlkD.rW:Part BlkD (List PhiD) 0 BlkD.phis (λd x=>{ d with phis:=x }):=(Part.fst Part.all).via (λ_=>rfl) λ_ _=>rfl
theorem BlkD.mw:Part BlkD (List InsD) 1 BlkD.ins (λd x=>{ d with ins:=x }):=(Part.snd (Part.fst Part.all)).via (λ_=>rfl) λ_ _=>rfl
theorem BlkD.nj:Part BlkD dD 2 BlkD.term (λd x=>{ d with term:=x }):=(Part.snd (Part.snd Part.all)).via (λ_=>rfl) λ_ _=>rfl
theorem an.F6:Part an Int 0 an.params (λd x=>{ d with params:=x }):=(Part.fst Part.all).via (λ_=>rfl) λ_ _=>rfl
theorem an.vk:Part an (List BlkD) 1 an.blocks (λd x=>{ d with blocks:=x }):=(Part.snd Part.all).via (λ_=>rfl) λ_ _=>rfl
def Sl {α:Type} [Rep α] (H:View) (a:Addr) (v:Value) (l:List α):Prop:=ao H a=some v/\SlRd H v l
theorem At.sl[Rep α]{a:Addr}{l:List α}(h:At H a l): ∃v,Sl H a v l:=h.list
variable{n:Nat}
theorem Addr.z{b o:Nat}:(⟨b,o,none⟩:Addr).add n=⟨b,o+n,none⟩:=bN rfl n
section
variable {α:Type} [Rep α] {P:Program} {ty:TypeId} {us:List (Nat × Value)} {h:Heap}
theorem gT{v:Value}{d:α}(hr:Rd H v d):Rep.rd H v.cells.toList d/\v.cells.size=Rep.n α/\∀c∈v.cells.toList,c.oneCell'=true:=by
 unfold Rd at hr;split at hr
 ·obtain⟨cs,rfl,h⟩:=hr;exact⟨h,by rw[<-Rep.len h];rfl,λc hc=>Rep.flat h c hc⟩
 rename_i ha;have hone:=Rep.one (α:=α) (by simpa using ha);have hfl:=Rep.flat hr v Sa;have:v.cells = #[v]:=by cases v<;>first | rfl | simp[Value.oneCell']at hfl
 rw[this];exact⟨by simpa using hr,by simp[hone],by simpa using hfl⟩
theorem oJ{b:Nat}{v:Value}{d:α}{t:TypeId}{fz:Nat × Nat}(hb:H b=some (.cells v.cells t fz))(hr:Rd H v d):At H ⟨b,0,none⟩ d:=
 ⟨_,⟨v.cells,t,fz,rfl,hb,by simp;exact Lw Sa⟩,(gT hr).1⟩
variable{K:Value->Heap->Prop}
theorem iY{t:TypeId}{x:Operand}{v:Value}{d:α}(hx:asg us x=v)(hv:Rd (vw h) v d)(hk : ∀h':Heap,h'=h.push (.cells v.cells t)->(vw h).le (vw h')->h'.size=h.size+1->At (vw h') ⟨h.size,0,none⟩ d->K (.pointer (some ⟨h.size,0,none⟩)) h'):step P (.box t x) ty us h K:=
 dK hx (hk _ rfl (bV _ _) Sa (oJ (t:=t) (fz:=(0,0)) (by simp[vw]) (hv.mono (bV _ _))))
theorem SlRd.whole{K:View}{v:Value}{l:List α}(h:SlRd H v l)(ha:Rep.agg α=true)(hk:H.le K){i:Nat}(hi:i<l.length): ∃u,Un.ev K (.bM (Rep.n α)) (.pointer (some ((slA v).add (i*Rep.n α))))=some u/\Rd K u l[i]:=
 ((h.at hi).mono hk).bM ha
end
theorem At.rng{a:Addr}{d:Int}(h:At H a d):-9223372036854775808<=d/\d<=9223372036854775807:=by obtain⟨u,h1,h2⟩:=h.load rfl;exact(bK.1 h2).2
theorem At.bool {H:View} {a:Addr} {d:Bool} (h:At H a d):ao H a=some (.bool d):=by obtain⟨u,h1,h2⟩:=h.load rfl;rw[tQ.1 h2]at h1;exact h1
theorem aO[Rep α]:SlRd H (.slice none 0 0) ([]:List α):=⟨none,0,rfl,by simp,by simp,.inl rfl⟩
variable{ty:TypeId}{bytes:Nat}{us:List (Nat × Value)}{K:Value->Heap->Prop}
theorem lB[Rep α]{t e:Nat}{z:Value}{ps:Array (Nat × Operand)}{vs:List Value}{ds:List α}{h:Heap}(ha:Rep.agg α=false)(hT:fm P t e 1 bytes z)(hp:ps.map (λp=>(p.1,asg us p.2))=((vs.zipIdx 0).map λp=>(p.2,p.1)).toArray){X:View}(hr:oB X vs ds)(hX:X.le (vw h))(hn:ds.length=n)(hb:n<=16777216)(hk : ∀u h',(vw h).le (vw h')->h'.size=h.size+1->(∀Y:View,X.le Y->Y h.size=h'[h.size]?->SlRd Y u ds)->u.ownBlock=some h.size->K u h'):step P (.buildSlice t n ps) ty us h K:=by
 have hl:=hr.len;obtain⟨B,h1,h2⟩:=yY vs 0 ((Array.range (n*1)).map (z.cells[· % z.cells.size]!)) (λv hv=>by obtain⟨i,hi,rfl⟩:=LS hv;exact(hr.get i hi Yb).Jk ha) (by simp;omega);have hB:B=vs.toArray:=by rw[<-Array.toList_inj,h2];simp
 refine pg hT Yb hp h1 ?_;have hle:=bV h (.cells B e);have hone:=Rep.one (α:=α) ha;refine hk _ _ hle Sa (λY hY hYb=>⟨some ⟨h.size,0,none⟩,n,by rw[hn],by omega,by omega,.inr ⟨_,rfl,rfl,λi hi=>?_⟩⟩) rfl;rw[bN rfl,hone];refine⟨[vs[i]],⟨B,e,(0,0),rfl,by rw[hYb];simp,?_⟩,?_⟩
 ·rw[hB];have hd:vs.drop i=vs[i]::vs.drop (i+1):=LU Yb;simp only[MR,MA,MI,NY];show List.take (0+1) (List.drop i vs)=_;rw[hd];rfl
 have:=(hr.get i Yb hi).mono hY;unfold Rd at this;rw[if_neg (by simp[ha])]at this;exact this
def mapE {β:Type} (enc:β->Value) (f:Int->Option β):Value->Option Value
 | .int .i64 j=>(f j).map enc
 | _=>none
@[simp] theorem oo{enc:β->Value}{f:Int->Option β}{j:Int}:mapE enc f (.int .i64 j)=(f j).map enc:=rfl
def putM {β:Type} (f:Int->Option β) (j:Int) (v:β):Int->Option β:=λi=>if i=j then some v else f i
theorem jg{enc:β->Value}{f:Int->Option β}{j:Int}{v:β}:mapE enc (putM f j v) (.int .i64 j)=some (enc v)/\∀u,u≠.int .i64 j->mapE enc (putM f j v) u=mapE enc f u:=by
 refine⟨by simp[putM],λu hu=>?_⟩;cases u<;>try rfl
 rename_i k i;cases k<;>try rfl
 have:i≠j:=λe=>hu (by rw[e]);simp[putM,this]
theorem pk{enc:β->Value}:mapE enc (λ_=>.none)=λ_=>.none:=by
 funext u;cases u<;>try rfl
 rename_i k i;cases k<;>rfl
theorem Kept.skip {h h':Heap} {r:Nat} (k:Kept h h' (some r)):(skip r h).le (Lft.skip r h'):=λb o hb=>by
 unfold Lft.skip at hb ⊢;split at hb
 ·cases hb
 rename_i hne;rw[if_neg hne];have hlt:=(Lu.1 hb).1;rw[k.block b hlt (by simpa using hne)];exact hb
variable{h':Heap}{r:Nat}
theorem Kept.BR{h:Heap}(k:Kept h h' (some r)):(Lft.skip r h).le (vw h'):=View.le_trans k.skip dk
theorem Kept.of_le{h:Heap}{b:Option Nat}(hle:(vw h).le (vw h')):Kept h h' b:=⟨cG hle,λk hk _=>by have:=hle k h[k] (LK hk);rw[LK hk];exact this⟩
theorem Kept.upd{h:Heap}(hs:h'.size=h.size)(ho : ∀b,b≠r->h'[b]? = h[b]?):Kept h h' (some r):=⟨by omega,λk _ hk=>ho k (by simpa using hk)⟩
variable{ty2:TypeId}{y:Operand}{us2:Value->List (Nat × Value)}
theorem gM{h:Heap}{t:TypeId}{z:Value}{x:Operand}{v:Value}(hz:(P.info? t).map (·.zero)=some (some z))(hzc:z.cells.size=n)(hsz:db P t=some n)(hv:v.cells.size=n)(hone : ∀c∈v.cells.toList,c.oneCell'=true)(hx : ∀p,asg (us2 p) x=p)(hy : ∀p,asg (us2 p) y=v)(hk : ∀h':Heap,(vw h).le (vw h')->h'.size=h.size+1->h'[h.size]? = some (.cells v.cells t (0,0))->K (.pointer (some ⟨h.size,0,none⟩)) h'):
  @step po P (.alloc t) ty us h λp h2=>@step po2 P (.store t x y) ty2 (us2 p) h2 λ_ h3=>K p h3:=by
 refine ed hz ?_;refine fq (g:=h.size) (o:=0) (n:=n) (v:=v) (cur:=z.cells) (e:=t) hsz (hx _) (hy _) hv hone Sa Yb λh' hs ⟨row,hrow,he⟩ hoth=>?_;have hrow2:row=v.cells:=by rw[<-Array.toList_inj,he];simp only[NP,LR,MR];rw[L5 (by simp[hzc]),Nn]
 rw[hrow2]at hrow;have hle:(vw h).le (vw h'):=λb o hb=>by have hlt:=View.lt (View.le_refl (vw h)) hb;show h'[b]? = _;rw[hoth b Yb];exact bV _ _ b o hb
 exact hk h' hle (by rw[hs];simp) hrow
section
variable {σ α ε:Type} {f:σ->α->Except ε σ} {s s':σ} {l:List α} {k:Nat} {t:ε}
theorem Be[Inhabited α](h:k<l.length)(hs:(l.take k).foldlM f s = .ok s'):(l.take (k+1)).foldlM f s=f s' (nth l k):=by rw[LG h,ON,hs,aC h];show List.foldlM f s' [l[k]]=f s' l[k];rw[MY];cases f s' l[k]<;>rfl
theorem Dx(h:(l.take k).foldlM f s = .error t):l.foldlM f s = .error t:=by
 have e:l.foldlM f s=(l.take k++l.drop k).foldlM f s:=by rw[M7]
 rw[e,ON,h];rfl
end
def upE {σ ε:Type} (f:Nat->σ->Except ε σ):Nat->σ->Except ε σ
 | 0,s=>.ok s
 | k+1,s=>match upE f k s with
  | .ok s'=>f k s'
  | .error t=>.error t
theorem mL{σ ε:Type}{f:Nat->σ->Except ε σ}{k:Nat}{s s':σ}(h:upE f k s = .ok s'):upE f (k+1) s=f k s':=by simp only[upE,h]
theorem yJ {σ ε:Type} {f:Nat->σ->Except ε σ} {s:σ} {t:ε} : ∀{n k:Nat},k<=n->upE f k s = .error t->upE f n s = .error t
 | 0,k,hk,h=>by
  have:k=0:=by omega
  subst this;exact h
 | n+1,k,hk,h=>by
  rcases Lr n k with hlt | hge
  ·have:k=n+1:=by omega
   subst this;exact h
  simp only[upE,yJ hge h]
theorem yN{σ ε:Type}{f:Nat->σ->Except ε σ}{k:Nat}{s s':σ}{t:ε}(h:upE f k s = .ok s')(hk:k<n)(he:f k s' = .error t):upE f n s = .error t:=
 yJ (k:=k+1) hk (by rw[mL h,he])
theorem eK[Rep α]{h:Heap}{t:TypeId}{z:Value}{x:Operand}{v:Value}{d:α}{X:View}(hz:(P.info? t).map (·.zero)=some (some z))(hzc:z.cells.size=Rep.n α)(hsz:db P t=some (Rep.n α))(hv:Rd X v d)(hx : ∀p,asg (us2 p) x=p)(hy : ∀p,asg (us2 p) y=v)(hk : ∀h':Heap,(vw h).le (vw h')->h'.size=h.size+1->(∀Y:View,X.le Y->Y h.size=h'[h.size]?->At Y ⟨h.size,0,none⟩ d)->K (.pointer (some ⟨h.size,0,none⟩)) h'):
  @step po P (.alloc t) ty us h λp h2=>@step po2 P (.store t x y) ty2 (us2 p) h2 λ_ h3=>K p h3:=by obtain⟨c1,c2,c3⟩:=gT hv;exact gM hz hzc hsz c2 c3 hx hy λh' hle hs hb=>hk h' hle hs λY hY hYb=>oJ (by rw[hYb];exact hb) (hv.mono hY)
theorem kG{B:Nat}{d:BlkD}(h:At H ⟨B,0,none⟩ d): ∃vp vi va vt,Sl H ⟨B,0,none⟩ vp d.phis/\Sl H ⟨B,1,none⟩ vi d.ins/\ao H ⟨B,2,none⟩=some (.int .i64 d.term.kind)/\Sl H ⟨B,3,none⟩ va d.term.args/\Sl H ⟨B,4,none⟩ vt d.term.to:=by obtain⟨vp,h1⟩:=(h.part BlkD.rW).sl;obtain⟨vi,h2⟩:=(h.part BlkD.mw).sl;have ht:=h.part BlkD.nj;obtain⟨va,h4⟩:=(ht.part dD.fj).sl;obtain⟨vt,h5⟩:=(ht.part dD.C5).sl;exact⟨vp,vi,va,vt,by simpa using h1,by simpa using h2,by simpa using(ht.part dD.By).int,by simpa using h4,by simpa using h5⟩
theorem yl{B:Nat}{d:PhiD}(h:At H ⟨B,0,none⟩ d):ao H ⟨B,0,none⟩=some (.int .i64 d.dst)/\∃v,Sl H ⟨B,1,none⟩ v d.ins:=by obtain⟨v,hv⟩:=(h.part PhiD.mw).sl;exact⟨by simpa using(h.part PhiD.ix).int,v,by simpa using hv⟩
theorem lj{B:Nat}{d:InsD}(h:At H ⟨B,0,none⟩ d):ao H ⟨B,0,none⟩=some (.int .i64 d.op)/\ao H ⟨B,1,none⟩=some (.int .i64 d.dst)/\ao H ⟨B,2,none⟩=some (.int .i64 d.two)/\∃v,Sl H ⟨B,3,none⟩ v d.args:=by obtain⟨v,hv⟩:=(h.part InsD.fj).sl;exact⟨by simpa using(h.part InsD.tB).int,by simpa using(h.part InsD.ix).int,by simpa using(h.part InsD.xn).int,v,by simpa using hv⟩
theorem jI{B:Nat}{d:an}(h:At H ⟨B,0,none⟩ d):ao H ⟨B,0,none⟩=some (.int .i64 d.params)/\∃v,Sl H ⟨B,1,none⟩ v d.blocks:=by obtain⟨v,hv⟩:=(h.part an.vk).sl;exact⟨by simpa using(h.part an.F6).int,v,by simpa using hv⟩
theorem AX{B:Nat}{d:InD}(h:At H ⟨B,0,none⟩ d):ao H ⟨B,0,none⟩=some (.int .i64 d.frm)/\ao H ⟨B,1,none⟩=some (.int .i64 d.val):=
 ⟨by simpa using(h.part InD.JK).int,by simpa using(h.part InD.zl).int⟩
theorem SlRd.wh[Rep α][Inhabited α]{v:Value}{l:List α}(h:SlRd H v l)(ha:Rep.agg α=true){N:Nat}(hn:Rep.n α=N){i:Nat}(hi:i<l.length): ∃u,(∀K:View,H.le K->Un.ev K (.bM N) (.pointer (some ((slA v).add (i*N))))=some u)/\Rd H u (nth l i):=by subst hn;obtain⟨u,h1,h2⟩:=h.whole ha (View.le_refl H) hi;refine⟨u,λK hk=>?_,by rw[aC hi];exact h2⟩;have:=dY (ρ:=λ_=>none) (e:=.un (.bM (Rep.n α)) (.con (.pointer (some ((slA v).add (i*Rep.n α)))))) hk (v:=u) (by simpa using h1);simpa using this
instance:Inhabited BlkD:=⟨⟨[],[],⟨0,[],[],⟨0⟩⟩⟩⟩
theorem rH{h:Heap}{f:FuncId}{t:Nat}{ops:List Operand}{T:Array TypeId}(hf:asg us (.tmp t) = .func (.func f) #[] caps){R:Value->Heap->Prop}{Rp:List PanicEntry->Heap->Prop}(hfn:isFn P f=true)(hc:iP P f (ops.map (asg us)++caps.toList).toArray h R Rp)(hk : ∀v h',R v h'->K v h')(hp : ∀ch h',Rp ch h'->po.op ch h'):@step po P (.call ⟨.value (.tmp t),ops.toArray,T⟩) ty us h K:=by
 refine dz (po:=po) (sQ (po:=po) (R:=R) (f:=f) (args:=(ops.map (asg us)++caps.toList).toArray) (λw _=>?_) hc hk hp);unfold isFn at hfn;cases hfn':P.funcs[f]? with
 | none=>simp[hfn']at hfn
 | some fn=>simp only[hfn',Ly,bne_iff_ne,ne_eq]at hfn;obtain⟨h1,h2⟩:=hfn;simp[bW,execOp,resolve,Deferred.ofValue,hf,invoke,callFunc,program,Sem.run,hfn',h1,Option.isNone];cases hb:fn.body<;>simp[hb]at h2 ⊢
variable{b:Bool}
@[simp] theorem Js{v:Value}:gdv b undef v=undef:=rfl
@[simp] theorem JD{o:Option Value}:gdO b undef o=some undef:=rfl
end
end Go.Lft
namespace Go.Proofs.YtnfiilgdjpdlkaaGreatDoor
open Go Go.Lft
theorem follows:Tryz.prog.follows .mixedOrders=true:=by kernel_rfl
abbrev T.int:Nat:=3
abbrev T.bool:Nat:=4
abbrev T.aY:Nat:=22
abbrev T.lR:Nat:=23
abbrev T.jA:Nat:=25
abbrev T.cz:Nat:=27
abbrev T.kq:Nat:=30
abbrev T.jE:Nat:=31
abbrev T.jj:Nat:=33
abbrev T.dh:Nat:=35
abbrev T.jt:Nat:=36
abbrev T.gw:Nat:=38
abbrev T.lO:Nat:=50
abbrev T.fL:Nat:=54
abbrev T.kr:Nat:=55
abbrev T.mN:Nat:=57
abbrev T.yg:Nat:=61
abbrev T.lX:Nat:=64
abbrev T.eC:Nat:=70
abbrev T.ff:Nat:=80
abbrev T.pH:Nat:=87
abbrev T.aR:Nat:=89
abbrev T.ee:Nat:=91
abbrev T.lg:Nat:=93
abbrev T.iF:Nat:=95
abbrev T.sD:Nat:=97
abbrev T.aZ:Nat:=101
abbrev T.jn:Nat:=108
abbrev T.gN:Nat:=109
abbrev T.gm:Nat:=110
abbrev T.bU:Nat:=113
abbrev T.jB:Nat:=116
abbrev T.jJ:Nat:=120
abbrev T.nB:Nat:=123
abbrev T.tP:Nat:=124
abbrev T.Ah:Nat:=127
abbrev T.gF:Nat:=136
abbrev T.cZ:Nat:=138
abbrev T.gp:Nat:=144
abbrev T.lY:Nat:=146
abbrev T.fW:Nat:=147
abbrev T.iQ:Nat:=149
abbrev T.Hb:Nat:=154
abbrev T.gV:Nat:=157
abbrev T.fy:Nat:=160
abbrev T.dX:Nat:=185
abbrev T.eE:Nat:=187
theorem U.int:Tryz.prog.underlying T.int=some (.int .i64):=by kernel_rfl
theorem U.aY:Tryz.prog.underlying T.aY=some (.slice T.int):=by kernel_rfl
theorem El.aY:fm Tryz.prog T.aY T.int 1 8 (.int .i64 0):=gR Ya Ya rfl Yc
theorem U.lR:Tryz.prog.underlying T.lR=some (.array 3 T.int):=by kernel_rfl
theorem El.jA:fm Tryz.prog T.jA T.dh 6 112 (.agg #[(.slice none 0 0),(.slice none 0 0),(.int .i64 0),(.slice none 0 0),(.slice none 0 0),(.int .i32 0)]):=gR Ya Ya rfl Yc
theorem El.kq:fm Tryz.prog T.kq T.lg 2 32 (.agg #[(.int .i64 0),(.slice none 0 0)]):=gR Ya Ya rfl Yc
theorem El.jE:fm Tryz.prog T.jE T.eC 5 56 (.agg #[(.int .i64 0),(.int .i64 0),(.int .i64 0),(.slice none 0 0),(.int .i32 0)]):=gR Ya Ya rfl Yc
theorem El.jt:fm Tryz.prog T.jt T.ff 8 80 (.agg #[(.int .i64 0),(.int .i64 0),(.int .i64 0),(.int .i64 0),(.int .i64 0),(.int .i64 0),(.int .i32 0),(.slice none 0 0)]):=gR Ya Ya rfl Yc
theorem U.lO:Tryz.prog.underlying T.lO=some (.array 2 T.int):=by kernel_rfl
theorem El.kr:fm Tryz.prog T.kr T.lX 2 16 (.agg #[(.int .i64 0),(.int .i64 0)]):=gR Ya Ya rfl Yc
theorem El.ee:fm Tryz.prog T.ee T.iF 2 16 (.agg #[(.int .i64 0),(.int .i64 0)]):=gR Ya Ya rfl Yc
theorem U.jn:Tryz.prog.underlying T.jn=some (.map T.int T.bool):=by kernel_rfl
theorem U.gN:Tryz.prog.underlying T.gN=some (.map T.int T.lO):=by kernel_rfl
theorem El.bU:fm Tryz.prog T.bU T.jB 2 16 (.agg #[(.int .i64 0),(.int .i64 0)]):=gR Ya Ya rfl Yc
theorem El.jJ:fm Tryz.prog T.jJ T.aY 1 24 (.slice none 0 0):=gR Ya Ya rfl Yc
theorem El.nB:fm Tryz.prog T.nB T.bool 1 1 (.bool false):=gR Ya Ya rfl Yc
theorem El.tP:fm Tryz.prog T.tP T.nB 1 24 (.slice none 0 0):=gR Ya Ya rfl Yc
theorem U.cZ:Tryz.prog.underlying T.cZ=some (.map T.int T.gF):=by kernel_rfl
theorem U.fW:Tryz.prog.underlying T.fW=some (.map T.int T.jB):=by kernel_rfl
theorem El.gV:fm Tryz.prog T.gV T.fy 4 64 (.agg #[(.int .i64 0),(.int .i64 0),(.slice none 0 0),(.slice none 0 0)]):=gR Ya Ya rfl Yc
theorem U.eE:Tryz.prog.underlying T.eE=some (.map T.int T.dX):=by kernel_rfl
end Go.Proofs.YtnfiilgdjpdlkaaGreatDoor
namespace Go.Lft
open Go Go.ChangeShapes Go.WideShapes Go.RowKit
structure RT (P:Program) (t:TypeId) (α:Type) [Rep α]:Prop where
 cells : ∀{H:Type} {enc:TypeId × Value->H} {W:World} {spare:Nat->Bool} {held:Bool} {fuel:Nat} {cs:List Value} {d:DataW H} {ps:List MemPlace},
  DataW.trod enc P W 0 spare held fuel t cs=some (d,ps)->(∀b∈d.weights P t,b<=reachBytes)->∃x:α,Rep.rd (vw W.heap) cs x
 val : ∀{W:World} {r:Reach} {base:Nat} {v:Value},Value.okWide P W r base t v->if Rep.agg α then ∃cs,v = .agg cs else v.cells = #[v]
variable{P:Program}
theorem RT.arg{t:TypeId}{α:Type}[Rep α](rt:RT P t α){H:Type}{enc:TypeId × Value->H}{W:World}{spare:Nat->Bool}{held:Bool}{v:Value}{d:DataW H}{ps:List MemPlace}{r:Reach}{base:Nat}(h:DataW.Trod enc P W 0 spare held t v d ps)(hok:Value.okWide P W r base t v)(hw : ∀b∈d.weights P t,b<=reachBytes): ∃x:α,Rd (vw W.heap) v x:=by
 obtain⟨fuel,h⟩:=h;obtain⟨x,hx⟩:=rt.cells h hw;have hv:=rt.val hok;refine⟨x,?_⟩;unfold Rd;split
 ·rename_i ha;rw[if_pos ha]at hv;obtain⟨cs,rfl⟩:=hv;exact⟨cs,rfl,hx⟩
 rename_i ha;rw[if_neg ha]at hv;rw[hv]at hx;exact hx
theorem wf_i64{n:Int}(h:(Lit.int .i64 n).wf=true):-9223372036854775808<=n/\n<=9223372036854775807:=by simp only[Lit.wf,Ly,decide_eq_true_eq]at h;simpa[IntKind.min,IntKind.max,IntKind.signed,IntKind.bits]using h
section
variable {P:Program} {t e:TypeId} {H:Type} {enc:TypeId × Value->H} {W:World} {spare:Nat->Bool} {held:Bool} {fuel:Nat} {cs:List Value} {x:DataW H × List MemPlace}
theorem trod_int{k:IntKind}(ht:P.underlying t=some (.int k))(h:DataW.trod enc P W 0 spare held fuel t cs=some x): ∃n,cs=[.int k n]/\(Lit.int k n).wf=true:=by
 cases fuel with
 | zero=>simp[DataW.trod]at h
 | succ n=>unfold DataW.trod at h;rw[ht]at h;split at h<;>simp_all
end
section
variable {P:Program} {t e:TypeId}
theorem IL(ht:P.underlying t=some (.int .i64)):RT P t Int where
 cells:=fun{H enc W spare held fuel cs d ps} h _=>by
  obtain⟨n,rfl,hw⟩:=trod_int ht h
  exact⟨n,rfl,wf_i64 hw⟩
 val:=fun{W r base v} h=>by
  simp only[Value.okWide,ht,Cell.okWide]at h
  cases v<;>simp[Cell.ok,ht]at h ⊢<;>first | rfl | simp[Rep.agg,Value.cells]
theorem wY{W:World}{a:Addr}{v:Value}(h:W.cell? a=some v):a.spot=none/\∃c T fz,W.heap[a.block]? = some (.cells c T fz)/\c[a.off]? = some v:=by
 unfold World.cell? at h;split at h
 ·rename_i c T fz hb;split at h
  ·cases h
  rename_i hs;exact⟨by simpa using hs,c,T,fz,hb,h⟩
 cases h
theorem tU{W:World}{a:Addr}{n:Nat}{c:List Value}(hn:0<n)(h:W.cells? 0 a n=some c):a.spot=none/\fZ (vw W.heap) a c:=by
 obtain⟨_,hl,hc⟩:=World.cells?_some h;have h0:=hc 0 hn;have e0:a.add 0=a:=by simp[Addr.add]
 rw[e0,LY Yb]at h0;obtain⟨hs,arr,T,fz,hb,_⟩:=wY h0;refine⟨hs,arr,T,fz,hs,hb,N7 λi=>?_⟩;by_cases hi:i<n
 ·have h1:=hc i hi;rw[bN hs]at h1;simp only[World.cell?,hb]at h1;rw[MV,if_pos Yb,Ni];simpa using h1
 rw[L4 (by simp;omega),L4 Yb]
theorem tc {H:Type} {P:Program} {e:TypeId} : ∀{l:List (DataW H)} {d:DataW H},d∈l->∀b∈d.weights P e,b∈DataW.weightsAll P e l
 | x::l,d,hd,b,hb=>by
  rw[DataW.weightsAll,Lt];rcases LF.1 hd with rfl | hd
  ·exact .inl hb
  exact .inr (tc hd b hb)
theorem E7{α:Type}[Rep α](ht:P.underlying t=some (.slice e))(hc:P.cellsOf e=Rep.n α)(hby:1<=P.bytesOf e)(re:RT P e α):RT P t (List α) where
 cells:=fun{H enc W spare held fuel cs d ps} h hw=>by
  rcases DataW.trod_slice ht h with⟨rfl,_⟩ | ⟨a,len,cap,elems,rest,n,_,rfl,hx,_,hlc,hcm,hel,hget,_,_⟩
  ·exact⟨[],_,rfl,none,0,rfl,by simp,by simp,.inl rfl⟩
  ·simp only[MZ]at hx
   obtain⟨rfl,_⟩:=hx
   have hwt : ∀b∈(DataW.slice (elems.map (·.1)) (rest.map (·.1))).weights P t,b<=reachBytes:=hw
   unfold DataW.weights at hwt
   rw[ht]at hwt
   simp only[LF,Lt,M9]at hwt
   have hlen:len<=140737488351232:=by
    have h1:=hwt _ (.inl rfl)
    have h2:elems.length*1<=(elems.length+rest.length)*P.bytesOf e:=NQ Yb hby
    have h3:reachBytes=140737488351232:=rfl
    omega
   have hpos:=Rep.pos (α:=α)
   have each : ∀i,i<len->∃x:α,∃c,W.cells? 0 (a.add (i*Rep.n α)) (Rep.n α)=some c/\Rep.rd (vw W.heap) c x:=by
    intro i hi
    have h1:=hget i hi
    rw[hc,LY Yb,Lz]at h1
    obtain⟨c,hc1,hc2⟩:=h1
    obtain⟨x,hx⟩:=re.cells (d:=elems[i].1) (ps:=elems[i].2) hc2 λb hb=>hwt b (.inr (.inl (tc (MP.2 ⟨_,LX Yb,rfl⟩) b hb)))
    exact⟨x,c,hc1,hx⟩
   have key : ∀k,k<=len->∃l:List α,l.length=k/\∀(i:Nat) (hi:i<l.length),∃c,W.cells? 0 (a.add (i*Rep.n α)) (Rep.n α)=some c/\Rep.rd (vw W.heap) c l[i]:=by
    intro k
    induction k with
    | zero=>exact λ_=>⟨[],rfl,λi hi=>by simp at hi⟩
    | succ k ih=>
     intro hk
     obtain⟨l,h1,h2⟩:=ih Yb
     obtain⟨x,c,h3,h4⟩:=each k Yb
     refine⟨l++[x],by simp[h1],λi hi=>?_⟩
     rcases Lr i l.length with hlt | hge
     ·rw[NV hlt];exact h2 i hlt
     ·have:i=k:=by simp at hi;omega
      subst this
      rw[OU hge]
      simp only[h1,OH,Nf]
      exact⟨c,h3,h4⟩
   obtain⟨l,h1,h2⟩:=key len (Lp _)
   refine⟨l,_,rfl,some a,cap,by rw[h1],by omega,by omega,?_⟩
   rcases NF len with h0 | h0
   ·left;exact Ls Yb
   ·right
    obtain⟨c,h3,_⟩:=h2 0 Yb
    have e0:a.add (0*Rep.n α)=a:=by simp[Addr.add]
    rw[e0]at h3
    refine⟨a,rfl,(tU hpos h3).1,λi hi=>?_⟩
    obtain⟨c,h3,h4⟩:=h2 i hi
    exact⟨c,(tU hpos h3).2,h4⟩
 val:=fun{W r base v} h=>by
  simp only[Value.okWide,ht,Cell.okWide]at h
  cases v<;>simp[Cell.ok,ht]at h ⊢<;>first | rfl | simp[Rep.agg,Value.cells]
end
theorem Ed{w w':World}(hs:Same w w')(hle:(vw w.heap).le (vw w'.heap)):Below w.heap.size w w':=
 ⟨hs.os,hs.tape,hs.output,hs.size,λk hk=>by have:=hle k w.heap[k] (LK hk);rw[LK hk];exact this⟩
theorem pY {H:Type} {enc:TypeId × Value->H} {P:Program} {W W':World} (hl:laidOutB P=true) (hb:Below W.heap.size W W') : ∀{ts:List TypeId} {vs:List Value} {ds:List (DataW H)} {ps:List MemPlace},
  (∀t∈ts,P.readableRec t=true/\t<P.types.size)->DataW.TrodAll enc P W 0 (λ_=>true) true ts vs ds ps->(∀x∈ps,x.block<W.heap.size)->DataW.TrodAll enc P W' 0 (λb=>decide (b<W.heap.size)) true ts vs ds ps
 | [],vs,ds,ps,_,h,_=>by obtain⟨rfl,rfl,rfl⟩:=trodAll_nil h;rfl
 | t::ts,vs,ds,ps,hr,h,hlt=>by obtain⟨v,vs',d,ds',p,q,rfl,rfl,rfl,h1,h2⟩:=trodAll_cons h;obtain⟨g1,g2⟩:=hr t (LA ..);exact⟨p,q,Below.trod hl g1 g2 h1 hb λx hx=>hlt x (MQ _ hx),pY hl hb (λt ht=>hr t (LB _ ht)) h2 λx hx=>hlt x (MO _ hx),rfl⟩
theorem EO{H:Type}{enc:TypeId × Value->H}{fn:Func}{s:ChangeSpec}{W W':World}{args:Array Value}{ds gs:List (DataW H)}{before:List MemPlace}{fresh:Bool}{tb:TypeId}(hl:laidOutB P=true)(hr : ∀t∈fn.params.toList,P.readableRec t=true/\t<P.types.size)(hW:DataW.Whole enc P fn.params.toList s.vars false W args.toList ds gs before)(hv:s.vars=[])(hs:s.fn H (ds++gs)={ results:=[.lit (.bool true)],args:=ds })(hres:fn.resultTypes = #[tb])(htb:P.underlying tb=some .bool)(hb:Below W.heap.size W W'):s.post enc P fn false fresh false false W args (.bool true) W':=by
 have hW0:=hW;obtain⟨p,q,hA,hV,rfl,_,_⟩:=hW;rw[hv]at hV;obtain⟨rfl,rfl⟩:=trodVars_none hV;have hlt : ∀x∈p,x.block<W.heap.size:=λx hx=>by simpa using hW0.lt x (MQ _ hx)
 refine⟨ds,[],p++[],[],p,[],hW0,?_,?_,?_,hb.frame _,λh=>by cases h⟩
 ·rw[hs,hres];exact trodAll_mk1 (shut_bool htb true)
 ·rw[hs];exact pY hl hb hr hA hlt
 rw[hv,hs];rfl
def FRd (P:Program) (l:List (Nat × TypeId)) (o:Nat) (α:Type) [Rep α]:Prop:=
 ∀{H:Type} {enc:TypeId × Value->H} {W:World} {spare:Nat->Bool} {held:Bool} {n:Nat} {cs:List Value} {xs:List (DataW H × List MemPlace)},cs.length=o+Rep.n α->xs.length=l.length->
  (∀(i:Nat) (p:Nat × TypeId),l[i]? = some p->DataW.trod enc P W 0 spare held n p.2 ((cs.drop p.1).take (P.cellsOf p.2))=xs[i]?)->
  (∀b∈DataW.weightsEach P (l.map (·.2)) (xs.map (·.1)),b<=reachBytes)->∃x:α,Rep.rd (vw W.heap) (cs.drop o) x
theorem FRd.one{t:TypeId}{o:Nat}{α:Type}[Rep α](rt:RT P t α)(hc:P.cellsOf t=Rep.n α):FRd P [(o,t)] o α:=by
 intro H enc W spare held n cs xs hl hxl hf hw;match xs,hxl with
 | [x],_=>have h0:=hf 0 (o,t) rfl;rw[Lw (by simp;omega)]at h0;exact rt.cells (d:=x.1) (ps:=x.2) h0 λb hb=>hw b (by simp[DataW.weightsEach,hb])
theorem FRd.cons{t:TypeId}{o:Nat}{l:List (Nat × TypeId)}{α β:Type}[Rep α][Rep β](rt:RT P t α)(hc:P.cellsOf t=Rep.n α)(hr:FRd P l (o+Rep.n α) β):FRd P ((o,t)::l) o (Cat α β):=by
 intro H enc W spare held n cs xs hl hxl hf hw;match xs,hxl with
 | x::xs,hxl=>have h0:=hf 0 (o,t) rfl;have hl:cs.length=o+(Rep.n α+Rep.n β):=hl;obtain⟨a,ha⟩:=rt.cells (d:=x.1) (ps:=x.2) h0 λb hb=>hw b (by simp[DataW.weightsEach,hb]);obtain⟨b,hb⟩:=hr (cs:=cs) (xs:=xs) Yb (by simpa using hxl) (λi p hp=>by simpa using hf (i+1) p (by simpa using hp)) λb hb=>hw b (by simp[DataW.weightsEach]at hb ⊢;exact .inr hb);refine⟨⟨a,b⟩,_,_,?_,ha,hb⟩;rw[hc,<-List.drop_drop,M7]
def fieldsOf (P:Program) (t:TypeId):Option (List (Nat × TypeId)):=match P.underlying t with
 | some (.struct fs)=>some (fs.toList.map λf=>(f.offset,f.type))
 | _=>none
theorem DH{t:TypeId}{α γ:Type}[Rep α]{f:γ->α}(g:α->γ)(hg : ∀a,f (g a)=a){l:List (Nat × TypeId)}(ht:fieldsOf P t=some l)(hc:P.cellsOf t=Rep.n α)(ha:Rep.agg α=true)(hf:FRd P l 0 α):@RT P t γ (Rep.via f):=by
 unfold fieldsOf at ht;split at ht
 ·rename_i fs hu;cases ht;exact @RT.mk P t γ (Rep.via f) (fun{H enc W spare held fuel cs d ps} h hw=>by
   obtain⟨xs,n,_,hx,hl,hxl,hget⟩:=DataW.trod_struct hu h;simp only[MZ]at hx;obtain⟨rfl,_⟩:=hx;unfold DataW.weights at hw;rw[hu]at hw;obtain⟨x,hx⟩:=hf (cs:=cs) (xs:=xs) Yb (by simpa using hxl) (λi p hp=>by rw[M6,Lq]at hp;obtain⟨q,hq,rfl⟩:=hp;exact hget i q (by simpa using hq)) (by simpa[N6]using hw);refine⟨g x,?_⟩;show Rep.rd (vw W.heap) cs (f (g x));rw[hg];simpa using hx) fun{W r base v} h=>by
   simp only[Value.okWide,hu]at h;obtain⟨cs,rfl,_⟩:=h;show if Rep.agg α=true then _ else _;rw[if_pos ha];exact⟨cs,rfl⟩
 cases ht
end Go.Lft
namespace Go.Proofs.YtnfiilgdjpdlkaaGreatDoor
open Go Go.Lft
theorem Tryz.own:ownKnob Tryz.prog.godebug=none:=by kernel_rfl
theorem Tryz.laidOut:laidOutB Tryz.prog=true:=by kernel_rfl
theorem rtI:RT Tryz.prog T.int Int:=IL Ya
theorem rtIs:RT Tryz.prog T.aY (List Int):=E7 (e:=T.int) Ya Ya (of_decide_eq_true Ya) rtI
end Go.Proofs.YtnfiilgdjpdlkaaGreatDoor
namespace Go.Lft
open Go Go.ChangeShapes Go.WideShapes Go.RowKit
theorem JR{H:Type}{enc:TypeId × Value->H}{P:Program}{a:Assume}{C:Checked}{os:Os}{f:FuncId}{fn:Func}{s:ChangeSpec}{conds:List PathCond}{fresh:Bool}{tb t1:TypeId}{α:Type}[Rep α]{X:World->Prop}{F:Heap->Prop}(hX : ∀w w':World,w.heap=w'.heap->X w->X w')(hF : ∀w,X w->F w.heap)(own:ownKnob C.prog.godebug=none)(started:os.Started)(noInit:C.prog.inits.idxOf? f=none)(hfn:C.prog.funcs[f]? = some fn)(hP:C.prog=P)(witness : ∃(w:World) (tape:Tape) (i:Input),w.os=os/\(w.forCall tape i).Shaped C.prog/\i.vars=[]/\Input.okWide C.prog (w.forCall tape i) .any w.heap.size f i/\
   ((s.pre enc C.prog fn conds false (w.forCall tape i).memory i.args/\X (w.forCall tape i).memory)/\sizedMet enc C.prog fn (OpenSpec.ofChange s) false (w.forCall tape i).memory i.args)/\a.holds C.prog (lone (Frame.enter C.prog f i.args .normal) [] (w.forCall tape i)))(hl:laidOutB P=true)(hr : ∀t∈fn.params.toList,P.readableRec t=true/\t<P.types.size)(hv:s.vars=[])(hs : ∀ds,ds.length=1->s.fn H ds={ results:=[.lit (.bool true)],args:=ds })(hres:fn.resultTypes = #[tb])(htb:P.underlying tb=some .bool)(hp:fn.params = #[t1])(r1:RT P t1 α)(hcall : ∀(h:Heap) (v1:Value) (x1:α),F h->Rd (vw h) v1 x1->az P f #[v1] h (λv h'=>v = .bool true/\(vw h).le (vw h'))):
  ReturnsInHanded a C os f .any (λw args=>(s.pre enc C.prog fn conds false w args/\X w)/\sizedMet enc C.prog fn (OpenSpec.ofChange s) false w args) (s.post enc C.prog fn false fresh false false):=by
 subst hP;refine returnsInHanded_of_change_and (X:=λw _=>X w) (λw w' _ hh h=>hX w w' hh h) own started noInit hfn witness ?_;intro W base args ds gs before hval hW _ hwt hXW _;have hW0:=hW;obtain⟨p,q,hA,hV,_,_,_⟩:=hW;rw[hv]at hV;obtain⟨hgs,_⟩:=trodVars_none hV;rw[hp]at hA;obtain⟨v1,d1,hargs,hds,h1⟩:=trodAll_one hA;have hlen:(ds++gs).length=1:=by rw[hds,hgs];rfl
 have e0:s.plain.varTypes C.prog=[]:=by simp[DataSpec.varTypes,ChangeSpec.plain,hv]
 rw[hgs,hds,hp,e0]at hwt;simp only[Nn,L6,decide_eq_true_eq]at hwt;obtain⟨x1,q1⟩:=r1.arg h1 (hval 0 t1 v1 (by rw[hp];rfl) (by rw[hargs];rfl)) (λb hb=>hwt b (by simp[DataW.weightsEach,hb]));rw[hargs];refine(hcall W.heap v1 x1 (hF W hXW) q1 W rfl).mono ?_;rintro e W' ⟨v,rfl,⟨rfl,hle⟩,hsame⟩;rw[<-hargs];have hgs':ds++gs=ds:=by rw[hgs,Nn]
 exact⟨_,rfl,EO hl hr hW0 hv (by rw[hs _ hlen,hgs']) hres htb (Ed hsame hle)⟩
end Go.Lft
namespace Go.Proofs.YtnfiilgdjpdlkaaGreatDoor
open Go Go.Lft
abbrev Gr:=List (List Int)
def mS (g:Gr) (a b:Int):Bool:=decide (0<=a/\a<g.length/\0<=b/\b<g.length)&&(nth g a.toNat).contains b
def lf (g:Gr) (a:Int):List Int:=sift (λb=>mS g a b) (λb=>(b:Int)) g.length
def rX (g:Gr):Gr:=rows (λb=>sift (λa=>mS g a b) (λa=>(a:Int)) g.length) g.length
def tF (gone:Int) (l:List Int) (i:Nat) (out:List Bool):List Bool:=out.set (nth l i).toNat (nth out (nth l i).toNat||decide (nth l i≠gone))
def outBlock (g:Gr) (gone:Int) (a:Nat) (out:List Bool):List Bool:=if nth out a then up (tF gone (lf g a)) (lf g a).length out else out
def mZ (g:Gr) (gone:Int) (out:List Bool):List Bool:=up (outBlock g gone) g.length out
def mQ (g:Gr) (gone:Int):List Bool:=
 if g.length=0\/gone=0 then List.replicate g.length false else up (λ_=>mZ g gone) g.length ((List.replicate g.length false).set 0 true)
theorem yu{β γ:Type}(m:β->γ){f:Nat->β->β}(hf : ∀k x,m (f k x)=m x)(n:Nat)(x:β):m (up f n x)=m x:=by
 induction n with
 | zero=>rfl
 | succ n ih=>rw[up,hf,ih]
def domC (g:Gr) (a b:Nat):Bool:=nth (mQ g (-1)) a&&nth (mQ g (-1)) b&&(decide ((a:Int)=(b:Int))||!nth (mQ g a) b)
def nZ (l:List Int) (a:Int):Nat->Int->Bool
 | 0,_=>false
 | k+1,b=>if b=a then true else if b<0\/(l.length:Int)<=b then false else nZ l a k (nth l b.toNat)
def eV (l:List Int) (a b:Int):Bool:=decide (0<=a/\a<l.length/\0<=b/\b<l.length)&&nZ l a (l.length+1) b
def BY (p:Nat->Bool) (b:Nat) (s:Bool):Bool:=s&&p b
def tt (p:Nat->Bool) (n:Nat):Bool:=up (BY p) n true
theorem vu{p:Nat->Bool}{n:Nat}:tt p (n+1)=(tt p n&&p n):=rfl
theorem BJ{g:Gr}:(rX g).length=g.length:=by simp[rX]
def jx (nx:Int->List Int):Nat->Int->List Bool × List Int->List Bool × List Int
 | 0,_,s=>s
 | n+1,a,s=>let r:=up (λi s=>if nth s.1 (nth (nx a) i).toNat then s else jx nx n (nth (nx a) i) s) (nx a).length (s.1.set a.toNat true,s.2);(r.1,r.2++[a])
def dr (nx:Int->List Int) (n:Nat) (a:Int) (i:Nat) (s:List Bool × List Int):List Bool × List Int:=if nth s.1 (nth (nx a) i).toNat then s else jx nx n (nth (nx a) i) s
theorem kl{nx:Int->List Int}{n:Nat}{a:Int}{s:List Bool × List Int}:
  jx nx (n+1) a s=((up (dr nx n a) (nx a).length (s.1.set a.toNat true,s.2)).1,(up (dr nx n a) (nx a).length (s.1.set a.toNat true,s.2)).2++[a]):=rfl
def dO (t:List Bool):Nat:=t.count false
theorem jv{t:List Bool}{i:Nat}(hi:i<t.length)(hf:nth t i=false):dO (t.set i true)+1=dO t:=by rw[aC hi]at hf;unfold dO;rw[List.count_set hi];have hp:0<t.count false:=List.count_pos_iff.2 (hf▸LX hi);simp[hf];omega
theorem wK{t:List Bool}{i:Nat}:dO (t.set i true)<=dO t:=by
 rcases Lr i t.length with hi | hi
 ·unfold dO;rw[List.count_set hi];simp
 rw[List.set_eq_of_length_le hi];exact Lp _
theorem rL{β:Type}(I:β->Prop){f:Nat->β->β}(hf : ∀k x,I x->I (f k x))(n:Nat)(x:β)(hx:I x):I (up f n x):=by
 induction n with
 | zero=>exact hx
 | succ n ih=>rw[up];exact hf _ _ ih
theorem oq {nx:Int->List Int} {m c:Nat} : ∀(n:Nat) (a:Int) (s:List Bool × List Int),s.1.length=m/\dO s.1<=c->(jx nx n a s).1.length=m/\dO (jx nx n a s).1<=c
 | 0,_,_,h=>h
 | n+1,a,s,h=>by
  rw[kl];refine rL (λs:List Bool × List Int=>s.1.length=m/\dO s.1<=c) (λk x hx=>?_) _ _ ⟨by simpa using h.1,LM wK h.2⟩;unfold dr;split
  ·exact hx
  exact oq n _ x hx
def kS (nx:Int->List Int) (n:Nat):List Int:=if n=0 then[] else(jx nx n 0 (List.replicate n false,[])).2.reverse
theorem ll{α:Type}[Rep α]{W:View}{h:Heap}{e:TypeId}{v:Value}{l:List α}(o:OwnT W h e v l):v.cells = #[v]/\v.oneCell'=true:=by have:=o.len (K:=nothing);cases v<;>first | exact⟨rfl,rfl⟩ | (simp[Un.ev,vL]at this)
end Go.Proofs.YtnfiilgdjpdlkaaGreatDoor
namespace Go.Proofs.YtnfiilgdjpdlkaaGreatDoor
open Go Go.Lft
section
set_option maxRecDepth 100000
def q:List LC->LC|[]=>.skip|[a]=>a|a::b::l=>.seq a (q (b::l))
def k(K:List Nat)(S:List (Nat×E)):LC:=.reg false (.fin K S [])
def f(n c i:Nat)(K K2:List Nat)(e:E)(b:LC):LC:=.seq (.seq (.reg false (.fin K [(c,e)] [])) (.cond (.tmp c) [c] .skip (.exit n))) (.seq b (.reg false (.fin K2 [(i,.bin (.arith .add) (.tmp i) (.con (.int .i64 1)))] [])))
def u(n:Nat)(x y:LC):LC:=.cond (.tmp n) [n] x y
def v(n:Nat)(x:LC):LC:=.block n (.loop x)
def l(K:List Nat)(S A:List (Nat×E))(o:Op)(y d:Nat)(r:Reg):Reg:=.loud K S A none [] false o y (some d) true r
def s(K:List Nat)(S A:List (Nat×E))(o:Op)(r:Reg):Reg:=.loud K S A none [] false o 0 none false r
def p(A:List (Nat×E))(o:Op)(y d:Nat)(r:Reg):Reg:=.loud [] [] A none [] false o y (some d) true r
def z:Reg:=.fin [] [] []
def w:List Nat->List (Nat×E)|[]=>[]|a::l=>(a,.tmp a)::w l
def t(n:Nat):E:=.tmp n
def c(n:Int):E:=.con (.int .i64 n)
def d(x:E):E:=.un .load x
def e(n:Nat)(x:E):E:=.un (.fld n) x
def g(n:Nat)(x:E):E:=.un .load (.un (.fld n) x)
def i(n:Nat)(x y:E):E:=.bin (.idx n) x y
def h(x:E):E:=.un .len x
def j(o:BinOp)(x y:E):E:=.bin (.cmp o) x y
def o(x y:E):E:=.bin (.arith .add) x y
def a(n:Nat):Operand:=.tmp n
def x(n:Nat)(A:List Nat)(T:List Nat):Op:=.call ⟨.value (.func n),(A.map .tmp).toArray,T.toArray⟩
theorem sh:(∀a,q [a]=a)/\(∀a b l,q (a::b::l)=.seq a (q (b::l)))/\(∀K S,k K S=.reg false (.fin K S []))/\(∀n c i K L e b,f n c i K L e b=.seq (.seq (.reg false (.fin K [(c,e)] [])) (.cond (.tmp c) [c] .skip (.exit n))) (.seq b (.reg false (.fin L [(i,.bin (.arith .add) (.tmp i) (.con (.int .i64 1)))] []))))/\(∀n x y,u n x y=.cond (.tmp n) [n] x y)/\(∀n x,v n x=.block n (.loop x))/\(∀K S A o y d r,l K S A o y d r=.loud K S A none [] false o y (some d) true r)/\(∀K S A o r,s K S A o r=.loud K S A none [] false o 0 none false r)/\(∀A o y d r,p A o y d r=.loud [] [] A none [] false o y (some d) true r)/\(z=.fin [] [] [])/\(w []=[])/\(∀a l,w (a::l)=(a,.tmp a)::w l)/\(∀n,t n=.tmp n)/\(∀n,c n=.con (.int .i64 n))/\(∀x,d x=.un .load x)/\(∀n x,e n x=.un (.fld n) x)/\(∀n x,g n x=.un .load (.un (.fld n) x))/\(∀n x y,i n x y=.bin (.idx n) x y)/\(∀x,h x=.un .len x)/\(∀o x y,j o x y=.bin (.cmp o) x y)/\(∀m n,o m n=.bin (.arith .add) m n)/\(∀n,a n=.tmp n)/\(∀n A T,x n A T=.call ⟨.value (.func n),(A.map .tmp).toArray,T.toArray⟩)/\(∀(p:Nat->Operand) n l,List.map p (n::l)=p n::l.map p)/\(∀p:Nat->Operand,List.map p []=[]):=⟨λ_=>rfl,λ_ _ _=>rfl,λ_ _=>rfl,λ_ _ _ _ _ _ _=>rfl,λ_ _ _=>rfl,λ_ _=>rfl,λ_ _ _ _ _ _ _=>rfl,λ_ _ _ _ _=>rfl,λ_ _ _ _ _=>rfl,rfl,rfl,λ_ _=>rfl,λ_=>rfl,λ_=>rfl,λ_=>rfl,λ_ _=>rfl,λ_ _=>rfl,λ_ _ _=>rfl,λ_=>rfl,λ_ _ _=>rfl,λ_ _=>rfl,λ_=>rfl,λ_ _ _=>rfl,λ_ _ _=>rfl,λ_=>rfl⟩
set_option maxRecDepth 100000
set_option maxHeartbeats 4000000
abbrev N.slices_Reverse_int:Nat:=143
abbrev N.slices_Sort_int:Nat:=148
abbrev N.slices_Compact_int:Nat:=149
abbrev N.cA:Nat:=5
def A.cA:=lkA Tryz.f5
def B.cA:=lkB Tryz.f5
def L.cA.l1:LC:=lkL QP Tryz.f5 A.cA B.cA [1,1,1,1,1,1,1,0,1,0,0] lfc
def L.cA:LFn:=lkG QP Tryz.f5 A.cA B.cA (lfS lfc (lfS lfc (lfS lfc (lfS lfc (lfS lfc (lfS lfc (lfS lfc (lfS (lfS lfc (lfB (lfO L.cA.l1))) lfc))))))))
theorem E.cA:aV Tryz.prog Tryz.f5=some L.cA:=by kernel_rfl
theorem F.cA:Tryz.prog.funcs[N.cA]? = some Tryz.f5:=Tryz.func5
end
section
set_option maxRecDepth 100000
set_option maxHeartbeats 4000000
abbrev N.ez:Nat:=11
def A.ez:=lkA Tryz.f11
def B.ez:=lkB Tryz.f11
def L.ez:LFn:=lkG QP Tryz.f11 A.ez B.ez (lfS lfc (lfS lfc lfc))
theorem E.ez:aV Tryz.prog Tryz.f11=some L.ez:=by kernel_rfl
theorem F.ez:Tryz.prog.funcs[N.ez]? = some Tryz.f11:=Tryz.func11
abbrev N.dV:Nat:=12
def A.dV:=lkA Tryz.f12
def B.dV:=lkB Tryz.f12
def L.dV:LFn:=lkG QP Tryz.f12 A.dV B.dV (lfS lfc (lfS lfc (lfS lfc (lfS lfc (lfS lfc (lfS lfc (lfS lfc (lfS lfc (lfS lfc (lfS lfc (lfS lfc (lfS lfc (lfS lfc (lfS (lfS lfc (lfB (lfS lfc (lfK lfc (lfS lfc (lfK lfc (lfS lfc (lfK lfc (lfS lfc (lfK lfc (lfS lfc (lfK lfc (lfS lfc (lfK lfc (lfS lfc (lfK lfc lfc)))))))))))))))) lfc))))))))))))))
theorem E.dV:aV Tryz.prog Tryz.f12=some L.dV:=by kernel_rfl
theorem F.dV:Tryz.prog.funcs[N.dV]? = some Tryz.f12:=Tryz.func12
abbrev N.gO:Nat:=13
def L.gO:LFn:=lkF QP Tryz.f13
theorem E.gO:aV Tryz.prog Tryz.f13=some L.gO:=by kernel_rfl
theorem F.gO:Tryz.prog.funcs[N.gO]? = some Tryz.f13:=Tryz.func13
abbrev N.gq:Nat:=15
def L.gq:LFn:=lkF QP Tryz.f15
theorem E.gq:aV Tryz.prog Tryz.f15=some L.gq:=by kernel_rfl
theorem F.gq:Tryz.prog.funcs[N.gq]? = some Tryz.f15:=Tryz.func15
abbrev N.gW:Nat:=16
def L.gW:LFn:=lkF QP Tryz.f16
theorem E.gW:aV Tryz.prog Tryz.f16=some L.gW:=by kernel_rfl
theorem F.gW:Tryz.prog.funcs[N.gW]? = some Tryz.f16:=Tryz.func16
abbrev N.bX:Nat:=17
def A.bX:=lkA Tryz.f17
def B.bX:=lkB Tryz.f17
def L.bX.l1:LC:=lkL QP Tryz.f17 A.bX B.bX [1,1,0,1,0,0] lfc
def L.bX:LFn:=lkG QP Tryz.f17 A.bX B.bX (lfS lfc (lfS lfc (lfS (lfS lfc (lfB (lfO L.bX.l1))) lfc)))
theorem E.bX:aV Tryz.prog Tryz.f17=some L.bX:=by kernel_rfl
theorem F.bX:Tryz.prog.funcs[N.bX]? = some Tryz.f17:=Tryz.func17
abbrev N.dG:Nat:=19
def A.dG:=lkA Tryz.f19
def B.dG:=lkB Tryz.f19
def L.dG.l1:LC:=lkL QP Tryz.f19 A.dG B.dG [1,1,0,1,0,0] lfc
def L.dG:LFn:=lkG QP Tryz.f19 A.dG B.dG (lfS lfc (lfS lfc (lfS (lfS lfc (lfB (lfO L.dG.l1))) lfc)))
theorem E.dG:aV Tryz.prog Tryz.f19=some L.dG:=by kernel_rfl
theorem F.dG:Tryz.prog.funcs[N.dG]? = some Tryz.f19:=Tryz.func19
abbrev N.iR:Nat:=20
def L.iR:LFn:=lkF QP Tryz.f20
theorem E.iR:aV Tryz.prog Tryz.f20=some L.iR:=by kernel_rfl
theorem F.iR:Tryz.prog.funcs[N.iR]? = some Tryz.f20:=Tryz.func20
end
section
set_option maxRecDepth 100000
set_option maxHeartbeats 4000000
abbrev N.fg:Nat:=22
def A.fg:=lkA Tryz.f22
def B.fg:=lkB Tryz.f22
def L.fg.l1:LC:=lkL QP Tryz.f22 A.fg B.fg [1,1,0,1,0,0] lfc
def L.fg:LFn:=lkG QP Tryz.f22 A.fg B.fg (lfS lfc (lfS lfc (lfS (lfS lfc (lfB (lfO L.fg.l1))) lfc)))
theorem E.fg:aV Tryz.prog Tryz.f22=some L.fg:=by kernel_rfl
theorem F.fg:Tryz.prog.funcs[N.fg]? = some Tryz.f22:=Tryz.func22
abbrev N.dN:Nat:=23
def A.dN:=lkA Tryz.f23
def B.dN:=lkB Tryz.f23
def L.dN.l1:LC:=lkL QP Tryz.f23 A.dN B.dN [1,1,0,1,0,0] lfc
def L.dN:LFn:=lkG QP Tryz.f23 A.dN B.dN (lfS lfc (lfS lfc (lfS (lfS lfc (lfB (lfO L.dN.l1))) lfc)))
theorem E.dN:aV Tryz.prog Tryz.f23=some L.dN:=by kernel_rfl
theorem F.dN:Tryz.prog.funcs[N.dN]? = some Tryz.f23:=Tryz.func23
abbrev N.eX:Nat:=24
def L.eX:LFn:=lkF QP Tryz.f24
theorem E.eX:aV Tryz.prog Tryz.f24=some L.eX:=by kernel_rfl
theorem F.eX:Tryz.prog.funcs[N.eX]? = some Tryz.f24:=Tryz.func24
abbrev N.gk:Nat:=25
def L.gk:LFn:=lkF QP Tryz.f25
theorem E.gk:aV Tryz.prog Tryz.f25=some L.gk:=by kernel_rfl
theorem F.gk:Tryz.prog.funcs[N.gk]? = some Tryz.f25:=Tryz.func25
abbrev N.aQ:Nat:=26
def A.aQ:=lkA Tryz.f26
def B.aQ:=lkB Tryz.f26
def L.aQ.l1:LC:=lkL QP Tryz.f26 A.aQ B.aQ [1,1,1,1,0,1,0,0] lfc
def L.aQ.l3:LC:=lkL QP Tryz.f26 A.aQ B.aQ [1,1,1,1,1,1,0,1,0,0,1,1,0,0,1,1,0,0] lfc
def L.aQ.l2:LC:=lkL QP Tryz.f26 A.aQ B.aQ [1,1,1,1,1,1,0,1,0,0] (lfS lfc (lfS lfc (lfS (lfB (lfS lfc (lfS lfc (lfB (lfO L.aQ.l3))))) lfc)))
def L.aQ.l5:LC:=lkL QP Tryz.f26 A.aQ B.aQ [1,1,1,1,1,1,1,1,1,0,1,0,0,1,1,0,0,1,1,0,0] lfc
def L.aQ.l4:LC:=lkL QP Tryz.f26 A.aQ B.aQ [1,1,1,1,1,1,1,1,1,0,1,0,0] (lfS lfc (lfS lfc (lfS (lfB (lfS lfc (lfS lfc (lfB (lfO L.aQ.l5))))) lfc)))
def L.aQ:LFn:=lkG QP Tryz.f26 A.aQ B.aQ (lfS lfc (lfS lfc (lfS lfc (lfS lfc (lfS (lfS lfc (lfB (lfO L.aQ.l1))) (lfS lfc (lfS (lfS lfc (lfB (lfO L.aQ.l2))) (lfS lfc (lfS lfc (lfS (lfS lfc (lfB (lfO L.aQ.l4))) lfc))))))))))
theorem E.aQ:aV Tryz.prog Tryz.f26=some L.aQ:=by kernel_rfl
theorem F.aQ:Tryz.prog.funcs[N.aQ]? = some Tryz.f26:=Tryz.func26
abbrev N.gl:Nat:=27
def L.gl:LFn:=lkF QP Tryz.f27
theorem E.gl:aV Tryz.prog Tryz.f27=some L.gl:=by kernel_rfl
theorem F.gl:Tryz.prog.funcs[N.gl]? = some Tryz.f27:=Tryz.func27
abbrev N.eF:Nat:=28
def L.eF:LFn:=lkF QP Tryz.f28
theorem E.eF:aV Tryz.prog Tryz.f28=some L.eF:=by kernel_rfl
theorem F.eF:Tryz.prog.funcs[N.eF]? = some Tryz.f28:=Tryz.func28
abbrev N.gY:Nat:=33
def L.gY:LFn:=lkF QP Tryz.f33
theorem E.gY:aV Tryz.prog Tryz.f33=some L.gY:=by kernel_rfl
theorem F.gY:Tryz.prog.funcs[N.gY]? = some Tryz.f33:=Tryz.func33
abbrev N.cR:Nat:=34
def L.cR:LFn:=lkF QP Tryz.f34
theorem E.cR:aV Tryz.prog Tryz.f34=some L.cR:=by kernel_rfl
theorem F.cR:Tryz.prog.funcs[N.cR]? = some Tryz.f34:=Tryz.func34
end
section
set_option maxRecDepth 100000
set_option maxHeartbeats 4000000
abbrev N.aq:Nat:=35
def A.aq:=lkA Tryz.f35
def B.aq:=lkB Tryz.f35
def L.aq.l1:LC:=lkL QP Tryz.f35 A.aq B.aq [1,1,1,1,1,1,1,0,1,0,0] lfc
def L.aq.l3:LC:=lkL QP Tryz.f35 A.aq B.aq [1,1,1,1,1,1,1,1,1,0,1,0,0,1,0,0,1,1,1,0,0] lfc
def L.aq.l2:LC:=lkL QP Tryz.f35 A.aq B.aq [1,1,1,1,1,1,1,1,1,0,1,0,0] (lfS lfc (lfS (lfB (lfS lfc (lfS lfc (lfS lfc (lfB (lfO L.aq.l3)))))) lfc))
def L.aq.l6:LC:=lkL QP Tryz.f35 A.aq B.aq [1,1,1,1,1,1,1,1,1,1,1,0,1,0,0,1,0,0,1,0,0,1,0,0,1,1,0,1,0,0] lfc
def L.aq.l7:LC:=lkL QP Tryz.f35 A.aq B.aq [1,1,1,1,1,1,1,1,1,1,1,0,1,0,0,1,0,0,1,0,0,1,0,0,1,1,1,0,1,0,0] lfc
def L.aq.l8:LC:=lkL QP Tryz.f35 A.aq B.aq [1,1,1,1,1,1,1,1,1,1,1,0,1,0,0,1,0,0,1,0,0,1,0,0,1,1,1,1,1,1,1,0,1,0,0] lfc
def L.aq.l10:LC:=lkL QP Tryz.f35 A.aq B.aq [1,1,1,1,1,1,1,1,1,1,1,0,1,0,0,1,0,0,1,0,0,1,0,0,1,1,1,1,1,1,1,1,0,1,0,0,1,0,0,1,0,1,0,0] lfc
def L.aq.l11:LC:=lkL QP Tryz.f35 A.aq B.aq [1,1,1,1,1,1,1,1,1,1,1,0,1,0,0,1,0,0,1,0,0,1,0,0,1,1,1,1,1,1,1,1,0,1,0,0,1,0,0,1,1,1,0,0] lfc
def L.aq.l9:LC:=lkL QP Tryz.f35 A.aq B.aq [1,1,1,1,1,1,1,1,1,1,1,0,1,0,0,1,0,0,1,0,0,1,0,0,1,1,1,1,1,1,1,1,0,1,0,0] (lfS lfc (lfS (lfB (lfS lfc (lfS (lfS lfc (lfB (lfO L.aq.l10))) (lfS lfc (lfB (lfO L.aq.l11)))))) lfc))
def L.aq.l12:LC:=lkL QP Tryz.f35 A.aq B.aq [1,1,1,1,1,1,1,1,1,1,1,0,1,0,0,1,0,0,1,0,0,1,0,0,1,1,1,1,1,1,1,1,1,1,0,1,0,0] lfc
def L.aq.l5:LC:=lkL QP Tryz.f35 A.aq B.aq [1,1,1,1,1,1,1,1,1,1,1,0,1,0,0,1,0,0,1,0,0] (lfS lfc (lfS (lfB (lfS lfc (lfS lfc (lfS (lfS lfc (lfB (lfO L.aq.l6))) (lfS (lfS lfc (lfB (lfO L.aq.l7))) (lfS lfc (lfS lfc (lfS lfc (lfS (lfS lfc (lfB (lfO L.aq.l8))) (lfS (lfS lfc (lfB (lfO L.aq.l9))) (lfS lfc (lfS (lfS lfc (lfB (lfO L.aq.l12))) lfc)))))))))))) lfc))
def L.aq.l4:LC:=lkL QP Tryz.f35 A.aq B.aq [1,1,1,1,1,1,1,1,1,1,1,0,1,0,0] (lfS lfc (lfS (lfB (lfS lfc (lfB (lfO L.aq.l5)))) lfc))
def L.aq.l15:LC:=lkL QP Tryz.f35 A.aq B.aq [1,1,1,1,1,1,1,1,1,1,1,1,0,1,0,0,1,0,0,1,1,0,0,1,0,0,1,0,1,0,0] lfc
def L.aq.l14:LC:=lkL QP Tryz.f35 A.aq B.aq [1,1,1,1,1,1,1,1,1,1,1,1,0,1,0,0,1,0,0,1,1,0,0] (lfS lfc (lfS (lfB (lfS lfc (lfS (lfS lfc (lfB (lfO L.aq.l15))) lfc))) lfc))
def L.aq.l13:LC:=lkL QP Tryz.f35 A.aq B.aq [1,1,1,1,1,1,1,1,1,1,1,1,0,1,0,0] (lfS lfc (lfS (lfB (lfS lfc (lfS lfc (lfB (lfO L.aq.l14))))) lfc))
def L.aq:LFn:=lkG QP Tryz.f35 A.aq B.aq (lfS lfc (lfS lfc (lfS lfc (lfS lfc (lfS lfc (lfS lfc (lfS lfc (lfS (lfS lfc (lfB (lfO L.aq.l1))) (lfS lfc (lfS (lfS lfc (lfB (lfO L.aq.l2))) (lfS lfc (lfS (lfS lfc (lfB (lfO L.aq.l4))) (lfS (lfS lfc (lfB (lfO L.aq.l13))) lfc)))))))))))))
theorem E.aq:aV Tryz.prog Tryz.f35=some L.aq:=by kernel_rfl
theorem F.aq:Tryz.prog.funcs[N.aq]? = some Tryz.f35:=Tryz.func35
abbrev N.lA:Nat:=38
def L.lA:LFn:=lkF QP Tryz.f38
theorem E.lA:aV Tryz.prog Tryz.f38=some L.lA:=by kernel_rfl
theorem F.lA:Tryz.prog.funcs[N.lA]? = some Tryz.f38:=Tryz.func38
abbrev N.eD:Nat:=39
def L.eD:LFn:=lkF QP Tryz.f39
theorem E.eD:aV Tryz.prog Tryz.f39=some L.eD:=by kernel_rfl
theorem F.eD:Tryz.prog.funcs[N.eD]? = some Tryz.f39:=Tryz.func39
abbrev N.eG:Nat:=40
def L.eG:LFn:=lkF QP Tryz.f40
theorem E.eG:aV Tryz.prog Tryz.f40=some L.eG:=by kernel_rfl
theorem F.eG:Tryz.prog.funcs[N.eG]? = some Tryz.f40:=Tryz.func40
abbrev N.strings_Fields:Nat:=41
def A.strings_Fields:=lkA Tryz.f41
def B.strings_Fields:=lkB Tryz.f41
abbrev N.gj:Nat:=42
def L.gj:LFn:=lkF QP Tryz.f42
theorem E.gj:aV Tryz.prog Tryz.f42=some L.gj:=by kernel_rfl
theorem F.gj:Tryz.prog.funcs[N.gj]? = some Tryz.f42:=Tryz.func42
abbrev N.bs:Nat:=43
def A.bs:=lkA Tryz.f43
def B.bs:=lkB Tryz.f43
def L.bs.l2:LC:=lkL QP Tryz.f43 A.bs B.bs [1,1,0,1,0,0,1,1,0,1,1,0,1,0,0] lfc
def L.bs.l1:LC:=lkL QP Tryz.f43 A.bs B.bs [1,1,0,1,0,0] (lfS lfc (lfS lfc (lfB (lfS lfc (lfS lfc (lfS (lfS lfc (lfB (lfO L.bs.l2))) lfc))))))
def L.bs:LFn:=lkG QP Tryz.f43 A.bs B.bs (lfS lfc (lfS lfc (lfS (lfS lfc (lfB (lfO L.bs.l1))) lfc)))
theorem E.bs:aV Tryz.prog Tryz.f43=some L.bs:=by kernel_rfl
theorem F.bs:Tryz.prog.funcs[N.bs]? = some Tryz.f43:=Tryz.func43
abbrev N.gn:Nat:=44
def R.gn:List E:=[.un .load (.tmp 2),.un .load (.tmp 3),.un .load (.tmp 4)]

def L.kH:LC:=by apply(fun{b:LC}(_:b=.reg false (p (w [0]) (.box 27 (a 0)) 0 1 (p [] (.alloc 57) 0 2 (p [] (.alloc 3) 0 3 (p [] (.alloc 3) 0 4 z)))))=>b);simp only[sh];rfl
theorem E.kH:eJ Tryz.prog Tryz.f44.ntmps (iB Tryz.f44) (Ar Tryz.f44) false (yL Tryz.f44)=some L.kH:=by kernel_rfl
def L.gX.l1:LC:=by apply(fun{b:LC}(_:b=q [k [26] [(26,j .lss (t 25) (t 24))],u 26 .skip (.exit 0),.block 1 (q [.reg false (l [27,28] [(28,.un (.bM 6) (i 6 (t 23) (t 25)))] [] (.alloc 35) 0 7 (s [] [] (w [7,28]) (.store 35 (a 7) (a 28)) z)),k [29,30,31,32,33,34,35,36,37,5] [(5,o (t 5) (o (h (g 0 (t 7))) (h (g 1 (t 7)))))]]),k [38,25] [(25,o (t 25) (c 1))]])=>b);simp only[sh];rfl
def L.gX:LC:=by apply(fun{b:LC}(_:b=q [.reg false (l [10,11] [] [(11,g 0 (t 1))] (.call ⟨.value (.func 69),#[a 11,.const (.int .i64 0),.const (.int .i64 4)],#[3,3,3]⟩) 4 12 (.loud [] [] (w [12]) none [] false (.call ⟨.value (.func 68),#[a 12,.const (.int .i64 1),.const (.int .i64 0),.const (.int .i64 0)],#[4,57,3,3]⟩) 0 (some 13) false z)),.reg false (.loud [14,15,16,17] [] [(17,j .gtr (h (g 1 (t 1))) (c 0))] none [] false (.call ⟨.value (.func 68),#[a 17,.const (.int .i64 14),.const (.int .i64 0),.const (.int .i64 0)],#[4,57,3,3]⟩) 0 (some 18) false z),k [19,20,21,5] [(5,h (g 1 (t 1)))],q [k [22,23,24,25] [(23,g 1 (t 1)),(24,h (g 1 (t 1))),(25,c 0)],v 0 L.gX.l1],.reg false (.loud [39,40,41,42,43,44,45,46] [] [(46,.ite (j .leq (h (g 1 (t 1))) (c 512)) (j .leq (t 5) (c 4096)) (.con (.bool false)))] none [] false (.call ⟨.value (.func 68),#[a 46,.const (.int .i64 2),.const (.int .i64 0),.const (.int .i64 0)],#[4,57,3,3]⟩) 0 (some 47) false z),.reg false (l [48] [(48,.un (.bM 2) (t 1))] [] (.makeMap 147 none) 147 49 (p (w [48,49]) (.build 149 #[(0,a 48),(1,a 49)]) 149 50 (p (w [50]) (.box 149 (a 50)) 146 51 (.fin [8] [(8,t 51)] [])))),.reg false (.loud [52] [] [(52,t 8)] none [] false (x 70 [52] [146]) 0 (some 53) false z),.reg false (.loud [54] [] [(54,t 8)] none [] false (x 71 [54] [146]) 0 (some 55) false z),.reg false (s [] [] (w [2]) (.store 57 (a 2) (.const (.int .i64 0))) (s [] [] (w [3]) (.store 3 (a 3) (.const (.int .i64 0))) (s [] [] (w [4]) (.store 3 (a 4) (.const (.int .i64 0))) z))),.ret])=>b);simp only[sh];rfl
theorem E.gX:eJ Tryz.prog Tryz.f44.ntmps (iB Tryz.f44) (Ar Tryz.f44) false (Ee Tryz.f44)=some L.gX:=by kernel_rfl
theorem R.wz:Tryz.f44.results.toList.mapM (resE Tryz.prog)=some R.gn:=by kernel_rfl
theorem F.gn:Tryz.prog.funcs[N.gn]? = some Tryz.f44:=Tryz.func44
theorem B.gn:Tryz.f44.body=some (.seq (yL Tryz.f44) (.seq (.region (H9 (HG Tryz.f44)) #[HJ Tryz.f44 0,HJ Tryz.f44 1] false) (Ee Tryz.f44))):=by kernel_rfl
abbrev N.bh:Nat:=45
def A.bh:=lkA Tryz.f45
def B.bh:=lkB Tryz.f45
def L.bh.l3:LC:=lkL QP Tryz.f45 A.bh B.bh [1,1,0,0,1,1,0,0,1,0,1,0,0,1,1,0,0,1,1,0,1,0,0] lfc
def L.bh.l2:LC:=lkL QP Tryz.f45 A.bh B.bh [1,1,0,0,1,1,0,0,1,0,1,0,0] (lfS lfc (lfS lfc (lfS (lfB (lfS lfc (lfS lfc (lfS (lfS lfc (lfB (lfO L.bh.l3))) lfc)))) lfc)))
def L.bh.l4:LC:=lkL QP Tryz.f45 A.bh B.bh [1,1,0,0,1,1,0,0,1,1,0,1,0,0] lfc
def L.bh.l1:LC:=lkL QP Tryz.f45 A.bh B.bh [1,1,0,0] (lfS lfc (lfS lfc (lfS (lfB (lfS lfc (lfS (lfS lfc (lfB (lfO L.bh.l2))) (lfS (lfS lfc (lfB (lfO L.bh.l4))) lfc)))) lfc)))
def L.bh:LFn:=lkG QP Tryz.f45 A.bh B.bh (lfS lfc (lfS lfc (lfB (lfO L.bh.l1))))
theorem E.bh:aV Tryz.prog Tryz.f45=some L.bh:=by kernel_rfl
theorem F.bh:Tryz.prog.funcs[N.bh]? = some Tryz.f45:=Tryz.func45
end
section
set_option maxRecDepth 100000
set_option maxHeartbeats 4000000
abbrev N.aW:Nat:=46
def A.aW:=lkA Tryz.f46
def B.aW:=lkB Tryz.f46
def L.aW.l1:LC:=lkL QP Tryz.f46 A.aW B.aW [0,1,0,0] lfc
def L.aW.l2:LC:=lkL QP Tryz.f46 A.aW B.aW [1,1,0,0] lfc
def L.aW:LFn:=lkG QP Tryz.f46 A.aW B.aW (lfS (lfS lfc (lfB (lfO L.aW.l1))) (lfS lfc (lfB (lfO L.aW.l2))))
theorem E.aW:aV Tryz.prog Tryz.f46=some L.aW:=by kernel_rfl
theorem F.aW:Tryz.prog.funcs[N.aW]? = some Tryz.f46:=Tryz.func46
abbrev N.slices_Contains_int:Nat:=47
def L.slices_Contains_int:LFn:=lkF QP Tryz.f47
theorem E.slices_Contains_int:aV Tryz.prog Tryz.f47=some L.slices_Contains_int:=by kernel_rfl
theorem F.slices_Contains_int:Tryz.prog.funcs[N.slices_Contains_int]? = some Tryz.f47:=Tryz.func47
abbrev N.aE:Nat:=50
def A.aE:=lkA Tryz.f50
def B.aE:=lkB Tryz.f50
def L.aE.l1:LC:=lkL QP Tryz.f50 A.aE B.aE [1,1,0,1,0,0] lfc
def L.aE.l3:LC:=lkL QP Tryz.f50 A.aE B.aE [1,1,1,0,1,0,0,1,0,0,1,1,0,0] lfc
def L.aE.l2:LC:=lkL QP Tryz.f50 A.aE B.aE [1,1,1,0,1,0,0] (lfS lfc (lfS (lfB (lfS lfc (lfS lfc (lfB (lfO L.aE.l3))))) lfc))
def L.aE:LFn:=lkG QP Tryz.f50 A.aE B.aE (lfS lfc (lfS lfc (lfS (lfS lfc (lfB (lfO L.aE.l1))) (lfS (lfS lfc (lfB (lfO L.aE.l2))) lfc))))
theorem E.aE:aV Tryz.prog Tryz.f50=some L.aE:=by kernel_rfl
theorem F.aE:Tryz.prog.funcs[N.aE]? = some Tryz.f50:=Tryz.func50
abbrev N.cy:Nat:=51
def A.cy:=lkA Tryz.f51
def B.cy:=lkB Tryz.f51
def L.cy.l2:LC:=lkL QP Tryz.f51 A.cy B.cy [1,1,0,1,0,0,1,0,0,1,1,0,0] lfc
def L.cy.l1:LC:=lkL QP Tryz.f51 A.cy B.cy [1,1,0,1,0,0] (lfS lfc (lfS (lfB (lfS lfc (lfS lfc (lfB (lfO L.cy.l2))))) lfc))
def L.cy:LFn:=lkG QP Tryz.f51 A.cy B.cy (lfS lfc (lfS lfc (lfS (lfS lfc (lfB (lfO L.cy.l1))) lfc)))
theorem E.cy:aV Tryz.prog Tryz.f51=some L.cy:=by kernel_rfl
theorem F.cy:Tryz.prog.funcs[N.cy]? = some Tryz.f51:=Tryz.func51
abbrev N.cD:Nat:=52
def L.cD:LFn:=lkF QP Tryz.f52
theorem E.cD:aV Tryz.prog Tryz.f52=some L.cD:=by kernel_rfl
theorem F.cD:Tryz.prog.funcs[N.cD]? = some Tryz.f52:=Tryz.func52
abbrev N.bJ:Nat:=53
def A.bJ:=lkA Tryz.f53
def B.bJ:=lkB Tryz.f53
def L.bJ.l2:LC:=lkL QP Tryz.f53 A.bJ B.bJ [1,1,1,1,0,1,0,0,1,0,0,1,1,0,0] lfc
def L.bJ.l1:LC:=lkL QP Tryz.f53 A.bJ B.bJ [1,1,1,1,0,1,0,0] (lfS lfc (lfS (lfB (lfS lfc (lfS lfc (lfB (lfO L.bJ.l2))))) lfc))
def L.bJ:LFn:=lkG QP Tryz.f53 A.bJ B.bJ (lfS lfc (lfS lfc (lfS lfc (lfS lfc (lfS (lfS lfc (lfB (lfO L.bJ.l1))) lfc)))))
theorem E.bJ:aV Tryz.prog Tryz.f53=some L.bJ:=by kernel_rfl
theorem F.bJ:Tryz.prog.funcs[N.bJ]? = some Tryz.f53:=Tryz.func53
abbrev N.fV:Nat:=54
def L.fV:LFn:=lkF QP Tryz.f54
theorem E.fV:aV Tryz.prog Tryz.f54=some L.fV:=by kernel_rfl
theorem F.fV:Tryz.prog.funcs[N.fV]? = some Tryz.f54:=Tryz.func54
abbrev N.aG:Nat:=55
def A.aG:=lkA Tryz.f55
def B.aG:=lkB Tryz.f55
def L.aG.l1:LC:=lkL QP Tryz.f55 A.aG B.aG [1,0,1,1,1,1,1,1,1,1,1,0,1,1,0,1,0,0] lfc
def L.aG:LFn:=lkG QP Tryz.f55 A.aG B.aG (lfS lfc (lfB (lfS lfc (lfK lfc (lfS lfc (lfK lfc (lfS lfc (lfK lfc (lfS lfc (lfK lfc (lfS lfc (lfK (lfS lfc (lfS lfc (lfS (lfS lfc (lfB (lfO L.aG.l1))) lfc))) lfc))))))))))))
theorem E.aG:aV Tryz.prog Tryz.f55=some L.aG:=by kernel_rfl
theorem F.aG:Tryz.prog.funcs[N.aG]? = some Tryz.f55:=Tryz.func55
abbrev N.eg:Nat:=56
def L.eg:LFn:=lkF QP Tryz.f56
theorem E.eg:aV Tryz.prog Tryz.f56=some L.eg:=by kernel_rfl
theorem F.eg:Tryz.prog.funcs[N.eg]? = some Tryz.f56:=Tryz.func56
abbrev N.bC:Nat:=57
def A.bC:=lkA Tryz.f57
def B.bC:=lkB Tryz.f57
def L.bC.l1:LC:=lkL QP Tryz.f57 A.bC B.bC [1,1,0,1,0,0] lfc
def L.bC.l2:LC:=lkL QP Tryz.f57 A.bC B.bC [1,1,1,1,0,1,0,0] lfc
def L.bC:LFn:=lkG QP Tryz.f57 A.bC B.bC (lfS lfc (lfS lfc (lfS (lfS lfc (lfB (lfO L.bC.l1))) (lfS lfc (lfS (lfS lfc (lfB (lfO L.bC.l2))) lfc)))))
theorem E.bC:aV Tryz.prog Tryz.f57=some L.bC:=by kernel_rfl
theorem F.bC:Tryz.prog.funcs[N.bC]? = some Tryz.f57:=Tryz.func57
abbrev N.cf:Nat:=58
def L.cf:LFn:=lkF QP Tryz.f58
theorem E.cf:aV Tryz.prog Tryz.f58=some L.cf:=by kernel_rfl
theorem F.cf:Tryz.prog.funcs[N.cf]? = some Tryz.f58:=Tryz.func58
abbrev N.dt:Nat:=59
def L.dt:LFn:=lkF QP Tryz.f59
theorem E.dt:aV Tryz.prog Tryz.f59=some L.dt:=by kernel_rfl
theorem F.dt:Tryz.prog.funcs[N.dt]? = some Tryz.f59:=Tryz.func59
end
section
set_option maxRecDepth 100000
set_option maxHeartbeats 4000000
abbrev N.dE:Nat:=63
def A.dE:=lkA Tryz.f63
def B.dE:=lkB Tryz.f63
def L.dE:LFn:=lkG QP Tryz.f63 A.dE B.dE (lfS lfc (lfS lfc (lfS lfc (lfS (lfB (lfS lfc (lfK lfc (lfS lfc (lfK lfc (lfS lfc lfc)))))) lfc))))
theorem E.dE:aV Tryz.prog Tryz.f63=some L.dE:=by kernel_rfl
theorem F.dE:Tryz.prog.funcs[N.dE]? = some Tryz.f63:=Tryz.func63
end
section
set_option maxRecDepth 100000
set_option maxHeartbeats 4000000
abbrev N.aH:Nat:=64
def A.aH:=lkA Tryz.f64
def B.aH:=lkB Tryz.f64
def L.aH.l1:LC:=lkL QP Tryz.f64 A.aH B.aH [1,1,1,1,1,1,1,0,1,0,0] lfc
def L.aH.l2:LC:=lkL QP Tryz.f64 A.aH B.aH [1,1,1,1,1,1,1,1,1,1,1,1,0,1,0,0] lfc
def L.aH:LFn:=lkG QP Tryz.f64 A.aH B.aH (lfS lfc (lfS lfc (lfS lfc (lfS lfc (lfS lfc (lfS lfc (lfS lfc (lfS (lfS lfc (lfB (lfO L.aH.l1))) (lfS lfc (lfS lfc (lfS lfc (lfS lfc (lfS (lfS lfc (lfB (lfO L.aH.l2))) lfc)))))))))))))
theorem E.aH:aV Tryz.prog Tryz.f64=some L.aH:=by kernel_rfl
theorem F.aH:Tryz.prog.funcs[N.aH]? = some Tryz.f64:=Tryz.func64
abbrev N.dm:Nat:=67
def L.dm:LFn:=by apply(fun{b:LFn}(_:b=⟨[],q [.reg false (p [] (.call ⟨.builtin .recover,#[],#[]⟩) 20 6 z),.block 0 (q [.reg false (p (w [6]) (.binOp .eql 20 (a 6) (.const .nilIface) 20) 4 8 z),u 8 (.reg false (.fin [3] [] [t 6])) (q [.reg false (p (w [6]) (.typeAssert (a 6) 20 144 true) 0 9 (.fin [10,11] [(10,.un (.ext 1) (t 9)),(11,.un (.ext 0) (t 9))] [])),u 10 (q [.reg false (p [] (.alloc 144) 0 4 (s [] [] (w [4,11]) (.store 144 (a 4) (a 11)) z)),.reg true (s [12,13,14,15,16,17] [(15,g 1 (t 4)),(17,g 2 (t 4))] [(0,t 0),(13,g 0 (t 4))] (.store 57 (a 0) (a 13)) (s [] [] (w [1,15]) (.store 3 (a 1) (a 15)) (.loud [] [] (w [2,17]) none [] true (.store 3 (a 2) (a 17)) 0 none false z)))]) (q [k [5] [(5,t 6)],.reg false (s [7] [] [(7,t 5)] (.panic (a 7)) z)])])])]⟩)=>b);simp only[sh];rfl
theorem F.dm:Tryz.prog.funcs[N.dm]? = some Tryz.f67:=Tryz.func67
theorem Q.dm:Tryz.f67.body=some (.seq (.region (H9 (yL Tryz.f67)) #[IC Tryz.f67 0] false) (HN Tryz.f67)):=by kernel_rfl
theorem E.oP:eJ Tryz.prog Tryz.f67.ntmps (iB Tryz.f67) (Ar Tryz.f67) false (HN Tryz.f67)=some L.dm.body.tail:=by kernel_rfl
abbrev N.fI:Nat:=68
def L.fI:LFn:=lkF QP Tryz.f68
theorem E.fI:aV Tryz.prog Tryz.f68=some L.fI:=by kernel_rfl
theorem F.fI:Tryz.prog.funcs[N.fI]? = some Tryz.f68:=Tryz.func68
abbrev N.ft:Nat:=69
def L.ft:LFn:=lkF QP Tryz.f69
theorem E.ft:aV Tryz.prog Tryz.f69=some L.ft:=by kernel_rfl
theorem F.ft:Tryz.prog.funcs[N.ft]? = some Tryz.f69:=Tryz.func69
abbrev N.aA:Nat:=70
def A.aA:=lkA Tryz.f70
def B.aA:=lkB Tryz.f70
def L.aA.l2:LC:=lkL QP Tryz.f70 A.aA B.aA [1,0,0,1,1,0,0,1,0,1,0,0] lfc
def L.aA.l3:LC:=lkL QP Tryz.f70 A.aA B.aA [1,0,0,1,1,0,0,1,1,0,1,0,0] lfc
def L.aA.l4:LC:=lkL QP Tryz.f70 A.aA B.aA [1,0,0,1,1,0,0,1,1,1,1,1,1,0,0] lfc
def L.aA.l1:LC:=lkL QP Tryz.f70 A.aA B.aA [1,0,0] (lfS lfc (lfS lfc (lfS (lfB (lfS lfc (lfS (lfS lfc (lfB (lfO L.aA.l2))) (lfS (lfS lfc (lfB (lfO L.aA.l3))) (lfS lfc (lfS lfc (lfS lfc (lfB (lfO L.aA.l4))))))))) lfc)))
def L.aA:LFn:=lkG QP Tryz.f70 A.aA B.aA (lfS lfc (lfB (lfO L.aA.l1)))
theorem E.aA:aV Tryz.prog Tryz.f70=some L.aA:=by kernel_rfl
theorem F.aA:Tryz.prog.funcs[N.aA]? = some Tryz.f70:=Tryz.func70
abbrev N.au:Nat:=71
def A.au:=lkA Tryz.f71
def B.au:=lkB Tryz.f71
def L.au.l1:LC:=lkL QP Tryz.f71 A.au B.au [1,1,1,0,1,0,0] lfc
def L.au.l4:LC:=lkL QP Tryz.f71 A.au B.au [1,1,1,1,1,1,1,0,0,1,1,0,0,1,0,1,0,0,1,1,0,0,1,1,0,1,0,0] lfc
def L.au.l5:LC:=lkL QP Tryz.f71 A.au B.au [1,1,1,1,1,1,1,0,0,1,1,0,0,1,0,1,0,0,1,1,0,0,1,1,1,1,1,0,0] lfc
def L.au.l3:LC:=lkL QP Tryz.f71 A.au B.au [1,1,1,1,1,1,1,0,0,1,1,0,0,1,0,1,0,0] (lfS lfc (lfS lfc (lfS (lfB (lfS lfc (lfS lfc (lfS (lfS lfc (lfB (lfO L.au.l4))) (lfS lfc (lfS lfc (lfB (lfO L.au.l5)))))))) lfc)))
def L.au.l7:LC:=lkL QP Tryz.f71 A.au B.au [1,1,1,1,1,1,1,0,0,1,1,0,0,1,1,0,1,0,0,1,1,0,0,1,1,0,0] lfc
def L.au.l6:LC:=lkL QP Tryz.f71 A.au B.au [1,1,1,1,1,1,1,0,0,1,1,0,0,1,1,0,1,0,0] (lfS lfc (lfS lfc (lfS (lfB (lfS lfc (lfS lfc (lfB (lfO L.au.l7))))) lfc)))
def L.au.l8:LC:=lkL QP Tryz.f71 A.au B.au [1,1,1,1,1,1,1,0,0,1,1,0,0,1,1,1,1,0,0] lfc
def L.au.l2:LC:=lkL QP Tryz.f71 A.au B.au [1,1,1,1,1,1,1,0,0] (lfS lfc (lfS lfc (lfS (lfB (lfS lfc (lfS (lfS lfc (lfB (lfO L.au.l3))) (lfS (lfS lfc (lfB (lfO L.au.l6))) (lfS lfc (lfB (lfO L.au.l8))))))) lfc)))
def L.au:LFn:=lkG QP Tryz.f71 A.au B.au (lfS lfc (lfS lfc (lfS lfc (lfS (lfS lfc (lfB (lfO L.au.l1))) (lfS lfc (lfS lfc (lfS lfc (lfB (lfO L.au.l2)))))))))
theorem E.au:aV Tryz.prog Tryz.f71=some L.au:=by kernel_rfl
theorem F.au:Tryz.prog.funcs[N.au]? = some Tryz.f71:=Tryz.func71
abbrev N.fP:Nat:=72
def L.fP:LFn:=lkF QP Tryz.f72
theorem E.fP:aV Tryz.prog Tryz.f72=some L.fP:=by kernel_rfl
theorem F.fP:Tryz.prog.funcs[N.fP]? = some Tryz.f72:=Tryz.func72
abbrev N.slices_Index_int:Nat:=73
def A.slices_Index_int:=lkA Tryz.f73
def B.slices_Index_int:=lkB Tryz.f73
def L.slices_Index_int.l1:LC:=lkL QP Tryz.f73 A.slices_Index_int B.slices_Index_int [1,0,1,0,0] lfc
def L.slices_Index_int:LFn:=lkG QP Tryz.f73 A.slices_Index_int B.slices_Index_int (lfS lfc (lfS (lfS lfc (lfB (lfO L.slices_Index_int.l1))) lfc))
theorem E.slices_Index_int:aV Tryz.prog Tryz.f73=some L.slices_Index_int:=by kernel_rfl
theorem F.slices_Index_int:Tryz.prog.funcs[N.slices_Index_int]? = some Tryz.f73:=Tryz.func73
abbrev N.dF:Nat:=88
def L.dF:LFn:=lkF QP Tryz.f88
theorem E.dF:aV Tryz.prog Tryz.f88=some L.dF:=by kernel_rfl
theorem F.dF:Tryz.prog.funcs[N.dF]? = some Tryz.f88:=Tryz.func88
abbrev N.dP:Nat:=89
def L.dP:LFn:=lkF QP Tryz.f89
theorem E.dP:aV Tryz.prog Tryz.f89=some L.dP:=by kernel_rfl
theorem F.dP:Tryz.prog.funcs[N.dP]? = some Tryz.f89:=Tryz.func89
abbrev N.dy:Nat:=90
def L.dy:LFn:=lkF QP Tryz.f90
theorem E.dy:aV Tryz.prog Tryz.f90=some L.dy:=by kernel_rfl
theorem F.dy:Tryz.prog.funcs[N.dy]? = some Tryz.f90:=Tryz.func90
end
section
set_option maxRecDepth 100000
set_option maxHeartbeats 4000000
abbrev N.bg:Nat:=91
def A.bg:=lkA Tryz.f91
def B.bg:=lkB Tryz.f91
def L.bg.l3:LC:=lkL QP Tryz.f91 A.bg B.bg [1,1,0,1,0,0,1,0,0,1,0,1,0,0,1,0,0,1,0,1,0,0] lfc
def L.bg.l2:LC:=lkL QP Tryz.f91 A.bg B.bg [1,1,0,1,0,0,1,0,0,1,0,1,0,0] (lfS lfc (lfS (lfB (lfS lfc (lfS (lfS lfc (lfB (lfO L.bg.l3))) lfc))) lfc))
def L.bg.l4:LC:=lkL QP Tryz.f91 A.bg B.bg [1,1,0,1,0,0,1,0,0,1,1,0,1,0,0] lfc
def L.bg.l1:LC:=lkL QP Tryz.f91 A.bg B.bg [1,1,0,1,0,0] (lfS lfc (lfS (lfB (lfS lfc (lfS (lfS lfc (lfB (lfO L.bg.l2))) (lfS (lfS lfc (lfB (lfO L.bg.l4))) lfc)))) lfc))
def L.bg:LFn:=lkG QP Tryz.f91 A.bg B.bg (lfS lfc (lfS lfc (lfS (lfS lfc (lfB (lfO L.bg.l1))) lfc)))
theorem E.bg:aV Tryz.prog Tryz.f91=some L.bg:=by kernel_rfl
theorem F.bg:Tryz.prog.funcs[N.bg]? = some Tryz.f91:=Tryz.func91
abbrev N.dS:Nat:=99
def L.dS:LFn:=lkF QP Tryz.f99
theorem E.dS:aV Tryz.prog Tryz.f99=some L.dS:=by kernel_rfl
theorem F.dS:Tryz.prog.funcs[N.dS]? = some Tryz.f99:=Tryz.func99
abbrev N.ef:Nat:=100
def L.ef:LFn:=lkF QP Tryz.f100
theorem E.ef:aV Tryz.prog Tryz.f100=some L.ef:=by kernel_rfl
theorem F.ef:Tryz.prog.funcs[N.ef]? = some Tryz.f100:=Tryz.func100
abbrev N.bo:Nat:=101
def L.bo:LFn:=lkF QP Tryz.f101
theorem E.bo:aV Tryz.prog Tryz.f101=some L.bo:=by kernel_rfl
theorem F.bo:Tryz.prog.funcs[N.bo]? = some Tryz.f101:=Tryz.func101
abbrev N.bu:Nat:=102
def L.bu:LFn:=lkF QP Tryz.f102
theorem E.bu:aV Tryz.prog Tryz.f102=some L.bu:=by kernel_rfl
theorem F.bu:Tryz.prog.funcs[N.bu]? = some Tryz.f102:=Tryz.func102
abbrev N.cT:Nat:=103
def L.cT:LFn:=lkF QP Tryz.f103
theorem E.cT:aV Tryz.prog Tryz.f103=some L.cT:=by kernel_rfl
theorem F.cT:Tryz.prog.funcs[N.cT]? = some Tryz.f103:=Tryz.func103
abbrev N.gA:Nat:=104
def L.gA:LFn:=lkF QP Tryz.f104
theorem E.gA:aV Tryz.prog Tryz.f104=some L.gA:=by kernel_rfl
theorem F.gA:Tryz.prog.funcs[N.gA]? = some Tryz.f104:=Tryz.func104
abbrev N.da:Nat:=105
def L.da:LFn:=lkF QP Tryz.f105
theorem E.da:aV Tryz.prog Tryz.f105=some L.da:=by kernel_rfl
theorem F.da:Tryz.prog.funcs[N.da]? = some Tryz.f105:=Tryz.func105
abbrev N.cV:Nat:=106
def L.cV:LFn:=lkF QP Tryz.f106
theorem E.cV:aV Tryz.prog Tryz.f106=some L.cV:=by kernel_rfl
theorem F.cV:Tryz.prog.funcs[N.cV]? = some Tryz.f106:=Tryz.func106
abbrev N.cB:Nat:=107
def L.cB:LFn:=lkF QP Tryz.f107
theorem E.cB:aV Tryz.prog Tryz.f107=some L.cB:=by kernel_rfl
theorem F.cB:Tryz.prog.funcs[N.cB]? = some Tryz.f107:=Tryz.func107
end
section
set_option maxRecDepth 100000
set_option maxHeartbeats 4000000
abbrev N.bc:Nat:=108
def A.bc:=lkA Tryz.f108
def B.bc:=lkB Tryz.f108
def L.bc:LFn:=lkG QP Tryz.f108 A.bc B.bc (lfS lfc (lfS lfc (lfS lfc lfc)))
theorem E.bc:aV Tryz.prog Tryz.f108=some L.bc:=by kernel_rfl
theorem F.bc:Tryz.prog.funcs[N.bc]? = some Tryz.f108:=Tryz.func108
abbrev N.dx:Nat:=109
def L.dx:LFn:=lkF QP Tryz.f109
theorem E.dx:aV Tryz.prog Tryz.f109=some L.dx:=by kernel_rfl
theorem F.dx:Tryz.prog.funcs[N.dx]? = some Tryz.f109:=Tryz.func109
abbrev N.dd:Nat:=110
def L.dd:LFn:=lkF QP Tryz.f110
theorem E.dd:aV Tryz.prog Tryz.f110=some L.dd:=by kernel_rfl
theorem F.dd:Tryz.prog.funcs[N.dd]? = some Tryz.f110:=Tryz.func110
abbrev N.dT:Nat:=111
def L.dT:LFn:=lkF QP Tryz.f111
theorem E.dT:aV Tryz.prog Tryz.f111=some L.dT:=by kernel_rfl
theorem F.dT:Tryz.prog.funcs[N.dT]? = some Tryz.f111:=Tryz.func111
abbrev N.cU:Nat:=112
def L.cU:LFn:=lkF QP Tryz.f112
theorem E.cU:aV Tryz.prog Tryz.f112=some L.cU:=by kernel_rfl
theorem F.cU:Tryz.prog.funcs[N.cU]? = some Tryz.f112:=Tryz.func112
abbrev N.dc:Nat:=113
def L.dc:LFn:=lkF QP Tryz.f113
theorem E.dc:aV Tryz.prog Tryz.f113=some L.dc:=by kernel_rfl
theorem F.dc:Tryz.prog.funcs[N.dc]? = some Tryz.f113:=Tryz.func113
abbrev N.aX:Nat:=115
def A.aX:=lkA Tryz.f115
def B.aX:=lkB Tryz.f115
def L.aX.l1:LC:=lkL QP Tryz.f115 A.aX B.aX [0,1,0,0] lfc
def L.aX.l2:LC:=lkL QP Tryz.f115 A.aX B.aX [1,1,0,0] lfc
def L.aX:LFn:=lkG QP Tryz.f115 A.aX B.aX (lfS (lfS lfc (lfB (lfO L.aX.l1))) (lfS lfc (lfB (lfO L.aX.l2))))
theorem E.aX:aV Tryz.prog Tryz.f115=some L.aX:=by kernel_rfl
theorem F.aX:Tryz.prog.funcs[N.aX]? = some Tryz.f115:=Tryz.func115
abbrev N.eI:Nat:=116
def L.eI:LFn:=lkF QP Tryz.f116
theorem E.eI:aV Tryz.prog Tryz.f116=some L.eI:=by kernel_rfl
theorem F.eI:Tryz.prog.funcs[N.eI]? = some Tryz.f116:=Tryz.func116
abbrev N.fw:Nat:=117
def L.fw:LFn:=lkF QP Tryz.f117
theorem E.fw:aV Tryz.prog Tryz.f117=some L.fw:=by kernel_rfl
theorem F.fw:Tryz.prog.funcs[N.fw]? = some Tryz.f117:=Tryz.func117
abbrev N.e9:Nat:=118
def A.e9:=lkA Tryz.f118
def B.e9:=lkB Tryz.f118
def L.e9.l1:LC:=lkL QP Tryz.f118 A.e9 B.e9 [1,1,0,1,0,0] lfc
def L.e9:LFn:=lkG QP Tryz.f118 A.e9 B.e9 (lfS lfc (lfS lfc (lfS (lfS lfc (lfB (lfO L.e9.l1))) lfc)))
theorem E.e9:aV Tryz.prog Tryz.f118=some L.e9:=by kernel_rfl
theorem F.e9:Tryz.prog.funcs[N.e9]? = some Tryz.f118:=Tryz.func118
abbrev N.gg:Nat:=119
def L.gg:LFn:=lkF QP Tryz.f119
theorem E.gg:aV Tryz.prog Tryz.f119=some L.gg:=by kernel_rfl
theorem F.gg:Tryz.prog.funcs[N.gg]? = some Tryz.f119:=Tryz.func119
abbrev N.fS:Nat:=120
def L.fS:LFn:=by apply(fun{b:LFn}(_:b=⟨[t 2],q [k [2] [(2,.con (.slice none 0 0))],.reg false (l [6,7] [] [(7,h (t 0)),(7,h (t 0))] (.makeSlice 120 (a 7) (a 7)) 120 8 (p [] (.alloc 120) 0 3 (s [] [] (w [3,8]) (.store 120 (a 3) (a 8)) z))),q [.reg false (l [9] [] [(9,t 0)] (x 144 [9] [120]) 216 10 z),.block 0 (.rangef (t 10) [11,12] (q [k [4] [(4,t 11)],k [5] [(5,t 12)]]) (.block 1 (.reg true (l [13,14,15,16,17,18,19] [(13,d (t 3)),(14,t 5),(18,d (i 1 (d (t 3)) (t 5)))] [(19,t 4)] (.buildSlice 22 1 #[(0,a 19)]) 22 20 (p (w [18,20]) (.call ⟨.builtin .append,#[a 18,a 20],#[22,22]⟩) 22 21 (.loud [22] [] [(22,i 1 (t 13) (t 14)),(21,t 21)] none [] true (.store 22 (a 22) (a 21)) 0 none false z))))))],k [23,2] [(2,d (t 3))],.ret]⟩)=>b);simp only[sh];rfl
theorem E.fS:aV Tryz.prog Tryz.f120=some L.fS:=by kernel_rfl
theorem F.fS:Tryz.prog.funcs[N.fS]? = some Tryz.f120:=Tryz.func120
end
section
set_option maxRecDepth 100000
set_option maxHeartbeats 4000000
abbrev N.bn:Nat:=121
def A.bn:=lkA Tryz.f121
def B.bn:=lkB Tryz.f121
def L.bn.l1:LC:=lkL QP Tryz.f121 A.bn B.bn [1,1,1,1,0,1,0,0] lfc
def L.bn.l2:LC:=lkL QP Tryz.f121 A.bn B.bn [1,1,1,1,1,0,1,0,0] lfc
def L.bn.l5:LC:=lkL QP Tryz.f121 A.bn B.bn [1,1,1,1,1,1,1,0,1,0,0,1,0,1,1,0,0,1,1,0,0,1,1,0,1,0,0] lfc
def L.bn.l4:LC:=lkL QP Tryz.f121 A.bn B.bn [1,1,1,1,1,1,1,0,1,0,0,1,0,1,1,0,0] (lfS lfc (lfS lfc (lfS (lfB (lfS lfc (lfS lfc (lfS (lfS lfc (lfB (lfO L.bn.l5))) lfc)))) lfc)))
def L.bn.l3:LC:=lkL QP Tryz.f121 A.bn B.bn [1,1,1,1,1,1,1,0,1,0,0] (lfS lfc (lfB (lfS lfc (lfS lfc (lfB (lfO L.bn.l4))))))
def L.bn:LFn:=lkG QP Tryz.f121 A.bn B.bn (lfS lfc (lfS lfc (lfS lfc (lfS lfc (lfS (lfS lfc (lfB (lfO L.bn.l1))) (lfS (lfS lfc (lfB (lfO L.bn.l2))) (lfS lfc (lfS (lfS lfc (lfB (lfO L.bn.l3))) lfc))))))))
theorem E.bn:aV Tryz.prog Tryz.f121=some L.bn:=by kernel_rfl
theorem F.bn:Tryz.prog.funcs[N.bn]? = some Tryz.f121:=Tryz.func121
abbrev N.bj:Nat:=122
def L.bj:LFn:=lkF QP Tryz.f122
theorem E.bj:aV Tryz.prog Tryz.f122=some L.bj:=by kernel_rfl
theorem F.bj:Tryz.prog.funcs[N.bj]? = some Tryz.f122:=Tryz.func122
abbrev N.bR:Nat:=123
def A.bR:=lkA Tryz.f123
def B.bR:=lkB Tryz.f123
def L.bR.l1:LC:=lkL QP Tryz.f123 A.bR B.bR [1,1,1,0,1,0,0] lfc
def L.bR:LFn:=lkG QP Tryz.f123 A.bR B.bR (lfS lfc (lfS lfc (lfS lfc (lfS (lfS lfc (lfB (lfO L.bR.l1))) lfc))))
theorem E.bR:aV Tryz.prog Tryz.f123=some L.bR:=by kernel_rfl
theorem F.bR:Tryz.prog.funcs[N.bR]? = some Tryz.f123:=Tryz.func123
abbrev N.dJ:Nat:=124
def L.dJ:LFn:=lkF QP Tryz.f124
theorem E.dJ:aV Tryz.prog Tryz.f124=some L.dJ:=by kernel_rfl
theorem F.dJ:Tryz.prog.funcs[N.dJ]? = some Tryz.f124:=Tryz.func124
abbrev N.bz:Nat:=129
def A.bz:=lkA Tryz.f129
def B.bz:=lkB Tryz.f129
def L.bz.l2:LC:=lkL QP Tryz.f129 A.bz B.bz [1,0,1,0,0,1,1,0,0,1,1,0,0] lfc
def L.bz.l1:LC:=lkL QP Tryz.f129 A.bz B.bz [1,0,1,0,0] (lfS lfc (lfS lfc (lfS (lfB (lfS lfc (lfS lfc (lfB (lfO L.bz.l2))))) lfc)))
def L.bz:LFn:=lkG QP Tryz.f129 A.bz B.bz (lfS lfc (lfS (lfS lfc (lfB (lfO L.bz.l1))) lfc))
theorem E.bz:aV Tryz.prog Tryz.f129=some L.bz:=by kernel_rfl
theorem F.bz:Tryz.prog.funcs[N.bz]? = some Tryz.f129:=Tryz.func129
abbrev N.cJ:Nat:=130
def L.cJ:LFn:=lkF QP Tryz.f130
theorem E.cJ:aV Tryz.prog Tryz.f130=some L.cJ:=by kernel_rfl
theorem F.cJ:Tryz.prog.funcs[N.cJ]? = some Tryz.f130:=Tryz.func130
abbrev N.cK:Nat:=131
def L.cK:LFn:=lkF QP Tryz.f131
theorem E.cK:aV Tryz.prog Tryz.f131=some L.cK:=by kernel_rfl
theorem F.cK:Tryz.prog.funcs[N.cK]? = some Tryz.f131:=Tryz.func131
abbrev N.bE:Nat:=132
def A.bE:=lkA Tryz.f132
def B.bE:=lkB Tryz.f132
def L.bE:LFn:=lkG QP Tryz.f132 A.bE B.bE (lfS lfc (lfS lfc lfc))
theorem E.bE:aV Tryz.prog Tryz.f132=some L.bE:=by kernel_rfl
theorem F.bE:Tryz.prog.funcs[N.bE]? = some Tryz.f132:=Tryz.func132
end
section
set_option maxRecDepth 100000
set_option maxHeartbeats 4000000
abbrev N.eU:Nat:=133
theorem F.eU:Tryz.prog.funcs[N.eU]? = some Tryz.f133:=Tryz.func133
end
section
set_option maxRecDepth 100000
set_option maxHeartbeats 4000000
abbrev N.bG:Nat:=134
def A.bG:=lkA Tryz.f134
def B.bG:=lkB Tryz.f134
def L.bG:LFn:=lkG QP Tryz.f134 A.bG B.bG (lfS lfc (lfS lfc (lfS lfc (lfS lfc lfc))))
theorem E.bG:aV Tryz.prog Tryz.f134=some L.bG:=by kernel_rfl
theorem F.bG:Tryz.prog.funcs[N.bG]? = some Tryz.f134:=Tryz.func134
abbrev N.bF:Nat:=135
def A.bF:=lkA Tryz.f135
def B.bF:=lkB Tryz.f135
def L.bF:LFn:=lkG QP Tryz.f135 A.bF B.bF (lfS lfc (lfS lfc lfc))
theorem E.bF:aV Tryz.prog Tryz.f135=some L.bF:=by kernel_rfl
theorem F.bF:Tryz.prog.funcs[N.bF]? = some Tryz.f135:=Tryz.func135
abbrev N.dH:Nat:=138
def L.dH:LFn:=lkF QP Tryz.f138
theorem E.dH:aV Tryz.prog Tryz.f138=some L.dH:=by kernel_rfl
theorem F.dH:Tryz.prog.funcs[N.dH]? = some Tryz.f138:=Tryz.func138
abbrev N.dI:Nat:=139
def L.dI:LFn:=lkF QP Tryz.f139
theorem E.dI:aV Tryz.prog Tryz.f139=some L.dI:=by kernel_rfl
theorem F.dI:Tryz.prog.funcs[N.dI]? = some Tryz.f139:=Tryz.func139
abbrev N.dM:Nat:=140
def A.dM:=lkA Tryz.f140
def B.dM:=lkB Tryz.f140
def L.dM.l1:LC:=lkL QP Tryz.f140 A.dM B.dM [1,1,0,1,0,0] lfc
def L.dM:LFn:=lkG QP Tryz.f140 A.dM B.dM (lfS lfc (lfS lfc (lfS (lfS lfc (lfB (lfO L.dM.l1))) lfc)))
theorem E.dM:aV Tryz.prog Tryz.f140=some L.dM:=by kernel_rfl
theorem F.dM:Tryz.prog.funcs[N.dM]? = some Tryz.f140:=Tryz.func140
abbrev N.dv:Nat:=141
def A.dv:=lkA Tryz.f141
def B.dv:=lkB Tryz.f141
def L.dv.l1:LC:=lkL QP Tryz.f141 A.dv B.dv [1,1,0,1,0,0] lfc
def L.dv:LFn:=lkG QP Tryz.f141 A.dv B.dv (lfS lfc (lfS lfc (lfS (lfS lfc (lfB (lfO L.dv.l1))) lfc)))
theorem E.dv:aV Tryz.prog Tryz.f141=some L.dv:=by kernel_rfl
theorem F.dv:Tryz.prog.funcs[N.dv]? = some Tryz.f141:=Tryz.func141
abbrev N.bI:Nat:=142
def A.bI:=lkA Tryz.f142
def B.bI:=lkB Tryz.f142
def L.bI.l1:LC:=lkL QP Tryz.f142 A.bI B.bI [1,0,1,0,0] lfc
def L.bI:LFn:=lkG QP Tryz.f142 A.bI B.bI (lfS lfc (lfS (lfS lfc (lfB (lfO L.bI.l1))) lfc))
theorem E.bI:aV Tryz.prog Tryz.f142=some L.bI:=by kernel_rfl
theorem F.bI:Tryz.prog.funcs[N.bI]? = some Tryz.f142:=Tryz.func142
abbrev N.gi:Nat:=144
def L.gi:LFn:=lkF QP Tryz.f144
theorem E.gi:aV Tryz.prog Tryz.f144=some L.gi:=by kernel_rfl
theorem F.gi:Tryz.prog.funcs[N.gi]? = some Tryz.f144:=Tryz.func144
abbrev N.cL:Nat:=145
def A.cL:=lkA Tryz.f145
def B.cL:=lkB Tryz.f145
def L.cL.l1:LC:=lkL QP Tryz.f145 A.cL B.cL [1,1,0,0,0] lfc
def L.cL:LFn:=lkG QP Tryz.f145 A.cL B.cL (lfS lfc (lfS lfc (lfS (lfB (lfO L.cL.l1)) lfc)))
theorem E.cL:aV Tryz.prog Tryz.f145=some L.cL:=by kernel_rfl
theorem F.cL:Tryz.prog.funcs[N.cL]? = some Tryz.f145:=Tryz.func145
abbrev N.du:Nat:=146
def L.du:LFn:=lkF QP Tryz.f146
theorem E.du:aV Tryz.prog Tryz.f146=some L.du:=by kernel_rfl
theorem F.du:Tryz.prog.funcs[N.du]? = some Tryz.f146:=Tryz.func146
abbrev N.bw:Nat:=150
def A.bw:=lkA Tryz.f150
def B.bw:=lkB Tryz.f150
def L.bw.l2:LC:=lkL QP Tryz.f150 A.bw B.bw [1,0,0,1,1,0,0,1,1,0,0] lfc
def L.bw.l1:LC:=lkL QP Tryz.f150 A.bw B.bw [1,0,0] (lfS lfc (lfS lfc (lfS (lfB (lfS lfc (lfS lfc (lfB (lfO L.bw.l2))))) lfc)))
def L.bw:LFn:=lkG QP Tryz.f150 A.bw B.bw (lfS lfc (lfB (lfO L.bw.l1)))
theorem E.bw:aV Tryz.prog Tryz.f150=some L.bw:=by kernel_rfl
theorem F.bw:Tryz.prog.funcs[N.bw]? = some Tryz.f150:=Tryz.func150
end
end Go.Proofs.YtnfiilgdjpdlkaaGreatDoor
namespace Go.Proofs
open Go.Shelf
def Tryz.z7:Go.Shelf.Ren:=⟨fun | 189=>148 | 125=>152 | 257=>151 | 128=>162 | 129=>163 | 294=>153 | 295=>154 | 296=>155 | 297=>156 | 298=>157 | 299=>158 | 216=>159 | 300=>160 | 301=>161 | 328=>164 | 329=>165 | 330=>166 | 331=>167 | 332=>168 | 215=>169 | 343=>170 | n=>n,fun | 28=>22 | 3=>3 | 46=>76 | 0=>0 | 51=>151 | 53=>74 | 4=>4 | 183=>225 | 182=>224 | 131=>167 | 5=>5 | 9=>9 | 218=>231 | 222=>235 | 228=>237 | 229=>182 | n=>n,fun | n=>n⟩
theorem Tryz.CB:Go.Proofs.Lays.n189 Tryz.prog Tryz.z7:={
 mixed:=by kernel_rfl
 f125:=Tryz.func152.trans (congrArg some Ya)
 f128:=Tryz.func162.trans (congrArg some Ya)
 f129:=Tryz.func163.trans (congrArg some Ya)
 f189:=Tryz.func148.trans (congrArg some Ya)
 f215:=Tryz.func169.trans (congrArg some Ya)
 f216:=Tryz.func159.trans (congrArg some Ya)
 f257:=Tryz.func151.trans (congrArg some Ya)
 f294:=Tryz.func153.trans (congrArg some Ya)
 f295:=Tryz.func154.trans (congrArg some Ya)
 f296:=Tryz.func155.trans (congrArg some Ya)
 f297:=Tryz.func156.trans (congrArg some Ya)
 f298:=Tryz.func157.trans (congrArg some Ya)
 f299:=Tryz.func158.trans (congrArg some Ya)
 f300:=Tryz.func160.trans (congrArg some Ya)
 f301:=Tryz.func161.trans (congrArg some Ya)
 f328:=Tryz.func164.trans (congrArg some Ya)
 f329:=Tryz.func165.trans (congrArg some Ya)
 f330:=Tryz.func166.trans (congrArg some Ya)
 f331:=Tryz.func167.trans (congrArg some Ya)
 f332:=Tryz.func168.trans (congrArg some Ya)
 f343:=Tryz.func170.trans (congrArg some Ya)
 t0:=Tryz.underlying0
 a0:=Tryz.isAgg0
 z0:=Tryz.sizeOf0
 v0:=Tryz.zeroValue0
 t3:=Tryz.underlying3
 a3:=Tryz.isAgg3
 z3:=Tryz.sizeOf3
 v3:=Tryz.zeroValue3
 t4:=Tryz.underlying4
 a4:=Tryz.isAgg4
 z4:=Tryz.sizeOf4
 v4:=Tryz.zeroValue4
 t5:=Tryz.underlying5
 a5:=Tryz.isAgg5
 z5:=Tryz.sizeOf5
 v5:=Tryz.zeroValue5
 t9:=Tryz.underlying9
 a9:=Tryz.isAgg9
 z9:=Tryz.sizeOf9
 v9:=Tryz.zeroValue9
 t28:=Tryz.underlying22
 a28:=Tryz.isAgg22
 z28:=Tryz.sizeOf22
 v28:=Tryz.zeroValue22
 t46:=Tryz.underlying76
 a46:=Tryz.isAgg76
 z46:=Tryz.sizeOf76
 v46:=Tryz.zeroValue76
 t51:=Tryz.underlying151
 a51:=Tryz.isAgg151
 z51:=Tryz.sizeOf151
 v51:=Tryz.zeroValue151
 t53:=Tryz.underlying74
 a53:=Tryz.isAgg74
 z53:=Tryz.sizeOf74
 v53:=Tryz.zeroValue74
 t131:=Tryz.underlying167
 a131:=Tryz.isAgg167
 z131:=Tryz.sizeOf167
 v131:=Tryz.zeroValue167
 t182:=Tryz.underlying224
 a182:=Tryz.isAgg224
 z182:=Tryz.sizeOf224
 v182:=Tryz.zeroValue224
 t183:=Tryz.underlying225
 a183:=Tryz.isAgg225
 z183:=Tryz.sizeOf225
 v183:=Tryz.zeroValue225
 t218:=Tryz.underlying231
 a218:=Tryz.isAgg231
 z218:=Tryz.sizeOf231
 v218:=Tryz.zeroValue231
 t222:=Tryz.underlying235
 a222:=Tryz.isAgg235
 z222:=Tryz.sizeOf235
 v222:=Tryz.zeroValue235
 t228:=Tryz.underlying237
 a228:=Tryz.isAgg237
 z228:=Tryz.sizeOf237
 v228:=Tryz.zeroValue237
 t229:=Tryz.underlying182
 a229:=Tryz.isAgg182
 z229:=Tryz.sizeOf182
 v229:=Tryz.zeroValue182 }
open Go.Sort Go.RowKit in
theorem Tryz.slices_Sort_int (blk off cap:Nat) (zs:List Int) (w:World) (hH:Holds (Value.int .i64) w blk off zs.toArray) (hblk:blk<w.heap.size) (hsz:zs.length<4611686018427387904) :
  Calls Tryz.prog 148 #[.slice (some ⟨blk,off,none⟩) zs.length cap] w λe w'=>e = .returned (.tuple #[])/\∃n os,w'=grow (putRow (Value.int .i64) (Sort.ahead w n) blk off (zs.mergeSort λx y=>decide (x<=y)).toArray) os:=Any.slices_Sort_int Tryz.CB blk off cap zs w hH hblk hsz
def Tryz.zm:Go.Shelf.Ren:=⟨fun | 112=>143 | n=>n,fun | 28=>22 | 3=>3 | 4=>4 | 0=>0 | n=>n,fun | n=>n⟩
theorem Tryz.Cg:Go.Proofs.Lays.n112 Tryz.prog Tryz.zm:={
 mixed:=by kernel_rfl
 f112:=Tryz.func143.trans (congrArg some Ya)
 t0:=Tryz.underlying0
 a0:=Tryz.isAgg0
 z0:=Tryz.sizeOf0
 v0:=Tryz.zeroValue0
 t3:=Tryz.underlying3
 a3:=Tryz.isAgg3
 z3:=Tryz.sizeOf3
 v3:=Tryz.zeroValue3
 t4:=Tryz.underlying4
 a4:=Tryz.isAgg4
 z4:=Tryz.sizeOf4
 v4:=Tryz.zeroValue4
 t28:=Tryz.underlying22
 a28:=Tryz.isAgg22
 z28:=Tryz.sizeOf22
 v28:=Tryz.zeroValue22 }
open Go.RowKit Go.Lib Go.Sort in
/-- slices.Reverse at []int: "Reverse reverses the elements of the slice in place.": THE SLICE's CELLS HOLD 'zs.reverse' BEHIND THE CALL; all else is as it was, but for the count of draws (the exchange 's[i], s[j] = s[j], s[i]' draws its order, once a round). IN THE WORDS OF slices.Sort's CONTRACT: 'Holds': the cells hold zs and none is frozen; 'putRow': the world with those cells holding another array. A slice of length 0 that is not nil is among them ('zs = []'); nil: '.._nil'. (LAID: no walk: one application.) -/
theorem Tryz.slices_Reverse_int (blk off cap:Nat) (zs:List Int) (w:World) (hH:Holds (Value.int .i64) w blk off zs.toArray) (hsz:zs.length<=9223372036854775807) :
  Calls Tryz.prog 143 #[.slice (some ⟨blk,off,none⟩) zs.length cap] w λe w'=>e = .returned (.tuple #[])/\∃n,w'=putRow (Value.int .i64) (Sort.ahead w n) blk off zs.reverse.toArray:=Any.slices_Reverse_int Tryz.Cg blk off cap zs w hH hsz
open Go.RowKit Go.Lib Go.Sort in
/-- The same at a slice of length 0, a nil one too: nothing is read, nothing written, nothing drawn. (LAID: no walk: one application.) -/
theorem Tryz.slices_Reverse_int_empty (a:Option Addr) (cap:Nat) (w:World) :
  Calls Tryz.prog 143 #[.slice a 0 cap] w λe w'=>e = .returned (.tuple #[])/\w'=w:=Any.slices_Reverse_int_empty Tryz.Cg a cap w
def Tryz.wE:Go.Shelf.Ren:=⟨fun | 20=>149 | n=>n,fun | 22=>22 | 3=>3 | 4=>4 | 0=>0 | n=>n,fun | n=>n⟩
theorem Tryz.xC:Go.Proofs.Lays2.n20 Tryz.prog Tryz.wE:={
 mixed:=by kernel_rfl
 f20:=Tryz.func149.trans (congrArg some Ya)
 t0:=Tryz.underlying0
 a0:=Tryz.isAgg0
 z0:=Tryz.sizeOf0
 v0:=Tryz.zeroValue0
 t3:=Tryz.underlying3
 a3:=Tryz.isAgg3
 z3:=Tryz.sizeOf3
 v3:=Tryz.zeroValue3
 t4:=Tryz.underlying4
 a4:=Tryz.isAgg4
 z4:=Tryz.sizeOf4
 v4:=Tryz.zeroValue4
 t22:=Tryz.underlying22
 a22:=Tryz.isAgg22
 z22:=Tryz.sizeOf22
 v22:=Tryz.zeroValue22
 i3:=by kernel_rfl }
open Go.RowKit Go.Lib Go.Sort in
/-- slices.Compact at []int: "Compact replaces consecutive runs of equal elements with a single copy. This is like the uniq command found on Unix. Compact modifies the contents of the slice s and returns the modified slice, which may have a smaller length. Compact zeroes the elements between the new length and the original length. The result preserves the nilness of s.": IT RETURNS THE SLICE CUT TO 'Lib.compact zs'; ITS CELLS HOLD 'Lib.compact zs', THEN ZERO VALUES up to the old length; all else is as it was, but for the count of draws. IN THE WORDS OF slices.Sort's CONTRACT ('Holds', 'putRow'): so the everyday 'slices.Sort(xs); xs = slices.Compact(xs)' goes from the one contract to the other. It asks 'zs.length <= cap' (every slice's: the reslicing 's[:k]' looks at it). Length 0, nil: '.._empty'. (LAID: no walk: one application.) -/
theorem Tryz.slices_Compact_int (blk off cap:Nat) (zs:List Int) (w:World) (hH:Holds (Value.int .i64) w blk off zs.toArray) (hsz:zs.length<=9223372036854775807) (hcap:zs.length<=cap) :
  Calls Tryz.prog 149 #[.slice (some ⟨blk,off,none⟩) zs.length cap] w λe w'=>e = .returned (.slice (some ⟨blk,off,none⟩) (Lib.compact zs).length cap)/\∃q,w'=putRow (Value.int .i64) (Sort.ahead w q) blk off (Lib.compact zs++List.replicate (zs.length-(Lib.compact zs).length) 0).toArray:=Any.slices_Compact_int Tryz.xC blk off cap zs w hH hsz hcap
open Go.RowKit Go.Lib Go.Sort in
/-- The same at a slice of length 0, a nil one too: it comes back as it is. (LAID: no walk: one application.) -/
theorem Tryz.slices_Compact_int_empty (a:Option Addr) (cap:Nat) (w:World) :
  Calls Tryz.prog 149 #[.slice a 0 cap] w λe w'=>e = .returned (.slice a 0 cap)/\w'=w:=Any.slices_Compact_int_empty Tryz.xC a cap w
open Go.RowKit Go.Sort in
/-- .. and plain. (LAID: no walk: one application.) -/
theorem Tryz.slices_Sort_int_none (p:Option Addr) (cap:Nat) (w:World) :
  Calls Tryz.prog 148 #[.slice p 0 cap] w λe w'=>e = .returned (.tuple #[])/\w'=w:=Any.slices_Sort_int_none Tryz.CB p cap w
end Go.Proofs
