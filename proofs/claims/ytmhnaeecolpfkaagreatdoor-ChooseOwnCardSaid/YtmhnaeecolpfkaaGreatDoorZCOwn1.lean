/- A part of the proof: LftX, LftY, LftZ, LftF, LftG, LftH, LftM, LftN, LftQ, LftU, LftJ, LftK, T, LftP, Ua, Law, Ga, La, Lb, Lc, Ld, Le, Lf, Lg, Lh, Li, Lj, Lk, Ll, Lm, Ln, Lo, Lp. -/
import Derived.Test.YtmhnaeecolpfkaaGreatDoorZCOwn0
import Derived.KernelRfl
import Derived.ChangeKeysEq
import Derived.MapKept
import Derived.RecoverIn
import Derived.Test.YtmhnaeecolpfkaaGreatDoorChecked
import Derived.ProofKit
import Derived.OpenShut
import Derived.HandedShaped
import Derived.LaidMore
import Derived.Test.YtmhnaeecolpfkaaGreatDoorProg
set_option linter.unusedSimpArgs false
set_option linter.unusedVariables false
open Go.Value renaming int->UH,slice->UM,pointer->UN
open Go.IntKind renaming i64->UI,i32->UJ
open Option renaming some->UK,none->UL
open Bool renaming true->UO,false->UP
open Go.Proofs.Tryz renaming prog->UQ
open Go.Proofs
namespace Go.Lft
section
variable{po:OP}{pp:PP}
def step[po:OP](P:Program)(op:Op)(ty:TypeId)(us:List (Nat × Value))(h:Heap)(K:Value->Heap->Prop):Prop:=iG P (bL op ty us) h K
variable{P:Program}{op:Op}{ty:TypeId}{us:List (Nat × Value)}{h':Heap}{K:Value->Heap->Prop}
@[congr] theorem Ow{us':List (Nat × Value)}{h:Heap}(e1:us=us')(e2:h=h'):step P op ty us h K=step P op ty us' h' K:=by rw[e1,e2]
def grdP(o:Option Value)(b:Bool)(A B:Prop):Prop:=∃gv,o=UK gv/\(gv = .bool b->A)/\(gv≠.bool b->B)
variable{b:Bool}
@[congr] theorem OU{o o':Option Value}{A B:Prop}(h:o=o'):grdP o b A B=grdP o' b A B:=by rw[h]
@[simp] theorem Qo{A B:Prop}:grdP (UK (.bool UO)) UO A B=A:=by simp[grdP]
@[simp] theorem Qj{A B:Prop}:grdP (UK (.bool UO)) UP A B=B:=by simp[grdP]
@[simp] theorem Qt{A B:Prop}:grdP (UK (.bool UP)) UO A B=B:=by simp[grdP]
@[simp] theorem Ql{A B:Prop}:grdP (UK (.bool UP)) UP A B=A:=by simp[grdP]
@[simp] theorem Pl{A B p:Prop}[Decidable p]:grdP (UK (.bool (decide p))) UO A B=((p->A)/\(¬p->B)):=by simp[grdP]
@[simp] theorem OG{A B p:Prop}[Decidable p]:grdP (UK (.bool (decide p))) UP A B=((p->B)/\(¬p->A)):=by simp[grdP,and_comm]
@[simp] theorem P7{A B:Prop}{x:Bool}:grdP (UK (.bool (!x))) b A B=grdP (UK (.bool x)) (!b) A B:=by cases x<;>cases b<;>simp
@[simp] theorem OE{A B:Prop}:grdP (UK undef) b A B=B:=by simp[grdP,undef]
section
variable{P:Program}{Q:Env->Heap->Prop}{ρ:Env}{h:Heap}
variable{kill:List Nat}{sets args:List (Nat × E)}{chk:List E}{dst:Option Nat}{keep:Bool}{next:Reg}
@[simp] theorem Nt{tail:Bool}:
  eV P UL (.loud kill sets args UL chk tail op ty dst keep next) Q ρ h=sat (evP (look ρ) (vw h) sets) λvs=>sat (evP (look ρ) (vw h) args) λus=>okE (look ρ) (vw h) chk/\pp.fx (dE (cJ ρ kill) vs)/\
   @step (opAt UL) P op ty us h λv h'=>eV P UL next Q (putE (dE (cJ ρ kill) vs) dst keep v) h':=by
 simp only[eV,dd,sat,step,iF,Option.map_none];refine propext ⟨λ⟨vs,us,h1,h2,h3,hfx,h4⟩=>⟨vs,h1,us,h2,h3,hfx,h4.mono λv h' hh=>?_⟩,λ⟨vs,h1,us,h2,h3,hfx,h4⟩=>⟨vs,us,h1,h2,h3,hfx,h4.mono λv h' hh=>?_⟩⟩
 ·have:=hh.2;cases tail<;>exact this
 cases tail<;>exact⟨by simp,hh⟩
@[simp] theorem NU{g:E}:
  eV P UL (.loud kill sets args (UK (g,b)) chk UP op ty dst keep next) Q ρ h=sat (evP (look ρ) (vw h) sets) λvs=>sat (evP (look ρ) (vw h) args) λus=>okE (look ρ) (vw h) chk/\pp.fx (dE (cJ ρ kill) vs)/\
   grdP (ev (look ρ) (vw h) g) b (@step (opAt UL) P op ty us h λv h'=>eV P UL next Q (putE (dE (cJ ρ kill) vs) dst keep v) h') (eV P UL next Q (putE (dE (cJ ρ kill) vs) dst keep undef) h):=by simp only[eV,dd,sat,step,iF,grdP];refine propext ⟨λ⟨vs,us,h1,h2,h3,hfx,gv,h4,h5,h6⟩=>⟨vs,h1,us,h2,h3,hfx,gv,h4,λe=>(h5 e).mono λv h' hh=>hh.2,h6⟩,λ⟨vs,h1,us,h2,h3,hfx,gv,h4,h5,h6⟩=>⟨vs,us,h1,h2,h3,hfx,gv,h4,λe=>(h5 e).mono λv h' hh=>⟨by simp,hh⟩,h6⟩⟩
variable{H:View}
@[simp] theorem Nk:
  eV P (UK H) (.loud kill sets args UL chk UP op ty dst keep next) Q ρ h=sat (evP (look ρ) H sets) λvs=>sat (evP (look ρ) H args) λus=>okE (look ρ) H chk/\pp.fx (dE (cJ ρ kill) vs)/\
   @step (opAt (UK H)) P op ty us h λv h'=>H.le (vw h')/\eV P (UK H) next Q (putE (dE (cJ ρ kill) vs) dst keep v) h':=by
 simp only[eV,dd,sat,step,nf];refine propext ⟨λ⟨vs,us,h1,h2,h3,hfx,h4⟩=>⟨vs,h1,us,h2,h3,hfx,h4.mono λv h' hh=>?_⟩,λ⟨vs,h1,us,h2,h3,hfx,h4⟩=>⟨vs,us,h1,h2,h3,hfx,h4.mono λv h' hh=>?_⟩⟩
 ·exact⟨by simpa using hh.1,hh.2⟩
 exact⟨by simpa using hh.1,hh.2⟩
@[simp] theorem NJ:
  eV P (UK H) (.loud kill sets args UL chk UO op ty dst keep next) Q ρ h=sat (evP (look ρ) H sets) λvs=>sat (evP (look ρ) H args) λus=>okE (look ρ) H chk/\pp.fx (dE (cJ ρ kill) vs)/\
   @step (opAt (UK H)) P op ty us h λv h'=>eV P (UK nothing) next Q (putE (dE (cJ ρ kill) vs) dst keep v) h':=by
 simp only[eV,dd,sat,step,nf];refine propext ⟨λ⟨vs,us,h1,h2,h3,hfx,h4⟩=>⟨vs,h1,us,h2,h3,hfx,h4.mono λv h' hh=>?_⟩,λ⟨vs,h1,us,h2,h3,hfx,h4⟩=>⟨vs,us,h1,h2,h3,hfx,h4.mono λv h' hh=>?_⟩⟩
 ·exact hh.2
 exact⟨by simp,hh⟩
@[simp] theorem ME{g:E}:
  eV P (UK H) (.loud kill sets args (UK (g,b)) chk UP op ty dst keep next) Q ρ h=sat (evP (look ρ) H sets) λvs=>sat (evP (look ρ) H args) λus=>okE (look ρ) H chk/\pp.fx (dE (cJ ρ kill) vs)/\
   grdP (ev (look ρ) H g) b (@step (opAt (UK H)) P op ty us h λv h'=>H.le (vw h')/\eV P (UK H) next Q (putE (dE (cJ ρ kill) vs) dst keep v) h') (eV P (UK H) next Q (putE (dE (cJ ρ kill) vs) dst keep undef) h):=by simp only[eV,dd,sat,step,nf,grdP];refine propext ⟨λ⟨vs,us,h1,h2,h3,hfx,gv,h4,h5,h6⟩=>⟨vs,h1,us,h2,h3,hfx,gv,h4,λe=>(h5 e).mono λv h' hh=>⟨by simpa using hh.1,hh.2⟩,h6⟩,λ⟨vs,h1,us,h2,h3,hfx,gv,h4,h5,h6⟩=>⟨vs,us,h1,h2,h3,hfx,gv,h4,λe=>(h5 e).mono λv h' hh=>⟨by simpa using hh.1,hh.2⟩,h6⟩⟩
@[simp] theorem MX:
  dd View.sub P (UK H) (.loud kill sets args UL chk UP op ty dst keep next) Q ρ h=sat (evP (look ρ) H sets) λvs=>sat (evP (look ρ) H args) λus=>okE (look ρ) H chk/\pp.fx (dE (cJ ρ kill) vs)/\
   @step (opAt (UK H)) P op ty us h λv h'=>H.sub (vw h')/\dd View.sub P (UK H) next Q (putE (dE (cJ ρ kill) vs) dst keep v) h':=by
 simp only[dd,sat,step,nf];refine propext ⟨λ⟨vs,us,h1,h2,h3,hfx,h4⟩=>⟨vs,h1,us,h2,h3,hfx,h4.mono λv h' hh=>?_⟩,λ⟨vs,h1,us,h2,h3,hfx,h4⟩=>⟨vs,us,h1,h2,h3,hfx,h4.mono λv h' hh=>?_⟩⟩
 ·exact⟨by simpa using hh.1,hh.2⟩
 exact⟨by simpa using hh.1,hh.2⟩
@[simp] theorem Ms:
  dd View.sub P (UK H) (.loud kill sets args UL chk UO op ty dst keep next) Q ρ h=sat (evP (look ρ) H sets) λvs=>sat (evP (look ρ) H args) λus=>okE (look ρ) H chk/\pp.fx (dE (cJ ρ kill) vs)/\
   @step (opAt (UK H)) P op ty us h λv h'=>dd View.sub P (UK nothing) next Q (putE (dE (cJ ρ kill) vs) dst keep v) h':=by
 simp only[dd,sat,step,nf];refine propext ⟨λ⟨vs,us,h1,h2,h3,hfx,h4⟩=>⟨vs,h1,us,h2,h3,hfx,h4.mono λv h' hh=>?_⟩,λ⟨vs,h1,us,h2,h3,hfx,h4⟩=>⟨vs,us,h1,h2,h3,hfx,h4.mono λv h' hh=>?_⟩⟩
 ·exact hh.2
 exact⟨by simp,hh⟩
@[simp] theorem Ll{g:E}:
  dd View.sub P (UK H) (.loud kill sets args (UK (g,b)) chk UP op ty dst keep next) Q ρ h=sat (evP (look ρ) H sets) λvs=>sat (evP (look ρ) H args) λus=>okE (look ρ) H chk/\pp.fx (dE (cJ ρ kill) vs)/\
   grdP (ev (look ρ) H g) b (@step (opAt (UK H)) P op ty us h λv h'=>H.sub (vw h')/\dd View.sub P (UK H) next Q (putE (dE (cJ ρ kill) vs) dst keep v) h') (dd View.sub P (UK H) next Q (putE (dE (cJ ρ kill) vs) dst keep undef) h):=by simp only[dd,sat,step,nf,grdP];refine propext ⟨λ⟨vs,us,h1,h2,h3,hfx,gv,h4,h5,h6⟩=>⟨vs,h1,us,h2,h3,hfx,gv,h4,λe=>(h5 e).mono λv h' hh=>⟨by simpa using hh.1,hh.2⟩,h6⟩,λ⟨vs,h1,us,h2,h3,hfx,gv,h4,h5,h6⟩=>⟨vs,us,h1,h2,h3,hfx,gv,h4,λe=>(h5 e).mono λv h' hh=>⟨by simpa using hh.1,hh.2⟩,h6⟩⟩
@[simp] theorem OR:
  dd View.sub P (UK H) (.fin kill sets chk) Q ρ h=sat (evP (look ρ) H sets) λvs=>okE (look ρ) H chk/\Q (dE (cJ ρ kill) vs) h:=rfl
@[simp] theorem Qp{ρ:Env}:@PP.fx noPP ρ=True:=rfl
@[simp] theorem Qi{Rp:List PanicEntry->Heap->Prop}{ρ:Env}:@PP.fx (ppOf Rp) ρ=True:=rfl
@[simp] theorem Oa{m:Option View}{x y:Reg}:eV P m (.both x y) Q ρ h=(eV P m x Q ρ h/\eV P m y Q ρ h):=rfl
end
theorem tN{s:Sem Next}{f:FuncId}{args:Array Value}{h:Heap}{R:Value->Heap->Prop}(hs : ∀w:World,w.heap=h->s.run P w = .ok (.enter f args) w)(hc:ay P f args h R)(hk : ∀v h',R v h'->K v h'):iG P s h K:=by intro w hw r o a K' Q' hK hQ;rw[hs w hw];simp only[Oper.uponIn];refine⟨λh=>by simp[Fw,Fence.wide]at h,tS ((hc w hw).mono ?_)⟩;rintro e w' ⟨v,rfl,hR,hsame⟩;exact hK v w' (hk _ _ hR) hsame
theorem xG{s:Sem Next}{f:FuncId}{args:Array Value}{h:Heap}{R:Value->Heap->Prop}{Rp:List PanicEntry->Heap->Prop}(hs : ∀w:World,w.heap=h->s.run P w = .ok (.enter f args) w)(hc:jo P f args h R Rp)(hk : ∀v h',R v h'->K v h')(hp : ∀ch h',Rp ch h'->po.op ch h'):iG P s h K:=by
 intro w hw r o a K' Q' hK hQ;rw[hs w hw];simp only[Oper.uponIn];refine⟨λh=>by simp[Fw,Fence.wide]at h,tS ((hc w hw).mono ?_)⟩;rintro e w' (⟨v,rfl,hR,hsame⟩ | ⟨ch,rfl,hR,hsame⟩)
 ·exact hK v w' (hk _ _ hR) hsame
 exact hQ ch w' (hp _ _ hR) hsame
theorem FM{f:FuncId}{ops:Array Operand}{T:Array TypeId}{args:Array Value}{h:Heap}(R:Value->Heap->Prop)(Rp:List PanicEntry->Heap->Prop)(hf:isFn P f=UO)(ha:ops.map (asg us)=args)(hc:jo P f args h R Rp)(hk : ∀v h',R v h'->K v h')(hp : ∀ch h',Rp ch h'->po.op ch h'):
  step P (.call ⟨.value (.func f),ops,T⟩) ty us h K:=by
 subst ha;refine xG (λw _=>?_) hc hk hp;unfold isFn at hf;cases hfn:P.funcs[f]? with
 | none=>simp[hfn]at hf
 | some fn=>simp only[hfn,Q9,bne_iff_ne,ne_eq]at hf;obtain⟨h1,h2⟩:=hf;simp[bL,execOp,resolve,Deferred.ofValue,asg,invoke,callFunc,program,Sem.run,hfn,h1,Option.isNone];cases hb:fn.body<;>simp[hb]at h2 ⊢
theorem wY{f:FuncId}{ops:Array Operand}{T:Array TypeId}{args:Array Value}{h:Heap}(R:Value->Heap->Prop)(hf:isFn P f=UO)(ha:ops.map (asg us)=args)(hc:ay P f args h R)(hk : ∀v h',R v h'->K v h'):
  step P (.call ⟨.value (.func f),ops,T⟩) ty us h K:=by
 subst ha;refine tN (λw _=>?_) hc hk;unfold isFn at hf;cases hfn:P.funcs[f]? with
 | none=>simp[hfn]at hf
 | some fn=>simp only[hfn,Q9,bne_iff_ne,ne_eq]at hf;obtain⟨h1,h2⟩:=hf;simp[bL,execOp,resolve,Deferred.ofValue,asg,invoke,callFunc,program,Sem.run,hfn,h1,Option.isNone];cases hb:fn.body<;>simp[hb]at h2 ⊢
def gK[po:OP](P:Program)(f:FuncId)(T:Array TypeId)(ty:TypeId)(args:List Value)(h:Heap)(K:Value->Heap->Prop):Prop:=
 step P (.call ⟨.value (.func f),args.toArray.map .const,T⟩) ty [] h K
@[simp] theorem Qq{t:Nat}:asg us (.tmp t)=(look us t).getD undef:=rfl
@[simp] theorem BA{v:Value}:asg us (.const v)=v:=rfl
@[simp] theorem PT{f:FuncId}:asg us (.func f) = .func (.func f) #[] #[]:=rfl
@[simp] theorem OO{g:Nat}:asg us (.global g) = ptz g:=rfl
theorem ji{f:FuncId}{ops:List Operand}{T:Array TypeId}{h:Heap}:
  step P (.call ⟨.value (.func f),ops.toArray,T⟩) ty us h K=gK P f T ty (ops.map (asg us)) h K:=by unfold gK step;congr 1;simp[bL,execOp,resolve,Deferred.ofValue,Uj]
section
variable{P:Program}{f:FuncId}{x y z u v:Operand}{T:Array TypeId}{ty:TypeId}{us:List (Nat × Value)}{h:Heap}{K:Value->Heap->Prop}
@[simp] theorem OY:step P (.call ⟨.value (.func f),#[],T⟩) ty us h K=gK P f T ty [] h K:=ji (ops:=[])
@[simp] theorem OI:step P (.call ⟨.value (.func f),#[x],T⟩) ty us h K=gK P f T ty [asg us x] h K:=ji (ops:=[x])
@[simp] theorem Ot:step P (.call ⟨.value (.func f),#[x,y],T⟩) ty us h K=gK P f T ty [asg us x,asg us y] h K:=ji (ops:=[x,y])
@[simp] theorem OH:step P (.call ⟨.value (.func f),#[x,y,z],T⟩) ty us h K=gK P f T ty [asg us x,asg us y,asg us z] h K:=ji (ops:=[x,y,z])
@[simp] theorem Og:step P (.call ⟨.value (.func f),#[x,y,z,u],T⟩) ty us h K=gK P f T ty [asg us x,asg us y,asg us z,asg us u] h K:=ji (ops:=[x,y,z,u])
@[simp] theorem ON:step P (.call ⟨.value (.func f),#[x,y,z,u,v],T⟩) ty us h K=gK P f T ty [asg us x,asg us y,asg us z,asg us u,asg us v] h K:=ji (ops:=[x,y,z,u,v])
end
@[congr] theorem KZ{f:FuncId}{T:Array TypeId}{args args':List Value}{h:Heap}(ha:args=args'):gK P f T ty args h K=gK P f T ty args' h K:=by rw[ha]
theorem ah{f:FuncId}{T:Array TypeId}{args:List Value}{h:Heap}{R:Value->Heap->Prop}(hf:isFn P f=UO)(hc:ay P f args.toArray h R)(hk : ∀v h',R v h'->K v h'):gK P f T ty args h K:=
 wY R hf (by simp[Uj]) hc hk
theorem eo{f:FuncId}{T:Array TypeId}{args:List Value}{h:Heap}{R:Value->Heap->Prop}{Rp:List PanicEntry->Heap->Prop}(hf:isFn P f=UO)(hc:jo P f args.toArray h R Rp)(hk : ∀v h',R v h'->K v h')(hp : ∀ch h',Rp ch h'->po.op ch h'):gK P f T ty args h K:=
 FM R Rp hf (by simp[Uj]) hc hk hp
theorem cB{s:Sem Next}{h:Heap}(hs : ∀w:World,w.heap=h->∃v w',s.run P w = .ok (.value v) w'/\Same w w'/\K v w'.heap):iG P s h K:=by intro w hw r o a K' Q' hK hQ;obtain⟨v,w',h1,h2,h3⟩:=hs w hw;rw[h1];exact hK v w' h3 h2
theorem pM{s:Sem Next}{h:Heap}(hs : ∀w:World,w.heap=h->∃w',s.run P w = .ok .skip w'/\Same w w'/\K undef w'.heap):iG P s h K:=by intro w hw r o a K' Q' hK hQ;obtain⟨w',h1,h2,h3⟩:=hs w hw;rw[h1];exact hK undef w' h3 h2
theorem jc(w:World)(o:Obj):Same w (w.alloc o):=Same.Cl rfl rfl rfl U2 λk hk=>heap_alloc_old w o hk
variable{n size:Nat}{cs:Array Value}
theorem qE{t e:TypeId}{ps:Array (Nat × Operand)}{h:Heap}{i:TypeInfo}{z:Value}{vs:List (Nat × Value)}(ht:P.underlying t=UK (.slice e))(hi:P.info? e=UK i)(hz:i.zero=UK z)(hs:i.size=size)(hn:n*size<=16777216)(hp:ps.map (λp=>(p.1,asg us p.2))=vs.toArray)(hf:Instr.fill (λj=>UK (j*size,size)) ((Array.range (n*size)).map (z.cells[· % z.cells.size]!)) vs=UK cs)(hk:K (UM (UK ⟨h.size,0,UL⟩) n n) (h.push (.cells cs e))):step P (.buildSlice t n ps) ty us h K:=by
 subst hs;refine cB λw hw=>?_;subst hw;have hn':¬(16777216<n*i.size):=by omega
 refine⟨_,w.alloc (.cells cs e),?_,jc _ _,hk⟩;have hp':(ps.map λx=>match x with | (i,x)=>(i,asg us x))=vs.toArray:=hp;by_cases h0:n*i.size=0
 ·have e1 : ∀f:Nat->Value,(Array.range 0).map f = #[]:=λf=>by simp[Array.range_zero']
  rw[h0,e1]at hf;simp only[bL,execOp,hp'];simp[Instr.buildSlice,run_underlying ht,sizeOf,typeInfo,hi,h0,newRow,e1,hf]
 simp only[bL,execOp,hp'];simp[Instr.buildSlice,run_underlying ht,sizeOf,typeInfo,hi,hn',newRow,h0,zeroValue,hz,hf]
def yY(h:Heap)(e:TypeId)(size:Nat)(v:Value)(n:Nat)(xs:List Value):Prop:=
  xs.length=n*size/\
  ((v = UM UL 0 0/\n=0)\/
   ∃g cap cur,v = UM (UK ⟨g,0,UL⟩) n cap/\h[g]? = UK (.cells cur e (0,0))/\n<=cap/\cap<=maxLen/\cur.size=cap*size/\cur.toList.take (n*size)=xs)
structure Kept(h h':Heap)(b:Option Nat):Prop where
 size:h.size<=h'.size
 block : ∀k,k<h.size->UK k≠b->h'[k]? = h[k]?
theorem Kept.refl(h:Heap)(b:Option Nat):Kept h h b:=⟨Q4 _,λ_ _ _=>rfl⟩
theorem Kept.push(h:Heap)(o:Obj)(b:Option Nat):Kept h (h.push o) b:=⟨by simp,λk hk _=>by rw[Array.getElem?_push,if_neg U1]⟩
theorem Kept.trans{h h' h'':Heap}{b:Option Nat}(k:Kept h h' b)(k':Kept h' h'' b):Kept h h'' b:=
 ⟨Rt k.size k'.size,λx hx hb=>(k'.block x (Sc hx k.size) hb).trans (k.block x hx hb)⟩
def Av(W:View)(v:Value):Prop:=∀b,v.ownBlock=UK b->W b=UL
variable{W:View}
theorem Kept.view{h:Heap}{v:Value}(k:Kept h h' v.ownBlock)(hw:W.le (vw h))(ha:Av W v):W.le (vw h'):=by
 intro b o hb;have hlt:=View.lt hw hb;have hne:UK b≠v.ownBlock:=λe=>by rw[ha b e.symm]at hb;cases hb
 show h'[b]? = UK o;rw[k.block b hlt hne];exact hw b o hb
theorem Kept.H4{h:Heap}(k:Kept h h' UL)(hw:W.le (vw h)):W.le (vw h'):=by intro b o hb;show h'[b]? = UK o;rw[k.block b (View.lt hw hb) U2];exact hw b o hb
theorem bQ(h:Heap)(o:Obj):(vw h).le (vw (h.push o)):=(Kept.push h o UL).H4 UE
theorem KC{h:Heap}(hle:(vw h).le (vw h'))(hs:h.size<=h'.size):Kept h h' none:=
 ⟨hs,λk hk _=>by have:h[k]? = UK h[k]:=RA hk;rw[this];exact hle k _ this⟩
theorem bO{h:Heap}(hle:(vw h).le (vw h')):h.size<=h'.size:=by
 rcases Ri h'.size h.size with hlt | hge
 ·have h1:h[h'.size]? = UK h[h'.size]:=RA hlt;have h2:h'[h'.size]? = UK h[h'.size]:=hle _ _ h1;simp at h2
 exact hge
theorem vX{h:Heap}(hle:(vw h).le (vw h')):Kept h h' none:=KC hle (bO hle)
theorem yY.kept{h h':Heap}{e:TypeId}{size n:Nat}{v:Value}{xs:List Value}{b:Option Nat}(ho:yY h e size v n xs)(k:Kept h h' b)(hb:v.ownBlock=UL\/v.ownBlock≠b):yY h' e size v n xs:=by
 refine⟨ho.1,?_⟩;rcases ho.2 with hn | ⟨g,cap,cur,rfl,hg,rest⟩
 ·exact .inl hn
 refine .inr ⟨g,cap,cur,rfl,?_,rest⟩;rw[k.block g (Rk.1 hg).1 (by simpa[Value.ownBlock]using hb)];exact hg
structure eF(P:Program)(t e:TypeId)(size bytes:Nat)(z:Value):Prop where
 ht:P.underlying t=UK (.slice e)
 hi : ∃i,P.info? e=UK i/\i.zero=UK z/\i.size=size/\i.bytes=bytes
 hz:z.cells.size=size
 hs:0<size
 hm:size<=1000
variable{bytes:Nat}
theorem FC{t e:TypeId}{z:Value}(hT:eF P t e size bytes z){w:World}{v:Value}{xs:List Value}(hown:yY w.heap e size v n xs){a:Option Addr}{m c:Nat}{news:List Value}(hl:news.length=m*size)(hnews : ∀ad,a=UK ad->∀j u,news[j]? = UK u->w.cell? (ad.add j)=UK u)(hnil:a=UL->m=0)(h1 : ∀u∈news,u.oneCell'=UO)(hbytes:(n+m)*bytes<=140737488355328)(h63:n+m<=140737488355328):
  ∃v' w',(Builtin.append_ #[t,t] ty #[v,.slice a m c]).run P w = .ok v' w'/\Same w w'/\yY w'.heap e size v' (n+m) (xs++news)/\Kept w.heap w'.heap v.ownBlock/\
   (v'.ownBlock=v.ownBlock\/v'.ownBlock=UK w.heap.size):=by
 obtain⟨ht,⟨i,hi,hz,hsize,hby⟩,hzs,hsz,_⟩:=hT;subst hsize;subst hby;cases a with
 | none=>
  obtain rfl:=hnil rfl;have hn:news=[]:=Ry (by simpa using hl);subst hn;have hrun:(Builtin.append_ #[t,t] ty #[v,UM UL 0 c]).run P w = .ok v w:=by
   rcases hown.2 with⟨rfl,rfl⟩ | ⟨g,cap,cur,rfl,hg,hnc,hcm,hcs,htake⟩
   ·simp[Builtin.append_,run_underlying ht,sizeOf,typeInfo,hi,Builtin.lenOf,Builtin.firstCells]
   simp[Builtin.append_,run_underlying ht,sizeOf,typeInfo,hi,Builtin.lenOf,Builtin.firstCells,hnc,storeCells]
  exact⟨v,w,hrun,Same.refl _,by simpa using hown,Kept.refl _ _,.inl rfl⟩
 | some ad=>
  have hnews:=hnews ad rfl;have hlen:(xs++news).length=(n+m)*i.size:=by rw[Rl,hown.1,hl,Ts]
  have h63':n+m<=maxLen:=by simp only[maxLen];omega
  have grown : ∀(old:Nat),old<n+m->∀row,
    yY (w.drew.alloc (.cells (xs.toArray++news.toArray++Builtin.zeroCells z.cells (grownCap w (n+m) old e-(n+m))) e)).heap e i.size
     (UM (UK ⟨w.heap.size,0,UL⟩) (n+m) (grownCap w (n+m) old e)) (n+m) (xs++news)/\
    Kept w.heap (w.drew.alloc (.cells (xs.toArray++news.toArray++Builtin.zeroCells z.cells (grownCap w (n+m) old e-(n+m))) e)).heap row:=by
   intro old ho row;have hge:=grownCap_ge w (n+m) old e;have hcm:grownCap w (n+m) old e<=maxLen:=grownCap_le_maxLen w (n+m) old e h63';refine⟨⟨hlen,.inr ⟨w.heap.size,_,_,rfl,heap_alloc_new w.drew _,hge,hcm,?_,?_⟩⟩,⟨by simp,λk hk _=>by rw[heap_alloc_old w.drew _ (by simpa using hk)];rfl⟩⟩
   ·simp only[Array.size_append,S2,size_zeroCells,hzs,hown.1,hl,<-Nat.add_mul];congr 1;omega
   simp only[Array.toList_append,Rn];rw[<-List.append_assoc,<-hlen];exact TJ
  rcases hown.2 with⟨rfl,rfl⟩ | ⟨g,cap,cur,rfl,hg,hnc,hcm,hcs,htake⟩
  ·have hx:xs=[]:=Ry (by simpa using hown.1);subst hx;by_cases hm:m=0
   ·subst hm;have hn:news=[]:=Ry (by simpa using hl);subst hn;refine⟨UM UL 0 0,w,?_,Same.refl _,⟨by simp,.inl ⟨rfl,rfl⟩⟩,Kept.refl _ _,.inl rfl⟩;simp[Builtin.append_,run_underlying ht,sizeOf,typeInfo,hi,Builtin.lenOf,Builtin.firstCells,loadCells,loadCellsFrom]
   have hr:=run_append_nil (P:=P) w t ty e i z ht hi hz ad m c news hl hnews U1 U1 (by have hb:=hbytes;simp only[R1]at hb;omega);have hgr:=grown 0 U1 UL;simp only[R1,RV,Array.empty_append]at hgr ⊢;exact⟨_,_,hr,Same.Cl rfl rfl rfl hgr.2.size (λk hk=>hgr.2.block k hk U2),hgr.1,⟨hgr.2.size,λk hk _=>hgr.2.block k hk U2⟩,.inr rfl⟩
  by_cases hroom:n+m<=cap
  ·have hfit:n*i.size+news.length<=cur.size:=by rw[hl,hcs,<-Nat.add_mul];exact RC _ hroom
   have hr:=run_append_room (P:=P) w t ty e i ht hi g n cap cur hg ad m c news hl hnews h1 hroom hfit;refine⟨_,_,hr,Same.oQ rfl rfl rfl U2 hg U2 (λk _ hne=>setRow_other w g k _ (λe=>hne e)),⟨hlen,.inr ⟨g,cap,_,rfl,setRow_heap w g cur _ e _ hg,hroom,hcm,?_,?_⟩⟩,⟨by simp,λk hk hne=>setRow_other w g k _ (λe=>hne (by simp[Value.ownBlock,e]))⟩,.inl rfl⟩
   ·simp only[S2,Rl,RO,RQ,S4];omega
   rw[htake,<-hlen];exact TJ
  have holds : ∀j u,xs[j]? = UK u->w.cell? ((⟨g,0,UL⟩:Addr).add j)=UK u:=by intro j u hu;have:=World.ownsRow.cells (w:=w) (base:=0) (e:=e) (size:=i.size) (v:=UM (UK ⟨g,0,UL⟩) n cap) (n:=n) (xs:=xs) ⟨hown.1,.inr ⟨g,cap,cur,rfl,SD _,hg,hnc,hcm,hcs,htake⟩⟩ (g:=g) rfl j u hu;exact this
  have hr:=run_append_grow (P:=P) w t ty e i z ht hi hz ⟨g,0,UL⟩ n cap xs hown.1 holds ad m c news hl hnews U1 U1 (growslice_fits U1 hbytes);have hgr:=grown cap U1 UL;exact⟨_,_,hr,Same.Cl rfl rfl rfl hgr.2.size (λk hk=>hgr.2.block k hk U2),hgr.1,⟨hgr.2.size,λk hk _=>hgr.2.block k hk U2⟩,.inr rfl⟩
theorem df{h:Heap}(hr:iG P (bL op ty us) h K):step P op ty us h K:=hr
attribute [irreducible] step gK
end
section
variable{po:OP}{pp:PP}
def fresh(h h':Heap):View:=λb=>if b<h.size then UL else h'[b]?
theorem mh(h h':Heap):(fresh h h').le (vw h'):=λb o hb=>by
 unfold fresh at hb;split at hb
 ·cases hb
 exact hb
theorem kg(V:View)(h h':Heap):(fresh h h').le (grow V h h'):=λb o hb=>by
 unfold fresh at hb;unfold grow;split at hb
 ·cases hb
 rename_i hlt;rw[if_neg hlt];exact hb
structure lA(h h':Heap)(v v':Value):Prop where
 kept:Kept h h' v.ownBlock
 at_:v'.ownBlock=v.ownBlock\/v'.ownBlock=UK h.size
theorem lA.view{h h':Heap}{v v':Value}(m:lA h h' v v'){W:View}(hw:W.le (vw h))(ha:Av W v):W.le (vw h')/\Av W v':=by
 refine⟨m.kept.view hw ha,λb hb=>?_⟩;rcases m.at_ with e | e
 ·exact ha b (by rw[<-e];exact hb)
 rw[e]at hb;simp only[Q2]at hb;exact View.b8 hw U1
theorem Av.nil(W:View)(n c:Nat):Av W (UM UL n c):=λb hb=>by simp[Value.ownBlock]at hb
section
variable{α:Type}[Rep α]
def OwnT(W:View)(h:Heap)(e:TypeId)(v:Value)(l:List α):Prop:=
 l.length<=140737488355328/\∃xs,yY h e (Rep.n α) v l.length xs/\∀(i:Nat) (hi:i<l.length),Rep.rd W ((xs.drop (i*Rep.n α)).take (Rep.n α)) l[i]
def SrcT(Ho Hi:View)(u:Value)(l:List α):Prop:=
 ∃a c,u = .slice a l.length c/\(a=UL->l=[])/\∃news:List Value,news.length=l.length*Rep.n α/\(∀ad,a=UK ad->∀j x,news[j]? = UK x->an Ho (ad.add j)=UK x)/\
  ∀(i:Nat) (hi:i<l.length),Rep.rd Hi ((news.drop (i*Rep.n α)).take (Rep.n α)) l[i]
theorem OwnT.nil(W:View)(h:Heap)(e:TypeId):OwnT (α:=α) W h e (UM UL 0 0) []:=
 ⟨by simp,[],⟨by simp,.inl ⟨rfl,rfl⟩⟩,λi hi=>by simp at hi⟩
variable{W:View}{h h':Heap}{e:TypeId}{v:Value}{l:List α}
theorem OwnT.len(o:OwnT W h e v l){K:View}:Un.ev K .len v=UK (UH UI l.length):=by
 obtain⟨_,xs,⟨_,hx⟩,_⟩:=o;rcases hx with⟨rfl,hn⟩ | ⟨g,cap,cur,rfl,_⟩
 ·rw[hn];rfl
 rfl
theorem OwnT.mono(o:OwnT W h e v l){W':View}(hw:W.le W'):OwnT W' h e v l:=
 let ⟨b,xs,h1,h2⟩:=o
 ⟨b,xs,h1,λi hi=>Rep.mono hw (h2 i hi)⟩
theorem OwnT.kept(o:OwnT W h e v l){b:Option Nat}(k:Kept h h' b)(hb:v.ownBlock=UL\/v.ownBlock≠b):OwnT W h' e v l:=
 let ⟨bd,xs,h1,h2⟩:=o
 ⟨bd,xs,h1.kept k hb,h2⟩
theorem OwnT.ext(o:OwnT W h e v l)(k:(vw h).le (vw h')):OwnT W h' e v l:=o.kept (vX k) (by cases v.ownBlock<;>simp)
variable{n:Nat}
theorem Gi{xs:List Value}{len:Nat}(hl:xs.length=len*n)(hr : ∀(i:Nat),i<len->∀u∈(xs.drop (i*n)).take n,u.oneCell'=UO): ∀u∈xs,u.oneCell'=true:=by
 intro u hu;obtain⟨j,hj,rfl⟩:=RH hu;have hn:0<n:=by
  rcases Su n with h | h
  ·subst h;simp at hl;subst hl;simp at hj
  exact h
 have hlt:j / n<len:=by rw[Nat.div_lt_iff_lt_mul hn];omega
 refine hr (j / n) hlt _ ?_;have hm:=Nat.mod_lt j hn;have hd:=Nat.div_add_mod j n;have:((xs.drop (j / n*n)).take n)[j % n]? = UK xs[j]:=by
  rw[St,if_pos hm,Ti];have:j / n*n+j % n=j:=by rw[Nat.mul_comm];exact hd
  rw[this];exact RK hj
 exact RF this
theorem HF{xs ys:List Value}{a i:Nat}(hx:xs.length=a*n):((xs++ys).drop (i*n)).take n=if i<a then(xs.drop (i*n)).take n else(ys.drop ((i-a)*n)).take n:=by
 split
 ·rename_i h;have h1:i*n+n<=a*n:=by rw[<-Nat.succ_mul];exact RC _ h
  rw[Sj U1,RW U9]
 rename_i h;have h1:a*n<=i*n:=RC _ U1;have h2:(i-a)*n=i*n-a*n:=Nat.sub_mul ..;rw[S6,RN U1,RV,hx,h2]
variable{P:Program}{ty:TypeId}{bytes:Nat}{y:Operand}{us:List (Nat × Value)}{K:Value->Heap->Prop}
theorem dA{t:TypeId}{z:Value}{x:Operand}{u:Value}{l2:List α}(hT:eF P t e (Rep.n α) bytes z)(hx:asg us x=v)(hy:asg us y=u)(ho:OwnT W h e v l)(hs:SrcT (vw h) W u l2)(hb:(l.length+l2.length)*bytes<=140737488355328)(hb2:l.length+l2.length<=140737488355328)(hk : ∀v' h',OwnT W h' e v' (l++l2)->lA h h' v v'->K v' h'):step P (.call ⟨.builtin .append,#[x,y],#[t,t]⟩) ty us h K:=by
 obtain⟨hbd,xs,h1,h2⟩:=ho;obtain⟨a,c,rfl,hnil,news,h3,h4,h5⟩:=hs;refine df (cB λw hw=>?_);subst hw;have hflat : ∀u∈news,u.oneCell'=true:=Gi h3 λi hi=>Rep.flat (h5 i hi);obtain⟨v',w',g1,g2,g3,g4,g5⟩:=FC hT (ty:=ty) h1 h3 (λad ha j u hu=>h4 ad ha j u hu) (c:=c) (λha=>by rw[hnil ha];rfl) hflat hb hb2;refine⟨v',w',?_,g2,hk v' w'.heap ⟨by simpa using hb2,xs++news,by simpa using g3,λi hi=>?_⟩ ⟨g4,g5⟩⟩
 ·simp only[bL,execOp];simp[resolve,invoke,builtin,hx,hy,g1]
 rw[HF h1.1];split
 ·rename_i hlt;rw[TC hlt];exact h2 i hlt
 rename_i hge;rw[Ui U1];exact h5 (i-l.length) (by simp at hi;omega)
variable{H:View}
theorem SlRd.src{K:View}(s:SlRd H v l)(hk:H.le K):SrcT K H v l:=by
 obtain⟨a,cap,rfl,h1,h2,h3⟩:=s;rcases h3 with rfl | ⟨ad,rfl,hs,hat⟩
 ·exact⟨a,cap,rfl,λ_=>rfl,[],by simp,λ_ _ j x hx=>by simp at hx,λi hi=>by simp at hi⟩
 refine⟨UK ad,cap,rfl,(λh=>by cases h),?_⟩;cases hl:l with
 | nil=>exact⟨[],by simp,λ_ _ j x hx=>by simp at hx,λi hi=>by simp at hi⟩
 | cons d0 l0=>
  rw[<-hl];have hpos:0<l.length:=by rw[hl];simp
  obtain⟨cs0,⟨c,T,fz,_,hb,_⟩,_⟩:=hat 0 hpos;have hblk:H ad.block=UK (.cells c T fz):=by rw[bC hs]at hb;exact hb
  have hcs : ∀(i:Nat) (hi:i<l.length),Rep.rd H ((c.toList.drop (ad.off+i*Rep.n α)).take (Rep.n α)) l[i]:=by intro i hi;obtain⟨cs,⟨c',T',fz',_,hb',he⟩,hr⟩:=hat i hi;rw[bC hs]at hb' he;simp only at hb' he;rw[hblk]at hb';cases hb';rw[Rep.len hr]at he;rw[he];exact hr
  have htot:ad.off+l.length*Rep.n α<=c.toList.length:=by
   have:=Rep.len (hcs (l.length-1) U1);have hn:=Rep.pos (α:=α);simp only[RO,RQ]at this;have e1:l.length*Rep.n α=(l.length-1)*Rep.n α+Rep.n α:=by rw[<-Nat.succ_mul];congr 1;omega
   omega
  refine⟨(c.toList.drop ad.off).take (l.length*Rep.n α),?_,?_,?_⟩
  ·simp only[RO,RQ];omega
  ·intro ad' e j x hx;cases e;have hj:j<l.length*Rep.n α:=by
    rcases Ri j (l.length*Rep.n α)with h | h
    ·exact h
    rw[RP U9]at hx;cases hx
   rw[St,if_pos hj,Ti]at hx;rw[bC hs];simp only[an,hk _ _ hblk];simpa using hx
  intro i hi;have h1:i*Rep.n α+Rep.n α<=l.length*Rep.n α:=by rw[<-Nat.succ_mul];exact RC _ hi
  rw[Sx,Sy,SU,Sv U1];exact hcs i hi
theorem OwnT.rd(o:OwnT W h e v l){V:View}(hw:W.le V)(hv : ∀b,v.ownBlock=UK b->V b=h[b]?):SlRd V v l:=by
 obtain⟨hbd,xs,⟨hx,hown⟩,hel⟩:=o;rcases hown with⟨rfl,hn⟩ | ⟨g,cap,cur,rfl,hg,h1,h2,h3,h4⟩
 ·have:l=[]:=Ry hn;subst this;exact⟨UL,0,rfl,by simp,by simp,.inl rfl⟩
 refine⟨UK ⟨g,0,UL⟩,cap,rfl,h1,hbd,.inr ⟨_,rfl,rfl,λi hi=>?_⟩⟩;refine⟨(xs.drop (i*Rep.n α)).take (Rep.n α),⟨cur,e,(0,0),?_,?_,?_⟩,Rep.mono hw (hel i hi)⟩
 ·rw[bC rfl]
 ·rw[bC rfl];rw[hv g rfl];exact hg
 rw[bC rfl,Rep.len (hel i hi)];have hle:i*Rep.n α+Rep.n α<=l.length*Rep.n α:=by rw[<-Nat.succ_mul];exact RC _ hi
 rw[<-h4,Sx,Sy];simp only[R1];rw[Sv U1]
theorem OwnT.fresh{h0:Heap}(o:OwnT W h e v l)(hW:W.le (fresh h0 h))(ha:Av (vw h0) v):SlRd (Lft.fresh h0 h) v l:=by
 refine o.rd hW λb hb=>?_;have:=ha b hb;simp only[vw]at this;have hge:h0.size<=b:=by
  rcases Ri b h0.size with h | h
  ·simp[h]at this
  exact h
 simp only[Lft.fresh,if_neg (Us.2 hge)]
theorem mC{t:TypeId}{z:Value}{x:Operand}{u:Value}{d:α}(hT:eF P t e (Rep.n α) bytes z)(hx:asg us x=u)(hr:Rd W u d)(hk : ∀u' h',SrcT (vw h') W u' [d]->(vw h).le (vw h')->h'.size=h.size+1->K u' h'):step P (.buildSlice t 1 #[(0,x)]) ty us h K:=by
 have hTT:=hT;obtain⟨ht,⟨i,hi,hz,hsize,hby⟩,hzs,hsz,hsmall⟩:=hT;have hcells:Rep.rd W u.cells.toList d/\u.cells.size=Rep.n α:=by
  unfold Rd at hr;split at hr
  ·obtain⟨cs,rfl,h⟩:=hr;exact⟨h,by rw[<-Rep.len h];rfl⟩
  rename_i ha;have hone:=Rep.one (α:=α) (by simpa using ha);have hfl:=Rep.flat hr u U2;have:u.cells = #[u]:=by cases u<;>first | rfl | simp[Value.oneCell']at hfl
  rw[this];exact⟨by simpa using hr,by simp[hone]⟩
 have hfill:Instr.fill (λj=>UK (j*Rep.n α,Rep.n α)) ((Array.range (1*Rep.n α)).map (z.cells[· % z.cells.size]!)) [(0,u)]=UK u.cells:=by
  have hlen : ∀(A:Array Value) (cs:Array Value),A.size=cs.size->cs.zipIdx.foldl (λcs' (p:Value × Nat)=>cs'.setIfInBounds (0+p.2) p.1) A=cs:=by
   intro A cs hA;have key : ∀(l:List Value) (k:Nat) (B:Array Value),B.size=k+l.length->((l.zipIdx k).foldl (λcs' (p:Value × Nat)=>cs'.setIfInBounds (0+p.2) p.1) B).toList=B.toList.take k++l:=by
    intro l;induction l with
    | nil=>intro k B hB;simp at hB;simp only[List.zipIdx_nil,List.foldl_nil,SI];rw[Rq (by simp[hB])]
    | cons y l ih=>
     intro k B hB;simp only[TZ,RG];rw[ih (k+1) _ (by simp at hB ⊢;omega)];simp only[R1,T7];have hk:k<B.toList.length:=by simp at hB ⊢;omega
     rw[Rr (by simpa using hk)];simp[T3]
   rw[<-Array.toList_inj,<-Array.foldl_toList,Array.toList_zipIdx];have:=key cs.toList 0 A (by simpa using hA);simpa using this
  simp only[Instr.fill,Tv,R1,Array.size_map,Array.size_range,Uk,hcells.2,ne_eq,not_true,decide_false,UB,gt_iff_lt,Nat.lt_irrefl];simp only[SB,if_false];congr 1;have:=hlen ((Array.range (Rep.n α)).map (z.cells[· % z.cells.size]!)) u.cells (by simp[hcells.2]);simpa using this
 refine qE ht hi hz hsize U1 (vs:=[(0,u)]) (by simp[hx]) hfill (hk _ _ ?_ (bQ _ _) U2);refine⟨UK ⟨h.size,0,UL⟩,1,rfl,(λh=>by cases h),u.cells.toList,by simp[hcells.2],?_,?_⟩
 ·intro ad e j x hx;cases e;rw[bC rfl];simp only[an,vw,SL];simpa using hx
 intro i hi';simp only[RZ,TE,R1,Nat.lt_one_iff]at hi';subst hi';have:(u.cells.toList.take (Rep.n α))=u.cells.toList:=by rw[Rq];simp[hcells.2]
 simpa[this]using hcells.1
theorem oz{t:TypeId}{z:Value}{x:Operand}{k:IntKind}{d:α}(hT:eF P t e (Rep.n α) bytes z)(hx:asg us x = .int k n)(hy:asg us y = .int k n)(hr:Rep.rd W z.cells.toList d)(hb:bytes*n<=140737488355328)(hb2:n<=140737488355328)(hk : ∀v' h',OwnT W h' e v' (List.replicate n d)->lA h h' (UM UL 0 0) v'->(vw h).le (vw h')->v'.ownBlock=UK h.size->K v' h'):step P (.makeSlice t x y) ty us h K:=by
 obtain⟨ht,⟨i,hi,hz,hsize,hby⟩,hzs,hsz,hsmall⟩:=hT;refine df (cB λw hw=>?_);subst hw;have hrun:=run_make (P:=P) w t e i z ht hi hz k k (n:Int) (n:Int) U1 (SR _) (by
  rw[hby];have:((bytes*n:Nat):Int)<=281474976710656:=by omega
  rwa [Int.natCast_mul]at this) U1;simp only[RB]at hrun;refine⟨UM (UK ⟨w.heap.size,0,UL⟩) n n,w.alloc (.cells (madeCells z.cells (n*i.size)) e),?_,jc _ _,hk _ _ ?_ ⟨Kept.push _ _ _,.inr rfl⟩ (bQ _ _) rfl⟩
 ·simp only[bL,execOp,hx,hy];simp[hrun]
 refine⟨by simpa using hb2,((madeCells z.cells (n*Rep.n α)).toList.take (n*Rep.n α)),⟨by simp[size_madeCells],.inr ⟨w.heap.size,n,madeCells z.cells (n*Rep.n α),by simp,?_,by simp,by simp only[maxLen];omega,by simp[size_madeCells],by simp⟩⟩,?_⟩
 ·rw[hsize];exact heap_alloc_new w _
 intro j hj;simp only[RX]at hj;have he:((((madeCells z.cells (n*Rep.n α)).toList.take (n*Rep.n α)).drop (j*Rep.n α)).take (Rep.n α))=z.cells.toList:=by
  have h1:j*Rep.n α+Rep.n α<=n*Rep.n α:=by rw[<-Nat.succ_mul];exact RC _ hj
  refine S5 ?_ λm hm1 hm2=>?_
  ·simp[size_madeCells,hzs];omega
  simp only[RO,RQ]at hm1;simp only[List.getElem_take,TL,madeCells,Array.toList_map,List.getElem_map,Array.toList_range,List.getElem_range];have hm:m<z.cells.size:=by simpa using hm2
  have hmod:(j*Rep.n α+m) % z.cells.size=m:=by rw[hzs,Nat.mul_comm,Nat.mul_add_mod];exact Nat.mod_eq_of_lt U1
  rw[hmod];simp[hm]
 rw[he];simpa using hr
theorem tT{t:TypeId}{x:Operand}{i:Nat}{u:Value}{d:α}(hsz:cU P t=UK (Rep.n α))(hx:asg us x = UN (UK ((slA v).add (i*Rep.n α))))(hy:asg us y=u)(ho:OwnT W h e v l)(hi:i<l.length)(hr:Rd W u d)(hk : ∀h',OwnT W h' e v (l.set i d)->lA h h' v v->K undef h'):step P (.store t x y) ty us h K:=by
 have hcells:Rep.rd W u.cells.toList d/\u.cells.size=Rep.n α:=by
  unfold Rd at hr;split at hr
  ·obtain⟨cs,rfl,h⟩:=hr;exact⟨h,by rw[<-Rep.len h];rfl⟩
  rename_i ha;have hone:=Rep.one (α:=α) (by simpa using ha);have hfl:=Rep.flat hr u U2;have:u.cells = #[u]:=by cases u<;>first | rfl | simp[Value.oneCell']at hfl
  rw[this];exact⟨by simpa using hr,by simp[hone]⟩
 obtain⟨hbd,xs,⟨hxl,hown⟩,hel⟩:=ho;refine df (pM λw hw=>?_);subst hw;rcases hown with⟨rfl,hn⟩ | ⟨g,cap,cur,rfl,hg,h1,h2,h3,h4⟩
 ·omega
 have hle:i*Rep.n α+Rep.n α<=l.length*Rep.n α:=by rw[<-Nat.succ_mul];exact RC _ hi
 have hcap:l.length*Rep.n α<=cap*Rep.n α:=RC _ h1;have hlen:u.cells.toList.length=Rep.n α:=by simpa using hcells.2
 have hrun:=run_storeCells_at P g (i*Rep.n α) e u.cells.toList 0 cur w hg (by simp only[Nat.add_zero];omega) (λc hc=>Rep.flat hcells.1 c hc);have hadd:(slA (UM (UK ⟨g,0,UL⟩) l.length cap)).add (i*Rep.n α)=⟨g,i*Rep.n α,UL⟩:=by show(⟨g,0,UL⟩:Addr).add _=_;rw[bC rfl];simp
 have hszr:=run_sizeOf (P:=P) (w:=w) hsz;obtain⟨row,hrow⟩ : ∃row:Array Value,row.toList=cur.toList.take (i*Rep.n α)++u.cells.toList++cur.toList.drop (i*Rep.n α+Rep.n α):=⟨(cur.toList.take (i*Rep.n α)++u.cells.toList++cur.toList.drop (i*Rep.n α+Rep.n α)).toArray,rfl⟩;have hrun':Sem.run P (storeCells ⟨g,i*Rep.n α,UL⟩ u.cells.toList) w = .ok () (w.setRow g row):=by rw[hrun];congr 2;rw[<-Array.toList_inj,hrow,hlen];rfl
 have hrsz:row.size=cap*Rep.n α:=by have:=congrArg List.length hrow;simp only[S4,Rl,RO,RQ,hcells.2]at this;omega
 refine⟨w.setRow g row,?_,Same.oQ rfl rfl rfl U2 hg U2 (λk _ hne=>setRow_other w g k _ (λe=>hne e)),hk (w.setRow g row).heap ⟨by simpa using hbd,xs.take (i*Rep.n α)++u.cells.toList++xs.drop (i*Rep.n α+Rep.n α),⟨?_,.inr ⟨g,cap,row,by simp,setRow_heap w g cur row e _ hg,by simpa using h1,h2,?_,?_⟩⟩,?_⟩ ⟨⟨by simp,λk hk hne=>setRow_other w g k _ (λe=>hne (by simp[Value.ownBlock,e]))⟩,.inl rfl⟩⟩
 ·simp only[bL,execOp,hx,hy,hadd];simp[Instr.storeAt,Instr.sureAddr,storeVar,hszr,hcells.2,hrun']
 ·simp only[Rl,RO,RQ,hlen,RL];omega
 ·exact hrsz
 ·simp only[RL];rw[hrow,<-h4,Sy,Sv U1,Rn,Rn];have e1:(cur.toList.take (i*Rep.n α)).length=i*Rep.n α:=by simp;omega
  rw[SS,e1,Rq U1];congr 1;rw[SS,hlen,Rq U1];congr 1;rw[Sx];congr 1;omega
 intro j hj;simp only[RL]at hj;have hjle:j*Rep.n α+Rep.n α<=l.length*Rep.n α:=by rw[<-Nat.succ_mul];exact RC _ hj
 have e1:(xs.take (i*Rep.n α)).length=i*Rep.n α:=by simp;omega
 by_cases hij:i=j
 ·subst hij;rw[Rn,S6,e1,RN U1,RV,Tw,SM,RW U1,Rq U1];simpa using hcells.1
 have hset:(l.set i d)[j]'(by simpa using hj)=l[j]:=by simp[hij]
 rw[hset];have:((xs.take (i*Rep.n α)++u.cells.toList++xs.drop (i*Rep.n α+Rep.n α)).drop (j*Rep.n α)).take (Rep.n α)=(xs.drop (j*Rep.n α)).take (Rep.n α):=by
  rcases Ri j i with hlt | hge
  ·have h5:j*Rep.n α+Rep.n α<=i*Rep.n α:=by rw[<-Nat.succ_mul];exact RC _ hlt
   rw[Rn,Sj U1,RW U9,Sx,Sy,Sv U1]
  have h5:i*Rep.n α+Rep.n α<=j*Rep.n α:=by rw[<-Nat.succ_mul];exact RC _ U1
  have e2:(xs.take (i*Rep.n α)++u.cells.toList).length=i*Rep.n α+Rep.n α:=by rw[Rl,e1,hlen]
  rw[S6,RN U1,RV,e2,SU];congr 2;omega
 rw[this];exact hel j hj
end
end
section
variable{po po2 po3:OP}{pp:PP}
def up{β:Type}(f:Nat->β->β):Nat->β->β
 | 0,x=>x
 | k+1,x=>f k (up f k x)
def Old(V:View)(h0:Heap)(W:View):Prop:=∀b o,b<h0.size->W b=UK o->V b=UK o
theorem Old.refl(V:View)(h0:Heap):Old V h0 V:=λ_ _ _ h=>h
theorem Old.nothing(V:View)(h0:Heap):Old V h0 nothing:=λ_ _ _ h=>by cases h
theorem Old.grow{V W:View}{h0 h1 h2:Heap}(o:Old V h0 W)(hs:h0.size<=h1.size):Old V h0 (grow W h1 h2):=λb x hb hx=>by unfold Lft.grow at hx;rw[if_pos U1]at hx;exact o b x hb hx
theorem Old.le{V W:View}{h0 h:Heap}(o:Old V h0 W)(hw:W.le (vw h)):W.le (Lft.grow V h0 h):=λb x hx=>by
 unfold Lft.grow;split
 ·exact o b x (by assumption) hx
 exact hw b x hx
variable{H:View}
@[simp] theorem cW:nothing.le H:=λ_ _ h=>by cases h
theorem J8(h h':Heap):fresh h h'=Lft.grow nothing h h':=by funext b;unfold fresh Lft.grow;rfl
section
variable{α:Type}[Rep α]{V W:View}{h0 h h':Heap}{e:TypeId}{v:Value}{l:List α}
theorem OwnT.lt(o:OwnT W h e v l){b:Nat}(hb:v.ownBlock=UK b):b<h.size:=by
 obtain⟨_,xs,⟨_,hown⟩,_⟩:=o;rcases hown with⟨rfl,_⟩ | ⟨g,cap,cur,rfl,hg,_⟩
 ·simp[Value.ownBlock]at hb
 simp only[Value.ownBlock,Q2]at hb;subst hb;exact(Rk.1 hg).1
theorem OwnT.now(o:OwnT W h e v l)(hw:W.le (vw h)):SlRd (vw h) v l:=o.rd hw λ_ _=>rfl
theorem OwnT.grown(o:OwnT W h e v l)(hw:W.le (vw h))(ho:Old V h0 W)(ha:Av (vw h0) v):SlRd (Lft.grow V h0 h) v l:=by
 refine o.rd (ho.le hw) λb hb=>?_;have:=ha b hb;simp only[vw]at this;have hge:h0.size<=b:=by
  rcases Ri b h0.size with h | h
  ·simp[h]at this
  exact h
 simp only[Lft.grow,if_neg (Us.2 hge)]
theorem Av.grow(ha:Av W v)(hl : ∀b,v.ownBlock=UK b->b<h.size):Av (Lft.grow W h h') v:=λb hb=>by unfold Lft.grow;rw[if_pos (hl b hb)];exact ha b hb
structure Mine(V:View)(h0 h:Heap)(W:View)(e:TypeId)(v:Value)(l:List α):Prop where
 old:(vw h0).le (vw h)
 wle:W.le (vw h)
 av:Av W v
 av0:Av (vw h0) v
 agree:Old V h0 W
 own:OwnT W h e v l
theorem Mine.start(hV:V.le (vw h)):Mine (α:=α) V h h V e (UM UL 0 0) []:=
 ⟨View.le_refl _,hV,Av.nil _ _ _,Av.nil _ _ _,Old.refl _ _,OwnT.nil ..⟩
theorem Mine.ext(m:Mine V h0 h W e v l)(k:(vw h).le (vw h')):Mine V h0 h' (Lft.grow W h h') e v l:=
 ⟨UF m.old k,kR (UF m.wle k),m.av.grow λ_ hb=>m.own.lt hb,m.av0,m.agree.grow (bO m.old),(m.own.ext k).mono (bo m.wle)⟩
theorem Mine.ext'(m:Mine V h0 h W e v l)(k:(vw h).le (vw h')):Mine V h0 h' W e v l:=
 ⟨UF m.old k,UF m.wle k,m.av,m.av0,m.agree,m.own.ext k⟩
theorem Mine.result(m:Mine V h0 h W e v l):SlRd (Lft.grow V h0 h) v l:=m.own.grown m.wle m.agree m.av0
theorem Mine.fresh(m:Mine nothing h0 h W e v l):SlRd (Lft.fresh h0 h) v l:=by rw[J8];exact m.result
theorem Mine.now(m:Mine V h0 h W e v l):SlRd (vw h) v l:=m.own.now m.wle
theorem Mine.gA{v':Value}{l':List α}(m:Mine V h0 h W e v l)(o:OwnT W h' e v' l')(k:lA h h' v v'):Mine V h0 h' W e v' l':=
 let ⟨a1,a2⟩:=k.view m.wle m.av
 let ⟨b1,b2⟩:=k.view m.old m.av0
 ⟨b1,a1,a2,b2,m.agree,o⟩
variable{P:Program}{ty ty2:TypeId}{bytes:Nat}{y:Operand}{us:List (Nat × Value)}{us2:Value->List (Nat × Value)}
theorem Mine.push{t:TypeId}{z:Value}{x y2:Operand}{u:Value}{d:α}{K:Value->Value->Heap->Prop}(m:Mine V h0 h W e v l)(hT:eF P t e (Rep.n α) bytes z)(hx:asg us x=u)(hr:Rd W u d)(hb:(l.length+1)*bytes<=140737488355328)(hb2:l.length+1<=140737488355328)(hy : ∀u,asg (us2 u) y=v)(hy2 : ∀u,asg (us2 u) y2=u)(hk : ∀u v' h',Mine V h0 h' W e v' (l++[d])->K u v' h'):
  @step po P (.buildSlice t 1 #[(0,x)]) ty us h λu h2=>@step po2 P (.call ⟨.builtin .append,#[y,y2],#[t,t]⟩) ty2 (us2 u) h2 λv' h3=>K u v' h3:=by refine mC hT hx hr λu h2 hs hle _=>?_;have m2:=m.ext' hle;exact dA hT (hy u) (hy2 u) m2.own hs hb hb2 λv' h3 ho hm=>hk u v' h3 (m2.gA ho hm)
variable{n:Nat}{K:Value->Heap->Prop}
theorem Mine.made{t:TypeId}{z:Value}{x:Operand}{k:IntKind}{d:α}(hT:eF P t e (Rep.n α) bytes z)(hle:(vw h0).le (vw h))(hW:W.le (vw h))(ho:Old V h0 W)(hx:asg us x = .int k n)(hy:asg us y = .int k n)(hr:Rep.rd W z.cells.toList d)(hb:bytes*n<=140737488355328)(hb2:n<=140737488355328)(hk : ∀v' h',Mine V h0 h' W e v' (List.replicate n d)->(vw h).le (vw h')->v'.ownBlock=UK h.size->K v' h'):step P (.makeSlice t x y) ty us h K:=
 oz hT hx hy hr hb hb2 λv' h' ow mv le hb=>hk v' h' ⟨UF hle le,UF hW le,λb hb'=>by rw[hb]at hb';cases hb';exact View.b8 hW (Q4 _),λb hb'=>by rw[hb]at hb';cases hb';exact View.b8 hle (Q4 _),ho,ow⟩ le hb
theorem Mine.put{t:TypeId}{x:Operand}{i:Nat}{u:Value}{d:α}(m:Mine V h0 h W e v l)(hsz:cU P t=UK (Rep.n α))(hx:asg us x = UN (UK ((slA v).add (i*Rep.n α))))(hy:asg us y=u)(hi:i<l.length)(hr:Rd W u d)(hk : ∀h',Mine V h0 h' W e v (l.set i d)->K undef h'):step P (.store t x y) ty us h K:=
 tT hsz hx hy m.own hi hr λh' ho hm=>hk h' (m.gA ho hm)
theorem Mine.put1{t:TypeId}{x:Operand}{i:Nat}{u:Value}{d:α}(m:Mine V h0 h W e v l)(hsz:cU P t=UK (Rep.n α))(hn:Rep.n α=1)(hx:asg us x = UN (UK ((slA v).add i)))(hy:asg us y=u)(hi:i<l.length)(hr:Rd W u d)(hk : ∀h',Mine V h0 h' W e v (l.set i d)->K undef h'):step P (.store t x y) ty us h K:=
 m.put hsz (i:=i) (by rw[hn,RY];exact hx) hy hi hr hk
end
variable{β:Type}
theorem HD{f:Nat->List β->List β}{m:Nat}(hf : ∀k x,(f k x).length<=x.length+m)(n:Nat)(x:List β):(up f n x).length<=x.length+n*m:=by
 induction n with
 | zero=>simp[up]
 | succ n ih=>have:=hf n (up f n x);rw[up,Sb];omega
def sift{β:Type}(p:Nat->Bool)(x:Nat->β)(n:Nat):List β:=up (λb l=>if p b then l++[x b] else l) n []
theorem rX{p:Nat->Bool}{x:Nat->β}(n:Nat):(sift p x n).length<=n:=by have:=HD (f:=λb l=>if p b then l++[x b] else l) (m:=1) (λk x=>by split<;>simp) n [];simpa[sift]using this
variable{n:Nat}
theorem oZ{p:Nat->Bool}{x:Nat->β}(h:p n=UO):sift p x (n+1)=sift p x n++[x n]:=by rw[sift,up,if_pos h];rfl
theorem nV{p:Nat->Bool}{x:Nat->β}(h:p n=UP):sift p x (n+1)=sift p x n:=by rw[sift,up,if_neg (by simp[h])];rfl
def rows{β:Type}(x:Nat->β)(n:Nat):List β:=(List.range n).map x
theorem fB{x:Nat->β}:rows x (n+1)=rows x n++[x n]:=by simp[rows,SA]
@[simp] theorem pG{x:Nat->β}:(rows x n).length=n:=by simp[rows]
@[simp] theorem Pw{x:Nat->β}:rows x 0=[]:=rfl
@[simp] theorem Pe{p:Nat->Bool}{x:Nat->β}:sift p x 0=[]:=rfl
theorem sB{p:Nat->Bool}{x:Nat->β}:sift p x n=((List.range n).filter p).map x:=by
 induction n with
 | zero=>rfl
 | succ n ih=>
  rw[SA,SK,Tj,<-ih];cases h:p n with
  | true=>rw[oZ h];simp[h]
  | false=>rw[nV h];simp[h]
theorem z6{x:Nat->β}{d:β}{k:Nat}(hk:k<n):(rows x k++List.replicate (n-k) d).set k (x k)=rows x (k+1)++List.replicate (n-(k+1)) d:=by
 have e:n-k=(n-(k+1))+1:=by omega
 rw[List.set_append_right _ _ U2,pG,Tw,e,List.replicate_succ,List.set_cons_zero,fB,Rn];rfl
theorem gH[Inhabited β]{x:Nat->β}{i:Nat}(h:i<n):nth (rows x n) i=x i:=by rw[aC (by simpa using h)];simp[rows]
theorem zz{h h1 h2:Heap}(hle:(vw h).le (vw h1)):(fresh h1 h2).le (fresh h h2):=λb o hb=>by
 have:=bO hle;unfold fresh at hb ⊢;split at hb
 ·cases hb
 rw[if_neg U1];exact hb
variable{P:Program}{size bytes:Nat}
theorem gp{t e:Nat}{z:Value}(ht:P.underlying t=UK (.slice e))(h:(P.info? e).map (λi=>(i.zero,i.size,i.bytes))=UK (UK z,size,bytes))(hz:z.cells.size=size)(hs:0<size/\size<=1000):eF P t e size bytes z:=by simp only[Q6,SF]at h;obtain⟨i,h1,h2,h3,h4⟩:=h;exact⟨ht,⟨i,h1,h2,h3,h4⟩,hz,hs.1,hs.2⟩
theorem rB{a:Int}(h0:-9223372036854775808<=a)(h1:a<=9223372036854775807):Rd H (UH UI a) a:=bw.2 ⟨rfl,h0,h1⟩
variable{b:Bool}
theorem OV:Rd H (.bool b) b:=qn.2 rfl
end
section
variable{po:OP}{pp:PP}
variable{ρ:Env}
theorem ag{ts:List Nat}{u:Nat}:look (cJ ρ ts) u=if ts.contains u then UL else look ρ u:=by
 induction ρ with
 | nil=>simp
 | cons p ρ ih=>
  obtain⟨k,x⟩:=p;rw[nK];by_cases hk:ts.contains k=UO
  ·simp only[hk,if_true,ih,wP];split
   ·rfl
   rename_i h;split
   ·rename_i e;subst e;exact absurd hk h
   rfl
  rw[if_neg hk,wP,wP,ih];by_cases h1:k=u
  ·subst h1;rw[if_pos rfl,if_pos rfl,if_neg hk]
  rw[if_neg h1,if_neg h1]
theorem pk{ρ ρ':Env} : ∀{ks:List Nat},(∀t∈ks,look ρ t=look ρ' t)->aX ks ρ=aX ks ρ'
 | [],_=>rfl
 | k::ks,h=>by have ih:aX ks ρ=aX ks ρ':=pk λt ht=>h t (Q7 _ ht);simp only[aX,h k Rm,ih]
theorem nE{ts:List Nat}(h : ∀p∈ρ,ts.contains p.1=UP):cJ ρ ts=ρ:=by
 induction ρ with
 | nil=>rfl
 | cons p ρ ih=>obtain⟨k,x⟩:=p;have h1:=h (k,x) Rm;simp only at h1;rw[nK,h1,if_neg U2,ih (λp hp=>h p (Q7 _ hp))]
theorem nu{t:Nat}{v:Value}(h : ∀p∈ρ,p.1≠t):cJ (setE ρ t v) [t]=ρ:=by
 have hid:cJ ρ [t]=ρ:=nE λp hp=>by simpa using λe=>h p hp e
 induction ρ with
 | nil=>simp[setE]
 | cons p ρ ih=>
  obtain⟨k,x⟩:=p;have hk:=h (k,x) Rm;simp only at hk;have hid2:cJ ρ [t]=ρ:=nE λp hp=>by simpa using λe=>h p (Q7 _ hp) e
  simp only[setE,if_neg hk];split
  ·rw[nK,if_pos U2,hid]
  rw[nK,if_neg (by simpa using hk),ih (λp hp=>h p (Q7 _ hp)) hid2]
theorem oI{X Y:Env->Heap->Prop}{R:Post}:fJ X (fJ Y R)=fJ X R:=by funext e ρ h;cases e<;>rfl
abbrev forL(a i c:Nat)(ks ks2:List Nat)(bound:E)(body:LC):LC:=
 .loop (.seq (.seq (.reg UP (.fin ks [(c,.bin (.cmp .lss) (.tmp i) bound)] [])) (.cond (.tmp c) [c] .skip (.exit a)))
  (.seq body (.reg UP (.fin ks2 [(i,.bin (.arith .add) (.tmp i) (.con (UH UI 1)))] []))))
def xr(kp ks ks2:List Nat)(c i:Nat):Bool:=kp.all λt=>!ks.contains t&&t != c&&(t == i||!ks2.contains t)
theorem zip_fst{kp:List Nat}{vs:List Value}{p:Nat × Value}(h:p∈kp.zip vs):p.1∈kp:=(List.of_mem_zip h).1
variable{P:Program}{body:LC}
theorem cL{Q:Post}{h:Heap}{a i c:Nat}{ks ks2:List Nat}{bound:E}{σ:Type}(kp:List Nat)(vals:σ->Nat->List Value)(J:σ->Nat->Heap->Prop)(n:Nat)(s0:σ)(hok:xr kp ks ks2 c i=UO)(hn:n<=9223372036854775806)(h0:aX kp ρ=kp.zip (vals s0 0))(hj:J s0 0 h)(hi : ∀s k,look (kp.zip (vals s k)) i=UK (UH UI k))(hb : ∀s k h,k<=n->J s k h->ev (look (kp.zip (vals s k))) (vw h) bound=UK (UH UI n))(round : ∀s k h,k<n->J s k h->∀K:Env->Heap->Prop,(∀s' ρ' h',look ρ' i=UK (UH UI k)->aX kp (setE ρ' i (UH UI ((k:Int)+1)))=kp.zip (vals s' (k+1))->J s' (k+1) h'->K ρ' h')->body.wp P (fJ K (dT a Q)) (kp.zip (vals s k)) h)(done : ∀s h,J s n h->Q .normal (kp.zip (vals s n)) h):LC.wp P (forL a i c ks ks2 bound body) (dT a Q) ρ h:=by
 simp only[xr,RS,Q9,Sr,bne_iff_ne,Sa,beq_iff_eq,ne_eq]at hok;refine ik kp (λm ρ h=>∃s k,k<=n/\ρ=kp.zip (vals s k)/\m=n-k/\J s k h) n ⟨s0,0,by omega,h0,by omega,hj⟩ ?_;rintro m ρ h ⟨s,k,hk,rfl,rfl,hJ⟩ K hK;have hkill:cJ (kp.zip (vals s k)) ks=kp.zip (vals s k):=nE λp hp=>(hok p.1 (zip_fst hp)).1.1;have hne : ∀p∈kp.zip (vals s k),p.1≠c:=λp hp=>(hok p.1 (zip_fst hp)).1.2;have hk2 : ∀v,cJ (setE (kp.zip (vals s k)) c v) [c]=kp.zip (vals s k):=λv=>nu hne;have hlk : ∀v,look (setE (kp.zip (vals s k)) c v) c=UK v:=λv=>by rw[af,if_pos rfl]
 simp only[uV,mX,kJ,iF,ml,n7,ni,qX,hi,hb s k h hk hJ,RD,Jy,lh,oe,true_and,dE,hkill,gr,nB,hlk,mU,hk2,uC,uZ,qv,pN,if_true];refine⟨λhlt=>?_,λhge=>?_⟩
 ·have hlt':k<n:=by omega
  rw[oI];refine round s k h hlt' hJ _ λs' ρ' h' hl he hJ'=>?_;simp only[mX,kJ,iF,ml,n7,ni,qX,hl,oe,true_and,RD,CL,RD,BK,lh,dE,gr,true_and];rw[bc U1 U1];refine hK (n-(k+1)) _ _ U1 ⟨s',k+1,by omega,?_,rfl,hJ'⟩;rw[<-he];refine pk λt ht=>?_;rw[af,af,ag];split
  ·rfl
  rename_i hti;rcases(hok t ht).2 with e | e
  ·exact absurd e.symm hti
  rw[e];rfl
 have:k=n:=by omega
 subst this;exact done s h hJ
abbrev forR(a i c:Nat)(ks ks2:List Nat)(bound:E)(body:LC):LC:=
 .loop (.seq (.reg UP (.fin ks [(c,.bin (.cmp .lss) (.tmp i) bound)] [])) (.seq (.cond (.tmp c) [c] .skip (.exit a))
  (.seq body (.reg UP (.fin ks2 [(i,.bin (.arith .add) (.tmp i) (.con (UH UI 1)))] [])))))
theorem aG{Q:Post}{h:Heap}{a i c:Nat}{ks ks2:List Nat}{bound:E}{σ:Type}(kp:List Nat)(vals:σ->Nat->List Value)(J:σ->Nat->Heap->Prop)(n:Nat)(s0:σ)(hok:xr kp ks ks2 c i=UO)(hn:n<=9223372036854775806)(h0:aX kp ρ=kp.zip (vals s0 0))(hj:J s0 0 h)(hi : ∀s k,look (kp.zip (vals s k)) i=UK (UH UI k))(hb : ∀s k h,k<=n->J s k h->ev (look (kp.zip (vals s k))) (vw h) bound=UK (UH UI n))(round : ∀s k h,k<n->J s k h->∀K:Env->Heap->Prop,(∀s' ρ' h',look ρ' i=UK (UH UI k)->aX kp (setE ρ' i (UH UI ((k:Int)+1)))=kp.zip (vals s' (k+1))->J s' (k+1) h'->K ρ' h')->body.wp P (fJ K (dT a Q)) (kp.zip (vals s k)) h)(done : ∀s h,J s n h->Q .normal (kp.zip (vals s n)) h):LC.wp P (forR a i c ks ks2 bound body) (dT a Q) ρ h:=by
 simp only[xr,RS,Q9,Sr,bne_iff_ne,Sa,beq_iff_eq,ne_eq]at hok;refine ik kp (λm ρ h=>∃s k,k<=n/\ρ=kp.zip (vals s k)/\m=n-k/\J s k h) n ⟨s0,0,by omega,h0,by omega,hj⟩ ?_;rintro m ρ h ⟨s,k,hk,rfl,rfl,hJ⟩ K hK;have hkill:cJ (kp.zip (vals s k)) ks=kp.zip (vals s k):=nE λp hp=>(hok p.1 (zip_fst hp)).1.1;have hne : ∀p∈kp.zip (vals s k),p.1≠c:=λp hp=>(hok p.1 (zip_fst hp)).1.2;have hk2 : ∀v,cJ (setE (kp.zip (vals s k)) c v) [c]=kp.zip (vals s k):=λv=>nu hne;have hlk : ∀v,look (setE (kp.zip (vals s k)) c v) c=UK v:=λv=>by rw[af,if_pos rfl]
 simp only[uV,mX,kJ,iF,ml,n7,ni,qX,hi,hb s k h hk hJ,RD,Jy,lh,oe,true_and,dE,hkill,gr,nB,hlk,mU,hk2,uC,uZ,qv,pN,if_true];refine⟨λhlt=>?_,λhge=>?_⟩
 ·have hlt':k<n:=by omega
  rw[oI];refine round s k h hlt' hJ _ λs' ρ' h' hl he hJ'=>?_;simp only[mX,kJ,iF,ml,n7,ni,qX,hl,oe,true_and,RD,CL,RD,BK,lh,dE,gr,true_and];rw[bc U1 U1];refine hK (n-(k+1)) _ _ U1 ⟨s',k+1,by omega,?_,rfl,hJ'⟩;rw[<-he];refine pk λt ht=>?_;rw[af,af,ag];split
  ·rfl
  rename_i hti;rcases(hok t ht).2 with e | e
  ·exact absurd e.symm hti
  rw[e];rfl
 have:k=n:=by omega
 subst this;exact done s h hJ
theorem aK{Q:Post}{h:Heap}{r:Reg}(H:View)(hH:H.le (vw h))(hw:eV P (UK H) r (Q .normal) ρ h):LC.wp P (.reg UO r) Q ρ h:=⟨H,View.yC hH,kC (λ_ _=>View.yC) hw⟩
theorem Ij{Q:Post}{h:Heap}{r:Reg}(H:View)(hH:H.sub (vw h))(hw:dd View.sub P (UK H) r (Q .normal) ρ h):LC.wp P (.reg UO r) Q ρ h:=⟨H,hH,hw⟩
end
section
variable{po po2 po3:OP}{pp:PP}
variable{n:Nat}
@[simp] theorem Pz{b o:Nat}:(⟨b,o,UL⟩:Addr).add n=⟨b,o+n,UL⟩:=bC rfl n
variable{H:View}
@[simp] theorem Pu{a:Addr}:Un.ev H .nilPtr (UN (UK a))=UK (UN (UK a)):=rfl
@[simp] theorem QC{a:Addr}{o:Nat}:Un.ev H (.fld o) (UN (UK a))=UK (UN (UK (a.add o))):=rfl
@[simp] theorem Qu{k q:IntKind}{a:Int}:Un.ev H (.conv k) (.int q a)=UK (.int k (k.wrap a)):=rfl
variable{cs:Array Value}
@[simp] theorem Qr{o:Nat}:Un.ev H (.part o) (.agg cs)=cs[o]?:=rfl
@[simp] theorem PD{o:Nat}:Un.ev H (.parts o n) (.agg cs)=UK (.agg (cs.extract o (o+n))):=rfl
@[simp] theorem QH{o:Nat}:Un.ev H (.ext o) (.tuple cs)=cs[o]?:=rfl
def NR:Value->Value->Option Value
 | .tuple vs,u=>UK (.tuple (vs.push u))
 | _,_=>UL
@[simp] theorem N0{vs:Array Value}{u:Value}:NR (.tuple vs) u=UK (.tuple (vs.push u)):=rfl
@[simp] theorem Pb{σ:Nat->Option Value}{x y:E}:ev σ H (.snoc x y)=(ev σ H x).bind λv=>(ev σ H y).bind λu=>NR v u:=by
 simp only[ev];cases hx:ev σ H x with
 | none=>rfl
 | some v=>
  cases hy:ev σ H y with
  | none=>cases v<;>rfl
  | some u=>cases v<;>rfl
@[simp] theorem QV{f:Nat}{vs:Array Value}:Un.ev H (.fn f) (.tuple vs)=UK (.func (.func f) #[] vs):=rfl
@[simp] theorem Pk:(Value.agg cs).cells=cs:=rfl
@[simp] theorem NV{a:Option Addr}{c:Nat}:(Value.slice a n c).cells = #[.slice a n c]:=rfl
@[simp] theorem Ps{k:IntKind}{n:Int}:(UH k n).cells = #[.int k n]:=rfl
variable{b:Bool}
@[simp] theorem Ol:(Value.bool b).cells = #[.bool b]:=rfl
@[simp] theorem Ln{a:Option Addr}:(Value.pointer a).cells = #[.pointer a]:=rfl
def GK(P:Program)(t:TypeId):Option (List (Nat × Nat)):=
 match P.underlying t with
 | some (.struct fields)=>fields.toList.mapM λf=>(cU P f.type).map λn=>(f.offset,n)
 | some (.array k e)=>(cU P e).map λn=>(List.range k).map λi=>(i*n,n)
 | _=>UL
section
variable{P:Program}{ty:TypeId}{us:List (Nat × Value)}{h:Heap}{K:Value->Heap->Prop}
theorem Ai{f g:Nat->Option (Nat × Nat)}(hfg : ∀i p,f i=UK p->g i=UK p) : ∀{vs:List (Nat × Value)} {c cs:Array Value},Instr.fill f c vs=UK cs->Instr.fill g c vs=UK cs
 | [],c,cs,h=>h
 | (i,v)::vs,c,cs,h=>by
  simp only[Instr.fill]at h ⊢;split at h
  ·cases h
  rename_i off size hi;rw[hfg i _ hi];simp only;split at h
  ·cases h
  rename_i hc;rw[if_neg hc];exact Ai hfg h
theorem run_places{w:World} : ∀{fs:List Field} {ps:List (Nat × Nat)},(fs.mapM λf=>(cU P f.type).map λn=>(f.offset,n))=UK ps->
  (fs.mapM fun(f:Field)=>Prod.mk f.offset <$> sizeOf f.type).run P w=Result.ok ps w
 | [],ps,h=>by simp at h;subst h;simp
 | f::fs,ps,h=>by simp only[Uy,Option.bind_eq_bind,Ro,Q6]at h;obtain⟨p,⟨n,hn,rfl⟩,ps',h2,h3⟩:=h;simp only[Option.pure_def,Q2]at h3;subst h3;have ih:=run_places (w:=w) h2;simp[Uy,Sem.run_bind,run_sizeOf hn,ih]
theorem aA{t:TypeId}{ps:Array (Nat × Operand)}{vs:List (Nat × Value)}{z:Value}{places:List (Nat × Nat)}(hz:(P.info? t).map (·.zero)=UK (UK z))(hpl:GK P t=UK places)(hp:ps.map (λp=>(p.1,asg us p.2))=vs.toArray)(hf:Instr.fill (places[·]?) z.cells vs=UK cs)(hk:K (.agg cs) h):step P (.build t ps) ty us h K:=by
 refine df (cB λw hw=>⟨.agg cs,w,?_,Same.refl _,by rw[hw];exact hk⟩);have hp':(ps.map λx=>match x with | (i,x)=>(i,asg us x))=vs.toArray:=hp;simp only[Q6]at hz;obtain⟨i,hi,hz⟩:=hz;simp only[bL,execOp,hp'];unfold GK at hpl;split at hpl
 ·rename_i fields hu;have hr:=run_places (P:=P) (w:=w) hpl;have hr2:(fields.mapM fun(f:Field)=>Prod.mk f.offset <$> sizeOf f.type).run P w=Result.ok places.toArray w:=by rw[Uh];simp only[Sem.run_map];erw [hr];rfl
  have hf':Instr.fill (places.toArray[·]?) z.cells vs=UK cs:=by simpa using hf
  simp[Instr.build,zeroValue,typeInfo,hi,hz,run_underlying hu,hr2,hf',hf]
 ·rename_i k e hu;simp only[Q6]at hpl;obtain⟨n,hn,rfl⟩:=hpl;have hf':=Ai (g:=λi=>UK (i*n,n)) (λi p hp=>by
   simp only[SH,Q6]at hp;obtain⟨j,hj,rfl⟩:=hp;rcases Ri i k with hlt | hge
   ·rw[List.getElem?_range hlt]at hj;cases hj;rfl
   rw[RP (by simpa using hge)]at hj;cases hj) hf;simp[Instr.build,zeroValue,typeInfo,hi,hz,run_underlying hu,run_sizeOf hn,hf']
 cases hpl
variable{size bytes:Nat}
theorem ti{t e:TypeId}{z:Value}{ps:Array (Nat × Operand)}{vs:List (Nat × Value)}(hT:eF P t e size bytes z)(hn:n*size<=16777216)(hp:ps.map (λp=>(p.1,asg us p.2))=vs.toArray)(hf:Instr.fill (λj=>UK (j*size,size)) ((Array.range (n*size)).map (z.cells[· % z.cells.size]!)) vs=UK cs)(hk:K (UM (UK ⟨h.size,0,UL⟩) n n) (h.push (.cells cs e))):step P (.buildSlice t n ps) ty us h K:=by obtain⟨ht,⟨i,hi,hz,hsize,hby⟩,_⟩:=hT;exact qE ht hi hz hsize hn hp hf hk
theorem dK{t:TypeId}{z:Value}(hz:(P.info? t).map (·.zero)=UK (UK z))(hk:K (ptz h.size) (h.push (.cells z.cells t))):step P (.alloc t) ty us h K:=by simp only[Q6]at hz;obtain⟨i,hi,hz⟩:=hz;refine df (cB λw hw=>?_);subst hw;refine⟨_,w.alloc (.cells z.cells t),?_,jc _ _,hk⟩;simp only[bL,execOp];simp[Instr.alloc,zeroValue,typeInfo,hi,hz,newVar,newRow]
theorem ey{t:TypeId}{x:Operand}{v:Value}(hx:asg us x=v)(hk:K (ptz h.size) (h.push (.cells v.cells t))):step P (.box t x) ty us h K:=by refine df (cB λw hw=>?_);subst hw;refine⟨_,w.alloc (.cells v.cells t),?_,jc _ _,hk⟩;simp only[bL,execOp];simp[Instr.box,hx,newVar,newRow]
variable{y:Operand}
theorem eh{t e:TypeId}{g o:Nat}{x:Operand}{v:Value}{cur:Array Value}(hsz:cU P t=UK n)(hx:asg us x = UN (UK ⟨g,o,UL⟩))(hy:asg us y=v)(hv:v.cells.size=n)(h1 : ∀c∈v.cells.toList,c.oneCell'=UO)(hg:h[g]? = UK (.cells cur e (0,0)))(hfit:o+n<=cur.size)(hk : ∀h':Heap,h'.size=h.size->(∃row:Array Value,h'[g]? = UK (.cells row e (0,0))/\row.toList=cur.toList.take o++v.cells.toList++cur.toList.drop (o+n))->(∀k,k≠g->h'[k]? = h[k]?)->K undef h'):step P (.store t x y) ty us h K:=by
 refine df (pM λw hw=>?_);subst hw;have hlen:v.cells.toList.length=n:=by simpa using hv
 have hrun:=run_storeCells_at P g o e v.cells.toList 0 cur w hg (by simp only[Nat.add_zero];omega) h1;obtain⟨row,hrow⟩ : ∃row:Array Value,row.toList=cur.toList.take o++v.cells.toList++cur.toList.drop (o+n):=⟨(cur.toList.take o++v.cells.toList++cur.toList.drop (o+n)).toArray,rfl⟩;have hrun':Sem.run P (storeCells ⟨g,o,UL⟩ v.cells.toList) w = .ok () (w.setRow g row):=by rw[hrun];congr 2;rw[<-Array.toList_inj,hrow,hlen];rfl
 refine⟨w.setRow g row,?_,Same.oQ rfl rfl rfl U2 hg U2 (λk _ hne=>setRow_other w g k _ (λe=>hne e)),hk _ U2 ⟨row,setRow_heap w g cur row e _ hg,hrow⟩ λk hne=>setRow_other w g k _ (λe=>hne e)⟩;simp only[bL,execOp,hx,hy];simp[Instr.storeAt,Instr.sureAddr,storeVar,run_sizeOf (P:=P) (w:=w) hsz,hv,hrun']
variable{ty2:TypeId}{us2:Value->List (Nat × Value)}
theorem wC{t:TypeId}{z:Value}{x:Operand}{v:Value}{K:Value->Heap->Prop}(hz:(P.info? t).map (·.zero)=UK (UK z))(hzc:z.cells.size=1)(hsz:cU P t=UK 1)(hv:v.cells = #[v])(hone:v.oneCell'=UO)(hx : ∀p,asg (us2 p) x=p)(hy : ∀p,asg (us2 p) y=v)(hk : ∀h':Heap,(vw h).le (vw h')->h'.size=h.size+1->h'[h.size]? = UK (.cells #[v] t (0,0))->K (ptz h.size) h'):
  @step po P (.alloc t) ty us h λp h2=>@step po2 P (.store t x y) ty2 (us2 p) h2 λ_ h3=>K p h3:=by
 refine dK hz ?_;refine eh (g:=h.size) (o:=0) (n:=1) (v:=v) (cur:=z.cells) (e:=t) hsz (hx _) (hy _) (by rw[hv];rfl) (by rw[hv];simpa using hone) U2 U1 λh' hs ⟨row,hrow,he⟩ hoth=>?_;have hrow2:row = #[v]:=by rw[<-Array.toList_inj,he,hv];simp only[SV,RV,R1];rw[RN (by simp[hzc])];rfl
 rw[hrow2]at hrow;refine hk h' (λb o hb=>?_) (by rw[hs];simp) hrow;have hlt:=View.lt (View.le_refl (vw h)) hb;show h'[b]? = _;rw[hoth b U1];exact bQ _ _ b o hb
variable{caps:Array Value}
theorem bZ{f:FuncId}{t:Nat}{ops:List Operand}{T:Array TypeId}(hf:asg us (.tmp t) = .func (.func f) #[] caps){R:Value->Heap->Prop}(hfn:isFn P f=UO)(hc:ay P f (ops.map (asg us)++caps.toList).toArray h R)(hk : ∀v h',R v h'->K v h'):step P (.call ⟨.value (.tmp t),ops.toArray,T⟩) ty us h K:=by
 refine df (tN (R:=R) (f:=f) (args:=(ops.map (asg us)++caps.toList).toArray) (λw _=>?_) hc hk);unfold isFn at hfn;cases hfn':P.funcs[f]? with
 | none=>simp[hfn']at hfn
 | some fn=>simp only[hfn',Q9,bne_iff_ne,ne_eq]at hfn;obtain⟨h1,h2⟩:=hfn;simp[bL,execOp,resolve,Deferred.ofValue,hf,invoke,callFunc,program,Sem.run,hfn',h1,Option.isNone];cases hb:fn.body<;>simp[hb]at h2 ⊢
theorem zB{e:TypeId}{w:World}{a b:Int}{ki:IntKind}(he:P.underlying e=UK (.int ki)):(Op.equalIn (n+1) e (.int ki a) (.int ki b)).run P w = .ok (a == b) w:=by simp[Op.equalIn,run_underlying he]
theorem sJ{e:TypeId}{w:World}{o:Nat}{v:Value}(ha:nO P e=UK UP)(hv:cs[o]? = UK v):(Go.part e cs o).run P w = .ok v w:=by simp[Go.part,pj ha,hv]
theorem Ea{t e:TypeId}{w:World}{a b c d:Int}{ki:IntKind}(hu:P.underlying t=UK (.array 2 e))(he:P.underlying e=UK (.int ki))(hs:cU P e=UK 1)(ha:nO P e=UK UP):
  (Op.equal t (.agg #[.int ki a,.int ki b]) (.agg #[.int ki c,.int ki d])).run P w = .ok (a == c&&b == d) w:=by
 simp only[cU,Q6]at hs;obtain⟨i,hi,hs⟩:=hs;have hc:P.cellsOf e=1:=by simp[Program.cellsOf,hi,hs]
 show(Op.equalIn (9999+1) t _ _).run P w=_;rw[run_equalIn_array (P:=P) (w:=w) (d:=9999) (xs:=_) (ys:=_) hu hi,hc];have p0 : ∀{x y:Int},(Go.part e #[.int ki x,.int ki y] 0).run P w = .ok (.int ki x) w:=sJ ha rfl;have p1 : ∀{x y:Int},(Go.part e #[.int ki x,.int ki y] 1).run P w = .ok (.int ki y) w:=sJ ha rfl;simp[SA,Op.eqItems,p0,p1,zB he];by_cases h1:a=c<;>by_cases h2:b=d<;>simp[h1,h2]
end
instance:Rep (Int × Int) where
 n:=2
 agg:=true
 rd:=λ_ cs d=>cs=[UH UI d.1,UH UI d.2]/\(-9223372036854775808<=d.1/\d.1<=9223372036854775807)/\-9223372036854775808<=d.2/\d.2<=9223372036854775807
 mono:=λ_ h=>h
 len:=λh=>by rw[h.1];rfl
 one:=λh=>by cases h
 flat:=λh u hu=>by rw[h.1]at hu;simp at hu;rcases hu with rfl | rfl<;>rfl
 pos:=by decide
 bT:=λh=>h
theorem sL{v:Value}{d:Int × Int}:Rd H v d↔v = .agg #[UH UI d.1,UH UI d.2]/\(-9223372036854775808<=d.1/\d.1<=9223372036854775807)/\-9223372036854775808<=d.2/\d.2<=9223372036854775807:=by
 simp only[Rd,Rep.agg,Rep.rd,if_true];constructor
 ·rintro⟨cs,rfl,h1,h2⟩;refine⟨?_,h2⟩;congr 1;rw[<-Array.toList_inj,h1]
 rintro⟨rfl,h2⟩;exact⟨_,rfl,rfl,h2⟩
variable{α:Type}
theorem SlRd.idxn[Rep α]{v:Value}{l:List α}(h:SlRd H v l){N:Nat}(hn:Rep.n α=N){k:IntKind}{i:Int}(h0:0<=i)(h1:i<l.length):Bn.ev (.idx N) v (.int k i)=UK (UN (UK ((slA v).add (i.toNat*N)))):=by have:=h.idx (k:=k) h0 h1;rw[hn]at this;exact this
theorem SlRd.GU{K:View}{v:Value}{l:List (Int × Int)}(h:SlRd H v l)(hk:H.le K){i:Nat}(hi:i<l.length):an K (((slA v).add (i*2)).add 0)=UK (UH UI (nth l i).1)/\an K (((slA v).add (i*2)).add 1)=UK (UH UI (nth l i).2):=by obtain⟨cs,h1,h2⟩:=(h.at hi).mono hk;rw[aC hi];obtain⟨e,_⟩:=h2;subst e;exact⟨jf h1 (i:=0) rfl,jf h1 (i:=1) rfl⟩
end
section
variable{po po2 po3:OP}{pp:PP}
variable{P:Program}{K:Value->Heap->Prop}
theorem F5{s:Sem Next}{l:Nat}{vs:List Value}{h:Heap}{R:Bool->Heap->Prop}(hs : ∀w:World,w.heap=h->s.run P w=(Instr.yield l vs.toArray).run P w)(hy:E6 P l vs h R)(hk : ∀b h',R b h'->K (.bool b) h'):iG P s h K:=by intro w hw r o a K' Q' hK hQ;obtain⟨f,tmps,asg,body,h1,h2⟩:=hy w hw;rw[hs w hw,h1];simp only[Oper.uponIn];have h3:RoundIn (Fw r) 0 P l f tmps asg body w _:=h2;refine⟨λh=>by simp[Fw,Fence.wide]at h,h3.mono ?_⟩;rintro e w' ⟨b,rfl,hR,hsame⟩;exact hK _ w' (hk _ _ hR) hsame
variable{ty:TypeId}{us:List (Nat × Value)}
theorem Dx{t l:Nat}{ops:List Operand}{T:Array TypeId}{h:Heap}(hf:asg us (.tmp t) = .func (.yield l) #[] #[]){R:Bool->Heap->Prop}(hy:E6 P l (ops.map (asg us)) h R)(hk : ∀b h',R b h'->K (.bool b) h'):step P (.call ⟨.value (.tmp t),ops.toArray,T⟩) ty us h K:=by refine df (F5 (l:=l) (vs:=ops.map (asg us)) (λw _=>?_) hy hk);simp[bL,execOp,resolve,Deferred.ofValue,hf,invoke]
variable{β:Type}{body:LC}{ρ:Env}
theorem ug{enc:β->List Value}{g:E}{ps:List Nat}{asg:LC}{Q:Post}{h:Heap}{gf:Nat}{caps:List Value}{all:List β}{A:β->Env}(V W0:View)(I:Option Exit->Nat->View->Heap->Prop)(hg:ev (look ρ) (vw h) g=UK (.func (.func gf) #[] caps.toArray))(hf:isFn P gf=UO)(hi:Iter P gf caps V (all.map enc))(hl : ∀x,(enc x).length=ps.length)(hV:V.le W0)(hI : ∀e k,oJ h.size (I e k))(h0:I UL 0 W0 h)(hasg : ∀x h1,@LC.wp noPP P asg (λe ρ1 h2=>e = .normal/\h2=h1/\ρ1=A x) (dE ρ (ps.zip (enc x))) h1)(round : ∀k x W h1,(∀b,b<h.size->W b=W0 b)->all[k]? = UK x->I UL k W h1->∀K:Post,(∀ρ2 h3,I UL (k+1) W h3->K .normal ρ2 h3)->(∀e ρ2 h3,e≠.normal->I (UK e) (k+1) W h3->K e ρ2 h3)->@LC.wp noPP P body K (A x) h1)(done : ∀W h1,(∀b,b<h.size->W b=W0 b)->I UL all.length W h1->Q .normal ρ h1)(left : ∀e k W h1,(∀b,b<h.size->W b=W0 b)->I (UK e) k W h1->Q e ρ h1):LC.wp P (.rangef g ps asg body) Q ρ h:=by
 refine⟨gf,caps,V,W0,all.map enc,I,λk=>match all[k]? with | some x=>A x | none=>[],hg,hf,hi,λvs hvs=>?_,hV,hI,h0,λk vs W h1 ha hk hIk=>?_,λW h1 a b=>done W h1 a (by simpa using b),λe k W h1 _ _=>left e k W h1⟩
 ·obtain⟨x,_,rfl⟩:=Sf.1 hvs;exact hl x
 rw[SH,Q6]at hk;obtain⟨x,hk,rfl⟩:=hk;simp only[hk];refine⟨hasg x h1,round k x W h1 ha hk hIk _ (λρ2 h3 hh=>hh) λe ρ2 h3 hne hh=>?_⟩;cases e<;>first | exact absurd rfl hne | exact hh
theorem SlRd.drop{α:Type}[Rep α]{H:View}{v:Value}{l:List α}(h:SlRd H v l){n:Nat}(hn:n<=l.length){kd:IntKind} : ∃u,Bn.ev (.lo (Rep.n α)) v (.int kd n)=UK u/\SlRd H u (l.drop n):=by
 obtain⟨a,cap,rfl,h1,h2,h3⟩:=h;refine⟨.slice (if cap=n then a else a.map (·.add (n*Rep.n α))) (l.length-n) (cap-n),by simp[Bn.ev,vL,vI,hn],if cap=n then a else a.map (·.add (n*Rep.n α)),cap-n,?_,?_,?_,?_⟩
 ·rw[RQ]
 ·rw[RQ];omega
 ·rw[RQ];omega
 rcases h3 with rfl | ⟨ad,rfl,hs,hat⟩
 ·left;simp
 by_cases hc:cap=n
 ·left;simp;omega
 refine .inr ⟨ad.add (n*Rep.n α),by simp[hc],by rw[bC hs],λi hi=>?_⟩;rw[RQ]at hi;rw[TL];have:=hat (n+i) U1;rw[bC hs]at this ⊢;rw[bC rfl];simpa[Ts,Nat.add_assoc]using this
def but(v:Value)(h:Heap):View:=λb=>if v.ownBlock=UK b then UL else h[b]?
theorem wF{v:Value}{h:Heap}:(but v h).le (vw h):=λb o hb=>by
 unfold but at hb;split at hb
 ·cases hb
 exact hb
theorem Ox{v:Value}{h:Heap}:Av (but v h) v:=λb hb=>by unfold but;rw[if_pos hb]
variable{h':Heap}
theorem D0{v:Value}{h:Heap}(hle:(vw h).le (vw h')):(but v h).le (but v h'):=λb o hb=>by
 unfold but at *;split at hb
 ·cases hb
 rename_i hne;rw[if_neg hne];exact hle b o hb
variable{V:View}
theorem Fc{v:Value}{h:Heap}(hV:V.le (vw h))(ha:Av V v):V.le (but v h):=λb o hb=>by
 unfold but;split
 ·rename_i e;rw[ha b e]at hb;cases hb
 exact hV b o hb
variable{α:Type}{h0:Heap}{W:View}
theorem Mine.beside[Rep α][Rep β]{h:Heap}{e e1:TypeId}{v2 v1 v1':Value}{l2:List α}{l1':List β}(m2:Mine nothing h0 h nothing e v2 l2)(m1:Mine V h0 h' W e1 v1' l1')(mv:lA h h' v1 v1')(ne:v2.ownBlock=UL\/v2.ownBlock≠v1.ownBlock):Mine nothing h0 h' nothing e v2 l2:=
 ⟨m1.old,λ_ _ h=>(by cases h),λ_ _=>rfl,m2.av0,Old.nothing _ _,m2.own.kept mv.kept ne⟩
theorem Mine.over[Rep α]{h:Heap}{e:TypeId}{v:Value}{l:List α}(m:Mine V h0 h nothing e v l):Mine (vw h0) h0 h (but v h) e v l:=
 ⟨m.old,wF,Ox,m.av0,λb o hb hx=>by have h1:=wF b o hx;have h2:h0[b]? = UK h0[b]:=RA hb;have h3:h[b]? = UK h0[b]:=m.old b _ h2;have h4:h[b]? = UK o:=h1;rw[h3]at h4;cases h4;exact h2,m.own.mono (λ_ _ h=>by cases h)⟩
theorem Mine.PS{h:Heap}{e:TypeId}{v:Value}{l:List Int}(m:Mine V h0 h W e v l):Mine nothing h0 h nothing e v l:=
 ⟨m.old,λ_ _ h=>(by cases h),λ_ _=>rfl,m.av0,Old.nothing _ _,m.own⟩
variable{n:Nat}
theorem N9{a:Addr}{c m:Nat}{k:IntKind}{i:Int}(h0:0<=i)(h1:i<n):Bn.ev (.idx m) (UM (UK a) n c) (.int k i)=UK (UN (UK (a.add (i.toNat*m)))):=by simp[Bn.ev,vL,vI,h0,h1]
theorem LP{a:Addr}{c:Nat}{k:IntKind}{i:Int}(h0:0<=i)(h1:i<n):Bn.ev (.idx 1) (UM (UK a) n c) (.int k i)=UK (UN (UK (a.add i.toNat))):=by rw[N9 h0 h1,RY]
variable{H:View}
theorem dg{b o:Nat}{c:Array Value}{T:TypeId}{fz:Nat × Nat}{v:Value}(h:H b=UK (.cells c T fz))(hv:c[o]? = UK v):an H ⟨b,o,UL⟩=UK v:=by simp[an,h,hv]
theorem SlRd.cells{α:Type}[Rep α]{H:View}{v:Value}{l:List α}(h:SlRd H v l):v.cells = #[v]/\v.oneCell'=true:=by obtain⟨a,cap,rfl,_⟩:=h;exact⟨rfl,rfl⟩
theorem nC.ext{h0 h h':Heap}(hs:nC h0.size h h')(hle:(vw h0).le (vw h)):(vw h0).le (vw h'):=λb o hb=>by have hlt:=View.lt (View.le_refl (vw h0)) hb;show h'[b]? = _;rw[hs.same b (.inl hlt)];exact hle b o hb
theorem nC.mh{h:Heap}(hs:nC h0.size h h'):(fresh h0 h).bT.le (fresh h0 h'):=λb o hb=>by
 have h1:=View.mB _ _ hb;have h2 : ∀x,o≠.deferred x:=by intro x e;subst e;unfold View.bT at hb;split at hb<;>cases hb
 unfold fresh at h1 ⊢;split at h1
 ·cases h1
 rename_i hge;rw[if_neg hge,hs.same b (.inr ?_)]
 ·exact h1
 rw[h1];intro e;exact h2 _ (Option.some.inj e)
theorem nC.rd{α:Type}[Rep α]{h0 h h':Heap}{v:Value}{l:List α}(hs:nC h0.size h h')(hr:SlRd (fresh h0 h) v l):SlRd (fresh h0 h') v l:=
 dD.1 ((dD.2 hr).bT.mono hs.mh)
theorem gP{h:Heap}{b:Nat}(hb:b<h.size):grow W h h' b=W b:=by unfold grow;rw[if_pos hb]
theorem oJ.grown{J:View->Heap->Prop}(hJ:oJ n J){h:Heap}(hj:J W h)(hn:n<=h.size)(hle:(vw h).le (vw h')):J (grow W h h') h':=
 hJ.move hj (λb hb=>gP U1) (kR (UF (hJ.le hj) hle)) (λb hb hlt=>⟨(vX hle).block b hlt U2,by rw[gP hlt];exact hb⟩) (bO hle)
variable{bytes:Nat}{y:Operand}
theorem I7{t e:TypeId}{z:Value}{x:Operand}{h:Heap}{k:IntKind}(hT:eF P t e 1 bytes z)(hx:asg us x = .int k n)(hy:asg us y = .int k n)(hz1:z.cells = #[z])(hb:bytes*n<=140737488355328)(hb2:n<=140737488355328)(hk:K (UM (UK ⟨h.size,0,UL⟩) n n) (h.push (.cells (List.replicate n z).toArray e))):step P (.makeSlice t x y) ty us h K:=by
 obtain⟨ht,⟨i,hi,hz,hsize,hby⟩,hzs,hsz,hsmall⟩:=hT;refine df (cB λw hw=>?_);subst hw;have hrun:=run_make (P:=P) w t e i z ht hi hz k k (n:Int) (n:Int) U1 (SR _) (by
  rw[hby];have:((bytes*n:Nat):Int)<=281474976710656:=by omega
  rwa [Int.natCast_mul]at this) U1;simp only[RB,hsize,RY]at hrun
 have hm:madeCells z.cells n=(List.replicate n z).toArray:=by
  rw[hz1];apply Array.ext
  ·simp[madeCells]
  intro j h1 h2;simp[madeCells,Nat.mod_one]
 rw[hm]at hrun;refine⟨_,w.alloc (.cells (List.replicate n z).toArray e),?_,jc _ _,hk⟩;simp only[bL,execOp,hx,hy];simp[hrun]
theorem OwnT.same{α:Type}[Rep α]{W:View}{h h':Heap}{e:TypeId}{v:Value}{l:List α}(o:OwnT W h e v l)(hb : ∀b,v.ownBlock=UK b->h'[b]? = h[b]?):OwnT W h' e v l:=by
 obtain⟨bd,xs,⟨h1,h2⟩,h3⟩:=o;refine⟨bd,xs,⟨h1,?_⟩,h3⟩;rcases h2 with h2 | ⟨g,cap,cur,rfl,hg,h4⟩
 ·exact .inl h2
 exact .inr ⟨g,cap,cur,rfl,(hb g rfl).trans hg,h4⟩
structure Rw{α:Type}[Rep α](W:View)(h:Heap)(ot e:TypeId)(g:Nat)(rv:List Value)(ls:List (List α)):Prop where
 wle:W.le (vw h)
 wg:W g=UL
 blk:h[g]? = UK (.cells rv.toArray ot (0,0))
 len:rv.length=ls.length
 own : ∀i,i<ls.length->OwnT nothing h e (nth rv i) (nth ls i)
 av : ∀i,i<ls.length->Av W (nth rv i)
 ng : ∀i,i<ls.length->(nth rv i).ownBlock≠UK g
 dj : ∀i j,i<ls.length->j<ls.length->i≠j->(nth rv i).ownBlock=UL\/(nth rv i).ownBlock≠(nth rv j).ownBlock
section
variable{α:Type}[Rep α]{W:View}{h h':Heap}{ot e:TypeId}{g:Nat}{rv:List Value}{ls:List (List α)}
theorem Rw.lt(r:Rw W h ot e g rv ls):g<h.size:=(Rk.1 r.blk).1
theorem aE[Inhabited β]{i:Nat}{x:β}(hi:i<n):nth (List.replicate n x) i=x:=by rw[aC (by simpa using hi)];simp
theorem Rw.start(hW:W.le (vw h))(hg:W g=UL)(hb:h[g]? = UK (.cells (List.replicate n (UM UL 0 0)).toArray ot (0,0))):Rw (α:=α) W h ot e g (List.replicate n (UM UL 0 0)) (List.replicate n []):=
 ⟨hW,hg,hb,by simp,λi hi=>by rw[aE (by simpa using hi),aE (by simpa using hi)];exact OwnT.nil ..,λi hi=>by rw[aE (by simpa using hi)];exact Av.nil _ _ _,
  λi hi=>by rw[aE (by simpa using hi)];simp[Value.ownBlock],λi j hi hj _=>by rw[aE (by simpa using hi)];exact .inl rfl⟩
theorem Rw.move(r:Rw W h ot e g rv ls){W':View}(h1:W'.le (vw h'))(h2 : ∀b,W b=UL->b<h.size->h'[b]? = h[b]?/\W' b=UL):Rw W' h' ot e g rv ls:=
 {wle:=h1,wg:=(h2 g r.wg r.lt).2,blk:=(h2 g r.wg r.lt).1.trans r.blk,len:=r.len,ng:=r.ng,dj:=r.dj
  own:=λi hi=>(r.own i hi).same λb hb=>(h2 b (r.av i hi b hb) ((r.own i hi).lt hb)).1
  av:=λi hi b hb=>(h2 b (r.av i hi b hb) ((r.own i hi).lt hb)).2 }
theorem Rw.ext(r:Rw W h ot e g rv ls)(hle:(vw h).le (vw h')):Rw W h' ot e g rv ls:=
 r.move (UF r.wle hle) λb hb hlt=>⟨(vX hle).block b hlt U2,hb⟩
theorem bU[Inhabited β]{l:List β}{i j:Nat}{x:β}(hj:j<l.length):nth (l.set i x) j=if i=j then x else nth l j:=by
 rw[aC (by simpa using hj),List.getElem_set];split
 ·rfl
 rw[aC hj]
theorem Rw.put{h2 h3:Heap}{i:Nat}{v':Value}{l':List α}(r:Rw W h ot e g rv ls)(hi:i<ls.length)(o:OwnT nothing h2 e v' l')(m:lA h h2 (nth rv i) v')(hb:h3[g]? = UK (.cells (rv.set i v').toArray ot (0,0)))(hoth : ∀k,k≠g->h3[k]? = h2[k]?)(hsz:h3.size=h2.size):Rw W h3 ot e g (rv.set i v') (ls.set i l'):=by
 obtain⟨hw',ha'⟩:=m.view r.wle (r.av i hi);have hlt:=r.lt;have ng':v'.ownBlock≠UK g:=by
  rcases m.at_ with e | e
  ·rw[e];exact r.ng i hi
  rw[e];intro e2;cases e2;omega
 have hv' : ∀j,j<ls.length->j≠i->(nth rv j).ownBlock=UL\/(nth rv j).ownBlock≠v'.ownBlock:=by
  intro j hj hne;rcases m.at_ with e | e
  ·rw[e];exact r.dj j i hj hi hne
  right;rw[e];intro e2;have:=(r.own j hj).lt e2;omega
 have rl:=r.len;refine⟨λb x hb=>?_,r.wg,hb,by simp[rl],λj hj=>?_,λj hj=>?_,λj hj=>?_,λj k hj hk hne=>?_⟩
 ·have hne:b≠g:=λe=>by rw[e,r.wg]at hb;cases hb
  show h3[b]? = _;rw[hoth b hne];exact hw' b x hb
 ·rw[RL]at hj;rw[bU U1,bU hj];split
  ·exact o.same λb hb=>hoth b (λe=>ng' (by rw[hb,e]))
  rename_i hne;refine((r.own j hj).kept m.kept (r.dj j i hj hi (λe=>hne e.symm))).same λb hb=>hoth b (λe=>r.ng j hj (by rw[hb,e]))
 ·rw[RL]at hj;rw[bU U1];split
  ·exact ha'
  exact r.av j hj
 ·rw[RL]at hj;rw[bU U1];split
  ·exact ng'
  exact r.ng j hj
 rw[RL]at hj hk;rw[bU U1,bU U1];split
 ·rename_i e1;rw[if_neg U1];rcases hv' k hk U1 with e | e
  ·rcases hb2:v'.ownBlock with _ | b
   ·exact .inl rfl
   right;rw[e];simp
  exact .inr λe2=>e e2.symm
 split
 ·rename_i e1 e2;exact hv' j hj U1
 exact r.dj j k hj hk hne
theorem Rw.rd(r:Rw W h ot e g rv ls){X:View}(hg:X g=h[g]?)(hx : ∀i b,i<ls.length->(nth rv i).ownBlock=UK b->X b=h[b]?)(hb:ls.length<=140737488355328):SlRd X (UM (UK ⟨g,0,UL⟩) ls.length ls.length) ls:=by
 refine⟨UK ⟨g,0,UL⟩,ls.length,rfl,Q4 _,hb,.inr ⟨_,rfl,rfl,λi hi=>?_⟩⟩;rw[bC rfl];have hlen:=r.len;refine⟨[nth rv i],⟨rv.toArray,ot,(0,0),rfl,by rw[hg];exact r.blk,?_⟩,nth rv i,rfl,?_⟩
 ·rw[aC U1];simp only[R1,show Rep.n (List α)=1 from rfl,RY,RZ,TE];have hd:rv.drop i=rv[i]::rv.drop (i+1):=RJ U1;show List.take (0+1) (List.drop i rv)=_;rw[hd];rfl
 rw[<-aC hi];exact(r.own i hi).rd (λ_ _ h=>by cases h) (hx i · hi)
theorem Rw.fresh{h0:Heap}(r:Rw W h ot e g rv ls)(h0W:(vw h0).le W)(hb:ls.length<=140737488355328):SlRd (Lft.fresh h0 h) (UM (UK ⟨g,0,UL⟩) ls.length ls.length) ls:=by
 have key : ∀b,W b=UL->h0.size<=b:=by
  intro b hb;rcases Ri b h0.size with hlt | hge
  ·have:=h0W b h0[b] (RA hlt);rw[hb]at this;cases this
  exact hge
 refine r.rd (by unfold Lft.fresh;rw[if_neg (Us.2 (key g r.wg))]) (λi b hi hbb=>by unfold Lft.fresh;rw[if_neg (Us.2 (key b (r.av i hi b hbb)))]) hb
end
def skip(B:Nat)(h:Heap):View:=λb=>if b=B then UL else h[b]?
theorem dk{B:Nat}{h:Heap}:(skip B h).le (vw h):=λb o hb=>by
 unfold skip at hb;split at hb
 ·cases hb
 exact hb
theorem nS{B b:Nat}{h:Heap}(hb:b≠B):skip B h b=h[b]?:=by unfold skip;rw[if_neg hb]
section
variable{α:Type}[Rep α]{W:View}{h h':Heap}{B:Nat}{T e:TypeId}{v:Value}{l:List α}
end
end
section
open Go.MapKept
variable{po:OP}{pp:PP}
structure di(d:TypeDesc)(h:Heap)(r:Nat)(f:Value->Option Value):Prop where
 ex : ∃es clock,h[r]? = UK (.map es clock)/\(∀x∈es.toList,IsKey d x.key)/\Stamped es clock/\∀k v,IsKey d k->((∃x∈es.toList,x.key=k/\x.val=v)↔f k=UK v)
theorem di.lt{d:TypeDesc}{h:Heap}{r:Nat}{f:Value->Option Value}(m:di d h r f):r<h.size:=by obtain⟨es,c,h1,_⟩:=m.ex;exact(Rk.1 h1).1
theorem di.same{d:TypeDesc}{h h':Heap}{r:Nat}{f:Value->Option Value}(m:di d h r f)(e:h'[r]? = h[r]?):di d h' r f:=by obtain⟨es,c,h1,h2⟩:=m.ex;exact⟨es,c,by rw[e];exact h1,h2⟩
theorem di.ext{d:TypeDesc}{h h':Heap}{r:Nat}{f:Value->Option Value}(m:di d h r f)(hle:(vw h).le (vw h')):di d h' r f:=by obtain⟨es,c,h1,h2⟩:=m.ex;exact⟨es,c,hle _ _ h1,h2⟩
theorem di.none{d:TypeDesc}{h:Heap}{r:Nat}(hr:h[r]? = UK (.map #[] 0)):di d h r λ_=>none:=
 ⟨#[],0,hr,by simp,stamped_empty 0,by simp⟩
section
variable{P:Program}{ty:TypeId}{us:List (Nat × Value)}{h:Heap}{K:Value->Heap->Prop}{d:TypeDesc}{r:Nat}{f:Value->Option Value}{t k e:TypeId}
theorem lE(hk:K (.map (UK h.size)) (h.push (.map #[] 0))):step P (.makeMap t .none) ty us h K:=by refine df (cB λw hw=>?_);subst hw;refine⟨_,w.alloc (.map #[] 0),?_,jc _ _,hk⟩;simp only[bL,execOp];simp[Instr.makeMap,newObj];rfl
variable{y:Operand}
theorem wy{x:Operand}{u z:Value}(ht:P.underlying t=UK (.map k e))(hd:P.underlying k=UK d)(hz:(P.info? e).map (·.zero)=UK (UK z))(hx:asg us x = .map (UK r))(hy:asg us y=u)(hu:IsKey d u)(m:di d h r f)(hk:K ((f u).getD z) h):step P (.lookup t x y UP) ty us h K:=by
 obtain⟨es,c,h1,h2,h3,h4⟩:=m.ex;simp only[Q6]at hz;obtain⟨i,hi,hz⟩:=hz;refine df (cB λw hw=>⟨_,w,?_,Same.refl _,by rw[hw];exact hk⟩);have hz':(zeroValue e).run P w = .ok z w:=by simp[zeroValue,typeInfo,hi,hz]
 rw[<-hw]at h1;simp only[bL,execOp,hx,hy];rcases findNow_spec hu es.toList 0 h2 with⟨g1,g2⟩ | ⟨j,x,g1,g2,g3⟩
 ·have hf:f u = .none:=by
   cases hfu:f u with
   | none=>rfl
   | some v=>obtain⟨x,hx,e1,_⟩:=(h4 u v hu).2 hfu;exact absurd e1 (g2 x hx)
  simp[Instr.lookup,run_underlying ht,MapKept.run_getObj_map h1,MapKept.run_checkKey hd hu,MapKept.run_findKey hd g1,Result.andThen,hf,hz']
 have hf:f u=UK x.val:=(h4 u x.val hu).1 ⟨x,RF g2,g3,rfl⟩;simp[Instr.lookup,run_underlying ht,MapKept.run_getObj_map h1,MapKept.run_checkKey hd hu,MapKept.run_findKey hd g1,Result.andThen,hf]
theorem Fs{w:World}{u v:Value}(ht:P.underlying t=UK (.map k e))(hd:P.underlying k=UK d)(hu:IsKey d u)(m:di d w.heap r f)(g:Value->Option Value)(hg:g u=UK v)(hg2 : ∀j,j≠u->g j=f j):
  ∃o,(Instr.mapUpdate t (.map (UK r)) u v).run P w = .ok () { w with heap:=w.heap.setIfInBounds r o }/\di d (w.heap.setIfInBounds r o) r g:=by
 obtain⟨es,c,h1,h2,h3,h4⟩:=m.ex;rcases findNow_spec hu es.toList 0 h2 with⟨g1,g2⟩ | ⟨j,x,g1,g2,g3⟩
 ·refine⟨.map (es.push { key:=u,val:=v,born:=c }) (c+1),?_,_,_,(MapKept.heap_set h1).1,?_,stamped_push h3 g2,?_⟩
  ·simp[Instr.mapUpdate,run_underlying ht,MapKept.run_getObj_map h1,MapKept.run_checkKey hd hu,MapKept.run_findKey hd g1,MapKept.run_setObj_map _ h1,Result.andThen]
  ·intro x hx;simp only[TM,Rj,Q8]at hx;rcases hx with hx | rfl
   ·exact h2 x hx
   exact hu
  intro q p hq;constructor
  ·rintro⟨x,hx,e1,e2⟩;simp only[TM,Rj,Q8]at hx;rcases hx with hx | rfl
   ·rw[hg2 q (λe=>g2 x hx (e1.trans e))];exact(h4 q p hq).1 ⟨x,hx,e1,e2⟩
   simp only at e1 e2;subst e1;subst e2;exact hg
  intro hp;by_cases e:q=u
  ·subst e;rw[hg]at hp;cases hp;exact⟨{ key:=q,val:=v,born:=c },by simp,rfl,rfl⟩
  rw[hg2 q e]at hp;obtain⟨x,hx,e⟩:=(h4 q p hq).2 hp;exact⟨x,by simp[show x∈es from by simpa using hx],e⟩
 have hj:es[j]? = UK x:=by simpa using g2
 have hmem:x∈es.toList:=RF g2;have hlt:j<es.size:=(Rk.1 hj).1;have hkeyf : ∀e',es[j]? = UK e'->({ e' with key:=u,val:=v }:MapEntry).key=e'.key:=λe' he'=>by rw[hj]at he';cases he';exact g3.symm
 have hst:Stamped (es.modify j (λe'=>{ e' with key:=u,val:=v })) c:=stamped_modify h3 _ _ (λ_ _=>rfl) (λe' _ he'=>hkeyf e' he');have hget : ∀i y,(es.modify j (λe'=>{ e' with key:=u,val:=v }))[i]? = UK y↔(i=j/\y={ x with key:=u,val:=v })\/(i≠j/\es[i]? = UK y):=by
  intro i y;rw[SY];by_cases hij:i=j
  ·subst hij;rw[if_pos rfl,hj];simp[eq_comm]
  rw[if_neg (Ne.symm hij)];simp[hij]
 have huniq : ∀i y,es[i]? = UK y->y.key=u->i=j:=by
  intro i y hy hk;have hnd:=h3.2.2;have e1:(es.toList.map (·.key))[i]? = UK u:=by simp[hy,hk]
  have e2:(es.toList.map (·.key))[j]? = UK u:=by simp[hj,g3]
  have hl1:=(Sk.1 e1);have hl2:=(Sk.1 e2);obtain⟨l1,q1⟩:=hl1;obtain⟨l2,q2⟩:=hl2;exact(List.getElem_inj hnd).1 (q1.trans q2.symm)
 refine⟨.map (es.modify j (λe'=>{ e' with key:=u,val:=v })) c,?_,_,_,(MapKept.heap_set h1).1,?_,hst,?_⟩
 ·simp[Instr.mapUpdate,run_underlying ht,MapKept.run_getObj_map h1,MapKept.run_checkKey hd hu,MapKept.run_findKey hd g1,hj,g3,MapKept.run_keyThatStays hu,MapKept.run_setObj_map _ h1,Result.andThen]
 ·intro y hy;obtain⟨i,hi⟩:=SN hy;have hi:(es.modify j (λe'=>{ e' with key:=u,val:=v }))[i]? = UK y:=by rw[Se]at hi;exact hi
  rcases(hget i y).1 hi with⟨_,rfl⟩ | ⟨_,h5⟩
  ·exact hu
  exact h2 y (RF (by simpa using h5))
 intro q p hq;constructor
 ·rintro⟨y,hy,e1,e2⟩;obtain⟨i,hi⟩:=SN hy;have hi:(es.modify j (λe'=>{ e' with key:=u,val:=v }))[i]? = UK y:=by rw[Se]at hi;exact hi
  rcases(hget i y).1 hi with⟨_,rfl⟩ | ⟨h6,h5⟩
  ·simp only at e1 e2;subst e1;subst e2;exact hg
  rw[hg2 q (λe=>h6 (huniq i y h5 (e1.trans e)))];exact(h4 q p hq).1 ⟨y,RF (by simpa using h5),e1,e2⟩
 intro hp;by_cases hqu:q=u
 ·subst hqu;rw[hg]at hp;cases hp;refine⟨{ x with key:=q,val:=v },RF (i:=j) ?_,rfl,rfl⟩;rw[Se];exact(hget j { x with key:=q,val:=v }).2 (.inl ⟨rfl,rfl⟩)
 rw[hg2 q hqu]at hp;obtain⟨y,hy,e1,e2⟩:=(h4 q p hq).2 hp;obtain⟨i,hi⟩:=SN hy;have hi':es[i]? = UK y:=by simpa using hi
 refine⟨y,RF (i:=i) ?_,e1,e2⟩;rw[Se];refine(hget i y).2 (.inr ⟨λe=>?_,hi'⟩);subst e;rw[hj]at hi';cases hi';exact hqu (e1.symm.trans g3)
variable{op:Op}
theorem kz{x q:Operand}{u v:Value}(hop:op = .mapUpdate t x y q\/op = .insert t x y q)(ht:P.underlying t=UK (.map k e))(hd:P.underlying k=UK d)(hx:asg us x = .map (UK r))(hy:asg us y=u)(hq:asg us q=v)(hu:IsKey d u)(m:di d h r f)(g:Value->Option Value)(hg:g u=UK v)(hg2 : ∀j,j≠u->g j=f j)(hk : ∀h':Heap,h'.size=h.size->(∀b,b≠r->h'[b]? = h[b]?)->di d h' r g->K undef h'):step P op ty us h K:=by refine df (pM λw hw=>?_);subst hw;obtain⟨o,h1,h2⟩:=Fs (v:=v) ht hd hu m g hg hg2;obtain⟨es,c,h3,_⟩:=m.ex;have hoth:=(MapKept.heap_set (o':=o) h3).2;refine⟨{ w with heap:=w.heap.setIfInBounds r o },?_,Same.oQ rfl rfl rfl U2 h3 U2 (λk _ hne=>hoth k hne),hk _ U2 hoth h2⟩;rcases hop with rfl | rfl<;>simp only[bL,execOp,hx,hy,hq]<;>simp[h1]
end
def mapI(f:Int->Option Int):Value->Option Value
 | UH UI j=>(f j).map (.int .i64)
 | _=>UL
@[simp] theorem Dg{f:Int->Option Int}{j:Int}:mapI f (UH UI j)=(f j).map (.int .i64):=rfl
def mapB(s:Int->Bool):Value->Option Value
 | UH UI j=>if s j then UK (.bool UO) else UL
 | _=>UL
@[simp] theorem EA{s:Int->Bool}{j:Int}:mapB s (UH UI j)=if s j then UK (.bool UO) else none:=rfl
theorem cV{j:Int}:IsKey (.int .i64) (UH UI j):=rfl
theorem vF{f g:Int->Option Int}{j v:Int}(h : ∀i,g i=if i=j then UK v else f i):mapI g (UH UI j)=UK (UH UI v)/\∀u,u≠UH UI j->mapI g u=mapI f u:=by
 refine⟨by simp[h],λu hu=>?_⟩;cases u<;>try rfl
 rename_i k i;cases k<;>try rfl
 have:i≠j:=λe=>hu (by rw[e]);simp[h,this]
theorem Jh{f g:Int->Bool}{j:Int}(h : ∀i,g i=if i=j then UO else f i):mapB g (UH UI j)=UK (.bool UO)/\∀u,u≠UH UI j->mapB g u=mapB f u:=by
 refine⟨by simp[h],λu hu=>?_⟩;cases u<;>try rfl
 rename_i k i;cases k<;>try rfl
 have:i≠j:=λe=>hu (by rw[e]);simp[h,this]
@[simp] theorem Po{s:Bool}:(if s=UO then UK (Value.bool UO) else .none).getD (.bool UP) = .bool s:=by cases s<;>rfl
end
section
variable{po:OP}{pp:PP}
variable{P:Program}{ρ:Env}
theorem aa{x y:LC}{Q:Post}{h:Heap}(hx : ∀z,z=y->LC.wp P x (fJ (LC.wp P z Q) Q) ρ h):LC.wp P (.seq x y) Q ρ h:=hx y rfl
variable{kill:List Nat}{sets args:List (Nat × E)}{chk:List E}{op:Op}{ty:TypeId}{dst:Option Nat}{keep:Bool}{next:Reg}
theorem dh{m:Option View}{grd:Option (E × Bool)}{tail:Bool}{Q:Env->Heap->Prop}{h:Heap}(hx : ∀z,z=next->eV P m (.loud kill sets args grd chk tail op ty dst keep z) Q ρ h):eV P m (.loud kill sets args grd chk tail op ty dst keep next) Q ρ h:=hx next rfl
def rI{α:Type}[Rep α](X:View):List Value->List α->Prop
 | [],[]=>True
 | v::vs,d::ds=>Rd X v d/\rI X vs ds
 | _,_=>False
theorem rI.len{α:Type}[Rep α]{X:View} : ∀{vs:List Value} {ds:List α},rI X vs ds->vs.length=ds.length
 | [],[],_=>rfl
 | _::_,_::_,h=>by simp[rI.len h.2]
theorem rI.get{α:Type}[Rep α]{X:View} : ∀{vs:List Value} {ds:List α},rI X vs ds->∀(i:Nat) (h1:i<vs.length) (h2:i<ds.length),Rd X vs[i] ds[i]
 | _::_,_::_,h,0,_,_=>h.1
 | _::_,_::_,h,i+1,h1,h2=>h.2.get i _ _
variable{α:Type}
theorem Rd.Oq[Rep α]{X:View}{v:Value}{d:α}(ha:Rep.agg α=UP)(h:Rd X v d):v.cells = #[v]:=by unfold Rd at h;rw[if_neg (by simp[ha])]at h;have hfl:=Rep.flat h v U2;cases v<;>first | rfl | simp[Value.oneCell']at hfl
theorem zU : ∀(vs:List Value) (k:Nat) (A:Array Value),(∀v∈vs,v.cells = #[v])->k+vs.length=A.size->
  ∃B,Instr.fill (λj=>UK (j*1,1)) A ((vs.zipIdx k).map λp=>(p.2,p.1))=UK B/\B.toList=A.toList.take k++vs
 | [],k,A,_,hk=>⟨A,rfl,by simp at hk;rw[Rq (by simp[hk])];simp⟩
 | v::vs,k,A,hv,hk=>by
  have hc:=hv v (Rm ..);obtain⟨B,h1,h2⟩:=zU vs (k+1) (A.setIfInBounds k v) (λu hu=>hv u (Q7 _ hu)) (by simp at hk ⊢;omega);refine⟨B,?_,?_⟩
  ·simp only[TZ,Sn,Instr.fill,hc,RY];rw[if_neg (by simp at hk ⊢;omega)];simpa using h1
  rw[h2];have hkA:k<A.toList.length:=by simp at hk ⊢;omega
  rw[Rr (by simpa using hkA)];simp[T3]
end
structure Cat(α β:Type) where
 a:α
 b:β
instance {α β:Type}[Rep α][Rep β]:Rep (Cat α β) where
 n:=Rep.n α+Rep.n β
 agg:=true
 rd:=λH cs d=>∃c1 c2,cs=c1++c2/\Rep.rd H c1 d.a/\Rep.rd H c2 d.b
 mono:=λhk ⟨c1,c2,h1,h2,h3⟩=>⟨c1,c2,h1,Rep.mono hk h2,Rep.mono hk h3⟩
 len:=λ⟨c1,c2,h1,h2,h3⟩=>by rw[h1,Rl,Rep.len h2,Rep.len h3]
 one:=λh=>by cases h
 flat:=λ⟨c1,c2,h1,h2,h3⟩ u hu=>by
  rw[h1]at hu
  rcases Rj.1 hu with hu | hu
  ·exact Rep.flat h2 u hu
  ·exact Rep.flat h3 u hu
 pos:=Nat.add_pos_left Rep.pos _
 bT:=λ⟨c1,c2,h1,h2,h3⟩=>⟨c1,c2,h1,Rep.bT h2,Rep.bT h3⟩
abbrev Rep.via{α γ:Type}[Rep α](f:γ->α):Rep γ where
 n:=Rep.n α
 agg:=Rep.agg α
 rd:=λH cs d=>Rep.rd H cs (f d)
 mono:=λhk h=>Rep.mono hk h
 len:=λh=>Rep.len h
 one:=λh=>Rep.one h
 flat:=λh=>Rep.flat h
 pos:=Rep.pos
 bT:=λh=>Rep.bT h
variable{H:View}
theorem DI{a:Addr}{c1 c2:List Value}(h:gE H a (c1++c2)):gE H a c1/\gE H (a.add c1.length) c2:=by
 obtain⟨c,T,fz,hs,hb,he⟩:=h;rw[Rl]at he;have h1:(c.toList.drop a.off).take c1.length=c1:=by have:=congrArg (List.take c1.length) he;rw[Sy,Sv U1,TJ]at this;exact this
 have h2:(c.toList.drop (a.off+c1.length)).take c2.length=c2:=by have:=congrArg (List.drop c1.length) he;rw[Sx,SU,List.drop_left]at this;rw[show c1.length+c2.length-c1.length=c2.length by omega]at this;exact this
 refine⟨⟨c,T,fz,hs,hb,h1⟩,?_⟩;rw[bC hs];exact⟨c,T,fz,rfl,hb,h2⟩
variable{α β:Type}
theorem At.cat[Rep α][Rep β]{a:Addr}{d:Cat α β}(h:At H a d):At H a d.a/\At H (a.add (Rep.n α)) d.b:=by obtain⟨cs,h1,c1,c2,rfl,h2,h3⟩:=h;obtain⟨g1,g2⟩:=DI h1;rw[Rep.len h2]at g2;exact⟨⟨c1,g1,h2⟩,⟨c2,g2,h3⟩⟩
theorem At.int{H:View}{a:Addr}{d:Int}(h:At H a d):an H a=UK (UH UI d):=by obtain⟨u,h1,h2⟩:=h.load rfl;rw[(bw.1 h2).1]at h1;exact h1
theorem At.list[Rep α]{a:Addr}{l:List α}(h:At H a l): ∃v,an H a=UK v/\SlRd H v l:=by obtain⟨u,h1,h2⟩:=h.load rfl;exact⟨u,h1,dD.1 h2⟩
theorem At.i32{H:View}{a:Addr}{d:I32}(h:At H a d):an H a=UK (UH UJ d.v):=by obtain⟨u,h1,h2⟩:=h.load rfl;rw[(FU.1 h2).1]at h1;exact h1
structure InD where
 frm:Int
 val:Int
 deriving Inhabited,DecidableEq
instance:Rep InD:=Rep.via λd=>Cat.mk d.frm d.val
structure PhiD where
 dst:Int
 ins:List InD
 deriving Inhabited,DecidableEq
instance:Rep PhiD:=Rep.via λd=>Cat.mk d.dst d.ins
structure InsD where
 op:Int
 dst:Int
 two:Int
 args:List Int
 imm:I32
 deriving Inhabited,DecidableEq
instance:Rep InsD:=Rep.via λd=>Cat.mk d.op (Cat.mk d.dst (Cat.mk d.two (Cat.mk d.args d.imm)))
structure cS where
 kind:Int
 args:List Int
 to:List Int
 imm:I32
 deriving Inhabited,DecidableEq
instance:Rep cS:=Rep.via λd=>Cat.mk d.kind (Cat.mk d.args (Cat.mk d.to d.imm))
structure BlkD where
 phis:List PhiD
 ins:List InsD
 term:cS
 deriving Inhabited,DecidableEq
instance:Rep BlkD:=Rep.via λd=>Cat.mk d.phis (Cat.mk d.ins d.term)
structure ak where
 params:Int
 blocks:List BlkD
 deriving Inhabited,DecidableEq
instance:Rep ak:=Rep.via λd=>Cat.mk d.params d.blocks
section
open Go.MapKept
variable{po:OP}{pp:PP}
section
variable{P:Program}{ty:TypeId}{us:List (Nat × Value)}{h:Heap}{K:Value->Heap->Prop}
def isIface:TypeDesc->Bool
 | .interface _=>UO
 | _=>UP
theorem Jz{t:TypeId}{d:TypeDesc}{x:Operand}{v:Value}(hd:P.underlying t=UK d)(hn:isIface d=UP)(hx:asg us x=v)(hk:K (.iface t v) h):step P (.makeInterface t x) ty us h K:=by refine df (cB λw hw=>⟨.iface t v,w,?_,Same.refl _,by rw[hw];exact hk⟩);simp only[bL,execOp,hx];cases d<;>first | (simp[isIface]at hn;done) | (simp[Instr.makeInterface,run_underlying hd];done)
theorem IP{x:Operand}{t:TypeId}{v:Value}(hx:asg us x = .iface t v)(hk:po.op [{ v:=.iface t v,recovered:=false }] h):step P (.panic x) ty us h K:=by
 refine df ?_;intro w hw r o a K' Q' hK hQ;have hr:(bL (.panic x) ty us).run P w = .halt (.panic (.iface t v)) w:=by simp only[bL,execOp,hx];simp[Instr.panic,goPanic,Sem.run]
 rw[hr];simp only[Oper.uponIn];exact hQ _ w (by rw[hw];exact hk) (Same.refl _)
theorem IJ{T xT:TypeId}{d:TypeDesc}{x:Operand}{v:Value}(hd:P.underlying T=UK d)(hn:isIface d=UP)(hx:asg us x = .iface T v)(hk:K (.tuple #[v,.bool UO]) h):step P (.typeAssert x xT T UO) ty us h K:=by refine df (cB λw hw=>⟨.tuple #[v,.bool UO],w,?_,Same.refl _,by rw[hw];exact hk⟩);simp only[bL,execOp,hx];cases d<;>first | (simp[isIface]at hn;done) | (simp[Instr.typeAssert,run_underlying hd];done)
variable{r:Nat}{y:Operand}
theorem eM{t k e:TypeId}{d:TypeDesc}{f:Value->Option Value}{x:Operand}{u z:Value}(ht:P.underlying t=UK (.map k e))(hd:P.underlying k=UK d)(hz:(P.info? e).map (·.zero)=UK (UK z))(hx:asg us x = .map (UK r))(hy:asg us y=u)(hu:IsKey d u)(m:di d h r f)(hk:K (.tuple #[(f u).getD z,.bool (f u).isSome]) h):step P (.lookup t x y UO) ty us h K:=by
 obtain⟨es,c,h1,h2,h3,h4⟩:=m.ex;simp only[Q6]at hz;obtain⟨i,hi,hz⟩:=hz;refine df (cB λw hw=>⟨_,w,?_,Same.refl _,by rw[hw];exact hk⟩);have hz':(zeroValue e).run P w = .ok z w:=by simp[zeroValue,typeInfo,hi,hz]
 rw[<-hw]at h1;simp only[bL,execOp,hx,hy];rcases MapKept.findNow_spec hu es.toList 0 h2 with⟨g1,g2⟩ | ⟨j,x,g1,g2,g3⟩
 ·have hf:f u = .none:=by
   cases hfu:f u with
   | none=>rfl
   | some v=>obtain⟨x,hx,e1,_⟩:=(h4 u v hu).2 hfu;exact absurd e1 (g2 x hx)
  simp[Instr.lookup,run_underlying ht,MapKept.run_getObj_map h1,MapKept.run_checkKey hd hu,MapKept.run_findKey hd g1,Result.andThen,hf,hz']
 have hf:f u=UK x.val:=(h4 u x.val hu).1 ⟨x,RF g2,g3,rfl⟩;simp[Instr.lookup,run_underlying ht,MapKept.run_getObj_map h1,MapKept.run_checkKey hd hu,MapKept.run_findKey hd g1,Result.andThen,hf]
variable{b:Bool}
theorem Ga{T:TypeId}{ms:Array (String × TypeId)}{w:World}{v:Value}(hd:P.underlying T=UK (.interface ms))(hv:v = .nilIface/\b=UO\/∃t u,v = .iface t u/\b=UP):(Op.equal T v .nilIface).run P w = .ok b w:=by
 have key : ∀n,(Op.equalIn (n+1) T v .nilIface).run P w = .ok b w:=λn=>by rcases hv with⟨rfl,rfl⟩ | ⟨t,u,rfl,rfl⟩<;>simp[Op.equalIn,run_underlying hd]
 exact key 9999
theorem ES{T rt:TypeId}{ms:Array (String × TypeId)}{x:Operand}{v:Value}(hd:P.underlying T=UK (.interface ms))(hx:asg us x=v)(hv:v = .nilIface/\b=UO\/∃t u,v = .iface t u/\b=UP)(hk:K (.bool b) h):
  step P (.binOp .eql T x (.const .nilIface) rt) ty us h K:=by refine df (cB λw hw=>⟨.bool b,w,?_,Same.refl _,by rw[hw];exact hk⟩);simp only[bL,execOp,hx,BA];have:=Ga (w:=w) hd hv;rcases hv with⟨rfl,rfl⟩ | ⟨t,u,rfl,rfl⟩<;>simp[eqGuard,binOp,this]
end
end
def uh(P:Program)(g:FuncId)(args:Array Value)(u:FrameMode)(h:Heap)(S:FrameMode->Heap->Prop):Prop:=
 ∀w:World,w.heap=h->CallsDIn (Fw UL) 0 P g args u w λe u' w'=>e = .returned (.tuple #[])/\S u' w'.heap/\Same w w'
variable{P:Program}{caps:Array Value}
theorem F2{fn:Func}{a:Act}{w:World}{R:Ending->World->Prop}{g:FuncId}{S:FrameMode->Heap->Prop}{u:FrameMode}(hg:isFn P g=UO)(hd:a.defers=[{ target:=.fn (.func g) caps,args:=#[] }])(hu:u≠.run)(hc:uh P g caps u w.heap S)(hS : ∀u' w',S u' w'.heap->Same w w'->settle u' = .returning/\∃v,(results fn a.tmps).run P w' = .ok v w'/\R (.returned v) w'):LeavesIn (Fw UL) 0 P fn a.tmps R a.defers u w:=by
 rw[hd];refine leavesIn_cons (f:=g) (args:=caps) hu (by simp[Fw,Fence.wide]) ?_ (λ_ _=>trivial) ((hc w rfl).mono ?_)
 ·unfold isFn at hg;cases hfn':P.funcs[g]? with
  | none=>simp[hfn']at hg
  | some fn'=>simp only[hfn',Q9,bne_iff_ne,ne_eq]at hg;obtain⟨h1,h2⟩:=hg;simp[invoke,callFunc,program,Sem.run,hfn',h1,Option.isNone];cases hb:fn'.body<;>simp[hb]at h2 ⊢
 rintro e u' w' ⟨rfl,h1,h2⟩;obtain⟨h3,v,h4,h5⟩:=hS u' w' h1 h2;show LeavesIn (Fw UL) 0 P fn a.tmps R [] (settle u') w';rw[h3];exact⟨v,h4,h5⟩
def vQ(ρ:Env):List Operand->Option (List Value)
 | []=>UK []
 | .tmp t::l=>match look ρ t,vQ ρ l with
  | some v,UK vs=>UK (v::vs)
  | _,_=>UL
 | _::_=>UL
theorem yE{ρ:Env}{a:Act}(hs:Sat ρ a) : ∀{l:List Operand} {vs:List Value},vQ ρ l=UK vs->l.map a.eval=vs
 | [],vs,h=>by simp[vQ]at h;subst h;rfl
 | .tmp t::l,vs,h=>by
  simp only[vQ]at h;split at h
  ·rename_i v vs' h1 h2;simp only[Q2]at h;subst h;have:=hs t v h1;simp[Act.eval,this,yE hs h2]
  cases h
 | .const _::_,_,h=>by simp[vQ]at h
 | .global _::_,_,h=>by simp[vQ]at h
 | .func _::_,_,h=>by simp[vQ]at h
theorem tp{f:FuncId}{fn:Func}{c0 c1:Code}{id:Nat}{o1 o2:Oper}{g t:Nat}{capops:Array Operand}{tys:Array TypeId}{live0 liveR0 live1 liveR1:List Nat}{L0 L1:LC}{res:List E}{args:List Value}{h:Heap}{R:Value->Heap->Prop}{Mid:Env->Heap->Prop}(hm:P.follows .mixedOrders=UO)(hf:P.funcs[f]? = UK fn)(hb:fn.body=UK (.seq c0 (.seq (.region id #[o1,o2] UP) c1)))(h1:o1.op = .makeFunc (.func g) #[] capops)(h1d:o1.dst=UK t)(h1g:o1.guard=UL)(h2:o2.op = .defer ⟨.value (.tmp t),#[],tys⟩)(h2d:o2.dst=UL)(h2g:o2.guard=UL)(ht:t<fn.ntmps)(hg:isFn P g=UO)(hL0:eG P fn.ntmps live0 liveR0 UP c0=UK L0)(hp0:L0.plain=UO)(hL1:eG P fn.ntmps live1 liveR1 UP c1=UK L1)(hp1:L1.plain=UO)(hres:fn.results.toList.mapM (resE P)=UK res)(hn:args.length<=fn.ntmps)(hw:@LC.wp noPP P L0 (fJ Mid λ_ _ _=>False) (ln 0 args) h)(hmid : ∀ρ hh,Mid ρ hh->∃capv,vQ ρ capops.toList=UK capv/\∃pp:PP,
   @LC.wp pp P L1 (λe ρ2 h2=>(e = .normal\/e = .ret)/\∃S,uh P g capv.toArray .returning h2 S/\∀u' h3,S u' h3->settle u' = .returning/\∃vs,evs (look ρ2) (vw h3) res=UK vs/\R (pack vs) h3) (cJ ρ [t]) hh/\
   ∀ch ρ2 h2,pp.kp ch h2->pp.fx ρ2->∃S,uh P g capv.toArray (.panicking ch) h2 S/\∀u' h3,S u' h3->settle u' = .returning/\∃vs,evs (look ρ2) (vw h3) res=UK vs/\R (pack vs) h3):
  ay P f args.toArray h R:=by
 intro w hwh;subst hwh;have hsat:Sat (ln 0 args) { tmps:=args.toArray++Array.replicate (fn.ntmps-args.toArray.size) undef,defers:=[] }:=by
  intro t v hl;obtain⟨_,h2⟩:=qo args 0 t v hl;have:t<args.length:=by
   rcases Ri t args.length with h | h
   ·exact h
   simp[RP h]at h2
  simp only[Nat.sub_zero]at h2;simp only[TS,S2,this,if_true,TU];exact h2
 refine(callsIn_wide (n:=0)).1 (callsIn_of_wp_defers hf hb trivial (wpIn_seq (wpIn_mono (eg (r:=UL) hm c0 hL0 (λ_=>rfl) hw hsat U9) ?_)));rintro e a1 w1 ⟨ρ1,s1,n1,⟨ms,hds,hms,_⟩,hq,hS1⟩;rw[hms hp0]at hds;have hds:a1.defers=[]:=hds;have hq:=sK hq;cases e with
 | normal=>
  obtain⟨capv,hcap,pp,hwp,hpan⟩:=hmid ρ1 w1.heap hq;have hev:=yE s1 hcap;refine wpIn_seq (wpIn_region_list ?_);have wt1:Region.wanted o1 (yielded #[o1,o2] a1.tmps)=true:=by simp[Region.wanted,h1g]
  have hf1:(execOp a1.eval o1).run P w1 = .ok (.value (.func (.func g) #[] capv.toArray)) w1:=by
   simp only[execOp,h1];have:capops.map a1.eval=capv.toArray:=by rw[<-hev,<-Array.toList_inj];simp
   simp[this,Instr.makeFunc]
  have hput:a1.put o1.dst (.func (.func g) #[] capv.toArray)={ tmps:=a1.tmps.setIfInBounds t (.func (.func g) #[] capv.toArray),defers:=a1.defers }:=by rw[h1d];rfl
  have hget:(a1.tmps.setIfInBounds t (.func (.func g) #[] capv.toArray))[t]? = UK (.func (.func g) #[] capv.toArray):=by rw[TH];simp[n1,ht]
  simp only[wpListIn];rw[if_pos wt1];refine⟨λ_ _=>trivial,?_⟩;rw[Oper.semAt_eq _ _ _ (by intro c e;rw[h1]at e;cases e),hf1];simp only[Oper.uponIn,hput];have wt2:Region.wanted o2 (yielded #[o1,o2] (a1.tmps.setIfInBounds t (.func (.func g) #[] capv.toArray)))=true:=by simp[Region.wanted,h2g]
  rw[if_pos wt2];have hf2:(execOp (Act.eval { tmps:=a1.tmps.setIfInBounds t (.func (.func g) #[] capv.toArray),defers:=a1.defers }) o2).run P w1 = .ok (.defer { target:=.fn (.func g) capv.toArray,args:=#[] }) w1:=by simp only[execOp,h2];simp[resolve,Act.eval,hget,Deferred.ofValue]
  refine⟨λ_ _=>trivial,?_⟩;rw[show Fence.wide.round=UL from rfl,Oper.semAt_none,hf2];simp only[Oper.uponIn,h2d,Act.put,hds];show c1.wpIn (Fw UL) 0 P _ _ _;have s2:Sat (cJ ρ1 [t]) { tmps:=a1.tmps.setIfInBounds t (.func (.func g) #[] capv.toArray),defers:=[{ target:=.fn (.func g) capv.toArray,args:=#[] }] }:=by intro x v hl;obtain⟨e1,e2⟩:=np _ _ _ _ hl;have hne:t≠x:=λe=>e1 (by simp[e]);simp only[Sd hne];exact s1 x v e2
  refine wpIn_mono (eg (pp:=pp) (r:=UL) (a:={ tmps:=a1.tmps.setIfInBounds t (.func (.func g) #[] capv.toArray),defers:=[{ target:=.fn (.func g) capv.toArray,args:=#[] }] }) hm c1 hL1 (λ_=>rfl) hwp s2 (by simp[n1])) ?_;rintro e a2 w2 ⟨ρ2,s3,n3,⟨ms2,hds2,hms2,_⟩,hq2,hS2⟩;rw[hms2 hp1]at hds2;have hds2:a2.defers=[{ target:=.fn (.func g) capv.toArray,args:=#[] }]:=hds2;have fin : ∀(u:FrameMode),u≠.run->(∃S,uh P g capv.toArray u w2.heap S/\∀u' h3,S u' h3->settle u' = .returning/\∃vs,evs (look ρ2) (vw h3) res=UK vs/\R (pack vs) h3)->
    LeavesIn (Fw UL) 0 P fn a2.tmps (λe w'=>∃v,e = .returned v/\R v w'.heap/\Same w w') a2.defers u w2:=by rintro u hu ⟨S,hc,hS⟩;refine F2 hg hds2 hu hc λu' w' hu' hsame=>?_;obtain⟨g1,vs,g2,g3⟩:=hS u' w'.heap hu';exact⟨g1,pack vs,oL hres (sQ (λt v h=>s3 t v h) g2),pack vs,rfl,g3,(hS1.trans hS2).trans hsame⟩
  cases e with
  | normal=>exact fin .returning U2 hq2.2
  | ret=>exact fin .returning U2 hq2.2
  | panic ch=>exact fin (.panicking ch) U2 (hpan ch ρ2 w2.heap hq2.2 hq2.1)
  | exit i=>rcases hq2.1 with h | h<;>cases h
  | goto l=>rcases hq2.1 with h | h<;>cases h
  | outgrown=>rcases hq2.1 with h | h<;>cases h
 | _=>exact hq.elim
def kQ:FrameMode->Value × FrameMode
 | .panicking ({ v,recovered:=false,goexit:=false }::older)=>(v,.panicking ({ v,recovered:=true }::older))
 | u=>(.nilIface,u)
theorem rH{g:FuncId}{fn:Func}{c1:Code}{id t:Nat}{o:Oper}{tys:Array TypeId}{live liveR:List Nat}{L:LC}{args:List Value}{u:FrameMode}{h:Heap}{S:FrameMode->Heap->Prop}(hm:P.follows .mixedOrders=UO)(hf:P.funcs[g]? = UK fn)(hb:fn.body=UK (.seq (.region id #[o] UP) c1))(ho:o.op = .call ⟨.builtin .recover,#[],tys⟩)(hod:o.dst=UK t)(hog:o.guard=UL)(ht:t<fn.ntmps)(hL:eG P fn.ntmps live liveR UP c1=UK L)(hp:L.plain=UO)(hr:fn.results = #[])(hn:args.length<=fn.ntmps)(hw:@LC.wp noPP P L (λe _ h'=>(e = .normal\/e = .ret)/\S (kQ u).2 h') ((t,(kQ u).1)::cJ (ln 0 args) [t]) h):uh P g args.toArray u h S:=by
 intro w hwh;subst hwh;refine callsDIn_of_wpSIn hf hb trivial λc₀ cs hu=>?_;apply wpSIn_seq;apply wpSIn_region;have hsat:Sat (ln 0 args) { tmps:=args.toArray++Array.replicate (fn.ntmps-args.toArray.size) undef,defers:=[] }:=by
  intro t v hl;obtain⟨_,h2⟩:=qo args 0 t v hl;have:t<args.length:=by
   rcases Ri t args.length with h | h
   ·exact h
   simp[RP h]at h2
  simp only[Nat.sub_zero]at h2;simp only[TS,S2,this,if_true,TU];exact h2
 have hsz:(args.toArray++Array.replicate (fn.ntmps-args.toArray.size) undef).size=fn.ntmps:=by simp;omega
 have hex : ∀ρ,(execOp ρ o).run P w = .ok .recover w:=λρ=>by simp only[execOp,ho];simp[resolve,invoke,builtin]
 generalize args.toArray++Array.replicate (fn.ntmps-args.toArray.size) undef=tm at hsat hsz;have hwant : ∀tm',Region.wanted o (yielded #[o] tm')=true:=λtm'=>by simp[Region.wanted,hog]
 have key : ∀(v:Value) (c':Frame),(kQ u).1=v->c'={ c₀ with mode:=(kQ u).2 }->c1.wpSIn (Fw UL) 0 P (bodyPostS P fn c₀ cs λe u' w'=>e = .returned (.tuple #[])/\S u' w'.heap/\Same w w') { tmps:=tm.setIfInBounds t v,defers:=[] } (c'::cs) w:=by
  intro v c' hv hc';have s2:Sat ((t,(kQ u).1)::cJ (ln 0 args) [t]) { tmps:=tm.setIfInBounds t v,defers:=[] }:=by
   intro x y hl;simp only[look]at hl;split at hl
   ·rename_i e;subst e;simp only[Q2]at hl;rw[<-hl,hv,TH];simp[hsz,ht]
   rename_i e;obtain⟨e1,e2⟩:=np _ _ _ _ hl;simp only[Sd e];exact hsat x y e2
  refine wpSIn_of_wpIn rfl (wpIn_mono (eg (pp:=noPP) (r:=UL) (a:={ tmps:=tm.setIfInBounds t v,defers:=[] }) hm c1 hL (λ_=>rfl) hw s2 (by simp[hsz])) ?_);rintro e a2 w2 ⟨ρ2,s3,n3,⟨ms2,hds2,hms2,_⟩,hq2,hS2⟩;rw[hms2 hp]at hds2;have hds2:a2.defers=[]:=hds2;have hq2:=sK hq2;have hres:(results fn a2.tmps).run P w2 = .ok (.tuple #[]) w2:=by simp[results,hr]
  have fin:a2.defers=[]/\∃u',c'::cs={ c₀ with mode:=u' }::cs/\∃v,(results fn a2.tmps).run P w2 = .ok v w2/\Ending.returned v = .returned (.tuple #[])/\S u' w2.heap/\Same w w2:=
   ⟨hds2,_,by rw[hc'],_,hres,rfl,hq2.2,hS2⟩;cases e with
  | normal=>exact fin
  | ret=>exact fin
  | panic ch=>rcases hq2.1 with h | h<;>cases h
  | exit i=>rcases hq2.1 with h | h<;>cases h
  | goto l=>rcases hq2.1 with h | h<;>cases h
  | outgrown=>rcases hq2.1 with h | h<;>cases h
 have hr0:List.range (#[o]:Array Oper).size=[0]:=rfl;rw[hr0];simp only[wpOpsSIn];have ho0:(#[o]:Array Oper)[0]? = UK o:=rfl;rw[ho0];simp only[hwant,if_true,hex];refine⟨λ_ _=>trivial,?_⟩;by_cases hcase : ∃v older,u = .panicking ({ v,recovered:=false,goexit:=false }::older)
 ·obtain⟨v,older,rfl⟩:=hcase;have e:recoverD (c₀::cs)=UK (v,{ c₀ with mode:=.panicking ({ v,recovered:=true }::older) }::cs):=by simp only[recoverD,hu]
  rw[e];simp only[hod];exact key v _ rfl rfl
 have e:recoverD (c₀::cs)=none:=by
  simp only[recoverD,hu];split
  ·exact absurd ⟨_,_,rfl⟩ hcase
  rfl
 have er:kQ u=(.nilIface,u):=by
  unfold kQ;split
  ·exact absurd ⟨_,_,rfl⟩ hcase
  rfl
 rw[e];simp only[hod];exact key .nilIface c₀ (by rw[er]) (by rw[er,<-hu])
section
variable{po po2:OP}{pp:PP}
structure Part(α β:Type)[Rep α][Rep β](o:Nat)(get:α->β)(set:α->β->α):Prop where
 fits:o+Rep.n β<=Rep.n α
 get : ∀{H:View} {cs:List Value} {d:α},Rep.rd H cs d->Rep.rd H ((cs.drop o).take (Rep.n β)) (get d)
 set : ∀{H:View} {cs us:List Value} {d:α} {x:β},Rep.rd H cs d->Rep.rd H us x->Rep.rd H (cs.take o++us++cs.drop (o+Rep.n β)) (set d x)
theorem Part.all[Rep α]:Part α α 0 (λd=>d) (λ_ x=>x) where
 fits:=by simp
 get:=λh=>by rw[SM,Rq (by rw[Rep.len h];exact Q4 _)];exact h
 set:=λh k=>by
  have:=Rep.len h
  rw[SV,RV,RN U1,SI];exact k
section
variable{α β γ:Type}[Rep α][Rep β][Rep γ]{o:Nat}
theorem Part.fst{g:α->γ}{s:α->γ->α}(p:Part α γ o g s):Part (Cat α β) γ o (λd=>g d.a) (λd x=>⟨s d.a x,d.b⟩) where
 fits:=Rt p.fits (Uo _ _)
 get:=by
  rintro H cs d ⟨c1,c2,rfl,h1,h2⟩
  have l1:=Rep.len h1
  have f:=p.fits
  rw[Sj U1,RW U9]
  exact p.get h1
 set:=by
  rintro H cs us d x ⟨c1,c2,rfl,h1,h2⟩ k
  have l1:=Rep.len h1
  have f:=p.fits
  refine⟨_,c2,?_,p.set h1 k,h2⟩
  rw[RW U1,Sj U1]
  simp[Rn]
theorem Part.snd{g:β->γ}{s:β->γ->β}(p:Part β γ o g s):Part (Cat α β) γ (Rep.n α+o) (λd=>g d.b) (λd x=>⟨d.a,s d.b x⟩) where
 fits:=by
  have:=p.fits
  show Rep.n α+o+Rep.n γ<=Rep.n α+Rep.n β
  omega
 get:=by
  rintro H cs d ⟨c1,c2,rfl,h1,h2⟩
  have l1:=Rep.len h1
  rw[S6,RN U1,RV,show Rep.n α+o-c1.length=o by omega]
  exact p.get h2
 set:=by
  rintro H cs us d x ⟨c1,c2,rfl,h1,h2⟩ k
  have l1:=Rep.len h1
  refine⟨c1,_,?_,h1,p.set h2 k⟩
  rw[SS,Rq U1,show Rep.n α+o-c1.length=o by omega,S6,RN U1,RV,
   show Rep.n α+o+Rep.n γ-c1.length=o+Rep.n γ by omega]
  simp[Rn]
end
theorem Part.via{α β γ:Type}[ra:Rep α][rb:Rep β]{f:γ->α}{o o':Nat}{g:α->β}{s:α->β->α}(p:Part α β o g s){g':γ->β}{s':γ->β->γ}(hg : ∀d,g' d=g (f d))(hs : ∀d x,f (s' d x)=s (f d) x)(ho:o=o':=by rfl):@Part γ β (Rep.via f) rb o' g' s':=by subst ho;exact @Part.mk γ β (Rep.via f) rb o g' s' p.fits (fun{H cs d} h=>by rw[hg];exact p.get h) (fun{H cs us d x} h k=>by have:=p.set (show Rep.rd H cs (f d) from h) k;rw[<-hs]at this;exact this)
theorem At.part[Rep α][Rep β]{o:Nat}{g:α->β}{s:α->β->α}(p:Part α β o g s){a:Addr}{d:α}(h:At H a d):At H (a.add o) (g d):=by obtain⟨cs,h1,h2⟩:=h;have l:=Rep.len h2;exact⟨_,EJ h1 o (Rep.n β) (by rw[l];exact p.fits),p.get h2⟩
theorem Rd.Qf[Rep α][Rep β]{o:Nat}{g:α->β}{s:α->β->α}(p:Part α β o g s)(ha:Rep.agg α=UO)(hb:Rep.agg β=UP){K:View}{v:Value}{d:α}(h:Rd H v d): ∃u,Un.ev K (.part o) v=UK u/\Rd H u (g d):=by
 unfold Rd at h;rw[if_pos ha]at h;obtain⟨cs,rfl,h⟩:=h;have l:=Rep.len h;have f:=p.fits;have k:=p.get h;rw[Rep.one hb]at f k;have hlt:o<cs.size:=by simpa using(show o<cs.toList.length by omega)
 refine⟨cs[o],by simp[hlt],?_⟩;unfold Rd;rw[if_neg (by simp[hb])];rw[RJ (by simpa using hlt)]at k;simpa using k
theorem InD.I6:Part InD Int 0 InD.frm (λd x=>{ d with frm:=x }):=(Part.fst Part.all).via (λ_=>rfl) λ_ _=>rfl
theorem InD.BB:Part InD Int 1 InD.val (λd x=>{ d with val:=x }):=(Part.snd Part.all).via (λ_=>rfl) λ_ _=>rfl
theorem PhiD.gm:Part PhiD Int 0 PhiD.dst (λd x=>{ d with dst:=x }):=(Part.fst Part.all).via (λ_=>rfl) λ_ _=>rfl
theorem PhiD.gO:Part PhiD (List InD) 1 PhiD.ins (λd x=>{ d with ins:=x }):=(Part.snd Part.all).via (λ_=>rfl) λ_ _=>rfl
theorem InsD.wI:Part InsD Int 0 InsD.op (λd x=>{ d with op:=x }):=(Part.fst Part.all).via (λ_=>rfl) λ_ _=>rfl
theorem InsD.gm:Part InsD Int 1 InsD.dst (λd x=>{ d with dst:=x }):=(Part.snd (Part.fst Part.all)).via (λ_=>rfl) λ_ _=>rfl
theorem InsD.xV:Part InsD Int 2 InsD.two (λd x=>{ d with two:=x }):=(Part.snd (Part.snd (Part.fst Part.all))).via (λ_=>rfl) λ_ _=>rfl
theorem InsD.eX:Part InsD (List Int) 3 InsD.args (λd x=>{ d with args:=x }):=(Part.snd (Part.snd (Part.snd (Part.fst Part.all)))).via (λ_=>rfl) λ_ _=>rfl
theorem InsD.jD:Part InsD I32 4 InsD.imm (λd x=>{ d with imm:=x }):=(Part.snd (Part.snd (Part.snd (Part.snd Part.all)))).via (λ_=>rfl) λ_ _=>rfl
theorem cS.yU:Part cS Int 0 cS.kind (λd x=>{ d with kind:=x }):=(Part.fst Part.all).via (λ_=>rfl) λ_ _=>rfl
theorem cS.eX:Part cS (List Int) 1 cS.args (λd x=>{ d with args:=x }):=(Part.snd (Part.fst Part.all)).via (λ_=>rfl) λ_ _=>rfl
theorem cS.Af:Part cS (List Int) 2 cS.to (λd x=>{ d with to:=x }):=(Part.snd (Part.snd (Part.fst Part.all))).via (λ_=>rfl) λ_ _=>rfl
theorem cS.jD:Part cS I32 3 cS.imm (λd x=>{ d with imm:=x }):=(Part.snd (Part.snd (Part.snd Part.all))).via (λ_=>rfl) λ_ _=>rfl
theorem BlkD.qw:Part BlkD (List PhiD) 0 BlkD.phis (λd x=>{ d with phis:=x }):=(Part.fst Part.all).via (λ_=>rfl) λ_ _=>rfl
theorem BlkD.gO:Part BlkD (List InsD) 1 BlkD.ins (λd x=>{ d with ins:=x }):=(Part.snd (Part.fst Part.all)).via (λ_=>rfl) λ_ _=>rfl
theorem BlkD.lF:Part BlkD cS 2 BlkD.term (λd x=>{ d with term:=x }):=(Part.snd (Part.snd Part.all)).via (λ_=>rfl) λ_ _=>rfl
theorem ak.zY:Part ak Int 0 ak.params (λd x=>{ d with params:=x }):=(Part.fst Part.all).via (λ_=>rfl) λ_ _=>rfl
theorem ak.rY:Part ak (List BlkD) 1 ak.blocks (λd x=>{ d with blocks:=x }):=(Part.snd Part.all).via (λ_=>rfl) λ_ _=>rfl
def Sl{α:Type}[Rep α](H:View)(a:Addr)(v:Value)(l:List α):Prop:=an H a=UK v/\SlRd H v l
theorem At.sl[Rep α]{a:Addr}{l:List α}(h:At H a l): ∃v,Sl H a v l:=h.list
variable{n:Nat}
theorem Addr.z{b o:Nat}:(⟨b,o,UL⟩:Addr).add n=⟨b,o+n,UL⟩:=bC rfl n
section
variable{α:Type}[Rep α]{P:Program}{ty:TypeId}{us:List (Nat × Value)}{h:Heap}
theorem fH{v:Value}{d:α}(hr:Rd H v d):Rep.rd H v.cells.toList d/\v.cells.size=Rep.n α/\∀c∈v.cells.toList,c.oneCell'=true:=by
 unfold Rd at hr;split at hr
 ·obtain⟨cs,rfl,h⟩:=hr;exact⟨h,by rw[<-Rep.len h];rfl,λc hc=>Rep.flat h c hc⟩
 rename_i ha;have hone:=Rep.one (α:=α) (by simpa using ha);have hfl:=Rep.flat hr v U2;have:v.cells = #[v]:=by cases v<;>first | rfl | simp[Value.oneCell']at hfl
 rw[this];exact⟨by simpa using hr,by simp[hone],by simpa using hfl⟩
theorem oR{b:Nat}{v:Value}{d:α}{t:TypeId}{fz:Nat × Nat}(hb:H b=UK (.cells v.cells t fz))(hr:Rd H v d):At H ⟨b,0,UL⟩ d:=
 ⟨_,⟨v.cells,t,fz,rfl,hb,by simp;exact Rq U2⟩,(fH hr).1⟩
variable{ty2:TypeId}{y:Operand}{us2:Value->List (Nat × Value)}{K:Value->Heap->Prop}
theorem G8{t:TypeId}{z:Value}{x:Operand}{v:Value}{d:α}(hz:(P.info? t).map (·.zero)=UK (UK z))(hzc:z.cells.size=Rep.n α)(hsz:cU P t=UK (Rep.n α))(hv:Rd (vw h) v d)(hx : ∀p,asg (us2 p) x=p)(hy : ∀p,asg (us2 p) y=v)(hk : ∀h':Heap,(vw h).le (vw h')->h'.size=h.size+1->h'[h.size]? = UK (.cells v.cells t (0,0))->At (vw h') ⟨h.size,0,UL⟩ d->K (ptz h.size) h'):
  @step po P (.alloc t) ty us h λp h2=>@step po2 P (.store t x y) ty2 (us2 p) h2 λ_ h3=>K p h3:=by
 obtain⟨c1,c2,c3⟩:=fH hv;refine dK hz ?_;refine eh (g:=h.size) (o:=0) (n:=Rep.n α) (v:=v) (cur:=z.cells) (e:=t) hsz (hx _) (hy _) c2 c3 U2 U1 λh' hs ⟨row,hrow,he⟩ hoth=>?_;have hrow2:row=v.cells:=by rw[<-Array.toList_inj,he];simp only[SV,RV,R1];rw[RN (by simp[hzc]),SI]
 rw[hrow2]at hrow;have hle:(vw h).le (vw h'):=λb o hb=>by have hlt:=View.lt (View.le_refl (vw h)) hb;show h'[b]? = _;rw[hoth b U1];exact bQ _ _ b o hb
 exact hk h' hle (by rw[hs];simp) hrow (oR hrow (hv.mono hle))
theorem fT{t:TypeId}{x:Operand}{v:Value}{d:α}(hx:asg us x=v)(hv:Rd (vw h) v d)(hk : ∀h':Heap,h'=h.push (.cells v.cells t)->(vw h).le (vw h')->h'.size=h.size+1->At (vw h') ⟨h.size,0,UL⟩ d->K (ptz h.size) h'):step P (.box t x) ty us h K:=
 ey hx (hk _ rfl (bQ _ _) U2 (oR (t:=t) (fz:=(0,0)) (by simp[vw]) (hv.mono (bQ _ _))))
theorem SlRd.whole{K:View}{v:Value}{l:List α}(h:SlRd H v l)(ha:Rep.agg α=UO)(hk:H.le K){i:Nat}(hi:i<l.length): ∃u,Un.ev K (.bM (Rep.n α)) (UN (UK ((slA v).add (i*Rep.n α))))=UK u/\Rd K u l[i]:=
 ((h.at hi).mono hk).bM ha
end
theorem At.rng{a:Addr}{d:Int}(h:At H a d):-9223372036854775808<=d/\d<=9223372036854775807:=by obtain⟨u,h1,h2⟩:=h.load rfl;exact(bw.1 h2).2
theorem At.bool{H:View}{a:Addr}{d:Bool}(h:At H a d):an H a=UK (.bool d):=by obtain⟨u,h1,h2⟩:=h.load rfl;rw[qn.1 h2]at h1;exact h1
theorem aS[Rep α]:SlRd H (UM UL 0 0) ([]:List α):=⟨UL,0,rfl,by simp,by simp,.inl rfl⟩
variable{ty:TypeId}{bytes:Nat}{us:List (Nat × Value)}{K:Value->Heap->Prop}
theorem mY[Rep α]{t e:Nat}{z:Value}{ps:Array (Nat × Operand)}{vs:List Value}{ds:List α}{h:Heap}(ha:Rep.agg α=UP)(hT:eF P t e 1 bytes z)(hp:ps.map (λp=>(p.1,asg us p.2))=((vs.zipIdx 0).map λp=>(p.2,p.1)).toArray){X:View}(hr:rI X vs ds)(hX:X.le (vw h))(hn:ds.length=n)(hb:n<=16777216)(hk : ∀u h',(vw h).le (vw h')->h'.size=h.size+1->(∀Y:View,X.le Y->Y h.size=h'[h.size]?->SlRd Y u ds)->u.ownBlock=UK h.size->K u h'):step P (.buildSlice t n ps) ty us h K:=by
 have hl:=hr.len;obtain⟨B,h1,h2⟩:=zU vs 0 ((Array.range (n*1)).map (z.cells[· % z.cells.size]!)) (λv hv=>by obtain⟨i,hi,rfl⟩:=RH hv;exact(hr.get i hi U1).Oq ha) U9;have hB:B=vs.toArray:=by rw[<-Array.toList_inj,h2];simp
 refine ti hT U1 hp h1 ?_;have hle:=bQ h (.cells B e);have hone:=Rep.one (α:=α) ha;refine hk _ _ hle U2 (λY hY hYb=>⟨UK ⟨h.size,0,UL⟩,n,by rw[hn],by omega,by omega,.inr ⟨_,rfl,rfl,λi hi=>?_⟩⟩) rfl;rw[bC rfl,hone];refine⟨[vs[i]],⟨B,e,(0,0),rfl,by rw[hYb];simp,?_⟩,?_⟩
 ·rw[hB];have hd:vs.drop i=vs[i]::vs.drop (i+1):=RJ U1;simp only[R1,RY,RZ,TE];show List.take (0+1) (List.drop i vs)=_;rw[hd];rfl
 have:=(hr.get i U1 hi).mono hY;unfold Rd at this;rw[if_neg (by simp[ha])]at this;exact this
def mapE{β:Type}(enc:β->Value)(f:Int->Option β):Value->Option Value
 | UH UI j=>(f j).map enc
 | _=>UL
@[simp] theorem rC{enc:β->Value}{f:Int->Option β}{j:Int}:mapE enc f (UH UI j)=(f j).map enc:=rfl
def putM{β:Type}(f:Int->Option β)(j:Int)(v:β):Int->Option β:=λi=>if i=j then UK v else f i
theorem iy{enc:β->Value}{f:Int->Option β}{j:Int}{v:β}:mapE enc (putM f j v) (UH UI j)=UK (enc v)/\∀u,u≠UH UI j->mapE enc (putM f j v) u=mapE enc f u:=by
 refine⟨by simp[putM],λu hu=>?_⟩;cases u<;>try rfl
 rename_i k i;cases k<;>try rfl
 have:i≠j:=λe=>hu (by rw[e]);simp[putM,this]
theorem nh{enc:β->Value}:mapE enc (λ_=>.none)=λ_=>.none:=by
 funext u;cases u<;>try rfl
 rename_i k i;cases k<;>rfl
theorem Kept.skip{h h':Heap}{r:Nat}(k:Kept h h' (UK r)):(skip r h).le (Lft.skip r h'):=λb o hb=>by
 unfold Lft.skip at hb ⊢;split at hb
 ·cases hb
 rename_i hne;rw[if_neg hne];have hlt:=(Rk.1 hb).1;rw[k.block b hlt (by simpa using hne)];exact hb
variable{h':Heap}{r:Nat}
theorem Kept.Gp{h:Heap}(k:Kept h h' (UK r)):(Lft.skip r h).le (vw h'):=UF k.skip dk
theorem Kept.of_le{h:Heap}{b:Option Nat}(hle:(vw h).le (vw h')):Kept h h' b:=⟨bO hle,λk hk _=>by have:=hle k h[k] (RA hk);rw[RA hk];exact this⟩
theorem Kept.upd{h:Heap}(hs:h'.size=h.size)(ho : ∀b,b≠r->h'[b]? = h[b]?):Kept h h' (UK r):=⟨by omega,λk _ hk=>ho k (by simpa using hk)⟩
variable{ty2:TypeId}{y:Operand}{us2:Value->List (Nat × Value)}
theorem fO{h:Heap}{t:TypeId}{z:Value}{x:Operand}{v:Value}(hz:(P.info? t).map (·.zero)=UK (UK z))(hzc:z.cells.size=n)(hsz:cU P t=UK n)(hv:v.cells.size=n)(hone : ∀c∈v.cells.toList,c.oneCell'=UO)(hx : ∀p,asg (us2 p) x=p)(hy : ∀p,asg (us2 p) y=v)(hk : ∀h':Heap,(vw h).le (vw h')->h'.size=h.size+1->h'[h.size]? = UK (.cells v.cells t (0,0))->K (ptz h.size) h'):
  @step po P (.alloc t) ty us h λp h2=>@step po2 P (.store t x y) ty2 (us2 p) h2 λ_ h3=>K p h3:=by
 refine dK hz ?_;refine eh (g:=h.size) (o:=0) (n:=n) (v:=v) (cur:=z.cells) (e:=t) hsz (hx _) (hy _) hv hone U2 U1 λh' hs ⟨row,hrow,he⟩ hoth=>?_;have hrow2:row=v.cells:=by rw[<-Array.toList_inj,he];simp only[SV,RV,R1];rw[RN (by simp[hzc]),SI]
 rw[hrow2]at hrow;have hle:(vw h).le (vw h'):=λb o hb=>by have hlt:=View.lt (View.le_refl (vw h)) hb;show h'[b]? = _;rw[hoth b U1];exact bQ _ _ b o hb
 exact hk h' hle (by rw[hs];simp) hrow
section
variable{σ α ε:Type}{f:σ->α->Except ε σ}{s s':σ}{l:List α}{k:Nat}{t:ε}
theorem FH[Inhabited α](h:k<l.length)(hs:(l.take k).foldlM f s = .ok s'):(l.take (k+1)).foldlM f s=f s' (nth l k):=by rw[Rr h,T8,hs,aC h];show List.foldlM f s' [l[k]]=f s' l[k];rw[SE];cases f s' l[k]<;>rfl
theorem ID(h:(l.take k).foldlM f s = .error t):l.foldlM f s = .error t:=by
 have e:l.foldlM f s=(l.take k++l.drop k).foldlM f s:=by rw[SX]
 rw[e,T8,h];rfl
end
def upE{σ ε:Type}(f:Nat->σ->Except ε σ):Nat->σ->Except ε σ
 | 0,s=>.ok s
 | k+1,s=>match upE f k s with
  | .ok s'=>f k s'
  | .error t=>.error t
theorem pB{σ ε:Type}{f:Nat->σ->Except ε σ}{k:Nat}{s s':σ}(h:upE f k s = .ok s'):upE f (k+1) s=f k s':=by simp only[upE,h]
theorem BZ{σ ε:Type}{f:Nat->σ->Except ε σ}{s:σ}{t:ε} : ∀{n k:Nat},k<=n->upE f k s = .error t->upE f n s = .error t
 | 0,k,hk,h=>by
  have:k=0:=by omega
  subst this;exact h
 | n+1,k,hk,h=>by
  rcases Ri n k with hlt | hge
  ·have:k=n+1:=by omega
   subst this;exact h
  simp only[upE,BZ hge h]
theorem CE{σ ε:Type}{f:Nat->σ->Except ε σ}{k:Nat}{s s':σ}{t:ε}(h:upE f k s = .ok s')(hk:k<n)(he:f k s' = .error t):upE f n s = .error t:=
 BZ (k:=k+1) hk (by rw[pB h,he])
theorem dw[Rep α]{h:Heap}{t:TypeId}{z:Value}{x:Operand}{v:Value}{d:α}{X:View}(hz:(P.info? t).map (·.zero)=UK (UK z))(hzc:z.cells.size=Rep.n α)(hsz:cU P t=UK (Rep.n α))(hv:Rd X v d)(hx : ∀p,asg (us2 p) x=p)(hy : ∀p,asg (us2 p) y=v)(hk : ∀h':Heap,(vw h).le (vw h')->h'.size=h.size+1->(∀Y:View,X.le Y->Y h.size=h'[h.size]?->At Y ⟨h.size,0,UL⟩ d)->K (ptz h.size) h'):
  @step po P (.alloc t) ty us h λp h2=>@step po2 P (.store t x y) ty2 (us2 p) h2 λ_ h3=>K p h3:=by obtain⟨c1,c2,c3⟩:=fH hv;exact fO hz hzc hsz c2 c3 hx hy λh' hle hs hb=>hk h' hle hs λY hY hYb=>oR (by rw[hYb];exact hb) (hv.mono hY)
theorem iK{B:Nat}{d:BlkD}(h:At H ⟨B,0,UL⟩ d): ∃vp vi va vt,Sl H ⟨B,0,UL⟩ vp d.phis/\Sl H ⟨B,1,UL⟩ vi d.ins/\an H ⟨B,2,UL⟩=UK (UH UI d.term.kind)/\Sl H ⟨B,3,UL⟩ va d.term.args/\Sl H ⟨B,4,UL⟩ vt d.term.to:=by obtain⟨vp,h1⟩:=(h.part BlkD.qw).sl;obtain⟨vi,h2⟩:=(h.part BlkD.gO).sl;have ht:=h.part BlkD.lF;obtain⟨va,h4⟩:=(ht.part cS.eX).sl;obtain⟨vt,h5⟩:=(ht.part cS.Af).sl;exact⟨vp,vi,va,vt,by simpa using h1,by simpa using h2,by simpa using(ht.part cS.yU).int,by simpa using h4,by simpa using h5⟩
theorem yt{B:Nat}{d:PhiD}(h:At H ⟨B,0,UL⟩ d):an H ⟨B,0,UL⟩=UK (UH UI d.dst)/\∃v,Sl H ⟨B,1,UL⟩ v d.ins:=by obtain⟨v,hv⟩:=(h.part PhiD.gO).sl;exact⟨by simpa using(h.part PhiD.gm).int,v,by simpa using hv⟩
theorem mT{B:Nat}{d:InsD}(h:At H ⟨B,0,UL⟩ d):an H ⟨B,0,UL⟩=UK (UH UI d.op)/\an H ⟨B,1,UL⟩=UK (UH UI d.dst)/\an H ⟨B,2,UL⟩=UK (UH UI d.two)/\∃v,Sl H ⟨B,3,UL⟩ v d.args:=by obtain⟨v,hv⟩:=(h.part InsD.eX).sl;exact⟨by simpa using(h.part InsD.wI).int,by simpa using(h.part InsD.gm).int,by simpa using(h.part InsD.xV).int,v,by simpa using hv⟩
theorem eU{B:Nat}{d:ak}(h:At H ⟨B,0,UL⟩ d):an H ⟨B,0,UL⟩=UK (UH UI d.params)/\∃v,Sl H ⟨B,1,UL⟩ v d.blocks:=by obtain⟨v,hv⟩:=(h.part ak.rY).sl;exact⟨by simpa using(h.part ak.zY).int,v,by simpa using hv⟩
theorem Ff{B:Nat}{d:InD}(h:At H ⟨B,0,UL⟩ d):an H ⟨B,0,UL⟩=UK (UH UI d.frm)/\an H ⟨B,1,UL⟩=UK (UH UI d.val):=
 ⟨by simpa using(h.part InD.I6).int,by simpa using(h.part InD.BB).int⟩
theorem SlRd.wh[Rep α][Inhabited α]{v:Value}{l:List α}(h:SlRd H v l)(ha:Rep.agg α=UO){N:Nat}(hn:Rep.n α=N){i:Nat}(hi:i<l.length): ∃u,(∀K:View,H.le K->Un.ev K (.bM N) (UN (UK ((slA v).add (i*N))))=UK u)/\Rd H u (nth l i):=by subst hn;obtain⟨u,h1,h2⟩:=h.whole ha (View.le_refl H) hi;refine⟨u,λK hk=>?_,by rw[aC hi];exact h2⟩;have:=ed (ρ:=λ_=>UL) (e:=.un (.bM (Rep.n α)) (.con (UN (UK ((slA v).add (i*Rep.n α)))))) hk (v:=u) (by simpa using h1);simpa using this
instance:Inhabited BlkD:=⟨⟨[],[],⟨0,[],[],⟨0⟩⟩⟩⟩
theorem wG{h:Heap}{f:FuncId}{t:Nat}{ops:List Operand}{T:Array TypeId}(hf:asg us (.tmp t) = .func (.func f) #[] caps){R:Value->Heap->Prop}{Rp:List PanicEntry->Heap->Prop}(hfn:isFn P f=UO)(hc:jo P f (ops.map (asg us)++caps.toList).toArray h R Rp)(hk : ∀v h',R v h'->K v h')(hp : ∀ch h',Rp ch h'->po.op ch h'):@step po P (.call ⟨.value (.tmp t),ops.toArray,T⟩) ty us h K:=by
 refine df (po:=po) (xG (po:=po) (R:=R) (f:=f) (args:=(ops.map (asg us)++caps.toList).toArray) (λw _=>?_) hc hk hp);unfold isFn at hfn;cases hfn':P.funcs[f]? with
 | none=>simp[hfn']at hfn
 | some fn=>simp only[hfn',Q9,bne_iff_ne,ne_eq]at hfn;obtain⟨h1,h2⟩:=hfn;simp[bL,execOp,resolve,Deferred.ofValue,hf,invoke,callFunc,program,Sem.run,hfn',h1,Option.isNone];cases hb:fn.body<;>simp[hb]at h2 ⊢
variable{b:Bool}
@[simp] theorem Pg{v:Value}:gdv b undef v=undef:=rfl
@[simp] theorem Pt{o:Option Value}:gdO b undef o=UK undef:=rfl
end
end Go.Lft
namespace Go.Lft
theorem follows:Tryz.prog.follows .mixedOrders=true:=by kernel_rfl
abbrev T.int:Nat:=3
abbrev T.bool:Nat:=4
abbrev T.uint8:Nat:=5
abbrev T.aY:Nat:=22
abbrev T.oE:Nat:=24
abbrev T.gx:Nat:=26
abbrev T.jY:Nat:=29
abbrev T.pO:Nat:=31
abbrev T.gN:Nat:=33
abbrev T.oV:Nat:=34
abbrev T.OT:Nat:=39
abbrev T.fE:Nat:=42
abbrev T.nj:Nat:=47
abbrev T.ko:Nat:=48
abbrev T.eS:Nat:=50
abbrev T.dU:Nat:=52
abbrev T.lf:Nat:=53
abbrev T.fM:Nat:=55
abbrev T.iZ:Nat:=57
abbrev T.cT:Nat:=59
abbrev T.tu:Nat:=84
abbrev T.bu:Nat:=86
abbrev T.kZ:Nat:=88
abbrev T.jH:Nat:=91
abbrev T.pD:Nat:=92
abbrev T.e9:Nat:=94
abbrev T.qd:Nat:=97
abbrev T.yp:Nat:=98
abbrev T.eY:Nat:=102
abbrev T.DL:Nat:=103
abbrev T.GC:Nat:=107
abbrev T.AP:Nat:=121
abbrev T.iE:Nat:=135
abbrev T.fu:Nat:=138
abbrev T.Mh:Nat:=175
abbrev T.hZ:Nat:=180
abbrev T.gS:Nat:=181
abbrev T.nT:Nat:=183
abbrev T.gg:Nat:=184
abbrev T.wX:Nat:=186
abbrev T.bf:Nat:=190
abbrev T.oM:Nat:=202
abbrev T.bW:Nat:=232
abbrev T.kG:Nat:=234
abbrev T.gM:Nat:=236
abbrev T.da:Nat:=238
abbrev T.EF:Nat:=242
abbrev T.gz:Nat:=256
abbrev T.nw:Nat:=258
abbrev T.gi:Nat:=259
abbrev T.jk:Nat:=261
abbrev T.dV:Nat:=295
abbrev T.eB:Nat:=297
theorem U.int:Tryz.prog.underlying T.int=UK (.int .i64):=by kernel_rfl
theorem U.uint8:Tryz.prog.underlying T.uint8=UK (.int .u8):=by kernel_rfl
theorem U.aY:Tryz.prog.underlying T.aY=UK (.slice T.int):=by kernel_rfl
theorem El.aY:eF UQ T.aY T.int 1 8 (UH UI 0):=gp U0 U0 rfl U3
theorem El.oE:eF UQ T.oE T.e9 6 112 (.agg #[(UM UL 0 0),(UM UL 0 0),(UH UI 0),(UM UL 0 0),(UM UL 0 0),(UH UJ 0)]):=gp U0 U0 rfl U3
theorem El.jY:eF UQ T.jY T.fE 2 16 (.agg #[(UH UI 0),(UH UI 0)]):=gp U0 U0 rfl U3
theorem El.pO:eF UQ T.pO T.dU 7 104 (.agg #[(UM UL 0 0),(UM UL 0 0),(UH UI 0),(UH UI 0),(UH UI 0),(UM UL 0 0),(UH UJ 0)]):=gp U0 U0 rfl U3
theorem El.nj:eF UQ T.nj T.fM 2 32 (.agg #[(UH UI 0),(UM UL 0 0)]):=gp U0 U0 rfl U3
theorem El.ko:eF UQ T.ko T.cT 8 80 (.agg #[(UH UI 0),(UH UI 0),(UH UI 0),(UH UI 0),(UH UI 0),(UH UI 0),(UH UJ 0),(UM UL 0 0)]):=gp U0 U0 rfl U3
theorem U.lf:Tryz.prog.underlying T.lf=UK (.slice T.iZ):=by kernel_rfl
theorem El.lf:eF UQ T.lf T.iZ 2 16 (.agg #[(UH UI 0),(UH UI 0)]):=gp U0 U0 rfl U3
theorem El.kZ:eF UQ T.kZ T.aY 1 24 (UM UL 0 0):=gp U0 U0 rfl U3
theorem El.pD:eF UQ T.pD T.eY 5 56 (.agg #[(UH UI 0),(UH UI 0),(UH UI 0),(UM UL 0 0),(UH UJ 0)]):=gp U0 U0 rfl U3
theorem El.qd:eF UQ T.qd T.bool 1 1 (.bool UP):=gp U0 U0 rfl U3
theorem El.yp:eF UQ T.yp T.qd 1 24 (UM UL 0 0):=gp U0 U0 rfl U3
theorem El.iE:eF UQ T.iE T.fu 4 64 (.agg #[(UH UI 0),(UH UI 0),(UM UL 0 0),(UM UL 0 0)]):=gp U0 U0 rfl U3
theorem U.hZ:Tryz.prog.underlying T.hZ=UK (.map T.int T.bool):=by kernel_rfl
theorem U.gS:Tryz.prog.underlying T.gS=UK (.map T.int T.nT):=by kernel_rfl
theorem U.nT:Tryz.prog.underlying T.nT=UK (.array 2 T.int):=by kernel_rfl
theorem U.oM:Tryz.prog.underlying T.oM=UK (.slice T.uint8):=by kernel_rfl
theorem El.oM:eF UQ T.oM T.uint8 1 1 (.int .u8 0):=gp U0 U0 rfl U3
theorem El.bW:eF UQ T.bW T.kG 2 16 (.agg #[(UH UI 0),(UH UI 0)]):=gp U0 U0 rfl U3
theorem U.da:Tryz.prog.underlying T.da=UK (.map T.int T.gM):=by kernel_rfl
theorem U.gi:Tryz.prog.underlying T.gi=UK (.map T.int T.kG):=by kernel_rfl
theorem U.eB:Tryz.prog.underlying T.eB=UK (.map T.int T.dV):=by kernel_rfl
open Go.ChangeShapes Go.WideShapes Go.RowKit
structure RT(P:Program)(t:TypeId)(α:Type)[Rep α]:Prop where
 cells : ∀{H:Type} {enc:TypeId × Value->H} {W:World} {spare:Nat->Bool} {held:Bool} {fuel:Nat} {cs:List Value} {d:DataW H} {ps:List MemPlace},
  DataW.trod enc P W 0 spare held fuel t cs=UK (d,ps)->(∀b∈d.weights P t,b<=reachBytes)->∃x:α,Rep.rd (vw W.heap) cs x
 val : ∀{W:World} {r:Reach} {base:Nat} {v:Value},Value.okWide P W r base t v->if Rep.agg α then ∃cs,v = .agg cs else v.cells = #[v]
theorem RT.arg{P:Program}{t:TypeId}{α:Type}[Rep α](rt:RT P t α){H:Type}{enc:TypeId × Value->H}{W:World}{spare:Nat->Bool}{held:Bool}{v:Value}{d:DataW H}{ps:List MemPlace}{r:Reach}{base:Nat}(h:DataW.Trod enc P W 0 spare held t v d ps)(hok:Value.okWide P W r base t v)(hw : ∀b∈d.weights P t,b<=reachBytes): ∃x:α,Rd (vw W.heap) v x:=by
 obtain⟨fuel,h⟩:=h;obtain⟨x,hx⟩:=rt.cells h hw;have hv:=rt.val hok;refine⟨x,?_⟩;unfold Rd;split
 ·rename_i ha;rw[if_pos ha]at hv;obtain⟨cs,rfl⟩:=hv;exact⟨cs,rfl,hx⟩
 rename_i ha;rw[if_neg ha]at hv;rw[hv]at hx;exact hx
theorem wf_i64{n:Int}(h:(Lit.int .i64 n).wf=UO):-9223372036854775808<=n/\n<=9223372036854775807:=by simp only[Lit.wf,Q9,decide_eq_true_eq]at h;simpa[IntKind.min,IntKind.max,IntKind.signed,IntKind.bits]using h
section
variable{P:Program}{t e:TypeId}{H:Type}{enc:TypeId × Value->H}{W:World}{spare:Nat->Bool}{held:Bool}{fuel:Nat}{cs:List Value}{x:DataW H × List MemPlace}
theorem trod_int{k:IntKind}(ht:P.underlying t=UK (.int k))(h:DataW.trod enc P W 0 spare held fuel t cs=UK x): ∃n,cs=[.int k n]/\(Lit.int k n).wf=true:=by
 cases fuel with
 | zero=>simp[DataW.trod]at h
 | succ n=>unfold DataW.trod at h;rw[ht]at h;split at h<;>simp_all
end
section
variable{P:Program}{t e:TypeId}
theorem Ob(ht:P.underlying t=UK (.int .i64)):RT P t Int where
 cells:=fun{H enc W spare held fuel cs d ps} h _=>by
  obtain⟨n,rfl,hw⟩:=trod_int ht h
  exact⟨n,rfl,wf_i64 hw⟩
 val:=fun{W r base v} h=>by
  simp only[Value.okWide,ht,Cell.okWide]at h
  cases v<;>simp[Cell.ok,ht]at h ⊢<;>first | rfl | simp[Rep.agg,Value.cells]
theorem Ax{W:World}{a:Addr}{v:Value}(h:W.cell? a=UK v):a.spot=UL/\∃c T fz,W.heap[a.block]? = UK (.cells c T fz)/\c[a.off]? = UK v:=by
 unfold World.cell? at h;split at h
 ·rename_i c T fz hb;split at h
  ·cases h
  rename_i hs;exact⟨by simpa using hs,c,T,fz,hb,h⟩
 cases h
theorem yW{W:World}{a:Addr}{n:Nat}{c:List Value}(hn:0<n)(h:W.cells? 0 a n=UK c):a.spot=UL/\gE (vw W.heap) a c:=by
 obtain⟨_,hl,hc⟩:=World.cells?_some h;have h0:=hc 0 hn;have e0:a.add 0=a:=by simp[Addr.add]
 rw[e0,RK U1]at h0;obtain⟨hs,arr,T,fz,hb,_⟩:=Ax h0;refine⟨hs,arr,T,fz,hs,hb,TN λi=>?_⟩;by_cases hi:i<n
 ·have h1:=hc i hi;rw[bC hs]at h1;simp only[World.cell?,hb]at h1;rw[St,if_pos U1,Ti];simpa using h1
 rw[RP U9,RP U1]
theorem xA{H:Type}{P:Program}{e:TypeId} : ∀{l:List (DataW H)} {d:DataW H},d∈l->∀b∈d.weights P e,b∈DataW.weightsAll P e l
 | x::l,d,hd,b,hb=>by
  rw[DataW.weightsAll,Rj];rcases Ru.1 hd with rfl | hd
  ·exact .inl hb
  exact .inr (xA hd b hb)
theorem Jf{α:Type}[Rep α](ht:P.underlying t=UK (.slice e))(hc:P.cellsOf e=Rep.n α)(hby:1<=P.bytesOf e)(re:RT P e α):RT P t (List α) where
 cells:=fun{H enc W spare held fuel cs d ps} h hw=>by
  rcases DataW.trod_slice ht h with⟨rfl,_⟩ | ⟨a,len,cap,elems,rest,n,_,rfl,hx,_,hlc,hcm,hel,hget,_,_⟩
  ·exact⟨[],_,rfl,UL,0,rfl,by simp,by simp,.inl rfl⟩
  ·simp only[SF]at hx
   obtain⟨rfl,_⟩:=hx
   have hwt : ∀b∈(DataW.slice (elems.map (·.1)) (rest.map (·.1))).weights P t,b<=reachBytes:=hw
   unfold DataW.weights at hwt
   rw[ht]at hwt
   simp only[Ru,Rj,SJ]at hwt
   have hlen:len<=140737488351232:=by
    have h1:=hwt _ (.inl rfl)
    have h2:elems.length*1<=(elems.length+rest.length)*P.bytesOf e:=Tt U1 hby
    have h3:reachBytes=140737488351232:=rfl
    omega
   have hpos:=Rep.pos (α:=α)
   have each : ∀i,i<len->∃x:α,∃c,W.cells? 0 (a.add (i*Rep.n α)) (Rep.n α)=UK c/\Rep.rd (vw W.heap) c x:=by
    intro i hi
    have h1:=hget i hi
    rw[hc,RK U1,Ro]at h1
    obtain⟨c,hc1,hc2⟩:=h1
    obtain⟨x,hx⟩:=re.cells (d:=elems[i].1) (ps:=elems[i].2) hc2 λb hb=>hwt b (.inr (.inl (xA (Sf.2 ⟨_,Sp U1,rfl⟩) b hb)))
    exact⟨x,c,hc1,hx⟩
   have key : ∀k,k<=len->∃l:List α,l.length=k/\∀(i:Nat) (hi:i<l.length),∃c,W.cells? 0 (a.add (i*Rep.n α)) (Rep.n α)=UK c/\Rep.rd (vw W.heap) c l[i]:=by
    intro k
    induction k with
    | zero=>exact λ_=>⟨[],rfl,λi hi=>by simp at hi⟩
    | succ k ih=>
     intro hk
     obtain⟨l,h1,h2⟩:=ih U1
     obtain⟨x,c,h3,h4⟩:=each k U1
     refine⟨l++[x],by simp[h1],λi hi=>?_⟩
     rcases Ri i l.length with hlt | hge
     ·rw[TC hlt];exact h2 i hlt
     ·have:i=k:=by simp at hi;omega
      subst this
      rw[Ui hge]
      simp only[h1,Tw,SQ]
      exact⟨c,h3,h4⟩
   obtain⟨l,h1,h2⟩:=key len (Q4 _)
   refine⟨l,_,rfl,UK a,cap,by rw[h1],by omega,by omega,?_⟩
   rcases Su len with h0 | h0
   ·left;exact Ry U1
   ·right
    obtain⟨c,h3,_⟩:=h2 0 U1
    have e0:a.add (0*Rep.n α)=a:=by simp[Addr.add]
    rw[e0]at h3
    refine⟨a,rfl,(yW hpos h3).1,λi hi=>?_⟩
    obtain⟨c,h3,h4⟩:=h2 i hi
    exact⟨c,(yW hpos h3).2,h4⟩
 val:=fun{W r base v} h=>by
  simp only[Value.okWide,ht,Cell.okWide]at h
  cases v<;>simp[Cell.ok,ht]at h ⊢<;>first | rfl | simp[Rep.agg,Value.cells]
end
theorem KS{w w':World}(hs:Same w w')(hle:(vw w.heap).le (vw w'.heap)):Below w.heap.size w w':=
 ⟨hs.os,hs.tape,hs.output,hs.size,λk hk=>by have:=hle k w.heap[k] (RA hk);rw[RA hk];exact this⟩
theorem tt{H:Type}{enc:TypeId × Value->H}{P:Program}{W W':World}(hl:laidOutB P=UO)(hb:Below W.heap.size W W') : ∀{ts:List TypeId} {vs:List Value} {ds:List (DataW H)} {ps:List MemPlace},
  (∀t∈ts,P.readableRec t=UO/\t<P.types.size)->DataW.TrodAll enc P W 0 (λ_=>UO) UO ts vs ds ps->(∀x∈ps,x.block<W.heap.size)->DataW.TrodAll enc P W' 0 (λb=>decide (b<W.heap.size)) UO ts vs ds ps
 | [],vs,ds,ps,_,h,_=>by obtain⟨rfl,rfl,rfl⟩:=trodAll_nil h;rfl
 | t::ts,vs,ds,ps,hr,h,hlt=>by obtain⟨v,vs',d,ds',p,q,rfl,rfl,rfl,h1,h2⟩:=trodAll_cons h;obtain⟨g1,g2⟩:=hr t (Rm ..);exact⟨p,q,Below.trod hl g1 g2 h1 hb λx hx=>hlt x (Ss _ hx),tt hl hb (λt ht=>hr t (Q7 _ ht)) h2 λx hx=>hlt x (Sq _ hx),rfl⟩
theorem Jl{H:Type}{enc:TypeId × Value->H}{P:Program}{fn:Func}{s:ChangeSpec}{W W':World}{args:Array Value}{ds gs:List (DataW H)}{before:List MemPlace}{fresh:Bool}{tb:TypeId}(hl:laidOutB P=UO)(hr : ∀t∈fn.params.toList,P.readableRec t=UO/\t<P.types.size)(hW:DataW.Whole enc P fn.params.toList s.vars UP W args.toList ds gs before)(hv:s.vars=[])(hs:s.fn H (ds++gs)={ results:=[.lit (.bool UO)],args:=ds })(hres:fn.resultTypes = #[tb])(htb:P.underlying tb=UK .bool)(hb:Below W.heap.size W W'):s.post enc P fn UP fresh UP UP W args (.bool UO) W':=by
 have hW0:=hW;obtain⟨p,q,hA,hV,rfl,_,_⟩:=hW;rw[hv]at hV;obtain⟨rfl,rfl⟩:=trodVars_none hV;have hlt : ∀x∈p,x.block<W.heap.size:=λx hx=>by simpa using hW0.lt x (Ss _ hx)
 refine⟨ds,[],p++[],[],p,[],hW0,?_,?_,?_,hb.frame _,λh=>by cases h⟩
 ·rw[hs,hres];exact trodAll_mk1 (shut_bool htb UO)
 ·rw[hs];exact tt hl hb hr hA hlt
 rw[hv,hs];rfl
end Go.Lft
namespace Go.Lft
theorem Tryz.own:ownKnob Tryz.prog.godebug=none:=by kernel_rfl
theorem Tryz.laidOut:laidOutB UQ=true:=by kernel_rfl
theorem rtI:RT UQ T.int Int:=Ob U0
theorem rtIs:RT UQ T.aY (List Int):=Jf (e:=T.int) U0 U0 (of_decide_eq_true U0) rtI
open Go.ChangeShapes Go.WideShapes Go.RowKit
theorem Qa{H:Type}{enc:TypeId × Value->H}{P:Program}{a:Assume}{C:Checked}{os:Os}{f:FuncId}{fn:Func}{s:ChangeSpec}{conds:List PathCond}{fresh:Bool}{tb t1 t2:TypeId}{α β:Type}[Rep α][Rep β]{X:World->Prop}{F:Heap->Prop}(hX : ∀w w':World,w.heap=w'.heap->X w->X w')(hF : ∀w,X w->F w.heap)(own:ownKnob C.prog.godebug=UL)(started:os.Started)(noInit:C.prog.inits.idxOf? f=UL)(hfn:C.prog.funcs[f]? = UK fn)(hP:C.prog=P)(witness : ∃(w:World) (tape:Tape) (i:Input),w.os=os/\(w.forCall tape i).Shaped C.prog/\i.vars=[]/\Input.okWide C.prog (w.forCall tape i) .any w.heap.size f i/\
   ((s.pre enc C.prog fn conds UP (w.forCall tape i).memory i.args/\X (w.forCall tape i).memory)/\sizedMet enc C.prog fn (OpenSpec.ofChange s) UP (w.forCall tape i).memory i.args)/\a.holds C.prog (lone (Frame.enter C.prog f i.args .normal) [] (w.forCall tape i)))(hl:laidOutB P=UO)(hr : ∀t∈fn.params.toList,P.readableRec t=UO/\t<P.types.size)(hv:s.vars=[])(hs : ∀ds,ds.length=2->s.fn H ds={ results:=[.lit (.bool UO)],args:=ds })(hres:fn.resultTypes = #[tb])(htb:P.underlying tb=UK .bool)(hp:fn.params = #[t1,t2])(r1:RT P t1 α)(r2:RT P t2 β)(hcall : ∀(h:Heap) (v1:Value) (x1:α) (v2:Value) (x2:β),F h->Rd (vw h) v1 x1->Rd (vw h) v2 x2->ay P f #[v1,v2] h (λv h'=>v = .bool UO/\(vw h).le (vw h'))):
  ReturnsInHanded a C os f .any (λw args=>(s.pre enc C.prog fn conds UP w args/\X w)/\sizedMet enc C.prog fn (OpenSpec.ofChange s) UP w args) (s.post enc C.prog fn UP fresh UP UP):=by
 subst hP;refine returnsInHanded_of_change_and (X:=λw _=>X w) (λw w' _ hh h=>hX w w' hh h) own started noInit hfn witness ?_;intro W base args ds gs before hval hW _ hwt hXW _;have hW0:=hW;obtain⟨p,q,hA,hV,_,_,_⟩:=hW;rw[hv]at hV;obtain⟨hgs,_⟩:=trodVars_none hV;rw[hp]at hA;obtain⟨v1,v2,d1,d2,p1,p2,hargs,hds,_,h1,h2⟩:=trodAll_two hA;have hlen:(ds++gs).length=2:=by rw[hds,hgs];rfl
 have e0:s.plain.varTypes C.prog=[]:=by simp[DataSpec.varTypes,ChangeSpec.plain,hv]
 rw[hgs,hds,hp,e0]at hwt;simp only[SI,RS,decide_eq_true_eq]at hwt;obtain⟨x1,q1⟩:=r1.arg h1 (hval 0 t1 v1 (by rw[hp];rfl) (by rw[hargs];rfl)) (λb hb=>hwt b (by simp[DataW.weightsEach,hb]));obtain⟨x2,q2⟩:=r2.arg h2 (hval 1 t2 v2 (by rw[hp];rfl) (by rw[hargs];rfl)) (λb hb=>hwt b (by simp[DataW.weightsEach,hb]));rw[hargs];refine(hcall W.heap v1 x1 v2 x2 (hF W hXW) q1 q2 W rfl).mono ?_;rintro e W' ⟨v,rfl,⟨rfl,hle⟩,hsame⟩;rw[<-hargs];have hgs':ds++gs=ds:=by rw[hgs,SI]
 exact⟨_,rfl,Jl hl hr hW0 hv (by rw[hs _ hlen,hgs']) hres htb (KS hsame hle)⟩
end Go.Lft
namespace Go.Lft
abbrev Gr:=List (List Int)
def pH(g:Gr)(a b:Int):Bool:=decide (0<=a/\a<g.length/\0<=b/\b<g.length)&&(nth g a.toNat).contains b
def mK(g:Gr)(a:Int):List Int:=sift (λb=>pH g a b) (λb=>(b:Int)) g.length
def wM(g:Gr):Gr:=rows (λb=>sift (λa=>pH g a b) (λa=>(a:Int)) g.length) g.length
def yh(gone:Int)(l:List Int)(i:Nat)(out:List Bool):List Bool:=out.set (nth l i).toNat (nth out (nth l i).toNat||decide (nth l i≠gone))
def outBlock(g:Gr)(gone:Int)(a:Nat)(out:List Bool):List Bool:=if nth out a then up (yh gone (mK g a)) (mK g a).length out else out
def pA(g:Gr)(gone:Int)(out:List Bool):List Bool:=up (outBlock g gone) g.length out
def px(g:Gr)(gone:Int):List Bool:=
 if g.length=0\/gone=0 then List.replicate g.length UP else up (λ_=>pA g gone) g.length ((List.replicate g.length UP).set 0 UO)
theorem BP{β γ:Type}(m:β->γ){f:Nat->β->β}(hf : ∀k x,m (f k x)=m x)(n:Nat)(x:β):m (up f n x)=m x:=by
 induction n with
 | zero=>rfl
 | succ n ih=>rw[up,hf,ih]
def domC(g:Gr)(a b:Nat):Bool:=nth (px g (-1)) a&&nth (px g (-1)) b&&(decide ((a:Int)=(b:Int))||!nth (px g a) b)
def qS(l:List Int)(a:Int):Nat->Int->Bool
 | 0,_=>UP
 | k+1,b=>if b=a then UO else if b<0\/(l.length:Int)<=b then UP else qS l a k (nth l b.toNat)
def eR(l:List Int)(a b:Int):Bool:=decide (0<=a/\a<l.length/\0<=b/\b<l.length)&&qS l a (l.length+1) b
def GJ(p:Nat->Bool)(b:Nat)(s:Bool):Bool:=s&&p b
def xH(p:Nat->Bool)(n:Nat):Bool:=up (GJ p) n UO
theorem zb{p:Nat->Bool}{n:Nat}:xH p (n+1)=(xH p n&&p n):=rfl
theorem E7{g:Gr}:(wM g).length=g.length:=by simp[wM]
def kE(nx:Int->List Int):Nat->Int->List Bool × List Int->List Bool × List Int
 | 0,_,s=>s
 | n+1,a,s=>let r:=up (λi s=>if nth s.1 (nth (nx a) i).toNat then s else kE nx n (nth (nx a) i) s) (nx a).length (s.1.set a.toNat UO,s.2);(r.1,r.2++[a])
def dq(nx:Int->List Int)(n:Nat)(a:Int)(i:Nat)(s:List Bool × List Int):List Bool × List Int:=if nth s.1 (nth (nx a) i).toNat then s else kE nx n (nth (nx a) i) s
theorem lJ{nx:Int->List Int}{n:Nat}{a:Int}{s:List Bool × List Int}:
  kE nx (n+1) a s=((up (dq nx n a) (nx a).length (s.1.set a.toNat UO,s.2)).1,(up (dq nx n a) (nx a).length (s.1.set a.toNat UO,s.2)).2++[a]):=rfl
def dH(t:List Bool):Nat:=t.count UP
theorem km{t:List Bool}{i:Nat}(hi:i<t.length)(hf:nth t i=UP):dH (t.set i UO)+1=dH t:=by rw[aC hi]at hf;unfold dH;rw[List.count_set hi];have hp:0<t.count false:=RU.2 (hf▸Sp hi);simp[hf];omega
theorem Ak{t:List Bool}{i:Nat}:dH (t.set i UO)<=dH t:=by
 rcases Ri i t.length with hi | hi
 ·unfold dH;rw[List.count_set hi];simp
 rw[List.set_eq_of_length_le hi];exact Q4 _
theorem xe{β:Type}(I:β->Prop){f:Nat->β->β}(hf : ∀k x,I x->I (f k x))(n:Nat)(x:β)(hx:I x):I (up f n x):=by
 induction n with
 | zero=>exact hx
 | succ n ih=>rw[up];exact hf _ _ ih
theorem rN{nx:Int->List Int}{m c:Nat} : ∀(n:Nat) (a:Int) (s:List Bool × List Int),s.1.length=m/\dH s.1<=c->(kE nx n a s).1.length=m/\dH (kE nx n a s).1<=c
 | 0,_,_,h=>h
 | n+1,a,s,h=>by
  rw[lJ];refine xe (λs:List Bool × List Int=>s.1.length=m/\dH s.1<=c) (λk x hx=>?_) _ _ ⟨by simpa using h.1,Rt Ak h.2⟩;unfold dq;split
  ·exact hx
  exact rN n _ x hx
def mI(nx:Int->List Int)(n:Nat):List Int:=if n=0 then[] else(kE nx n 0 (List.replicate n UP,[])).2.reverse
theorem mQ{α:Type}[Rep α]{W:View}{h:Heap}{e:TypeId}{v:Value}{l:List α}(o:OwnT W h e v l):v.cells = #[v]/\v.oneCell'=true:=by have:=o.len (K:=nothing);cases v<;>first | exact⟨rfl,rfl⟩ | (simp[Un.ev,vL]at this)
section
set_option maxRecDepth 100000
def q:List LC->LC|[]=>.skip|[a]=>a|a::b::l=>.seq a (q (b::l))
def k(K:List Nat)(S:List (Nat×E)):LC:=.reg UP (.fin K S [])
def f(n c i:Nat)(K K2:List Nat)(e:E)(b:LC):LC:=.seq (.seq (.reg UP (.fin K [(c,e)] [])) (.cond (.tmp c) [c] .skip (.exit n))) (.seq b (.reg UP (.fin K2 [(i,.bin (.arith .add) (.tmp i) (.con (UH UI 1)))] [])))
def u(n:Nat)(x y:LC):LC:=.cond (.tmp n) [n] x y
def v(n:Nat)(x:LC):LC:=.block n (.loop x)
def l(K:List Nat)(S A:List (Nat×E))(o:Op)(y d:Nat)(r:Reg):Reg:=.loud K S A UL [] UP o y (UK d) UO r
def s(K:List Nat)(S A:List (Nat×E))(o:Op)(r:Reg):Reg:=.loud K S A UL [] UP o 0 UL UP r
def p(A:List (Nat×E))(o:Op)(y d:Nat)(r:Reg):Reg:=.loud [] [] A UL [] UP o y (UK d) UO r
def z:Reg:=.fin [] [] []
def w:List Nat->List (Nat×E)|[]=>[]|a::l=>(a,.tmp a)::w l
def t(n:Nat):E:=.tmp n
def c(n:Int):E:=.con (UH UI n)
def d(x:E):E:=.un .load x
def e(n:Nat)(x:E):E:=.un (.fld n) x
def g(n:Nat)(x:E):E:=.un .load (.un (.fld n) x)
def i(n:Nat)(x y:E):E:=.bin (.idx n) x y
def h(x:E):E:=.un .len x
def j(o:BinOp)(x y:E):E:=.bin (.cmp o) x y
def o(x y:E):E:=.bin (.arith .add) x y
def a(n:Nat):Operand:=.tmp n
def x(n:Nat)(A:List Nat)(T:List Nat):Op:=.call ⟨.value (.func n),(A.map .tmp).toArray,T.toArray⟩
theorem sh:(∀a,q [a]=a)/\(∀a b l,q (a::b::l)=.seq a (q (b::l)))/\(∀K S,k K S=.reg UP (.fin K S []))/\(∀n c i K L e b,f n c i K L e b=.seq (.seq (.reg UP (.fin K [(c,e)] [])) (.cond (.tmp c) [c] .skip (.exit n))) (.seq b (.reg UP (.fin L [(i,.bin (.arith .add) (.tmp i) (.con (UH UI 1)))] []))))/\(∀n x y,u n x y=.cond (.tmp n) [n] x y)/\(∀n x,v n x=.block n (.loop x))/\(∀K S A o y d r,l K S A o y d r=.loud K S A UL [] UP o y (UK d) UO r)/\(∀K S A o r,s K S A o r=.loud K S A UL [] UP o 0 UL UP r)/\(∀A o y d r,p A o y d r=.loud [] [] A UL [] UP o y (UK d) UO r)/\(z=.fin [] [] [])/\(w []=[])/\(∀a l,w (a::l)=(a,.tmp a)::w l)/\(∀n,t n=.tmp n)/\(∀n,c n=.con (UH UI n))/\(∀x,d x=.un .load x)/\(∀n x,e n x=.un (.fld n) x)/\(∀n x,g n x=.un .load (.un (.fld n) x))/\(∀n x y,i n x y=.bin (.idx n) x y)/\(∀x,h x=.un .len x)/\(∀o x y,j o x y=.bin (.cmp o) x y)/\(∀m n,o m n=.bin (.arith .add) m n)/\(∀n,a n=.tmp n)/\(∀n A T,x n A T=.call ⟨.value (.func n),(A.map .tmp).toArray,T.toArray⟩)/\(∀(p:Nat->Operand) n l,List.map p (n::l)=p n::l.map p)/\(∀p:Nat->Operand,List.map p []=[]):=⟨λ_=>rfl,λ_ _ _=>rfl,λ_ _=>rfl,λ_ _ _ _ _ _ _=>rfl,λ_ _ _=>rfl,λ_ _=>rfl,λ_ _ _ _ _ _ _=>rfl,λ_ _ _ _ _=>rfl,λ_ _ _ _ _=>rfl,rfl,rfl,λ_ _=>rfl,λ_=>rfl,λ_=>rfl,λ_=>rfl,λ_ _=>rfl,λ_ _=>rfl,λ_ _ _=>rfl,λ_=>rfl,λ_ _ _=>rfl,λ_ _=>rfl,λ_=>rfl,λ_ _ _=>rfl,λ_ _ _=>rfl,λ_=>rfl⟩
set_option maxRecDepth 100000
set_option maxHeartbeats 4000000
def A.az:=lkA Tryz.f6
def B.az:=lkB Tryz.f6
def L.az.l3:LC:=lkL QP Tryz.f6 A.az B.az [1,1,1,1,1,1,0,1,0,0,1,0,0,0,1,0,0,1,0,0,1,0,0] lfc
def L.az.l2:LC:=lkL QP Tryz.f6 A.az B.az [1,1,1,1,1,1,0,1,0,0,1,0,0,0,1,0,0] (lfS lfc (lfS (lfB (lfS lfc (lfB (lfO L.az.l3)))) lfc))
def L.az.l5:LC:=lkL QP Tryz.f6 A.az B.az [1,1,1,1,1,1,0,1,0,0,1,0,0,1,0,1,0,0,1,0,0,1,0,0] lfc
def L.az.l4:LC:=lkL QP Tryz.f6 A.az B.az [1,1,1,1,1,1,0,1,0,0,1,0,0,1,0,1,0,0] (lfS lfc (lfS (lfB (lfS lfc (lfB (lfO L.az.l5)))) lfc))
def L.az.l6:LC:=lkL QP Tryz.f6 A.az B.az [1,1,1,1,1,1,0,1,0,0,1,0,0,1,1,1,0,0] lfc
def L.az.l1:LC:=lkL QP Tryz.f6 A.az B.az [1,1,1,1,1,1,0,1,0,0] (lfS lfc (lfS (lfB (lfS (lfS lfc (lfB (lfO L.az.l2))) (lfS (lfS lfc (lfB (lfO L.az.l4))) (lfS lfc (lfB (lfO L.az.l6)))))) lfc))
def L.az.l7:LC:=lkL QP Tryz.f6 A.az B.az [1,1,1,1,1,1,1,1,0,1,0,0] lfc
def L.az:LFn:=lkG QP Tryz.f6 A.az B.az (lfS lfc (lfS lfc (lfS lfc (lfS lfc (lfS lfc (lfS lfc (lfS (lfS lfc (lfB (lfO L.az.l1))) (lfS lfc (lfS (lfS lfc (lfB (lfO L.az.l7))) lfc)))))))))
theorem E.az:aN UQ Tryz.f6=UK L.az:=U0
def L.oq:LFn:=lkF QP Tryz.f10
theorem E.oq:aN UQ Tryz.f10=UK L.oq:=U0
end
section
set_option maxRecDepth 100000
set_option maxHeartbeats 4000000
def A.au:=lkA Tryz.f11
def B.au:=lkB Tryz.f11
def L.au.l1:LC:=lkL QP Tryz.f11 A.au B.au [1,1,1,1,1,1,1,0,1,0,0] lfc
def L.au.l3:LC:=lkL QP Tryz.f11 A.au B.au [1,1,1,1,1,1,1,1,1,0,1,0,0,1,0,0,1,1,1,0,0] lfc
def L.au.l2:LC:=lkL QP Tryz.f11 A.au B.au [1,1,1,1,1,1,1,1,1,0,1,0,0] (lfS lfc (lfS (lfB (lfS lfc (lfS lfc (lfS lfc (lfB (lfO L.au.l3)))))) lfc))
def L.au.l6:LC:=lkL QP Tryz.f11 A.au B.au [1,1,1,1,1,1,1,1,1,1,1,0,1,0,0,1,0,0,1,0,0,1,0,0,1,1,0,1,0,0] lfc
def L.au.l7:LC:=lkL QP Tryz.f11 A.au B.au [1,1,1,1,1,1,1,1,1,1,1,0,1,0,0,1,0,0,1,0,0,1,0,0,1,1,1,0,1,0,0] lfc
def L.au.l8:LC:=lkL QP Tryz.f11 A.au B.au [1,1,1,1,1,1,1,1,1,1,1,0,1,0,0,1,0,0,1,0,0,1,0,0,1,1,1,1,1,1,1,0,1,0,0] lfc
def L.au.l10:LC:=lkL QP Tryz.f11 A.au B.au [1,1,1,1,1,1,1,1,1,1,1,0,1,0,0,1,0,0,1,0,0,1,0,0,1,1,1,1,1,1,1,1,0,1,0,0,1,0,0,1,0,1,0,0] lfc
def L.au.l11:LC:=lkL QP Tryz.f11 A.au B.au [1,1,1,1,1,1,1,1,1,1,1,0,1,0,0,1,0,0,1,0,0,1,0,0,1,1,1,1,1,1,1,1,0,1,0,0,1,0,0,1,1,1,0,0] lfc
def L.au.l9:LC:=lkL QP Tryz.f11 A.au B.au [1,1,1,1,1,1,1,1,1,1,1,0,1,0,0,1,0,0,1,0,0,1,0,0,1,1,1,1,1,1,1,1,0,1,0,0] (lfS lfc (lfS (lfB (lfS lfc (lfS (lfS lfc (lfB (lfO L.au.l10))) (lfS lfc (lfB (lfO L.au.l11)))))) lfc))
def L.au.l12:LC:=lkL QP Tryz.f11 A.au B.au [1,1,1,1,1,1,1,1,1,1,1,0,1,0,0,1,0,0,1,0,0,1,0,0,1,1,1,1,1,1,1,1,1,1,0,1,0,0] lfc
def L.au.l5:LC:=lkL QP Tryz.f11 A.au B.au [1,1,1,1,1,1,1,1,1,1,1,0,1,0,0,1,0,0,1,0,0] (lfS lfc (lfS (lfB (lfS lfc (lfS lfc (lfS (lfS lfc (lfB (lfO L.au.l6))) (lfS (lfS lfc (lfB (lfO L.au.l7))) (lfS lfc (lfS lfc (lfS lfc (lfS (lfS lfc (lfB (lfO L.au.l8))) (lfS (lfS lfc (lfB (lfO L.au.l9))) (lfS lfc (lfS (lfS lfc (lfB (lfO L.au.l12))) lfc)))))))))))) lfc))
def L.au.l4:LC:=lkL QP Tryz.f11 A.au B.au [1,1,1,1,1,1,1,1,1,1,1,0,1,0,0] (lfS lfc (lfS (lfB (lfS lfc (lfB (lfO L.au.l5)))) lfc))
def L.au.l15:LC:=lkL QP Tryz.f11 A.au B.au [1,1,1,1,1,1,1,1,1,1,1,1,0,1,0,0,1,0,0,1,1,0,0,1,0,0,1,0,1,0,0] lfc
def L.au.l14:LC:=lkL QP Tryz.f11 A.au B.au [1,1,1,1,1,1,1,1,1,1,1,1,0,1,0,0,1,0,0,1,1,0,0] (lfS lfc (lfS (lfB (lfS lfc (lfS (lfS lfc (lfB (lfO L.au.l15))) lfc))) lfc))
def L.au.l13:LC:=lkL QP Tryz.f11 A.au B.au [1,1,1,1,1,1,1,1,1,1,1,1,0,1,0,0] (lfS lfc (lfS (lfB (lfS lfc (lfS lfc (lfB (lfO L.au.l14))))) lfc))
def L.au:LFn:=lkG QP Tryz.f11 A.au B.au (lfS lfc (lfS lfc (lfS lfc (lfS lfc (lfS lfc (lfS lfc (lfS lfc (lfS (lfS lfc (lfB (lfO L.au.l1))) (lfS lfc (lfS (lfS lfc (lfB (lfO L.au.l2))) (lfS lfc (lfS (lfS lfc (lfB (lfO L.au.l4))) (lfS (lfS lfc (lfB (lfO L.au.l13))) lfc)))))))))))))
theorem E.au:aN UQ Tryz.f11=UK L.au:=U0
def L.pS:LFn:=lkF QP Tryz.f12
theorem E.pS:aN UQ Tryz.f12=UK L.pS:=U0
def A.eD:=lkA Tryz.f13
def B.eD:=lkB Tryz.f13
def L.eD.l1:LC:=lkL QP Tryz.f13 A.eD B.eD [1,1,1,1,0,1,0,0] lfc
def L.eD:LFn:=lkG QP Tryz.f13 A.eD B.eD (lfS lfc (lfS lfc (lfS lfc (lfS lfc (lfS (lfS lfc (lfB (lfO L.eD.l1))) lfc)))))
theorem E.eD:aN UQ Tryz.f13=UK L.eD:=U0
def L.gR.l2:LC:=by apply(fun{b:LC}(_:b=q [k [52] [(52,j .lss (t 51) (t 50))],u 52 .skip (.exit 2),.block 3 (q [.reg UP (l [53,54] [(54,.un (.bM 2) (i 2 (t 49) (t 51)))] [] (.alloc 55) 0 18 (s [] [] (w [18,54]) (.store 55 (a 18) (a 54)) z)),.reg UO (l [55,56,57,58,59,60] [(56,g 0 (t 16)),(58,g 0 (t 18))] [(60,g 1 (t 18))] (x 48 [60] [53]) 53 61 (p (w [58,61]) (.build 55 #[(0,a 58),(1,a 61)]) 55 62 (p (w [62]) (.buildSlice 47 1 #[(0,a 62)]) 47 63 (.loud [] [] (w [56,63]) UL [] UO (.call ⟨.builtin .append,#[a 56,a 63],#[47,47]⟩) 47 (UK 64) UO (s [65] [] [(65,e 0 (t 16)),(64,t 64)] (.store 47 (a 65) (a 64)) z)))))]),k [66,51] [(51,o (t 51) (c 1))]])=>b);simp only[sh];rfl
def L.gR.l1:LC:=by apply(fun{b:LC}(_:b=q [k [44] [(44,j .lss (t 43) (t 42))],u 44 .skip (.exit 0),.block 1 (q [.reg UP (l [45,46,47] [(45,t 43),(47,.un (.bM 6) (i 6 (t 41) (t 43)))] [] (.alloc 3) 0 14 (p [] (.alloc 94) 0 15 (s [] [] (w [14,45]) (.store 3 (a 14) (a 45)) (s [] [] (w [15,47]) (.store 94 (a 15) (a 47)) z)))),.reg UP (p [] (.alloc 52) 0 16 z),q [k [48,49,50,51] [(49,g 0 (t 15)),(50,h (g 0 (t 15))),(51,c 0)],v 2 L.gR.l2],.reg UP (l [67,68,69] [] [(67,.un (.bM 2) (t 2)),(68,d (t 3)),(69,d (t 14))] (x 49 [67,68,69] [26,29,3]) 112 70 (p [] (.alloc 112) 0 19 (s [] [] (w [19,70]) (.store 112 (a 19) (a 70)) z))),.reg UP (l [71] [(71,.un (.fn 50) (.snoc (.snoc (.snoc (.snoc (.snoc (.snoc (.con (.tuple #[])) (t 2)) (t 14)) (t 11)) (t 16)) (t 15)) (t 13)))] [] (.alloc 116) 0 20 (s [] [] (w [20,71]) (.store 116 (a 20) (a 71)) z)),q [.reg UP (l [72] [] [(72,d (t 19))] (x 53 [72] [112]) 118 73 z),.block 4 (.rangef (t 73) [74] (k [21] [(21,t 74)]) (.block 5 (q [.reg UP (l [76,77,78,79,80] [] [(79,g 6 (.un .nilPtr (d (t 19)))),(80,t 21)] (.lookup 121 (a 79) (a 80) UO) 120 81 (.fin [75,82,83,22,23] [(22,.un (.ext 0) (t 81)),(23,.un (.ext 1) (t 81))] [])),q [k [84,85] [(85,.un .not (t 23))],u 85 (q [.reg UP (.loud [86,87] [] [(86,d (t 20)),(87,t 21)] UL [] UP (.call ⟨.value (a 86),#[a 87,.const (UH UI 0)],#[3,3]⟩) 0 (UK 88) UP z),.exit 5]) .skip],.reg UO (.loud [89,90,91,92,93,94,95] [] [(12,t 12),(95,o (d (t 12)) (g 1 (i 2 (d (t 3)) (t 22))))] UL [] UO (.store 3 (a 12) (a 95)) 0 UL UP z),.reg UO (.loud [96,97,98,99,100,101,102] [] [(96,d (t 20)),(97,t 21),(102,g 0 (i 2 (d (t 3)) (t 22)))] UL [] UO (.call ⟨.value (a 96),#[a 97,a 102],#[3,3]⟩) 0 (UK 103) UP z)])))],.reg UP (l [104,105,106] [(105,g 1 (t 10))] [(106,.un (.bM 7) (t 16))] (.buildSlice 31 1 #[(0,a 106)]) 31 107 (p (w [105,107]) (.call ⟨.builtin .append,#[a 105,a 107],#[31,31]⟩) 31 108 (s [109] [] [(109,e 1 (t 10)),(108,t 108)] (.store 31 (a 109) (a 108)) z)))]),k [110,43] [(43,o (t 43) (c 1))]])=>b);simp only[sh];rfl
def L.gR:LFn:=by apply(fun{b:LFn}(_:b=⟨[.un (.bM 2) (t 4),t 5,t 6],q [.reg UP (p (w [0]) (.box 26 (a 0)) 0 2 (p (w [1]) (.box 29 (a 1)) 0 3 (p [] (.alloc 33) 0 4 (.fin [5,6] [(5,c 0),(6,c 0)] [])))),.reg UP (l [25,26] [] [(25,d (t 3)),(26,.un (.bM 2) (t 2))] (x 46 [25,26] [29,26]) 109 27 (.fin [24,28,29,30,7,8,9] [(7,.un (.ext 0) (t 27))] [.un (.ext 2) (t 27),.un (.ext 1) (t 27)])),q [k [31,32] [(32,j .neq (t 7) (c 0))],u 32 (q [.reg UP (p [] (.build 33 #[]) 33 33 (s [34] [(34,t 7)] (w [4,33]) (.store 33 (a 4) (a 33)) (.fin [5,6] [(5,c 0),(6,t 34)] []))),.ret]) .skip],.reg UP (l [35,36] [] [(36,g 0 (t 2))] (.build 33 #[(0,a 36)]) 33 37 (p [] (.alloc 33) 0 10 (s [] [] (w [10,37]) (.store 33 (a 10) (a 37)) z))),.reg UP (l [38] [] [(38,.un (.bM 2) (t 2))] (x 47 [38] [26]) 3 39 (p [] (.alloc 3) 0 11 (p [] (.alloc 3) 0 12 (p [] (.alloc 4) 0 13 (s [] [] (w [11,39]) (.store 3 (a 11) (a 39)) (s [] [] (w [12]) (.store 3 (a 12) (.const (UH UI 0))) (s [] [] (w [13]) (.store 4 (a 13) (.const (.bool UP))) z))))))),q [k [40,41,42,43] [(41,g 1 (t 2)),(42,h (g 1 (t 2))),(43,c 0)],v 0 L.gR.l1],q [k [111] [(111,d (t 13))],u 111 (q [.reg UP (p [] (.build 33 #[]) 33 112 (s [] [] (w [4,112]) (.store 33 (a 4) (a 112)) (.fin [5,6] [(5,c 0),(6,c 2)] []))),.ret]) .skip],.reg UO (s [113,114] [(114,d (t 12))] [(4,t 4),(113,.un (.bM 2) (t 10))] (.store 33 (a 4) (a 113)) (.fin [5,6] [(5,t 114),(6,c 0)] [])),.ret]⟩)=>b);simp only[sh];rfl
theorem E.gR:aN UQ Tryz.f14=UK L.gR:=U0
end
section
set_option maxRecDepth 100000
set_option maxHeartbeats 4000000
def A.bH:=lkA Tryz.f18
def B.bH:=lkB Tryz.f18
def L.bH.l3:LC:=lkL QP Tryz.f18 A.bH B.bH [1,1,0,1,0,0,1,0,0,1,1,0,1,0,0,1,0,0,1,1,0,0] lfc
def L.bH.l2:LC:=lkL QP Tryz.f18 A.bH B.bH [1,1,0,1,0,0,1,0,0,1,1,0,1,0,0] (lfS lfc (lfS (lfB (lfS lfc (lfS lfc (lfB (lfO L.bH.l3))))) lfc))
def L.bH.l4:LC:=lkL QP Tryz.f18 A.bH B.bH [1,1,0,1,0,0,1,0,0,1,1,1,0,1,0,0] lfc
def L.bH.l1:LC:=lkL QP Tryz.f18 A.bH B.bH [1,1,0,1,0,0] (lfS lfc (lfS (lfB (lfS lfc (lfS lfc (lfS (lfS lfc (lfB (lfO L.bH.l2))) (lfS (lfS lfc (lfB (lfO L.bH.l4))) lfc))))) lfc))
def L.bH:LFn:=lkG QP Tryz.f18 A.bH B.bH (lfS lfc (lfS lfc (lfS (lfS lfc (lfB (lfO L.bH.l1))) lfc)))
theorem E.bH:aN UQ Tryz.f18=UK L.bH:=U0
def A.iz:=lkA Tryz.f27
def B.iz:=lkB Tryz.f27
def L.iz.l1:LC:=lkL QP Tryz.f27 A.iz B.iz [1,1,0,1,0,0] lfc
def L.iz:LFn:=lkG QP Tryz.f27 A.iz B.iz (lfS lfc (lfS lfc (lfS (lfS lfc (lfB (lfO L.iz.l1))) lfc)))
theorem E.iz:aN UQ Tryz.f27=UK L.iz:=U0
def L.lT:LFn:=lkF QP Tryz.f31
theorem E.lT:aN UQ Tryz.f31=UK L.lT:=U0
end
section
set_option maxRecDepth 100000
set_option maxHeartbeats 4000000
def L.jw.l1:LC:=by apply(fun{b:LC}(_:b=q [k [52] [(52,j .lss (t 51) (t 50))],u 52 .skip (.exit 0),.block 1 (q [k [53,12] [(12,t 51)],.reg UP (s [54,55,56] [] [(56,i 1 (d (t 11)) (t 12))] (.store 3 (a 56) (.const (UH UI (-1)))) z)]),k [57,51] [(51,o (t 51) (c 1))]])=>b);simp only[sh];rfl
def L.jw:LFn:=by apply(fun{b:LFn}(_:b=⟨[t 6],q [.reg UP (p (w [0]) (.box 26 (a 0)) 0 3 (.fin [6] [(6,.con (UM UL 0 0))] [])),.reg UP (l [17,18] [] [(17,t 1),(18,.un (.bM 2) (t 3))] (x 46 [17,18] [29,26]) 109 19 (.fin [16,20,21,22,7,8,9] [(7,.un (.ext 0) (t 19))] [.un (.ext 2) (t 19),.un (.ext 1) (t 19)])),q [k [23,24,25,26,27,28,29,30,31,32,33,34,35] [(35,.ite (.ite (j .neq (t 7) (c 0)) (.con (.bool UO)) (j .lss (t 2) (c 0))) (.con (.bool UO)) (j .geq (t 2) (h (g 1 (t 3)))))],u 35 (q [k [6] [(6,.con (UM UL 0 0))],.ret]) .skip],.reg UP (l [36,37,38] [] [(36,.un (.bM 2) (t 3)),(37,t 1),(38,t 2)] (x 49 [36,37,38] [26,29,3]) 112 39 (p [] (.alloc 112) 0 10 (s [] [] (w [10,39]) (.store 112 (a 10) (a 39)) z))),.reg UP (l [40,41,42,43,44,45,46,47] [] [(47,o (h (g 1 (i 6 (g 1 (t 3)) (t 2)))) (c 1)),(47,o (h (g 1 (i 6 (g 1 (t 3)) (t 2)))) (c 1))] (.makeSlice 22 (a 47) (a 47)) 22 48 (p [] (.alloc 22) 0 11 (s [] [] (w [11,48]) (.store 22 (a 11) (a 48)) z))),q [k [49,50,51] [(50,h (d (t 11))),(51,c 0)],v 0 L.jw.l1],q [.reg UP (l [58] [] [(58,d (t 10))] (x 53 [58] [112]) 118 59 z),.block 2 (.rangef (t 59) [60] (k [13] [(13,t 60)]) (.block 3 (q [.reg UP (l [62,63,64,65,66] [] [(65,g 6 (.un .nilPtr (d (t 10)))),(66,t 13)] (.lookup 121 (a 65) (a 66) UO) 120 67 (.fin [61,68,69,14,15] [(14,.un (.ext 0) (t 67)),(15,.un (.ext 1) (t 67))] [])),k [70] [(70,t 15)],u 70 (.reg UP (s [71,72,73,74] [] [(74,i 1 (d (t 11)) (t 13)),(73,t 14)] (.store 3 (a 74) (a 73)) z)) .skip])))],k [75,6] [(6,d (t 11))],.ret]⟩)=>b);simp only[sh];rfl
theorem E.jw:aN UQ Tryz.f32=UK L.jw:=U0
def A.fk:=lkA Tryz.f33
def B.fk:=lkB Tryz.f33
def L.fk.l1:LC:=lkL QP Tryz.f33 A.fk B.fk [1,1,0,1,0,0] lfc
def L.fk:LFn:=lkG QP Tryz.f33 A.fk B.fk (lfS lfc (lfS lfc (lfS (lfS lfc (lfB (lfO L.fk.l1))) lfc)))
theorem E.fk:aN UQ Tryz.f33=UK L.fk:=U0
def L.jy:LFn:=lkF QP Tryz.f34
theorem E.jy:aN UQ Tryz.f34=UK L.jy:=U0
def A.aL:=lkA Tryz.f35
def B.aL:=lkB Tryz.f35
def L.aL.l1:LC:=lkL QP Tryz.f35 A.aL B.aL [1,1,0,1,0,0] lfc
def L.aL.l3:LC:=lkL QP Tryz.f35 A.aL B.aL [1,1,1,0,1,0,0,1,0,0,1,1,0,0] lfc
def L.aL.l2:LC:=lkL QP Tryz.f35 A.aL B.aL [1,1,1,0,1,0,0] (lfS lfc (lfS (lfB (lfS lfc (lfS lfc (lfB (lfO L.aL.l3))))) lfc))
def L.aL:LFn:=lkG QP Tryz.f35 A.aL B.aL (lfS lfc (lfS lfc (lfS (lfS lfc (lfB (lfO L.aL.l1))) (lfS (lfS lfc (lfB (lfO L.aL.l2))) lfc))))
theorem E.aL:aN UQ Tryz.f35=UK L.aL:=U0
def A.dB:=lkA Tryz.f36
def B.dB:=lkB Tryz.f36
def L.dB.l2:LC:=lkL QP Tryz.f36 A.dB B.dB [1,1,0,1,0,0,1,0,0,1,1,0,0] lfc
def L.dB.l1:LC:=lkL QP Tryz.f36 A.dB B.dB [1,1,0,1,0,0] (lfS lfc (lfS (lfB (lfS lfc (lfS lfc (lfB (lfO L.dB.l2))))) lfc))
def L.dB:LFn:=lkG QP Tryz.f36 A.dB B.dB (lfS lfc (lfS lfc (lfS (lfS lfc (lfB (lfO L.dB.l1))) lfc)))
theorem E.dB:aN UQ Tryz.f36=UK L.dB:=U0
def L.iI:LFn:=lkF QP Tryz.f37
theorem E.iI:aN UQ Tryz.f37=UK L.iI:=U0
def A.cK:=lkA Tryz.f38
def B.cK:=lkB Tryz.f38
def L.cK.l2:LC:=lkL QP Tryz.f38 A.cK B.cK [1,1,1,1,0,1,0,0,1,0,0,1,1,0,0] lfc
def L.cK.l1:LC:=lkL QP Tryz.f38 A.cK B.cK [1,1,1,1,0,1,0,0] (lfS lfc (lfS (lfB (lfS lfc (lfS lfc (lfB (lfO L.cK.l2))))) lfc))
def L.cK:LFn:=lkG QP Tryz.f38 A.cK B.cK (lfS lfc (lfS lfc (lfS lfc (lfS lfc (lfS (lfS lfc (lfB (lfO L.cK.l1))) lfc)))))
theorem E.cK:aN UQ Tryz.f38=UK L.cK:=U0
def L.oh:LFn:=lkF QP Tryz.f39
theorem E.oh:aN UQ Tryz.f39=UK L.oh:=U0
def A.bs:=lkA Tryz.f40
def B.bs:=lkB Tryz.f40
def L.bs.l1:LC:=lkL QP Tryz.f40 A.bs B.bs [1,0,1,1,1,1,1,1,1,1,1,0,1,1,0,1,0,0] lfc
def L.bs:LFn:=lkG QP Tryz.f40 A.bs B.bs (lfS lfc (lfB (lfS lfc (lfK lfc (lfS lfc (lfK lfc (lfS lfc (lfK lfc (lfS lfc (lfK lfc (lfS lfc (lfK (lfS lfc (lfS lfc (lfS (lfS lfc (lfB (lfO L.bs.l1))) lfc))) lfc))))))))))))
theorem E.bs:aN UQ Tryz.f40=UK L.bs:=U0
def L.jO:LFn:=lkF QP Tryz.f41
theorem E.jO:aN UQ Tryz.f41=UK L.jO:=U0
def A.cH:=lkA Tryz.f42
def B.cH:=lkB Tryz.f42
def L.cH.l1:LC:=lkL QP Tryz.f42 A.cH B.cH [1,1,0,1,0,0] lfc
def L.cH.l2:LC:=lkL QP Tryz.f42 A.cH B.cH [1,1,1,1,0,1,0,0] lfc
def L.cH:LFn:=lkG QP Tryz.f42 A.cH B.cH (lfS lfc (lfS lfc (lfS (lfS lfc (lfB (lfO L.cH.l1))) (lfS lfc (lfS (lfS lfc (lfB (lfO L.cH.l2))) lfc)))))
theorem E.cH:aN UQ Tryz.f42=UK L.cH:=U0
def L.gw:LFn:=lkF QP Tryz.f43
theorem E.gw:aN UQ Tryz.f43=UK L.gw:=U0
def L.jq:LFn:=lkF QP Tryz.f44
theorem E.jq:aN UQ Tryz.f44=UK L.jq:=U0
def L.ou:LFn:=lkF QP Tryz.f45
theorem E.ou:aN UQ Tryz.f45=UK L.ou:=U0
end
section
set_option maxRecDepth 100000
set_option maxHeartbeats 4000000
def A.bD:=lkA Tryz.f46
def B.bD:=lkB Tryz.f46
def L.bD.l1:LC:=lkL QP Tryz.f46 A.bD B.bD [1,1,1,1,0,1,0,0] lfc
def L.bD.l3:LC:=lkL QP Tryz.f46 A.bD B.bD [1,1,1,1,1,1,0,1,0,0,1,1,0,0,1,1,0,0] lfc
def L.bD.l2:LC:=lkL QP Tryz.f46 A.bD B.bD [1,1,1,1,1,1,0,1,0,0] (lfS lfc (lfS lfc (lfS (lfB (lfS lfc (lfS lfc (lfB (lfO L.bD.l3))))) lfc)))
def L.bD.l5:LC:=lkL QP Tryz.f46 A.bD B.bD [1,1,1,1,1,1,1,1,1,0,1,0,0,1,1,0,0,1,1,0,0] lfc
def L.bD.l4:LC:=lkL QP Tryz.f46 A.bD B.bD [1,1,1,1,1,1,1,1,1,0,1,0,0] (lfS lfc (lfS lfc (lfS (lfB (lfS lfc (lfS lfc (lfB (lfO L.bD.l5))))) lfc)))
def L.bD:LFn:=lkG QP Tryz.f46 A.bD B.bD (lfS lfc (lfS lfc (lfS lfc (lfS lfc (lfS (lfS lfc (lfB (lfO L.bD.l1))) (lfS lfc (lfS (lfS lfc (lfB (lfO L.bD.l2))) (lfS lfc (lfS lfc (lfS (lfS lfc (lfB (lfO L.bD.l4))) lfc))))))))))
theorem E.bD:aN UQ Tryz.f46=UK L.bD:=U0
def L.s9:LFn:=lkF QP Tryz.f47
theorem E.s9:aN UQ Tryz.f47=UK L.s9:=U0
def L.jM:LFn:=lkF QP Tryz.f48
theorem E.jM:aN UQ Tryz.f48=UK L.jM:=U0
def A.dm:=lkA Tryz.f49
def B.dm:=lkB Tryz.f49
def L.dm.l1:LC:=lkL QP Tryz.f49 A.dm B.dm [1,1,1,0,1,0,0] lfc
def L.dm.l2:LC:=lkL QP Tryz.f49 A.dm B.dm [1,1,1,1,0,1,0,0] lfc
def L.dm:LFn:=lkG QP Tryz.f49 A.dm B.dm (lfS lfc (lfS lfc (lfS lfc (lfS (lfS lfc (lfB (lfO L.dm.l1))) (lfS (lfS lfc (lfB (lfO L.dm.l2))) lfc)))))
theorem E.dm:aN UQ Tryz.f49=UK L.dm:=U0
def A.dO:=lkA Tryz.f50
def B.dO:=lkB Tryz.f50
def L.dO.l1:LC:=lkL QP Tryz.f50 A.dO B.dO [1,0,1,0,0] lfc
def L.dO:LFn:=lkG QP Tryz.f50 A.dO B.dO (lfS lfc (lfS (lfS lfc (lfB (lfO L.dO.l1))) lfc))
theorem E.dO:aN UQ Tryz.f50=UK L.dO:=U0
def L.sN:LFn:=lkF QP Tryz.f51
theorem E.sN:aN UQ Tryz.f51=UK L.sN:=U0
def L.fA:LFn:=lkF QP Tryz.f52
theorem E.fA:aN UQ Tryz.f52=UK L.fA:=U0
def A.aH:=lkA Tryz.f53
def B.aH:=lkB Tryz.f53
def L.aH.l1:LC:=lkL QP Tryz.f53 A.aH B.aH [1,1,1,0,1,0,0] lfc
def L.aH.l3:LC:=lkL QP Tryz.f53 A.aH B.aH [1,1,1,1,0,1,0,0,1,0,0,1,1,0,0] lfc
def L.aH.l2:LC:=lkL QP Tryz.f53 A.aH B.aH [1,1,1,1,0,1,0,0] (lfS lfc (lfS (lfB (lfS lfc (lfS lfc (lfB (lfO L.aH.l3))))) lfc))
def L.aH:LFn:=lkG QP Tryz.f53 A.aH B.aH (lfS lfc (lfS lfc (lfS lfc (lfS (lfS lfc (lfB (lfO L.aH.l1))) (lfS (lfS lfc (lfB (lfO L.aH.l2))) lfc)))))
theorem E.aH:aN UQ Tryz.f53=UK L.aH:=U0
def A.dF:=lkA Tryz.f61
def B.dF:=lkB Tryz.f61
def L.dF.l1:LC:=lkL QP Tryz.f61 A.dF B.dF [1,1,1,1,0,1,0,0] lfc
def L.dF:LFn:=lkG QP Tryz.f61 A.dF B.dF (lfS lfc (lfS lfc (lfS lfc (lfS lfc (lfS (lfS lfc (lfB (lfO L.dF.l1))) lfc)))))
theorem E.dF:aN UQ Tryz.f61=UK L.dF:=U0
def A.fN:=lkA Tryz.f62
def B.fN:=lkB Tryz.f62
def L.fN.l1:LC:=lkL QP Tryz.f62 A.fN B.fN [1,1,0,1,0,0] lfc
def L.fN:LFn:=lkG QP Tryz.f62 A.fN B.fN (lfS lfc (lfS lfc (lfS (lfS lfc (lfB (lfO L.fN.l1))) lfc)))
theorem E.fN:aN UQ Tryz.f62=UK L.fN:=U0
end
section
set_option maxRecDepth 100000
set_option maxHeartbeats 4000000
def A.bK:=lkA Tryz.f63
def B.bK:=lkB Tryz.f63
def L.bK.l3:LC:=lkL QP Tryz.f63 A.bK B.bK [1,1,0,1,0,0,1,0,0,1,0,1,0,0,1,0,0,1,0,1,0,0] lfc
def L.bK.l2:LC:=lkL QP Tryz.f63 A.bK B.bK [1,1,0,1,0,0,1,0,0,1,0,1,0,0] (lfS lfc (lfS (lfB (lfS lfc (lfS (lfS lfc (lfB (lfO L.bK.l3))) lfc))) lfc))
def L.bK.l4:LC:=lkL QP Tryz.f63 A.bK B.bK [1,1,0,1,0,0,1,0,0,1,1,0,1,0,0] lfc
def L.bK.l1:LC:=lkL QP Tryz.f63 A.bK B.bK [1,1,0,1,0,0] (lfS lfc (lfS (lfB (lfS lfc (lfS (lfS lfc (lfB (lfO L.bK.l2))) (lfS (lfS lfc (lfB (lfO L.bK.l4))) lfc)))) lfc))
def L.bK:LFn:=lkG QP Tryz.f63 A.bK B.bK (lfS lfc (lfS lfc (lfS (lfS lfc (lfB (lfO L.bK.l1))) lfc)))
theorem E.bK:aN UQ Tryz.f63=UK L.bK:=U0
def L.oG:LFn:=lkF QP Tryz.f71
theorem E.oG:aN UQ Tryz.f71=UK L.oG:=U0
end
section
set_option maxRecDepth 100000
set_option maxHeartbeats 4000000
def L.jj:LFn:=lkF QP Tryz.f86
theorem E.jj:aN UQ Tryz.f86=UK L.jj:=U0
def L.jW:LFn:=lkF QP Tryz.f87
theorem E.jW:aN UQ Tryz.f87=UK L.jW:=U0
def L.gX:LFn:=lkF QP Tryz.f88
theorem E.gX:aN UQ Tryz.f88=UK L.gX:=U0
def A.fi:=lkA Tryz.f89
def B.fi:=lkB Tryz.f89
def L.fi.l1:LC:=lkL QP Tryz.f89 A.fi B.fi [1,1,0,1,0,0] lfc
def L.fi:LFn:=lkG QP Tryz.f89 A.fi B.fi (lfS lfc (lfS lfc (lfS (lfS lfc (lfB (lfO L.fi.l1))) lfc)))
theorem E.fi:aN UQ Tryz.f89=UK L.fi:=U0
def L.kY:LFn:=lkF QP Tryz.f90
theorem E.kY:aN UQ Tryz.f90=UK L.kY:=U0
def A.cR:=lkA Tryz.f91
def B.cR:=lkB Tryz.f91
def L.cR.l2:LC:=lkL QP Tryz.f91 A.cR B.cR [1,1,0,1,0,0,1,1,0,1,1,0,1,0,0] lfc
def L.cR.l1:LC:=lkL QP Tryz.f91 A.cR B.cR [1,1,0,1,0,0] (lfS lfc (lfS lfc (lfB (lfS lfc (lfS lfc (lfS (lfS lfc (lfB (lfO L.cR.l2))) lfc))))))
def L.cR:LFn:=lkG QP Tryz.f91 A.cR B.cR (lfS lfc (lfS lfc (lfS (lfS lfc (lfB (lfO L.cR.l1))) lfc)))
theorem E.cR:aN UQ Tryz.f91=UK L.cR:=U0
def L.yd:LFn:=lkF QP Tryz.f92
theorem E.yd:aN UQ Tryz.f92=UK L.yd:=U0
def L.lS:LFn:=lkF QP Tryz.f93
theorem E.lS:aN UQ Tryz.f93=UK L.lS:=U0
def A.bJ:=lkA Tryz.f94
def B.bJ:=lkB Tryz.f94
def L.bJ.l3:LC:=lkL QP Tryz.f94 A.bJ B.bJ [1,1,0,0,1,1,0,0,1,0,1,0,0,1,1,0,0,1,1,0,1,0,0] lfc
def L.bJ.l2:LC:=lkL QP Tryz.f94 A.bJ B.bJ [1,1,0,0,1,1,0,0,1,0,1,0,0] (lfS lfc (lfS lfc (lfS (lfB (lfS lfc (lfS lfc (lfS (lfS lfc (lfB (lfO L.bJ.l3))) lfc)))) lfc)))
def L.bJ.l4:LC:=lkL QP Tryz.f94 A.bJ B.bJ [1,1,0,0,1,1,0,0,1,1,0,1,0,0] lfc
def L.bJ.l1:LC:=lkL QP Tryz.f94 A.bJ B.bJ [1,1,0,0] (lfS lfc (lfS lfc (lfS (lfB (lfS lfc (lfS (lfS lfc (lfB (lfO L.bJ.l2))) (lfS (lfS lfc (lfB (lfO L.bJ.l4))) lfc)))) lfc)))
def L.bJ:LFn:=lkG QP Tryz.f94 A.bJ B.bJ (lfS lfc (lfS lfc (lfB (lfO L.bJ.l1))))
theorem E.bJ:aN UQ Tryz.f94=UK L.bJ:=U0
def A.eH:=lkA Tryz.f95
def B.eH:=lkB Tryz.f95
def L.eH.l1:LC:=lkL QP Tryz.f95 A.eH B.eH [1,0,0] lfc
def L.eH:LFn:=lkG QP Tryz.f95 A.eH B.eH (lfS lfc (lfB (lfO L.eH.l1)))
theorem E.eH:aN UQ Tryz.f95=UK L.eH:=U0
def L.mZ:LFn:=lkF QP Tryz.f96
theorem E.mZ:aN UQ Tryz.f96=UK L.mZ:=U0
end
section
set_option maxRecDepth 100000
set_option maxHeartbeats 4000000
def A.bV:=lkA Tryz.f97
def B.bV:=lkB Tryz.f97
def L.bV.l1:LC:=lkL QP Tryz.f97 A.bV B.bV [1,1,1,1,0,0] lfc
def L.bV:LFn:=lkG QP Tryz.f97 A.bV B.bV (lfS lfc (lfS lfc (lfS lfc (lfS lfc (lfB (lfO L.bV.l1))))))
theorem E.bV:aN UQ Tryz.f97=UK L.bV:=U0
def L.fR:LFn:=lkF QP Tryz.f98
theorem E.fR:aN UQ Tryz.f98=UK L.fR:=U0
def A.bE:=lkA Tryz.f99
def B.bE:=lkB Tryz.f99
def L.bE.l1:LC:=lkL QP Tryz.f99 A.bE B.bE [1,0,0] lfc
def L.bE:LFn:=lkG QP Tryz.f99 A.bE B.bE (lfS lfc (lfB (lfO L.bE.l1)))
theorem E.bE:aN UQ Tryz.f99=UK L.bE:=U0
end
section
set_option maxRecDepth 100000
set_option maxHeartbeats 4000000
def L.qj:LFn:=lkF QP Tryz.f112
theorem E.qj:aN UQ Tryz.f112=UK L.qj:=U0
def R.nr:List E:=[.un .load (.tmp 2),.un .load (.tmp 3),.un .load (.tmp 4)]

def L.lQ:LC:=by apply(fun{b:LC}(_:b=.reg UP (p (w [0]) (.box 26 (a 0)) 0 1 (p [] (.alloc 34) 0 2 (p [] (.alloc 3) 0 3 (p [] (.alloc 3) 0 4 z)))))=>b);simp only[sh];rfl
theorem E.lQ:eG UQ Tryz.f116.ntmps (iT Tryz.f116) (EN Tryz.f116) UP (CV Tryz.f116)=UK L.lQ:=U0
def L.iD.l1:LC:=by apply(fun{b:LC}(_:b=q [k [26] [(26,j .lss (t 25) (t 24))],u 26 .skip (.exit 0),.block 1 (q [.reg UP (l [27,28] [(28,.un (.bM 6) (i 6 (t 23) (t 25)))] [] (.alloc 94) 0 7 (s [] [] (w [7,28]) (.store 94 (a 7) (a 28)) z)),k [29,30,31,32,33,34,35,36,37,5] [(5,o (t 5) (o (h (g 0 (t 7))) (h (g 1 (t 7)))))]]),k [38,25] [(25,o (t 25) (c 1))]])=>b);simp only[sh];rfl
def L.iD:LC:=by apply(fun{b:LC}(_:b=q [.reg UP (l [10,11] [] [(11,g 0 (t 1))] (.call ⟨.value (.func 96),#[a 11,.const (UH UI 0),.const (UH UI 4)],#[3,3,3]⟩) 4 12 (.loud [] [] (w [12]) UL [] UP (.call ⟨.value (.func 154),#[a 12,.const (UH UI 1),.const (UH UI 0),.const (UH UI 0)],#[4,34,3,3]⟩) 0 (UK 13) UP z)),.reg UP (.loud [14,15,16,17] [] [(17,j .gtr (h (g 1 (t 1))) (c 0))] UL [] UP (.call ⟨.value (.func 154),#[a 17,.const (UH UI 14),.const (UH UI 0),.const (UH UI 0)],#[4,34,3,3]⟩) 0 (UK 18) UP z),k [19,20,21,5] [(5,h (g 1 (t 1)))],q [k [22,23,24,25] [(23,g 1 (t 1)),(24,h (g 1 (t 1))),(25,c 0)],v 0 L.iD.l1],.reg UP (.loud [39,40,41,42,43,44,45,46] [] [(46,.ite (j .leq (h (g 1 (t 1))) (c 512)) (j .leq (t 5) (c 4096)) (.con (.bool UP)))] UL [] UP (.call ⟨.value (.func 154),#[a 46,.const (UH UI 2),.const (UH UI 0),.const (UH UI 0)],#[4,34,3,3]⟩) 0 (UK 47) UP z),.reg UP (l [48] [(48,.un (.bM 2) (t 1))] [] (.makeMap 259 UL) 259 49 (p (w [48,49]) (.build 261 #[(0,a 48),(1,a 49)]) 261 50 (p (w [50]) (.box 261 (a 50)) 258 51 (.fin [8] [(8,t 51)] [])))),.reg UP (.loud [52] [] [(52,t 8)] UL [] UP (x 155 [52] [258]) 0 (UK 53) UP z),.reg UP (.loud [54] [] [(54,t 8)] UL [] UP (x 156 [54] [258]) 0 (UK 55) UP z),.reg UP (s [] [] (w [2]) (.store 34 (a 2) (.const (UH UI 0))) (s [] [] (w [3]) (.store 3 (a 3) (.const (UH UI 0))) (s [] [] (w [4]) (.store 3 (a 4) (.const (UH UI 0))) z))),.ret])=>b);simp only[sh];rfl
theorem E.iD:eG UQ Tryz.f116.ntmps (iT Tryz.f116) (EN Tryz.f116) UP (Jb Tryz.f116)=UK L.iD:=U0
theorem R.z8:Tryz.f116.results.toList.mapM (resE UQ)=UK R.nr:=by kernel_rfl
theorem B.nr:Tryz.f116.body=UK (.seq (CV Tryz.f116) (.seq (.region (Ni (Nw Tryz.f116)) #[NQ Tryz.f116 0,NQ Tryz.f116 1] UP) (Jb Tryz.f116))):=by kernel_rfl
end
section
set_option maxRecDepth 100000
set_option maxHeartbeats 4000000
def L.iJ:LFn:=lkF QP Tryz.f133
theorem E.iJ:aN UQ Tryz.f133=UK L.iJ:=U0
def L.sM:LFn:=lkF QP Tryz.f134
theorem E.sM:aN UQ Tryz.f134=UK L.sM:=U0
def L.oH:LFn:=lkF QP Tryz.f135
theorem E.oH:aN UQ Tryz.f135=UK L.oH:=U0
def A.bS:=lkA Tryz.f136
def B.bS:=lkB Tryz.f136
def L.bS.l1:LC:=lkL QP Tryz.f136 A.bS B.bS [0,1,0,0] lfc
def L.bS.l2:LC:=lkL QP Tryz.f136 A.bS B.bS [1,1,0,0] lfc
def L.bS:LFn:=lkG QP Tryz.f136 A.bS B.bS (lfS (lfS lfc (lfB (lfO L.bS.l1))) (lfS lfc (lfB (lfO L.bS.l2))))
theorem E.bS:aN UQ Tryz.f136=UK L.bS:=U0
def L.slices_Contains_int:LFn:=lkF QP Tryz.f137
theorem E.slices_Contains_int:aN UQ Tryz.f137=UK L.slices_Contains_int:=U0
def A.fy:=lkA Tryz.f138
def B.fy:=lkB Tryz.f138
def L.fy:LFn:=lkG QP Tryz.f138 A.fy B.fy (lfS lfc (lfS lfc (lfS lfc (lfS (lfB (lfS lfc (lfK lfc (lfS lfc (lfK lfc (lfS lfc lfc)))))) lfc))))
theorem E.fy:aN UQ Tryz.f138=UK L.fy:=U0
def A.bj:=lkA Tryz.f139
def B.bj:=lkB Tryz.f139
def L.bj.l1:LC:=lkL QP Tryz.f139 A.bj B.bj [1,1,1,1,1,1,1,0,1,0,0] lfc
def L.bj.l2:LC:=lkL QP Tryz.f139 A.bj B.bj [1,1,1,1,1,1,1,1,1,1,1,1,0,1,0,0] lfc
def L.bj:LFn:=lkG QP Tryz.f139 A.bj B.bj (lfS lfc (lfS lfc (lfS lfc (lfS lfc (lfS lfc (lfS lfc (lfS lfc (lfS (lfS lfc (lfB (lfO L.bj.l1))) (lfS lfc (lfS lfc (lfS lfc (lfS lfc (lfS (lfS lfc (lfB (lfO L.bj.l2))) lfc)))))))))))))
theorem E.bj:aN UQ Tryz.f139=UK L.bj:=U0
def L.oB:LFn:=lkF QP Tryz.f140
theorem E.oB:aN UQ Tryz.f140=UK L.oB:=U0
def L.om:LFn:=lkF QP Tryz.f141
theorem E.om:aN UQ Tryz.f141=UK L.om:=U0
def A.cA:=lkA Tryz.f142
def B.cA:=lkB Tryz.f142
def L.cA.l1:LC:=lkL QP Tryz.f142 A.cA B.cA [1,0,1,0,0] lfc
def L.cA:LFn:=lkG QP Tryz.f142 A.cA B.cA (lfS lfc (lfS (lfS lfc (lfB (lfO L.cA.l1))) lfc))
theorem E.cA:aN UQ Tryz.f142=UK L.cA:=U0
end
section
set_option maxRecDepth 100000
set_option maxHeartbeats 4000000
def L.gj:LFn:=by apply(fun{b:LFn}(_:b=⟨[],q [.reg UP (p [] (.call ⟨.builtin .recover,#[],#[]⟩) 20 6 z),.block 0 (q [.reg UP (p (w [6]) (.binOp .eql 20 (a 6) (.const .nilIface) 20) 4 8 z),u 8 (.reg UP (.fin [3] [] [t 6])) (q [.reg UP (p (w [6]) (.typeAssert (a 6) 20 256 UO) 0 9 (.fin [10,11] [(10,.un (.ext 1) (t 9)),(11,.un (.ext 0) (t 9))] [])),u 10 (q [.reg UP (p [] (.alloc 256) 0 4 (s [] [] (w [4,11]) (.store 256 (a 4) (a 11)) z)),.reg UO (s [12,13,14,15,16,17] [(15,g 1 (t 4)),(17,g 2 (t 4))] [(0,t 0),(13,g 0 (t 4))] (.store 34 (a 0) (a 13)) (s [] [] (w [1,15]) (.store 3 (a 1) (a 15)) (.loud [] [] (w [2,17]) UL [] UO (.store 3 (a 2) (a 17)) 0 UL UP z)))]) (q [k [5] [(5,t 6)],.reg UP (s [7] [] [(7,t 5)] (.panic (a 7)) z)])])])]⟩)=>b);simp only[sh];rfl
theorem Q.gj:Tryz.f153.body=UK (.seq (.region (Ni (CV Tryz.f153)) #[OM Tryz.f153 0] UP) (Nn Tryz.f153)):=by kernel_rfl
theorem E.rQ:eG UQ Tryz.f153.ntmps (iT Tryz.f153) (EN Tryz.f153) UP (Nn Tryz.f153)=UK L.gj.body.tail:=U0
def L.nI:LFn:=lkF QP Tryz.f154
theorem E.nI:aN UQ Tryz.f154=UK L.nI:=U0
def A.aF:=lkA Tryz.f155
def B.aF:=lkB Tryz.f155
def L.aF.l2:LC:=lkL QP Tryz.f155 A.aF B.aF [1,0,0,1,1,0,0,1,0,1,0,0] lfc
def L.aF.l3:LC:=lkL QP Tryz.f155 A.aF B.aF [1,0,0,1,1,0,0,1,1,0,1,0,0] lfc
def L.aF.l4:LC:=lkL QP Tryz.f155 A.aF B.aF [1,0,0,1,1,0,0,1,1,1,1,1,1,0,0] lfc
def L.aF.l1:LC:=lkL QP Tryz.f155 A.aF B.aF [1,0,0] (lfS lfc (lfS lfc (lfS (lfB (lfS lfc (lfS (lfS lfc (lfB (lfO L.aF.l2))) (lfS (lfS lfc (lfB (lfO L.aF.l3))) (lfS lfc (lfS lfc (lfS lfc (lfB (lfO L.aF.l4))))))))) lfc)))
def L.aF:LFn:=lkG QP Tryz.f155 A.aF B.aF (lfS lfc (lfB (lfO L.aF.l1)))
theorem E.aF:aN UQ Tryz.f155=UK L.aF:=U0
def A.aw:=lkA Tryz.f156
def B.aw:=lkB Tryz.f156
def L.aw.l1:LC:=lkL QP Tryz.f156 A.aw B.aw [1,1,1,0,1,0,0] lfc
def L.aw.l4:LC:=lkL QP Tryz.f156 A.aw B.aw [1,1,1,1,1,1,1,0,0,1,1,0,0,1,0,1,0,0,1,1,0,0,1,1,0,1,0,0] lfc
def L.aw.l5:LC:=lkL QP Tryz.f156 A.aw B.aw [1,1,1,1,1,1,1,0,0,1,1,0,0,1,0,1,0,0,1,1,0,0,1,1,1,1,1,0,0] lfc
def L.aw.l3:LC:=lkL QP Tryz.f156 A.aw B.aw [1,1,1,1,1,1,1,0,0,1,1,0,0,1,0,1,0,0] (lfS lfc (lfS lfc (lfS (lfB (lfS lfc (lfS lfc (lfS (lfS lfc (lfB (lfO L.aw.l4))) (lfS lfc (lfS lfc (lfB (lfO L.aw.l5)))))))) lfc)))
def L.aw.l7:LC:=lkL QP Tryz.f156 A.aw B.aw [1,1,1,1,1,1,1,0,0,1,1,0,0,1,1,0,1,0,0,1,1,0,0,1,1,0,0] lfc
def L.aw.l6:LC:=lkL QP Tryz.f156 A.aw B.aw [1,1,1,1,1,1,1,0,0,1,1,0,0,1,1,0,1,0,0] (lfS lfc (lfS lfc (lfS (lfB (lfS lfc (lfS lfc (lfB (lfO L.aw.l7))))) lfc)))
def L.aw.l8:LC:=lkL QP Tryz.f156 A.aw B.aw [1,1,1,1,1,1,1,0,0,1,1,0,0,1,1,1,1,0,0] lfc
def L.aw.l2:LC:=lkL QP Tryz.f156 A.aw B.aw [1,1,1,1,1,1,1,0,0] (lfS lfc (lfS lfc (lfS (lfB (lfS lfc (lfS (lfS lfc (lfB (lfO L.aw.l3))) (lfS (lfS lfc (lfB (lfO L.aw.l6))) (lfS lfc (lfB (lfO L.aw.l8))))))) lfc)))
def L.aw:LFn:=lkG QP Tryz.f156 A.aw B.aw (lfS lfc (lfS lfc (lfS lfc (lfS (lfS lfc (lfB (lfO L.aw.l1))) (lfS lfc (lfS lfc (lfS lfc (lfB (lfO L.aw.l2)))))))))
theorem E.aw:aN UQ Tryz.f156=UK L.aw:=U0
end
section
set_option maxRecDepth 100000
set_option maxHeartbeats 4000000
def A.strings_Fields:=lkA Tryz.f184
def B.strings_Fields:=lkB Tryz.f184
def A.slices_Index_int:=lkA Tryz.f185
def B.slices_Index_int:=lkB Tryz.f185
def L.slices_Index_int.l1:LC:=lkL QP Tryz.f185 A.slices_Index_int B.slices_Index_int [1,0,1,0,0] lfc
def L.slices_Index_int:LFn:=lkG QP Tryz.f185 A.slices_Index_int B.slices_Index_int (lfS lfc (lfS (lfS lfc (lfB (lfO L.slices_Index_int.l1))) lfc))
theorem E.slices_Index_int:aN UQ Tryz.f185=UK L.slices_Index_int:=U0
def L.jP:LFn:=lkF QP Tryz.f186
theorem E.jP:aN UQ Tryz.f186=UK L.jP:=U0
def L.gh:LFn:=lkF QP Tryz.f187
theorem E.gh:aN UQ Tryz.f187=UK L.gh:=U0
def L.gn:LFn:=lkF QP Tryz.f188
theorem E.gn:aN UQ Tryz.f188=UK L.gn:=U0
def L.fZ:LFn:=lkF QP Tryz.f189
theorem E.fZ:aN UQ Tryz.f189=UK L.fZ:=U0
def L.pC:LFn:=lkF QP Tryz.f190
theorem E.pC:aN UQ Tryz.f190=UK L.pC:=U0
def L.fX:LFn:=lkF QP Tryz.f191
theorem E.fX:aN UQ Tryz.f191=UK L.fX:=U0
def L.fS:LFn:=lkF QP Tryz.f192
theorem E.fS:aN UQ Tryz.f192=UK L.fS:=U0
def L.fQ:LFn:=lkF QP Tryz.f193
theorem E.fQ:aN UQ Tryz.f193=UK L.fQ:=U0
def A.cY:=lkA Tryz.f194
def B.cY:=lkB Tryz.f194
def L.cY:LFn:=lkG QP Tryz.f194 A.cY B.cY (lfS lfc (lfS lfc (lfS lfc lfc)))
theorem E.cY:aN UQ Tryz.f194=UK L.cY:=U0
def L.ig:LFn:=lkF QP Tryz.f195
theorem E.ig:aN UQ Tryz.f195=UK L.ig:=U0
end
section
set_option maxRecDepth 100000
set_option maxHeartbeats 4000000
def L.fW:LFn:=lkF QP Tryz.f196
theorem E.fW:aN UQ Tryz.f196=UK L.fW:=U0
def L.jl:LFn:=lkF QP Tryz.f197
theorem E.jl:aN UQ Tryz.f197=UK L.jl:=U0
def L.gl:LFn:=lkF QP Tryz.f198
theorem E.gl:aN UQ Tryz.f198=UK L.gl:=U0
def L.gk:LFn:=lkF QP Tryz.f199
theorem E.gk:aN UQ Tryz.f199=UK L.gk:=U0
def A.bR:=lkA Tryz.f209
def B.bR:=lkB Tryz.f209
def L.bR.l1:LC:=lkL QP Tryz.f209 A.bR B.bR [0,1,0,0] lfc
def L.bR.l2:LC:=lkL QP Tryz.f209 A.bR B.bR [1,1,0,0] lfc
def L.bR:LFn:=lkG QP Tryz.f209 A.bR B.bR (lfS (lfS lfc (lfB (lfO L.bR.l1))) (lfS lfc (lfB (lfO L.bR.l2))))
theorem E.bR:aN UQ Tryz.f209=UK L.bR:=U0
def L.kO:LFn:=lkF QP Tryz.f210
theorem E.kO:aN UQ Tryz.f210=UK L.kO:=U0
def L.mP:LFn:=lkF QP Tryz.f211
theorem E.mP:aN UQ Tryz.f211=UK L.mP:=U0
def A.ir:=lkA Tryz.f212
def B.ir:=lkB Tryz.f212
def L.ir.l1:LC:=lkL QP Tryz.f212 A.ir B.ir [1,1,0,1,0,0] lfc
def L.ir:LFn:=lkG QP Tryz.f212 A.ir B.ir (lfS lfc (lfS lfc (lfS (lfS lfc (lfB (lfO L.ir.l1))) lfc)))
theorem E.ir:aN UQ Tryz.f212=UK L.ir:=U0
def L.oA:LFn:=lkF QP Tryz.f213
theorem E.oA:aN UQ Tryz.f213=UK L.oA:=U0
def L.oD:LFn:=by apply(fun{b:LFn}(_:b=⟨[t 2],q [k [2] [(2,.con (UM UL 0 0))],.reg UP (l [6,7] [] [(7,h (t 0)),(7,h (t 0))] (.makeSlice 88 (a 7) (a 7)) 88 8 (p [] (.alloc 88) 0 3 (s [] [] (w [3,8]) (.store 88 (a 3) (a 8)) z))),q [.reg UP (l [9] [] [(9,t 0)] (x 238 [9] [88]) 318 10 z),.block 0 (.rangef (t 10) [11,12] (q [k [4] [(4,t 11)],k [5] [(5,t 12)]]) (.block 1 (.reg UO (l [13,14,15,16,17,18,19] [(13,d (t 3)),(14,t 5),(18,d (i 1 (d (t 3)) (t 5)))] [(19,t 4)] (.buildSlice 22 1 #[(0,a 19)]) 22 20 (p (w [18,20]) (.call ⟨.builtin .append,#[a 18,a 20],#[22,22]⟩) 22 21 (.loud [22] [] [(22,i 1 (t 13) (t 14)),(21,t 21)] UL [] UO (.store 22 (a 22) (a 21)) 0 UL UP z))))))],k [23,2] [(2,d (t 3))],.ret]⟩)=>b);simp only[sh];rfl
theorem E.oD:aN UQ Tryz.f214=UK L.oD:=U0
def A.bN:=lkA Tryz.f215
def B.bN:=lkB Tryz.f215
def L.bN.l1:LC:=lkL QP Tryz.f215 A.bN B.bN [1,1,1,1,0,1,0,0] lfc
def L.bN.l2:LC:=lkL QP Tryz.f215 A.bN B.bN [1,1,1,1,1,0,1,0,0] lfc
def L.bN.l5:LC:=lkL QP Tryz.f215 A.bN B.bN [1,1,1,1,1,1,1,0,1,0,0,1,0,1,1,0,0,1,1,0,0,1,1,0,1,0,0] lfc
def L.bN.l4:LC:=lkL QP Tryz.f215 A.bN B.bN [1,1,1,1,1,1,1,0,1,0,0,1,0,1,1,0,0] (lfS lfc (lfS lfc (lfS (lfB (lfS lfc (lfS lfc (lfS (lfS lfc (lfB (lfO L.bN.l5))) lfc)))) lfc)))
def L.bN.l3:LC:=lkL QP Tryz.f215 A.bN B.bN [1,1,1,1,1,1,1,0,1,0,0] (lfS lfc (lfB (lfS lfc (lfS lfc (lfB (lfO L.bN.l4))))))
def L.bN:LFn:=lkG QP Tryz.f215 A.bN B.bN (lfS lfc (lfS lfc (lfS lfc (lfS lfc (lfS (lfS lfc (lfB (lfO L.bN.l1))) (lfS (lfS lfc (lfB (lfO L.bN.l2))) (lfS lfc (lfS (lfS lfc (lfB (lfO L.bN.l3))) lfc))))))))
theorem E.bN:aN UQ Tryz.f215=UK L.bN:=U0
def L.gD:LFn:=lkF QP Tryz.f216
theorem E.gD:aN UQ Tryz.f216=UK L.gD:=U0
def A.dp:=lkA Tryz.f217
def B.dp:=lkB Tryz.f217
def L.dp.l1:LC:=lkL QP Tryz.f217 A.dp B.dp [1,1,1,0,1,0,0] lfc
def L.dp:LFn:=lkG QP Tryz.f217 A.dp B.dp (lfS lfc (lfS lfc (lfS lfc (lfS (lfS lfc (lfB (lfO L.dp.l1))) lfc))))
theorem E.dp:aN UQ Tryz.f217=UK L.dp:=U0
end
section
set_option maxRecDepth 100000
set_option maxHeartbeats 4000000
def A.cG:=lkA Tryz.f224
def B.cG:=lkB Tryz.f224
def L.cG.l2:LC:=lkL QP Tryz.f224 A.cG B.cG [1,0,1,0,0,1,1,0,0,1,1,0,0] lfc
def L.cG.l1:LC:=lkL QP Tryz.f224 A.cG B.cG [1,0,1,0,0] (lfS lfc (lfS lfc (lfS (lfB (lfS lfc (lfS lfc (lfB (lfO L.cG.l2))))) lfc)))
def L.cG:LFn:=lkG QP Tryz.f224 A.cG B.cG (lfS lfc (lfS (lfS lfc (lfB (lfO L.cG.l1))) lfc))
theorem E.cG:aN UQ Tryz.f224=UK L.cG:=U0
def L.ic:LFn:=lkF QP Tryz.f225
theorem E.ic:aN UQ Tryz.f225=UK L.ic:=U0
def L.gZ:LFn:=lkF QP Tryz.f226
theorem E.gZ:aN UQ Tryz.f226=UK L.gZ:=U0
def A.dG:=lkA Tryz.f227
def B.dG:=lkB Tryz.f227
def L.dG:LFn:=lkG QP Tryz.f227 A.dG B.dG (lfS lfc (lfS lfc lfc))
theorem E.dG:aN UQ Tryz.f227=UK L.dG:=U0
end
section
set_option maxRecDepth 100000
set_option maxHeartbeats 4000000
end
section
set_option maxRecDepth 100000
set_option maxHeartbeats 4000000
def A.dM:=lkA Tryz.f229
def B.dM:=lkB Tryz.f229
def L.dM:LFn:=lkG QP Tryz.f229 A.dM B.dM (lfS lfc (lfS lfc (lfS lfc (lfS lfc lfc))))
theorem E.dM:aN UQ Tryz.f229=UK L.dM:=U0
def A.dI:=lkA Tryz.f230
def B.dI:=lkB Tryz.f230
def L.dI:LFn:=lkG QP Tryz.f230 A.dI B.dI (lfS lfc (lfS lfc lfc))
theorem E.dI:aN UQ Tryz.f230=UK L.dI:=U0
def L.iN:LFn:=lkF QP Tryz.f232
theorem E.iN:aN UQ Tryz.f232=UK L.iN:=U0
def L.iM:LFn:=lkF QP Tryz.f233
theorem E.iM:aN UQ Tryz.f233=UK L.iM:=U0
def A.fj:=lkA Tryz.f234
def B.fj:=lkB Tryz.f234
def L.fj.l1:LC:=lkL QP Tryz.f234 A.fj B.fj [1,1,0,1,0,0] lfc
def L.fj:LFn:=lkG QP Tryz.f234 A.fj B.fj (lfS lfc (lfS lfc (lfS (lfS lfc (lfB (lfO L.fj.l1))) lfc)))
theorem E.fj:aN UQ Tryz.f234=UK L.fj:=U0
def A.eE:=lkA Tryz.f235
def B.eE:=lkB Tryz.f235
def L.eE.l1:LC:=lkL QP Tryz.f235 A.eE B.eE [1,1,0,1,0,0] lfc
def L.eE:LFn:=lkG QP Tryz.f235 A.eE B.eE (lfS lfc (lfS lfc (lfS (lfS lfc (lfB (lfO L.eE.l1))) lfc)))
theorem E.eE:aN UQ Tryz.f235=UK L.eE:=U0
def A.dN:=lkA Tryz.f236
def B.dN:=lkB Tryz.f236
def L.dN.l1:LC:=lkL QP Tryz.f236 A.dN B.dN [1,0,1,0,0] lfc
def L.dN:LFn:=lkG QP Tryz.f236 A.dN B.dN (lfS lfc (lfS (lfS lfc (lfB (lfO L.dN.l1))) lfc))
theorem E.dN:aN UQ Tryz.f236=UK L.dN:=U0
def L.oC:LFn:=lkF QP Tryz.f238
theorem E.oC:aN UQ Tryz.f238=UK L.oC:=U0
def A.dP:=lkA Tryz.f239
def B.dP:=lkB Tryz.f239
def L.dP.l1:LC:=lkL QP Tryz.f239 A.dP B.dP [1,1,0,0,0] lfc
def L.dP:LFn:=lkG QP Tryz.f239 A.dP B.dP (lfS lfc (lfS lfc (lfS (lfB (lfO L.dP.l1)) lfc)))
theorem E.dP:aN UQ Tryz.f239=UK L.dP:=U0
def L.iH:LFn:=lkF QP Tryz.f240
theorem E.iH:aN UQ Tryz.f240=UK L.iH:=U0
def A.cQ:=lkA Tryz.f244
def B.cQ:=lkB Tryz.f244
def L.cQ.l2:LC:=lkL QP Tryz.f244 A.cQ B.cQ [1,0,0,1,1,0,0,1,1,0,0] lfc
def L.cQ.l1:LC:=lkL QP Tryz.f244 A.cQ B.cQ [1,0,0] (lfS lfc (lfS lfc (lfS (lfB (lfS lfc (lfS lfc (lfB (lfO L.cQ.l2))))) lfc)))
def L.cQ:LFn:=lkG QP Tryz.f244 A.cQ B.cQ (lfS lfc (lfB (lfO L.cQ.l1)))
theorem E.cQ:aN UQ Tryz.f244=UK L.cQ:=U0
end
end Go.Lft
