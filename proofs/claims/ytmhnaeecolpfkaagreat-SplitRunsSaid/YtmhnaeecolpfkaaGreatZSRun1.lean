/- A part of the proof: LftX, LftY, LftZ, LftF, LftG, LftH, LftM, LftN, LftQ, LftU, LftJ, LftK, T, LftP, Ua, LftO, LftI, LftL, Ke. -/
import Derived.Test.YtmhnaeecolpfkaaGreatZSRun0
import Derived.KernelRfl
import Derived.ChangeKeysEq
import Derived.MapKept
import Derived.RecoverIn
import Derived.Test.YtmhnaeecolpfkaaGreatChecked
import Derived.ProofKit
import Derived.OpenShut
import Derived.HandedShaped
import Derived.Maps.RangeRun
set_option linter.unusedSimpArgs false
set_option linter.unusedVariables false
open Go.Value renaming int->Qy,slice->QD,pointer->QE
open Go.IntKind renaming i64->Qz,i32->QA
open Option renaming some->QB,none->QC
open Bool renaming true->QF,false->QG
open Go.Proofs.Tryz renaming prog->QH
open Go.Proofs
namespace Go.Lft
section
variable{po:OP}{pp:PP}
def step[po:OP](P:Program)(op:Op)(ty:TypeId)(us:List (Nat × Value))(h:Heap)(K:Value->Heap->Prop):Prop:=iI P (bg op ty us) h K
variable{P:Program}{op:Op}{ty:TypeId}{us:List (Nat × Value)}{h':Heap}{K:Value->Heap->Prop}
@[congr] theorem J3{us':List (Nat × Value)}{h:Heap}(e1:us=us')(e2:h=h'):step P op ty us h K=step P op ty us' h' K:=by rw[e1,e2]
def grdP(o:Option Value)(b:Bool)(A B:Prop):Prop:=∃gv,o=QB gv/\(gv = .bool b->A)/\(gv≠.bool b->B)
variable{b:Bool}{A B:Prop}
@[congr] theorem J5{o o':Option Value}(h:o=o'):grdP o b A B=grdP o' b A B:=by rw[h]
@[simp] theorem Mc:grdP (QB (.bool QF)) QF A B=A:=by simp[grdP]
@[simp] theorem Me:grdP (QB (.bool QF)) QG A B=B:=by simp[grdP]
@[simp] theorem Mf:grdP (QB (.bool QG)) QF A B=B:=by simp[grdP]
@[simp] theorem L8:grdP (QB (.bool QG)) QG A B=A:=by simp[grdP]
@[simp] theorem K8{p:Prop}[Decidable p]:grdP (QB (.bool (decide p))) QF A B=((p->A)/\(¬p->B)):=by simp[grdP]
@[simp] theorem KR{p:Prop}[Decidable p]:grdP (QB (.bool (decide p))) QG A B=((p->B)/\(¬p->A)):=by simp[grdP,and_comm]
@[simp] theorem Lz{x:Bool}:grdP (QB (.bool (!x))) b A B=grdP (QB (.bool x)) (!b) A B:=by cases x<;>cases b<;>simp
@[simp] theorem KN:grdP (QB undef) b A B=B:=by simp[grdP,undef]
section
variable{P:Program}{Q:Env->Heap->Prop}{ρ:Env}{h:Heap}
variable{kill:List Nat}{sets args:List (Nat × E)}{chk:List E}{dst:Option Nat}{keep:Bool}{next:Reg}
@[simp] theorem Jx{tail:Bool}:
  fD P QC (.loud kill sets args QC chk tail op ty dst keep next) Q ρ h=sat (evP (look ρ) (vw h) sets) λvs=>sat (evP (look ρ) (vw h) args) λus=>okE (look ρ) (vw h) chk/\pp.fx (db (bJ ρ kill) vs)/\
   @step (opAt QC) P op ty us h λv h'=>fD P QC next Q (putE (db (bJ ρ kill) vs) dst keep v) h':=by
 simp only[fD,b8,sat,step,fK,Option.map_none];refine propext ⟨λ⟨vs,us,h1,h2,h3,hfx,h4⟩=>⟨vs,h1,us,h2,h3,hfx,h4.mono λv h' hh=>?_⟩,λ⟨vs,h1,us,h2,h3,hfx,h4⟩=>⟨vs,us,h1,h2,h3,hfx,h4.mono λv h' hh=>?_⟩⟩
 ·have:=hh.2;cases tail<;>exact this
 cases tail<;>exact⟨by simp,hh⟩
@[simp] theorem JJ{g:E}:
  fD P QC (.loud kill sets args (QB (g,b)) chk QG op ty dst keep next) Q ρ h=sat (evP (look ρ) (vw h) sets) λvs=>sat (evP (look ρ) (vw h) args) λus=>okE (look ρ) (vw h) chk/\pp.fx (db (bJ ρ kill) vs)/\
   grdP (ev (look ρ) (vw h) g) b (@step (opAt QC) P op ty us h λv h'=>fD P QC next Q (putE (db (bJ ρ kill) vs) dst keep v) h') (fD P QC next Q (putE (db (bJ ρ kill) vs) dst keep undef) h):=by simp only[fD,b8,sat,step,fK,grdP];refine propext ⟨λ⟨vs,us,h1,h2,h3,hfx,gv,h4,h5,h6⟩=>⟨vs,h1,us,h2,h3,hfx,gv,h4,λe=>(h5 e).mono λv h' hh=>hh.2,h6⟩,λ⟨vs,h1,us,h2,h3,hfx,gv,h4,h5,h6⟩=>⟨vs,us,h1,h2,h3,hfx,gv,h4,λe=>(h5 e).mono λv h' hh=>⟨by simp,hh⟩,h6⟩⟩
variable{H:View}
@[simp] theorem Jw:
  fD P (QB H) (.loud kill sets args QC chk QG op ty dst keep next) Q ρ h=sat (evP (look ρ) H sets) λvs=>sat (evP (look ρ) H args) λus=>okE (look ρ) H chk/\pp.fx (db (bJ ρ kill) vs)/\
   @step (opAt (QB H)) P op ty us h λv h'=>H.le (vw h')/\fD P (QB H) next Q (putE (db (bJ ρ kill) vs) dst keep v) h':=by
 simp only[fD,b8,sat,step,lV];refine propext ⟨λ⟨vs,us,h1,h2,h3,hfx,h4⟩=>⟨vs,h1,us,h2,h3,hfx,h4.mono λv h' hh=>?_⟩,λ⟨vs,h1,us,h2,h3,hfx,h4⟩=>⟨vs,us,h1,h2,h3,hfx,h4.mono λv h' hh=>?_⟩⟩
 ·exact⟨by simpa using hh.1,hh.2⟩
 exact⟨by simpa using hh.1,hh.2⟩
@[simp] theorem JK:
  fD P (QB H) (.loud kill sets args QC chk QF op ty dst keep next) Q ρ h=sat (evP (look ρ) H sets) λvs=>sat (evP (look ρ) H args) λus=>okE (look ρ) H chk/\pp.fx (db (bJ ρ kill) vs)/\
   @step (opAt (QB H)) P op ty us h λv h'=>fD P (QB nothing) next Q (putE (db (bJ ρ kill) vs) dst keep v) h':=by
 simp only[fD,b8,sat,step,lV];refine propext ⟨λ⟨vs,us,h1,h2,h3,hfx,h4⟩=>⟨vs,h1,us,h2,h3,hfx,h4.mono λv h' hh=>?_⟩,λ⟨vs,h1,us,h2,h3,hfx,h4⟩=>⟨vs,us,h1,h2,h3,hfx,h4.mono λv h' hh=>?_⟩⟩
 ·exact hh.2
 exact⟨by simp,hh⟩
@[simp] theorem Ik{g:E}:
  fD P (QB H) (.loud kill sets args (QB (g,b)) chk QG op ty dst keep next) Q ρ h=sat (evP (look ρ) H sets) λvs=>sat (evP (look ρ) H args) λus=>okE (look ρ) H chk/\pp.fx (db (bJ ρ kill) vs)/\
   grdP (ev (look ρ) H g) b (@step (opAt (QB H)) P op ty us h λv h'=>H.le (vw h')/\fD P (QB H) next Q (putE (db (bJ ρ kill) vs) dst keep v) h') (fD P (QB H) next Q (putE (db (bJ ρ kill) vs) dst keep undef) h):=by simp only[fD,b8,sat,step,lV,grdP];refine propext ⟨λ⟨vs,us,h1,h2,h3,hfx,gv,h4,h5,h6⟩=>⟨vs,h1,us,h2,h3,hfx,gv,h4,λe=>(h5 e).mono λv h' hh=>⟨by simpa using hh.1,hh.2⟩,h6⟩,λ⟨vs,h1,us,h2,h3,hfx,gv,h4,h5,h6⟩=>⟨vs,us,h1,h2,h3,hfx,gv,h4,λe=>(h5 e).mono λv h' hh=>⟨by simpa using hh.1,hh.2⟩,h6⟩⟩
@[simp] theorem IL:
  b8 View.sub P (QB H) (.loud kill sets args QC chk QG op ty dst keep next) Q ρ h=sat (evP (look ρ) H sets) λvs=>sat (evP (look ρ) H args) λus=>okE (look ρ) H chk/\pp.fx (db (bJ ρ kill) vs)/\
   @step (opAt (QB H)) P op ty us h λv h'=>H.sub (vw h')/\b8 View.sub P (QB H) next Q (putE (db (bJ ρ kill) vs) dst keep v) h':=by
 simp only[b8,sat,step,lV];refine propext ⟨λ⟨vs,us,h1,h2,h3,hfx,h4⟩=>⟨vs,h1,us,h2,h3,hfx,h4.mono λv h' hh=>?_⟩,λ⟨vs,h1,us,h2,h3,hfx,h4⟩=>⟨vs,us,h1,h2,h3,hfx,h4.mono λv h' hh=>?_⟩⟩
 ·exact⟨by simpa using hh.1,hh.2⟩
 exact⟨by simpa using hh.1,hh.2⟩
@[simp] theorem Ii:
  b8 View.sub P (QB H) (.loud kill sets args QC chk QF op ty dst keep next) Q ρ h=sat (evP (look ρ) H sets) λvs=>sat (evP (look ρ) H args) λus=>okE (look ρ) H chk/\pp.fx (db (bJ ρ kill) vs)/\
   @step (opAt (QB H)) P op ty us h λv h'=>b8 View.sub P (QB nothing) next Q (putE (db (bJ ρ kill) vs) dst keep v) h':=by
 simp only[b8,sat,step,lV];refine propext ⟨λ⟨vs,us,h1,h2,h3,hfx,h4⟩=>⟨vs,h1,us,h2,h3,hfx,h4.mono λv h' hh=>?_⟩,λ⟨vs,h1,us,h2,h3,hfx,h4⟩=>⟨vs,us,h1,h2,h3,hfx,h4.mono λv h' hh=>?_⟩⟩
 ·exact hh.2
 exact⟨by simp,hh⟩
@[simp] theorem HO{g:E}:
  b8 View.sub P (QB H) (.loud kill sets args (QB (g,b)) chk QG op ty dst keep next) Q ρ h=sat (evP (look ρ) H sets) λvs=>sat (evP (look ρ) H args) λus=>okE (look ρ) H chk/\pp.fx (db (bJ ρ kill) vs)/\
   grdP (ev (look ρ) H g) b (@step (opAt (QB H)) P op ty us h λv h'=>H.sub (vw h')/\b8 View.sub P (QB H) next Q (putE (db (bJ ρ kill) vs) dst keep v) h') (b8 View.sub P (QB H) next Q (putE (db (bJ ρ kill) vs) dst keep undef) h):=by simp only[b8,sat,step,lV,grdP];refine propext ⟨λ⟨vs,us,h1,h2,h3,hfx,gv,h4,h5,h6⟩=>⟨vs,h1,us,h2,h3,hfx,gv,h4,λe=>(h5 e).mono λv h' hh=>⟨by simpa using hh.1,hh.2⟩,h6⟩,λ⟨vs,h1,us,h2,h3,hfx,gv,h4,h5,h6⟩=>⟨vs,us,h1,h2,h3,hfx,gv,h4,λe=>(h5 e).mono λv h' hh=>⟨by simpa using hh.1,hh.2⟩,h6⟩⟩
@[simp] theorem KV:
  b8 View.sub P (QB H) (.fin kill sets chk) Q ρ h=sat (evP (look ρ) H sets) λvs=>okE (look ρ) H chk/\Q (db (bJ ρ kill) vs) h:=rfl
@[simp] theorem Mg{ρ:Env}:@PP.fx noPP ρ=True:=rfl
@[simp] theorem L9{Rp:List PanicEntry->Heap->Prop}{ρ:Env}:@PP.fx (ppOf Rp) ρ=True:=rfl
@[simp] theorem KL{m:Option View}{x y:Reg}:fD P m (.both x y) Q ρ h=(fD P m x Q ρ h/\fD P m y Q ρ h):=rfl
end
theorem xv{s:Sem Next}{f:FuncId}{args:Array Value}{h:Heap}{R:Value->Heap->Prop}(hs : ∀w:World,w.heap=h->s.run P w = .ok (.enter f args) w)(hc:aw P f args h R)(hk : ∀v h',R v h'->K v h'):iI P s h K:=by intro w hw r o a K' Q' hK hQ;rw[hs w hw];simp only[Oper.uponIn];refine⟨λh=>by simp[Fw,Fence.wide]at h,rT ((hc w hw).mono ?_)⟩;rintro e w' ⟨v,rfl,hR,hsame⟩;exact hK v w' (hk _ _ hR) hsame
theorem uh{s:Sem Next}{f:FuncId}{args:Array Value}{h:Heap}{R:Value->Heap->Prop}{Rp:List PanicEntry->Heap->Prop}(hs : ∀w:World,w.heap=h->s.run P w = .ok (.enter f args) w)(hc:jr P f args h R Rp)(hk : ∀v h',R v h'->K v h')(hp : ∀ch h',Rp ch h'->po.op ch h'):iI P s h K:=by
 intro w hw r o a K' Q' hK hQ;rw[hs w hw];simp only[Oper.uponIn];refine⟨λh=>by simp[Fw,Fence.wide]at h,rT ((hc w hw).mono ?_)⟩;rintro e w' (⟨v,rfl,hR,hsame⟩ | ⟨ch,rfl,hR,hsame⟩)
 ·exact hK v w' (hk _ _ hR) hsame
 exact hQ ch w' (hp _ _ hR) hsame
theorem B9{f:FuncId}{ops:Array Operand}{T:Array TypeId}{args:Array Value}{h:Heap}(R:Value->Heap->Prop)(Rp:List PanicEntry->Heap->Prop)(hf:isFn P f=QF)(ha:ops.map (asg us)=args)(hc:jr P f args h R Rp)(hk : ∀v h',R v h'->K v h')(hp : ∀ch h',Rp ch h'->po.op ch h'):
  step P (.call ⟨.value (.func f),ops,T⟩) ty us h K:=by
 subst ha;refine uh (λw _=>?_) hc hk hp;unfold isFn at hf;cases hfn:P.funcs[f]? with
 | none=>simp[hfn]at hf
 | some fn=>simp only[hfn,M8,bne_iff_ne,ne_eq]at hf;obtain⟨h1,h2⟩:=hf;simp[bg,execOp,resolve,Deferred.ofValue,asg,invoke,callFunc,program,Sem.run,hfn,h1,Option.isNone];cases hb:fn.body<;>simp[hb]at h2 ⊢
theorem Ej{f:FuncId}{ops:Array Operand}{T:Array TypeId}{args:Array Value}{h:Heap}(R:Value->Heap->Prop)(hf:isFn P f=QF)(ha:ops.map (asg us)=args)(hc:aw P f args h R)(hk : ∀v h',R v h'->K v h'):
  step P (.call ⟨.value (.func f),ops,T⟩) ty us h K:=by
 subst ha;refine xv (λw _=>?_) hc hk;unfold isFn at hf;cases hfn:P.funcs[f]? with
 | none=>simp[hfn]at hf
 | some fn=>simp only[hfn,M8,bne_iff_ne,ne_eq]at hf;obtain⟨h1,h2⟩:=hf;simp[bg,execOp,resolve,Deferred.ofValue,asg,invoke,callFunc,program,Sem.run,hfn,h1,Option.isNone];cases hb:fn.body<;>simp[hb]at h2 ⊢
def gE[po:OP](P:Program)(f:FuncId)(T:Array TypeId)(ty:TypeId)(args:List Value)(h:Heap)(K:Value->Heap->Prop):Prop:=
 step P (.call ⟨.value (.func f),args.toArray.map .const,T⟩) ty [] h K
@[simp] theorem L7{t:Nat}:asg us (.tmp t)=(look us t).getD undef:=rfl
@[simp] theorem xW{v:Value}:asg us (.const v)=v:=rfl
@[simp] theorem Lx{f:FuncId}:asg us (.func f) = .func (.func f) #[] #[]:=rfl
@[simp] theorem J0{g:Nat}:asg us (.global g) = QT g:=rfl
variable{ops:List Operand}
theorem jo{f:FuncId}{T:Array TypeId}{h:Heap}:
  step P (.call ⟨.value (.func f),ops.toArray,T⟩) ty us h K=gE P f T ty (ops.map (asg us)) h K:=by unfold gE step;congr 1;simp[bg,execOp,resolve,Deferred.ofValue,P7]
section
variable{P:Program}{f:FuncId}{x y z u v:Operand}{T:Array TypeId}{ty:TypeId}{us:List (Nat × Value)}{h:Heap}{K:Value->Heap->Prop}
@[simp] theorem J7:step P (.call ⟨.value (.func f),#[],T⟩) ty us h K=gE P f T ty [] h K:=jo (ops:=[])
@[simp] theorem KF:step P (.call ⟨.value (.func f),#[x],T⟩) ty us h K=gE P f T ty [asg us x] h K:=jo (ops:=[x])
@[simp] theorem Kj:step P (.call ⟨.value (.func f),#[x,y],T⟩) ty us h K=gE P f T ty [asg us x,asg us y] h K:=jo (ops:=[x,y])
@[simp] theorem KQ:step P (.call ⟨.value (.func f),#[x,y,z],T⟩) ty us h K=gE P f T ty [asg us x,asg us y,asg us z] h K:=jo (ops:=[x,y,z])
@[simp] theorem KA:step P (.call ⟨.value (.func f),#[x,y,z,u],T⟩) ty us h K=gE P f T ty [asg us x,asg us y,asg us z,asg us u] h K:=jo (ops:=[x,y,z,u])
@[simp] theorem KG:step P (.call ⟨.value (.func f),#[x,y,z,u,v],T⟩) ty us h K=gE P f T ty [asg us x,asg us y,asg us z,asg us u,asg us v] h K:=jo (ops:=[x,y,z,u,v])
end
@[congr] theorem FK{f:FuncId}{T:Array TypeId}{args args':List Value}{h:Heap}(ha:args=args'):gE P f T ty args h K=gE P f T ty args' h K:=by rw[ha]
theorem ag{f:FuncId}{T:Array TypeId}{args:List Value}{h:Heap}{R:Value->Heap->Prop}(hf:isFn P f=QF)(hc:aw P f args.toArray h R)(hk : ∀v h',R v h'->K v h'):gE P f T ty args h K:=
 Ej R hf (by simp[P7]) hc hk
theorem dM{f:FuncId}{T:Array TypeId}{args:List Value}{h:Heap}{R:Value->Heap->Prop}{Rp:List PanicEntry->Heap->Prop}(hf:isFn P f=QF)(hc:jr P f args.toArray h R Rp)(hk : ∀v h',R v h'->K v h')(hp : ∀ch h',Rp ch h'->po.op ch h'):gE P f T ty args h K:=
 B9 R Rp hf (by simp[P7]) hc hk hp
theorem bN{s:Sem Next}{h:Heap}(hs : ∀w:World,w.heap=h->∃v w',s.run P w = .ok (.value v) w'/\Same w w'/\K v w'.heap):iI P s h K:=by intro w hw r o a K' Q' hK hQ;obtain⟨v,w',h1,h2,h3⟩:=hs w hw;rw[h1];exact hK v w' h3 h2
theorem lX{s:Sem Next}{h:Heap}(hs : ∀w:World,w.heap=h->∃w',s.run P w = .ok .skip w'/\Same w w'/\K undef w'.heap):iI P s h K:=by intro w hw r o a K' Q' hK hQ;obtain⟨w',h1,h2,h3⟩:=hs w hw;rw[h1];exact hK undef w' h3 h2
theorem jK(w:World)(o:Obj):Same w (w.alloc o):=Same.zD rfl rfl rfl Sb λk hk=>heap_alloc_old w o hk
variable{n size:Nat}{cs:Array Value}
theorem oC{t e:TypeId}{ps:Array (Nat × Operand)}{h:Heap}{i:TypeInfo}{z:Value}{vs:List (Nat × Value)}(ht:P.underlying t=QB (.slice e))(hi:P.info? e=QB i)(hz:i.zero=QB z)(hs:i.size=size)(hn:n*size<=16777216)(hp:ps.map (λp=>(p.1,asg us p.2))=vs.toArray)(hf:Instr.fill (λj=>QB (j*size,size)) ((Array.range (n*size)).map (z.cells[· % z.cells.size]!)) vs=QB cs)(hk:K (QD (QB ⟨h.size,0,QC⟩) n n) (h.push (.cells cs e))):step P (.buildSlice t n ps) ty us h K:=by
 subst hs;refine bN λw hw=>?_;subst hw;have hn':¬(16777216<n*i.size):=by omega
 refine⟨_,w.alloc (.cells cs e),?_,jK _ _,hk⟩;have hp':(ps.map λx=>match x with | (i,x)=>(i,asg us x))=vs.toArray:=hp;by_cases h0:n*i.size=0
 ·have e1 : ∀f:Nat->Value,(Array.range 0).map f = #[]:=λf=>by simp[Array.range_zero']
  rw[h0,e1]at hf;simp only[bg,execOp,hp'];simp[Instr.buildSlice,run_underlying ht,sizeOf,typeInfo,hi,h0,newRow,e1,hf]
 simp only[bg,execOp,hp'];simp[Instr.buildSlice,run_underlying ht,sizeOf,typeInfo,hi,hn',newRow,h0,zeroValue,hz,hf]
def xu(h:Heap)(e:TypeId)(size:Nat)(v:Value)(n:Nat)(xs:List Value):Prop:=
  xs.length=n*size/\
  ((v = QD QC 0 0/\n=0)\/
   ∃g cap cur,v = QD (QB ⟨g,0,QC⟩) n cap/\h[g]? = QB (.cells cur e (0,0))/\n<=cap/\cap<=maxLen/\cur.size=cap*size/\cur.toList.take (n*size)=xs)
structure Kept(h h':Heap)(b:Option Nat):Prop where
 size:h.size<=h'.size
 block : ∀k,k<h.size->QB k≠b->h'[k]? = h[k]?
theorem Kept.refl(h:Heap)(b:Option Nat):Kept h h b:=⟨MY _,λ_ _ _=>rfl⟩
theorem Kept.push(h:Heap)(o:Obj)(b:Option Nat):Kept h (h.push o) b:=⟨by simp,λk hk _=>by rw[OI,if_neg Q1]⟩
theorem Kept.trans{h h' h'':Heap}{b:Option Nat}(k:Kept h h' b)(k':Kept h' h'' b):Kept h h'' b:=
 ⟨NB k.size k'.size,λx hx hb=>(k'.block x (PV hx k.size) hb).trans (k.block x hx hb)⟩
def Av(W:View)(v:Value):Prop:=∀b,v.ownBlock=QB b->W b=QC
variable{W:View}
theorem Kept.view{h:Heap}{v:Value}(k:Kept h h' v.ownBlock)(hw:W.le (vw h))(ha:Av W v):W.le (vw h'):=by
 intro b o hb;have hlt:=View.lt hw hb;have hne:QB b≠v.ownBlock:=λe=>by rw[ha b e.symm]at hb;cases hb
 show h'[b]? = QB o;rw[k.block b hlt hne];exact hw b o hb
theorem Kept.EA{h:Heap}(k:Kept h h' QC)(hw:W.le (vw h)):W.le (vw h'):=by intro b o hb;show h'[b]? = QB o;rw[k.block b (View.lt hw hb) Sb];exact hw b o hb
theorem bA(h:Heap)(o:Obj):(vw h).le (vw (h.push o)):=(Kept.push h o QC).EA Qw
theorem G4{h:Heap}(hle:(vw h).le (vw h'))(hs:h.size<=h'.size):Kept h h' none:=
 ⟨hs,λk hk _=>by have:h[k]? = QB h[k]:=Nt hk;rw[this];exact hle k _ this⟩
theorem iB{h:Heap}(hle:(vw h).le (vw h')):h.size<=h'.size:=by
 rcases M0 h'.size h.size with hlt | hge
 ·have h1:h[h'.size]? = QB h[h'.size]:=Nt hlt;have h2:h'[h'.size]? = QB h[h'.size]:=hle _ _ h1;simp at h2
 exact hge
theorem pX{h:Heap}(hle:(vw h).le (vw h')):Kept h h' none:=G4 hle (iB hle)
theorem xu.kept{h h':Heap}{e:TypeId}{size n:Nat}{v:Value}{xs:List Value}{b:Option Nat}(ho:xu h e size v n xs)(k:Kept h h' b)(hb:v.ownBlock=QC\/v.ownBlock≠b):xu h' e size v n xs:=by
 refine⟨ho.1,?_⟩;rcases ho.2 with hn | ⟨g,cap,cur,rfl,hg,rest⟩
 ·exact .inl hn
 refine .inr ⟨g,cap,cur,rfl,?_,rest⟩;rw[k.block g (M7.1 hg).1 (by simpa[Value.ownBlock]using hb)];exact hg
structure eG(P:Program)(t e:TypeId)(size bytes:Nat)(z:Value):Prop where
 ht:P.underlying t=QB (.slice e)
 hi : ∃i,P.info? e=QB i/\i.zero=QB z/\i.size=size/\i.bytes=bytes
 hz:z.cells.size=size
 hs:0<size
 hm:size<=1000
variable{bytes:Nat}
theorem Cg{t e:TypeId}{z:Value}(hT:eG P t e size bytes z){w:World}{v:Value}{xs:List Value}(hown:xu w.heap e size v n xs){a:Option Addr}{m c:Nat}{news:List Value}(hl:news.length=m*size)(hnews : ∀ad,a=QB ad->∀j u,news[j]? = QB u->w.cell? (ad.add j)=QB u)(hnil:a=QC->m=0)(h1 : ∀u∈news,u.oneCell'=QF)(hbytes:(n+m)*bytes<=140737488355328)(h63:n+m<=140737488355328):
  ∃v' w',(Builtin.append_ #[t,t] ty #[v,.slice a m c]).run P w = .ok v' w'/\Same w w'/\xu w'.heap e size v' (n+m) (xs++news)/\Kept w.heap w'.heap v.ownBlock/\
   (v'.ownBlock=v.ownBlock\/v'.ownBlock=QB w.heap.size):=by
 obtain⟨ht,⟨i,hi,hz,hsize,hby⟩,hzs,hsz,_⟩:=hT;subst hsize;subst hby;cases a with
 | none=>
  obtain rfl:=hnil rfl;have hn:news=[]:=Nl (by simpa using hl);subst hn;have hrun:(Builtin.append_ #[t,t] ty #[v,QD QC 0 c]).run P w = .ok v w:=by
   rcases hown.2 with⟨rfl,rfl⟩ | ⟨g,cap,cur,rfl,hg,hnc,hcm,hcs,htake⟩
   ·simp[Builtin.append_,run_underlying ht,sizeOf,typeInfo,hi,Builtin.lenOf,Builtin.firstCells]
   simp[Builtin.append_,run_underlying ht,sizeOf,typeInfo,hi,Builtin.lenOf,Builtin.firstCells,hnc,storeCells]
  exact⟨v,w,hrun,Same.refl _,by simpa using hown,Kept.refl _ _,.inl rfl⟩
 | some ad=>
  have hnews:=hnews ad rfl;have hlen:(xs++news).length=(n+m)*i.size:=by rw[M3,hown.1,hl,Pn]
  have h63':n+m<=maxLen:=by simp only[maxLen];omega
  have grown : ∀(old:Nat),old<n+m->∀row,
    xu (w.drew.alloc (.cells (xs.toArray++news.toArray++Builtin.zeroCells z.cells (grownCap w (n+m) old e-(n+m))) e)).heap e i.size
     (QD (QB ⟨w.heap.size,0,QC⟩) (n+m) (grownCap w (n+m) old e)) (n+m) (xs++news)/\
    Kept w.heap (w.drew.alloc (.cells (xs.toArray++news.toArray++Builtin.zeroCells z.cells (grownCap w (n+m) old e-(n+m))) e)).heap row:=by
   intro old ho row;have hge:=grownCap_ge w (n+m) old e;have hcm:grownCap w (n+m) old e<=maxLen:=grownCap_le_maxLen w (n+m) old e h63';refine⟨⟨hlen,.inr ⟨w.heap.size,_,_,rfl,heap_alloc_new w.drew _,hge,hcm,?_,?_⟩⟩,⟨by simp,λk hk _=>by rw[heap_alloc_old w.drew _ (by simpa using hk)];rfl⟩⟩
   ·simp only[Array.size_append,OR,size_zeroCells,hzs,hown.1,hl,<-Nat.add_mul];congr 1;omega
   simp only[Array.toList_append,Nk];rw[<-List.append_assoc,<-hlen];exact PT
  rcases hown.2 with⟨rfl,rfl⟩ | ⟨g,cap,cur,rfl,hg,hnc,hcm,hcs,htake⟩
  ·have hx:xs=[]:=Nl (by simpa using hown.1);subst hx;by_cases hm:m=0
   ·subst hm;have hn:news=[]:=Nl (by simpa using hl);subst hn;refine⟨QD QC 0 0,w,?_,Same.refl _,⟨by simp,.inl ⟨rfl,rfl⟩⟩,Kept.refl _ _,.inl rfl⟩;simp[Builtin.append_,run_underlying ht,sizeOf,typeInfo,hi,Builtin.lenOf,Builtin.firstCells,loadCells,loadCellsFrom]
   have hr:=run_append_nil (P:=P) w t ty e i z ht hi hz ad m c news hl hnews Q1 Q1 (by have hb:=hbytes;simp only[Oj]at hb;omega);have hgr:=grown 0 Q1 QC;simp only[Oj,NT,Array.empty_append]at hgr ⊢;exact⟨_,_,hr,Same.zD rfl rfl rfl hgr.2.size (λk hk=>hgr.2.block k hk Sb),hgr.1,⟨hgr.2.size,λk hk _=>hgr.2.block k hk Sb⟩,.inr rfl⟩
  by_cases hroom:n+m<=cap
  ·have hfit:n*i.size+news.length<=cur.size:=by rw[hl,hcs,<-Nat.add_mul];exact NA _ hroom
   have hr:=run_append_room (P:=P) w t ty e i ht hi g n cap cur hg ad m c news hl hnews h1 hroom hfit;refine⟨_,_,hr,Same.mI rfl rfl rfl Sb hg Sb (λk _ hne=>setRow_other w g k _ (λe=>hne e)),⟨hlen,.inr ⟨g,cap,_,rfl,setRow_heap w g cur _ e _ hg,hroom,hcm,?_,?_⟩⟩,⟨by simp,λk hk hne=>setRow_other w g k _ (λe=>hne (by simp[Value.ownBlock,e]))⟩,.inl rfl⟩
   ·simp only[OR,M3,Ny,NJ,OY];omega
   rw[htake,<-hlen];exact PT
  have holds : ∀j u,xs[j]? = QB u->w.cell? ((⟨g,0,QC⟩:Addr).add j)=QB u:=by intro j u hu;have:=World.ownsRow.cells (w:=w) (base:=0) (e:=e) (size:=i.size) (v:=QD (QB ⟨g,0,QC⟩) n cap) (n:=n) (xs:=xs) ⟨hown.1,.inr ⟨g,cap,cur,rfl,OL _,hg,hnc,hcm,hcs,htake⟩⟩ (g:=g) rfl j u hu;exact this
  have hr:=run_append_grow (P:=P) w t ty e i z ht hi hz ⟨g,0,QC⟩ n cap xs hown.1 holds ad m c news hl hnews Q1 Q1 (growslice_fits Q1 hbytes);have hgr:=grown cap Q1 QC;exact⟨_,_,hr,Same.zD rfl rfl rfl hgr.2.size (λk hk=>hgr.2.block k hk Sb),hgr.1,⟨hgr.2.size,λk hk _=>hgr.2.block k hk Sb⟩,.inr rfl⟩
theorem cH{h:Heap}(hr:iI P (bg op ty us) h K):step P op ty us h K:=hr
attribute [irreducible] step gE
end
section
variable{po:OP}{pp:PP}
def fresh(h h':Heap):View:=λb=>if b<h.size then QC else h'[b]?
theorem jE(h h':Heap):(fresh h h').le (vw h'):=λb o hb=>by
 unfold fresh at hb;split at hb
 ·cases hb
 exact hb
theorem jd(V:View)(h h':Heap):(fresh h h').le (grow V h h'):=λb o hb=>by
 unfold fresh at hb;unfold grow;split at hb
 ·cases hb
 rename_i hlt;rw[if_neg hlt];exact hb
structure lk(h h':Heap)(v v':Value):Prop where
 kept:Kept h h' v.ownBlock
 at_:v'.ownBlock=v.ownBlock\/v'.ownBlock=QB h.size
theorem lk.view{h h':Heap}{v v':Value}(m:lk h h' v v'){W:View}(hw:W.le (vw h))(ha:Av W v):W.le (vw h')/\Av W v':=by
 refine⟨m.kept.view hw ha,λb hb=>?_⟩;rcases m.at_ with e | e
 ·exact ha b (by rw[<-e];exact hb)
 rw[e]at hb;simp only[MX]at hb;exact View.cT hw Q1
theorem Av.nil(W:View)(n c:Nat):Av W (QD QC n c):=λb hb=>by simp[Value.ownBlock]at hb
section
variable{α:Type}[Rep α]
def OwnT(W:View)(h:Heap)(e:TypeId)(v:Value)(l:List α):Prop:=
 l.length<=140737488355328/\∃xs,xu h e (Rep.n α) v l.length xs/\∀(i:Nat) (hi:i<l.length),Rep.rd W ((xs.drop (i*Rep.n α)).take (Rep.n α)) l[i]
def SrcT(Ho Hi:View)(u:Value)(l:List α):Prop:=
 ∃a c,u = .slice a l.length c/\(a=QC->l=[])/\∃news:List Value,news.length=l.length*Rep.n α/\(∀ad,a=QB ad->∀j x,news[j]? = QB x->aj Ho (ad.add j)=QB x)/\
  ∀(i:Nat) (hi:i<l.length),Rep.rd Hi ((news.drop (i*Rep.n α)).take (Rep.n α)) l[i]
theorem OwnT.nil(W:View)(h:Heap)(e:TypeId):OwnT (α:=α) W h e (QD QC 0 0) []:=
 ⟨by simp,[],⟨by simp,.inl ⟨rfl,rfl⟩⟩,λi hi=>by simp at hi⟩
variable{W:View}{h h':Heap}{e:TypeId}{v:Value}{l:List α}
theorem OwnT.len(o:OwnT W h e v l){K:View}:Un.ev K .len v=QB (Qy Qz l.length):=by
 obtain⟨_,xs,⟨_,hx⟩,_⟩:=o;rcases hx with⟨rfl,hn⟩ | ⟨g,cap,cur,rfl,_⟩
 ·rw[hn];rfl
 rfl
theorem OwnT.mono(o:OwnT W h e v l){W':View}(hw:W.le W'):OwnT W' h e v l:=
 let ⟨b,xs,h1,h2⟩:=o
 ⟨b,xs,h1,λi hi=>Rep.mono hw (h2 i hi)⟩
theorem OwnT.kept(o:OwnT W h e v l){b:Option Nat}(k:Kept h h' b)(hb:v.ownBlock=QC\/v.ownBlock≠b):OwnT W h' e v l:=
 let ⟨bd,xs,h1,h2⟩:=o
 ⟨bd,xs,h1.kept k hb,h2⟩
theorem OwnT.ext(o:OwnT W h e v l)(k:(vw h).le (vw h')):OwnT W h' e v l:=o.kept (pX k) (by cases v.ownBlock<;>simp)
variable{n:Nat}
theorem Ca{xs:List Value}{len:Nat}(hl:xs.length=len*n)(hr : ∀(i:Nat),i<len->∀u∈(xs.drop (i*n)).take n,u.oneCell'=QF): ∀u∈xs,u.oneCell'=true:=by
 intro u hu;obtain⟨j,hj,rfl⟩:=Ni hu;have hn:0<n:=by
  rcases Oe n with h | h
  ·subst h;simp at hl;subst hl;simp at hj
  exact h
 have hlt:j / n<len:=by rw[Nat.div_lt_iff_lt_mul hn];omega
 refine hr (j / n) hlt _ ?_;have hm:=Nat.mod_lt j hn;have hd:=Nat.div_add_mod j n;have:((xs.drop (j / n*n)).take n)[j % n]? = QB xs[j]:=by
  rw[Ox,if_pos hm,O6];have:j / n*n+j % n=j:=by rw[Nat.mul_comm];exact hd
  rw[this];exact N9 hj
 exact Nv this
theorem EO{xs ys:List Value}{a i:Nat}(hx:xs.length=a*n):((xs++ys).drop (i*n)).take n=if i<a then(xs.drop (i*n)).take n else(ys.drop ((i-a)*n)).take n:=by
 split
 ·rename_i h;have h1:i*n+n<=a*n:=by rw[<-Nat.succ_mul];exact NA _ h
  rw[N4 Q1,NO Q8]
 rename_i h;have h1:a*n<=i*n:=NA _ Q1;have h2:(i-a)*n=i*n-a*n:=Nat.sub_mul ..;rw[O2,NI Q1,NT,hx,h2]
variable{P:Program}{ty:TypeId}{bytes:Nat}{y:Operand}{us:List (Nat × Value)}{K:Value->Heap->Prop}
theorem cR{t:TypeId}{z:Value}{x:Operand}{u:Value}{l2:List α}(hT:eG P t e (Rep.n α) bytes z)(hx:asg us x=v)(hy:asg us y=u)(ho:OwnT W h e v l)(hs:SrcT (vw h) W u l2)(hb:(l.length+l2.length)*bytes<=140737488355328)(hb2:l.length+l2.length<=140737488355328)(hk : ∀v' h',OwnT W h' e v' (l++l2)->lk h h' v v'->K v' h'):step P (.call ⟨.builtin .append,#[x,y],#[t,t]⟩) ty us h K:=by
 obtain⟨hbd,xs,h1,h2⟩:=ho;obtain⟨a,c,rfl,hnil,news,h3,h4,h5⟩:=hs;refine cH (bN λw hw=>?_);subst hw;have hflat : ∀u∈news,u.oneCell'=true:=Ca h3 λi hi=>Rep.flat (h5 i hi);obtain⟨v',w',g1,g2,g3,g4,g5⟩:=Cg hT (ty:=ty) h1 h3 (λad ha j u hu=>h4 ad ha j u hu) (c:=c) (λha=>by rw[hnil ha];rfl) hflat hb hb2;refine⟨v',w',?_,g2,hk v' w'.heap ⟨by simpa using hb2,xs++news,by simpa using g3,λi hi=>?_⟩ ⟨g4,g5⟩⟩
 ·simp only[bg,execOp];simp[resolve,invoke,builtin,hx,hy,g1]
 rw[EO h1.1];split
 ·rename_i hlt;rw[Oa hlt];exact h2 i hlt
 rename_i hge;rw[N5 Q1];exact h5 (i-l.length) (by simp at hi;omega)
variable{H:View}
theorem SlRd.src{K:View}(s:SlRd H v l)(hk:H.le K):SrcT K H v l:=by
 obtain⟨a,cap,rfl,h1,h2,h3⟩:=s;rcases h3 with rfl | ⟨ad,rfl,hs,hat⟩
 ·exact⟨a,cap,rfl,λ_=>rfl,[],by simp,λ_ _ j x hx=>by simp at hx,λi hi=>by simp at hi⟩
 refine⟨QB ad,cap,rfl,(λh=>by cases h),?_⟩;cases hl:l with
 | nil=>exact⟨[],by simp,λ_ _ j x hx=>by simp at hx,λi hi=>by simp at hi⟩
 | cons d0 l0=>
  rw[<-hl];have hpos:0<l.length:=by rw[hl];simp
  obtain⟨cs0,⟨c,T,fz,_,hb,_⟩,_⟩:=hat 0 hpos;have hblk:H ad.block=QB (.cells c T fz):=by rw[bs hs]at hb;exact hb
  have hcs : ∀(i:Nat) (hi:i<l.length),Rep.rd H ((c.toList.drop (ad.off+i*Rep.n α)).take (Rep.n α)) l[i]:=by intro i hi;obtain⟨cs,⟨c',T',fz',_,hb',he⟩,hr⟩:=hat i hi;rw[bs hs]at hb' he;simp only at hb' he;rw[hblk]at hb';cases hb';rw[Rep.len hr]at he;rw[he];exact hr
  have htot:ad.off+l.length*Rep.n α<=c.toList.length:=by
   have:=Rep.len (hcs (l.length-1) Q1);have hn:=Rep.pos (α:=α);simp only[Ny,NJ]at this;have e1:l.length*Rep.n α=(l.length-1)*Rep.n α+Rep.n α:=by rw[<-Nat.succ_mul];congr 1;omega
   omega
  refine⟨(c.toList.drop ad.off).take (l.length*Rep.n α),?_,?_,?_⟩
  ·simp only[Ny,NJ];omega
  ·intro ad' e j x hx;cases e;have hj:j<l.length*Rep.n α:=by
    rcases M0 j (l.length*Rep.n α)with h | h
    ·exact h
    rw[NL Q8]at hx;cases hx
   rw[Ox,if_pos hj,O6]at hx;rw[bs hs];simp only[aj,hk _ _ hblk];simpa using hx
  intro i hi;have h1:i*Rep.n α+Rep.n α<=l.length*Rep.n α:=by rw[<-Nat.succ_mul];exact NA _ hi
  rw[Ot,Od,O1,N7 Q1];exact hcs i hi
variable{V:View}
theorem OwnT.rd(o:OwnT W h e v l)(hw:W.le V)(hv : ∀b,v.ownBlock=QB b->V b=h[b]?):SlRd V v l:=by
 obtain⟨hbd,xs,⟨hx,hown⟩,hel⟩:=o;rcases hown with⟨rfl,hn⟩ | ⟨g,cap,cur,rfl,hg,h1,h2,h3,h4⟩
 ·have:l=[]:=Nl hn;subst this;exact⟨QC,0,rfl,by simp,by simp,.inl rfl⟩
 refine⟨QB ⟨g,0,QC⟩,cap,rfl,h1,hbd,.inr ⟨_,rfl,rfl,λi hi=>?_⟩⟩;refine⟨(xs.drop (i*Rep.n α)).take (Rep.n α),⟨cur,e,(0,0),?_,?_,?_⟩,Rep.mono hw (hel i hi)⟩
 ·rw[bs rfl]
 ·rw[bs rfl];rw[hv g rfl];exact hg
 rw[bs rfl,Rep.len (hel i hi)];have hle:i*Rep.n α+Rep.n α<=l.length*Rep.n α:=by rw[<-Nat.succ_mul];exact NA _ hi
 rw[<-h4,Ot,Od];simp only[Oj];rw[N7 Q1]
theorem OwnT.fresh{h0:Heap}(o:OwnT W h e v l)(hW:W.le (fresh h0 h))(ha:Av (vw h0) v):SlRd (Lft.fresh h0 h) v l:=by
 refine o.rd hW λb hb=>?_;have:=ha b hb;simp only[vw]at this;have hge:h0.size<=b:=by
  rcases M0 b h0.size with h | h
  ·simp[h]at this
  exact h
 simp only[Lft.fresh,if_neg (Qu.2 hge)]
theorem jz{t:TypeId}{z:Value}{x:Operand}{u:Value}{d:α}(hT:eG P t e (Rep.n α) bytes z)(hx:asg us x=u)(hr:Rd W u d)(hk : ∀u' h',SrcT (vw h') W u' [d]->(vw h).le (vw h')->h'.size=h.size+1->K u' h'):step P (.buildSlice t 1 #[(0,x)]) ty us h K:=by
 have hTT:=hT;obtain⟨ht,⟨i,hi,hz,hsize,hby⟩,hzs,hsz,hsmall⟩:=hT;have hcells:Rep.rd W u.cells.toList d/\u.cells.size=Rep.n α:=by
  unfold Rd at hr;split at hr
  ·obtain⟨cs,rfl,h⟩:=hr;exact⟨h,by rw[<-Rep.len h];rfl⟩
  rename_i ha;have hone:=Rep.one (α:=α) (by simpa using ha);have hfl:=Rep.flat hr u Sb;have:u.cells = #[u]:=by cases u<;>first | rfl | simp[Value.oneCell']at hfl
  rw[this];exact⟨by simpa using hr,by simp[hone]⟩
 have hfill:Instr.fill (λj=>QB (j*Rep.n α,Rep.n α)) ((Array.range (1*Rep.n α)).map (z.cells[· % z.cells.size]!)) [(0,u)]=QB u.cells:=by
  have hlen : ∀(A:Array Value) (cs:Array Value),A.size=cs.size->cs.zipIdx.foldl (λcs' (p:Value × Nat)=>cs'.setIfInBounds (0+p.2) p.1) A=cs:=by
   intro A cs hA;have key : ∀(l:List Value) (k:Nat) (B:Array Value),B.size=k+l.length->((l.zipIdx k).foldl (λcs' (p:Value × Nat)=>cs'.setIfInBounds (0+p.2) p.1) B).toList=B.toList.take k++l:=by
    intro l;induction l with
    | nil=>intro k B hB;simp at hB;simp only[List.zipIdx_nil,List.foldl_nil,Oh];rw[Nd (by simp[hB])]
    | cons y l ih=>
     intro k B hB;simp only[PJ,NF];rw[ih (k+1) _ (by simp at hB ⊢;omega)];simp only[Oj,PW];have hk:k<B.toList.length:=by simp at hB ⊢;omega
     rw[Np (by simpa using hk)];simp[PO]
   rw[<-Array.toList_inj,<-Array.foldl_toList,Array.toList_zipIdx];have:=key cs.toList 0 A (by simpa using hA);simpa using this
  simp only[Instr.fill,OT,Oj,Array.size_map,Array.size_range,PM,hcells.2,ne_eq,not_true,decide_false,Qt,gt_iff_lt,Qb];simp only[Ow,if_false];congr 1;have:=hlen ((Array.range (Rep.n α)).map (z.cells[· % z.cells.size]!)) u.cells (by simp[hcells.2]);simpa using this
 refine oC ht hi hz hsize Q1 (vs:=[(0,u)]) (by simp[hx]) hfill (hk _ _ ?_ (bA _ _) Sb);refine⟨QB ⟨h.size,0,QC⟩,1,rfl,(λh=>by cases h),u.cells.toList,by simp[hcells.2],?_,?_⟩
 ·intro ad e j x hx;cases e;rw[bs rfl];simp only[aj,vw,Ob];simpa using hx
 intro i hi';simp only[N2,O9,Oj,Nat.lt_one_iff]at hi';subst hi';have:(u.cells.toList.take (Rep.n α))=u.cells.toList:=by rw[Nd];simp[hcells.2]
 simpa[this]using hcells.1
theorem nO{t:TypeId}{z:Value}{x:Operand}{k:IntKind}{d:α}(hT:eG P t e (Rep.n α) bytes z)(hx:asg us x = .int k n)(hy:asg us y = .int k n)(hr:Rep.rd W z.cells.toList d)(hb:bytes*n<=140737488355328)(hb2:n<=140737488355328)(hk : ∀v' h',OwnT W h' e v' (List.replicate n d)->lk h h' (QD QC 0 0) v'->(vw h).le (vw h')->v'.ownBlock=QB h.size->K v' h'):step P (.makeSlice t x y) ty us h K:=by
 obtain⟨ht,⟨i,hi,hz,hsize,hby⟩,hzs,hsz,hsmall⟩:=hT;refine cH (bN λw hw=>?_);subst hw;have hrun:=run_make (P:=P) w t e i z ht hi hz k k (n:Int) (n:Int) Q1 (NP _) (by
  rw[hby];have:((bytes*n:Nat):Int)<=281474976710656:=by omega
  rwa [Int.natCast_mul]at this) Q1;simp only[M9]at hrun;refine⟨QD (QB ⟨w.heap.size,0,QC⟩) n n,w.alloc (.cells (madeCells z.cells (n*i.size)) e),?_,jK _ _,hk _ _ ?_ ⟨Kept.push _ _ _,.inr rfl⟩ (bA _ _) rfl⟩
 ·simp only[bg,execOp,hx,hy];simp[hrun]
 refine⟨by simpa using hb2,((madeCells z.cells (n*Rep.n α)).toList.take (n*Rep.n α)),⟨by simp[size_madeCells],.inr ⟨w.heap.size,n,madeCells z.cells (n*Rep.n α),by simp,?_,by simp,by simp only[maxLen];omega,by simp[size_madeCells],by simp⟩⟩,?_⟩
 ·rw[hsize];exact heap_alloc_new w _
 intro j hj;simp only[NM]at hj;have he:((((madeCells z.cells (n*Rep.n α)).toList.take (n*Rep.n α)).drop (j*Rep.n α)).take (Rep.n α))=z.cells.toList:=by
  have h1:j*Rep.n α+Rep.n α<=n*Rep.n α:=by rw[<-Nat.succ_mul];exact NA _ hj
  refine NU ?_ λm hm1 hm2=>?_
  ·simp[size_madeCells,hzs];omega
  simp only[Ny,NJ]at hm1;simp only[OS,PB,madeCells,Array.toList_map,Oc,Array.toList_range,List.getElem_range];have hm:m<z.cells.size:=by simpa using hm2
  have hmod:(j*Rep.n α+m) % z.cells.size=m:=by rw[hzs,Nat.mul_comm,Nat.mul_add_mod];exact Nat.mod_eq_of_lt Q1
  rw[hmod];simp[hm]
 rw[he];simpa using hr
theorem tx{t:TypeId}{x:Operand}{i:Nat}{u:Value}{d:α}(hsz:dp P t=QB (Rep.n α))(hx:asg us x = QE (QB ((slA v).add (i*Rep.n α))))(hy:asg us y=u)(ho:OwnT W h e v l)(hi:i<l.length)(hr:Rd W u d)(hk : ∀h',OwnT W h' e v (l.set i d)->lk h h' v v->K undef h'):step P (.store t x y) ty us h K:=by
 have hcells:Rep.rd W u.cells.toList d/\u.cells.size=Rep.n α:=by
  unfold Rd at hr;split at hr
  ·obtain⟨cs,rfl,h⟩:=hr;exact⟨h,by rw[<-Rep.len h];rfl⟩
  rename_i ha;have hone:=Rep.one (α:=α) (by simpa using ha);have hfl:=Rep.flat hr u Sb;have:u.cells = #[u]:=by cases u<;>first | rfl | simp[Value.oneCell']at hfl
  rw[this];exact⟨by simpa using hr,by simp[hone]⟩
 obtain⟨hbd,xs,⟨hxl,hown⟩,hel⟩:=ho;refine cH (lX λw hw=>?_);subst hw;rcases hown with⟨rfl,hn⟩ | ⟨g,cap,cur,rfl,hg,h1,h2,h3,h4⟩
 ·omega
 have hle:i*Rep.n α+Rep.n α<=l.length*Rep.n α:=by rw[<-Nat.succ_mul];exact NA _ hi
 have hcap:l.length*Rep.n α<=cap*Rep.n α:=NA _ h1;have hlen:u.cells.toList.length=Rep.n α:=by simpa using hcells.2
 have hrun:=run_storeCells_at P g (i*Rep.n α) e u.cells.toList 0 cur w hg (by simp only[Nat.add_zero];omega) (λc hc=>Rep.flat hcells.1 c hc);have hadd:(slA (QD (QB ⟨g,0,QC⟩) l.length cap)).add (i*Rep.n α)=⟨g,i*Rep.n α,QC⟩:=by show(⟨g,0,QC⟩:Addr).add _=_;rw[bs rfl];simp
 have hszr:=run_sizeOf (P:=P) (w:=w) hsz;obtain⟨row,hrow⟩ : ∃row:Array Value,row.toList=cur.toList.take (i*Rep.n α)++u.cells.toList++cur.toList.drop (i*Rep.n α+Rep.n α):=⟨(cur.toList.take (i*Rep.n α)++u.cells.toList++cur.toList.drop (i*Rep.n α+Rep.n α)).toArray,rfl⟩;have hrun':Sem.run P (storeCells ⟨g,i*Rep.n α,QC⟩ u.cells.toList) w = .ok () (w.setRow g row):=by rw[hrun];congr 2;rw[<-Array.toList_inj,hrow,hlen];rfl
 have hrsz:row.size=cap*Rep.n α:=by have:=congrArg List.length hrow;simp only[OY,M3,Ny,NJ,hcells.2]at this;omega
 refine⟨w.setRow g row,?_,Same.mI rfl rfl rfl Sb hg Sb (λk _ hne=>setRow_other w g k _ (λe=>hne e)),hk (w.setRow g row).heap ⟨by simpa using hbd,xs.take (i*Rep.n α)++u.cells.toList++xs.drop (i*Rep.n α+Rep.n α),⟨?_,.inr ⟨g,cap,row,by simp,setRow_heap w g cur row e _ hg,by simpa using h1,h2,?_,?_⟩⟩,?_⟩ ⟨⟨by simp,λk hk hne=>setRow_other w g k _ (λe=>hne (by simp[Value.ownBlock,e]))⟩,.inl rfl⟩⟩
 ·simp only[bg,execOp,hx,hy,hadd];simp[Instr.storeAt,Instr.sureAddr,storeVar,hszr,hcells.2,hrun']
 ·simp only[M3,Ny,NJ,hlen,Nq];omega
 ·exact hrsz
 ·simp only[Nq];rw[hrow,<-h4,Od,N7 Q1,Nk,Nk];have e1:(cur.toList.take (i*Rep.n α)).length=i*Rep.n α:=by simp;omega
  rw[OA,e1,Nd Q1];congr 1;rw[OA,hlen,Nd Q1];congr 1;rw[Ot];congr 1;omega
 intro j hj;simp only[Nq]at hj;have hjle:j*Rep.n α+Rep.n α<=l.length*Rep.n α:=by rw[<-Nat.succ_mul];exact NA _ hj
 have e1:(xs.take (i*Rep.n α)).length=i*Rep.n α:=by simp;omega
 by_cases hij:i=j
 ·subst hij;rw[Nk,O2,e1,NI Q1,NT,PQ,Oy,NO Q1,Nd Q1];simpa using hcells.1
 have hset:(l.set i d)[j]'(by simpa using hj)=l[j]:=by simp[hij]
 rw[hset];have:((xs.take (i*Rep.n α)++u.cells.toList++xs.drop (i*Rep.n α+Rep.n α)).drop (j*Rep.n α)).take (Rep.n α)=(xs.drop (j*Rep.n α)).take (Rep.n α):=by
  rcases M0 j i with hlt | hge
  ·have h5:j*Rep.n α+Rep.n α<=i*Rep.n α:=by rw[<-Nat.succ_mul];exact NA _ hlt
   rw[Nk,N4 Q1,NO Q8,Ot,Od,N7 Q1]
  have h5:i*Rep.n α+Rep.n α<=j*Rep.n α:=by rw[<-Nat.succ_mul];exact NA _ Q1
  have e2:(xs.take (i*Rep.n α)++u.cells.toList).length=i*Rep.n α+Rep.n α:=by rw[M3,e1,hlen]
  rw[O2,NI Q1,NT,e2,O1];congr 2;omega
 rw[this];exact hel j hj
end
end
section
variable{po po2 po3:OP}{pp:PP}
def up{β:Type}(f:Nat->β->β):Nat->β->β
 | 0,x=>x
 | k+1,x=>f k (up f k x)
def Old(V:View)(h0:Heap)(W:View):Prop:=∀b o,b<h0.size->W b=QB o->V b=QB o
theorem Old.refl(V:View)(h0:Heap):Old V h0 V:=λ_ _ _ h=>h
theorem Old.nothing(V:View)(h0:Heap):Old V h0 nothing:=λ_ _ _ h=>by cases h
theorem Old.grow{V W:View}{h0 h1 h2:Heap}(o:Old V h0 W)(hs:h0.size<=h1.size):Old V h0 (grow W h1 h2):=λb x hb hx=>by unfold Lft.grow at hx;rw[if_pos Q1]at hx;exact o b x hb hx
theorem Old.le{V W:View}{h0 h:Heap}(o:Old V h0 W)(hw:W.le (vw h)):W.le (Lft.grow V h0 h):=λb x hx=>by
 unfold Lft.grow;split
 ·exact o b x (by assumption) hx
 exact hw b x hx
variable{H:View}
@[simp] theorem dx:nothing.le H:=λ_ _ h=>by cases h
theorem FV(h h':Heap):fresh h h'=Lft.grow nothing h h':=by funext b;unfold fresh Lft.grow;rfl
section
variable{α:Type}[Rep α]{V W:View}{h0 h h':Heap}{e:TypeId}{v:Value}{l:List α}
theorem OwnT.lt(o:OwnT W h e v l){b:Nat}(hb:v.ownBlock=QB b):b<h.size:=by
 obtain⟨_,xs,⟨_,hown⟩,_⟩:=o;rcases hown with⟨rfl,_⟩ | ⟨g,cap,cur,rfl,hg,_⟩
 ·simp[Value.ownBlock]at hb
 simp only[Value.ownBlock,MX]at hb;subst hb;exact(M7.1 hg).1
theorem OwnT.now(o:OwnT W h e v l)(hw:W.le (vw h)):SlRd (vw h) v l:=o.rd hw λ_ _=>rfl
theorem OwnT.grown(o:OwnT W h e v l)(hw:W.le (vw h))(ho:Old V h0 W)(ha:Av (vw h0) v):SlRd (Lft.grow V h0 h) v l:=by
 refine o.rd (ho.le hw) λb hb=>?_;have:=ha b hb;simp only[vw]at this;have hge:h0.size<=b:=by
  rcases M0 b h0.size with h | h
  ·simp[h]at this
  exact h
 simp only[Lft.grow,if_neg (Qu.2 hge)]
theorem Av.grow(ha:Av W v)(hl : ∀b,v.ownBlock=QB b->b<h.size):Av (Lft.grow W h h') v:=λb hb=>by unfold Lft.grow;rw[if_pos (hl b hb)];exact ha b hb
structure Mine(V:View)(h0 h:Heap)(W:View)(e:TypeId)(v:Value)(l:List α):Prop where
 old:(vw h0).le (vw h)
 wle:W.le (vw h)
 av:Av W v
 av0:Av (vw h0) v
 agree:Old V h0 W
 own:OwnT W h e v l
theorem Mine.start(hV:V.le (vw h)):Mine (α:=α) V h h V e (QD QC 0 0) []:=
 ⟨View.le_refl _,hV,Av.nil _ _ _,Av.nil _ _ _,Old.refl _ _,OwnT.nil ..⟩
theorem Mine.ext(m:Mine V h0 h W e v l)(k:(vw h).le (vw h')):Mine V h0 h' (Lft.grow W h h') e v l:=
 ⟨Qx m.old k,sD (Qx m.wle k),m.av.grow λ_ hb=>m.own.lt hb,m.av0,m.agree.grow (iB m.old),(m.own.ext k).mono (bE m.wle)⟩
theorem Mine.ext'(m:Mine V h0 h W e v l)(k:(vw h).le (vw h')):Mine V h0 h' W e v l:=
 ⟨Qx m.old k,Qx m.wle k,m.av,m.av0,m.agree,m.own.ext k⟩
theorem Mine.result(m:Mine V h0 h W e v l):SlRd (Lft.grow V h0 h) v l:=m.own.grown m.wle m.agree m.av0
theorem Mine.fresh(m:Mine nothing h0 h W e v l):SlRd (Lft.fresh h0 h) v l:=by rw[FV];exact m.result
theorem Mine.now(m:Mine V h0 h W e v l):SlRd (vw h) v l:=m.own.now m.wle
theorem Mine.kz{v':Value}{l':List α}(m:Mine V h0 h W e v l)(o:OwnT W h' e v' l')(k:lk h h' v v'):Mine V h0 h' W e v' l':=
 let ⟨a1,a2⟩:=k.view m.wle m.av
 let ⟨b1,b2⟩:=k.view m.old m.av0
 ⟨b1,a1,a2,b2,m.agree,o⟩
variable{P:Program}{ty ty2:TypeId}{bytes:Nat}{y:Operand}{us:List (Nat × Value)}{us2:Value->List (Nat × Value)}
theorem Mine.push{t:TypeId}{z:Value}{x y2:Operand}{u:Value}{d:α}{K:Value->Value->Heap->Prop}(m:Mine V h0 h W e v l)(hT:eG P t e (Rep.n α) bytes z)(hx:asg us x=u)(hr:Rd W u d)(hb:(l.length+1)*bytes<=140737488355328)(hb2:l.length+1<=140737488355328)(hy : ∀u,asg (us2 u) y=v)(hy2 : ∀u,asg (us2 u) y2=u)(hk : ∀u v' h',Mine V h0 h' W e v' (l++[d])->K u v' h'):
  @step po P (.buildSlice t 1 #[(0,x)]) ty us h λu h2=>@step po2 P (.call ⟨.builtin .append,#[y,y2],#[t,t]⟩) ty2 (us2 u) h2 λv' h3=>K u v' h3:=by refine jz hT hx hr λu h2 hs hle _=>?_;have m2:=m.ext' hle;exact cR hT (hy u) (hy2 u) m2.own hs hb hb2 λv' h3 ho hm=>hk u v' h3 (m2.kz ho hm)
variable{n:Nat}{K:Value->Heap->Prop}
theorem Mine.made{t:TypeId}{z:Value}{x:Operand}{k:IntKind}{d:α}(hT:eG P t e (Rep.n α) bytes z)(hle:(vw h0).le (vw h))(hW:W.le (vw h))(ho:Old V h0 W)(hx:asg us x = .int k n)(hy:asg us y = .int k n)(hr:Rep.rd W z.cells.toList d)(hb:bytes*n<=140737488355328)(hb2:n<=140737488355328)(hk : ∀v' h',Mine V h0 h' W e v' (List.replicate n d)->(vw h).le (vw h')->v'.ownBlock=QB h.size->K v' h'):step P (.makeSlice t x y) ty us h K:=
 nO hT hx hy hr hb hb2 λv' h' ow mv le hb=>hk v' h' ⟨Qx hle le,Qx hW le,λb hb'=>by rw[hb]at hb';cases hb';exact View.cT hW (MY _),λb hb'=>by rw[hb]at hb';cases hb';exact View.cT hle (MY _),ho,ow⟩ le hb
theorem Mine.put{t:TypeId}{x:Operand}{i:Nat}{u:Value}{d:α}(m:Mine V h0 h W e v l)(hsz:dp P t=QB (Rep.n α))(hx:asg us x = QE (QB ((slA v).add (i*Rep.n α))))(hy:asg us y=u)(hi:i<l.length)(hr:Rd W u d)(hk : ∀h',Mine V h0 h' W e v (l.set i d)->K undef h'):step P (.store t x y) ty us h K:=
 tx hsz hx hy m.own hi hr λh' ho hm=>hk h' (m.kz ho hm)
theorem Mine.put1{t:TypeId}{x:Operand}{i:Nat}{u:Value}{d:α}(m:Mine V h0 h W e v l)(hsz:dp P t=QB (Rep.n α))(hn:Rep.n α=1)(hx:asg us x = QE (QB ((slA v).add i)))(hy:asg us y=u)(hi:i<l.length)(hr:Rd W u d)(hk : ∀h',Mine V h0 h' W e v (l.set i d)->K undef h'):step P (.store t x y) ty us h K:=
 m.put hsz (i:=i) (by rw[hn,NN];exact hx) hy hi hr hk
end
variable{β:Type}
theorem Fc{f:Nat->List β->List β}{m:Nat}(hf : ∀k x,(f k x).length<=x.length+m)(n:Nat)(x:List β):(up f n x).length<=x.length+n*m:=by
 induction n with
 | zero=>simp[up]
 | succ n ih=>have:=hf n (up f n x);rw[up,NY];omega
def sift{β:Type}(p:Nat->Bool)(x:Nat->β)(n:Nat):List β:=up (λb l=>if p b then l++[x b] else l) n []
theorem lh{p:Nat->Bool}{x:Nat->β}(n:Nat):(sift p x n).length<=n:=by have:=Fc (f:=λb l=>if p b then l++[x b] else l) (m:=1) (λk x=>by split<;>simp) n [];simpa[sift]using this
variable{n:Nat}
theorem nH{p:Nat->Bool}{x:Nat->β}(h:p n=QF):sift p x (n+1)=sift p x n++[x n]:=by rw[sift,up,if_pos h];rfl
theorem mB{p:Nat->Bool}{x:Nat->β}(h:p n=QG):sift p x (n+1)=sift p x n:=by rw[sift,up,if_neg (by simp[h])];rfl
def rows{β:Type}(x:Nat->β)(n:Nat):List β:=(List.range n).map x
theorem iG{x:Nat->β}:rows x (n+1)=rows x n++[x n]:=by simp[rows,Qo]
@[simp] theorem nB{x:Nat->β}:(rows x n).length=n:=by simp[rows]
@[simp] theorem La{x:Nat->β}:rows x 0=[]:=rfl
@[simp] theorem Lc{p:Nat->Bool}{x:Nat->β}:sift p x 0=[]:=rfl
theorem mR{p:Nat->Bool}{x:Nat->β}:sift p x n=((List.range n).filter p).map x:=by
 induction n with
 | zero=>rfl
 | succ n ih=>
  rw[Qo,O7,Ov,<-ih];cases h:p n with
  | true=>rw[nH h];simp[h]
  | false=>rw[mB h];simp[h]
theorem ny{x:Nat->β}{d:β}{k:Nat}(hk:k<n):(rows x k++List.replicate (n-k) d).set k (x k)=rows x (k+1)++List.replicate (n-(k+1)) d:=by
 have e:n-k=(n-(k+1))+1:=by omega
 rw[PH _ _ Sb,nB,PQ,e,List.replicate_succ,List.set_cons_zero,iG,Nk];rfl
theorem eF[Inhabited β]{x:Nat->β}{i:Nat}(h:i<n):nth (rows x n) i=x i:=by rw[ao (by simpa using h)];simp[rows]
theorem xg{h h1 h2:Heap}(hle:(vw h).le (vw h1)):(fresh h1 h2).le (fresh h h2):=λb o hb=>by
 have:=iB hle;unfold fresh at hb ⊢;split at hb
 ·cases hb
 rw[if_neg Q1];exact hb
variable{P:Program}{size bytes:Nat}
theorem iC{t e:Nat}{z:Value}(ht:P.underlying t=QB (.slice e))(h:(P.info? e).map (λi=>(i.zero,i.size,i.bytes))=QB (QB z,size,bytes))(hz:z.cells.size=size)(hs:0<size/\size<=1000):eG P t e size bytes z:=by simp only[M5,Og]at h;obtain⟨i,h1,h2,h3,h4⟩:=h;exact⟨ht,⟨i,h1,h2,h3,h4⟩,hz,hs.1,hs.2⟩
theorem rS{a:Int}(h0:-9223372036854775808<=a)(h1:a<=9223372036854775807):Rd H (Qy Qz a) a:=dJ.2 ⟨rfl,h0,h1⟩
variable{b:Bool}
theorem J6:Rd H (.bool b) b:=zr.2 rfl
end
section
variable{po:OP}{pp:PP}
variable{ρ:Env}
theorem au{ts:List Nat}{u:Nat}:look (bJ ρ ts) u=if ts.contains u then QC else look ρ u:=by
 induction ρ with
 | nil=>simp
 | cons p ρ ih=>
  obtain⟨k,x⟩:=p;rw[mF];by_cases hk:ts.contains k=QF
  ·simp only[hk,if_true,ih,tX];split
   ·rfl
   rename_i h;split
   ·rename_i e;subst e;exact absurd hk h
   rfl
  rw[if_neg hk,tX,tX,ih];by_cases h1:k=u
  ·subst h1;rw[if_pos rfl,if_pos rfl,if_neg hk]
  rw[if_neg h1,if_neg h1]
theorem lU{ρ ρ':Env} : ∀{ks:List Nat},(∀t∈ks,look ρ t=look ρ' t)->bh ks ρ=bh ks ρ'
 | [],_=>rfl
 | k::ks,h=>by have ih:bh ks ρ=bh ks ρ':=lU λt ht=>h t (Nf _ ht);simp only[bh,h k Ng,ih]
theorem mG{ts:List Nat}(h : ∀p∈ρ,ts.contains p.1=QG):bJ ρ ts=ρ:=by
 induction ρ with
 | nil=>rfl
 | cons p ρ ih=>obtain⟨k,x⟩:=p;have h1:=h (k,x) Ng;simp only at h1;rw[mF,h1,if_neg Sb,ih (λp hp=>h p (Nf _ hp))]
theorem mD{t:Nat}{v:Value}(h : ∀p∈ρ,p.1≠t):bJ (setE ρ t v) [t]=ρ:=by
 have hid:bJ ρ [t]=ρ:=mG λp hp=>by simpa using λe=>h p hp e
 induction ρ with
 | nil=>simp[setE]
 | cons p ρ ih=>
  obtain⟨k,x⟩:=p;have hk:=h (k,x) Ng;simp only at hk;have hid2:bJ ρ [t]=ρ:=mG λp hp=>by simpa using λe=>h p (Nf _ hp) e
  simp only[setE,if_neg hk];split
  ·rw[mF,if_pos Sb,hid]
  rw[mF,if_neg (by simpa using hk),ih (λp hp=>h p (Nf _ hp)) hid2]
theorem ll{X Y:Env->Heap->Prop}{R:Post}:fN X (fN Y R)=fN X R:=by funext e ρ h;cases e<;>rfl
abbrev forL(a i c:Nat)(ks ks2:List Nat)(bound:E)(body:LC):LC:=
 .loop (.seq (.seq (.reg QG (.fin ks [(c,.bin (.cmp .lss) (.tmp i) bound)] [])) (.cond (.tmp c) [c] .skip (.exit a)))
  (.seq body (.reg QG (.fin ks2 [(i,.bin (.arith .add) (.tmp i) (.con (Qy Qz 1)))] []))))
def qP(kp ks ks2:List Nat)(c i:Nat):Bool:=kp.all λt=>!ks.contains t&&t != c&&(t == i||!ks2.contains t)
theorem ld{kp:List Nat}{vs:List Value}{p:Nat × Value}(h:p∈kp.zip vs):p.1∈kp:=(List.of_mem_zip h).1
variable{P:Program}{body:LC}
theorem dq{Q:Post}{h:Heap}{a i c:Nat}{ks ks2:List Nat}{bound:E}{σ:Type}(kp:List Nat)(vals:σ->Nat->List Value)(J:σ->Nat->Heap->Prop)(n:Nat)(s0:σ)(hok:qP kp ks ks2 c i=QF)(hn:n<=9223372036854775806)(h0:bh kp ρ=kp.zip (vals s0 0))(hj:J s0 0 h)(hi : ∀s k,look (kp.zip (vals s k)) i=QB (Qy Qz k))(hb : ∀s k h,k<=n->J s k h->ev (look (kp.zip (vals s k))) (vw h) bound=QB (Qy Qz n))(round : ∀s k h,k<n->J s k h->∀K:Env->Heap->Prop,(∀s' ρ' h',look ρ' i=QB (Qy Qz k)->bh kp (setE ρ' i (Qy Qz ((k:Int)+1)))=kp.zip (vals s' (k+1))->J s' (k+1) h'->K ρ' h')->body.wp P (fN K (dU a Q)) (kp.zip (vals s k)) h)(done : ∀s h,J s n h->Q .normal (kp.zip (vals s n)) h):LC.wp P (forL a i c ks ks2 bound body) (dU a Q) ρ h:=by
 simp only[qP,N1,M8,OE,bne_iff_ne,NS,beq_iff_eq,ne_eq]at hok;refine iA kp (λm ρ h=>∃s k,k<=n/\ρ=kp.zip (vals s k)/\m=n-k/\J s k h) n ⟨s0,0,by omega,h0,by omega,hj⟩ ?_;rintro m ρ h ⟨s,k,hk,rfl,rfl,hJ⟩ K hK;have hkill:bJ (kp.zip (vals s k)) ks=kp.zip (vals s k):=mG λp hp=>(hok p.1 (ld hp)).1.1;have hne : ∀p∈kp.zip (vals s k),p.1≠c:=λp hp=>(hok p.1 (ld hp)).1.2;have hk2 : ∀v,bJ (setE (kp.zip (vals s k)) c v) [c]=kp.zip (vals s k):=λv=>mD hne;have hlk : ∀v,look (setE (kp.zip (vals s k)) c v) c=QB v:=λv=>by rw[ar,if_pos rfl]
 simp only[sU,kY,iF,fK,jD,kU,kJ,mZ,hi,hb s k h hk hJ,Nn,GA,jc,kO,true_and,db,hkill,bS,mf,hlk,ku,hk2,oR,oY,mC,mj,if_true];refine⟨λhlt=>?_,λhge=>?_⟩
 ·have hlt':k<n:=by omega
  rw[ll];refine round s k h hlt' hJ _ λs' ρ' h' hl he hJ'=>?_;simp only[kY,iF,fK,jD,kU,kJ,mZ,hl,kO,true_and,Nn,wX,Nn,xk,jc,db,bS,true_and];rw[bu Q1 Q1];refine hK (n-(k+1)) _ _ Q1 ⟨s',k+1,by omega,?_,rfl,hJ'⟩;rw[<-he];refine lU λt ht=>?_;rw[ar,ar,au];split
  ·rfl
  rename_i hti;rcases(hok t ht).2 with e | e
  ·exact absurd e.symm hti
  rw[e];rfl
 have:k=n:=by omega
 subst this;exact done s h hJ
abbrev forR(a i c:Nat)(ks ks2:List Nat)(bound:E)(body:LC):LC:=
 .loop (.seq (.reg QG (.fin ks [(c,.bin (.cmp .lss) (.tmp i) bound)] [])) (.seq (.cond (.tmp c) [c] .skip (.exit a))
  (.seq body (.reg QG (.fin ks2 [(i,.bin (.arith .add) (.tmp i) (.con (Qy Qz 1)))] [])))))
theorem aJ{Q:Post}{h:Heap}{a i c:Nat}{ks ks2:List Nat}{bound:E}{σ:Type}(kp:List Nat)(vals:σ->Nat->List Value)(J:σ->Nat->Heap->Prop)(n:Nat)(s0:σ)(hok:qP kp ks ks2 c i=QF)(hn:n<=9223372036854775806)(h0:bh kp ρ=kp.zip (vals s0 0))(hj:J s0 0 h)(hi : ∀s k,look (kp.zip (vals s k)) i=QB (Qy Qz k))(hb : ∀s k h,k<=n->J s k h->ev (look (kp.zip (vals s k))) (vw h) bound=QB (Qy Qz n))(round : ∀s k h,k<n->J s k h->∀K:Env->Heap->Prop,(∀s' ρ' h',look ρ' i=QB (Qy Qz k)->bh kp (setE ρ' i (Qy Qz ((k:Int)+1)))=kp.zip (vals s' (k+1))->J s' (k+1) h'->K ρ' h')->body.wp P (fN K (dU a Q)) (kp.zip (vals s k)) h)(done : ∀s h,J s n h->Q .normal (kp.zip (vals s n)) h):LC.wp P (forR a i c ks ks2 bound body) (dU a Q) ρ h:=by
 simp only[qP,N1,M8,OE,bne_iff_ne,NS,beq_iff_eq,ne_eq]at hok;refine iA kp (λm ρ h=>∃s k,k<=n/\ρ=kp.zip (vals s k)/\m=n-k/\J s k h) n ⟨s0,0,by omega,h0,by omega,hj⟩ ?_;rintro m ρ h ⟨s,k,hk,rfl,rfl,hJ⟩ K hK;have hkill:bJ (kp.zip (vals s k)) ks=kp.zip (vals s k):=mG λp hp=>(hok p.1 (ld hp)).1.1;have hne : ∀p∈kp.zip (vals s k),p.1≠c:=λp hp=>(hok p.1 (ld hp)).1.2;have hk2 : ∀v,bJ (setE (kp.zip (vals s k)) c v) [c]=kp.zip (vals s k):=λv=>mD hne;have hlk : ∀v,look (setE (kp.zip (vals s k)) c v) c=QB v:=λv=>by rw[ar,if_pos rfl]
 simp only[sU,kY,iF,fK,jD,kU,kJ,mZ,hi,hb s k h hk hJ,Nn,GA,jc,kO,true_and,db,hkill,bS,mf,hlk,ku,hk2,oR,oY,mC,mj,if_true];refine⟨λhlt=>?_,λhge=>?_⟩
 ·have hlt':k<n:=by omega
  rw[ll];refine round s k h hlt' hJ _ λs' ρ' h' hl he hJ'=>?_;simp only[kY,iF,fK,jD,kU,kJ,mZ,hl,kO,true_and,Nn,wX,Nn,xk,jc,db,bS,true_and];rw[bu Q1 Q1];refine hK (n-(k+1)) _ _ Q1 ⟨s',k+1,by omega,?_,rfl,hJ'⟩;rw[<-he];refine lU λt ht=>?_;rw[ar,ar,au];split
  ·rfl
  rename_i hti;rcases(hok t ht).2 with e | e
  ·exact absurd e.symm hti
  rw[e];rfl
 have:k=n:=by omega
 subst this;exact done s h hJ
theorem bz{Q:Post}{h:Heap}{r:Reg}(H:View)(hH:H.le (vw h))(hw:fD P (QB H) r (Q .normal) ρ h):LC.wp P (.reg QF r) Q ρ h:=⟨H,View.tj hH,jO (λ_ _=>View.tj) hw⟩
theorem yF{Q:Post}{h:Heap}{r:Reg}(H:View)(hH:H.sub (vw h))(hw:b8 View.sub P (QB H) r (Q .normal) ρ h):LC.wp P (.reg QF r) Q ρ h:=⟨H,hH,hw⟩
end
section
variable{po po2 po3:OP}{pp:PP}
variable{n:Nat}
@[simp] theorem L4{b o:Nat}:(⟨b,o,QC⟩:Addr).add n=⟨b,o+n,QC⟩:=bs rfl n
variable{H:View}
@[simp] theorem Li{a:Addr}:Un.ev H .nilPtr (QE (QB a))=QB (QE (QB a)):=rfl
@[simp] theorem Mt{a:Addr}{o:Nat}:Un.ev H (.fld o) (QE (QB a))=QB (QE (QB (a.add o))):=rfl
@[simp] theorem Ma{k q:IntKind}{a:Int}:Un.ev H (.conv k) (.int q a)=QB (.int k (k.wrap a)):=rfl
variable{cs:Array Value}
@[simp] theorem Md{o:Nat}:Un.ev H (.part o) (.agg cs)=cs[o]?:=rfl
@[simp] theorem LH{o:Nat}:Un.ev H (.parts o n) (.agg cs)=QB (.agg (cs.extract o (o+n))):=rfl
@[simp] theorem Mn{o:Nat}:Un.ev H (.ext o) (.tuple cs)=cs[o]?:=rfl
def JB:Value->Value->Option Value
 | .tuple vs,u=>QB (.tuple (vs.push u))
 | _,_=>QC
@[simp] theorem JE{vs:Array Value}{u:Value}:JB (.tuple vs) u=QB (.tuple (vs.push u)):=rfl
@[simp] theorem KO{σ:Nat->Option Value}{x y:E}:ev σ H (.snoc x y)=(ev σ H x).bind λv=>(ev σ H y).bind λu=>JB v u:=by
 simp only[ev];cases hx:ev σ H x with
 | none=>rfl
 | some v=>
  cases hy:ev σ H y with
  | none=>cases v<;>rfl
  | some u=>cases v<;>rfl
@[simp] theorem MO{f:Nat}{vs:Array Value}:Un.ev H (.fn f) (.tuple vs)=QB (.func (.func f) #[] vs):=rfl
@[simp] theorem Lg:(Value.agg cs).cells=cs:=rfl
@[simp] theorem JO{a:Option Addr}{c:Nat}:(Value.slice a n c).cells = #[.slice a n c]:=rfl
@[simp] theorem K7{k:IntKind}{n:Int}:(Qy k n).cells = #[.int k n]:=rfl
variable{b:Bool}
@[simp] theorem Ky:(Value.bool b).cells = #[.bool b]:=rfl
@[simp] theorem HP{a:Option Addr}:(Value.pointer a).cells = #[.pointer a]:=rfl
def Du(P:Program)(t:TypeId):Option (List (Nat × Nat)):=
 match P.underlying t with
 | some (.struct fields)=>fields.toList.mapM λf=>(dp P f.type).map λn=>(f.offset,n)
 | some (.array k e)=>(dp P e).map λn=>(List.range k).map λi=>(i*n,n)
 | _=>QC
section
variable{P:Program}{ty:TypeId}{us:List (Nat × Value)}{h:Heap}{K:Value->Heap->Prop}
theorem yx{f g:Nat->Option (Nat × Nat)}(hfg : ∀i p,f i=QB p->g i=QB p) : ∀{vs:List (Nat × Value)} {c cs:Array Value},Instr.fill f c vs=QB cs->Instr.fill g c vs=QB cs
 | [],c,cs,h=>h
 | (i,v)::vs,c,cs,h=>by
  simp only[Instr.fill]at h ⊢;split at h
  ·cases h
  rename_i off size hi;rw[hfg i _ hi];simp only;split at h
  ·cases h
  rename_i hc;rw[if_neg hc];exact yx hfg h
theorem run_places{w:World} : ∀{fs:List Field} {ps:List (Nat × Nat)},(fs.mapM λf=>(dp P f.type).map λn=>(f.offset,n))=QB ps->
  (fs.mapM fun(f:Field)=>Prod.mk f.offset <$> sizeOf f.type).run P w=Result.ok ps w
 | [],ps,h=>by simp at h;subst h;simp
 | f::fs,ps,h=>by simp only[Qr,Option.bind_eq_bind,Nh,M5]at h;obtain⟨p,⟨n,hn,rfl⟩,ps',h2,h3⟩:=h;simp only[Option.pure_def,MX]at h3;subst h3;have ih:=run_places (w:=w) h2;simp[Qr,Sem.run_bind,run_sizeOf hn,ih]
theorem aQ{t:TypeId}{ps:Array (Nat × Operand)}{vs:List (Nat × Value)}{z:Value}{places:List (Nat × Nat)}(hz:(P.info? t).map (·.zero)=QB (QB z))(hpl:Du P t=QB places)(hp:ps.map (λp=>(p.1,asg us p.2))=vs.toArray)(hf:Instr.fill (places[·]?) z.cells vs=QB cs)(hk:K (.agg cs) h):step P (.build t ps) ty us h K:=by
 refine cH (bN λw hw=>⟨.agg cs,w,?_,Same.refl _,by rw[hw];exact hk⟩);have hp':(ps.map λx=>match x with | (i,x)=>(i,asg us x))=vs.toArray:=hp;simp only[M5]at hz;obtain⟨i,hi,hz⟩:=hz;simp only[bg,execOp,hp'];unfold Du at hpl;split at hpl
 ·rename_i fields hu;have hr:=run_places (P:=P) (w:=w) hpl;have hr2:(fields.mapM fun(f:Field)=>Prod.mk f.offset <$> sizeOf f.type).run P w=Result.ok places.toArray w:=by rw[P5];simp only[Sem.run_map];erw [hr];rfl
  have hf':Instr.fill (places.toArray[·]?) z.cells vs=QB cs:=by simpa using hf
  simp[Instr.build,zeroValue,typeInfo,hi,hz,run_underlying hu,hr2,hf',hf]
 ·rename_i k e hu;simp only[M5]at hpl;obtain⟨n,hn,rfl⟩:=hpl;have hf':=yx (g:=λi=>QB (i*n,n)) (λi p hp=>by
   simp only[OU,M5]at hp;obtain⟨j,hj,rfl⟩:=hp;rcases M0 i k with hlt | hge
   ·rw[List.getElem?_range hlt]at hj;cases hj;rfl
   rw[NL (by simpa using hge)]at hj;cases hj) hf;simp[Instr.build,zeroValue,typeInfo,hi,hz,run_underlying hu,run_sizeOf hn,hf']
 cases hpl
variable{size bytes:Nat}
theorem uZ{t e:TypeId}{z:Value}{ps:Array (Nat × Operand)}{vs:List (Nat × Value)}(hT:eG P t e size bytes z)(hn:n*size<=16777216)(hp:ps.map (λp=>(p.1,asg us p.2))=vs.toArray)(hf:Instr.fill (λj=>QB (j*size,size)) ((Array.range (n*size)).map (z.cells[· % z.cells.size]!)) vs=QB cs)(hk:K (QD (QB ⟨h.size,0,QC⟩) n n) (h.push (.cells cs e))):step P (.buildSlice t n ps) ty us h K:=by obtain⟨ht,⟨i,hi,hz,hsize,hby⟩,_⟩:=hT;exact oC ht hi hz hsize hn hp hf hk
theorem fF{t:TypeId}{z:Value}(hz:(P.info? t).map (·.zero)=QB (QB z))(hk:K (QT h.size) (h.push (.cells z.cells t))):step P (.alloc t) ty us h K:=by simp only[M5]at hz;obtain⟨i,hi,hz⟩:=hz;refine cH (bN λw hw=>?_);subst hw;refine⟨_,w.alloc (.cells z.cells t),?_,jK _ _,hk⟩;simp only[bg,execOp];simp[Instr.alloc,zeroValue,typeInfo,hi,hz,newVar,newRow]
theorem my{t:TypeId}{x:Operand}{v:Value}(hx:asg us x=v)(hk:K (QT h.size) (h.push (.cells v.cells t))):step P (.box t x) ty us h K:=by refine cH (bN λw hw=>?_);subst hw;refine⟨_,w.alloc (.cells v.cells t),?_,jK _ _,hk⟩;simp only[bg,execOp];simp[Instr.box,hx,newVar,newRow]
variable{y:Operand}
theorem ey{t e:TypeId}{g o:Nat}{x:Operand}{v:Value}{cur:Array Value}(hsz:dp P t=QB n)(hx:asg us x = QE (QB ⟨g,o,QC⟩))(hy:asg us y=v)(hv:v.cells.size=n)(h1 : ∀c∈v.cells.toList,c.oneCell'=QF)(hg:h[g]? = QB (.cells cur e (0,0)))(hfit:o+n<=cur.size)(hk : ∀h':Heap,h'.size=h.size->(∃row:Array Value,h'[g]? = QB (.cells row e (0,0))/\row.toList=cur.toList.take o++v.cells.toList++cur.toList.drop (o+n))->(∀k,k≠g->h'[k]? = h[k]?)->K undef h'):step P (.store t x y) ty us h K:=by
 refine cH (lX λw hw=>?_);subst hw;have hlen:v.cells.toList.length=n:=by simpa using hv
 have hrun:=run_storeCells_at P g o e v.cells.toList 0 cur w hg (by simp only[Nat.add_zero];omega) h1;obtain⟨row,hrow⟩ : ∃row:Array Value,row.toList=cur.toList.take o++v.cells.toList++cur.toList.drop (o+n):=⟨(cur.toList.take o++v.cells.toList++cur.toList.drop (o+n)).toArray,rfl⟩;have hrun':Sem.run P (storeCells ⟨g,o,QC⟩ v.cells.toList) w = .ok () (w.setRow g row):=by rw[hrun];congr 2;rw[<-Array.toList_inj,hrow,hlen];rfl
 refine⟨w.setRow g row,?_,Same.mI rfl rfl rfl Sb hg Sb (λk _ hne=>setRow_other w g k _ (λe=>hne e)),hk _ Sb ⟨row,setRow_heap w g cur row e _ hg,hrow⟩ λk hne=>setRow_other w g k _ (λe=>hne e)⟩;simp only[bg,execOp,hx,hy];simp[Instr.storeAt,Instr.sureAddr,storeVar,run_sizeOf (P:=P) (w:=w) hsz,hv,hrun']
variable{ty2:TypeId}{us2:Value->List (Nat × Value)}
theorem tp{t:TypeId}{z:Value}{x:Operand}{v:Value}{K:Value->Heap->Prop}(hz:(P.info? t).map (·.zero)=QB (QB z))(hzc:z.cells.size=1)(hsz:dp P t=QB 1)(hv:v.cells = #[v])(hone:v.oneCell'=QF)(hx : ∀p,asg (us2 p) x=p)(hy : ∀p,asg (us2 p) y=v)(hk : ∀h':Heap,(vw h).le (vw h')->h'.size=h.size+1->h'[h.size]? = QB (.cells #[v] t (0,0))->K (QT h.size) h'):
  @step po P (.alloc t) ty us h λp h2=>@step po2 P (.store t x y) ty2 (us2 p) h2 λ_ h3=>K p h3:=by
 refine fF hz ?_;refine ey (g:=h.size) (o:=0) (n:=1) (v:=v) (cur:=z.cells) (e:=t) hsz (hx _) (hy _) (by rw[hv];rfl) (by rw[hv];simpa using hone) Sb Q1 λh' hs ⟨row,hrow,he⟩ hoth=>?_;have hrow2:row = #[v]:=by rw[<-Array.toList_inj,he,hv];simp only[Po,NT,Oj];rw[NI (by simp[hzc])];rfl
 rw[hrow2]at hrow;refine hk h' (λb o hb=>?_) (by rw[hs];simp) hrow;have hlt:=View.lt (View.le_refl (vw h)) hb;show h'[b]? = _;rw[hoth b Q1];exact bA _ _ b o hb
variable{ops:List Operand}{caps:Array Value}
theorem cJ{f:FuncId}{t:Nat}{T:Array TypeId}(hf:asg us (.tmp t) = .func (.func f) #[] caps){R:Value->Heap->Prop}(hfn:isFn P f=QF)(hc:aw P f (ops.map (asg us)++caps.toList).toArray h R)(hk : ∀v h',R v h'->K v h'):step P (.call ⟨.value (.tmp t),ops.toArray,T⟩) ty us h K:=by
 refine cH (xv (R:=R) (f:=f) (args:=(ops.map (asg us)++caps.toList).toArray) (λw _=>?_) hc hk);unfold isFn at hfn;cases hfn':P.funcs[f]? with
 | none=>simp[hfn']at hfn
 | some fn=>simp only[hfn',M8,bne_iff_ne,ne_eq]at hfn;obtain⟨h1,h2⟩:=hfn;simp[bg,execOp,resolve,Deferred.ofValue,hf,invoke,callFunc,program,Sem.run,hfn',h1,Option.isNone];cases hb:fn.body<;>simp[hb]at h2 ⊢
end
instance:Rep (Int × Int) where
 n:=2
 agg:=true
 rd:=λ_ cs d=>cs=[Qy Qz d.1,Qy Qz d.2]/\(-9223372036854775808<=d.1/\d.1<=9223372036854775807)/\-9223372036854775808<=d.2/\d.2<=9223372036854775807
 mono:=λ_ h=>h
 len:=λh=>by rw[h.1];rfl
 one:=λh=>by cases h
 flat:=λh u hu=>by rw[h.1]at hu;simp at hu;rcases hu with rfl | rfl<;>rfl
 pos:=by decide
 dO:=λh=>h
theorem zB{v:Value}{d:Int × Int}:Rd H v d↔v = .agg #[Qy Qz d.1,Qy Qz d.2]/\(-9223372036854775808<=d.1/\d.1<=9223372036854775807)/\-9223372036854775808<=d.2/\d.2<=9223372036854775807:=by
 simp only[Rd,Rep.agg,Rep.rd,if_true];constructor
 ·rintro⟨cs,rfl,h1,h2⟩;refine⟨?_,h2⟩;congr 1;rw[<-Array.toList_inj,h1]
 rintro⟨rfl,h2⟩;exact⟨_,rfl,rfl,h2⟩
variable{α:Type}
theorem SlRd.idxn[Rep α]{v:Value}{l:List α}(h:SlRd H v l){N:Nat}(hn:Rep.n α=N){k:IntKind}{i:Int}(h0:0<=i)(h1:i<l.length):Bn.ev (.idx N) v (.int k i)=QB (QE (QB ((slA v).add (i.toNat*N)))):=by have:=h.idx (k:=k) h0 h1;rw[hn]at this;exact this
theorem SlRd.pair{K:View}{v:Value}{l:List (Int × Int)}(h:SlRd H v l)(hk:H.le K){i:Nat}(hi:i<l.length):Un.ev K (.ax 2) (QE (QB ((slA v).add (i*2))))=QB (.agg #[Qy Qz (nth l i).1,Qy Qz (nth l i).2]):=by obtain⟨u,h1,h2⟩:=((h.at hi).mono hk).ax rfl;rw[zB]at h2;rw[h2.1]at h1;rw[ao hi];exact h1
end
section
variable{po po2 po3:OP}{pp:PP}
variable{P:Program}{K:Value->Heap->Prop}
theorem Cr{s:Sem Next}{l:Nat}{vs:List Value}{h:Heap}{R:Bool->Heap->Prop}(hs : ∀w:World,w.heap=h->s.run P w=(Instr.yield l vs.toArray).run P w)(hy:Cv P l vs h R)(hk : ∀b h',R b h'->K (.bool b) h'):iI P s h K:=by intro w hw r o a K' Q' hK hQ;obtain⟨f,tmps,asg,body,h1,h2⟩:=hy w hw;rw[hs w hw,h1];simp only[Oper.uponIn];have h3:RoundIn (Fw r) 0 P l f tmps asg body w _:=h2;refine⟨λh=>by simp[Fw,Fence.wide]at h,h3.mono ?_⟩;rintro e w' ⟨b,rfl,hR,hsame⟩;exact hK _ w' (hk _ _ hR) hsame
variable{ops:List Operand}{ty:TypeId}{us:List (Nat × Value)}
theorem Hw{t l:Nat}{T:Array TypeId}{h:Heap}(hf:asg us (.tmp t) = .func (.yield l) #[] #[]){R:Bool->Heap->Prop}(hy:Cv P l (ops.map (asg us)) h R)(hk : ∀b h',R b h'->K (.bool b) h'):step P (.call ⟨.value (.tmp t),ops.toArray,T⟩) ty us h K:=by refine cH (Cr (l:=l) (vs:=ops.map (asg us)) (λw _=>?_) hy hk);simp[bg,execOp,resolve,Deferred.ofValue,hf,invoke]
variable{β:Type}{body:LC}{ρ:Env}
theorem xj{enc:β->List Value}{g:E}{ps:List Nat}{asg:LC}{Q:Post}{h:Heap}{gf:Nat}{caps:List Value}{all:List β}{A:β->Env}(V W0:View)(I:Option Exit->Nat->View->Heap->Prop)(hg:ev (look ρ) (vw h) g=QB (.func (.func gf) #[] caps.toArray))(hf:isFn P gf=QF)(hi:Iter P gf caps V (all.map enc))(hl : ∀x,(enc x).length=ps.length)(hV:V.le W0)(hI : ∀e k,mK h.size (I e k))(h0:I QC 0 W0 h)(hasg : ∀x h1,@LC.wp noPP P asg (λe ρ1 h2=>e = .normal/\h2=h1/\ρ1=A x) (db ρ (ps.zip (enc x))) h1)(round : ∀k x W h1,(∀b,b<h.size->W b=W0 b)->all[k]? = QB x->I QC k W h1->∀K:Post,(∀ρ2 h3,I QC (k+1) W h3->K .normal ρ2 h3)->(∀e ρ2 h3,e≠.normal->I (QB e) (k+1) W h3->K e ρ2 h3)->@LC.wp noPP P body K (A x) h1)(done : ∀W h1,(∀b,b<h.size->W b=W0 b)->I QC all.length W h1->Q .normal ρ h1)(left : ∀e k W h1,(∀b,b<h.size->W b=W0 b)->I (QB e) k W h1->Q e ρ h1):LC.wp P (.rangef g ps asg body) Q ρ h:=by
 refine⟨gf,caps,V,W0,all.map enc,I,λk ρ1 W h'=>ρ1=(match all[k]? with | some x=>A x | none=>[])/\I QC k W h',hg,hf,hi,λvs hvs=>?_,hV,hI,h0,λk ρ1=>⟨λj=>(hI QC k).le j.2,λj a b c d=>⟨j.1,(hI QC k).move j.2 a b c d⟩⟩,λk vs W h1 ha hk hIk=>?_,
  λk vs ρ1 W h1 ha hk hM=>?_,λW h1 a b=>done W h1 a (by simpa using b),λe k W h1 _ _=>left e k W h1⟩
 ·obtain⟨x,_,rfl⟩:=ND.1 hvs;exact hl x
 ·rw[OU,M5]at hk;obtain⟨x,hk,rfl⟩:=hk;simp only[hk];refine @Aq noPP P _ _ (λe ρ1 h2 hq=>?_) _ _ _ (hasg x h1);obtain⟨h1,rfl,h3⟩:=hq;exact⟨h1,h3,hIk⟩
 rw[OU,M5]at hk;obtain⟨x,hk,rfl⟩:=hk;simp only[hk]at hM;obtain⟨rfl,hIk⟩:=hM;refine round k x W h1 ha hk hIk _ (λρ2 h3 hh=>hh) λe ρ2 h3 hne hh=>?_;cases e<;>first | exact absurd rfl hne | exact hh
theorem SlRd.drop{α:Type}[Rep α]{H:View}{v:Value}{l:List α}(h:SlRd H v l){n:Nat}(hn:n<=l.length){kd:IntKind} : ∃u,Bn.ev (.lo (Rep.n α)) v (.int kd n)=QB u/\SlRd H u (l.drop n):=by
 obtain⟨a,cap,rfl,h1,h2,h3⟩:=h;refine⟨.slice (if cap=n then a else a.map (·.add (n*Rep.n α))) (l.length-n) (cap-n),by simp[Bn.ev,vL,vI,hn],if cap=n then a else a.map (·.add (n*Rep.n α)),cap-n,?_,?_,?_,?_⟩
 ·rw[NJ]
 ·rw[NJ];omega
 ·rw[NJ];omega
 rcases h3 with rfl | ⟨ad,rfl,hs,hat⟩
 ·left;simp
 by_cases hc:cap=n
 ·left;simp;omega
 refine .inr ⟨ad.add (n*Rep.n α),by simp[hc],by rw[bs hs],λi hi=>?_⟩;rw[NJ]at hi;rw[PB];have:=hat (n+i) Q1;rw[bs hs]at this ⊢;rw[bs rfl];simpa[Pn,Nat.add_assoc]using this
def but(v:Value)(h:Heap):View:=λb=>if v.ownBlock=QB b then QC else h[b]?
theorem tI{v:Value}{h:Heap}:(but v h).le (vw h):=λb o hb=>by
 unfold but at hb;split at hb
 ·cases hb
 exact hb
theorem K1{v:Value}{h:Heap}:Av (but v h) v:=λb hb=>by unfold but;rw[if_pos hb]
variable{h':Heap}
theorem A0{v:Value}{h:Heap}(hle:(vw h).le (vw h')):(but v h).le (but v h'):=λb o hb=>by
 unfold but at *;split at hb
 ·cases hb
 rename_i hne;rw[if_neg hne];exact hle b o hb
variable{V:View}
theorem Hd{v:Value}{h:Heap}(hV:V.le (vw h))(ha:Av V v):V.le (but v h):=λb o hb=>by
 unfold but;split
 ·rename_i e;rw[ha b e]at hb;cases hb
 exact hV b o hb
variable{α:Type}{h0:Heap}{W:View}
theorem Mine.beside[Rep α][Rep β]{h:Heap}{e e1:TypeId}{v2 v1 v1':Value}{l2:List α}{l1':List β}(m2:Mine nothing h0 h nothing e v2 l2)(m1:Mine V h0 h' W e1 v1' l1')(mv:lk h h' v1 v1')(ne:v2.ownBlock=QC\/v2.ownBlock≠v1.ownBlock):Mine nothing h0 h' nothing e v2 l2:=
 ⟨m1.old,λ_ _ h=>(by cases h),λ_ _=>rfl,m2.av0,Old.nothing _ _,m2.own.kept mv.kept ne⟩
theorem Mine.over[Rep α]{h:Heap}{e:TypeId}{v:Value}{l:List α}(m:Mine V h0 h nothing e v l):Mine (vw h0) h0 h (but v h) e v l:=
 ⟨m.old,tI,K1,m.av0,λb o hb hx=>by have h1:=tI b o hx;have h2:h0[b]? = QB h0[b]:=Nt hb;have h3:h[b]? = QB h0[b]:=m.old b _ h2;have h4:h[b]? = QB o:=h1;rw[h3]at h4;cases h4;exact h2,m.own.mono (λ_ _ h=>by cases h)⟩
theorem Mine.Lr{h:Heap}{e:TypeId}{v:Value}{l:List Int}(m:Mine V h0 h W e v l):Mine nothing h0 h nothing e v l:=
 ⟨m.old,λ_ _ h=>(by cases h),λ_ _=>rfl,m.av0,Old.nothing _ _,m.own⟩
variable{n:Nat}
theorem J8{a:Addr}{c m:Nat}{k:IntKind}{i:Int}(h0:0<=i)(h1:i<n):Bn.ev (.idx m) (QD (QB a) n c) (.int k i)=QB (QE (QB (a.add (i.toNat*m)))):=by simp[Bn.ev,vL,vI,h0,h1]
theorem IX{a:Addr}{c:Nat}{k:IntKind}{i:Int}(h0:0<=i)(h1:i<n):Bn.ev (.idx 1) (QD (QB a) n c) (.int k i)=QB (QE (QB (a.add i.toNat))):=by rw[J8 h0 h1,NN]
variable{H:View}
theorem bV{b o:Nat}{c:Array Value}{T:TypeId}{fz:Nat × Nat}{v:Value}(h:H b=QB (.cells c T fz))(hv:c[o]? = QB v):aj H ⟨b,o,QC⟩=QB v:=by simp[aj,h,hv]
theorem SlRd.cells{α:Type}[Rep α]{H:View}{v:Value}{l:List α}(h:SlRd H v l):v.cells = #[v]/\v.oneCell'=true:=by obtain⟨a,cap,rfl,_⟩:=h;exact⟨rfl,rfl⟩
theorem oG.ext{h0 h h':Heap}(hs:oG h0.size h h')(hle:(vw h0).le (vw h)):(vw h0).le (vw h'):=λb o hb=>by have hlt:=View.lt (View.le_refl (vw h0)) hb;show h'[b]? = _;rw[hs.same b (.inl hlt)];exact hle b o hb
theorem oG.jE{h:Heap}(hs:oG h0.size h h'):(fresh h0 h).dO.le (fresh h0 h'):=λb o hb=>by
 have h1:=View.rZ _ _ hb;have h2 : ∀x,o≠.deferred x:=by intro x e;subst e;unfold View.dO at hb;split at hb<;>cases hb
 unfold fresh at h1 ⊢;split at h1
 ·cases h1
 rename_i hge;rw[if_neg hge,hs.same b (.inr ?_)]
 ·exact h1
 rw[h1];intro e;exact h2 _ (Option.some.inj e)
theorem oG.rd[Rep α]{h:Heap}{v:Value}{l:List α}(hs:oG h0.size h h')(hr:SlRd (fresh h0 h) v l):SlRd (fresh h0 h') v l:=
 fG.1 ((fG.2 hr).dO.mono hs.jE)
theorem tW{h:Heap}{b:Nat}(hb:b<h.size):grow W h h' b=W b:=by unfold grow;rw[if_pos hb]
theorem mK.grown{J:View->Heap->Prop}(hJ:mK n J){h:Heap}(hj:J W h)(hn:n<=h.size)(hle:(vw h).le (vw h')):J (grow W h h') h':=
 hJ.move hj (λb hb=>tW Q1) (sD (Qx (hJ.le hj) hle)) (λb hb hlt=>⟨(pX hle).block b hlt Sb,by rw[tW hlt];exact hb⟩) (iB hle)
variable{bytes:Nat}{y:Operand}
theorem Hc{t e:TypeId}{z:Value}{x:Operand}{h:Heap}{k:IntKind}(hT:eG P t e 1 bytes z)(hx:asg us x = .int k n)(hy:asg us y = .int k n)(hz1:z.cells = #[z])(hb:bytes*n<=140737488355328)(hb2:n<=140737488355328)(hk:K (QD (QB ⟨h.size,0,QC⟩) n n) (h.push (.cells (List.replicate n z).toArray e))):step P (.makeSlice t x y) ty us h K:=by
 obtain⟨ht,⟨i,hi,hz,hsize,hby⟩,hzs,hsz,hsmall⟩:=hT;refine cH (bN λw hw=>?_);subst hw;have hrun:=run_make (P:=P) w t e i z ht hi hz k k (n:Int) (n:Int) Q1 (NP _) (by
  rw[hby];have:((bytes*n:Nat):Int)<=281474976710656:=by omega
  rwa [Int.natCast_mul]at this) Q1;simp only[M9,hsize,NN]at hrun
 have hm:madeCells z.cells n=(List.replicate n z).toArray:=by
  rw[hz1];apply Array.ext
  ·simp[madeCells]
  intro j h1 h2;simp[madeCells,Nat.mod_one]
 rw[hm]at hrun;refine⟨_,w.alloc (.cells (List.replicate n z).toArray e),?_,jK _ _,hk⟩;simp only[bg,execOp,hx,hy];simp[hrun]
theorem OwnT.same{α:Type}[Rep α]{W:View}{h h':Heap}{e:TypeId}{v:Value}{l:List α}(o:OwnT W h e v l)(hb : ∀b,v.ownBlock=QB b->h'[b]? = h[b]?):OwnT W h' e v l:=by
 obtain⟨bd,xs,⟨h1,h2⟩,h3⟩:=o;refine⟨bd,xs,⟨h1,?_⟩,h3⟩;rcases h2 with h2 | ⟨g,cap,cur,rfl,hg,h4⟩
 ·exact .inl h2
 exact .inr ⟨g,cap,cur,rfl,(hb g rfl).trans hg,h4⟩
structure Rw{α:Type}[Rep α](W:View)(h:Heap)(ot e:TypeId)(g:Nat)(rv:List Value)(ls:List (List α)):Prop where
 wle:W.le (vw h)
 wg:W g=QC
 blk:h[g]? = QB (.cells rv.toArray ot (0,0))
 len:rv.length=ls.length
 own : ∀i,i<ls.length->OwnT nothing h e (nth rv i) (nth ls i)
 av : ∀i,i<ls.length->Av W (nth rv i)
 ng : ∀i,i<ls.length->(nth rv i).ownBlock≠QB g
 dj : ∀i j,i<ls.length->j<ls.length->i≠j->(nth rv i).ownBlock=QC\/(nth rv i).ownBlock≠(nth rv j).ownBlock
section
variable{α:Type}[Rep α]{W:View}{h h':Heap}{ot e:TypeId}{g:Nat}{rv:List Value}{ls:List (List α)}
theorem Rw.lt(r:Rw W h ot e g rv ls):g<h.size:=(M7.1 r.blk).1
theorem ay[Inhabited β]{i:Nat}{x:β}(hi:i<n):nth (List.replicate n x) i=x:=by rw[ao (by simpa using hi)];simp
theorem Rw.start(hW:W.le (vw h))(hg:W g=QC)(hb:h[g]? = QB (.cells (List.replicate n (QD QC 0 0)).toArray ot (0,0))):Rw (α:=α) W h ot e g (List.replicate n (QD QC 0 0)) (List.replicate n []):=
 ⟨hW,hg,hb,by simp,λi hi=>by rw[ay (by simpa using hi),ay (by simpa using hi)];exact OwnT.nil ..,λi hi=>by rw[ay (by simpa using hi)];exact Av.nil _ _ _,
  λi hi=>by rw[ay (by simpa using hi)];simp[Value.ownBlock],λi j hi hj _=>by rw[ay (by simpa using hi)];exact .inl rfl⟩
theorem Rw.move(r:Rw W h ot e g rv ls){W':View}(h1:W'.le (vw h'))(h2 : ∀b,W b=QC->b<h.size->h'[b]? = h[b]?/\W' b=QC):Rw W' h' ot e g rv ls:=
 {wle:=h1,wg:=(h2 g r.wg r.lt).2,blk:=(h2 g r.wg r.lt).1.trans r.blk,len:=r.len,ng:=r.ng,dj:=r.dj
  own:=λi hi=>(r.own i hi).same λb hb=>(h2 b (r.av i hi b hb) ((r.own i hi).lt hb)).1
  av:=λi hi b hb=>(h2 b (r.av i hi b hb) ((r.own i hi).lt hb)).2 }
theorem Rw.ext(r:Rw W h ot e g rv ls)(hle:(vw h).le (vw h')):Rw W h' ot e g rv ls:=
 r.move (Qx r.wle hle) λb hb hlt=>⟨(pX hle).block b hlt Sb,hb⟩
theorem aK[Inhabited β]{l:List β}{i j:Nat}{x:β}(hj:j<l.length):nth (l.set i x) j=if i=j then x else nth l j:=by
 rw[ao (by simpa using hj),Qe];split
 ·rfl
 rw[ao hj]
theorem Rw.put{h2 h3:Heap}{i:Nat}{v':Value}{l':List α}(r:Rw W h ot e g rv ls)(hi:i<ls.length)(o:OwnT nothing h2 e v' l')(m:lk h h2 (nth rv i) v')(hb:h3[g]? = QB (.cells (rv.set i v').toArray ot (0,0)))(hoth : ∀k,k≠g->h3[k]? = h2[k]?)(hsz:h3.size=h2.size):Rw W h3 ot e g (rv.set i v') (ls.set i l'):=by
 obtain⟨hw',ha'⟩:=m.view r.wle (r.av i hi);have hlt:=r.lt;have ng':v'.ownBlock≠QB g:=by
  rcases m.at_ with e | e
  ·rw[e];exact r.ng i hi
  rw[e];intro e2;cases e2;omega
 have hv' : ∀j,j<ls.length->j≠i->(nth rv j).ownBlock=QC\/(nth rv j).ownBlock≠v'.ownBlock:=by
  intro j hj hne;rcases m.at_ with e | e
  ·rw[e];exact r.dj j i hj hi hne
  right;rw[e];intro e2;have:=(r.own j hj).lt e2;omega
 have rl:=r.len;refine⟨λb x hb=>?_,r.wg,hb,by simp[rl],λj hj=>?_,λj hj=>?_,λj hj=>?_,λj k hj hk hne=>?_⟩
 ·have hne:b≠g:=λe=>by rw[e,r.wg]at hb;cases hb
  show h3[b]? = _;rw[hoth b hne];exact hw' b x hb
 ·rw[Nq]at hj;rw[aK Q1,aK hj];split
  ·exact o.same λb hb=>hoth b (λe=>ng' (by rw[hb,e]))
  rename_i hne;refine((r.own j hj).kept m.kept (r.dj j i hj hi (λe=>hne e.symm))).same λb hb=>hoth b (λe=>r.ng j hj (by rw[hb,e]))
 ·rw[Nq]at hj;rw[aK Q1];split
  ·exact ha'
  exact r.av j hj
 ·rw[Nq]at hj;rw[aK Q1];split
  ·exact ng'
  exact r.ng j hj
 rw[Nq]at hj hk;rw[aK Q1,aK Q1];split
 ·rename_i e1;rw[if_neg Q1];rcases hv' k hk Q1 with e | e
  ·rcases hb2:v'.ownBlock with _ | b
   ·exact .inl rfl
   right;rw[e];simp
  exact .inr λe2=>e e2.symm
 split
 ·rename_i e1 e2;exact hv' j hj Q1
 exact r.dj j k hj hk hne
theorem Rw.rd(r:Rw W h ot e g rv ls){X:View}(hg:X g=h[g]?)(hx : ∀i b,i<ls.length->(nth rv i).ownBlock=QB b->X b=h[b]?)(hb:ls.length<=140737488355328):SlRd X (QD (QB ⟨g,0,QC⟩) ls.length ls.length) ls:=by
 refine⟨QB ⟨g,0,QC⟩,ls.length,rfl,MY _,hb,.inr ⟨_,rfl,rfl,λi hi=>?_⟩⟩;rw[bs rfl];have hlen:=r.len;refine⟨[nth rv i],⟨rv.toArray,ot,(0,0),rfl,by rw[hg];exact r.blk,?_⟩,nth rv i,rfl,?_⟩
 ·rw[ao Q1];simp only[Oj,show Rep.n (List α)=1 from rfl,NN,N2,O9];have hd:rv.drop i=rv[i]::rv.drop (i+1):=NK Q1;show List.take (0+1) (List.drop i rv)=_;rw[hd];rfl
 rw[<-ao hi];exact(r.own i hi).rd (λ_ _ h=>by cases h) (hx i · hi)
theorem Rw.fresh{h0:Heap}(r:Rw W h ot e g rv ls)(h0W:(vw h0).le W)(hb:ls.length<=140737488355328):SlRd (Lft.fresh h0 h) (QD (QB ⟨g,0,QC⟩) ls.length ls.length) ls:=by
 have key : ∀b,W b=QC->h0.size<=b:=by
  intro b hb;rcases M0 b h0.size with hlt | hge
  ·have:=h0W b h0[b] (Nt hlt);rw[hb]at this;cases this
  exact hge
 refine r.rd (by unfold Lft.fresh;rw[if_neg (Qu.2 (key g r.wg))]) (λi b hi hbb=>by unfold Lft.fresh;rw[if_neg (Qu.2 (key b (r.av i hi b hbb)))]) hb
end
def skip(B:Nat)(h:Heap):View:=λb=>if b=B then QC else h[b]?
theorem cj{B:Nat}{h:Heap}:(skip B h).le (vw h):=λb o hb=>by
 unfold skip at hb;split at hb
 ·cases hb
 exact hb
theorem EF{B:Nat}{h:Heap}:skip B h B=none:=by simp[skip]
theorem j8{B b:Nat}{h:Heap}(hb:b≠B):skip B h b=h[b]?:=by unfold skip;rw[if_neg hb]
theorem IV{B:Nat}{h:Heap}(hV:V.le (vw h))(hB:V B=QC):V.le (skip B h):=λb o hb=>by
 have hne:b≠B:=λe=>by rw[e,hB]at hb;cases hb
 rw[j8 hne];exact hV b o hb
structure Bx{α:Type}[Rep α](W:View)(h:Heap)(B:Nat)(T e:TypeId)(v:Value)(l:List α):Prop where
 wle:W.le (vw h)
 wB:W B=QC
 box:h[B]? = QB (.cells #[v] T (0,0))
 av:Av W v
 nv:v.ownBlock≠QB B
 own:OwnT nothing h e v l
theorem Es[Rep α]{h:Heap}{e:TypeId}{v:Value}{l:List α}(o:OwnT W h e v l):v.cells = #[v]/\v.oneCell'=true:=by have:=o.len (K:=nothing);cases v<;>first | exact⟨rfl,rfl⟩ | (simp[Un.ev,vL]at this)
section
variable{α:Type}[Rep α]{W:View}{h h':Heap}{B:Nat}{T e:TypeId}{v:Value}{l:List α}
theorem Bx.lt(b:Bx W h B T e v l):B<h.size:=(M7.1 b.box).1
theorem Bx.move(r:Bx W h B T e v l){W':View}(h1:W'.le (vw h'))(h2 : ∀b,W b=QC->b<h.size->h'[b]? = h[b]?/\W' b=QC):Bx W' h' B T e v l:=
 {wle:=h1,wB:=(h2 B r.wB r.lt).2,box:=(h2 B r.wB r.lt).1.trans r.box,nv:=r.nv
  av:=λb hb=>(h2 b (r.av b hb) (r.own.lt hb)).2
  own:=r.own.same λb hb=>(h2 b (r.av b hb) (r.own.lt hb)).1 }
theorem Bx.ext(r:Bx W h B T e v l)(hle:(vw h).le (vw h')):Bx W h' B T e v l:=
 r.move (Qx r.wle hle) λb hb hlt=>⟨(pX hle).block b hlt Sb,hb⟩
theorem Bx.cell(r:Bx W h B T e v l):aj (vw h) ⟨B,0,QC⟩=QB v:=by simp[aj,vw,r.box]
theorem Bx.start(hW:W.le (vw h))(hB:W B=QC)(hb:h[B]? = QB (.cells #[QD QC 0 0] T (0,0))):Bx (α:=α) W h B T e (QD QC 0 0) []:=
 ⟨hW,hB,hb,Av.nil _ _ _,by simp[Value.ownBlock],OwnT.nil ..⟩
theorem Bx.CI{h1 h2:Heap}{v':Value}{l':List α}(k:Bx W h B T e v l)(o:OwnT nothing h1 e v' l')(m:lk h h1 v v')(hsz:h2.size=h1.size)(hB:h2[B]? = QB (.cells #[v'] T (0,0)))(hoth : ∀j,j≠B->h2[j]? = h1[j]?):Bx W h2 B T e v' l':=by
 obtain⟨hw',ha'⟩:=m.view k.wle k.av;have hlt:=k.lt;have nl':v'.ownBlock≠QB B:=by
  rcases m.at_ with e | e
  ·rw[e];exact k.nv
  rw[e];intro e2;cases e2;omega
 refine⟨λb x hb=>?_,k.wB,hB,ha',nl',o.same λb hb=>hoth b (λe=>nl' (by rw[hb,e]))⟩;have hne:b≠B:=λe=>by rw[e,k.wB]at hb;cases hb
 show h2[b]? = _;rw[hoth b hne];exact hw' b x hb
theorem Bx.append{P:Program}{t ty ty3:TypeId}{bytes:Nat}{z:Value}{x y p q:Operand}{us:List (Nat × Value)}{us3:Value->List (Nat × Value)}{u:Value}{l2:List α}{K:Value->Heap->Prop}(k:Bx W h B T e v l)
  (hT:eG P t e (Rep.n α) bytes z) (hsz:dp P T=QB 1) (hx:asg us x=v) (hy:asg us y=u) (hs:SrcT (vw h) nothing u l2) (hb:(l.length+l2.length)*bytes<=140737488355328) (hb2:l.length+l2.length<=140737488355328)
  (hp : ∀v',asg (us3 v') p = QT B) (hq : ∀v',asg (us3 v') q=v') (hk : ∀v' h',Bx W h' B T e v' (l++l2)->K v' h') :
  @step po P (.call ⟨.builtin .append,#[x,y],#[t,t]⟩) ty us h λv' h2=>@step po2 P (.store T p q) ty3 (us3 v') h2 λ_ h3=>K v' h3:=by
 refine cR hT hx hy k.own hs hb hb2 λv' h2 o2 m2=>?_;have hB2:h2[B]? = QB (.cells #[v] T (0,0)):=by rw[m2.kept.block B k.lt (λe=>k.nv e.symm)];exact k.box
 obtain⟨hcells,hone⟩:=Es o2;refine ey (g:=B) (o:=0) (n:=1) (v:=v') hsz (hp v') (hq v') (by rw[hcells];rfl) (by rw[hcells];simpa using hone) hB2 Sb λh3 hsz3 ⟨row,hrow,he⟩ hoth=>hk v' h3 ?_;have hrow2:row = #[v']:=by rw[<-Array.toList_inj,he,hcells];rfl
 rw[hrow2]at hrow;exact k.CI o2 m2 hsz3 hrow hoth
variable{ty2:TypeId}{us2:Value->List (Nat × Value)}
theorem Bx.push{t ty3:TypeId}{z:Value}{x y2 p q:Operand}{us3:Value->Value->List (Nat × Value)}{u:Value}{d:α}{K:Value->Value->Heap->Prop}(k:Bx W h B T e v l)(hT:eG P t e (Rep.n α) bytes z)(hsz:dp P T=QB 1)(hx:asg us x=u)(hr:Rd nothing u d)(hb:(l.length+1)*bytes<=140737488355328)(hb2:l.length+1<=140737488355328)(hy : ∀u,asg (us2 u) y=v)(hy2 : ∀u,asg (us2 u) y2=u)(hp : ∀u v',asg (us3 u v') p = QT B)(hq : ∀u v',asg (us3 u v') q=v')(hk : ∀u v' h',Bx W h' B T e v' (l++[d])->K u v' h'):
  @step po P (.buildSlice t 1 #[(0,x)]) ty us h λu h2=>@step po2 P (.call ⟨.builtin .append,#[y,y2],#[t,t]⟩) ty2 (us2 u) h2 λv' h3=>@step po3 P (.store T p q) ty3 (us3 u v') h3 λ_ h4=>K u v' h4:=by refine jz hT hx hr λu h2 hs hle _=>?_;exact(k.ext hle).append hT hsz (hy u) (hy2 u) hs hb hb2 (hp u) (hq u) λv' h' b=>hk u v' h' b
theorem Bx.fresh{h0:Heap}(k:Bx W h B T e v l)(h0W:(vw h0).le W):SlRd (Lft.fresh h0 h) v l:=
 k.own.fresh (λ_ _ h=>by cases h) λb hb=>by
  cases hx:vw h0 b with
  | none=>rfl
  | some o=>have:=h0W _ _ hx;rw[k.av b hb]at this;cases this
end
end
section
open Go.MapKept
variable{po:OP}{pp:PP}
structure dI(d:TypeDesc)(h:Heap)(r:Nat)(f:Value->Option Value):Prop where
 ex : ∃es clock,h[r]? = QB (.map es clock)/\(∀x∈es.toList,IsKey d x.key)/\Stamped es clock/\∀k v,IsKey d k->((∃x∈es.toList,x.key=k/\x.val=v)↔f k=QB v)
theorem dI.lt{d:TypeDesc}{h:Heap}{r:Nat}{f:Value->Option Value}(m:dI d h r f):r<h.size:=by obtain⟨es,c,h1,_⟩:=m.ex;exact(M7.1 h1).1
theorem dI.same{d:TypeDesc}{h h':Heap}{r:Nat}{f:Value->Option Value}(m:dI d h r f)(e:h'[r]? = h[r]?):dI d h' r f:=by obtain⟨es,c,h1,h2⟩:=m.ex;exact⟨es,c,by rw[e];exact h1,h2⟩
theorem dI.ext{d:TypeDesc}{h h':Heap}{r:Nat}{f:Value->Option Value}(m:dI d h r f)(hle:(vw h).le (vw h')):dI d h' r f:=by obtain⟨es,c,h1,h2⟩:=m.ex;exact⟨es,c,hle _ _ h1,h2⟩
theorem dI.none{d:TypeDesc}{h:Heap}{r:Nat}(hr:h[r]? = QB (.map #[] 0)):dI d h r λ_=>none:=
 ⟨#[],0,hr,by simp,stamped_empty 0,by simp⟩
section
variable{P:Program}{ty:TypeId}{us:List (Nat × Value)}{h:Heap}{K:Value->Heap->Prop}{d:TypeDesc}{r:Nat}{f:Value->Option Value}{t k e:TypeId}
theorem kE(hk:K (.map (QB h.size)) (h.push (.map #[] 0))):step P (.makeMap t .none) ty us h K:=by refine cH (bN λw hw=>?_);subst hw;refine⟨_,w.alloc (.map #[] 0),?_,jK _ _,hk⟩;simp only[bg,execOp];simp[Instr.makeMap,newObj];rfl
variable{y:Operand}
theorem tK{x:Operand}{u z:Value}(ht:P.underlying t=QB (.map k e))(hd:P.underlying k=QB d)(hz:(P.info? e).map (·.zero)=QB (QB z))(hx:asg us x = .map (QB r))(hy:asg us y=u)(hu:IsKey d u)(m:dI d h r f)(hk:K ((f u).getD z) h):step P (.lookup t x y QG) ty us h K:=by
 obtain⟨es,c,h1,h2,h3,h4⟩:=m.ex;simp only[M5]at hz;obtain⟨i,hi,hz⟩:=hz;refine cH (bN λw hw=>⟨_,w,?_,Same.refl _,by rw[hw];exact hk⟩);have hz':(zeroValue e).run P w = .ok z w:=by simp[zeroValue,typeInfo,hi,hz]
 rw[<-hw]at h1;simp only[bg,execOp,hx,hy];rcases findNow_spec hu es.toList 0 h2 with⟨g1,g2⟩ | ⟨j,x,g1,g2,g3⟩
 ·have hf:f u = .none:=by
   cases hfu:f u with
   | none=>rfl
   | some v=>obtain⟨x,hx,e1,_⟩:=(h4 u v hu).2 hfu;exact absurd e1 (g2 x hx)
  simp[Instr.lookup,run_underlying ht,MapKept.run_getObj_map h1,MapKept.run_checkKey hd hu,MapKept.run_findKey hd g1,Result.andThen,hf,hz']
 have hf:f u=QB x.val:=(h4 u x.val hu).1 ⟨x,Nv g2,g3,rfl⟩;simp[Instr.lookup,run_underlying ht,MapKept.run_getObj_map h1,MapKept.run_checkKey hd hu,MapKept.run_findKey hd g1,Result.andThen,hf]
theorem Ck{w:World}{u v:Value}(ht:P.underlying t=QB (.map k e))(hd:P.underlying k=QB d)(hu:IsKey d u)(m:dI d w.heap r f)(g:Value->Option Value)(hg:g u=QB v)(hg2 : ∀j,j≠u->g j=f j):
  ∃o,(Instr.mapUpdate t (.map (QB r)) u v).run P w = .ok () { w with heap:=w.heap.setIfInBounds r o }/\dI d (w.heap.setIfInBounds r o) r g:=by
 obtain⟨es,c,h1,h2,h3,h4⟩:=m.ex;rcases findNow_spec hu es.toList 0 h2 with⟨g1,g2⟩ | ⟨j,x,g1,g2,g3⟩
 ·refine⟨.map (es.push { key:=u,val:=v,born:=c }) (c+1),?_,_,_,(MapKept.heap_set h1).1,?_,stamped_push h3 g2,?_⟩
  ·simp[Instr.mapUpdate,run_underlying ht,MapKept.run_getObj_map h1,MapKept.run_checkKey hd hu,MapKept.run_findKey hd g1,MapKept.run_setObj_map _ h1,Result.andThen]
  ·intro x hx;simp only[OV,M1,MZ]at hx;rcases hx with hx | rfl
   ·exact h2 x hx
   exact hu
  intro q p hq;constructor
  ·rintro⟨x,hx,e1,e2⟩;simp only[OV,M1,MZ]at hx;rcases hx with hx | rfl
   ·rw[hg2 q (λe=>g2 x hx (e1.trans e))];exact(h4 q p hq).1 ⟨x,hx,e1,e2⟩
   simp only at e1 e2;subst e1;subst e2;exact hg
  intro hp;by_cases e:q=u
  ·subst e;rw[hg]at hp;cases hp;exact⟨{ key:=q,val:=v,born:=c },by simp,rfl,rfl⟩
  rw[hg2 q e]at hp;obtain⟨x,hx,e⟩:=(h4 q p hq).2 hp;exact⟨x,by simp[show x∈es from by simpa using hx],e⟩
 have hj:es[j]? = QB x:=by simpa using g2
 have hmem:x∈es.toList:=Nv g2;have hlt:j<es.size:=(M7.1 hj).1;have hkeyf : ∀e',es[j]? = QB e'->({ e' with key:=u,val:=v }:MapEntry).key=e'.key:=λe' he'=>by rw[hj]at he';cases he';exact g3.symm
 have hst:Stamped (es.modify j (λe'=>{ e' with key:=u,val:=v })) c:=stamped_modify h3 _ _ (λ_ _=>rfl) (λe' _ he'=>hkeyf e' he');have hget : ∀i y,(es.modify j (λe'=>{ e' with key:=u,val:=v }))[i]? = QB y↔(i=j/\y={ x with key:=u,val:=v })\/(i≠j/\es[i]? = QB y):=by
  intro i y;rw[OM];by_cases hij:i=j
  ·subst hij;rw[if_pos rfl,hj];simp[eq_comm]
  rw[if_neg (Ne.symm hij)];simp[hij]
 have huniq : ∀i y,es[i]? = QB y->y.key=u->i=j:=by
  intro i y hy hk;have hnd:=h3.2.2;have e1:(es.toList.map (·.key))[i]? = QB u:=by simp[hy,hk]
  have e2:(es.toList.map (·.key))[j]? = QB u:=by simp[hj,g3]
  have hl1:=(Oq.1 e1);have hl2:=(Oq.1 e2);obtain⟨l1,q1⟩:=hl1;obtain⟨l2,q2⟩:=hl2;exact(PK hnd).1 (q1.trans q2.symm)
 refine⟨.map (es.modify j (λe'=>{ e' with key:=u,val:=v })) c,?_,_,_,(MapKept.heap_set h1).1,?_,hst,?_⟩
 ·simp[Instr.mapUpdate,run_underlying ht,MapKept.run_getObj_map h1,MapKept.run_checkKey hd hu,MapKept.run_findKey hd g1,hj,g3,MapKept.run_keyThatStays hu,MapKept.run_setObj_map _ h1,Result.andThen]
 ·intro y hy;obtain⟨i,hi⟩:=OC hy;have hi:(es.modify j (λe'=>{ e' with key:=u,val:=v }))[i]? = QB y:=by rw[NX]at hi;exact hi
  rcases(hget i y).1 hi with⟨_,rfl⟩ | ⟨_,h5⟩
  ·exact hu
  exact h2 y (Nv (by simpa using h5))
 intro q p hq;constructor
 ·rintro⟨y,hy,e1,e2⟩;obtain⟨i,hi⟩:=OC hy;have hi:(es.modify j (λe'=>{ e' with key:=u,val:=v }))[i]? = QB y:=by rw[NX]at hi;exact hi
  rcases(hget i y).1 hi with⟨_,rfl⟩ | ⟨h6,h5⟩
  ·simp only at e1 e2;subst e1;subst e2;exact hg
  rw[hg2 q (λe=>h6 (huniq i y h5 (e1.trans e)))];exact(h4 q p hq).1 ⟨y,Nv (by simpa using h5),e1,e2⟩
 intro hp;by_cases hqu:q=u
 ·subst hqu;rw[hg]at hp;cases hp;refine⟨{ x with key:=q,val:=v },Nv (i:=j) ?_,rfl,rfl⟩;rw[NX];exact(hget j { x with key:=q,val:=v }).2 (.inl ⟨rfl,rfl⟩)
 rw[hg2 q hqu]at hp;obtain⟨y,hy,e1,e2⟩:=(h4 q p hq).2 hp;obtain⟨i,hi⟩:=OC hy;have hi':es[i]? = QB y:=by simpa using hi
 refine⟨y,Nv (i:=i) ?_,e1,e2⟩;rw[NX];refine(hget i y).2 (.inr ⟨λe=>?_,hi'⟩);subst e;rw[hj]at hi';cases hi';exact hqu (e1.symm.trans g3)
variable{op:Op}
theorem nD{x q:Operand}{u v:Value}(hop:op = .mapUpdate t x y q\/op = .insert t x y q)(ht:P.underlying t=QB (.map k e))(hd:P.underlying k=QB d)(hx:asg us x = .map (QB r))(hy:asg us y=u)(hq:asg us q=v)(hu:IsKey d u)(m:dI d h r f)(g:Value->Option Value)(hg:g u=QB v)(hg2 : ∀j,j≠u->g j=f j)(hk : ∀h':Heap,h'.size=h.size->(∀b,b≠r->h'[b]? = h[b]?)->dI d h' r g->K undef h'):step P op ty us h K:=by refine cH (lX λw hw=>?_);subst hw;obtain⟨o,h1,h2⟩:=Ck (v:=v) ht hd hu m g hg hg2;obtain⟨es,c,h3,_⟩:=m.ex;have hoth:=(MapKept.heap_set (o':=o) h3).2;refine⟨{ w with heap:=w.heap.setIfInBounds r o },?_,Same.mI rfl rfl rfl Sb h3 Sb (λk _ hne=>hoth k hne),hk _ Sb hoth h2⟩;rcases hop with rfl | rfl<;>simp only[bg,execOp,hx,hy,hq]<;>simp[h1]
end
def mapI(f:Int->Option Int):Value->Option Value
 | Qy Qz j=>(f j).map (.int .i64)
 | _=>QC
@[simp] theorem LJ{f:Int->Option Int}{j:Int}:mapI f (Qy Qz j)=(f j).map (.int .i64):=rfl
def mapB(s:Int->Bool):Value->Option Value
 | Qy Qz j=>if s j then QB (.bool QF) else QC
 | _=>QC
@[simp] theorem LA{s:Int->Bool}{j:Int}:mapB s (Qy Qz j)=if s j then QB (.bool QF) else none:=rfl
theorem gu{j:Int}:IsKey (.int .i64) (Qy Qz j):=rfl
@[simp] theorem Lj{s:Bool}:(if s=QF then QB (Value.bool QF) else .none).getD (.bool QG) = .bool s:=by cases s<;>rfl
end
section
variable{po:OP}{pp:PP}
variable{P:Program}{ρ:Env}
theorem ab{x y:LC}{Q:Post}{h:Heap}(hx : ∀z,z=y->LC.wp P x (fN (LC.wp P z Q) Q) ρ h):LC.wp P (.seq x y) Q ρ h:=hx y rfl
def oQ{α:Type}[Rep α](X:View):List Value->List α->Prop
 | [],[]=>True
 | v::vs,d::ds=>Rd X v d/\oQ X vs ds
 | _,_=>False
theorem oQ.len{α:Type}[Rep α]{X:View} : ∀{vs:List Value} {ds:List α},oQ X vs ds->vs.length=ds.length
 | [],[],_=>rfl
 | _::_,_::_,h=>by simp[oQ.len h.2]
theorem oQ.get{α:Type}[Rep α]{X:View} : ∀{vs:List Value} {ds:List α},oQ X vs ds->∀(i:Nat) (h1:i<vs.length) (h2:i<ds.length),Rd X vs[i] ds[i]
 | _::_,_::_,h,0,_,_=>h.1
 | _::_,_::_,h,i+1,h1,h2=>h.2.get i _ _
variable{α:Type}
theorem Rd.KS[Rep α]{X:View}{v:Value}{d:α}(ha:Rep.agg α=QG)(h:Rd X v d):v.cells = #[v]:=by unfold Rd at h;rw[if_neg (by simp[ha])]at h;have hfl:=Rep.flat h v Sb;cases v<;>first | rfl | simp[Value.oneCell']at hfl
theorem AV : ∀(vs:List Value) (k:Nat) (A:Array Value),(∀v∈vs,v.cells = #[v])->k+vs.length=A.size->
  ∃B,Instr.fill (λj=>QB (j*1,1)) A ((vs.zipIdx k).map λp=>(p.2,p.1))=QB B/\B.toList=A.toList.take k++vs
 | [],k,A,_,hk=>⟨A,rfl,by simp at hk;rw[Nd (by simp[hk])];simp⟩
 | v::vs,k,A,hv,hk=>by
  have hc:=hv v (Ng ..);obtain⟨B,h1,h2⟩:=AV vs (k+1) (A.setIfInBounds k v) (λu hu=>hv u (Nf _ hu)) (by simp at hk ⊢;omega);refine⟨B,?_,?_⟩
  ·simp only[PJ,N8,Instr.fill,hc,NN];rw[if_neg (by simp at hk ⊢;omega)];simpa using h1
  rw[h2];have hkA:k<A.toList.length:=by simp at hk ⊢;omega
  rw[Np (by simpa using hkA)];simp[PO]
end
structure Cat(α β:Type) where
 a:α
 b:β
instance {α β:Type}[Rep α][Rep β]:Rep (Cat α β) where
 n:=Rep.n α+Rep.n β
 agg:=true
 rd:=λH cs d=>∃c1 c2,cs=c1++c2/\Rep.rd H c1 d.a/\Rep.rd H c2 d.b
 mono:=λhk ⟨c1,c2,h1,h2,h3⟩=>⟨c1,c2,h1,Rep.mono hk h2,Rep.mono hk h3⟩
 len:=λ⟨c1,c2,h1,h2,h3⟩=>by rw[h1,M3,Rep.len h2,Rep.len h3]
 one:=λh=>by cases h
 flat:=λ⟨c1,c2,h1,h2,h3⟩ u hu=>by
  rw[h1]at hu
  rcases M1.1 hu with hu | hu
  ·exact Rep.flat h2 u hu
  ·exact Rep.flat h3 u hu
 pos:=Nat.add_pos_left Rep.pos _
 dO:=λ⟨c1,c2,h1,h2,h3⟩=>⟨c1,c2,h1,Rep.dO h2,Rep.dO h3⟩
abbrev Rep.via{α γ:Type}[Rep α](f:γ->α):Rep γ where
 n:=Rep.n α
 agg:=Rep.agg α
 rd:=λH cs d=>Rep.rd H cs (f d)
 mono:=λhk h=>Rep.mono hk h
 len:=λh=>Rep.len h
 one:=λh=>Rep.one h
 flat:=λh=>Rep.flat h
 pos:=Rep.pos
 dO:=λh=>Rep.dO h
theorem At.int{H:View}{a:Addr}{d:Int}(h:At H a d):aj H a=QB (Qy Qz d):=by obtain⟨u,h1,h2⟩:=h.load rfl;rw[(dJ.1 h2).1]at h1;exact h1
variable{α:Type}{H:View}
theorem At.list[Rep α]{a:Addr}{l:List α}(h:At H a l): ∃v,aj H a=QB v/\SlRd H v l:=by obtain⟨u,h1,h2⟩:=h.load rfl;exact⟨u,h1,fG.1 h2⟩
theorem At.i32{H:View}{a:Addr}{d:I32}(h:At H a d):aj H a=QB (Qy QA d.v):=by obtain⟨u,h1,h2⟩:=h.load rfl;rw[(oL.1 h2).1]at h1;exact h1
structure InD where
 frm:Int
 val:Int
 deriving Inhabited,DecidableEq
instance:Rep InD:=Rep.via λd=>Cat.mk d.frm d.val
structure PhiD where
 dst:Int
 ins:List InD
 deriving Inhabited,DecidableEq
instance:Rep PhiD:=Rep.via λd=>Cat.mk d.dst d.ins
structure InsD where
 op:Int
 dst:Int
 two:Int
 args:List Int
 imm:I32
 deriving Inhabited,DecidableEq
instance:Rep InsD:=Rep.via λd=>Cat.mk d.op (Cat.mk d.dst (Cat.mk d.two (Cat.mk d.args d.imm)))
structure cK where
 kind:Int
 args:List Int
 to:List Int
 imm:I32
 deriving Inhabited,DecidableEq
instance:Rep cK:=Rep.via λd=>Cat.mk d.kind (Cat.mk d.args (Cat.mk d.to d.imm))
structure BlkD where
 phis:List PhiD
 ins:List InsD
 term:cK
 deriving Inhabited,DecidableEq
instance:Rep BlkD:=Rep.via λd=>Cat.mk d.phis (Cat.mk d.ins d.term)
structure aq where
 params:Int
 blocks:List BlkD
 deriving Inhabited,DecidableEq
instance:Rep aq:=Rep.via λd=>Cat.mk d.params d.blocks
section
open Go.MapKept
variable{po:OP}{pp:PP}
section
variable{P:Program}{ty:TypeId}{us:List (Nat × Value)}{h:Heap}{K:Value->Heap->Prop}
def isIface:TypeDesc->Bool
 | .interface _=>QF
 | _=>QG
theorem Gl{t:TypeId}{d:TypeDesc}{x:Operand}{v:Value}(hd:P.underlying t=QB d)(hn:isIface d=QG)(hx:asg us x=v)(hk:K (.iface t v) h):step P (.makeInterface t x) ty us h K:=by refine cH (bN λw hw=>⟨.iface t v,w,?_,Same.refl _,by rw[hw];exact hk⟩);simp only[bg,execOp,hx];cases d<;>first | (simp[isIface]at hn;done) | (simp[Instr.makeInterface,run_underlying hd];done)
theorem Gz{x:Operand}{t:TypeId}{v:Value}(hx:asg us x = .iface t v)(hk:po.op [{ v:=.iface t v,recovered:=false }] h):step P (.panic x) ty us h K:=by
 refine cH ?_;intro w hw r o a K' Q' hK hQ;have hr:(bg (.panic x) ty us).run P w = .halt (.panic (.iface t v)) w:=by simp only[bg,execOp,hx];simp[Instr.panic,goPanic,Sem.run]
 rw[hr];simp only[Oper.uponIn];exact hQ _ w (by rw[hw];exact hk) (Same.refl _)
theorem EM{T xT:TypeId}{d:TypeDesc}{x:Operand}{v:Value}(hd:P.underlying T=QB d)(hn:isIface d=QG)(hx:asg us x = .iface T v)(hk:K (.tuple #[v,.bool QF]) h):step P (.typeAssert x xT T QF) ty us h K:=by refine cH (bN λw hw=>⟨.tuple #[v,.bool QF],w,?_,Same.refl _,by rw[hw];exact hk⟩);simp only[bg,execOp,hx];cases d<;>first | (simp[isIface]at hn;done) | (simp[Instr.typeAssert,run_underlying hd];done)
variable{r:Nat}{y:Operand}
theorem mc{t k e:TypeId}{d:TypeDesc}{f:Value->Option Value}{x:Operand}{u z:Value}(ht:P.underlying t=QB (.map k e))(hd:P.underlying k=QB d)(hz:(P.info? e).map (·.zero)=QB (QB z))(hx:asg us x = .map (QB r))(hy:asg us y=u)(hu:IsKey d u)(m:dI d h r f)(hk:K (.tuple #[(f u).getD z,.bool (f u).isSome]) h):step P (.lookup t x y QF) ty us h K:=by
 obtain⟨es,c,h1,h2,h3,h4⟩:=m.ex;simp only[M5]at hz;obtain⟨i,hi,hz⟩:=hz;refine cH (bN λw hw=>⟨_,w,?_,Same.refl _,by rw[hw];exact hk⟩);have hz':(zeroValue e).run P w = .ok z w:=by simp[zeroValue,typeInfo,hi,hz]
 rw[<-hw]at h1;simp only[bg,execOp,hx,hy];rcases MapKept.findNow_spec hu es.toList 0 h2 with⟨g1,g2⟩ | ⟨j,x,g1,g2,g3⟩
 ·have hf:f u = .none:=by
   cases hfu:f u with
   | none=>rfl
   | some v=>obtain⟨x,hx,e1,_⟩:=(h4 u v hu).2 hfu;exact absurd e1 (g2 x hx)
  simp[Instr.lookup,run_underlying ht,MapKept.run_getObj_map h1,MapKept.run_checkKey hd hu,MapKept.run_findKey hd g1,Result.andThen,hf,hz']
 have hf:f u=QB x.val:=(h4 u x.val hu).1 ⟨x,Nv g2,g3,rfl⟩;simp[Instr.lookup,run_underlying ht,MapKept.run_getObj_map h1,MapKept.run_checkKey hd hu,MapKept.run_findKey hd g1,Result.andThen,hf]
variable{b:Bool}
theorem BP{T:TypeId}{ms:Array (String × TypeId)}{w:World}{v:Value}(hd:P.underlying T=QB (.interface ms))(hv:v = .nilIface/\b=QF\/∃t u,v = .iface t u/\b=QG):(Op.equal T v .nilIface).run P w = .ok b w:=by
 have key : ∀n,(Op.equalIn (n+1) T v .nilIface).run P w = .ok b w:=λn=>by rcases hv with⟨rfl,rfl⟩ | ⟨t,u,rfl,rfl⟩<;>simp[Op.equalIn,run_underlying hd]
 exact key 9999
theorem Bi{T rt:TypeId}{ms:Array (String × TypeId)}{x:Operand}{v:Value}(hd:P.underlying T=QB (.interface ms))(hx:asg us x=v)(hv:v = .nilIface/\b=QF\/∃t u,v = .iface t u/\b=QG)(hk:K (.bool b) h):
  step P (.binOp .eql T x (.const .nilIface) rt) ty us h K:=by refine cH (bN λw hw=>⟨.bool b,w,?_,Same.refl _,by rw[hw];exact hk⟩);simp only[bg,execOp,hx,xW];have:=BP (w:=w) hd hv;rcases hv with⟨rfl,rfl⟩ | ⟨t,u,rfl,rfl⟩<;>simp[eqGuard,binOp,this]
end
end
def rK(P:Program)(g:FuncId)(args:Array Value)(u:FrameMode)(h:Heap)(S:FrameMode->Heap->Prop):Prop:=
 ∀w:World,w.heap=h->CallsDIn (Fw QC) 0 P g args u w λe u' w'=>e = .returned (.tuple #[])/\S u' w'.heap/\Same w w'
variable{P:Program}{caps:Array Value}
theorem CS{fn:Func}{a:Act}{w:World}{R:Ending->World->Prop}{g:FuncId}{S:FrameMode->Heap->Prop}{u:FrameMode}(hg:isFn P g=QF)(hd:a.defers=[{ target:=.fn (.func g) caps,args:=#[] }])(hu:u≠.run)(hc:rK P g caps u w.heap S)(hS : ∀u' w',S u' w'.heap->Same w w'->settle u' = .returning/\∃v,(results fn a.tmps).run P w' = .ok v w'/\R (.returned v) w'):LeavesIn (Fw QC) 0 P fn a.tmps R a.defers u w:=by
 rw[hd];refine leavesIn_cons (f:=g) (args:=caps) hu (by simp[Fw,Fence.wide]) ?_ (λ_ _=>trivial) ((hc w rfl).mono ?_)
 ·unfold isFn at hg;cases hfn':P.funcs[g]? with
  | none=>simp[hfn']at hg
  | some fn'=>simp only[hfn',M8,bne_iff_ne,ne_eq]at hg;obtain⟨h1,h2⟩:=hg;simp[invoke,callFunc,program,Sem.run,hfn',h1,Option.isNone];cases hb:fn'.body<;>simp[hb]at h2 ⊢
 rintro e u' w' ⟨rfl,h1,h2⟩;obtain⟨h3,v,h4,h5⟩:=hS u' w' h1 h2;show LeavesIn (Fw QC) 0 P fn a.tmps R [] (settle u') w';rw[h3];exact⟨v,h4,h5⟩
def sT(ρ:Env):List Operand->Option (List Value)
 | []=>QB []
 | .tmp t::l=>match look ρ t,sT ρ l with
  | some v,QB vs=>QB (v::vs)
  | _,_=>QC
 | _::_=>QC
theorem wM{ρ:Env}{a:Act}(hs:Sat ρ a) : ∀{l:List Operand} {vs:List Value},sT ρ l=QB vs->l.map a.eval=vs
 | [],vs,h=>by simp[sT]at h;subst h;rfl
 | .tmp t::l,vs,h=>by
  simp only[sT]at h;split at h
  ·rename_i v vs' h1 h2;simp only[MX]at h;subst h;have:=hs t v h1;simp[Act.eval,this,wM hs h2]
  cases h
 | .const _::_,_,h=>by simp[sT]at h
 | .global _::_,_,h=>by simp[sT]at h
 | .func _::_,_,h=>by simp[sT]at h
theorem qF{f:FuncId}{fn:Func}{c0 c1:Code}{id:Nat}{o1 o2:Oper}{g t:Nat}{capops:Array Operand}{tys:Array TypeId}{live0 liveR0 live1 liveR1:List Nat}{L0 L1:LC}{res:List E}{args:List Value}{h:Heap}{R:Value->Heap->Prop}{Mid:Env->Heap->Prop}(hm:P.follows .mixedOrders=QF)(hf:P.funcs[f]? = QB fn)(hb:fn.body=QB (.seq c0 (.seq (.region id #[o1,o2] QG) c1)))(h1:o1.op = .makeFunc (.func g) #[] capops)(h1d:o1.dst=QB t)(h1g:o1.guard=QC)(h2:o2.op = .defer ⟨.value (.tmp t),#[],tys⟩)(h2d:o2.dst=QC)(h2g:o2.guard=QC)(ht:t<fn.ntmps)(hg:isFn P g=QF)(hL0:fy P fn.ntmps live0 liveR0 QG c0=QB L0)(hp0:L0.plain=QF)(hL1:fy P fn.ntmps live1 liveR1 QG c1=QB L1)(hp1:L1.plain=QF)(hres:fn.results.toList.mapM (resE P)=QB res)(hn:args.length<=fn.ntmps)(hw:@LC.wp noPP P L0 (fN Mid λ_ _ _=>False) (ky 0 args) h)(hmid : ∀ρ hh,Mid ρ hh->∃capv,sT ρ capops.toList=QB capv/\∃pp:PP,
   @LC.wp pp P L1 (λe ρ2 h2=>(e = .normal\/e = .ret)/\∃S,rK P g capv.toArray .returning h2 S/\∀u' h3,S u' h3->settle u' = .returning/\∃vs,evs (look ρ2) (vw h3) res=QB vs/\R (pack vs) h3) (bJ ρ [t]) hh/\
   ∀ch ρ2 h2,pp.kp ch h2->pp.fx ρ2->∃S,rK P g capv.toArray (.panicking ch) h2 S/\∀u' h3,S u' h3->settle u' = .returning/\∃vs,evs (look ρ2) (vw h3) res=QB vs/\R (pack vs) h3):
  aw P f args.toArray h R:=by
 intro w hwh;subst hwh;have hsat:Sat (ky 0 args) { tmps:=args.toArray++Array.replicate (fn.ntmps-args.toArray.size) undef,defers:=[] }:=by
  intro t v hl;obtain⟨_,h2⟩:=nV args 0 t v hl;have:t<args.length:=by
   rcases M0 t args.length with h | h
   ·exact h
   simp[NL h]at h2
  simp only[Qj]at h2;simp only[PF,OR,this,if_true,PG];exact h2
 refine(callsIn_wide (n:=0)).1 (callsIn_of_wp_defers hf hb trivial (wpIn_seq (wpIn_mono (dQ (r:=QC) hm c0 hL0 (λ_=>rfl) hw hsat Q8) ?_)));rintro e a1 w1 ⟨ρ1,s1,n1,⟨ms,hds,hms,_⟩,hq,hS1⟩;rw[hms hp0]at hds;have hds:a1.defers=[]:=hds;have hq:=qC hq;cases e with
 | normal=>
  obtain⟨capv,hcap,pp,hwp,hpan⟩:=hmid ρ1 w1.heap hq;have hev:=wM s1 hcap;refine wpIn_seq (wpIn_region_list ?_);have wt1:Region.wanted o1 (yielded #[o1,o2] a1.tmps)=true:=by simp[Region.wanted,h1g]
  have hf1:(execOp a1.eval o1).run P w1 = .ok (.value (.func (.func g) #[] capv.toArray)) w1:=by
   simp only[execOp,h1];have:capops.map a1.eval=capv.toArray:=by rw[<-hev,<-Array.toList_inj];simp
   simp[this,Instr.makeFunc]
  have hput:a1.put o1.dst (.func (.func g) #[] capv.toArray)={ tmps:=a1.tmps.setIfInBounds t (.func (.func g) #[] capv.toArray),defers:=a1.defers }:=by rw[h1d];rfl
  have hget:(a1.tmps.setIfInBounds t (.func (.func g) #[] capv.toArray))[t]? = QB (.func (.func g) #[] capv.toArray):=by rw[Py];simp[n1,ht]
  simp only[wpListIn];rw[if_pos wt1];refine⟨λ_ _=>trivial,?_⟩;rw[Oper.semAt_eq _ _ _ (by intro c e;rw[h1]at e;cases e),hf1];simp only[Oper.uponIn,hput];have wt2:Region.wanted o2 (yielded #[o1,o2] (a1.tmps.setIfInBounds t (.func (.func g) #[] capv.toArray)))=true:=by simp[Region.wanted,h2g]
  rw[if_pos wt2];have hf2:(execOp (Act.eval { tmps:=a1.tmps.setIfInBounds t (.func (.func g) #[] capv.toArray),defers:=a1.defers }) o2).run P w1 = .ok (.defer { target:=.fn (.func g) capv.toArray,args:=#[] }) w1:=by simp only[execOp,h2];simp[resolve,Act.eval,hget,Deferred.ofValue]
  refine⟨λ_ _=>trivial,?_⟩;rw[show Fence.wide.round=QC from rfl,Oper.semAt_none,hf2];simp only[Oper.uponIn,h2d,Act.put,hds];show c1.wpIn (Fw QC) 0 P _ _ _;have s2:Sat (bJ ρ1 [t]) { tmps:=a1.tmps.setIfInBounds t (.func (.func g) #[] capv.toArray),defers:=[{ target:=.fn (.func g) capv.toArray,args:=#[] }] }:=by intro x v hl;obtain⟨e1,e2⟩:=mh _ _ _ _ hl;have hne:t≠x:=λe=>e1 (by simp[e]);simp only[NW hne];exact s1 x v e2
  refine wpIn_mono (dQ (pp:=pp) (r:=QC) (a:={ tmps:=a1.tmps.setIfInBounds t (.func (.func g) #[] capv.toArray),defers:=[{ target:=.fn (.func g) capv.toArray,args:=#[] }] }) hm c1 hL1 (λ_=>rfl) hwp s2 (by simp[n1])) ?_;rintro e a2 w2 ⟨ρ2,s3,n3,⟨ms2,hds2,hms2,_⟩,hq2,hS2⟩;rw[hms2 hp1]at hds2;have hds2:a2.defers=[{ target:=.fn (.func g) capv.toArray,args:=#[] }]:=hds2;have fin : ∀(u:FrameMode),u≠.run->(∃S,rK P g capv.toArray u w2.heap S/\∀u' h3,S u' h3->settle u' = .returning/\∃vs,evs (look ρ2) (vw h3) res=QB vs/\R (pack vs) h3)->
    LeavesIn (Fw QC) 0 P fn a2.tmps (λe w'=>∃v,e = .returned v/\R v w'.heap/\Same w w') a2.defers u w2:=by rintro u hu ⟨S,hc,hS⟩;refine CS hg hds2 hu hc λu' w' hu' hsame=>?_;obtain⟨g1,vs,g2,g3⟩:=hS u' w'.heap hu';exact⟨g1,pack vs,mM hres (qB (λt v h=>s3 t v h) g2),pack vs,rfl,g3,(hS1.trans hS2).trans hsame⟩
  cases e with
  | normal=>exact fin .returning Sb hq2.2
  | ret=>exact fin .returning Sb hq2.2
  | panic ch=>exact fin (.panicking ch) Sb (hpan ch ρ2 w2.heap hq2.2 hq2.1)
  | exit i=>rcases hq2.1 with h | h<;>cases h
  | goto l=>rcases hq2.1 with h | h<;>cases h
  | outgrown=>rcases hq2.1 with h | h<;>cases h
 | _=>exact hq.elim
def kb:FrameMode->Value × FrameMode
 | .panicking ({ v,recovered:=false,goexit:=false }::older)=>(v,.panicking ({ v,recovered:=true }::older))
 | u=>(.nilIface,u)
theorem pF{g:FuncId}{fn:Func}{c1:Code}{id t:Nat}{o:Oper}{tys:Array TypeId}{live liveR:List Nat}{L:LC}{args:List Value}{u:FrameMode}{h:Heap}{S:FrameMode->Heap->Prop}(hm:P.follows .mixedOrders=QF)(hf:P.funcs[g]? = QB fn)(hb:fn.body=QB (.seq (.region id #[o] QG) c1))(ho:o.op = .call ⟨.builtin .recover,#[],tys⟩)(hod:o.dst=QB t)(hog:o.guard=QC)(ht:t<fn.ntmps)(hL:fy P fn.ntmps live liveR QG c1=QB L)(hp:L.plain=QF)(hr:fn.results = #[])(hn:args.length<=fn.ntmps)(hw:@LC.wp noPP P L (λe _ h'=>(e = .normal\/e = .ret)/\S (kb u).2 h') ((t,(kb u).1)::bJ (ky 0 args) [t]) h):rK P g args.toArray u h S:=by
 intro w hwh;subst hwh;refine callsDIn_of_wpSIn hf hb trivial λc₀ cs hu=>?_;apply wpSIn_seq;apply wpSIn_region;have hsat:Sat (ky 0 args) { tmps:=args.toArray++Array.replicate (fn.ntmps-args.toArray.size) undef,defers:=[] }:=by
  intro t v hl;obtain⟨_,h2⟩:=nV args 0 t v hl;have:t<args.length:=by
   rcases M0 t args.length with h | h
   ·exact h
   simp[NL h]at h2
  simp only[Qj]at h2;simp only[PF,OR,this,if_true,PG];exact h2
 have hsz:(args.toArray++Array.replicate (fn.ntmps-args.toArray.size) undef).size=fn.ntmps:=by simp;omega
 have hex : ∀ρ,(execOp ρ o).run P w = .ok .recover w:=λρ=>by simp only[execOp,ho];simp[resolve,invoke,builtin]
 generalize args.toArray++Array.replicate (fn.ntmps-args.toArray.size) undef=tm at hsat hsz;have hwant : ∀tm',Region.wanted o (yielded #[o] tm')=true:=λtm'=>by simp[Region.wanted,hog]
 have key : ∀(v:Value) (c':Frame),(kb u).1=v->c'={ c₀ with mode:=(kb u).2 }->c1.wpSIn (Fw QC) 0 P (bodyPostS P fn c₀ cs λe u' w'=>e = .returned (.tuple #[])/\S u' w'.heap/\Same w w') { tmps:=tm.setIfInBounds t v,defers:=[] } (c'::cs) w:=by
  intro v c' hv hc';have s2:Sat ((t,(kb u).1)::bJ (ky 0 args) [t]) { tmps:=tm.setIfInBounds t v,defers:=[] }:=by
   intro x y hl;simp only[look]at hl;split at hl
   ·rename_i e;subst e;simp only[MX]at hl;rw[<-hl,hv,Py];simp[hsz,ht]
   rename_i e;obtain⟨e1,e2⟩:=mh _ _ _ _ hl;simp only[NW e];exact hsat x y e2
  refine wpSIn_of_wpIn rfl (wpIn_mono (dQ (pp:=noPP) (r:=QC) (a:={ tmps:=tm.setIfInBounds t v,defers:=[] }) hm c1 hL (λ_=>rfl) hw s2 (by simp[hsz])) ?_);rintro e a2 w2 ⟨ρ2,s3,n3,⟨ms2,hds2,hms2,_⟩,hq2,hS2⟩;rw[hms2 hp]at hds2;have hds2:a2.defers=[]:=hds2;have hq2:=qC hq2;have hres:(results fn a2.tmps).run P w2 = .ok (.tuple #[]) w2:=by simp[results,hr]
  have fin:a2.defers=[]/\∃u',c'::cs={ c₀ with mode:=u' }::cs/\∃v,(results fn a2.tmps).run P w2 = .ok v w2/\Ending.returned v = .returned (.tuple #[])/\S u' w2.heap/\Same w w2:=
   ⟨hds2,_,by rw[hc'],_,hres,rfl,hq2.2,hS2⟩;cases e with
  | normal=>exact fin
  | ret=>exact fin
  | panic ch=>rcases hq2.1 with h | h<;>cases h
  | exit i=>rcases hq2.1 with h | h<;>cases h
  | goto l=>rcases hq2.1 with h | h<;>cases h
  | outgrown=>rcases hq2.1 with h | h<;>cases h
 have hr0:List.range (#[o]:Array Oper).size=[0]:=rfl;rw[hr0];simp only[wpOpsSIn];have ho0:(#[o]:Array Oper)[0]? = QB o:=rfl;rw[ho0];simp only[hwant,if_true,hex];refine⟨λ_ _=>trivial,?_⟩;by_cases hcase : ∃v older,u = .panicking ({ v,recovered:=false,goexit:=false }::older)
 ·obtain⟨v,older,rfl⟩:=hcase;have e:recoverD (c₀::cs)=QB (v,{ c₀ with mode:=.panicking ({ v,recovered:=true }::older) }::cs):=by simp only[recoverD,hu]
  rw[e];simp only[hod];exact key v _ rfl rfl
 have e:recoverD (c₀::cs)=none:=by
  simp only[recoverD,hu];split
  ·exact absurd ⟨_,_,rfl⟩ hcase
  rfl
 have er:kb u=(.nilIface,u):=by
  unfold kb;split
  ·exact absurd ⟨_,_,rfl⟩ hcase
  rfl
 rw[e];simp only[hod];exact key .nilIface c₀ (by rw[er]) (by rw[er,<-hu])
section
variable{po po2:OP}{pp:PP}
structure Part(α β:Type)[Rep α][Rep β](o:Nat)(get:α->β)(set:α->β->α):Prop where
 fits:o+Rep.n β<=Rep.n α
 get : ∀{H:View} {cs:List Value} {d:α},Rep.rd H cs d->Rep.rd H ((cs.drop o).take (Rep.n β)) (get d)
 set : ∀{H:View} {cs us:List Value} {d:α} {x:β},Rep.rd H cs d->Rep.rd H us x->Rep.rd H (cs.take o++us++cs.drop (o+Rep.n β)) (set d x)
theorem Part.all[Rep α]:Part α α 0 (λd=>d) (λ_ x=>x) where
 fits:=by simp
 get:=λh=>by rw[Oy,Nd (by rw[Rep.len h];exact MY _)];exact h
 set:=λh k=>by
  have:=Rep.len h
  rw[Po,NT,NI Q1,Oh];exact k
section
variable{α β γ:Type}[Rep α][Rep β][Rep γ]{o:Nat}
theorem Part.fst{g:α->γ}{s:α->γ->α}(p:Part α γ o g s):Part (Cat α β) γ o (λd=>g d.a) (λd x=>⟨s d.a x,d.b⟩) where
 fits:=NB p.fits (Nat.le_add_right _ _)
 get:=by
  rintro H cs d ⟨c1,c2,rfl,h1,h2⟩
  have l1:=Rep.len h1
  have f:=p.fits
  rw[N4 Q1,NO Q8]
  exact p.get h1
 set:=by
  rintro H cs us d x ⟨c1,c2,rfl,h1,h2⟩ k
  have l1:=Rep.len h1
  have f:=p.fits
  refine⟨_,c2,?_,p.set h1 k,h2⟩
  rw[NO Q1,N4 Q1]
  simp[Nk]
theorem Part.snd{g:β->γ}{s:β->γ->β}(p:Part β γ o g s):Part (Cat α β) γ (Rep.n α+o) (λd=>g d.b) (λd x=>⟨d.a,s d.b x⟩) where
 fits:=by
  have:=p.fits
  show Rep.n α+o+Rep.n γ<=Rep.n α+Rep.n β
  omega
 get:=by
  rintro H cs d ⟨c1,c2,rfl,h1,h2⟩
  have l1:=Rep.len h1
  rw[O2,NI Q1,NT,show Rep.n α+o-c1.length=o by omega]
  exact p.get h2
 set:=by
  rintro H cs us d x ⟨c1,c2,rfl,h1,h2⟩ k
  have l1:=Rep.len h1
  refine⟨c1,_,?_,h1,p.set h2 k⟩
  rw[OA,Nd Q1,show Rep.n α+o-c1.length=o by omega,O2,NI Q1,NT,
   show Rep.n α+o+Rep.n γ-c1.length=o+Rep.n γ by omega]
  simp[Nk]
end
theorem Part.via{α β γ:Type}[ra:Rep α][rb:Rep β]{f:γ->α}{o o':Nat}{g:α->β}{s:α->β->α}(p:Part α β o g s){g':γ->β}{s':γ->β->γ}(hg : ∀d,g' d=g (f d))(hs : ∀d x,f (s' d x)=s (f d) x)(ho:o=o':=by rfl):@Part γ β (Rep.via f) rb o' g' s':=by subst ho;exact @Part.mk γ β (Rep.via f) rb o g' s' p.fits (fun{H cs d} h=>by rw[hg];exact p.get h) (fun{H cs us d x} h k=>by have:=p.set (show Rep.rd H cs (f d) from h) k;rw[<-hs]at this;exact this)
variable{β:Type}
theorem At.part[Rep α][Rep β]{o:Nat}{g:α->β}{s:α->β->α}(p:Part α β o g s){a:Addr}{d:α}(h:At H a d):At H (a.add o) (g d):=by obtain⟨cs,h1,h2⟩:=h;have l:=Rep.len h2;exact⟨_,zS h1 o (Rep.n β) (by rw[l];exact p.fits),p.get h2⟩
theorem InD.sn:Part InD Int 0 InD.frm (λd x=>{ d with frm:=x }):=(Part.fst Part.all).via (λ_=>rfl) λ_ _=>rfl
theorem InD.xJ:Part InD Int 1 InD.val (λd x=>{ d with val:=x }):=(Part.snd Part.all).via (λ_=>rfl) λ_ _=>rfl
theorem PhiD.qR:Part PhiD Int 0 PhiD.dst (λd x=>{ d with dst:=x }):=(Part.fst Part.all).via (λ_=>rfl) λ_ _=>rfl
theorem PhiD.pP:Part PhiD (List InD) 1 PhiD.ins (λd x=>{ d with ins:=x }):=(Part.snd Part.all).via (λ_=>rfl) λ_ _=>rfl
theorem InsD.MD:Part InsD Int 0 InsD.op (λd x=>{ d with op:=x }):=(Part.fst Part.all).via (λ_=>rfl) λ_ _=>rfl
theorem InsD.qR:Part InsD Int 1 InsD.dst (λd x=>{ d with dst:=x }):=(Part.snd (Part.fst Part.all)).via (λ_=>rfl) λ_ _=>rfl
theorem InsD.HB:Part InsD Int 2 InsD.two (λd x=>{ d with two:=x }):=(Part.snd (Part.snd (Part.fst Part.all))).via (λ_=>rfl) λ_ _=>rfl
theorem InsD.mV:Part InsD (List Int) 3 InsD.args (λd x=>{ d with args:=x }):=(Part.snd (Part.snd (Part.snd (Part.fst Part.all)))).via (λ_=>rfl) λ_ _=>rfl
theorem InsD.AM:Part InsD I32 4 InsD.imm (λd x=>{ d with imm:=x }):=(Part.snd (Part.snd (Part.snd (Part.snd Part.all)))).via (λ_=>rfl) λ_ _=>rfl
theorem cK.BX:Part cK Int 0 cK.kind (λd x=>{ d with kind:=x }):=(Part.fst Part.all).via (λ_=>rfl) λ_ _=>rfl
theorem cK.mV:Part cK (List Int) 1 cK.args (λd x=>{ d with args:=x }):=(Part.snd (Part.fst Part.all)).via (λ_=>rfl) λ_ _=>rfl
theorem cK.AG:Part cK (List Int) 2 cK.to (λd x=>{ d with to:=x }):=(Part.snd (Part.snd (Part.fst Part.all))).via (λ_=>rfl) λ_ _=>rfl
theorem cK.AM:Part cK I32 3 cK.imm (λd x=>{ d with imm:=x }):=(Part.snd (Part.snd (Part.snd Part.all))).via (λ_=>rfl) λ_ _=>rfl
theorem BlkD.oy:Part BlkD (List PhiD) 0 BlkD.phis (λd x=>{ d with phis:=x }):=(Part.fst Part.all).via (λ_=>rfl) λ_ _=>rfl
theorem BlkD.pP:Part BlkD (List InsD) 1 BlkD.ins (λd x=>{ d with ins:=x }):=(Part.snd (Part.fst Part.all)).via (λ_=>rfl) λ_ _=>rfl
theorem BlkD.mW:Part BlkD cK 2 BlkD.term (λd x=>{ d with term:=x }):=(Part.snd (Part.snd Part.all)).via (λ_=>rfl) λ_ _=>rfl
theorem aq.FA:Part aq Int 0 aq.params (λd x=>{ d with params:=x }):=(Part.fst Part.all).via (λ_=>rfl) λ_ _=>rfl
theorem aq.HK:Part aq (List BlkD) 1 aq.blocks (λd x=>{ d with blocks:=x }):=(Part.snd Part.all).via (λ_=>rfl) λ_ _=>rfl
def Sl{α:Type}[Rep α](H:View)(a:Addr)(v:Value)(l:List α):Prop:=aj H a=QB v/\SlRd H v l
theorem At.sl[Rep α]{a:Addr}{l:List α}(h:At H a l): ∃v,Sl H a v l:=h.list
variable{n:Nat}
theorem Addr.z{b o:Nat}:(⟨b,o,QC⟩:Addr).add n=⟨b,o+n,QC⟩:=bs rfl n
section
variable{α:Type}[Rep α]{P:Program}{ty:TypeId}{us:List (Nat × Value)}{h:Heap}
theorem lj{v:Value}{d:α}(hr:Rd H v d):Rep.rd H v.cells.toList d/\v.cells.size=Rep.n α/\∀c∈v.cells.toList,c.oneCell'=true:=by
 unfold Rd at hr;split at hr
 ·obtain⟨cs,rfl,h⟩:=hr;exact⟨h,by rw[<-Rep.len h];rfl,λc hc=>Rep.flat h c hc⟩
 rename_i ha;have hone:=Rep.one (α:=α) (by simpa using ha);have hfl:=Rep.flat hr v Sb;have:v.cells = #[v]:=by cases v<;>first | rfl | simp[Value.oneCell']at hfl
 rw[this];exact⟨by simpa using hr,by simp[hone],by simpa using hfl⟩
theorem tu{b:Nat}{v:Value}{d:α}{t:TypeId}{fz:Nat × Nat}(hb:H b=QB (.cells v.cells t fz))(hr:Rd H v d):At H ⟨b,0,QC⟩ d:=
 ⟨_,⟨v.cells,t,fz,rfl,hb,by simp;exact Nd Sb⟩,(lj hr).1⟩
variable{ty2:TypeId}{y:Operand}{us2:Value->List (Nat × Value)}{K:Value->Heap->Prop}
theorem Dy{t:TypeId}{z:Value}{x:Operand}{v:Value}{d:α}(hz:(P.info? t).map (·.zero)=QB (QB z))(hzc:z.cells.size=Rep.n α)(hsz:dp P t=QB (Rep.n α))(hv:Rd (vw h) v d)(hx : ∀p,asg (us2 p) x=p)(hy : ∀p,asg (us2 p) y=v)(hk : ∀h':Heap,(vw h).le (vw h')->h'.size=h.size+1->h'[h.size]? = QB (.cells v.cells t (0,0))->At (vw h') ⟨h.size,0,QC⟩ d->K (QT h.size) h'):
  @step po P (.alloc t) ty us h λp h2=>@step po2 P (.store t x y) ty2 (us2 p) h2 λ_ h3=>K p h3:=by
 obtain⟨c1,c2,c3⟩:=lj hv;refine fF hz ?_;refine ey (g:=h.size) (o:=0) (n:=Rep.n α) (v:=v) (cur:=z.cells) (e:=t) hsz (hx _) (hy _) c2 c3 Sb Q1 λh' hs ⟨row,hrow,he⟩ hoth=>?_;have hrow2:row=v.cells:=by rw[<-Array.toList_inj,he];simp only[Po,NT,Oj];rw[NI (by simp[hzc]),Oh]
 rw[hrow2]at hrow;have hle:(vw h).le (vw h'):=λb o hb=>by have hlt:=View.lt (View.le_refl (vw h)) hb;show h'[b]? = _;rw[hoth b Q1];exact bA _ _ b o hb
 exact hk h' hle (by rw[hs];simp) hrow (tu hrow (hv.mono hle))
theorem fH{t:TypeId}{x:Operand}{v:Value}{d:α}(hx:asg us x=v)(hv:Rd (vw h) v d)(hk : ∀h':Heap,h'=h.push (.cells v.cells t)->(vw h).le (vw h')->h'.size=h.size+1->At (vw h') ⟨h.size,0,QC⟩ d->K (QT h.size) h'):step P (.box t x) ty us h K:=
 my hx (hk _ rfl (bA _ _) Sb (tu (t:=t) (fz:=(0,0)) (by simp[vw]) (hv.mono (bA _ _))))
theorem SlRd.whole{K:View}{v:Value}{l:List α}(h:SlRd H v l)(ha:Rep.agg α=QF)(hk:H.le K){i:Nat}(hi:i<l.length): ∃u,Un.ev K (.ax (Rep.n α)) (QE (QB ((slA v).add (i*Rep.n α))))=QB u/\Rd K u l[i]:=
 ((h.at hi).mono hk).ax ha
end
theorem At.rng{a:Addr}{d:Int}(h:At H a d):-9223372036854775808<=d/\d<=9223372036854775807:=by obtain⟨u,h1,h2⟩:=h.load rfl;exact(dJ.1 h2).2
theorem ia[Rep α]:SlRd H (QD QC 0 0) ([]:List α):=⟨QC,0,rfl,by simp,by simp,.inl rfl⟩
variable{ty:TypeId}{bytes:Nat}{us:List (Nat × Value)}{K:Value->Heap->Prop}
theorem mQ[Rep α]{t e:Nat}{z:Value}{ps:Array (Nat × Operand)}{vs:List Value}{ds:List α}{h:Heap}(ha:Rep.agg α=QG)(hT:eG P t e 1 bytes z)(hp:ps.map (λp=>(p.1,asg us p.2))=((vs.zipIdx 0).map λp=>(p.2,p.1)).toArray){X:View}(hr:oQ X vs ds)(hX:X.le (vw h))(hn:ds.length=n)(hb:n<=16777216)(hk : ∀u h',(vw h).le (vw h')->h'.size=h.size+1->(∀Y:View,X.le Y->Y h.size=h'[h.size]?->SlRd Y u ds)->u.ownBlock=QB h.size->K u h'):step P (.buildSlice t n ps) ty us h K:=by
 have hl:=hr.len;obtain⟨B,h1,h2⟩:=AV vs 0 ((Array.range (n*1)).map (z.cells[· % z.cells.size]!)) (λv hv=>by obtain⟨i,hi,rfl⟩:=Ni hv;exact(hr.get i hi Q1).KS ha) Q8;have hB:B=vs.toArray:=by rw[<-Array.toList_inj,h2];simp
 refine uZ hT Q1 hp h1 ?_;have hle:=bA h (.cells B e);have hone:=Rep.one (α:=α) ha;refine hk _ _ hle Sb (λY hY hYb=>⟨QB ⟨h.size,0,QC⟩,n,by rw[hn],by omega,by omega,.inr ⟨_,rfl,rfl,λi hi=>?_⟩⟩) rfl;rw[bs rfl,hone];refine⟨[vs[i]],⟨B,e,(0,0),rfl,by rw[hYb];simp,?_⟩,?_⟩
 ·rw[hB];have hd:vs.drop i=vs[i]::vs.drop (i+1):=NK Q1;simp only[Oj,NN,N2,O9];show List.take (0+1) (List.drop i vs)=_;rw[hd];rfl
 have:=(hr.get i Q1 hi).mono hY;unfold Rd at this;rw[if_neg (by simp[ha])]at this;exact this
def mapE{β:Type}(enc:β->Value)(f:Int->Option β):Value->Option Value
 | Qy Qz j=>(f j).map enc
 | _=>QC
@[simp] theorem ly{enc:β->Value}{f:Int->Option β}{j:Int}:mapE enc f (Qy Qz j)=(f j).map enc:=rfl
def putM{β:Type}(f:Int->Option β)(j:Int)(v:β):Int->Option β:=λi=>if i=j then QB v else f i
theorem mH{enc:β->Value}{f:Int->Option β}{j:Int}{v:β}:mapE enc (putM f j v) (Qy Qz j)=QB (enc v)/\∀u,u≠Qy Qz j->mapE enc (putM f j v) u=mapE enc f u:=by
 refine⟨by simp[putM],λu hu=>?_⟩;cases u<;>try rfl
 rename_i k i;cases k<;>try rfl
 have:i≠j:=λe=>hu (by rw[e]);simp[putM,this]
theorem pZ{enc:β->Value}:mapE enc (λ_=>.none)=λ_=>.none:=by
 funext u;cases u<;>try rfl
 rename_i k i;cases k<;>rfl
theorem Kept.skip{h h':Heap}{r:Nat}(k:Kept h h' (QB r)):(skip r h).le (Lft.skip r h'):=λb o hb=>by
 unfold Lft.skip at hb ⊢;split at hb
 ·cases hb
 rename_i hne;rw[if_neg hne];have hlt:=(M7.1 hb).1;rw[k.block b hlt (by simpa using hne)];exact hb
variable{h':Heap}{r:Nat}
theorem Kept.CW{h:Heap}(k:Kept h h' (QB r)):(Lft.skip r h).le (vw h'):=Qx k.skip cj
theorem Kept.of_le{h:Heap}{b:Option Nat}(hle:(vw h).le (vw h')):Kept h h' b:=⟨iB hle,λk hk _=>by have:=hle k h[k] (Nt hk);rw[Nt hk];exact this⟩
theorem Kept.upd{h:Heap}(hs:h'.size=h.size)(ho : ∀b,b≠r->h'[b]? = h[b]?):Kept h h' (QB r):=⟨by omega,λk _ hk=>ho k (by simpa using hk)⟩
variable{ty2:TypeId}{y:Operand}{us2:Value->List (Nat × Value)}
theorem j6{h:Heap}{t:TypeId}{z:Value}{x:Operand}{v:Value}(hz:(P.info? t).map (·.zero)=QB (QB z))(hzc:z.cells.size=n)(hsz:dp P t=QB n)(hv:v.cells.size=n)(hone : ∀c∈v.cells.toList,c.oneCell'=QF)(hx : ∀p,asg (us2 p) x=p)(hy : ∀p,asg (us2 p) y=v)(hk : ∀h':Heap,(vw h).le (vw h')->h'.size=h.size+1->h'[h.size]? = QB (.cells v.cells t (0,0))->K (QT h.size) h'):
  @step po P (.alloc t) ty us h λp h2=>@step po2 P (.store t x y) ty2 (us2 p) h2 λ_ h3=>K p h3:=by
 refine fF hz ?_;refine ey (g:=h.size) (o:=0) (n:=n) (v:=v) (cur:=z.cells) (e:=t) hsz (hx _) (hy _) hv hone Sb Q1 λh' hs ⟨row,hrow,he⟩ hoth=>?_;have hrow2:row=v.cells:=by rw[<-Array.toList_inj,he];simp only[Po,NT,Oj];rw[NI (by simp[hzc]),Oh]
 rw[hrow2]at hrow;have hle:(vw h).le (vw h'):=λb o hb=>by have hlt:=View.lt (View.le_refl (vw h)) hb;show h'[b]? = _;rw[hoth b Q1];exact bA _ _ b o hb
 exact hk h' hle (by rw[hs];simp) hrow
section
variable{σ α ε:Type}{f:σ->α->Except ε σ}{s s':σ}{l:List α}{k:Nat}{t:ε}
theorem BR[Inhabited α](h:k<l.length)(hs:(l.take k).foldlM f s = .ok s'):(l.take (k+1)).foldlM f s=f s' (nth l k):=by rw[Np h,PX,hs,ao h];show List.foldlM f s' [l[k]]=f s' l[k];rw[Ol];cases f s' l[k]<;>rfl
theorem ED(h:(l.take k).foldlM f s = .error t):l.foldlM f s = .error t:=by
 have e:l.foldlM f s=(l.take k++l.drop k).foldlM f s:=by rw[Pj]
 rw[e,PX,h];rfl
end
def upE{σ ε:Type}(f:Nat->σ->Except ε σ):Nat->σ->Except ε σ
 | 0,s=>.ok s
 | k+1,s=>match upE f k s with
  | .ok s'=>f k s'
  | .error t=>.error t
theorem nE{σ ε:Type}{f:Nat->σ->Except ε σ}{k:Nat}{s s':σ}(h:upE f k s = .ok s'):upE f (k+1) s=f k s':=by simp only[upE,h]
theorem zJ{σ ε:Type}{f:Nat->σ->Except ε σ}{s:σ}{t:ε} : ∀{n k:Nat},k<=n->upE f k s = .error t->upE f n s = .error t
 | 0,k,hk,h=>by
  have:k=0:=by omega
  subst this;exact h
 | n+1,k,hk,h=>by
  rcases M0 n k with hlt | hge
  ·have:k=n+1:=by omega
   subst this;exact h
  simp only[upE,zJ hge h]
theorem yT{σ ε:Type}{f:Nat->σ->Except ε σ}{k:Nat}{s s':σ}{t:ε}(h:upE f k s = .ok s')(hk:k<n)(he:f k s' = .error t):upE f n s = .error t:=
 zJ (k:=k+1) hk (by rw[nE h,he])
theorem eP[Rep α]{h:Heap}{t:TypeId}{z:Value}{x:Operand}{v:Value}{d:α}{X:View}(hz:(P.info? t).map (·.zero)=QB (QB z))(hzc:z.cells.size=Rep.n α)(hsz:dp P t=QB (Rep.n α))(hv:Rd X v d)(hx : ∀p,asg (us2 p) x=p)(hy : ∀p,asg (us2 p) y=v)(hk : ∀h':Heap,(vw h).le (vw h')->h'.size=h.size+1->(∀Y:View,X.le Y->Y h.size=h'[h.size]?->At Y ⟨h.size,0,QC⟩ d)->K (QT h.size) h'):
  @step po P (.alloc t) ty us h λp h2=>@step po2 P (.store t x y) ty2 (us2 p) h2 λ_ h3=>K p h3:=by obtain⟨c1,c2,c3⟩:=lj hv;exact j6 hz hzc hsz c2 c3 hx hy λh' hle hs hb=>hk h' hle hs λY hY hYb=>tu (by rw[hYb];exact hb) (hv.mono hY)
theorem nZ{B:Nat}{d:BlkD}(h:At H ⟨B,0,QC⟩ d): ∃vp vi va vt,Sl H ⟨B,0,QC⟩ vp d.phis/\Sl H ⟨B,1,QC⟩ vi d.ins/\aj H ⟨B,2,QC⟩=QB (Qy Qz d.term.kind)/\Sl H ⟨B,3,QC⟩ va d.term.args/\Sl H ⟨B,4,QC⟩ vt d.term.to:=by obtain⟨vp,h1⟩:=(h.part BlkD.oy).sl;obtain⟨vi,h2⟩:=(h.part BlkD.pP).sl;have ht:=h.part BlkD.mW;obtain⟨va,h4⟩:=(ht.part cK.mV).sl;obtain⟨vt,h5⟩:=(ht.part cK.AG).sl;exact⟨vp,vi,va,vt,by simpa using h1,by simpa using h2,by simpa using(ht.part cK.BX).int,by simpa using h4,by simpa using h5⟩
theorem y0{B:Nat}{d:PhiD}(h:At H ⟨B,0,QC⟩ d):aj H ⟨B,0,QC⟩=QB (Qy Qz d.dst)/\∃v,Sl H ⟨B,1,QC⟩ v d.ins:=by obtain⟨v,hv⟩:=(h.part PhiD.pP).sl;exact⟨by simpa using(h.part PhiD.qR).int,v,by simpa using hv⟩
theorem rX{B:Nat}{d:InsD}(h:At H ⟨B,0,QC⟩ d):aj H ⟨B,0,QC⟩=QB (Qy Qz d.op)/\aj H ⟨B,1,QC⟩=QB (Qy Qz d.dst)/\aj H ⟨B,2,QC⟩=QB (Qy Qz d.two)/\∃v,Sl H ⟨B,3,QC⟩ v d.args:=by obtain⟨v,hv⟩:=(h.part InsD.mV).sl;exact⟨by simpa using(h.part InsD.MD).int,by simpa using(h.part InsD.qR).int,by simpa using(h.part InsD.HB).int,v,by simpa using hv⟩
theorem jX{B:Nat}{d:aq}(h:At H ⟨B,0,QC⟩ d):aj H ⟨B,0,QC⟩=QB (Qy Qz d.params)/\∃v,Sl H ⟨B,1,QC⟩ v d.blocks:=by obtain⟨v,hv⟩:=(h.part aq.HK).sl;exact⟨by simpa using(h.part aq.FA).int,v,by simpa using hv⟩
theorem GL{B:Nat}{d:InD}(h:At H ⟨B,0,QC⟩ d):aj H ⟨B,0,QC⟩=QB (Qy Qz d.frm)/\aj H ⟨B,1,QC⟩=QB (Qy Qz d.val):=
 ⟨by simpa using(h.part InD.sn).int,by simpa using(h.part InD.xJ).int⟩
theorem SlRd.wh[Rep α][Inhabited α]{v:Value}{l:List α}(h:SlRd H v l)(ha:Rep.agg α=QF){N:Nat}(hn:Rep.n α=N){i:Nat}(hi:i<l.length): ∃u,(∀K:View,H.le K->Un.ev K (.ax N) (QE (QB ((slA v).add (i*N))))=QB u)/\Rd H u (nth l i):=by subst hn;obtain⟨u,h1,h2⟩:=h.whole ha (View.le_refl H) hi;refine⟨u,λK hk=>?_,by rw[ao hi];exact h2⟩;have:=dF (ρ:=λ_=>QC) (e:=.un (.ax (Rep.n α)) (.con (QE (QB ((slA v).add (i*Rep.n α)))))) hk (v:=u) (by simpa using h1);simpa using this
instance:Inhabited BlkD:=⟨⟨[],[],⟨0,[],[],⟨0⟩⟩⟩⟩
variable{ops:List Operand}
theorem tY{h:Heap}{f:FuncId}{t:Nat}{T:Array TypeId}(hf:asg us (.tmp t) = .func (.func f) #[] caps){R:Value->Heap->Prop}{Rp:List PanicEntry->Heap->Prop}(hfn:isFn P f=QF)(hc:jr P f (ops.map (asg us)++caps.toList).toArray h R Rp)(hk : ∀v h',R v h'->K v h')(hp : ∀ch h',Rp ch h'->po.op ch h'):@step po P (.call ⟨.value (.tmp t),ops.toArray,T⟩) ty us h K:=by
 refine cH (po:=po) (uh (po:=po) (R:=R) (f:=f) (args:=(ops.map (asg us)++caps.toList).toArray) (λw _=>?_) hc hk hp);unfold isFn at hfn;cases hfn':P.funcs[f]? with
 | none=>simp[hfn']at hfn
 | some fn=>simp only[hfn',M8,bne_iff_ne,ne_eq]at hfn;obtain⟨h1,h2⟩:=hfn;simp[bg,execOp,resolve,Deferred.ofValue,hf,invoke,callFunc,program,Sem.run,hfn',h1,Option.isNone];cases hb:fn.body<;>simp[hb]at h2 ⊢
variable{b:Bool}
@[simp] theorem Lq{v:Value}:gdv b undef v=undef:=rfl
@[simp] theorem K9{o:Option Value}:gdO b undef o=QB undef:=rfl
end
end Go.Lft
namespace Go.Lft
theorem follows:Tryz.prog.follows .mixedOrders=true:=by kernel_rfl
abbrev T.int:Nat:=3
abbrev T.bool:Nat:=4
abbrev T.int32:Nat:=21
abbrev T.bn:Nat:=22
abbrev T.jQ:Nat:=24
abbrev T.a7:Nat:=26
abbrev T.gz:Nat:=29
abbrev T.cg:Nat:=31
abbrev T.mP:Nat:=34
abbrev T.oV:Nat:=36
abbrev T.nj:Nat:=38
abbrev T.ke:Nat:=45
abbrev T.lQ:Nat:=46
abbrev T.ni:Nat:=47
abbrev T.a8:Nat:=49
abbrev T.jB:Nat:=50
abbrev T.dY:Nat:=52
abbrev T.dK:Nat:=54
abbrev T.qO:Nat:=55
abbrev T.aT:Nat:=57
abbrev T.dd:Nat:=59
abbrev T.oe:Nat:=63
abbrev T.vc:Nat:=64
abbrev T.dT:Nat:=68
abbrev T.A6:Nat:=69
abbrev T.Bh:Nat:=72
abbrev T.oK:Nat:=75
abbrev T.ja:Nat:=77
abbrev T.kV:Nat:=84
abbrev T.j0:Nat:=88
abbrev T.ou:Nat:=89
abbrev T.kK:Nat:=97
abbrev T.II:Nat:=99
abbrev T.Kl:Nat:=102
abbrev T.iE:Nat:=103
abbrev T.fh:Nat:=106
abbrev T.gh:Nat:=121
abbrev T.mE:Nat:=124
abbrev T.fS:Nat:=125
abbrev T.jj:Nat:=127
abbrev T.pb:Nat:=145
abbrev T.dz:Nat:=150
abbrev T.dS:Nat:=152
abbrev T.Ah:Nat:=157
theorem U.int:Tryz.prog.underlying T.int=QB (.int .i64):=by kernel_rfl
theorem U.bn:Tryz.prog.underlying T.bn=QB (.slice T.int):=by kernel_rfl
theorem El.bn:eG QH T.bn T.int 1 8 (Qy Qz 0):=iC Q0 Q0 rfl Q2
theorem El.jQ:eG QH T.jQ T.a8 6 112 (.agg #[(QD QC 0 0),(QD QC 0 0),(Qy Qz 0),(QD QC 0 0),(QD QC 0 0),(Qy QA 0)]):=iC Q0 Q0 rfl Q2
theorem U.gz:Tryz.prog.underlying T.gz=QB (.slice T.int32):=by kernel_rfl
theorem El.gz:eG QH T.gz T.int32 1 4 (Qy QA 0):=iC Q0 Q0 rfl Q2
theorem El.mP:eG QH T.mP T.kK 2 32 (.agg #[(Qy QA 0),(QD QC 0 0)]):=iC Q0 Q0 rfl Q2
theorem El.lQ:eG QH T.lQ T.dY 2 32 (.agg #[(Qy Qz 0),(QD QC 0 0)]):=iC Q0 Q0 rfl Q2
theorem El.ni:eG QH T.ni T.dT 5 56 (.agg #[(Qy Qz 0),(Qy Qz 0),(Qy Qz 0),(QD QC 0 0),(Qy QA 0)]):=iC Q0 Q0 rfl Q2
theorem U.jB:Tryz.prog.underlying T.jB=QB (.slice T.dK):=by kernel_rfl
theorem El.jB:eG QH T.jB T.dK 2 16 (.agg #[(Qy Qz 0),(Qy Qz 0)]):=iC Q0 Q0 rfl Q2
theorem El.dd:eG QH T.dd T.bn 1 24 (QD QC 0 0):=iC Q0 Q0 rfl Q2
theorem El.oe:eG QH T.oe T.bool 1 1 (.bool QG):=iC Q0 Q0 rfl Q2
theorem El.vc:eG QH T.vc T.oe 1 24 (QD QC 0 0):=iC Q0 Q0 rfl Q2
theorem El.kV:eG QH T.kV T.ou 2 16 (.agg #[(Qy Qz 0),(Qy Qz 0)]):=iC Q0 Q0 rfl Q2
theorem U.j0:Tryz.prog.underlying T.j0=QB (.map T.ou T.int):=by kernel_rfl
theorem U.ou:Tryz.prog.underlying T.ou=QB (.array 2 T.int):=by kernel_rfl
theorem El.iE:eG QH T.iE T.fh 4 64 (.agg #[(Qy Qz 0),(Qy Qz 0),(QD QC 0 0),(QD QC 0 0)]):=iC Q0 Q0 rfl Q2
theorem U.fS:Tryz.prog.underlying T.fS=QB (.map T.int T.Ah):=by kernel_rfl
theorem U.dS:Tryz.prog.underlying T.dS=QB (.map T.int T.dz):=by kernel_rfl
open Go.ChangeShapes Go.WideShapes Go.RowKit
structure RT(P:Program)(t:TypeId)(α:Type)[Rep α]:Prop where
 cells : ∀{H:Type} {enc:TypeId × Value->H} {W:World} {spare:Nat->Bool} {held:Bool} {fuel:Nat} {cs:List Value} {d:DataW H} {ps:List MemPlace},
  DataW.trod enc P W 0 spare held fuel t cs=QB (d,ps)->(∀b∈d.weights P t,b<=reachBytes)->∃x:α,Rep.rd (vw W.heap) cs x
 val : ∀{W:World} {r:Reach} {base:Nat} {v:Value},Value.okWide P W r base t v->if Rep.agg α then ∃cs,v = .agg cs else v.cells = #[v]
theorem RT.arg{P:Program}{t:TypeId}{α:Type}[Rep α](rt:RT P t α){H:Type}{enc:TypeId × Value->H}{W:World}{spare:Nat->Bool}{held:Bool}{v:Value}{d:DataW H}{ps:List MemPlace}{r:Reach}{base:Nat}(h:DataW.Trod enc P W 0 spare held t v d ps)(hok:Value.okWide P W r base t v)(hw : ∀b∈d.weights P t,b<=reachBytes): ∃x:α,Rd (vw W.heap) v x:=by
 obtain⟨fuel,h⟩:=h;obtain⟨x,hx⟩:=rt.cells h hw;have hv:=rt.val hok;refine⟨x,?_⟩;unfold Rd;split
 ·rename_i ha;rw[if_pos ha]at hv;obtain⟨cs,rfl⟩:=hv;exact⟨cs,rfl,hx⟩
 rename_i ha;rw[if_neg ha]at hv;rw[hv]at hx;exact hx
theorem wf_i64{n:Int}(h:(Lit.int .i64 n).wf=QF):-9223372036854775808<=n/\n<=9223372036854775807:=by simp only[Lit.wf,M8,decide_eq_true_eq]at h;simpa[IntKind.min,IntKind.max,IntKind.signed,IntKind.bits]using h
section
variable{P:Program}{t e:TypeId}{H:Type}{enc:TypeId × Value->H}{W:World}{spare:Nat->Bool}{held:Bool}{fuel:Nat}{cs:List Value}{x:DataW H × List MemPlace}
theorem trod_int{k:IntKind}(ht:P.underlying t=QB (.int k))(h:DataW.trod enc P W 0 spare held fuel t cs=QB x): ∃n,cs=[.int k n]/\(Lit.int k n).wf=true:=by
 cases fuel with
 | zero=>simp[DataW.trod]at h
 | succ n=>unfold DataW.trod at h;rw[ht]at h;split at h<;>simp_all
end
section
variable{P:Program}{t e:TypeId}
theorem Kz(ht:P.underlying t=QB (.int .i64)):RT P t Int where
 cells:=fun{H enc W spare held fuel cs d ps} h _=>by
  obtain⟨n,rfl,hw⟩:=trod_int ht h
  exact⟨n,rfl,wf_i64 hw⟩
 val:=fun{W r base v} h=>by
  simp only[Value.okWide,ht,Cell.okWide]at h
  cases v<;>simp[Cell.ok,ht]at h ⊢<;>first | rfl | simp[Rep.agg,Value.cells]
theorem Ev{W:World}{a:Addr}{v:Value}(h:W.cell? a=QB v):a.spot=QC/\∃c T fz,W.heap[a.block]? = QB (.cells c T fz)/\c[a.off]? = QB v:=by
 unfold World.cell? at h;split at h
 ·rename_i c T fz hb;split at h
  ·cases h
  rename_i hs;exact⟨by simpa using hs,c,T,fz,hb,h⟩
 cases h
theorem xh{W:World}{a:Addr}{n:Nat}{c:List Value}(hn:0<n)(h:W.cells? 0 a n=QB c):a.spot=QC/\fO (vw W.heap) a c:=by
 obtain⟨_,hl,hc⟩:=World.cells?_some h;have h0:=hc 0 hn;have e0:a.add 0=a:=by simp[Addr.add]
 rw[e0,N9 Q1]at h0;obtain⟨hs,arr,T,fz,hb,_⟩:=Ev h0;refine⟨hs,arr,T,fz,hs,hb,PC λi=>?_⟩;by_cases hi:i<n
 ·have h1:=hc i hi;rw[bs hs]at h1;simp only[World.cell?,hb]at h1;rw[Ox,if_pos Q1,O6];simpa using h1
 rw[NL Q8,NL Q1]
theorem uC{H:Type}{P:Program}{e:TypeId} : ∀{l:List (DataW H)} {d:DataW H},d∈l->∀b∈d.weights P e,b∈DataW.weightsAll P e l
 | x::l,d,hd,b,hb=>by
  rw[DataW.weightsAll,M1];rcases Nu.1 hd with rfl | hd
  ·exact .inl hb
  exact .inr (uC hd b hb)
theorem HM{α:Type}[Rep α](ht:P.underlying t=QB (.slice e))(hc:P.cellsOf e=Rep.n α)(hby:1<=P.bytesOf e)(re:RT P e α):RT P t (List α) where
 cells:=fun{H enc W spare held fuel cs d ps} h hw=>by
  rcases DataW.trod_slice ht h with⟨rfl,_⟩ | ⟨a,len,cap,elems,rest,n,_,rfl,hx,_,hlc,hcm,hel,hget,_,_⟩
  ·exact⟨[],_,rfl,QC,0,rfl,by simp,by simp,.inl rfl⟩
  ·simp only[Og]at hx
   obtain⟨rfl,_⟩:=hx
   have hwt : ∀b∈(DataW.slice (elems.map (·.1)) (rest.map (·.1))).weights P t,b<=reachBytes:=hw
   unfold DataW.weights at hwt
   rw[ht]at hwt
   simp only[Nu,M1,Nr]at hwt
   have hlen:len<=140737488351232:=by
    have h1:=hwt _ (.inl rfl)
    have h2:elems.length*1<=(elems.length+rest.length)*P.bytesOf e:=OD Q1 hby
    have h3:reachBytes=140737488351232:=rfl
    omega
   have hpos:=Rep.pos (α:=α)
   have each : ∀i,i<len->∃x:α,∃c,W.cells? 0 (a.add (i*Rep.n α)) (Rep.n α)=QB c/\Rep.rd (vw W.heap) c x:=by
    intro i hi
    have h1:=hget i hi
    rw[hc,N9 Q1,Nh]at h1
    obtain⟨c,hc1,hc2⟩:=h1
    obtain⟨x,hx⟩:=re.cells (d:=elems[i].1) (ps:=elems[i].2) hc2 λb hb=>hwt b (.inr (.inl (uC (ND.2 ⟨_,Oi Q1,rfl⟩) b hb)))
    exact⟨x,c,hc1,hx⟩
   have key : ∀k,k<=len->∃l:List α,l.length=k/\∀(i:Nat) (hi:i<l.length),∃c,W.cells? 0 (a.add (i*Rep.n α)) (Rep.n α)=QB c/\Rep.rd (vw W.heap) c l[i]:=by
    intro k
    induction k with
    | zero=>exact λ_=>⟨[],rfl,λi hi=>by simp at hi⟩
    | succ k ih=>
     intro hk
     obtain⟨l,h1,h2⟩:=ih Q1
     obtain⟨x,c,h3,h4⟩:=each k Q1
     refine⟨l++[x],by simp[h1],λi hi=>?_⟩
     rcases M0 i l.length with hlt | hge
     ·rw[Oa hlt];exact h2 i hlt
     ·have:i=k:=by simp at hi;omega
      subst this
      rw[N5 hge]
      simp only[h1,PQ,OK]
      exact⟨c,h3,h4⟩
   obtain⟨l,h1,h2⟩:=key len (MY _)
   refine⟨l,_,rfl,QB a,cap,by rw[h1],by omega,by omega,?_⟩
   rcases Oe len with h0 | h0
   ·left;exact Nl Q1
   ·right
    obtain⟨c,h3,_⟩:=h2 0 Q1
    have e0:a.add (0*Rep.n α)=a:=by simp[Addr.add]
    rw[e0]at h3
    refine⟨a,rfl,(xh hpos h3).1,λi hi=>?_⟩
    obtain⟨c,h3,h4⟩:=h2 i hi
    exact⟨c,(xh hpos h3).2,h4⟩
 val:=fun{W r base v} h=>by
  simp only[Value.okWide,ht,Cell.okWide]at h
  cases v<;>simp[Cell.ok,ht]at h ⊢<;>first | rfl | simp[Rep.agg,Value.cells]
end
theorem FQ{w w':World}(hs:Same w w')(hle:(vw w.heap).le (vw w'.heap)):Below w.heap.size w w':=
 ⟨hs.os,hs.tape,hs.output,hs.size,λk hk=>by have:=hle k w.heap[k] (Nt hk);rw[Nt hk];exact this⟩
theorem qX{H:Type}{enc:TypeId × Value->H}{P:Program}{W W':World}(hl:laidOutB P=QF)(hb:Below W.heap.size W W') : ∀{ts:List TypeId} {vs:List Value} {ds:List (DataW H)} {ps:List MemPlace},
  (∀t∈ts,P.readableRec t=QF/\t<P.types.size)->DataW.TrodAll enc P W 0 (λ_=>QF) QF ts vs ds ps->(∀x∈ps,x.block<W.heap.size)->DataW.TrodAll enc P W' 0 (λb=>decide (b<W.heap.size)) QF ts vs ds ps
 | [],vs,ds,ps,_,h,_=>by obtain⟨rfl,rfl,rfl⟩:=trodAll_nil h;rfl
 | t::ts,vs,ds,ps,hr,h,hlt=>by obtain⟨v,vs',d,ds',p,q,rfl,rfl,rfl,h1,h2⟩:=trodAll_cons h;obtain⟨g1,g2⟩:=hr t (Ng ..);exact⟨p,q,Below.trod hl g1 g2 h1 hb λx hx=>hlt x (NC _ hx),qX hl hb (λt ht=>hr t (Nf _ ht)) h2 λx hx=>hlt x (NG _ hx),rfl⟩
theorem FO{H:Type}{enc:TypeId × Value->H}{P:Program}{fn:Func}{s:ChangeSpec}{W W':World}{args:Array Value}{ds gs:List (DataW H)}{before:List MemPlace}{fresh:Bool}{tb:TypeId}(hl:laidOutB P=QF)(hr : ∀t∈fn.params.toList,P.readableRec t=QF/\t<P.types.size)(hW:DataW.Whole enc P fn.params.toList s.vars QG W args.toList ds gs before)(hv:s.vars=[])(hs:s.fn H (ds++gs)={ results:=[.lit (.bool QF)],args:=ds })(hres:fn.resultTypes = #[tb])(htb:P.underlying tb=QB .bool)(hb:Below W.heap.size W W'):s.post enc P fn QG fresh QG QG W args (.bool QF) W':=by
 have hW0:=hW;obtain⟨p,q,hA,hV,rfl,_,_⟩:=hW;rw[hv]at hV;obtain⟨rfl,rfl⟩:=trodVars_none hV;have hlt : ∀x∈p,x.block<W.heap.size:=λx hx=>by simpa using hW0.lt x (NC _ hx)
 refine⟨ds,[],p++[],[],p,[],hW0,?_,?_,?_,hb.frame _,λh=>by cases h⟩
 ·rw[hs,hres];exact trodAll_mk1 (shut_bool htb QF)
 ·rw[hs];exact qX hl hb hr hA hlt
 rw[hv,hs];rfl
theorem law3{H:Type}{enc:TypeId × Value->H}{P:Program}{a:Assume}{C:Checked}{os:Os}{f:FuncId}{fn:Func}{s:ChangeSpec}{conds:List PathCond}{fresh:Bool}{tb t1 t2 t3:TypeId}{α β γ:Type}[Rep α][Rep β][Rep γ](own:ownKnob C.prog.godebug=QC)(started:os.Started)(noInit:C.prog.inits.idxOf? f=QC)(hfn:C.prog.funcs[f]? = QB fn)(hP:C.prog=P)(witness : ∃(w:World) (tape:Tape) (i:Input),w.os=os/\(w.forCall tape i).Shaped C.prog/\i.vars=[]/\Input.okWide C.prog (w.forCall tape i) .any w.heap.size f i/\
   s.pre6 enc C.prog fn conds QG (w.forCall tape i).memory i.args/\a.holds C.prog (lone (Frame.enter C.prog f i.args .normal) [] (w.forCall tape i)))(hl:laidOutB P=QF)(hr : ∀t∈fn.params.toList,P.readableRec t=QF/\t<P.types.size)(hv:s.vars=[])(hs : ∀ds,ds.length=3->s.fn H ds={ results:=[.lit (.bool QF)],args:=ds })(hres:fn.resultTypes = #[tb])(htb:P.underlying tb=QB .bool)(hp:fn.params = #[t1,t2,t3])(r1:RT P t1 α)(r2:RT P t2 β)(r3:RT P t3 γ)(hcall : ∀(h:Heap) (v1:Value) (x1:α) (v2:Value) (x2:β) (v3:Value) (x3:γ),Rd (vw h) v1 x1->Rd (vw h) v2 x2->Rd (vw h) v3 x3->aw P f #[v1,v2,v3] h (λv h'=>v = .bool QF/\(vw h).le (vw h'))):
  ReturnsInHanded a C os f .any (s.pre6 enc C.prog fn conds QG) (s.post enc C.prog fn QG fresh QG QG):=by
 subst hP;refine returnsInHanded_of_change_shaped own started noInit hfn witness ?_;intro W base args ds gs before hval hW _ hwt _ _;have hW0:=hW;obtain⟨p,q,hA,hV,_,_,_⟩:=hW;rw[hv]at hV;obtain⟨hgs,_⟩:=trodVars_none hV;rw[hp]at hA;obtain⟨v1,v2,v3,d1,d2,d3,p1,p2,p3,hargs,hds,_,h1,h2,h3⟩:=trodAll_three hA;have hlen:(ds++gs).length=3:=by rw[hds,hgs];rfl
 rw[hgs,hds,hp]at hwt;simp only[Oh,N1,decide_eq_true_eq]at hwt;obtain⟨x1,q1⟩:=r1.arg h1 (hval 0 t1 v1 (by rw[hp];rfl) (by rw[hargs];rfl)) (λb hb=>hwt b (by simp[DataW.weightsEach,hb]));obtain⟨x2,q2⟩:=r2.arg h2 (hval 1 t2 v2 (by rw[hp];rfl) (by rw[hargs];rfl)) (λb hb=>hwt b (by simp[DataW.weightsEach,hb]));obtain⟨x3,q3⟩:=r3.arg h3 (hval 2 t3 v3 (by rw[hp];rfl) (by rw[hargs];rfl)) (λb hb=>hwt b (by simp[DataW.weightsEach,hb]));rw[hargs];refine(hcall W.heap v1 x1 v2 x2 v3 x3 q1 q2 q3 W rfl).mono ?_;rintro e W' ⟨v,rfl,⟨rfl,hle⟩,hsame⟩;rw[<-hargs];have hgs':ds++gs=ds:=by rw[hgs,Oh]
 exact⟨_,rfl,FO hl hr hW0 hv (by rw[hs _ hlen,hgs']) hres htb (FQ hsame hle)⟩
end Go.Lft
namespace Go.Lft
theorem Tryz.own:ownKnob Tryz.prog.godebug=none:=by kernel_rfl
theorem Tryz.laidOut:laidOutB QH=true:=by kernel_rfl
theorem rtI:RT QH T.int Int:=Kz Q0
theorem rtIs:RT QH T.bn (List Int):=HM (e:=T.int) Q0 Q0 (of_decide_eq_true Q0) rtI
section
variable{po po2 po3:OP}{pp:PP}
structure Raw where
 v:Value
instance:Rep Raw where
 n:=1
 agg:=false
 rd:=λ_ cs d=>cs=[d.v]/\d.v.oneCell'=QF
 mono:=λ_ h=>h
 len:=λh=>by rw[h.1];rfl
 one:=λ_=>rfl
 flat:=λh u hu=>by rw[h.1]at hu;simp at hu;subst hu;exact h.2
 pos:=P6
 dO:=λh=>h
instance:Inhabited Raw:=⟨⟨.bool QG⟩⟩
theorem rC{H:View}{v:Value}{d:Raw}:Rd H v d↔v=d.v/\d.v.oneCell'=true:=by simp[Rd,Rep.agg,Rep.rd]
theorem At.raw{H:View}{a:Addr}{d:Raw}(h:At H a d):aj H a=QB d.v:=by obtain⟨u,h1,h2⟩:=h.load rfl;rw[(rC.1 h2).1]at h1;exact h1
variable{α β:Type}{off:Nat}{P:Program}{W:View}{ty:TypeId}{y:Operand}{us:List (Nat × Value)}{K:Value->Heap->Prop}
theorem CZ[Rep α][Rep β]{g:α->β}{s:α->β->α}(p:Part α β off g s){h:Heap}{e:TypeId}{v:Value}{l:List α}{t:TypeId}{x:Operand}{i:Nat}{u:Value}{d:β}(hsz:dp P t=QB (Rep.n β))(hx:asg us x = QE (QB (((slA v).add (i*Rep.n α)).add off)))(hy:asg us y=u)(ho:OwnT W h e v l)(hi:i<l.length)(hr:Rd W u d)(hk : ∀h',h'.size=h.size->OwnT W h' e v (l.set i (s l[i] d))->lk h h' v v->K undef h'):@step po P (.store t x y) ty us h K:=by
 obtain⟨c1,c2,c3⟩:=lj hr;obtain⟨hbd,xs,⟨hxl,hown⟩,hel⟩:=ho;have hf:=p.fits;refine cH (po:=po) (lX λw hw=>?_);subst hw;rcases hown with⟨rfl,hn⟩ | ⟨gb,cap,cur,rfl,hg,h1,h2,h3,h4⟩
 ·omega
 have hle:i*Rep.n α+Rep.n α<=l.length*Rep.n α:=by rw[<-Nat.succ_mul];exact NA _ hi
 have hcap:l.length*Rep.n α<=cap*Rep.n α:=NA _ h1;have hlen:u.cells.toList.length=Rep.n β:=by simpa using c2
 have hrun:=run_storeCells_at P gb (i*Rep.n α+off) e u.cells.toList 0 cur w hg (by simp only[Nat.add_zero];omega) c3;have hadd:((slA (QD (QB ⟨gb,0,QC⟩) l.length cap)).add (i*Rep.n α)).add off=⟨gb,i*Rep.n α+off,QC⟩:=by show((⟨gb,0,QC⟩:Addr).add _).add _=_;simp[Addr.z]
 have hszr:=run_sizeOf (P:=P) (w:=w) hsz;obtain⟨row,hrow⟩ : ∃row:Array Value,row.toList=cur.toList.take (i*Rep.n α+off)++u.cells.toList++cur.toList.drop (i*Rep.n α+off+Rep.n β):=⟨(cur.toList.take (i*Rep.n α+off)++u.cells.toList++cur.toList.drop (i*Rep.n α+off+Rep.n β)).toArray,rfl⟩;have hrun':Sem.run P (storeCells ⟨gb,i*Rep.n α+off,QC⟩ u.cells.toList) w = .ok () (w.setRow gb row):=by rw[hrun];congr 2;rw[<-Array.toList_inj,hrow,hlen];rfl
 have hrsz:row.size=cap*Rep.n α:=by have:=congrArg List.length hrow;simp only[OY,M3,Ny,NJ,c2]at this;omega
 refine⟨w.setRow gb row,?_,Same.mI rfl rfl rfl Sb hg Sb (λk _ hne=>setRow_other w gb k _ (λe=>hne e)),hk (w.setRow gb row).heap Sb ⟨by simpa using hbd,xs.take (i*Rep.n α+off)++u.cells.toList++xs.drop (i*Rep.n α+off+Rep.n β),⟨?_,.inr ⟨gb,cap,row,by simp,setRow_heap w gb cur row e _ hg,by simpa using h1,h2,?_,?_⟩⟩,?_⟩ ⟨⟨by simp,λk hk hne=>setRow_other w gb k _ (λe=>hne (by simp[Value.ownBlock,e]))⟩,.inl rfl⟩⟩
 ·simp only[bg,execOp,hx,hy,hadd];simp[Instr.storeAt,Instr.sureAddr,storeVar,hszr,c2,hrun']
 ·simp only[M3,Ny,NJ,hlen,Nq];omega
 ·exact hrsz
 ·simp only[Nq];rw[hrow,<-h4,Od,N7 Q1,Nk,Nk];have e1:(cur.toList.take (i*Rep.n α+off)).length=i*Rep.n α+off:=by simp;omega
  rw[OA,e1,Nd Q1];congr 1;rw[OA,hlen,Nd Q1];congr 1;rw[Ot];congr 1;omega
 intro j hj;simp only[Nq]at hj;have hjle:j*Rep.n α+Rep.n α<=l.length*Rep.n α:=by rw[<-Nat.succ_mul];exact NA _ hj
 have e1:(xs.take (i*Rep.n α+off)).length=i*Rep.n α+off:=by simp;omega
 by_cases hij:i=j
 ·subst hij;have hset:(l.set i (s l[i] d))[i]'(by simpa using hj)=s l[i] d:=by simp
  rw[hset];have:=p.set (hel i hj) c1;have hcs:((xs.drop (i*Rep.n α)).take (Rep.n α)).length=Rep.n α:=by simp;omega
  have e3:((xs.take (i*Rep.n α+off)++u.cells.toList++xs.drop (i*Rep.n α+off+Rep.n β)).drop (i*Rep.n α)).take (Rep.n α)=((xs.drop (i*Rep.n α)).take (Rep.n α)).take off++u.cells.toList++((xs.drop (i*Rep.n α)).take (Rep.n α)).drop (off+Rep.n β):=by
   rw[Nk,N4 Q1,Ot,Qf,Od,N7 Q1,Nk];have e4:((xs.drop (i*Rep.n α)).take off).length=off:=by simp;omega
   rw[OA,e4,Nd Q1];congr 1;rw[OA,hlen,Nd Q1];congr 1;rw[Ot,O1];rw[show i*Rep.n α+(off+Rep.n β)=i*Rep.n α+off+Rep.n β by omega,show Rep.n α-off-Rep.n β=Rep.n α-(off+Rep.n β) by omega]
  rw[e3];exact this
 have hset:(l.set i (s l[i] d))[j]'(by simpa using hj)=l[j]:=by simp[hij]
 rw[hset];have:((xs.take (i*Rep.n α+off)++u.cells.toList++xs.drop (i*Rep.n α+off+Rep.n β)).drop (j*Rep.n α)).take (Rep.n α)=(xs.drop (j*Rep.n α)).take (Rep.n α):=by
  rcases M0 j i with hlt | hge
  ·have h5:j*Rep.n α+Rep.n α<=i*Rep.n α:=by rw[<-Nat.succ_mul];exact NA _ hlt
   rw[Nk,N4 Q1,NO Q8,Ot,Od,N7 Q1]
  have h5:i*Rep.n α+Rep.n α<=j*Rep.n α:=by rw[<-Nat.succ_mul];exact NA _ Q1
  have e2:(xs.take (i*Rep.n α+off)++u.cells.toList).length=i*Rep.n α+off+Rep.n β:=by rw[M3,e1,hlen]
  rw[O2,NI Q1,NT,e2,O1];congr 2;omega
 rw[this];exact hel j hj
abbrev Key:=Nat × Nat
structure Item where
 α:Type
 rep:Rep α
 e:TypeId
 v:Value
 l:List α
abbrev Own:=Key->Option Item
def it{α:Type}[r:Rep α](e:TypeId)(v:Value)(l:List α):Option Item:=QB ⟨α,r,e,v,l⟩
def bx{α:Type}[r:Rep α](e:TypeId)(B:Nat)(d:α):Option Item:=QB ⟨α,r,e,QD (QB ⟨B,0,QC⟩) 1 1,[d]⟩
def Own.upd(o:Own)(k:Key)(i:Option Item):Own:=λj=>if j=k then i else o j
structure Owns(W:View)(h:Heap)(o:Own):Prop where
 wle:W.le (vw h)
 own : ∀k i,o k=QB i->@OwnT i.α i.rep W h i.e i.v i.l
 av : ∀k i,o k=QB i->Av W i.v
 dj : ∀k k' i i' b,o k=QB i->o k'=QB i'->i.v.ownBlock=QB b->i'.v.ownBlock=QB b->k=k'
section
variable{W:View}{h h':Heap}{o:Own}{k:Key}
theorem Owns.congr{o':Own}(w:Owns W h o)(he : ∀k,o' k=o k):Owns W h o':=by have:o'=o:=funext he;rw[this];exact w
theorem Owns.start(hw:W.le (vw h)):Owns W h (λ_=>.none):=⟨hw,λ_ _ h=>(by cases h),λ_ _ h=>(by cases h),λ_ _ _ _ _ h=>(by cases h)⟩
theorem Owns.get[r:Rep α]{e:TypeId}{v:Value}{l:List α}(w:Owns W h o)(hk:o k=it e v l):OwnT W h e v l:=w.own k _ hk
theorem Owns.now{α:Type}[r:Rep α]{e:TypeId}{v:Value}{l:List α}(w:Owns W h o)(hk:o k=it e v l):SlRd (vw h) v l:=(w.get hk).now w.wle
theorem Owns.at{α:Type}[r:Rep α]{e:TypeId}{B:Nat}{d:α}(w:Owns W h o)(hk:o k=bx e B d):At (vw h) ⟨B,0,.none⟩ d:=by have:SlRd (vw h) (QD (QB ⟨B,0,.none⟩) 1 1) [d]:=w.now (k:=k) hk;have:=this.at (i:=0) Sb;simpa[slA]using this
theorem Owns.cells{α:Type}[r:Rep α]{e:TypeId}{v:Value}{l:List α}(w:Owns W h o)(hk:o k=it e v l):v.cells = #[v]/\v.oneCell'=true:=by have:=(w.get hk).len (K:=nothing);cases v<;>first | exact⟨rfl,rfl⟩ | (simp[Un.ev,vL]at this)
theorem Owns.lt{i:Item}(w:Owns W h o)(hk:o k=QB i){b:Nat}(hb:i.v.ownBlock=QB b):b<h.size:=@OwnT.lt i.α i.rep _ _ _ _ _ (w.own k i hk) _ hb
theorem Owns.ext'(w:Owns W h o)(hle:(vw h).le (vw h')):Owns W h' o:=
 ⟨Qx w.wle hle,λk i hk=>@OwnT.ext i.α i.rep _ _ _ _ _ _ (w.own k i hk) hle,w.av,w.dj⟩
theorem Owns.ext(w:Owns W h o)(hle:(vw h).le (vw h')):Owns (grow W h h') h' o:=
 ⟨sD (Qx w.wle hle),λk i hk=>@OwnT.mono i.α i.rep _ _ _ _ _ (@OwnT.ext i.α i.rep _ _ _ _ _ _ (w.own k i hk) hle) _ (bE w.wle),
  λk i hk=>(w.av k i hk).grow λb hb=>w.lt hk hb,w.dj⟩
theorem Owns.JT{W':View}(w:Owns W h o)(h1:W.le W')(h2:W'.le (vw h))(h3 : ∀k i b,o k=QB i->i.v.ownBlock=QB b->W' b = .none):Owns W' h o:=
 ⟨h2,λk i hk=>@OwnT.mono i.α i.rep _ _ _ _ _ (w.own k i hk) _ h1,λk i hk b hb=>h3 k i b hk hb,w.dj⟩
theorem Owns.sub{o':Own}(w:Owns W h o)(hs : ∀k i,o' k=QB i->o k=QB i):Owns W h o':=
 ⟨w.wle,λk i hk=>w.own k i (hs k i hk),λk i hk=>w.av k i (hs k i hk),λk k' i i' b hk hk'=>w.dj k k' i i' b (hs k i hk) (hs k' i' hk')⟩
theorem Owns.kz{i:Item}[rb:Rep β]{e2:TypeId}{v':Value}{l':List β}(w:Owns W h o)(hk:o k=QB i)(o2:OwnT W h' e2 v' l')(m:lk h h' i.v v'):Owns W h' (o.upd k (it e2 v' l')):=by
 obtain⟨w1,a1⟩:=m.view w.wle (w.av k i hk);have new : ∀(y:Item) (q:Key) (b:Nat),o q=QB y->y.v.ownBlock=QB b->v'.ownBlock=QB b->q=k:=λy q b hq hb hv=>by
  rcases m.at_ with e | e
  ·exact w.dj q k y i b hq hk hb (e▸hv)
  rw[e]at hv;simp only[MX]at hv;have:=w.lt hq hb;omega
 refine⟨w1,λj x hj=>?_,λj x hj=>?_,λj j' x x' b hj hj' hb hb'=>?_⟩
 ·unfold Own.upd at hj;split at hj
  ·cases hj;exact o2
  rename_i hjk;refine @OwnT.kept x.α x.rep _ _ _ _ _ _ (w.own j x hj) _ m.kept ?_;cases hx:x.v.ownBlock with
  | none=>exact .inl rfl
  | some b=>exact .inr λe=>hjk (w.dj j k x i b hj hk hx e.symm)
 ·unfold Own.upd at hj;split at hj
  ·cases hj;exact a1
  exact(m.view w.wle (w.av k i hk) |>.1:_) |> λ_=>w.av j x hj
 unfold Own.upd at hj hj';split at hj
 ·rename_i a;cases hj;split at hj'
  ·rename_i c;rw[a,c]
  rw[a];exact(new x' j' b hj' hb' hb).symm
 split at hj'
 ·rename_i c;cases hj';rw[c];exact new x j b hj hb hb'
 exact w.dj j j' x x' b hj hj' hb hb'
theorem Owns.add[rb:Rep β]{e2:TypeId}{v':Value}{l':List β}(w:Owns W h o)(hk:o k = .none)(o2:OwnT W h' e2 v' l')(hle:(vw h).le (vw h'))(hb : ∀b,v'.ownBlock=QB b->h.size<=b):Owns W h' (o.upd k (it e2 v' l')):=by
 have w1:=w.ext' hle;refine⟨w1.wle,λj x hj=>?_,λj x hj=>?_,λj j' x x' b hj hj' hb1 hb2=>?_⟩
 ·unfold Own.upd at hj;split at hj
  ·cases hj;exact o2
  exact w1.own j x hj
 ·unfold Own.upd at hj;split at hj
  ·cases hj;intro b hb';exact View.cT w.wle (hb b hb')
  exact w.av j x hj
 unfold Own.upd at hj hj';split at hj
 ·rename_i a;cases hj;split at hj'
  ·rename_i c;rw[a,c]
  have:=w.lt hj' hb2;have:=hb b hb1;omega
 split at hj'
 ·cases hj';have:=w.lt hj hb1;have:=hb b hb2;omega
 exact w.dj j j' x x' b hj hj' hb1 hb2
theorem Own.ah{i:Option Item}:o.upd k i k=i:=by simp[Own.upd]
theorem Own.af{i:Option Item}{j:Key}(hj:j≠k):o.upd k i j=o j:=by simp[Own.upd,hj]
variable{B:Nat}
theorem lZ[Rep β]{e:TypeId}{v:Value}{d:β}(hb:h[B]? = QB (.cells v.cells e (0,0)))(hr:Rd W v d)(hn:Rep.n β<=1000):OwnT W h e (QD (QB ⟨B,0,.none⟩) 1 1) [d]:=by
 obtain⟨c1,c2,c3⟩:=lj hr;refine⟨by simp,v.cells.toList,⟨by simp[c2],.inr ⟨B,1,v.cells,rfl,hb,MY _,by simp[maxLen],by omega,?_⟩⟩,λi hi=>?_⟩
 ·rw[Nd];simp[c2]
 have:i=0:=by simpa using hi
 subst this;simp only[OT,Oy,OK];rw[Nd (by simp[c2])];exact c1
section
variable{P:Program}{ty:TypeId}{us:List (Nat × Value)}{α:Type}[r:Rep α]{e:TypeId}{v:Value}{l:List α}
theorem Owns.cR{t:TypeId}{bytes:Nat}{z:Value}{x y:Operand}{u:Value}{l2:List α}{K:Value->Heap->Prop}(w:Owns W h o)(hk:o k=it e v l)(hT:eG P t e (Rep.n α) bytes z)(hx:asg us x=v)(hy:asg us y=u)
  (hs:SrcT (vw h) W u l2) (hb:(l.length+l2.length)*bytes<=140737488355328) (hb2:l.length+l2.length<=140737488355328)
  (hK : ∀v' h',Owns W h' (o.upd k (it e v' (l++l2)))->lk h h' v v'->K v' h'):@step po P (.call ⟨.builtin .append,#[x,y],#[t,t]⟩) ty us h K:=
 Lft.cR hT hx hy (w.get hk) hs hb hb2 λv' h' o2 m=>hK v' h' (w.kz hk o2 m) m
variable{bytes:Nat}
theorem Owns.iN{t ty2:TypeId}{z:Value}{x y2:Operand}{us2:Value->List (Nat × Value)}{u:Value}{d:α}{K:Value->Value->Heap->Prop}(w:Owns W h o)(hk:o k=it e v l)(hT:eG P t e (Rep.n α) bytes z)(hx:asg us x=u)(hr:Rd W u d)(hb:(l.length+1)*bytes<=140737488355328)(hb2:l.length+1<=140737488355328)(hy : ∀u,asg (us2 u) y=v)(hy2 : ∀u,asg (us2 u) y2=u)(hK : ∀u v' h',Owns W h' (o.upd k (it e v' (l++[d])))->h.size<=h'.size->K u v' h'):
  @step po P (.buildSlice t 1 #[(0,x)]) ty us h λu h2=>@step po2 P (.call ⟨.builtin .append,#[y,y2],#[t,t]⟩) ty2 (us2 u) h2 λv' h3=>K u v' h3:=by refine jz (po:=po) hT hx hr λu h2 hs hle hsz=>?_;exact(w.ext' hle).cR hk hT (hy u) (hy2 u) hs hb hb2 λv' h3 w3 m=>hK u v' h3 w3 (by have:=m.kept.size;omega)
theorem Owns.oT{t:TypeId}{x:Operand}{i:Nat}{u:Value}{d:α}(w:Owns W h o)(hk:o k=it e v l)(hsz:dp P t=QB (Rep.n α))(hx:asg us x = QE (QB ((slA v).add (i*Rep.n α))))(hy:asg us y=u)(hi:i<l.length)(hr:Rd W u d)(hK : ∀h',Owns W h' (o.upd k (it e v (l.set i d)))->h'.size>=h.size->K undef h'):@step po P (.store t x y) ty us h K:=
 tx (po:=po) hsz hx hy (w.get hk) hi hr λh' o2 m=>hK h' (w.kz hk o2 m) m.kept.size
theorem Owns.n8[Rep β]{g:α->β}{s:α->β->α}(p:Part α β off g s){t:TypeId}{x:Operand}{i:Nat}{u:Value}{d:β}(w:Owns W h o)(hk:o k=it e v l)(hsz:dp P t=QB (Rep.n β))(hx:asg us x = QE (QB (((slA v).add (i*Rep.n α)).add off)))(hy:asg us y=u)(hi:i<l.length)(hr:Rd W u d)(hK : ∀h',Owns W h' (o.upd k (it e v (l.set i (s l[i] d))))->h'.size=h.size->K undef h'):@step po P (.store t x y) ty us h K:=
 CZ (po:=po) p hsz hx hy (w.get hk) hi hr λh' hs o2 m=>hK h' (w.kz hk o2 m) hs
theorem Owns.lu[Rep β]{g:α->β}{s:α->β->α}(p:Part α β off g s){t:TypeId}{x:Operand}{D:α}{u:Value}{d:β}(w:Owns W h o)(hk:o k=bx e B D)(hsz:dp P t=QB (Rep.n β))(hx:asg us x = QE (QB ⟨B,off,.none⟩))(hy:asg us y=u)(hr:Rd W u d)(hK : ∀h',Owns W h' (o.upd k (bx e B (s D d)))->h'.size=h.size->K undef h'):@step po P (.store t x y) ty us h K:=
 w.n8 (po:=po) (v:=QD (QB ⟨B,0,.none⟩) 1 1) (l:=[D]) (i:=0) p hk hsz (by rw[hx];simp[slA,Addr.z]) hy Sb hr λh' w' hs=>hK h' w' hs
end
end
theorem Fq{h0 h1 h2 h3:Heap}(hs:h0.size<=h1.size)(hle:(vw h2).le (vw h3)):(fresh h1 h2).le (grow W h0 h3):=λb o hb=>by
 unfold fresh at hb;split at hb
 ·cases hb
 unfold grow;rw[if_neg Q1];exact hle b o hb
theorem gJ{h0 h1:Heap}{b:Nat}(hb:h0.size<=b):grow W h0 h1 b=h1[b]?:=by unfold grow;rw[if_neg Q1]
def View.plus(W:View)(v:Value)(h:Heap):View:=λb=>if v.ownBlock=QB b then h[b]? else W b
theorem kS{v:Value}{h:Heap}(ha:Av W v):W.le (W.plus v h):=λb o hb=>by
 unfold View.plus;split
 ·rename_i e;rw[ha b e]at hb;cases hb
 exact hb
theorem Jb{v:Value}{h:Heap}(hw:W.le (vw h)):(W.plus v h).le (vw h):=λb o hb=>by
 unfold View.plus at hb;split at hb
 ·exact hb
 exact hw b o hb
theorem Owns.freeze{h:Heap}{o:Own}{k:Key}[r:Rep α]{e:TypeId}{v:Value}{l:List α}(w:Owns W h o)(hk:o k=it e v l):Owns (W.plus v h) h (o.upd k .none)/\SlRd (W.plus v h) v l:=by
 have ha:Av W v:=w.av k _ hk;constructor
 ·refine(w.sub (o':=o.upd k .none) λj i hj=>?_).JT (kS ha) (Jb w.wle) λj i b hj hb=>?_
  ·unfold Own.upd at hj;split at hj
   ·cases hj
   exact hj
  unfold Own.upd at hj;split at hj
  ·cases hj
  rename_i hjk;unfold View.plus;rw[if_neg]
  ·exact w.av j i hj b hb
  intro e2;exact hjk (w.dj j k i _ b hj hk hb e2)
 refine(w.get hk).rd (kS ha) λb hb=>?_;unfold View.plus;rw[if_pos hb]
variable{bytes:Nat}
theorem sR[Rep α]{t e:TypeId}{z:Value}{h:Heap}(hT:eG P t e (Rep.n α) bytes z)(hk : ∀h',(vw h).le (vw h')->h'.size=h.size+1->(∀W,OwnT (α:=α) W h' e (QD (QB ⟨h.size,0,QC⟩) 0 0) [])->K (QD (QB ⟨h.size,0,QC⟩) 0 0) h'):@step po P (.buildSlice t 0 #[]) ty us h K:=by refine uZ (n:=0) (size:=Rep.n α) (vs:=[]) (cs:=#[]) hT Q1 Sb (by simp only[Instr.fill,OT];rw[show Array.range 0 = #[] by simp[Array.range_zero'],Array.map_empty]) (hk _ (bA _ _) Sb λW=>⟨by simp,[],⟨by simp,.inr ⟨h.size,0,#[],rfl,by simp,MY _,by simp[maxLen],by simp,by simp⟩⟩,λi hi=>by simp at hi⟩)
theorem Mine.empty[Rep α]{V:View}{h0 h h':Heap}{e:TypeId}(hle:(vw h0).le (vw h))(hle2:(vw h).le (vw h'))(hW:W.le (vw h))(ho:Old V h0 W)(own : ∀W,OwnT (α:=α) W h' e (QD (QB ⟨h.size,0,QC⟩) 0 0) []):Mine (α:=α) V h0 h' W e (QD (QB ⟨h.size,0,QC⟩) 0 0) []:=
 ⟨Qx hle hle2,Qx hW hle2,λb hb=>by cases hb;exact View.cT hW (MY _),λb hb=>by cases hb;exact View.cT hle (MY _),ho,own W⟩
variable{B:Nat}
theorem Owns.atW{h:Heap}{o:Own}{k:Key}[r:Rep α]{e:TypeId}{d:α}(w:Owns W h o)(hk:o k=bx e B d): ∃cs,fO (vw h) ⟨B,0,QC⟩ cs/\Rep.rd W cs d:=by
 obtain⟨hb,xs,⟨hl,hown⟩,hel⟩:=w.get (k:=k) (v:=QD (QB ⟨B,0,QC⟩) 1 1) (l:=[d]) hk;have h0:=hel 0 Sb;simp only[OT,Oy,OK,M6,PM]at h0 hl;rw[Nd Q1]at h0;rcases hown with⟨h1,_⟩ | ⟨g,cap,cur,h1,h2,h3,h4,h5,h6⟩
 ·cases h1
 simp only[Value.slice.injEq,MX,Addr.mk.injEq]at h1;obtain⟨⟨rfl,_⟩,_⟩:=h1;refine⟨xs,⟨cur,e,(0,0),rfl,h2,?_⟩,h0⟩;rw[hl,Oy];simpa using h6
theorem Owns.wU{h:Heap}{o:Own}{k:Key}[r:Rep α]{e:TypeId}{v:Value}{l:List α}{t ty2:TypeId}{z:Value}{x y2:Operand}{us2:Value->List (Nat × Value)}{u:Value}{d:α}{K:Value->Value->Heap->Prop}(w:Owns W h o)(hk:o k=it e v l)(hT:eG P t e (Rep.n α) bytes z)(hx:asg us x=u)(hr:Rd W u d)(hb:(l.length+1)*bytes<=140737488355328)(hb2:l.length+1<=140737488355328)(hy : ∀u,asg (us2 u) y=v)(hy2 : ∀u,asg (us2 u) y2=u)(hK : ∀u v' h',Owns W h' (o.upd k (it e v' (l++[d])))->(∀X:View,X.le (vw h)->Av X v->X.le (vw h')/\Av X v')->K u v' h'):
  @step po P (.buildSlice t 1 #[(0,x)]) ty us h λu h2=>@step po2 P (.call ⟨.builtin .append,#[y,y2],#[t,t]⟩) ty2 (us2 u) h2 λv' h3=>K u v' h3:=by refine jz (po:=po) hT hx hr λu h2 hs hle hsz=>?_;exact(w.ext' hle).cR hk hT (hy u) (hy2 u) hs hb hb2 λv' h3 w3 m=>hK u v' h3 w3 λX hX hA=>m.view (Qx hX hle) hA
theorem Owns.lR{h:Heap}{o:Own}{k:Key}[r:Rep α][Rep β]{e:TypeId}{g:α->β}{s:α->β->α}(p:Part α β off g s){t:TypeId}{x:Operand}{D:α}{u:Value}{d:β}(w:Owns W h o)(hk:o k=bx e B D)(hsz:dp P t=QB (Rep.n β))(hx:asg us x = QE (QB ⟨B,off,.none⟩))(hy:asg us y=u)(hr:Rd W u d)(hK : ∀h',Owns W h' (o.upd k (bx e B (s D d)))->(∀X:View,X.le (vw h)->X B = .none->X.le (vw h'))->K undef h'):@step po P (.store t x y) ty us h K:=
 CZ (po:=po) p (v:=QD (QB ⟨B,0,.none⟩) 1 1) (l:=[D]) (i:=0) hsz (by rw[hx];simp[slA,Addr.z]) hy (w.get (k:=k) (v:=QD (QB ⟨B,0,.none⟩) 1 1) (l:=[D]) hk) Sb hr λh' hs o2 m=>hK h' (w.kz hk o2 m) λX hX hB=>(m.view hX λb hb=>by simp only[Value.ownBlock,MX]at hb;subst hb;exact hB).1
theorem aZ{c:E}{kill:List Nat}{x y:LC}{Q:Post}{ρ:Env}{h:Heap}(hc:ev (look ρ) (vw h) c=QB (.bool QF))(hx:x.wp P Q (bJ ρ kill) h):LC.wp P (.cond c kill x y) Q ρ h:=by rw[mf,hc,BT];exact hx
theorem aV{c:E}{kill:List Nat}{x y:LC}{Q:Post}{ρ:Env}{h:Heap}(hc:ev (look ρ) (vw h) c=QB (.bool QG))(hy:y.wp P Q (bJ ρ kill) h):LC.wp P (.cond c kill x y) Q ρ h:=by rw[mf,hc,zV];exact hy
end
section
variable{po po2 po3:OP}{pp:PP}
structure RawN(n:Nat) where
 l:List Value
instance {n:Nat}:Rep (RawN n) where
 n:=n+1
 agg:=true
 rd:=λ_ cs d=>cs=d.l/\cs.length=n+1/\∀u∈cs,u.oneCell'=QF
 mono:=λ_ h=>h
 len:=λh=>h.2.1
 one:=λh=>by cases h
 flat:=λh u hu=>h.2.2 u hu
 pos:=Nat.succ_pos _
 dO:=λh=>h
variable{n:Nat}
theorem iO{H:View}{l:List Value}(h1:l.length=n+1)(h2 : ∀u∈l,u.oneCell'=QF):Rd H (.agg l.toArray) (RawN.mk (n:=n) l):=by unfold Rd;rw[if_pos (show Rep.agg (RawN n)=QF from rfl)];exact⟨_,rfl,rfl,h1,h2⟩
theorem RawN.p{o:Nat}(ho:o<=n):Part (RawN n) Raw o (λd=>⟨d.l.getD o undef⟩) (λd x=>⟨d.l.set o x.v⟩) where
 fits:=by show o+1<=n+1;omega
 get:=by
  rintro H cs d ⟨rfl,h1,h2⟩
  have hlt:o<d.l.length:=by omega
  have e:(d.l.drop o).take (Rep.n Raw)=[d.l.getD o undef]:=by
   have:d.l.getD o undef=d.l[o]:=by simp[hlt]
   rw[this]
   show(d.l.drop o).take 1=_
   rw[NK hlt];rfl
  refine⟨e,?_⟩
  have:d.l.getD o undef=d.l[o]:=by simp[hlt]
  show(d.l.getD o undef).oneCell'=QF
  rw[this];exact h2 _ (Oi hlt)
 set:=by
  rintro H cs us d x ⟨rfl,h1,h2⟩ ⟨rfl,h3⟩
  have hlt:o<d.l.length:=by omega
  have e:d.l.take o++[x.v]++d.l.drop (o+Rep.n Raw)=d.l.set o x.v:=by
   show d.l.take o++[x.v]++d.l.drop (o+1)=_
   rw[Pz,if_pos hlt];simp
  refine⟨e,by simp[e,h1],λu hu=>?_⟩
  rw[e]at hu
  rcases Ps hu with h | rfl
  ·exact h2 _ h
  ·exact h3
section
variable{W:View}{h:Heap}{o:Own}{k:Key}
theorem Owns.raw{n:Nat}{e:TypeId}{B:Nat}{l:List Value}(w:Owns W h o)(hk:o k=bx e B (RawN.mk (n:=n) l)){i:Nat}(hi:i<=n):aj (vw h) ⟨B,i,QC⟩=QB (l.getD i undef):=by have:=((w.at hk).part (RawN.p hi)).raw;simpa using this
variable{B:Nat}
theorem Owns.gg{e:TypeId}{l:List Value}(w:Owns W h o)(hk:o k=bx e B (RawN.mk (n:=n) l)):Un.ev (vw h) (.ax (n+1)) (QT B)=QB (.agg l.toArray):=by obtain⟨cs,hcs,he,h1,h2⟩:=w.atW hk;have he:cs=l:=he;subst he;have h1:cs.length=n+1:=h1;have:=ir hcs (n+1) 0 #[] Q1;simp only[Un.ev,vP,Nn];rw[this];simp[h1]
variable{P:Program}{ty:TypeId}{us:List (Nat × Value)}{y:Operand}{K:Value->Heap->Prop}
theorem Owns.vJ{t ty2:TypeId}{z:Value}{x:Operand}{us2:Value->List (Nat × Value)}{l:List Value}(w:Owns W h o)(hk:o k=QC)(hz:(P.info? t).map (·.zero)=QB (QB z))(hzc:z.cells.size=n+1)(hsz:dp P t=QB (n+1))(hl:l.length=n+1)(hn:n+1<=1000)(hone : ∀c∈l,c.oneCell'=QF)(hx : ∀p,asg (us2 p) x=p)(hy : ∀p,asg (us2 p) y = .agg l.toArray)(hK : ∀h':Heap,(vw h).le (vw h')->Owns W h' (o.upd k (bx t h.size (RawN.mk (n:=n) l)))->K (QT h.size) h'):
  @step po P (.alloc t) ty us h λp h2=>@step po2 P (.store t x y) ty2 (us2 p) h2 λ_ h3=>K p h3:=
 j6 (v:=.agg l.toArray) hz hzc hsz (by simpa[Value.cells]using hl) (by simpa[Value.cells]using hone) hx hy λh' hle hs hb=>hK h' hle
  (w.add hk (lZ (d:=RawN.mk (n:=n) l) hb (iO hl hone) hn) hle λb hb=>by simp only[Value.ownBlock,MX]at hb;omega)
theorem Owns.mL{t:TypeId}{z:Value}(w:Owns W h o)(hk:o k=QC)(hz:(P.info? t).map (·.zero)=QB (QB z))(hzc:z.cells.size=n+1)(hn:n+1<=1000)(hone : ∀c∈z.cells.toList,c.oneCell'=QF)(hK : ∀h':Heap,(vw h).le (vw h')->Owns W h' (o.upd k (bx t h.size (RawN.mk (n:=n) z.cells.toList)))->K (QT h.size) h'):
  @step po P (.alloc t) ty us h K:=by
 refine fF hz ?_;have q1:=bA h (.cells z.cells t);have b2:(h.push (.cells z.cells t))[h.size]? = QB (.cells z.cells t (0,0)):=by simp
 generalize h.push (.cells z.cells t)=h2 at q1 b2;have hz2:(Value.agg z.cells).cells=z.cells:=rfl;refine hK h2 q1 (w.add hk (lZ (v:=.agg z.cells) (d:=RawN.mk (n:=n) z.cells.toList) (by rw[hz2];exact b2) ?_ hn) q1 λb hb=>by simp only[Value.ownBlock,MX]at hb;omega);have:=iO (n:=n) (H:=W) (l:=z.cells.toList) (by simpa using hzc) hone;simpa using this
theorem Owns.bG{i:Nat}{e t:TypeId}{l:List Value}{x:Operand}{u:Value}(w:Owns W h o)(hk:o k=bx e B (RawN.mk (n:=n) l))(hi:i<=n)(hsz:dp P t=QB 1)(hx:asg us x = QE (QB ⟨B,i,QC⟩))(hy:asg us y=u)(hu:u.oneCell'=QF)(hK : ∀h',Owns W h' (o.upd k (bx e B (RawN.mk (n:=n) (l.set i u))))->(∀X:View,X.le (vw h)->X B=QC->X.le (vw h'))->K undef h'):@step po P (.store t x y) ty us h K:=
 w.lR (po:=po) (RawN.p hi) (d:=⟨u⟩) hk hsz hx hy (rC.2 ⟨rfl,hu⟩) hK
variable{α:Type}{bytes:Nat}
theorem Owns.kf[r:Rep α]{e:TypeId}{t:TypeId}{z:Value}(w:Owns W h o)(hk:o k=QC)(hT:eG P t e (Rep.n α) bytes z)(hK : ∀v h',(vw h).le (vw h')->v.oneCell'=QF->Owns W h' (o.upd k (it e v ([]:List α)))->(∀X:View,X.le (vw h)->Av X v)->K v h'):@step po P (.buildSlice t 0 #[]) ty us h K:=
 sR (α:=α) hT λh' hle hs own=>hK _ h' hle rfl (w.add hk (own W) hle λb hb=>by simp only[Value.ownBlock,MX]at hb;omega) λX hX b hb=>by simp only[Value.ownBlock,MX]at hb;subst hb;exact View.cT hX (MY _)
end
abbrev forC(a i c:Nat)(ks ks2:List Nat)(ce:E)(body:LC):LC:=
 .loop (.seq (.seq (.reg QG (.fin ks [(c,ce)] [])) (.cond (.tmp c) [c] .skip (.exit a)))
  (.seq body (.reg QG (.fin ks2 [(i,.bin (.arith .add) (.tmp i) (.con (Qy Qz 1)))] []))))
variable{P:Program}
theorem Gp{Q:Post}{ρ:Env}{h:Heap}{a i c:Nat}{ks ks2:List Nat}{ce:E}{body:LC}{σ:Type}(kp:List Nat)(vals:σ->Nat->List Value)(J:σ->Nat->Heap->Prop)(n:Nat)(s0:σ)(hok:qP kp ks ks2 c i=QF)(hn:n<=9223372036854775806)(h0:bh kp ρ=kp.zip (vals s0 0))(hj:J s0 0 h)(hi : ∀s k,look (kp.zip (vals s k)) i=QB (Qy Qz k))(hb : ∀s k h,k<=n->J s k h->ev (look (kp.zip (vals s k))) (vw h) ce=QB (.bool (decide (k<n))))(round : ∀s k h,k<n->J s k h->∀K:Env->Heap->Prop,(∀s' ρ' h',look ρ' i=QB (Qy Qz k)->bh kp (setE ρ' i (Qy Qz ((k:Int)+1)))=kp.zip (vals s' (k+1))->J s' (k+1) h'->K ρ' h')->body.wp P (fN K (dU a Q)) (kp.zip (vals s k)) h)(done : ∀s h,J s n h->Q .normal (kp.zip (vals s n)) h):LC.wp P (forC a i c ks ks2 ce body) (dU a Q) ρ h:=by
 simp only[qP,N1,M8,OE,bne_iff_ne,NS,beq_iff_eq,ne_eq]at hok;refine iA kp (λm ρ h=>∃s k,k<=n/\ρ=kp.zip (vals s k)/\m=n-k/\J s k h) n ⟨s0,0,by omega,h0,by omega,hj⟩ ?_;rintro m ρ h ⟨s,k,hk,rfl,rfl,hJ⟩ K hK;have hkill:bJ (kp.zip (vals s k)) ks=kp.zip (vals s k):=mG λp hp=>(hok p.1 (ld hp)).1.1;have hne : ∀p∈kp.zip (vals s k),p.1≠c:=λp hp=>(hok p.1 (ld hp)).1.2;have hk2 : ∀v,bJ (setE (kp.zip (vals s k)) c v) [c]=kp.zip (vals s k):=λv=>mD hne;have hlk : ∀v,look (setE (kp.zip (vals s k)) c v) c=QB v:=λv=>by rw[ar,if_pos rfl]
 simp only[sU,kY,iF,fK,jD,kU,hb s k h hk hJ,Nn,jc,kO,true_and,db,hkill,bS,mf,mZ,hlk,ku,hk2,oR,oY,mC,mj,if_true];refine⟨λhlt=>?_,λhge=>?_⟩
 ·have hlt':k<n:=by omega
  rw[ll];refine round s k h hlt' hJ _ λs' ρ' h' hl he hJ'=>?_;simp only[kY,iF,fK,jD,kU,kJ,mZ,hl,kO,true_and,Nn,wX,Nn,xk,jc,db,bS,true_and];rw[bu Q1 Q1];refine hK (n-(k+1)) _ _ Q1 ⟨s',k+1,by omega,?_,rfl,hJ'⟩;rw[<-he];refine lU λt ht=>?_;rw[ar,ar,au];split
  ·rfl
  rename_i hti;rcases(hok t ht).2 with e | e
  ·exact absurd e.symm hti
  rw[e];rfl
 have:k=n:=by omega
 subst this;exact done s h hJ
end
variable{po po2 po3:OP}{pp:PP}
section
variable{W:View}{h:Heap}{o:Own}{k:Key}
theorem Owns.sL{P:Program}{ty:TypeId}{us:List (Nat × Value)}{t ty2:TypeId}{α:Type}[Rep α]{n:Nat}{z u:Value}{d:α}{x y:Operand}{us2:Value->List (Nat × Value)}{K:Value->Heap->Prop}(w:Owns W h o)(hk:o k=QC)(hr:Rd W u d)(hN:Rep.n α=n)(hz:(P.info? t).map (·.zero)=QB (QB z))(hzc:z.cells.size=n)(hsz:dp P t=QB n)(hn:n<=1000)
  (hx : ∀p,asg (us2 p) x=p) (hy : ∀p,asg (us2 p) y=u) (hK : ∀h':Heap,(vw h).le (vw h')->Owns W h' (o.upd k (bx t h.size d))->K (QT h.size) h') :
  @step po P (.alloc t) ty us h λp h2=>@step po2 P (.store t x y) ty2 (us2 p) h2 λ_ h3=>K p h3:=by subst hN;obtain⟨c1,c2,c3⟩:=lj hr;exact j6 (v:=u) hz hzc hsz (by simpa using c2) c3 hx hy λh' hle hs hb=>hK h' hle (w.add hk (lZ (d:=d) hb hr hn) hle λb hb=>by simp only[Value.ownBlock,MX]at hb;omega)
end
theorem Hr{P:Program}{Q:Post}{ρ:Env}{h:Heap}{a i c:Nat}{ks ks2:List Nat}{ce:E}{body:LC}{σ:Type}(kp:List Nat)(vals:σ->Nat->List Value)(J:σ->Nat->Heap->Prop)(n:Nat)(d:Int)(s0:σ)
  (hok:qP kp ks ks2 c i=QF) (hd:-9223372036854775808<=d) (hn:n+d<=9223372036854775806) (h0:bh kp ρ=kp.zip (vals s0 0)) (hj:J s0 0 h)
  (hi : ∀s k,look (kp.zip (vals s k)) i=QB (Qy Qz ((k:Int)+d)))
  (hb : ∀s k h,k<=n->J s k h->ev (look (kp.zip (vals s k))) (vw h) ce=QB (.bool (decide (k<n))))
  (round : ∀s k h,k<n->J s k h->∀K:Env->Heap->Prop,(∀s' ρ' h',look ρ' i=QB (Qy Qz ((k:Int)+d))->bh kp (setE ρ' i (Qy Qz (((k:Int)+d)+1)))=kp.zip (vals s' (k+1))->J s' (k+1) h'->K ρ' h')->body.wp P (fN K (dU a Q)) (kp.zip (vals s k)) h)
  (done : ∀s h,J s n h->Q .normal (kp.zip (vals s n)) h):LC.wp P (forC a i c ks ks2 ce body) (dU a Q) ρ h:=by
 simp only[qP,N1,M8,OE,bne_iff_ne,NS,beq_iff_eq,ne_eq]at hok;refine iA kp (λm ρ h=>∃s k,k<=n/\ρ=kp.zip (vals s k)/\m=n-k/\J s k h) n ⟨s0,0,by omega,h0,by omega,hj⟩ ?_;rintro m ρ h ⟨s,k,hk,rfl,rfl,hJ⟩ K hK;have hkill:bJ (kp.zip (vals s k)) ks=kp.zip (vals s k):=mG λp hp=>(hok p.1 (ld hp)).1.1;have hne : ∀p∈kp.zip (vals s k),p.1≠c:=λp hp=>(hok p.1 (ld hp)).1.2;have hk2 : ∀v,bJ (setE (kp.zip (vals s k)) c v) [c]=kp.zip (vals s k):=λv=>mD hne;have hlk : ∀v,look (setE (kp.zip (vals s k)) c v) c=QB v:=λv=>by rw[ar,if_pos rfl]
 simp only[sU,kY,iF,fK,jD,kU,hb s k h hk hJ,Nn,jc,kO,true_and,db,hkill,bS,mf,mZ,hlk,ku,hk2,oR,oY,mC,mj,if_true];refine⟨λhlt=>?_,λhge=>?_⟩
 ·have hlt':k<n:=by omega
  rw[ll];refine round s k h hlt' hJ _ λs' ρ' h' hl he hJ'=>?_;simp only[kY,iF,fK,jD,kU,kJ,mZ,hl,kO,true_and,Nn,wX,Nn,xk,jc,db,bS,true_and];rw[bu Q1 Q1];refine hK (n-(k+1)) _ _ Q1 ⟨s',k+1,by omega,?_,rfl,hJ'⟩;rw[<-he];refine lU λt ht=>?_;rw[ar,ar,au];split
  ·rfl
  rename_i hti;rcases(hok t ht).2 with e | e
  ·exact absurd e.symm hti
  rw[e];rfl
 have:k=n:=by omega
 subst this;exact done s h hJ
section
variable{po:OP}
theorem Owns.qu{P:Program}{W:View}{h:Heap}{o:Own}{ty:TypeId}{us:List (Nat × Value)}{α:Type}[Rep α]{t:TypeId}{x:Operand}{v:Value}{d:α}{K:Value->Heap->Prop}(w:Owns W h o)(hx:asg us x=v)(hv:Rd W v d)
  (hk : ∀B h' W',W.le W'->Owns W' h' o->At W' ⟨B,0,QC⟩ d->(vw h).le (vw h')->K (QT B) h'):step P (.box t x) ty us h K:=by refine fH hx (hv.mono w.wle) λh1 hp hle hs _=>?_;exact hk _ _ _ (bE w.wle) (w.ext hle) (tu (t:=t) (fz:=(0,0)) (by rw[gJ (MY _),hp];simp) (hv.mono (bE w.wle))) hle
theorem Owns.qt{P:Program}{W:View}{h:Heap}{o:Own}{k:Key}{ty:TypeId}{us:List (Nat × Value)}{n:Nat}{l:List Value}{t:TypeId}{x:Operand}{K:Value->Heap->Prop}(w:Owns W h o)(hk:o k=QC)(hx:asg us x = .agg l.toArray)(hl:l.length=n+1)(hn:n+1<=1000)(hc : ∀c∈l,c.oneCell'=QF)
  (hK : ∀B h',(vw h).le (vw h')->Owns W h' (o.upd k (bx t B (RawN.mk (n:=n) l)))->K (QT B) h'):step P (.box t x) ty us h K:=by
 refine my hx ?_;have hb1:(h.push (.cells (Value.agg l.toArray).cells t))[h.size]? = QB (.cells (Value.agg l.toArray).cells t (0,0)):=by simp
 have hle1:=bA h (.cells (Value.agg l.toArray).cells t);generalize h.push (.cells (Value.agg l.toArray).cells t)=h1 at hb1 hle1;exact hK _ _ hle1 (w.add (k:=k) hk (lZ (W:=W) (d:=RawN.mk (n:=n) l) hb1 (iO hl hc) hn) hle1 (λb hb=>by simp only[Value.ownBlock,MX]at hb;omega))
end
end Go.Lft
namespace Go.Lft
variable{po:OP}
theorem xm{P:Program}{ty t rt e:TypeId}{us:List (Nat × Value)}{h:Heap}{K:Value->Heap->Prop}{x y:Operand}{a:Option Addr}{n c:Nat}(hu:P.underlying t=QB (.slice e))(hx:asg us x = .slice a n c)(hy:asg us y = QD QC 0 0)(hk:K (.bool a.isNone) h):step P (.binOp .eql t x y rt) ty us h K:=by
 refine cH (bN λw hw=>⟨_,w,?_,Same.refl _,by rw[hw];exact hk⟩);simp only[bg,execOp,hx,hy];have e1:(Op.equal t (.slice a n c) (QD QC 0 0)).run P w = .ok a.isNone w:=by show(Op.equalIn (9999+1) t _ _).run P w=_;rw[Op.equalIn];cases a<;>simp[run_underlying hu]
 simp[eqGuard,binOp,e1]
end Go.Lft
namespace Go.Lft
open Go.MapKept Go.ChangeMaps
section
variable{po:OP}{pp:PP}
structure It(h:Heap)(b r:Nat)(left:List (Value × Value)):Prop where
 ex : ∃es since seen c0,h[b]? = QB (.map es since)/\Stamped es since/\h[r]? = QB (.mapIter (QB b) since seen c0)/\since<=c0/\left=(leftOf es seen).toList.map λx=>(x.key,x.val)
structure ItE(h:Heap)(b r:Nat)(p:Value × Value)(left:List (Value × Value)):Prop where
 ex : ∃(es:Array MapEntry) (since:Nat) (seen:Array Nat) (e:MapEntry),h[b]? = QB (.map es since)/\Stamped es since/\h[r]? = QB (.mapIter (QB b) since (seen.push e.born) since)/\e∈es.toList/\p=(e.key,e.val)/\left=(leftOf es (seen.push e.born)).toList.map λx=>(x.key,x.val)
section
variable{P:Program}{ty:TypeId}{us:List (Nat × Value)}{h h':Heap}{K:Value->Heap->Prop}{d:TypeDesc}{b r:Nat}{f:Value->Option Value}{t k e:TypeId}{left:List (Value × Value)}{p:Value × Value}
theorem It.same(m:It h b r left)(e1:h'[b]? = h[b]?)(e2:h'[r]? = h[r]?):It h' b r left:=by obtain⟨es,s,q,c,a1,a2,a3,a4⟩:=m.ex;exact⟨es,s,q,c,by rw[e1];exact a1,a2,by rw[e2];exact a3,a4⟩
theorem ItE.it(m:ItE h b r p left):It h b r left:=by obtain⟨es,s,q,e,a1,a2,a3,a4,a5,a6⟩:=m.ex;exact⟨es,s,_,s,a1,a2,a3,MY _,a6⟩
theorem It.lt(m:It h b r left):b<h.size/\r<h.size/\b≠r:=by obtain⟨es,s,q,c,a1,a2,a3,a4⟩:=m.ex;refine⟨(M7.1 a1).1,(M7.1 a3).1,?_⟩;rintro rfl;rw[a1]at a3;cases a3
theorem AI{x:Operand}(ht:P.underlying t=QB (.map k e))(hx:asg us x = .map (QB b))(m:dI d h b f)(hk : ∀h' left,(vw h).le (vw h')->h'.size=h.size+1->It h' b h.size left->(left.map (·.1)).Nodup->(∀u v,(u,v)∈left->IsKey d u)->(∀u v,IsKey d u->((u,v)∈left↔f u=QB v))->K (QT h.size) h'):step P (.range t x) ty us h K:=by
 obtain⟨es,c,h1,h2,h3,h4⟩:=m.ex;refine cH (bN λw hw=>?_);subst hw;refine⟨QT w.heap.size,w.alloc (.mapIter (QB b) c #[] c),?_,jK _ _,?_⟩
 ·simp only[bg,execOp,hx];simp[Instr.range,run_underlying ht,MapKept.run_getObj_map h1,newObj,Result.andThen];rfl
 have hb:(w.alloc (.mapIter (QB b) c #[] c)).heap[b]? = QB (.map es c):=(heap_alloc_old _ _ (M7.1 h1).1).trans h1;have hl:(leftOf es #[]).toList=es.toList:=by unfold leftOf;simp
 refine hk _ (es.toList.map λx=>(x.key,x.val)) (by show(vw w.heap).le (vw (w.heap.push _));exact bA _ _) Sb ⟨es,c,#[],c,hb,h3,World.alloc_heap_new w _,MY _,by rw[hl]⟩ ?_ ?_ ?_
 ·rw[PR];exact h3.2.2
 ·intro u v hu;obtain⟨x,hx,e⟩:=ND.1 hu;cases e;exact h2 x hx
 intro u v hu;rw[<-h4 u v hu,ND];constructor
 ·rintro⟨x,hx,e⟩;cases e;exact⟨x,hx,rfl,rfl⟩
 rintro⟨x,hx,e1,e2⟩;exact⟨x,hx,by rw[e1,e2]⟩
theorem DT{es:Array MapEntry}{c:Nat}{seen:Array Nat}{e:MapEntry}(hs:Stamped es c)(he:e∈(leftOf es seen).toList): ∃a z,(leftOf es seen).toList=a++e::z/\(leftOf es (seen.push e.born)).toList=a++z:=by
 obtain⟨a,z,q⟩:=List.append_of_mem he;refine⟨a,z,q,?_⟩;have e1:(leftOf es (seen.push e.born)).toList=(leftOf es seen).toList.filter λx=>x.born != e.born:=by unfold leftOf;rw[Pt,Pt,List.filter_filter];refine PD λx _=>?_;rw[NH];simp;exact⟨λh=>⟨h.2,h.1⟩,λh=>⟨h.2,h.1⟩⟩
 have nd:((leftOf es seen).toList.map (·.born)).Nodup:=by refine hs.2.1.sublist (List.Sublist.map _ ?_);unfold leftOf;rw[Pt];exact List.filter_sublist
 rw[q]at nd;rw[Ov,N8]at nd;obtain⟨n1,n2,n3⟩:=N3.1 nd;obtain⟨n4,n5⟩:=OO.1 n2;rw[e1,q,O7,List.filter_cons_of_neg Sb];have f1:a.filter (λx=>x.born != e.born)=a:=List.filter_eq_self.2 λx hx=>by simp only[bne_iff_ne,ne_eq];exact λh=>n3 x.born (NZ hx) e.born (Ng) h
 have f2:z.filter (λx=>x.born != e.born)=z:=List.filter_eq_self.2 λx hx=>by simp only[bne_iff_ne,ne_eq];exact λh=>n4 (h▸NZ (f:=(·.born)) hx)
 rw[f1,f2]
theorem Cn{x:Operand}(hx:asg us x = QT r)(m:It h b r left)(h0:left=[]->K (.tuple #[.bool QG]) h)(h1 : ∀a p z h',left=a++p::z->h'.size=h.size->(∀j,j≠r->h'[j]? = h[j]?)->ItE h' b r p (a++z)->K (.tuple #[.bool QF,p.1,p.2]) h'):step P (.next x QG) ty us h K:=by
 obtain⟨es,s,q,c,a1,a2,a3,a4,rfl⟩:=m.ex;have hne:b≠r:=m.lt.2.2;refine cH (bN λw hw=>?_);subst hw;rcases run_next_at (P:=P) w ty r b s c q es s a3 a1 a2.1 a4 with⟨hz,hrun⟩ | ⟨e,he,w1,hw1,hrun⟩
 ·refine⟨.tuple #[.bool QG],w,?_,Same.refl _,h0 ?_⟩
  ·simp only[bg,execOp,hx];simp[hrun]
  rw[List.map_eq_nil_iff];exact Nl (by simpa using hz)
 obtain⟨a,z,e1,e2⟩:=DT a2 he;have hh:w1.heap=w.heap:=by rcases hw1 with rfl | rfl<;>rfl
 have hset:=MapKept.heap_set (o':=Obj.mapIter (QB b) s (q.push e.born) s) a3;refine⟨.tuple #[.bool QF,e.key,e.val],setBlock w1 r (.mapIter (QB b) s (q.push e.born) s),by simp only[bg,execOp,hx];simp[hrun],?_,h1 (a.map λx=>(x.key,x.val)) (e.key,e.val) (z.map λx=>(x.key,x.val)) _ (by rw[e1];simp) (by simp[setBlock,hh]) ?_ ?_⟩
 ·have s1:Same w w1:=by
   rcases hw1 with rfl | rfl
   ·exact Same.refl _
   exact⟨rfl,rfl,rfl,MY _,λ_ h=>h⟩
  refine s1.trans (Same.mI rfl rfl rfl (by simp[setBlock]) (g:=r) (by rw[hh];exact a3) Sb λk _ hk=>?_);simp only[setBlock,hh];exact hset.2 k hk
 ·intro j hj;simp only[setBlock,hh];exact hset.2 j hj
 refine⟨es,s,q,e,?_,a2,?_,?_,rfl,?_⟩
 ·simp only[setBlock,hh];rw[hset.2 b hne];exact a1
 ·simp only[setBlock,hh];exact hset.1
 ·unfold leftOf at he;rw[Pt]at he;exact(ON.1 he).1
 rw[e2,Ov]
theorem HN{x:Operand}(hx:asg us x = QT r)(m:ItE h b r p left)(hk:K (.tuple #[p.1,p.2]) h):step P (.entry x) ty us h K:=by obtain⟨es,s,q,e,a1,a2,a3,a4,rfl,_⟩:=m.ex;refine cH (bN λw hw=>?_);subst hw;refine⟨.tuple #[e.key,e.val],w,?_,Same.refl _,hk⟩;simp only[bg,execOp,hx];simp[run_entry_at (P:=P) w r b s q es s e a3 a1 a4 a2.2.1]
end
def JS:Value->Bool
 | .nilFunc=>QF
 | .func _ _ _=>QF
 | _=>QG
def xy:Value->Bool
 | .nilFunc=>QF
 | _=>QG
theorem Di{P:Program}{ty t rt:TypeId}{us:List (Nat × Value)}{h:Heap}{K:Value->Heap->Prop}{x y:Operand}{v:Value}{ps rs:Array TypeId}{vr:Bool}(hu:P.underlying t=QB (.func ps rs vr))(hv:JS v=QF)(hx:asg us x=v)(hy:asg us y = .nilFunc)(hk:K (.bool (xy v)) h):step P (.binOp .eql t x y rt) ty us h K:=by
 refine cH (bN λw hw=>⟨_,w,?_,Same.refl _,by rw[hw];exact hk⟩);simp only[bg,execOp,hx,hy];have e1:(Op.equal t v .nilFunc).run P w = .ok (xy v) w:=by show(Op.equalIn (9999+1) t _ _).run P w=_;rw[Op.equalIn];cases v<;>simp[JS]at hv<;>simp[run_underlying hu,xy]
 simp[eqGuard,binOp,e1]
end
end Go.Lft
