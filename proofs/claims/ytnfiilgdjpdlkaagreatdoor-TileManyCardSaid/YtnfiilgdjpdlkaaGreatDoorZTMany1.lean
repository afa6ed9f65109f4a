/- A part of the proof: LftY, LftZ, LftF, LftG, LftH, LftM, LftN, LftQ, LftU, LftJ, LftK, T, LftP, Ua, Law, Ga, La, Lb, Lc, Ld, Le, Lf, Lg, Lh. -/
import Derived.Test.YtnfiilgdjpdlkaaGreatDoorZTMany0
import Derived.ChangeKeysEq
import Derived.MapKept
import Derived.RecoverIn
import Derived.Test.YtnfiilgdjpdlkaaGreatDoorChecked
import Derived.KernelRfl
import Derived.ProofKit
import Derived.OpenShut
import Derived.HandedShaped
import Derived.LaidMore
import Derived.Test.YtnfiilgdjpdlkaaGreatDoorProg
set_option linter.unusedSimpArgs false
set_option linter.unusedVariables false
namespace Go.Lft
open Go
section
variable {po:OP} {pp:PP}
def fresh (h h':Heap):View:=fun b=>if b<h.size then none else h'[b]?
theorem ij(h h':Heap):(fresh h h').le (vw h'):=fun b o hb=>by
 unfold fresh at hb;split at hb
 ·cases hb
 exact hb
theorem lM(V:View)(h h':Heap):(fresh h h').le (grow V h h'):=fun b o hb=>by
 unfold fresh at hb;unfold grow;split at hb
 ·cases hb
 rename_i hlt;rw[if_neg hlt];exact hb
structure ic (h h':Heap) (v v':Value):Prop where
 kept:Kept h h' v.ownBlock
 at_:v'.ownBlock=v.ownBlock\/v'.ownBlock=some h.size
theorem ic.view {h h':Heap} {v v':Value} (m:ic h h' v v') {W:View} (hw:W.le (vw h)) (ha:Av W v):W.le (vw h')/\Av W v':=by
 refine⟨m.kept.view hw ha,fun b hb=>?_⟩;rcases m.at_ with e | e
 ·exact ha b (by rw[<-e];exact hb)
 rw[e]at hb;simp only[o0]at hb;exact View.cJ hw (by omega)
theorem Av.nil(W:View)(n c:Nat):Av W (.slice none n c):=fun b hb=>by simp[Value.ownBlock]at hb
section
variable {α:Type} [Rep α]
def OwnT (W:View) (h:Heap) (e:TypeId) (v:Value) (l:List α):Prop:=
 l.length<=140737488355328/\∃xs,oP h e (Rep.n α) v l.length xs/\∀(i:Nat) (hi:i<l.length),Rep.rd W ((xs.drop (i*Rep.n α)).take (Rep.n α)) l[i]
def SrcT (Ho Hi:View) (u:Value) (l:List α):Prop:=
 ∃a c,u = .slice a l.length c/\(a=none->l=[])/\∃news:List Value,news.length=l.length*Rep.n α/\(∀ad,a=some ad->∀j x,news[j]? = some x->ag Ho (ad.add j)=some x)/\
  ∀(i:Nat) (hi:i<l.length),Rep.rd Hi ((news.drop (i*Rep.n α)).take (Rep.n α)) l[i]
theorem OwnT.nil(W:View)(h:Heap)(e:TypeId):OwnT (α:=α) W h e (.slice none 0 0) []:=
 ⟨by simp,[],⟨by simp,.inl ⟨rfl,rfl⟩⟩,fun i hi=>by simp at hi⟩
variable {W:View} {h h':Heap} {e:TypeId} {v:Value} {l:List α}
theorem OwnT.len (o:OwnT W h e v l) {K:View}:Un.ev K .len v=some (.int .i64 l.length):=by
 obtain⟨_,xs,⟨_,hx⟩,_⟩:=o;rcases hx with⟨rfl,hn⟩ | ⟨g,cap,cur,rfl,_⟩
 ·rw[hn];rfl
 rfl
theorem OwnT.mono (o:OwnT W h e v l) {W':View} (hw:W.le W'):OwnT W' h e v l:=
 let ⟨b,xs,h1,h2⟩:=o
 ⟨b,xs,h1,fun i hi=>Rep.mono hw (h2 i hi)⟩
theorem OwnT.kept (o:OwnT W h e v l) {b:Option Nat} (k:Kept h h' b) (hb:v.ownBlock=none\/v.ownBlock≠b):OwnT W h' e v l:=
 let ⟨bd,xs,h1,h2⟩:=o
 ⟨bd,xs,h1.kept k hb,h2⟩
theorem OwnT.ext(o:OwnT W h e v l)(k:(vw h).le (vw h')):OwnT W h' e v l:=o.kept (ni k) (by cases v.ownBlock<;>simp)
variable{n:Nat}
theorem u0{xs:List Value}{len:Nat}(hl:xs.length=len*n)(hr : ∀(i:Nat),i<len->∀u∈(xs.drop (i*n)).take n,u.oneCell'=true): ∀u∈xs,u.oneCell'=true:=by
 intro u hu;obtain⟨j,hj,rfl⟩:=DO hu;have hn:0<n:=by
  rcases Fh n with h | h
  ·subst h;simp at hl;subst hl;simp at hj
  exact h
 have hlt:j / n<len:=by rw[Nat.div_lt_iff_lt_mul hn];omega
 refine hr (j / n) hlt _ ?_;have hm:=Nat.mod_lt j hn;have hd:=Nat.div_add_mod j n;have:((xs.drop (j / n*n)).take n)[j % n]? = some xs[j]:=by
  rw[Es,if_pos hm,Ff];have:j / n*n+j % n=j:=by rw[Nat.mul_comm];exact hd
  rw[this];exact Ee hj
 exact DY this
theorem xP{xs ys:List Value}{a i:Nat}(hx:xs.length=a*n):((xs++ys).drop (i*n)).take n=if i<a then(xs.drop (i*n)).take n else(ys.drop ((i-a)*n)).take n:=by
 split
 ·rename_i h;have h1:i*n+n<=a*n:=by rw[<-Nat.succ_mul];exact DP _ h
  rw[Ec (by omega),DZ (by simp;omega)]
 rename_i h;have h1:a*n<=i*n:=DP _ (by omega);have h2:(i-a)*n=i*n-a*n:=Nat.sub_mul ..;rw[EL,DX (by omega),D7,hx,h2]
variable{P:Program}{ty:TypeId}{bytes:Nat}{y:Operand}{us:List (Nat × Value)}{K:Value->Heap->Prop}
theorem fY{t:TypeId}{z:Value}{x:Operand}{u:Value}{l2:List α}(hT:eR P t e (Rep.n α) bytes z)(hx:asg us x=v)(hy:asg us y=u)(ho:OwnT W h e v l)(hs:SrcT (vw h) W u l2)(hb:(l.length+l2.length)*bytes<=140737488355328)(hb2:l.length+l2.length<=140737488355328)(hk : ∀v' h',OwnT W h' e v' (l++l2)->ic h h' v v'->K v' h'):step P (.call ⟨.builtin .append,#[x,y],#[t,t]⟩) ty us h K:=by
 obtain⟨hbd,xs,h1,h2⟩:=ho;obtain⟨a,c,rfl,hnil,news,h3,h4,h5⟩:=hs;refine cf (bE fun w hw=>?_);subst hw;have hflat : ∀u∈news,u.oneCell'=true:=u0 h3 fun i hi=>Rep.flat (h5 i hi);obtain⟨v',w',g1,g2,g3,g4,g5⟩:=vF hT (ty:=ty) h1 h3 (fun ad ha j u hu=>h4 ad ha j u hu) (c:=c) (fun ha=>by rw[hnil ha];rfl) hflat hb hb2;refine⟨v',w',?_,g2,hk v' w'.heap ⟨by simpa using hb2,xs++news,by simpa using g3,fun i hi=>?_⟩ ⟨g4,g5⟩⟩
 ·simp only[aL,execOp];simp[resolve,invoke,builtin,hx,hy,g1]
 rw[xP h1.1];split
 ·rename_i hlt;rw[F4 hlt];exact h2 i hlt
 rename_i hge;rw[FW (by omega)];exact h5 (i-l.length) (by simp at hi;omega)
variable{H:View}
theorem SlRd.src{K:View}(s:SlRd H v l)(hk:H.le K):SrcT K H v l:=by
 obtain⟨a,cap,rfl,h1,h2,h3⟩:=s;rcases h3 with rfl | ⟨ad,rfl,hs,hat⟩
 ·exact⟨a,cap,rfl,fun _=>rfl,[],by simp,fun _ _ j x hx=>by simp at hx,fun i hi=>by simp at hi⟩
 refine⟨some ad,cap,rfl,(fun h=>by cases h),?_⟩;cases hl:l with
 | nil=>exact⟨[],by simp,fun _ _ j x hx=>by simp at hx,fun i hi=>by simp at hi⟩
 | cons d0 l0=>
  rw[<-hl];have hpos:0<l.length:=by rw[hl];simp
  obtain⟨cs0,⟨c,T,fz,_,hb,_⟩,_⟩:=hat 0 hpos;have hblk:H ad.block=some (.cells c T fz):=by rw[aM hs]at hb;exact hb
  have hcs : ∀(i:Nat) (hi:i<l.length),Rep.rd H ((c.toList.drop (ad.off+i*Rep.n α)).take (Rep.n α)) l[i]:=by intro i hi;obtain⟨cs,⟨c',T',fz',_,hb',he⟩,hr⟩:=hat i hi;rw[aM hs]at hb' he;simp only at hb' he;rw[hblk]at hb';cases hb';rw[Rep.len hr]at he;rw[he];exact hr
  have htot:ad.off+l.length*Rep.n α<=c.toList.length:=by
   have:=Rep.len (hcs (l.length-1) (by omega));have hn:=Rep.pos (α:=α);simp only[Ef,DV]at this;have e1:l.length*Rep.n α=(l.length-1)*Rep.n α+Rep.n α:=by rw[<-Nat.succ_mul];congr 1;omega
   omega
  refine⟨(c.toList.drop ad.off).take (l.length*Rep.n α),?_,?_,?_⟩
  ·simp only[Ef,DV];omega
  ·intro ad' e j x hx;cases e;have hj:j<l.length*Rep.n α:=by
    rcases DA j (l.length*Rep.n α)with h | h
    ·exact h
    rw[D1 (by simp;omega)]at hx;cases hx
   rw[Es,if_pos hj,Ff]at hx;rw[aM hs];simp only[ag,hk _ _ hblk];simpa using hx
  intro i hi;have h1:i*Rep.n α+Rep.n α<=l.length*Rep.n α:=by rw[<-Nat.succ_mul];exact DP _ hi
  rw[Eu,Ev,EK,Ew (by omega)];exact hcs i hi
variable{V:View}
theorem OwnT.rd(o:OwnT W h e v l)(hw:W.le V)(hv : ∀b,v.ownBlock=some b->V b=h[b]?):SlRd V v l:=by
 obtain⟨hbd,xs,⟨hx,hown⟩,hel⟩:=o;rcases hown with⟨rfl,hn⟩ | ⟨g,cap,cur,rfl,hg,h1,h2,h3,h4⟩
 ·have:l=[]:=DR hn;subst this;exact⟨none,0,rfl,by simp,by simp,.inl rfl⟩
 refine⟨some ⟨g,0,none⟩,cap,rfl,h1,hbd,.inr ⟨_,rfl,rfl,fun i hi=>?_⟩⟩;refine⟨(xs.drop (i*Rep.n α)).take (Rep.n α),⟨cur,e,(0,0),?_,?_,?_⟩,Rep.mono hw (hel i hi)⟩
 ·rw[aM rfl]
 ·rw[aM rfl];rw[hv g rfl];exact hg
 rw[aM rfl,Rep.len (hel i hi)];have hle:i*Rep.n α+Rep.n α<=l.length*Rep.n α:=by rw[<-Nat.succ_mul];exact DP _ hi
 rw[<-h4,Eu,Ev];simp only[Em];rw[Ew (by omega)]
theorem OwnT.fresh {h0:Heap} (o:OwnT W h e v l) (hW:W.le (fresh h0 h)) (ha:Av (vw h0) v):SlRd (Lft.fresh h0 h) v l:=by
 refine o.rd hW fun b hb=>?_;have:=ha b hb;simp only[vw]at this;have hge:h0.size<=b:=by
  rcases DA b h0.size with h | h
  ·simp[h]at this
  exact h
 simp only[Lft.fresh,if_neg (Gg.2 hge)]
theorem rF{t:TypeId}{z:Value}{x:Operand}{u:Value}{d:α}(hT:eR P t e (Rep.n α) bytes z)(hx:asg us x=u)(hr:Rd W u d)(hk : ∀u' h',SrcT (vw h') W u' [d]->(vw h).le (vw h')->h'.size=h.size+1->K u' h'):step P (.buildSlice t 1 #[(0,x)]) ty us h K:=by
 have hTT:=hT;obtain⟨ht,⟨i,hi,hz,hsize,hby⟩,hzs,hsz,hsmall⟩:=hT;have hcells:Rep.rd W u.cells.toList d/\u.cells.size=Rep.n α:=by
  unfold Rd at hr;split at hr
  ·obtain⟨cs,rfl,h⟩:=hr;exact⟨h,by rw[<-Rep.len h];rfl⟩
  rename_i ha;have hone:=Rep.one (α:=α) (by simpa using ha);have hfl:=Rep.flat hr u (by simp);have:u.cells = #[u]:=by cases u<;>first | rfl | simp[Value.oneCell']at hfl
  rw[this];exact⟨by simpa using hr,by simp[hone]⟩
 have hfill:Instr.fill (fun j=>some (j*Rep.n α,Rep.n α)) ((Array.range (1*Rep.n α)).map (z.cells[· % z.cells.size]!)) [(0,u)]=some u.cells:=by
  have hlen : ∀(A:Array Value) (cs:Array Value),A.size=cs.size->cs.zipIdx.foldl (fun cs' (p:Value × Nat)=>cs'.setIfInBounds (0+p.2) p.1) A=cs:=by
   intro A cs hA;have key : ∀(l:List Value) (k:Nat) (B:Array Value),B.size=k+l.length->((l.zipIdx k).foldl (fun cs' (p:Value × Nat)=>cs'.setIfInBounds (0+p.2) p.1) B).toList=B.toList.take k++l:=by
    intro l;induction l with
    | nil=>intro k B hB;simp at hB;simp only[List.zipIdx_nil,List.foldl_nil,EF];rw[DH (by simp[hB])]
    | cons y l ih=>
     intro k B hB;simp only[FB,DS];rw[ih (k+1) _ (by simp at hB ⊢;omega)];simp only[Em,FL];have hk:k<B.toList.length:=by simp at hB ⊢;omega
     rw[DK (by simpa using hk)];simp[E5]
   rw[<-Array.toList_inj,<-Array.foldl_toList,Array.toList_zipIdx];have:=key cs.toList 0 A (by simpa using hA);simpa using this
  simp only[Instr.fill,FH,Em,Array.size_map,Array.size_range,Gc,hcells.2,ne_eq,not_true,decide_false,Gf,gt_iff_lt,Nat.lt_irrefl];simp only[Er,if_false];congr 1;have:=hlen ((Array.range (Rep.n α)).map (z.cells[· % z.cells.size]!)) u.cells (by simp[hcells.2]);simpa using this
 refine jD ht hi hz hsize (by omega) (vs:=[(0,u)]) (by simp[hx]) hfill (hk _ _ ?_ (bG _ _) (by simp));refine⟨some ⟨h.size,0,none⟩,1,rfl,(fun h=>by cases h),u.cells.toList,by simp[hcells.2],?_,?_⟩
 ·intro ad e j x hx;cases e;rw[aM rfl];simp only[ag,vw,E8];simpa using hx
 intro i hi';simp only[Ek,Fc,Em,Nat.lt_one_iff]at hi';subst hi';have:(u.cells.toList.take (Rep.n α))=u.cells.toList:=by rw[DH];simp[hcells.2]
 simpa[this]using hcells.1
theorem qZ{t:TypeId}{z:Value}{x:Operand}{k:IntKind}{d:α}(hT:eR P t e (Rep.n α) bytes z)(hx:asg us x = .int k n)(hy:asg us y = .int k n)(hr:Rep.rd W z.cells.toList d)(hb:bytes*n<=140737488355328)(hb2:n<=140737488355328)(hk : ∀v' h',OwnT W h' e v' (List.replicate n d)->ic h h' (.slice none 0 0) v'->(vw h).le (vw h')->v'.ownBlock=some h.size->K v' h'):step P (.makeSlice t x y) ty us h K:=by
 obtain⟨ht,⟨i,hi,hz,hsize,hby⟩,hzs,hsz,hsmall⟩:=hT;refine cf (bE fun w hw=>?_);subst hw;have hrun:=run_make (P:=P) w t e i z ht hi hz k k (n:Int) (n:Int) (by omega) (Int.le_refl _) (by
  rw[hby];have:((bytes*n:Nat):Int)<=281474976710656:=by omega
  rwa [Int.natCast_mul]at this) (by omega);simp only[DN]at hrun;refine⟨.slice (some ⟨w.heap.size,0,none⟩) n n,w.alloc (.cells (madeCells z.cells (n*i.size)) e),?_,eM _ _,hk _ _ ?_ ⟨Kept.push _ _ _,.inr rfl⟩ (bG _ _) rfl⟩
 ·simp only[aL,execOp,hx,hy];simp[hrun]
 refine⟨by simpa using hb2,((madeCells z.cells (n*Rep.n α)).toList.take (n*Rep.n α)),⟨by simp[size_madeCells],.inr ⟨w.heap.size,n,madeCells z.cells (n*Rep.n α),by simp,?_,by simp,by simp only[maxLen];omega,by simp[size_madeCells],by simp⟩⟩,?_⟩
 ·rw[hsize];exact heap_alloc_new w _
 intro j hj;simp only[D2]at hj;have he:((((madeCells z.cells (n*Rep.n α)).toList.take (n*Rep.n α)).drop (j*Rep.n α)).take (Rep.n α))=z.cells.toList:=by
  have h1:j*Rep.n α+Rep.n α<=n*Rep.n α:=by rw[<-Nat.succ_mul];exact DP _ hj
  refine EA ?_ fun m hm1 hm2=>?_
  ·simp[size_madeCells,hzs];omega
  simp only[Ef,DV]at hm1;simp only[List.getElem_take,Fm,madeCells,Array.toList_map,List.getElem_map,Array.toList_range,List.getElem_range];have hm:m<z.cells.size:=by simpa using hm2
  have hmod:(j*Rep.n α+m) % z.cells.size=m:=by rw[hzs,Nat.mul_comm,Nat.mul_add_mod];exact Nat.mod_eq_of_lt (by omega)
  rw[hmod];simp[hm]
 rw[he];simpa using hr
theorem pb{t:TypeId}{x:Operand}{i:Nat}{u:Value}{d:α}(hsz:cH P t=some (Rep.n α))(hx:asg us x = .pointer (some ((slA v).add (i*Rep.n α))))(hy:asg us y=u)(ho:OwnT W h e v l)(hi:i<l.length)(hr:Rd W u d)(hk : ∀h',OwnT W h' e v (l.set i d)->ic h h' v v->K undef h'):step P (.store t x y) ty us h K:=by
 have hcells:Rep.rd W u.cells.toList d/\u.cells.size=Rep.n α:=by
  unfold Rd at hr;split at hr
  ·obtain⟨cs,rfl,h⟩:=hr;exact⟨h,by rw[<-Rep.len h];rfl⟩
  rename_i ha;have hone:=Rep.one (α:=α) (by simpa using ha);have hfl:=Rep.flat hr u (by simp);have:u.cells = #[u]:=by cases u<;>first | rfl | simp[Value.oneCell']at hfl
  rw[this];exact⟨by simpa using hr,by simp[hone]⟩
 obtain⟨hbd,xs,⟨hxl,hown⟩,hel⟩:=ho;refine cf (kZ fun w hw=>?_);subst hw;rcases hown with⟨rfl,hn⟩ | ⟨g,cap,cur,rfl,hg,h1,h2,h3,h4⟩
 ·omega
 have hle:i*Rep.n α+Rep.n α<=l.length*Rep.n α:=by rw[<-Nat.succ_mul];exact DP _ hi
 have hcap:l.length*Rep.n α<=cap*Rep.n α:=DP _ h1;have hlen:u.cells.toList.length=Rep.n α:=by simpa using hcells.2
 have hrun:=run_storeCells_at P g (i*Rep.n α) e u.cells.toList 0 cur w hg (by simp only[Nat.add_zero];omega) (fun c hc=>Rep.flat hcells.1 c hc);have hadd:(slA (.slice (some ⟨g,0,none⟩) l.length cap)).add (i*Rep.n α)=⟨g,i*Rep.n α,none⟩:=by show(⟨g,0,none⟩:Addr).add _=_;rw[aM rfl];simp
 have hszr:=run_sizeOf (P:=P) (w:=w) hsz;obtain⟨row,hrow⟩ : ∃row:Array Value,row.toList=cur.toList.take (i*Rep.n α)++u.cells.toList++cur.toList.drop (i*Rep.n α+Rep.n α):=⟨(cur.toList.take (i*Rep.n α)++u.cells.toList++cur.toList.drop (i*Rep.n α+Rep.n α)).toArray,rfl⟩;have hrun':Sem.run P (storeCells ⟨g,i*Rep.n α,none⟩ u.cells.toList) w = .ok () (w.setRow g row):=by rw[hrun];congr 2;rw[<-Array.toList_inj,hrow,hlen];rfl
 have hrsz:row.size=cap*Rep.n α:=by have:=congrArg List.length hrow;simp only[EJ,DT,Ef,DV,hcells.2]at this;omega
 refine⟨w.setRow g row,?_,Same.lE rfl rfl rfl (by simp) hg (by simp) (fun k _ hne=>setRow_other w g k _ (fun e=>hne e)),hk (w.setRow g row).heap ⟨by simpa using hbd,xs.take (i*Rep.n α)++u.cells.toList++xs.drop (i*Rep.n α+Rep.n α),⟨?_,.inr ⟨g,cap,row,by simp,setRow_heap w g cur row e _ hg,by simpa using h1,h2,?_,?_⟩⟩,?_⟩ ⟨⟨by simp,fun k hk hne=>setRow_other w g k _ (fun e=>hne (by simp[Value.ownBlock,e]))⟩,.inl rfl⟩⟩
 ·simp only[aL,execOp,hx,hy,hadd];simp[Instr.storeAt,Instr.sureAddr,storeVar,hszr,hcells.2,hrun']
 ·simp only[DT,Ef,DV,hlen,Ej];omega
 ·exact hrsz
 ·simp only[Ej];rw[hrow,<-h4,Ev,Ew (by omega),DG,DG];have e1:(cur.toList.take (i*Rep.n α)).length=i*Rep.n α:=by simp;omega
  rw[EB,e1,DH (by omega)];congr 1;rw[EB,hlen,DH (by omega)];congr 1;rw[Eu];congr 1;omega
 intro j hj;simp only[Ej]at hj;have hjle:j*Rep.n α+Rep.n α<=l.length*Rep.n α:=by rw[<-Nat.succ_mul];exact DP _ hj
 have e1:(xs.take (i*Rep.n α)).length=i*Rep.n α:=by simp;omega
 by_cases hij:i=j
 ·subst hij;rw[DG,EL,e1,DX (by omega),D7,F6,E0,DZ (by omega),DH (by omega)];simpa using hcells.1
 have hset:(l.set i d)[j]'(by simpa using hj)=l[j]:=by simp[hij]
 rw[hset];have:((xs.take (i*Rep.n α)++u.cells.toList++xs.drop (i*Rep.n α+Rep.n α)).drop (j*Rep.n α)).take (Rep.n α)=(xs.drop (j*Rep.n α)).take (Rep.n α):=by
  rcases DA j i with hlt | hge
  ·have h5:j*Rep.n α+Rep.n α<=i*Rep.n α:=by rw[<-Nat.succ_mul];exact DP _ hlt
   rw[DG,Ec (by omega),DZ (by simp;omega),Eu,Ev,Ew (by omega)]
  have h5:i*Rep.n α+Rep.n α<=j*Rep.n α:=by rw[<-Nat.succ_mul];exact DP _ (by omega)
  have e2:(xs.take (i*Rep.n α)++u.cells.toList).length=i*Rep.n α+Rep.n α:=by rw[DT,e1,hlen]
  rw[EL,DX (by omega),D7,e2,EK];congr 2;omega
 rw[this];exact hel j hj
end
end
section
variable {po po2 po3:OP} {pp:PP}
def up {β:Type} (f:Nat->β->β):Nat->β->β
 | 0,x=>x
 | k+1,x=>f k (up f k x)
def Old (V:View) (h0:Heap) (W:View):Prop:=∀b o,b<h0.size->W b=some o->V b=some o
theorem Old.refl(V:View)(h0:Heap):Old V h0 V:=fun _ _ _ h=>h
theorem Old.nothing (V:View) (h0:Heap):Old V h0 nothing:=fun _ _ _ h=>by cases h
theorem Old.grow {V W:View} {h0 h1 h2:Heap} (o:Old V h0 W) (hs:h0.size<=h1.size):Old V h0 (grow W h1 h2):=fun b x hb hx=>by unfold Lft.grow at hx;rw[if_pos (by omega)]at hx;exact o b x hb hx
theorem Old.le {V W:View} {h0 h:Heap} (o:Old V h0 W) (hw:W.le (vw h)):W.le (Lft.grow V h0 h):=fun b x hx=>by
 unfold Lft.grow;split
 ·exact o b x (by assumption) hx
 exact hw b x hx
variable{H:View}
@[simp] theorem bO:nothing.le H:=fun _ _ h=>by cases h
theorem y4(h h':Heap):fresh h h'=Lft.grow nothing h h':=by funext b;unfold fresh Lft.grow;rfl
section
variable {α:Type} [Rep α] {V W:View} {h0 h h':Heap} {e:TypeId} {v:Value} {l:List α}
theorem OwnT.lt(o:OwnT W h e v l){b:Nat}(hb:v.ownBlock=some b):b<h.size:=by
 obtain⟨_,xs,⟨_,hown⟩,_⟩:=o;rcases hown with⟨rfl,_⟩ | ⟨g,cap,cur,rfl,hg,_⟩
 ·simp[Value.ownBlock]at hb
 simp only[Value.ownBlock,o0]at hb;subst hb;exact(Dx.1 hg).1
theorem OwnT.now(o:OwnT W h e v l)(hw:W.le (vw h)):SlRd (vw h) v l:=o.rd hw fun _ _=>rfl
theorem OwnT.grown(o:OwnT W h e v l)(hw:W.le (vw h))(ho:Old V h0 W)(ha:Av (vw h0) v):SlRd (Lft.grow V h0 h) v l:=by
 refine o.rd (ho.le hw) fun b hb=>?_;have:=ha b hb;simp only[vw]at this;have hge:h0.size<=b:=by
  rcases DA b h0.size with h | h
  ·simp[h]at this
  exact h
 simp only[Lft.grow,if_neg (Gg.2 hge)]
theorem Av.grow (ha:Av W v) (hl : ∀b,v.ownBlock=some b->b<h.size):Av (Lft.grow W h h') v:=fun b hb=>by unfold Lft.grow;rw[if_pos (hl b hb)];exact ha b hb
structure Mine (V:View) (h0 h:Heap) (W:View) (e:TypeId) (v:Value) (l:List α):Prop where
 old:(vw h0).le (vw h)
 wle:W.le (vw h)
 av:Av W v
 av0:Av (vw h0) v
 agree:Old V h0 W
 own:OwnT W h e v l
theorem Mine.start(hV:V.le (vw h)):Mine (α:=α) V h h V e (.slice none 0 0) []:=
 ⟨View.le_refl _,hV,Av.nil _ _ _,Av.nil _ _ _,Old.refl _ _,OwnT.nil ..⟩
theorem Mine.ext (m:Mine V h0 h W e v l) (k:(vw h).le (vw h')):Mine V h0 h' (Lft.grow W h h') e v l:=
 ⟨View.le_trans m.old k,iJ (View.le_trans m.wle k),m.av.grow fun _ hb=>m.own.lt hb,m.av0,m.agree.grow (cO m.old),(m.own.ext k).mono (dg m.wle)⟩
theorem Mine.ext'(m:Mine V h0 h W e v l)(k:(vw h).le (vw h')):Mine V h0 h' W e v l:=
 ⟨View.le_trans m.old k,View.le_trans m.wle k,m.av,m.av0,m.agree,m.own.ext k⟩
theorem Mine.result(m:Mine V h0 h W e v l):SlRd (Lft.grow V h0 h) v l:=m.own.grown m.wle m.agree m.av0
theorem Mine.fresh (m:Mine nothing h0 h W e v l):SlRd (Lft.fresh h0 h) v l:=by rw[y4];exact m.result
theorem Mine.now (m:Mine V h0 h W e v l):SlRd (vw h) v l:=m.own.now m.wle
theorem Mine.jE{v':Value}{l':List α}(m:Mine V h0 h W e v l)(o:OwnT W h' e v' l')(k:ic h h' v v'):Mine V h0 h' W e v' l':=
 let ⟨a1,a2⟩:=k.view m.wle m.av
 let ⟨b1,b2⟩:=k.view m.old m.av0
 ⟨b1,a1,a2,b2,m.agree,o⟩
variable{P:Program}{ty ty2:TypeId}{bytes:Nat}{y:Operand}{us:List (Nat × Value)}{us2:Value->List (Nat × Value)}
theorem Mine.push{t:TypeId}{z:Value}{x y2:Operand}{u:Value}{d:α}{K:Value->Value->Heap->Prop}(m:Mine V h0 h W e v l)(hT:eR P t e (Rep.n α) bytes z)(hx:asg us x=u)(hr:Rd W u d)(hb:(l.length+1)*bytes<=140737488355328)(hb2:l.length+1<=140737488355328)(hy : ∀u,asg (us2 u) y=v)(hy2 : ∀u,asg (us2 u) y2=u)(hk : ∀u v' h',Mine V h0 h' W e v' (l++[d])->K u v' h'):
  @step po P (.buildSlice t 1 #[(0,x)]) ty us h fun u h2=>@step po2 P (.call ⟨.builtin .append,#[y,y2],#[t,t]⟩) ty2 (us2 u) h2 fun v' h3=>K u v' h3:=by refine rF hT hx hr fun u h2 hs hle _=>?_;have m2:=m.ext' hle;exact fY hT (hy u) (hy2 u) m2.own hs hb hb2 fun v' h3 ho hm=>hk u v' h3 (m2.jE ho hm)
variable{n:Nat}{K:Value->Heap->Prop}
theorem Mine.made{t:TypeId}{z:Value}{x:Operand}{k:IntKind}{d:α}(hT:eR P t e (Rep.n α) bytes z)(hle:(vw h0).le (vw h))(hW:W.le (vw h))(ho:Old V h0 W)(hx:asg us x = .int k n)(hy:asg us y = .int k n)(hr:Rep.rd W z.cells.toList d)(hb:bytes*n<=140737488355328)(hb2:n<=140737488355328)(hk : ∀v' h',Mine V h0 h' W e v' (List.replicate n d)->(vw h).le (vw h')->v'.ownBlock=some h.size->K v' h'):step P (.makeSlice t x y) ty us h K:=
 qZ hT hx hy hr hb hb2 fun v' h' ow mv le hb=>hk v' h' ⟨View.le_trans hle le,View.le_trans hW le,fun b hb'=>by rw[hb]at hb';cases hb';exact View.cJ hW (Dy _),fun b hb'=>by rw[hb]at hb';cases hb';exact View.cJ hle (Dy _),ho,ow⟩ le hb
theorem Mine.put{t:TypeId}{x:Operand}{i:Nat}{u:Value}{d:α}(m:Mine V h0 h W e v l)(hsz:cH P t=some (Rep.n α))(hx:asg us x = .pointer (some ((slA v).add (i*Rep.n α))))(hy:asg us y=u)(hi:i<l.length)(hr:Rd W u d)(hk : ∀h',Mine V h0 h' W e v (l.set i d)->K undef h'):step P (.store t x y) ty us h K:=
 pb hsz hx hy m.own hi hr fun h' ho hm=>hk h' (m.jE ho hm)
theorem Mine.put1{t:TypeId}{x:Operand}{i:Nat}{u:Value}{d:α}(m:Mine V h0 h W e v l)(hsz:cH P t=some (Rep.n α))(hn:Rep.n α=1)(hx:asg us x = .pointer (some ((slA v).add i)))(hy:asg us y=u)(hi:i<l.length)(hr:Rd W u d)(hk : ∀h',Mine V h0 h' W e v (l.set i d)->K undef h'):step P (.store t x y) ty us h K:=
 m.put hsz (i:=i) (by rw[hn,Ea];exact hx) hy hi hr hk
end
variable{β:Type}
theorem xA{f:Nat->List β->List β}{m:Nat}(hf : ∀k x,(f k x).length<=x.length+m)(n:Nat)(x:List β):(up f n x).length<=x.length+n*m:=by
 induction n with
 | zero=>simp[up]
 | succ n ih=>have:=hf n (up f n x);rw[up,D9];omega
def sift {β:Type} (p:Nat->Bool) (x:Nat->β) (n:Nat):List β:=up (fun b l=>if p b then l++[x b] else l) n []
theorem rU{p:Nat->Bool}{x:Nat->β}(n:Nat):(sift p x n).length<=n:=by have:=xA (f:=fun b l=>if p b then l++[x b] else l) (m:=1) (fun k x=>by split<;>simp) n [];simpa[sift]using this
variable{n:Nat}
theorem mY{p:Nat->Bool}{x:Nat->β}(h:p n=true):sift p x (n+1)=sift p x n++[x n]:=by rw[sift,up,if_pos h];rfl
theorem lG{p:Nat->Bool}{x:Nat->β}(h:p n=false):sift p x (n+1)=sift p x n:=by rw[sift,up,if_neg (by simp[h])];rfl
def rows {β:Type} (x:Nat->β) (n:Nat):List β:=(List.range n).map x
theorem fA{x:Nat->β}:rows x (n+1)=rows x n++[x n]:=by simp[rows,ER]
@[simp] theorem sY{x:Nat->β}:(rows x n).length=n:=by simp[rows]
@[simp] theorem BS{x:Nat->β}:rows x 0=[]:=rfl
@[simp] theorem Cb{p:Nat->Bool}{x:Nat->β}:sift p x 0=[]:=rfl
theorem kM{p:Nat->Bool}{x:Nat->β}:sift p x n=((List.range n).filter p).map x:=by
 induction n with
 | zero=>rfl
 | succ n ih=>
  rw[ER,FM,Fa,<-ih];cases h:p n with
  | true=>rw[mY h];simp[h]
  | false=>rw[lG h];simp[h]
theorem mf{x:Nat->β}{d:β}{k:Nat}(hk:k<n):(rows x k++List.replicate (n-k) d).set k (x k)=rows x (k+1)++List.replicate (n-(k+1)) d:=by
 have e:n-k=(n-(k+1))+1:=by omega
 rw[List.set_append_right _ _ (by simp),sY,F6,e,List.replicate_succ,List.set_cons_zero,fA,DG];rfl
theorem eu[Inhabited β]{x:Nat->β}{i:Nat}(h:i<n):nth (rows x n) i=x i:=by rw[aq (by simpa using h)];simp[rows]
theorem vz{h h1 h2:Heap}(hle:(vw h).le (vw h1)):(fresh h1 h2).le (fresh h h2):=fun b o hb=>by
 have:=cO hle;unfold fresh at hb ⊢;split at hb
 ·cases hb
 rw[if_neg (by omega)];exact hb
variable{P:Program}{bytes:Nat}
theorem gC{t e size:Nat}{z:Value}(ht:P.underlying t=some (.slice e))(h:(P.info? e).map (fun i=>(i.zero,i.size,i.bytes))=some (some z,size,bytes))(hz:z.cells.size=size)(hs:0<size/\size<=1000):eR P t e size bytes z:=by simp only[Dw,Ey]at h;obtain⟨i,h1,h2,h3,h4⟩:=h;exact⟨ht,⟨i,h1,h2,h3,h4⟩,hz,hs.1,hs.2⟩
theorem lX{a:Int}(h0:-9223372036854775808<=a)(h1:a<=9223372036854775807):Rd H (.int .i64 a) a:=bh.2 ⟨rfl,h0,h1⟩
theorem CY{b:Bool}:Rd H (.bool b) b:=qI.2 rfl
end
section
variable {po:OP} {pp:PP}
variable{ρ:Env}
theorem aY{ts:List Nat}{u:Nat}:look (bu ρ ts) u=if ts.contains u then none else look ρ u:=by
 induction ρ with
 | nil=>simp
 | cons p ρ ih=>
  obtain⟨k,x⟩:=p;rw[gX];by_cases hk:ts.contains k=true
  ·simp only[hk,if_true,ih,nz];split
   ·rfl
   rename_i h;split
   ·rename_i e;subst e;exact absurd hk h
   rfl
  rw[if_neg hk,nz,nz,ih];by_cases h1:k=u
  ·subst h1;rw[if_pos rfl,if_pos rfl,if_neg hk]
  rw[if_neg h1,if_neg h1]
theorem mU {ρ ρ':Env} : ∀{ks:List Nat},(∀t∈ks,look ρ t=look ρ' t)->dA ks ρ=dA ks ρ'
 | [],_=>rfl
 | k::ks,h=>by have ih:dA ks ρ=dA ks ρ':=mU fun t ht=>h t (DB _ ht);simp only[dA,h k Dz,ih]
theorem mh{ts:List Nat}(h : ∀p∈ρ,ts.contains p.1=false):bu ρ ts=ρ:=by
 induction ρ with
 | nil=>rfl
 | cons p ρ ih=>obtain⟨k,x⟩:=p;have h1:=h (k,x) Dz;simp only at h1;rw[gX,h1,if_neg (by simp),ih (fun p hp=>h p (DB _ hp))]
theorem oz{t:Nat}{v:Value}(h : ∀p∈ρ,p.1≠t):bu (setE ρ t v) [t]=ρ:=by
 have hid:bu ρ [t]=ρ:=mh fun p hp=>by simpa using fun e=>h p hp e
 induction ρ with
 | nil=>simp[setE]
 | cons p ρ ih=>
  obtain⟨k,x⟩:=p;have hk:=h (k,x) Dz;simp only at hk;have hid2:bu ρ [t]=ρ:=mh fun p hp=>by simpa using fun e=>h p (DB _ hp) e
  simp only[setE,if_neg hk];split
  ·rw[gX,if_pos (by simp),hid]
  rw[gX,if_neg (by simpa using hk),ih (fun p hp=>h p (DB _ hp)) hid2]
theorem nD{X Y:Env->Heap->Prop}{R:Post}:gy X (gy Y R)=gy X R:=by funext e ρ h;cases e<;>rfl
abbrev forL (a i c:Nat) (ks ks2:List Nat) (bound:E) (body:LC):LC:=
 .loop (.seq (.seq (.reg false (.fin ks [(c,.bin (.cmp .lss) (.tmp i) bound)] [])) (.cond (.tmp c) [c] .skip (.exit a)))
  (.seq body (.reg false (.fin ks2 [(i,.bin (.arith .add) (.tmp i) (.con (.int .i64 1)))] []))))
def wG (kp ks ks2:List Nat) (c i:Nat):Bool:=kp.all fun t=>!ks.contains t&&t != c&&(t == i||!ks2.contains t)
theorem zip_fst{kp:List Nat}{vs:List Value}{p:Nat × Value}(h:p∈kp.zip vs):p.1∈kp:=(List.of_mem_zip h).1
variable{P:Program}{body:LC}
theorem re{Q:Post}{h:Heap}{a i c:Nat}{ks ks2:List Nat}{bound:E}{σ:Type}(kp:List Nat)(vals:σ->Nat->List Value)(J:σ->Nat->Heap->Prop)(n:Nat)(s0:σ)(hok:wG kp ks ks2 c i=true)(hn:n<=9223372036854775806)(h0:dA kp ρ=kp.zip (vals s0 0))(hj:J s0 0 h)(hi : ∀s k,look (kp.zip (vals s k)) i=some (.int .i64 k))(hb : ∀s k h,k<=n->J s k h->ev (look (kp.zip (vals s k))) (vw h) bound=some (.int .i64 n))(round : ∀s k h,k<n->J s k h->∀K:Env->Heap->Prop,(∀s' ρ' h',look ρ' i=some (.int .i64 k)->dA kp (setE ρ' i (.int .i64 ((k:Int)+1)))=kp.zip (vals s' (k+1))->J s' (k+1) h'->K ρ' h')->body.wp P (gy K (iX a Q)) (kp.zip (vals s k)) h)(done : ∀s h,J s n h->Q .normal (kp.zip (vals s n)) h):LC.wp P (forL a i c ks ks2 bound body) (iX a Q) ρ h:=by
 simp only[wG,D3,DC,Fp,bne_iff_ne,Ed,beq_iff_eq,ne_eq]at hok;refine je kp (fun m ρ h=>∃s k,k<=n/\ρ=kp.zip (vals s k)/\m=n-k/\J s k h) n ⟨s0,0,by omega,h0,by omega,hj⟩ ?_;rintro m ρ h ⟨s,k,hk,rfl,rfl,hJ⟩ K hK;have hkill:bu (kp.zip (vals s k)) ks=kp.zip (vals s k):=mh fun p hp=>(hok p.1 (zip_fst hp)).1.1;have hne : ∀p∈kp.zip (vals s k),p.1≠c:=fun p hp=>(hok p.1 (zip_fst hp)).1.2
 have hk2 : ∀v,bu (setE (kp.zip (vals s k)) c v) [c]=kp.zip (vals s k):=fun v=>oz hne;have hlk : ∀v,look (setE (kp.zip (vals s k)) c v) c=some v:=fun v=>by rw[aI,if_pos rfl]
 simp only[vX,oo,kG,gT,lT,oc,kQ,rA,hi,hb s k h hk hJ,D0,zx,kl,n8,true_and,cG,hkill,gR,mJ,hlk,lV,hk2,te,s8,oR,oq,if_true];refine⟨fun hlt=>?_,fun hge=>?_⟩
 ·have hlt':k<n:=by omega
  rw[nD];refine round s k h hlt' hJ _ fun s' ρ' h' hl he hJ'=>?_;simp only[oo,kG,gT,lT,oc,kQ,rA,hl,n8,true_and,D0,zn,D0,zo,kl,cG,gR,true_and];rw[cj (by omega) (by omega)];refine hK (n-(k+1)) _ _ (by omega) ⟨s',k+1,by omega,?_,rfl,hJ'⟩;rw[<-he];refine mU fun t ht=>?_;rw[aI,aI,aY];split
  ·rfl
  rename_i hti;rcases(hok t ht).2 with e | e
  ·exact absurd e.symm hti
  rw[e];rfl
 have:k=n:=by omega
 subst this;exact done s h hJ
abbrev forR (a i c:Nat) (ks ks2:List Nat) (bound:E) (body:LC):LC:=
 .loop (.seq (.reg false (.fin ks [(c,.bin (.cmp .lss) (.tmp i) bound)] [])) (.seq (.cond (.tmp c) [c] .skip (.exit a))
  (.seq body (.reg false (.fin ks2 [(i,.bin (.arith .add) (.tmp i) (.con (.int .i64 1)))] [])))))
theorem ao{Q:Post}{h:Heap}{a i c:Nat}{ks ks2:List Nat}{bound:E}{σ:Type}(kp:List Nat)(vals:σ->Nat->List Value)(J:σ->Nat->Heap->Prop)(n:Nat)(s0:σ)(hok:wG kp ks ks2 c i=true)(hn:n<=9223372036854775806)(h0:dA kp ρ=kp.zip (vals s0 0))(hj:J s0 0 h)(hi : ∀s k,look (kp.zip (vals s k)) i=some (.int .i64 k))(hb : ∀s k h,k<=n->J s k h->ev (look (kp.zip (vals s k))) (vw h) bound=some (.int .i64 n))(round : ∀s k h,k<n->J s k h->∀K:Env->Heap->Prop,(∀s' ρ' h',look ρ' i=some (.int .i64 k)->dA kp (setE ρ' i (.int .i64 ((k:Int)+1)))=kp.zip (vals s' (k+1))->J s' (k+1) h'->K ρ' h')->body.wp P (gy K (iX a Q)) (kp.zip (vals s k)) h)(done : ∀s h,J s n h->Q .normal (kp.zip (vals s n)) h):LC.wp P (forR a i c ks ks2 bound body) (iX a Q) ρ h:=by
 simp only[wG,D3,DC,Fp,bne_iff_ne,Ed,beq_iff_eq,ne_eq]at hok;refine je kp (fun m ρ h=>∃s k,k<=n/\ρ=kp.zip (vals s k)/\m=n-k/\J s k h) n ⟨s0,0,by omega,h0,by omega,hj⟩ ?_;rintro m ρ h ⟨s,k,hk,rfl,rfl,hJ⟩ K hK;have hkill:bu (kp.zip (vals s k)) ks=kp.zip (vals s k):=mh fun p hp=>(hok p.1 (zip_fst hp)).1.1;have hne : ∀p∈kp.zip (vals s k),p.1≠c:=fun p hp=>(hok p.1 (zip_fst hp)).1.2
 have hk2 : ∀v,bu (setE (kp.zip (vals s k)) c v) [c]=kp.zip (vals s k):=fun v=>oz hne;have hlk : ∀v,look (setE (kp.zip (vals s k)) c v) c=some v:=fun v=>by rw[aI,if_pos rfl]
 simp only[vX,oo,kG,gT,lT,oc,kQ,rA,hi,hb s k h hk hJ,D0,zx,kl,n8,true_and,cG,hkill,gR,mJ,hlk,lV,hk2,te,s8,oR,oq,if_true];refine⟨fun hlt=>?_,fun hge=>?_⟩
 ·have hlt':k<n:=by omega
  rw[nD];refine round s k h hlt' hJ _ fun s' ρ' h' hl he hJ'=>?_;simp only[oo,kG,gT,lT,oc,kQ,rA,hl,n8,true_and,D0,zn,D0,zo,kl,cG,gR,true_and];rw[cj (by omega) (by omega)];refine hK (n-(k+1)) _ _ (by omega) ⟨s',k+1,by omega,?_,rfl,hJ'⟩;rw[<-he];refine mU fun t ht=>?_;rw[aI,aI,aY];split
  ·rfl
  rename_i hti;rcases(hok t ht).2 with e | e
  ·exact absurd e.symm hti
  rw[e];rfl
 have:k=n:=by omega
 subst this;exact done s h hJ
theorem bR{Q:Post}{h:Heap}{r:Reg}(H:View)(hH:H.le (vw h))(hw:df P (some H) r (Q .normal) ρ h):LC.wp P (.reg true r) Q ρ h:=⟨H,View.oD hH,fy (fun _ _=>View.oD) hw⟩
end
section
variable {po po2 po3:OP} {pp:PP}
variable{b n:Nat}
@[simp] theorem Cn{o:Nat}:(⟨b,o,none⟩:Addr).add n=⟨b,o+n,none⟩:=aM rfl n
variable{H:View}
@[simp] theorem BT{a:Addr}:Un.ev H .nilPtr (.pointer (some a))=some (.pointer (some a)):=rfl
@[simp] theorem Dd{a:Addr}{o:Nat}:Un.ev H (.fld o) (.pointer (some a))=some (.pointer (some (a.add o))):=rfl
@[simp] theorem CR{k q:IntKind}{a:Int}:Un.ev H (.conv k) (.int q a)=some (.int k (k.wrap a)):=rfl
variable{cs:Array Value}
@[simp] theorem CV{o:Nat}:Un.ev H (.part o) (.agg cs)=cs[o]?:=rfl
@[simp] theorem Cu{o:Nat}:Un.ev H (.parts o n) (.agg cs)=some (.agg (cs.extract o (o+n))):=rfl
@[simp] theorem De{o:Nat}:Un.ev H (.ext o) (.tuple cs)=cs[o]?:=rfl
def AR:Value->Value->Option Value
 | .tuple vs,u=>some (.tuple (vs.push u))
 | _,_=>none
@[simp] theorem AB{vs:Array Value}{u:Value}:AR (.tuple vs) u=some (.tuple (vs.push u)):=rfl
@[simp] theorem BN{σ:Nat->Option Value}{x y:E}:ev σ H (.snoc x y)=(ev σ H x).bind fun v=>(ev σ H y).bind fun u=>AR v u:=by
 simp only[ev];cases hx:ev σ H x with
 | none=>rfl
 | some v=>
  cases hy:ev σ H y with
  | none=>cases v<;>rfl
  | some u=>cases v<;>rfl
@[simp] theorem Dt{f:Nat}{vs:Array Value}:Un.ev H (.fn f) (.tuple vs)=some (.func (.func f) #[] vs):=rfl
@[simp] theorem BX:(Value.agg cs).cells=cs:=rfl
@[simp] theorem AA{a:Option Addr}{c:Nat}:(Value.slice a n c).cells = #[.slice a n c]:=rfl
@[simp] theorem BZ{k:IntKind}{n:Int}:(Value.int k n).cells = #[.int k n]:=rfl
@[simp] theorem Bv{b:Bool}:(Value.bool b).cells = #[.bool b]:=rfl
@[simp] theorem zB{a:Option Addr}:(Value.pointer a).cells = #[.pointer a]:=rfl
def wP (P:Program) (t:TypeId):Option (List (Nat × Nat)):=
 match P.underlying t with
 | some (.struct fields)=>fields.toList.mapM fun f=>(cH P f.type).map fun n=>(f.offset,n)
 | some (.array k e)=>(cH P e).map fun n=>(List.range k).map fun i=>(i*n,n)
 | _=>none
section
variable {P:Program} {ty:TypeId} {us:List (Nat × Value)} {h:Heap} {K:Value->Heap->Prop}
theorem qk {f g:Nat->Option (Nat × Nat)} (hfg : ∀i p,f i=some p->g i=some p) : ∀{vs:List (Nat × Value)} {c cs:Array Value},Instr.fill f c vs=some cs->Instr.fill g c vs=some cs
 | [],c,cs,h=>h
 | (i,v)::vs,c,cs,h=>by
  simp only[Instr.fill]at h ⊢;split at h
  ·cases h
  rename_i off size hi;rw[hfg i _ hi];simp only;split at h
  ·cases h
  rename_i hc;rw[if_neg hc];exact qk hfg h
theorem run_places {w:World} : ∀{fs:List Field} {ps:List (Nat × Nat)},(fs.mapM fun f=>(cH P f.type).map fun n=>(f.offset,n))=some ps->
  (fs.mapM fun(f:Field)=>Prod.mk f.offset <$> sizeOf f.type).run P w=Result.ok ps w
 | [],ps,h=>by simp at h;subst h;simp
 | f::fs,ps,h=>by simp only[Gb,Option.bind_eq_bind,DD,Dw]at h;obtain⟨p,⟨n,hn,rfl⟩,ps',h2,h3⟩:=h;simp only[Option.pure_def,o0]at h3;subst h3;have ih:=run_places (w:=w) h2;simp[Gb,Sem.run_bind,run_sizeOf hn,ih]
theorem an{t:TypeId}{ps:Array (Nat × Operand)}{vs:List (Nat × Value)}{z:Value}{places:List (Nat × Nat)}(hz:(P.info? t).map (·.zero)=some (some z))(hpl:wP P t=some places)(hp:ps.map (fun p=>(p.1,asg us p.2))=vs.toArray)(hf:Instr.fill (places[·]?) z.cells vs=some cs)(hk:K (.agg cs) h):step P (.build t ps) ty us h K:=by
 refine cf (bE fun w hw=>⟨.agg cs,w,?_,Same.refl _,by rw[hw];exact hk⟩);have hp':(ps.map fun x=>match x with | (i,x)=>(i,asg us x))=vs.toArray:=hp;simp only[Dw]at hz;obtain⟨i,hi,hz⟩:=hz;simp only[aL,execOp,hp'];unfold wP at hpl;split at hpl
 ·rename_i fields hu;have hr:=run_places (P:=P) (w:=w) hpl;have hr2:(fields.mapM fun(f:Field)=>Prod.mk f.offset <$> sizeOf f.type).run P w=Result.ok places.toArray w:=by rw[FV];simp only[Sem.run_map];erw [hr];rfl
  have hf':Instr.fill (places.toArray[·]?) z.cells vs=some cs:=by simpa using hf
  simp[Instr.build,zeroValue,typeInfo,hi,hz,run_underlying hu,hr2,hf',hf]
 ·rename_i k e hu;simp only[Dw]at hpl;obtain⟨n,hn,rfl⟩:=hpl;have hf':=qk (g:=fun i=>some (i*n,n)) (fun i p hp=>by
   simp only[EW,Dw]at hp;obtain⟨j,hj,rfl⟩:=hp;rcases DA i k with hlt | hge
   ·rw[List.getElem?_range hlt]at hj;cases hj;rfl
   rw[D1 (by simpa using hge)]at hj;cases hj) hf;simp[Instr.build,zeroValue,typeInfo,hi,hz,run_underlying hu,run_sizeOf hn,hf']
 cases hpl
variable{bytes:Nat}
theorem qK{t e:TypeId}{size:Nat}{z:Value}{ps:Array (Nat × Operand)}{vs:List (Nat × Value)}(hT:eR P t e size bytes z)(hn:n*size<=16777216)(hp:ps.map (fun p=>(p.1,asg us p.2))=vs.toArray)(hf:Instr.fill (fun j=>some (j*size,size)) ((Array.range (n*size)).map (z.cells[· % z.cells.size]!)) vs=some cs)(hk:K (.slice (some ⟨h.size,0,none⟩) n n) (h.push (.cells cs e))):step P (.buildSlice t n ps) ty us h K:=by obtain⟨ht,⟨i,hi,hz,hsize,hby⟩,_⟩:=hT;exact jD ht hi hz hsize hn hp hf hk
theorem dF{t:TypeId}{z:Value}(hz:(P.info? t).map (·.zero)=some (some z))(hk:K (.pointer (some ⟨h.size,0,none⟩)) (h.push (.cells z.cells t))):step P (.alloc t) ty us h K:=by simp only[Dw]at hz;obtain⟨i,hi,hz⟩:=hz;refine cf (bE fun w hw=>?_);subst hw;refine⟨_,w.alloc (.cells z.cells t),?_,eM _ _,hk⟩;simp only[aL,execOp];simp[Instr.alloc,zeroValue,typeInfo,hi,hz,newVar,newRow]
theorem cS{t:TypeId}{x:Operand}{v:Value}(hx:asg us x=v)(hk:K (.pointer (some ⟨h.size,0,none⟩)) (h.push (.cells v.cells t))):step P (.box t x) ty us h K:=by refine cf (bE fun w hw=>?_);subst hw;refine⟨_,w.alloc (.cells v.cells t),?_,eM _ _,hk⟩;simp only[aL,execOp];simp[Instr.box,hx,newVar,newRow]
variable{y:Operand}
theorem dk{t e:TypeId}{g o:Nat}{x:Operand}{v:Value}{cur:Array Value}(hsz:cH P t=some n)(hx:asg us x = .pointer (some ⟨g,o,none⟩))(hy:asg us y=v)(hv:v.cells.size=n)(h1 : ∀c∈v.cells.toList,c.oneCell'=true)(hg:h[g]? = some (.cells cur e (0,0)))(hfit:o+n<=cur.size)(hk : ∀h':Heap,h'.size=h.size->(∃row:Array Value,h'[g]? = some (.cells row e (0,0))/\row.toList=cur.toList.take o++v.cells.toList++cur.toList.drop (o+n))->(∀k,k≠g->h'[k]? = h[k]?)->K undef h'):step P (.store t x y) ty us h K:=by
 refine cf (kZ fun w hw=>?_);subst hw;have hlen:v.cells.toList.length=n:=by simpa using hv
 have hrun:=run_storeCells_at P g o e v.cells.toList 0 cur w hg (by simp only[Nat.add_zero];omega) h1;obtain⟨row,hrow⟩ : ∃row:Array Value,row.toList=cur.toList.take o++v.cells.toList++cur.toList.drop (o+n):=⟨(cur.toList.take o++v.cells.toList++cur.toList.drop (o+n)).toArray,rfl⟩;have hrun':Sem.run P (storeCells ⟨g,o,none⟩ v.cells.toList) w = .ok () (w.setRow g row):=by rw[hrun];congr 2;rw[<-Array.toList_inj,hrow,hlen];rfl
 refine⟨w.setRow g row,?_,Same.lE rfl rfl rfl (by simp) hg (by simp) (fun k _ hne=>setRow_other w g k _ (fun e=>hne e)),hk _ (by simp) ⟨row,setRow_heap w g cur row e _ hg,hrow⟩ fun k hne=>setRow_other w g k _ (fun e=>hne e)⟩;simp only[aL,execOp,hx,hy];simp[Instr.storeAt,Instr.sureAddr,storeVar,run_sizeOf (P:=P) (w:=w) hsz,hv,hrun']
variable{ty2:TypeId}{us2:Value->List (Nat × Value)}
theorem mW{t:TypeId}{z:Value}{x:Operand}{v:Value}{K:Value->Heap->Prop}(hz:(P.info? t).map (·.zero)=some (some z))(hzc:z.cells.size=1)(hsz:cH P t=some 1)(hv:v.cells = #[v])(hone:v.oneCell'=true)(hx : ∀p,asg (us2 p) x=p)(hy : ∀p,asg (us2 p) y=v)(hk : ∀h':Heap,(vw h).le (vw h')->h'.size=h.size+1->h'[h.size]? = some (.cells #[v] t (0,0))->K (.pointer (some ⟨h.size,0,none⟩)) h'):
  @step po P (.alloc t) ty us h fun p h2=>@step po2 P (.store t x y) ty2 (us2 p) h2 fun _ h3=>K p h3:=by
 refine dF hz ?_;refine dk (g:=h.size) (o:=0) (n:=1) (v:=v) (cur:=z.cells) (e:=t) hsz (hx _) (hy _) (by rw[hv];rfl) (by rw[hv];simpa using hone) (by simp) (by omega) fun h' hs ⟨row,hrow,he⟩ hoth=>?_;have hrow2:row = #[v]:=by rw[<-Array.toList_inj,he,hv];simp only[Fq,D7,Em];rw[DX (by simp[hzc])];rfl
 rw[hrow2]at hrow;refine hk h' (fun b o hb=>?_) (by rw[hs];simp) hrow;have hlt:=View.lt (View.le_refl (vw h)) hb;show h'[b]? = _;rw[hoth b (by omega)];exact bG _ _ b o hb
variable{caps:Array Value}
theorem bL{f:FuncId}{t:Nat}{ops:List Operand}{T:Array TypeId}(hf:asg us (.tmp t) = .func (.func f) #[] caps){R:Value->Heap->Prop}(hfn:isFn P f=true)(hc:aj P f (ops.map (asg us)++caps.toList).toArray h R)(hk : ∀v h',R v h'->K v h'):step P (.call ⟨.value (.tmp t),ops.toArray,T⟩) ty us h K:=by
 refine cf (lD (R:=R) (f:=f) (args:=(ops.map (asg us)++caps.toList).toArray) (fun w _=>?_) hc hk);unfold isFn at hfn;cases hfn':P.funcs[f]? with
 | none=>simp[hfn']at hfn
 | some fn=>simp only[hfn',DC,bne_iff_ne,ne_eq]at hfn;obtain⟨h1,h2⟩:=hfn;simp[aL,execOp,resolve,Deferred.ofValue,hf,invoke,callFunc,program,Sem.run,hfn',h1,Option.isNone];cases hb:fn.body<;>simp[hb]at h2 ⊢
theorem vE{e:TypeId}{w:World}{a b:Int}{ki:IntKind}(he:P.underlying e=some (.int ki)):(Op.equalIn (n+1) e (.int ki a) (.int ki b)).run P w = .ok (a == b) w:=by simp[Op.equalIn,run_underlying he]
theorem qe{e:TypeId}{w:World}{o:Nat}{v:Value}(ha:iM P e=some false)(hv:cs[o]? = some v):(Go.part e cs o).run P w = .ok v w:=by simp[Go.part,iT ha,hv]
theorem rY{t e:TypeId}{w:World}{a b c d:Int}{ki:IntKind}(hu:P.underlying t=some (.array 2 e))(he:P.underlying e=some (.int ki))(hs:cH P e=some 1)(ha:iM P e=some false):
  (Op.equal t (.agg #[.int ki a,.int ki b]) (.agg #[.int ki c,.int ki d])).run P w = .ok (a == c&&b == d) w:=by
 simp only[cH,Dw]at hs;obtain⟨i,hi,hs⟩:=hs;have hc:P.cellsOf e=1:=by simp[Program.cellsOf,hi,hs]
 show(Op.equalIn (9999+1) t _ _).run P w=_;rw[run_equalIn_array (P:=P) (w:=w) (d:=9999) (xs:=_) (ys:=_) hu hi,hc];have p0 : ∀{x y:Int},(Go.part e #[.int ki x,.int ki y] 0).run P w = .ok (.int ki x) w:=qe ha rfl;have p1 : ∀{x y:Int},(Go.part e #[.int ki x,.int ki y] 1).run P w = .ok (.int ki y) w:=qe ha rfl;simp[ER,Op.eqItems,p0,p1,vE he];by_cases h1:a=c<;>by_cases h2:b=d<;>simp[h1,h2]
end
instance:Rep (Int × Int) where
 n:=2
 agg:=true
 rd:=fun _ cs d=>cs=[.int .i64 d.1,.int .i64 d.2]/\(-9223372036854775808<=d.1/\d.1<=9223372036854775807)/\-9223372036854775808<=d.2/\d.2<=9223372036854775807
 mono:=fun _ h=>h
 len:=fun h=>by rw[h.1];rfl
 one:=fun h=>by cases h
 flat:=fun h u hu=>by rw[h.1]at hu;simp at hu;rcases hu with rfl | rfl<;>rfl
 pos:=by decide
 dB:=fun h=>h
theorem kF{v:Value}{d:Int × Int}:Rd H v d↔v = .agg #[.int .i64 d.1,.int .i64 d.2]/\(-9223372036854775808<=d.1/\d.1<=9223372036854775807)/\-9223372036854775808<=d.2/\d.2<=9223372036854775807:=by
 simp only[Rd,Rep.agg,Rep.rd,if_true];constructor
 ·rintro⟨cs,rfl,h1,h2⟩;refine⟨?_,h2⟩;congr 1;rw[<-Array.toList_inj,h1]
 rintro⟨rfl,h2⟩;exact⟨_,rfl,rfl,h2⟩
variable{α:Type}
theorem SlRd.idxn[Rep α]{v:Value}{l:List α}(h:SlRd H v l){N:Nat}(hn:Rep.n α=N){k:IntKind}{i:Int}(h0:0<=i)(h1:i<l.length):Bn.ev (.idx N) v (.int k i)=some (.pointer (some ((slA v).add (i.toNat*N)))):=by have:=h.idx (k:=k) h0 h1;rw[hn]at this;exact this
theorem SlRd.wj{K:View}{v:Value}{l:List (Int × Int)}(h:SlRd H v l)(hk:H.le K){i:Nat}(hi:i<l.length):ag K (((slA v).add (i*2)).add 0)=some (.int .i64 (nth l i).1)/\ag K (((slA v).add (i*2)).add 1)=some (.int .i64 (nth l i).2):=by obtain⟨cs,h1,h2⟩:=(h.at hi).mono hk;rw[aq hi];obtain⟨e,_⟩:=h2;subst e;exact⟨fD h1 (i:=0) rfl,fD h1 (i:=1) rfl⟩
end
section
variable {po po2 po3:OP} {pp:PP}
variable{P:Program}{K:Value->Heap->Prop}
theorem vu{s:Sem Next}{l:Nat}{vs:List Value}{h:Heap}{R:Bool->Heap->Prop}(hs : ∀w:World,w.heap=h->s.run P w=(Instr.yield l vs.toArray).run P w)(hy:tW P l vs h R)(hk : ∀b h',R b h'->K (.bool b) h'):eC P s h K:=by intro w hw r o a K' Q' hK hQ;obtain⟨f,tmps,asg,body,h1,h2⟩:=hy w hw;rw[hs w hw,h1];simp only[Oper.uponIn];have h3:RoundIn (Fw r) 0 P l f tmps asg body w _:=h2;refine⟨fun h=>by simp[Fw,Fence.wide]at h,h3.mono ?_⟩;rintro e w' ⟨b,rfl,hR,hsame⟩;exact hK _ w' (hk _ _ hR) hsame
variable{ty:TypeId}{us:List (Nat × Value)}
theorem yR{t l:Nat}{ops:List Operand}{T:Array TypeId}{h:Heap}(hf:asg us (.tmp t) = .func (.yield l) #[] #[]){R:Bool->Heap->Prop}(hy:tW P l (ops.map (asg us)) h R)(hk : ∀b h',R b h'->K (.bool b) h'):step P (.call ⟨.value (.tmp t),ops.toArray,T⟩) ty us h K:=by refine cf (vu (l:=l) (vs:=ops.map (asg us)) (fun w _=>?_) hy hk);simp[aL,execOp,resolve,Deferred.ofValue,hf,invoke]
variable{β:Type}{body:LC}{ρ:Env}
theorem uK{enc:β->List Value}{g:E}{ps:List Nat}{asg:LC}{Q:Post}{h:Heap}{gf:Nat}{caps:List Value}{all:List β}{A:β->Env}(V W0:View)(I:Option Exit->Nat->View->Heap->Prop)(hg:ev (look ρ) (vw h) g=some (.func (.func gf) #[] caps.toArray))(hf:isFn P gf=true)(hi:Iter P gf caps V (all.map enc))(hl : ∀x,(enc x).length=ps.length)(hV:V.le W0)(hI : ∀e k,js h.size (I e k))(h0:I none 0 W0 h)(hasg : ∀x h1,@LC.wp noPP P asg (fun e ρ1 h2=>e = .normal/\h2=h1/\ρ1=A x) (cG ρ (ps.zip (enc x))) h1)(round : ∀k x W h1,(∀b,b<h.size->W b=W0 b)->all[k]? = some x->I none k W h1->∀K:Post,(∀ρ2 h3,I none (k+1) W h3->K .normal ρ2 h3)->(∀e ρ2 h3,e≠.normal->I (some e) (k+1) W h3->K e ρ2 h3)->@LC.wp noPP P body K (A x) h1)(done : ∀W h1,(∀b,b<h.size->W b=W0 b)->I none all.length W h1->Q .normal ρ h1)(left : ∀e k W h1,(∀b,b<h.size->W b=W0 b)->I (some e) k W h1->Q e ρ h1):LC.wp P (.rangef g ps asg body) Q ρ h:=by
 refine⟨gf,caps,V,W0,all.map enc,I,fun k=>match all[k]? with | some x=>A x | none=>[],hg,hf,hi,fun vs hvs=>?_,hV,hI,h0,fun k vs W h1 ha hk hIk=>?_,fun W h1 a b=>done W h1 a (by simpa using b),fun e k W h1 _ _=>left e k W h1⟩
 ·obtain⟨x,_,rfl⟩:=Ex.1 hvs;exact hl x
 rw[EW,Dw]at hk;obtain⟨x,hk,rfl⟩:=hk;simp only[hk];refine⟨hasg x h1,round k x W h1 ha hk hIk _ (fun ρ2 h3 hh=>hh) fun e ρ2 h3 hne hh=>?_⟩;cases e<;>first | exact absurd rfl hne | exact hh
theorem SlRd.drop {α:Type} [Rep α] {H:View} {v:Value} {l:List α} (h:SlRd H v l) {n:Nat} (hn:n<=l.length) {kd:IntKind} : ∃u,Bn.ev (.lo (Rep.n α)) v (.int kd n)=some u/\SlRd H u (l.drop n):=by
 obtain⟨a,cap,rfl,h1,h2,h3⟩:=h;refine⟨.slice (if cap=n then a else a.map (·.add (n*Rep.n α))) (l.length-n) (cap-n),by simp[Bn.ev,vL,vI,hn],if cap=n then a else a.map (·.add (n*Rep.n α)),cap-n,?_,?_,?_,?_⟩
 ·rw[DV]
 ·rw[DV];omega
 ·rw[DV];omega
 rcases h3 with rfl | ⟨ad,rfl,hs,hat⟩
 ·left;simp
 by_cases hc:cap=n
 ·left;simp;omega
 refine .inr ⟨ad.add (n*Rep.n α),by simp[hc],by rw[aM hs],fun i hi=>?_⟩;rw[DV]at hi;rw[Fm];have:=hat (n+i) (by omega);rw[aM hs]at this ⊢;rw[aM rfl];simpa[EZ,Nat.add_assoc]using this
def but (v:Value) (h:Heap):View:=fun b=>if v.ownBlock=some b then none else h[b]?
theorem y9{v:Value}{h:Heap}:(but v h).le (vw h):=fun b o hb=>by
 unfold but at hb;split at hb
 ·cases hb
 exact hb
theorem Bg{v:Value}{h:Heap}:Av (but v h) v:=fun b hb=>by unfold but;rw[if_pos hb]
variable{h':Heap}
theorem tC{v:Value}{h:Heap}(hle:(vw h).le (vw h')):(but v h).le (but v h'):=fun b o hb=>by
 unfold but at *;split at hb
 ·cases hb
 rename_i hne;rw[if_neg hne];exact hle b o hb
variable{V:View}
theorem A0{v:Value}{h:Heap}(hV:V.le (vw h))(ha:Av V v):V.le (but v h):=fun b o hb=>by
 unfold but;split
 ·rename_i e;rw[ha b e]at hb;cases hb
 exact hV b o hb
variable{α:Type}{h0:Heap}{W:View}
theorem Mine.beside[Rep α][Rep β]{h:Heap}{e e1:TypeId}{v2 v1 v1':Value}{l2:List α}{l1':List β}(m2:Mine nothing h0 h nothing e v2 l2)(m1:Mine V h0 h' W e1 v1' l1')(mv:ic h h' v1 v1')(ne:v2.ownBlock=none\/v2.ownBlock≠v1.ownBlock):Mine nothing h0 h' nothing e v2 l2:=
 ⟨m1.old,fun _ _ h=>(by cases h),fun _ _=>rfl,m2.av0,Old.nothing _ _,m2.own.kept mv.kept ne⟩
theorem Mine.over[Rep α]{h:Heap}{e:TypeId}{v:Value}{l:List α}(m:Mine V h0 h nothing e v l):Mine (vw h0) h0 h (but v h) e v l:=
 ⟨m.old,y9,Bg,m.av0,fun b o hb hx=>by have h1:=y9 b o hx;have h2:h0[b]? = some h0[b]:=DJ hb;have h3:h[b]? = some h0[b]:=m.old b _ h2;have h4:h[b]? = some o:=h1;rw[h3]at h4;cases h4;exact h2,m.own.mono (fun _ _ h=>by cases h)⟩
theorem Mine.CG{h:Heap}{e:TypeId}{v:Value}{l:List Int}(m:Mine V h0 h W e v l):Mine nothing h0 h nothing e v l:=
 ⟨m.old,fun _ _ h=>(by cases h),fun _ _=>rfl,m.av0,Old.nothing _ _,m.own⟩
variable{n:Nat}
theorem A3{a:Addr}{c m:Nat}{k:IntKind}{i:Int}(h0:0<=i)(h1:i<n):Bn.ev (.idx m) (.slice (some a) n c) (.int k i)=some (.pointer (some (a.add (i.toNat*m)))):=by simp[Bn.ev,vL,vI,h0,h1]
theorem Aw{a:Addr}{c:Nat}{k:IntKind}{i:Int}(h0:0<=i)(h1:i<n):Bn.ev (.idx 1) (.slice (some a) n c) (.int k i)=some (.pointer (some (a.add i.toNat))):=by rw[A3 h0 h1,Ea]
variable{H:View}{b:Nat}
theorem bS{o:Nat}{c:Array Value}{T:TypeId}{fz:Nat × Nat}{v:Value}(h:H b=some (.cells c T fz))(hv:c[o]? = some v):ag H ⟨b,o,none⟩=some v:=by simp[ag,h,hv]
theorem SlRd.cells {α:Type} [Rep α] {H:View} {v:Value} {l:List α} (h:SlRd H v l):v.cells = #[v]/\v.oneCell'=true:=by obtain⟨a,cap,rfl,_⟩:=h;exact⟨rfl,rfl⟩
theorem jB.ext{h0 h h':Heap}(hs:jB h0.size h h')(hle:(vw h0).le (vw h)):(vw h0).le (vw h'):=fun b o hb=>by have hlt:=View.lt (View.le_refl (vw h0)) hb;show h'[b]? = _;rw[hs.same b (.inl hlt)];exact hle b o hb
theorem jB.ij{h:Heap}(hs:jB h0.size h h'):(fresh h0 h).dB.le (fresh h0 h'):=fun b o hb=>by
 have h1:=View.yP _ _ hb;have h2 : ∀x,o≠.deferred x:=by intro x e;subst e;unfold View.dB at hb;split at hb<;>cases hb
 unfold fresh at h1 ⊢;split at h1
 ·cases h1
 rename_i hge;rw[if_neg hge,hs.same b (.inr ?_)]
 ·exact h1
 rw[h1];intro e;exact h2 _ (Option.some.inj e)
theorem jB.rd[Rep α]{h:Heap}{v:Value}{l:List α}(hs:jB h0.size h h')(hr:SlRd (fresh h0 h) v l):SlRd (fresh h0 h') v l:=
 dG.1 ((dG.2 hr).dB.mono hs.ij)
theorem eS{h:Heap}(hb:b<h.size):grow W h h' b=W b:=by unfold grow;rw[if_pos hb]
theorem js.grown{J:View->Heap->Prop}(hJ:js n J){h:Heap}(hj:J W h)(hn:n<=h.size)(hle:(vw h).le (vw h')):J (grow W h h') h':=
 hJ.move hj (fun b hb=>eS (by omega)) (iJ (View.le_trans (hJ.le hj) hle)) (fun b hb hlt=>⟨(ni hle).block b hlt (by simp),by rw[eS hlt];exact hb⟩) (cO hle)
variable{bytes:Nat}{y:Operand}
theorem yL{t e:TypeId}{z:Value}{x:Operand}{h:Heap}{k:IntKind}(hT:eR P t e 1 bytes z)(hx:asg us x = .int k n)(hy:asg us y = .int k n)(hz1:z.cells = #[z])(hb:bytes*n<=140737488355328)(hb2:n<=140737488355328)(hk:K (.slice (some ⟨h.size,0,none⟩) n n) (h.push (.cells (List.replicate n z).toArray e))):step P (.makeSlice t x y) ty us h K:=by
 obtain⟨ht,⟨i,hi,hz,hsize,hby⟩,hzs,hsz,hsmall⟩:=hT;refine cf (bE fun w hw=>?_);subst hw;have hrun:=run_make (P:=P) w t e i z ht hi hz k k (n:Int) (n:Int) (by omega) (Int.le_refl _) (by
  rw[hby];have:((bytes*n:Nat):Int)<=281474976710656:=by omega
  rwa [Int.natCast_mul]at this) (by omega);simp only[DN,hsize,Ea]at hrun
 have hm:madeCells z.cells n=(List.replicate n z).toArray:=by
  rw[hz1];apply Array.ext
  ·simp[madeCells]
  intro j h1 h2;simp[madeCells,Nat.mod_one]
 rw[hm]at hrun;refine⟨_,w.alloc (.cells (List.replicate n z).toArray e),?_,eM _ _,hk⟩;simp only[aL,execOp,hx,hy];simp[hrun]
theorem OwnT.same[Rep α]{h:Heap}{e:TypeId}{v:Value}{l:List α}(o:OwnT W h e v l)(hb : ∀b,v.ownBlock=some b->h'[b]? = h[b]?):OwnT W h' e v l:=by
 obtain⟨bd,xs,⟨h1,h2⟩,h3⟩:=o;refine⟨bd,xs,⟨h1,?_⟩,h3⟩;rcases h2 with h2 | ⟨g,cap,cur,rfl,hg,h4⟩
 ·exact .inl h2
 exact .inr ⟨g,cap,cur,rfl,(hb g rfl).trans hg,h4⟩
structure Rw {α:Type} [Rep α] (W:View) (h:Heap) (ot e:TypeId) (g:Nat) (rv:List Value) (ls:List (List α)):Prop where
 wle:W.le (vw h)
 wg:W g=none
 blk:h[g]? = some (.cells rv.toArray ot (0,0))
 len:rv.length=ls.length
 own : ∀i,i<ls.length->OwnT nothing h e (nth rv i) (nth ls i)
 av : ∀i,i<ls.length->Av W (nth rv i)
 ng : ∀i,i<ls.length->(nth rv i).ownBlock≠some g
 dj : ∀i j,i<ls.length->j<ls.length->i≠j->(nth rv i).ownBlock=none\/(nth rv i).ownBlock≠(nth rv j).ownBlock
section
variable {α:Type} [Rep α] {W:View} {h h':Heap} {ot e:TypeId} {g:Nat} {rv:List Value} {ls:List (List α)}
theorem Rw.lt(r:Rw W h ot e g rv ls):g<h.size:=(Dx.1 r.blk).1
theorem aB[Inhabited β]{i:Nat}{x:β}(hi:i<n):nth (List.replicate n x) i=x:=by rw[aq (by simpa using hi)];simp
theorem Rw.start(hW:W.le (vw h))(hg:W g=none)(hb:h[g]? = some (.cells (List.replicate n (.slice none 0 0)).toArray ot (0,0))):Rw (α:=α) W h ot e g (List.replicate n (.slice none 0 0)) (List.replicate n []):=
 ⟨hW,hg,hb,by simp,fun i hi=>by rw[aB (by simpa using hi),aB (by simpa using hi)];exact OwnT.nil ..,fun i hi=>by rw[aB (by simpa using hi)];exact Av.nil _ _ _,
  fun i hi=>by rw[aB (by simpa using hi)];simp[Value.ownBlock],fun i j hi hj _=>by rw[aB (by simpa using hi)];exact .inl rfl⟩
theorem Rw.move(r:Rw W h ot e g rv ls){W':View}(h1:W'.le (vw h'))(h2 : ∀b,W b=none->b<h.size->h'[b]? = h[b]?/\W' b=none):Rw W' h' ot e g rv ls:=
 {wle:=h1,wg:=(h2 g r.wg r.lt).2,blk:=(h2 g r.wg r.lt).1.trans r.blk,len:=r.len,ng:=r.ng,dj:=r.dj
  own:=fun i hi=>(r.own i hi).same fun b hb=>(h2 b (r.av i hi b hb) ((r.own i hi).lt hb)).1
  av:=fun i hi b hb=>(h2 b (r.av i hi b hb) ((r.own i hi).lt hb)).2 }
theorem Rw.ext(r:Rw W h ot e g rv ls)(hle:(vw h).le (vw h')):Rw W h' ot e g rv ls:=
 r.move (View.le_trans r.wle hle) fun b hb hlt=>⟨(ni hle).block b hlt (by simp),hb⟩
theorem cg[Inhabited β]{l:List β}{i j:Nat}{x:β}(hj:j<l.length):nth (l.set i x) j=if i=j then x else nth l j:=by
 rw[aq (by simpa using hj),List.getElem_set];split
 ·rfl
 rw[aq hj]
theorem Rw.put{h2 h3:Heap}{i:Nat}{v':Value}{l':List α}(r:Rw W h ot e g rv ls)(hi:i<ls.length)(o:OwnT nothing h2 e v' l')(m:ic h h2 (nth rv i) v')(hb:h3[g]? = some (.cells (rv.set i v').toArray ot (0,0)))(hoth : ∀k,k≠g->h3[k]? = h2[k]?)(hsz:h3.size=h2.size):Rw W h3 ot e g (rv.set i v') (ls.set i l'):=by
 obtain⟨hw',ha'⟩:=m.view r.wle (r.av i hi);have hlt:=r.lt;have ng':v'.ownBlock≠some g:=by
  rcases m.at_ with e | e
  ·rw[e];exact r.ng i hi
  rw[e];intro e2;cases e2;omega
 have hv' : ∀j,j<ls.length->j≠i->(nth rv j).ownBlock=none\/(nth rv j).ownBlock≠v'.ownBlock:=by
  intro j hj hne;rcases m.at_ with e | e
  ·rw[e];exact r.dj j i hj hi hne
  right;rw[e];intro e2;have:=(r.own j hj).lt e2;omega
 have rl:=r.len;refine⟨fun b x hb=>?_,r.wg,hb,by simp[rl],fun j hj=>?_,fun j hj=>?_,fun j hj=>?_,fun j k hj hk hne=>?_⟩
 ·have hne:b≠g:=fun e=>by rw[e,r.wg]at hb;cases hb
  show h3[b]? = _;rw[hoth b hne];exact hw' b x hb
 ·rw[Ej]at hj;rw[cg (by omega),cg hj];split
  ·exact o.same fun b hb=>hoth b (fun e=>ng' (by rw[hb,e]))
  rename_i hne;refine((r.own j hj).kept m.kept (r.dj j i hj hi (fun e=>hne e.symm))).same fun b hb=>hoth b (fun e=>r.ng j hj (by rw[hb,e]))
 ·rw[Ej]at hj;rw[cg (by omega)];split
  ·exact ha'
  exact r.av j hj
 ·rw[Ej]at hj;rw[cg (by omega)];split
  ·exact ng'
  exact r.ng j hj
 rw[Ej]at hj hk;rw[cg (by omega),cg (by omega)];split
 ·rename_i e1;rw[if_neg (by omega)];rcases hv' k hk (by omega)with e | e
  ·rcases hb2:v'.ownBlock with _ | b
   ·exact .inl rfl
   right;rw[e];simp
  exact .inr fun e2=>e e2.symm
 split
 ·rename_i e1 e2;exact hv' j hj (by omega)
 exact r.dj j k hj hk hne
theorem Rw.rd (r:Rw W h ot e g rv ls) {X:View} (hg:X g=h[g]?) (hx : ∀i b,i<ls.length->(nth rv i).ownBlock=some b->X b=h[b]?) (hb:ls.length<=140737488355328):SlRd X (.slice (some ⟨g,0,none⟩) ls.length ls.length) ls:=by
 refine⟨some ⟨g,0,none⟩,ls.length,rfl,Dy _,hb,.inr ⟨_,rfl,rfl,fun i hi=>?_⟩⟩;rw[aM rfl];have hlen:=r.len;refine⟨[nth rv i],⟨rv.toArray,ot,(0,0),rfl,by rw[hg];exact r.blk,?_⟩,nth rv i,rfl,?_⟩
 ·rw[aq (by omega)];simp only[Em,show Rep.n (List α)=1 from rfl,Ea,Ek,Fc];have hd:rv.drop i=rv[i]::rv.drop (i+1):=DU (by omega);show List.take (0+1) (List.drop i rv)=_;rw[hd];rfl
 rw[<-aq hi];exact(r.own i hi).rd (fun _ _ h=>by cases h) (hx i · hi)
theorem Rw.fresh {h0:Heap} (r:Rw W h ot e g rv ls) (h0W:(vw h0).le W) (hb:ls.length<=140737488355328):SlRd (Lft.fresh h0 h) (.slice (some ⟨g,0,none⟩) ls.length ls.length) ls:=by
 have key : ∀b,W b=none->h0.size<=b:=by
  intro b hb;rcases DA b h0.size with hlt | hge
  ·have:=h0W b h0[b] (DJ hlt);rw[hb]at this;cases this
  exact hge
 refine r.rd (by unfold Lft.fresh;rw[if_neg (Gg.2 (key g r.wg))]) (fun i b hi hbb=>by unfold Lft.fresh;rw[if_neg (Gg.2 (key b (r.av i hi b hbb)))]) hb
end
def skip (B:Nat) (h:Heap):View:=fun b=>if b=B then none else h[b]?
variable{B:Nat}
theorem bK{h:Heap}:(skip B h).le (vw h):=fun b o hb=>by
 unfold skip at hb;split at hb
 ·cases hb
 exact hb
theorem il{h:Heap}(hb:b≠B):skip B h b=h[b]?:=by unfold skip;rw[if_neg hb]
section
variable {α:Type} [Rep α] {W:View} {h h':Heap} {B:Nat} {T e:TypeId} {v:Value} {l:List α}
end
end
section
open Go Go.MapKept
variable {po:OP} {pp:PP}
structure cA (d:TypeDesc) (h:Heap) (r:Nat) (f:Value->Option Value):Prop where
 ex : ∃es clock,h[r]? = some (.map es clock)/\(∀x∈es.toList,IsKey d x.key)/\Stamped es clock/\∀k v,IsKey d k->((∃x∈es.toList,x.key=k/\x.val=v)↔f k=some v)
theorem cA.lt{d:TypeDesc}{h:Heap}{r:Nat}{f:Value->Option Value}(m:cA d h r f):r<h.size:=by obtain⟨es,c,h1,_⟩:=m.ex;exact(Dx.1 h1).1
variable{h':Heap}{r:Nat}
theorem cA.same{d:TypeDesc}{h:Heap}{f:Value->Option Value}(m:cA d h r f)(e:h'[r]? = h[r]?):cA d h' r f:=by obtain⟨es,c,h1,h2⟩:=m.ex;exact⟨es,c,by rw[e];exact h1,h2⟩
theorem cA.ext{d:TypeDesc}{h h':Heap}{r:Nat}{f:Value->Option Value}(m:cA d h r f)(hle:(vw h).le (vw h')):cA d h' r f:=by obtain⟨es,c,h1,h2⟩:=m.ex;exact⟨es,c,hle _ _ h1,h2⟩
theorem cA.none {d:TypeDesc} {h:Heap} {r:Nat} (hr:h[r]? = some (.map #[] 0)):cA d h r fun _=>none:=
 ⟨#[],0,hr,by simp,stamped_empty 0,by simp⟩
section
variable {P:Program} {ty:TypeId} {us:List (Nat × Value)} {h:Heap} {K:Value->Heap->Prop} {d:TypeDesc} {r:Nat} {f:Value->Option Value} {t k e:TypeId}
theorem gY(hk:K (.map (some h.size)) (h.push (.map #[] 0))):step P (.makeMap t .none) ty us h K:=by refine cf (bE fun w hw=>?_);subst hw;refine⟨_,w.alloc (.map #[] 0),?_,eM _ _,hk⟩;simp only[aL,execOp];simp[Instr.makeMap,newObj];rfl
variable{y:Operand}
theorem xG{x:Operand}{u z:Value}(ht:P.underlying t=some (.map k e))(hd:P.underlying k=some d)(hz:(P.info? e).map (·.zero)=some (some z))(hx:asg us x = .map (some r))(hy:asg us y=u)(hu:IsKey d u)(m:cA d h r f)(hk:K ((f u).getD z) h):step P (.lookup t x y false) ty us h K:=by
 obtain⟨es,c,h1,h2,h3,h4⟩:=m.ex;simp only[Dw]at hz;obtain⟨i,hi,hz⟩:=hz;refine cf (bE fun w hw=>⟨_,w,?_,Same.refl _,by rw[hw];exact hk⟩);have hz':(zeroValue e).run P w = .ok z w:=by simp[zeroValue,typeInfo,hi,hz]
 rw[<-hw]at h1;simp only[aL,execOp,hx,hy];rcases findNow_spec hu es.toList 0 h2 with⟨g1,g2⟩ | ⟨j,x,g1,g2,g3⟩
 ·have hf:f u = .none:=by
   cases hfu:f u with
   | none=>rfl
   | some v=>obtain⟨x,hx,e1,_⟩:=(h4 u v hu).2 hfu;exact absurd e1 (g2 x hx)
  simp[Instr.lookup,run_underlying ht,MapKept.run_getObj_map h1,MapKept.run_checkKey hd hu,MapKept.run_findKey hd g1,Result.andThen,hf,hz']
 have hf:f u=some x.val:=(h4 u x.val hu).1 ⟨x,DY g2,g3,rfl⟩;simp[Instr.lookup,run_underlying ht,MapKept.run_getObj_map h1,MapKept.run_checkKey hd hu,MapKept.run_findKey hd g1,Result.andThen,hf]
theorem tY{w:World}{u v:Value}(ht:P.underlying t=some (.map k e))(hd:P.underlying k=some d)(hu:IsKey d u)(m:cA d w.heap r f)(g:Value->Option Value)(hg:g u=some v)(hg2 : ∀j,j≠u->g j=f j):
  ∃o,(Instr.mapUpdate t (.map (some r)) u v).run P w = .ok () { w with heap:=w.heap.setIfInBounds r o }/\cA d (w.heap.setIfInBounds r o) r g:=by
 obtain⟨es,c,h1,h2,h3,h4⟩:=m.ex;rcases findNow_spec hu es.toList 0 h2 with⟨g1,g2⟩ | ⟨j,x,g1,g2,g3⟩
 ·refine⟨.map (es.push { key:=u,val:=v,born:=c }) (c+1),?_,_,_,(MapKept.heap_set h1).1,?_,stamped_push h3 g2,?_⟩
  ·simp[Instr.mapUpdate,run_underlying ht,MapKept.run_getObj_map h1,MapKept.run_checkKey hd hu,MapKept.run_findKey hd g1,MapKept.run_setObj_map _ h1,Result.andThen]
  ·intro x hx;simp only[Array.toList_push,DE,DF]at hx;rcases hx with hx | rfl
   ·exact h2 x hx
   exact hu
  intro q p hq;constructor
  ·rintro⟨x,hx,e1,e2⟩;simp only[Array.toList_push,DE,DF]at hx;rcases hx with hx | rfl
   ·rw[hg2 q (fun e=>g2 x hx (e1.trans e))];exact(h4 q p hq).1 ⟨x,hx,e1,e2⟩
   simp only at e1 e2;subst e1;subst e2;exact hg
  intro hp;by_cases e:q=u
  ·subst e;rw[hg]at hp;cases hp;exact⟨{ key:=q,val:=v,born:=c },by simp,rfl,rfl⟩
  rw[hg2 q e]at hp;obtain⟨x,hx,e⟩:=(h4 q p hq).2 hp;exact⟨x,by simp[show x∈es from by simpa using hx],e⟩
 have hj:es[j]? = some x:=by simpa using g2
 have hmem:x∈es.toList:=DY g2;have hlt:j<es.size:=(Dx.1 hj).1;have hkeyf : ∀e',es[j]? = some e'->({ e' with key:=u,val:=v }:MapEntry).key=e'.key:=fun e' he'=>by rw[hj]at he';cases he';exact g3.symm
 have hst:Stamped (es.modify j (fun e'=>{ e' with key:=u,val:=v })) c:=stamped_modify h3 _ _ (fun _ _=>rfl) (fun e' _ he'=>hkeyf e' he');have hget : ∀i y,(es.modify j (fun e'=>{ e' with key:=u,val:=v }))[i]? = some y↔(i=j/\y={ x with key:=u,val:=v })\/(i≠j/\es[i]? = some y):=by
  intro i y;rw[Fx];by_cases hij:i=j
  ·subst hij;rw[if_pos rfl,hj];simp[eq_comm]
  rw[if_neg (Ne.symm hij)];simp[hij]
 have huniq : ∀i y,es[i]? = some y->y.key=u->i=j:=by
  intro i y hy hk;have hnd:=h3.2.2;have e1:(es.toList.map (·.key))[i]? = some u:=by simp[hy,hk]
  have e2:(es.toList.map (·.key))[j]? = some u:=by simp[hj,g3]
  have hl1:=(E3.1 e1);have hl2:=(E3.1 e2);obtain⟨l1,q1⟩:=hl1;obtain⟨l2,q2⟩:=hl2;exact(List.getElem_inj hnd).1 (q1.trans q2.symm)
 refine⟨.map (es.modify j (fun e'=>{ e' with key:=u,val:=v })) c,?_,_,_,(MapKept.heap_set h1).1,?_,hst,?_⟩
 ·simp[Instr.mapUpdate,run_underlying ht,MapKept.run_getObj_map h1,MapKept.run_checkKey hd hu,MapKept.run_findKey hd g1,hj,g3,MapKept.run_keyThatStays hu,MapKept.run_setObj_map _ h1,Result.andThen]
 ·intro y hy;obtain⟨i,hi⟩:=FF hy;have hi:(es.modify j (fun e'=>{ e' with key:=u,val:=v }))[i]? = some y:=by rw[ED]at hi;exact hi
  rcases(hget i y).1 hi with⟨_,rfl⟩ | ⟨_,h5⟩
  ·exact hu
  exact h2 y (DY (by simpa using h5))
 intro q p hq;constructor
 ·rintro⟨y,hy,e1,e2⟩;obtain⟨i,hi⟩:=FF hy;have hi:(es.modify j (fun e'=>{ e' with key:=u,val:=v }))[i]? = some y:=by rw[ED]at hi;exact hi
  rcases(hget i y).1 hi with⟨_,rfl⟩ | ⟨h6,h5⟩
  ·simp only at e1 e2;subst e1;subst e2;exact hg
  rw[hg2 q (fun e=>h6 (huniq i y h5 (e1.trans e)))];exact(h4 q p hq).1 ⟨y,DY (by simpa using h5),e1,e2⟩
 intro hp;by_cases hqu:q=u
 ·subst hqu;rw[hg]at hp;cases hp;refine⟨{ x with key:=q,val:=v },DY (i:=j) ?_,rfl,rfl⟩;rw[ED];exact(hget j { x with key:=q,val:=v }).2 (.inl ⟨rfl,rfl⟩)
 rw[hg2 q hqu]at hp;obtain⟨y,hy,e1,e2⟩:=(h4 q p hq).2 hp;obtain⟨i,hi⟩:=FF hy;have hi':es[i]? = some y:=by simpa using hi
 refine⟨y,DY (i:=i) ?_,e1,e2⟩;rw[ED];refine(hget i y).2 (.inr ⟨fun e=>?_,hi'⟩);subst e;rw[hj]at hi';cases hi';exact hqu (e1.symm.trans g3)
theorem fX{x q:Operand}{u v:Value}{op:Op}(hop:op = .mapUpdate t x y q\/op = .insert t x y q)(ht:P.underlying t=some (.map k e))(hd:P.underlying k=some d)(hx:asg us x = .map (some r))(hy:asg us y=u)(hq:asg us q=v)(hu:IsKey d u)(m:cA d h r f)(g:Value->Option Value)(hg:g u=some v)(hg2 : ∀j,j≠u->g j=f j)(hk : ∀h':Heap,h'.size=h.size->(∀b,b≠r->h'[b]? = h[b]?)->cA d h' r g->K undef h'):step P op ty us h K:=by refine cf (kZ fun w hw=>?_);subst hw;obtain⟨o,h1,h2⟩:=tY (v:=v) ht hd hu m g hg hg2;obtain⟨es,c,h3,_⟩:=m.ex;have hoth:=(MapKept.heap_set (o':=o) h3).2;refine⟨{ w with heap:=w.heap.setIfInBounds r o },?_,Same.lE rfl rfl rfl (by simp) h3 (by simp) (fun k _ hne=>hoth k hne),hk _ (by simp) hoth h2⟩;rcases hop with rfl | rfl<;>simp only[aL,execOp,hx,hy,hq]<;>simp[h1]
end
def mapI (f:Int->Option Int):Value->Option Value
 | .int .i64 j=>(f j).map (.int .i64)
 | _=>none
@[simp] theorem Cr{f:Int->Option Int}{j:Int}:mapI f (.int .i64 j)=(f j).map (.int .i64):=rfl
def mapB (s:Int->Bool):Value->Option Value
 | .int .i64 j=>if s j then some (.bool true) else none
 | _=>none
@[simp] theorem tA{s:Int->Bool}{j:Int}:mapB s (.int .i64 j)=if s j then some (.bool true) else none:=rfl
theorem dz{j:Int}:IsKey (.int .i64) (.int .i64 j):=rfl
theorem yz{f g:Int->Bool}{j:Int}(h : ∀i,g i=if i=j then true else f i):mapB g (.int .i64 j)=some (.bool true)/\∀u,u≠.int .i64 j->mapB g u=mapB f u:=by
 refine⟨by simp[h],fun u hu=>?_⟩;cases u<;>try rfl
 rename_i k i;cases k<;>try rfl
 have:i≠j:=fun e=>hu (by rw[e]);simp[h,this]
@[simp] theorem Cc{s:Bool}:(if s=true then some (Value.bool true) else .none).getD (.bool false) = .bool s:=by cases s<;>rfl
end
section
variable {po:OP} {pp:PP}
variable{P:Program}{ρ:Env}
theorem aa{x y:LC}{Q:Post}{h:Heap}(hx : ∀z,z=y->LC.wp P x (gy (LC.wp P z Q) Q) ρ h):LC.wp P (.seq x y) Q ρ h:=hx y rfl
variable{ty:TypeId}
theorem qq{k:Bool}{kill:List Nat}{sets args:List (Nat × E)}{grd:Option (E × Bool)}{chk:List E}{tail:Bool}{op:Op}{dst:Option Nat}{keep:Bool}{next:Reg}{Q:Post}{h:Heap}(hx : ∀z,z=next->LC.wp P (.reg k (.loud kill sets args grd chk tail op ty dst keep z)) Q ρ h):LC.wp P (.reg k (.loud kill sets args grd chk tail op ty dst keep next)) Q ρ h:=hx next rfl
theorem dL{m:Option View}{kill:List Nat}{sets args:List (Nat × E)}{grd:Option (E × Bool)}{chk:List E}{tail:Bool}{op:Op}{dst:Option Nat}{keep:Bool}{next:Reg}{Q:Env->Heap->Prop}{h:Heap}(hx : ∀z,z=next->df P m (.loud kill sets args grd chk tail op ty dst keep z) Q ρ h):df P m (.loud kill sets args grd chk tail op ty dst keep next) Q ρ h:=hx next rfl
def lp {α:Type} [Rep α] (X:View):List Value->List α->Prop
 | [],[]=>True
 | v::vs,d::ds=>Rd X v d/\lp X vs ds
 | _,_=>False
theorem lp.len {α:Type} [Rep α] {X:View} : ∀{vs:List Value} {ds:List α},lp X vs ds->vs.length=ds.length
 | [],[],_=>rfl
 | _::_,_::_,h=>by simp[lp.len h.2]
theorem lp.get {α:Type} [Rep α] {X:View} : ∀{vs:List Value} {ds:List α},lp X vs ds->∀(i:Nat) (h1:i<vs.length) (h2:i<ds.length),Rd X vs[i] ds[i]
 | _::_,_::_,h,0,_,_=>h.1
 | _::_,_::_,h,i+1,h1,h2=>h.2.get i _ _
variable{α:Type}
theorem Rd.Bs[Rep α]{X:View}{v:Value}{d:α}(ha:Rep.agg α=false)(h:Rd X v d):v.cells = #[v]:=by unfold Rd at h;rw[if_neg (by simp[ha])]at h;have hfl:=Rep.flat h v (by simp);cases v<;>first | rfl | simp[Value.oneCell']at hfl
theorem sk : ∀(vs:List Value) (k:Nat) (A:Array Value),(∀v∈vs,v.cells = #[v])->k+vs.length=A.size->
  ∃B,Instr.fill (fun j=>some (j*1,1)) A ((vs.zipIdx k).map fun p=>(p.2,p.1))=some B/\B.toList=A.toList.take k++vs
 | [],k,A,_,hk=>⟨A,rfl,by simp at hk;rw[DH (by simp[hk])];simp⟩
 | v::vs,k,A,hv,hk=>by
  have hc:=hv v (Dz ..);obtain⟨B,h1,h2⟩:=sk vs (k+1) (A.setIfInBounds k v) (fun u hu=>hv u (DB _ hu)) (by simp at hk ⊢;omega);refine⟨B,?_,?_⟩
  ·simp only[FB,Et,Instr.fill,hc,Ea];rw[if_neg (by simp at hk ⊢;omega)];simpa using h1
  rw[h2];have hkA:k<A.toList.length:=by simp at hk ⊢;omega
  rw[DK (by simpa using hkA)];simp[E5]
end
structure Cat (α β:Type) where
 a:α
 b:β
instance {α β:Type} [Rep α] [Rep β]:Rep (Cat α β) where
 n:=Rep.n α+Rep.n β
 agg:=true
 rd:=fun H cs d=>∃c1 c2,cs=c1++c2/\Rep.rd H c1 d.a/\Rep.rd H c2 d.b
 mono:=fun hk ⟨c1,c2,h1,h2,h3⟩=>⟨c1,c2,h1,Rep.mono hk h2,Rep.mono hk h3⟩
 len:=fun⟨c1,c2,h1,h2,h3⟩=>by rw[h1,DT,Rep.len h2,Rep.len h3]
 one:=fun h=>by cases h
 flat:=fun⟨c1,c2,h1,h2,h3⟩ u hu=>by
  rw[h1]at hu
  rcases DE.1 hu with hu | hu
  ·exact Rep.flat h2 u hu
  ·exact Rep.flat h3 u hu
 pos:=Nat.add_pos_left Rep.pos _
 dB:=fun⟨c1,c2,h1,h2,h3⟩=>⟨c1,c2,h1,Rep.dB h2,Rep.dB h3⟩
abbrev Rep.via {α γ:Type} [Rep α] (f:γ->α):Rep γ where
 n:=Rep.n α
 agg:=Rep.agg α
 rd:=fun H cs d=>Rep.rd H cs (f d)
 mono:=fun hk h=>Rep.mono hk h
 len:=fun h=>Rep.len h
 one:=fun h=>Rep.one h
 flat:=fun h=>Rep.flat h
 pos:=Rep.pos
 dB:=fun h=>Rep.dB h
theorem At.int {H:View} {a:Addr} {d:Int} (h:At H a d):ag H a=some (.int .i64 d):=by obtain⟨u,h1,h2⟩:=h.load rfl;rw[(bh.1 h2).1]at h1;exact h1
variable{α:Type}{H:View}
theorem At.list[Rep α]{a:Addr}{l:List α}(h:At H a l): ∃v,ag H a=some v/\SlRd H v l:=by obtain⟨u,h1,h2⟩:=h.load rfl;exact⟨u,h1,dG.1 h2⟩
theorem At.i32 {H:View} {a:Addr} {d:I32} (h:At H a d):ag H a=some (.int .i32 d.v):=by obtain⟨u,h1,h2⟩:=h.load rfl;rw[(uY.1 h2).1]at h1;exact h1
structure InD where
 frm:Int
 val:Int
 deriving Inhabited,DecidableEq
instance:Rep InD:=Rep.via fun d=>Cat.mk d.frm d.val
structure PhiD where
 dst:Int
 ins:List InD
 deriving Inhabited,DecidableEq
instance:Rep PhiD:=Rep.via fun d=>Cat.mk d.dst d.ins
structure InsD where
 op:Int
 dst:Int
 two:Int
 args:List Int
 imm:I32
 deriving Inhabited,DecidableEq
instance:Rep InsD:=Rep.via fun d=>Cat.mk d.op (Cat.mk d.dst (Cat.mk d.two (Cat.mk d.args d.imm)))
structure cL where
 kind:Int
 args:List Int
 to:List Int
 imm:I32
 deriving Inhabited,DecidableEq
instance:Rep cL:=Rep.via fun d=>Cat.mk d.kind (Cat.mk d.args (Cat.mk d.to d.imm))
structure BlkD where
 phis:List PhiD
 ins:List InsD
 term:cL
 deriving Inhabited,DecidableEq
instance:Rep BlkD:=Rep.via fun d=>Cat.mk d.phis (Cat.mk d.ins d.term)
structure ae where
 params:Int
 blocks:List BlkD
 deriving Inhabited,DecidableEq
instance:Rep ae:=Rep.via fun d=>Cat.mk d.params d.blocks
section
open Go Go.MapKept
variable {po:OP} {pp:PP}
section
variable {P:Program} {ty:TypeId} {us:List (Nat × Value)} {h:Heap} {K:Value->Heap->Prop}
def isIface:TypeDesc->Bool
 | .interface _=>true
 | _=>false
theorem zz{t:TypeId}{d:TypeDesc}{x:Operand}{v:Value}(hd:P.underlying t=some d)(hn:isIface d=false)(hx:asg us x=v)(hk:K (.iface t v) h):step P (.makeInterface t x) ty us h K:=by refine cf (bE fun w hw=>⟨.iface t v,w,?_,Same.refl _,by rw[hw];exact hk⟩);simp only[aL,execOp,hx];cases d<;>first | (simp[isIface]at hn;done) | (simp[Instr.makeInterface,run_underlying hd];done)
theorem yQ{x:Operand}{t:TypeId}{v:Value}(hx:asg us x = .iface t v)(hk:po.op [{ v:=.iface t v,recovered:=false }] h):step P (.panic x) ty us h K:=by
 refine cf ?_;intro w hw r o a K' Q' hK hQ;have hr:(aL (.panic x) ty us).run P w = .halt (.panic (.iface t v)) w:=by simp only[aL,execOp,hx];simp[Instr.panic,goPanic,Sem.run]
 rw[hr];simp only[Oper.uponIn];exact hQ _ w (by rw[hw];exact hk) (Same.refl _)
theorem xv{T xT:TypeId}{d:TypeDesc}{x:Operand}{v:Value}(hd:P.underlying T=some d)(hn:isIface d=false)(hx:asg us x = .iface T v)(hk:K (.tuple #[v,.bool true]) h):step P (.typeAssert x xT T true) ty us h K:=by refine cf (bE fun w hw=>⟨.tuple #[v,.bool true],w,?_,Same.refl _,by rw[hw];exact hk⟩);simp only[aL,execOp,hx];cases d<;>first | (simp[isIface]at hn;done) | (simp[Instr.typeAssert,run_underlying hd];done)
variable{r:Nat}{y:Operand}
theorem iw{t k e:TypeId}{d:TypeDesc}{f:Value->Option Value}{x:Operand}{u z:Value}(ht:P.underlying t=some (.map k e))(hd:P.underlying k=some d)(hz:(P.info? e).map (·.zero)=some (some z))(hx:asg us x = .map (some r))(hy:asg us y=u)(hu:IsKey d u)(m:cA d h r f)(hk:K (.tuple #[(f u).getD z,.bool (f u).isSome]) h):step P (.lookup t x y true) ty us h K:=by
 obtain⟨es,c,h1,h2,h3,h4⟩:=m.ex;simp only[Dw]at hz;obtain⟨i,hi,hz⟩:=hz;refine cf (bE fun w hw=>⟨_,w,?_,Same.refl _,by rw[hw];exact hk⟩);have hz':(zeroValue e).run P w = .ok z w:=by simp[zeroValue,typeInfo,hi,hz]
 rw[<-hw]at h1;simp only[aL,execOp,hx,hy];rcases MapKept.findNow_spec hu es.toList 0 h2 with⟨g1,g2⟩ | ⟨j,x,g1,g2,g3⟩
 ·have hf:f u = .none:=by
   cases hfu:f u with
   | none=>rfl
   | some v=>obtain⟨x,hx,e1,_⟩:=(h4 u v hu).2 hfu;exact absurd e1 (g2 x hx)
  simp[Instr.lookup,run_underlying ht,MapKept.run_getObj_map h1,MapKept.run_checkKey hd hu,MapKept.run_findKey hd g1,Result.andThen,hf,hz']
 have hf:f u=some x.val:=(h4 u x.val hu).1 ⟨x,DY g2,g3,rfl⟩;simp[Instr.lookup,run_underlying ht,MapKept.run_getObj_map h1,MapKept.run_checkKey hd hu,MapKept.run_findKey hd g1,Result.andThen,hf]
theorem uu{T:TypeId}{ms:Array (String × TypeId)}{w:World}{v:Value}{b:Bool}(hd:P.underlying T=some (.interface ms))(hv:v = .nilIface/\b=true\/∃t u,v = .iface t u/\b=false):(Op.equal T v .nilIface).run P w = .ok b w:=by
 have key : ∀n,(Op.equalIn (n+1) T v .nilIface).run P w = .ok b w:=fun n=>by rcases hv with⟨rfl,rfl⟩ | ⟨t,u,rfl,rfl⟩<;>simp[Op.equalIn,run_underlying hd]
 exact key 9999
theorem tD{T rt:TypeId}{ms:Array (String × TypeId)}{x:Operand}{v:Value}{b:Bool}(hd:P.underlying T=some (.interface ms))(hx:asg us x=v)(hv:v = .nilIface/\b=true\/∃t u,v = .iface t u/\b=false)(hk:K (.bool b) h):
  step P (.binOp .eql T x (.const .nilIface) rt) ty us h K:=by refine cf (bE fun w hw=>⟨.bool b,w,?_,Same.refl _,by rw[hw];exact hk⟩);simp only[aL,execOp,hx,qH];have:=uu (w:=w) hd hv;rcases hv with⟨rfl,rfl⟩ | ⟨t,u,rfl,rfl⟩<;>simp[eqGuard,binOp,this]
end
end
def lN (P:Program) (g:FuncId) (args:Array Value) (u:FrameMode) (h:Heap) (S:FrameMode->Heap->Prop):Prop:=
 ∀w:World,w.heap=h->CallsDIn (Fw none) 0 P g args u w fun e u' w'=>e = .returned (.tuple #[])/\S u' w'.heap/\Same w w'
variable{P:Program}{caps:Array Value}
theorem vD{fn:Func}{a:Act}{w:World}{R:Ending->World->Prop}{g:FuncId}{S:FrameMode->Heap->Prop}{u:FrameMode}(hg:isFn P g=true)(hd:a.defers=[{ target:=.fn (.func g) caps,args:=#[] }])(hu:u≠.run)(hc:lN P g caps u w.heap S)(hS : ∀u' w',S u' w'.heap->Same w w'->settle u' = .returning/\∃v,(results fn a.tmps).run P w' = .ok v w'/\R (.returned v) w'):LeavesIn (Fw none) 0 P fn a.tmps R a.defers u w:=by
 rw[hd];refine leavesIn_cons (f:=g) (args:=caps) hu (by simp[Fw,Fence.wide]) ?_ (fun _ _=>trivial) ((hc w rfl).mono ?_)
 ·unfold isFn at hg;cases hfn':P.funcs[g]? with
  | none=>simp[hfn']at hg
  | some fn'=>simp only[hfn',DC,bne_iff_ne,ne_eq]at hg;obtain⟨h1,h2⟩:=hg;simp[invoke,callFunc,program,Sem.run,hfn',h1,Option.isNone];cases hb:fn'.body<;>simp[hb]at h2 ⊢
 rintro e u' w' ⟨rfl,h1,h2⟩;obtain⟨h3,v,h4,h5⟩:=hS u' w' h1 h2;show LeavesIn (Fw none) 0 P fn a.tmps R [] (settle u') w';rw[h3];exact⟨v,h4,h5⟩
def mF (ρ:Env):List Operand->Option (List Value)
 | []=>some []
 | .tmp t::l=>match look ρ t,mF ρ l with
  | some v,some vs=>some (v::vs)
  | _,_=>none
 | _::_=>none
theorem oI {ρ:Env} {a:Act} (hs:Sat ρ a) : ∀{l:List Operand} {vs:List Value},mF ρ l=some vs->l.map a.eval=vs
 | [],vs,h=>by simp[mF]at h;subst h;rfl
 | .tmp t::l,vs,h=>by
  simp only[mF]at h;split at h
  ·rename_i v vs' h1 h2;simp only[o0]at h;subst h;have:=hs t v h1;simp[Act.eval,this,oI hs h2]
  cases h
 | .const _::_,_,h=>by simp[mF]at h
 | .global _::_,_,h=>by simp[mF]at h
 | .func _::_,_,h=>by simp[mF]at h
theorem ld{f:FuncId}{fn:Func}{c0 c1:Code}{id:Nat}{o1 o2:Oper}{g t:Nat}{capops:Array Operand}{tys:Array TypeId}{live0 liveR0 live1 liveR1:List Nat}{L0 L1:LC}{res:List E}{args:List Value}{h:Heap}{R:Value->Heap->Prop}{Mid:Env->Heap->Prop}(hm:P.follows .mixedOrders=true)(hf:P.funcs[f]? = some fn)(hb:fn.body=some (.seq c0 (.seq (.region id #[o1,o2] false) c1)))(h1:o1.op = .makeFunc (.func g) #[] capops)(h1d:o1.dst=some t)(h1g:o1.guard=none)(h2:o2.op = .defer ⟨.value (.tmp t),#[],tys⟩)(h2d:o2.dst=none)(h2g:o2.guard=none)(ht:t<fn.ntmps)(hg:isFn P g=true)(hL0:dt P fn.ntmps live0 liveR0 false c0=some L0)(hp0:L0.plain=true)(hL1:dt P fn.ntmps live1 liveR1 false c1=some L1)(hp1:L1.plain=true)(hres:fn.results.toList.mapM (resE P)=some res)(hn:args.length<=fn.ntmps)(hw:@LC.wp noPP P L0 (gy Mid fun _ _ _=>False) (fS 0 args) h)(hmid : ∀ρ hh,Mid ρ hh->∃capv,mF ρ capops.toList=some capv/\∃pp:PP,
   @LC.wp pp P L1 (fun e ρ2 h2=>(e = .normal\/e = .ret)/\∃S,lN P g capv.toArray .returning h2 S/\∀u' h3,S u' h3->settle u' = .returning/\∃vs,evs (look ρ2) (vw h3) res=some vs/\R (pack vs) h3) (bu ρ [t]) hh/\
   ∀ch ρ2 h2,pp.kp ch h2->pp.fx ρ2->∃S,lN P g capv.toArray (.panicking ch) h2 S/\∀u' h3,S u' h3->settle u' = .returning/\∃vs,evs (look ρ2) (vw h3) res=some vs/\R (pack vs) h3):
  aj P f args.toArray h R:=by
 intro w hwh;subst hwh;have hsat:Sat (fS 0 args) { tmps:=args.toArray++Array.replicate (fn.ntmps-args.toArray.size) undef,defers:=[] }:=by
  intro t v hl;obtain⟨_,h2⟩:=jn args 0 t v hl;have:t<args.length:=by
   rcases DA t args.length with h | h
   ·exact h
   simp[D1 h]at h2
  simp only[Nat.sub_zero]at h2;simp only[Fu,EI,this,if_true,Fv];exact h2
 refine(callsIn_wide (n:=0)).1 (callsIn_of_wp_defers hf hb trivial (wpIn_seq (wpIn_mono (cM (r:=none) hm c0 hL0 (fun _=>rfl) hw hsat (by simp;omega)) ?_)));rintro e a1 w1 ⟨ρ1,s1,n1,⟨ms,hds,hms,_⟩,hq,hS1⟩;rw[hms hp0]at hds;have hds:a1.defers=[]:=hds;have hq:=kU hq;cases e with
 | normal=>
  obtain⟨capv,hcap,pp,hwp,hpan⟩:=hmid ρ1 w1.heap hq;have hev:=oI s1 hcap;refine wpIn_seq (wpIn_region_list ?_);have wt1:Region.wanted o1 (yielded #[o1,o2] a1.tmps)=true:=by simp[Region.wanted,h1g]
  have hf1:(execOp a1.eval o1).run P w1 = .ok (.value (.func (.func g) #[] capv.toArray)) w1:=by
   simp only[execOp,h1];have:capops.map a1.eval=capv.toArray:=by rw[<-hev,<-Array.toList_inj];simp
   simp[this,Instr.makeFunc]
  have hput:a1.put o1.dst (.func (.func g) #[] capv.toArray)={ tmps:=a1.tmps.setIfInBounds t (.func (.func g) #[] capv.toArray),defers:=a1.defers }:=by rw[h1d];rfl
  have hget:(a1.tmps.setIfInBounds t (.func (.func g) #[] capv.toArray))[t]? = some (.func (.func g) #[] capv.toArray):=by rw[Fk];simp[n1,ht]
  simp only[wpListIn];rw[if_pos wt1];refine⟨fun _ _=>trivial,?_⟩;rw[Oper.semAt_eq _ _ _ (by intro c e;rw[h1]at e;cases e),hf1];simp only[Oper.uponIn,hput];have wt2:Region.wanted o2 (yielded #[o1,o2] (a1.tmps.setIfInBounds t (.func (.func g) #[] capv.toArray)))=true:=by simp[Region.wanted,h2g]
  rw[if_pos wt2];have hf2:(execOp (Act.eval { tmps:=a1.tmps.setIfInBounds t (.func (.func g) #[] capv.toArray),defers:=a1.defers }) o2).run P w1 = .ok (.defer { target:=.fn (.func g) capv.toArray,args:=#[] }) w1:=by simp only[execOp,h2];simp[resolve,Act.eval,hget,Deferred.ofValue]
  refine⟨fun _ _=>trivial,?_⟩;rw[show Fence.wide.round=none from rfl,Oper.semAt_none,hf2];simp only[Oper.uponIn,h2d,Act.put,hds];show c1.wpIn (Fw none) 0 P _ _ _;have s2:Sat (bu ρ1 [t]) { tmps:=a1.tmps.setIfInBounds t (.func (.func g) #[] capv.toArray),defers:=[{ target:=.fn (.func g) capv.toArray,args:=#[] }] }:=by intro x v hl;obtain⟨e1,e2⟩:=iA _ _ _ _ hl;have hne:t≠x:=fun e=>e1 (by simp[e]);simp only[D8 hne];exact s1 x v e2
  refine wpIn_mono (cM (pp:=pp) (r:=none) (a:={ tmps:=a1.tmps.setIfInBounds t (.func (.func g) #[] capv.toArray),defers:=[{ target:=.fn (.func g) capv.toArray,args:=#[] }] }) hm c1 hL1 (fun _=>rfl) hwp s2 (by simp[n1])) ?_;rintro e a2 w2 ⟨ρ2,s3,n3,⟨ms2,hds2,hms2,_⟩,hq2,hS2⟩;rw[hms2 hp1]at hds2;have hds2:a2.defers=[{ target:=.fn (.func g) capv.toArray,args:=#[] }]:=hds2;have fin : ∀(u:FrameMode),u≠.run->(∃S,lN P g capv.toArray u w2.heap S/\∀u' h3,S u' h3->settle u' = .returning/\∃vs,evs (look ρ2) (vw h3) res=some vs/\R (pack vs) h3)->
    LeavesIn (Fw none) 0 P fn a2.tmps (fun e w'=>∃v,e = .returned v/\R v w'.heap/\Same w w') a2.defers u w2:=by rintro u hu ⟨S,hc,hS⟩;refine vD hg hds2 hu hc fun u' w' hu' hsame=>?_;obtain⟨g1,vs,g2,g3⟩:=hS u' w'.heap hu';exact⟨g1,pack vs,iG hres (kT (fun t v h=>s3 t v h) g2),pack vs,rfl,g3,(hS1.trans hS2).trans hsame⟩
  cases e with
  | normal=>exact fin .returning (by simp) hq2.2
  | ret=>exact fin .returning (by simp) hq2.2
  | panic ch=>exact fin (.panicking ch) (by simp) (hpan ch ρ2 w2.heap hq2.2 hq2.1)
  | exit i=>rcases hq2.1 with h | h<;>cases h
  | goto l=>rcases hq2.1 with h | h<;>cases h
  | outgrown=>rcases hq2.1 with h | h<;>cases h
 | _=>exact hq.elim
def fG:FrameMode->Value × FrameMode
 | .panicking ({ v,recovered:=false,goexit:=false }::older)=>(v,.panicking ({ v,recovered:=true }::older))
 | u=>(.nilIface,u)
theorem kf{g:FuncId}{fn:Func}{c1:Code}{id t:Nat}{o:Oper}{tys:Array TypeId}{live liveR:List Nat}{L:LC}{args:List Value}{u:FrameMode}{h:Heap}{S:FrameMode->Heap->Prop}(hm:P.follows .mixedOrders=true)(hf:P.funcs[g]? = some fn)(hb:fn.body=some (.seq (.region id #[o] false) c1))(ho:o.op = .call ⟨.builtin .recover,#[],tys⟩)(hod:o.dst=some t)(hog:o.guard=none)(ht:t<fn.ntmps)(hL:dt P fn.ntmps live liveR false c1=some L)(hp:L.plain=true)(hr:fn.results = #[])(hn:args.length<=fn.ntmps)(hw:@LC.wp noPP P L (fun e _ h'=>(e = .normal\/e = .ret)/\S (fG u).2 h') ((t,(fG u).1)::bu (fS 0 args) [t]) h):lN P g args.toArray u h S:=by
 intro w hwh;subst hwh;refine callsDIn_of_wpSIn hf hb trivial fun c₀ cs hu=>?_;apply wpSIn_seq;apply wpSIn_region;have hsat:Sat (fS 0 args) { tmps:=args.toArray++Array.replicate (fn.ntmps-args.toArray.size) undef,defers:=[] }:=by
  intro t v hl;obtain⟨_,h2⟩:=jn args 0 t v hl;have:t<args.length:=by
   rcases DA t args.length with h | h
   ·exact h
   simp[D1 h]at h2
  simp only[Nat.sub_zero]at h2;simp only[Fu,EI,this,if_true,Fv];exact h2
 have hsz:(args.toArray++Array.replicate (fn.ntmps-args.toArray.size) undef).size=fn.ntmps:=by simp;omega
 have hex : ∀ρ,(execOp ρ o).run P w = .ok .recover w:=fun ρ=>by simp only[execOp,ho];simp[resolve,invoke,builtin]
 generalize args.toArray++Array.replicate (fn.ntmps-args.toArray.size) undef=tm at hsat hsz;have hwant : ∀tm',Region.wanted o (yielded #[o] tm')=true:=fun tm'=>by simp[Region.wanted,hog]
 have key : ∀(v:Value) (c':Frame),(fG u).1=v->c'={ c₀ with mode:=(fG u).2 }->c1.wpSIn (Fw none) 0 P (bodyPostS P fn c₀ cs fun e u' w'=>e = .returned (.tuple #[])/\S u' w'.heap/\Same w w') { tmps:=tm.setIfInBounds t v,defers:=[] } (c'::cs) w:=by
  intro v c' hv hc';have s2:Sat ((t,(fG u).1)::bu (fS 0 args) [t]) { tmps:=tm.setIfInBounds t v,defers:=[] }:=by
   intro x y hl;simp only[look]at hl;split at hl
   ·rename_i e;subst e;simp only[o0]at hl;rw[<-hl,hv,Fk];simp[hsz,ht]
   rename_i e;obtain⟨e1,e2⟩:=iA _ _ _ _ hl;simp only[D8 e];exact hsat x y e2
  refine wpSIn_of_wpIn rfl (wpIn_mono (cM (pp:=noPP) (r:=none) (a:={ tmps:=tm.setIfInBounds t v,defers:=[] }) hm c1 hL (fun _=>rfl) hw s2 (by simp[hsz])) ?_);rintro e a2 w2 ⟨ρ2,s3,n3,⟨ms2,hds2,hms2,_⟩,hq2,hS2⟩;rw[hms2 hp]at hds2;have hds2:a2.defers=[]:=hds2;have hq2:=kU hq2;have hres:(results fn a2.tmps).run P w2 = .ok (.tuple #[]) w2:=by simp[results,hr]
  have fin:a2.defers=[]/\∃u',c'::cs={ c₀ with mode:=u' }::cs/\∃v,(results fn a2.tmps).run P w2 = .ok v w2/\Ending.returned v = .returned (.tuple #[])/\S u' w2.heap/\Same w w2:=
   ⟨hds2,_,by rw[hc'],_,hres,rfl,hq2.2,hS2⟩;cases e with
  | normal=>exact fin
  | ret=>exact fin
  | panic ch=>rcases hq2.1 with h | h<;>cases h
  | exit i=>rcases hq2.1 with h | h<;>cases h
  | goto l=>rcases hq2.1 with h | h<;>cases h
  | outgrown=>rcases hq2.1 with h | h<;>cases h
 have hr0:List.range (#[o]:Array Oper).size=[0]:=rfl;rw[hr0];simp only[wpOpsSIn];have ho0:(#[o]:Array Oper)[0]? = some o:=rfl;rw[ho0];simp only[hwant,if_true,hex];refine⟨fun _ _=>trivial,?_⟩;by_cases hcase : ∃v older,u = .panicking ({ v,recovered:=false,goexit:=false }::older)
 ·obtain⟨v,older,rfl⟩:=hcase;have e:recoverD (c₀::cs)=some (v,{ c₀ with mode:=.panicking ({ v,recovered:=true }::older) }::cs):=by simp only[recoverD,hu]
  rw[e];simp only[hod];exact key v _ rfl rfl
 have e:recoverD (c₀::cs)=none:=by
  simp only[recoverD,hu];split
  ·exact absurd ⟨_,_,rfl⟩ hcase
  rfl
 have er:fG u=(.nilIface,u):=by
  unfold fG;split
  ·exact absurd ⟨_,_,rfl⟩ hcase
  rfl
 rw[e];simp only[hod];exact key .nilIface c₀ (by rw[er]) (by rw[er,<-hu])
section
variable {po po2:OP} {pp:PP}
structure Part (α β:Type) [Rep α] [Rep β] (o:Nat) (get:α->β) (set:α->β->α):Prop where
 fits:o+Rep.n β<=Rep.n α
 get : ∀{H:View} {cs:List Value} {d:α},Rep.rd H cs d->Rep.rd H ((cs.drop o).take (Rep.n β)) (get d)
 set : ∀{H:View} {cs us:List Value} {d:α} {x:β},Rep.rd H cs d->Rep.rd H us x->Rep.rd H (cs.take o++us++cs.drop (o+Rep.n β)) (set d x)
theorem Part.all[Rep α]:Part α α 0 (fun d=>d) (fun _ x=>x) where
 fits:=by simp
 get:=fun h=>by rw[E0,DH (by rw[Rep.len h];exact Dy _)];exact h
 set:=fun h k=>by
  have:=Rep.len h
  rw[Fq,D7,DX (by omega),EF];exact k
section
variable {α β γ:Type} [Rep α] [Rep β] [Rep γ] {o:Nat}
theorem Part.fst{g:α->γ}{s:α->γ->α}(p:Part α γ o g s):Part (Cat α β) γ o (fun d=>g d.a) (fun d x=>⟨s d.a x,d.b⟩) where
 fits:=DW p.fits (Nat.le_add_right _ _)
 get:=by
  rintro H cs d ⟨c1,c2,rfl,h1,h2⟩
  have l1:=Rep.len h1
  have f:=p.fits
  rw[Ec (by omega),DZ (by simp;omega)]
  exact p.get h1
 set:=by
  rintro H cs us d x ⟨c1,c2,rfl,h1,h2⟩ k
  have l1:=Rep.len h1
  have f:=p.fits
  refine⟨_,c2,?_,p.set h1 k,h2⟩
  rw[DZ (by omega),Ec (by omega)]
  simp[DG]
theorem Part.snd{g:β->γ}{s:β->γ->β}(p:Part β γ o g s):Part (Cat α β) γ (Rep.n α+o) (fun d=>g d.b) (fun d x=>⟨d.a,s d.b x⟩) where
 fits:=by
  have:=p.fits
  show Rep.n α+o+Rep.n γ<=Rep.n α+Rep.n β
  omega
 get:=by
  rintro H cs d ⟨c1,c2,rfl,h1,h2⟩
  have l1:=Rep.len h1
  rw[EL,DX (by omega),D7,show Rep.n α+o-c1.length=o by omega]
  exact p.get h2
 set:=by
  rintro H cs us d x ⟨c1,c2,rfl,h1,h2⟩ k
  have l1:=Rep.len h1
  refine⟨c1,_,?_,h1,p.set h2 k⟩
  rw[EB,DH (by omega),show Rep.n α+o-c1.length=o by omega,EL,DX (by omega),D7,
   show Rep.n α+o+Rep.n γ-c1.length=o+Rep.n γ by omega]
  simp[DG]
end
theorem Part.via {α β γ:Type} [ra:Rep α] [rb:Rep β] {f:γ->α} {o o':Nat} {g:α->β} {s:α->β->α} (p:Part α β o g s) {g':γ->β} {s':γ->β->γ} (hg : ∀d,g' d=g (f d)) (hs : ∀d x,f (s' d x)=s (f d) x) (ho:o=o':=by rfl):@Part γ β (Rep.via f) rb o' g' s':=by subst ho;exact @Part.mk γ β (Rep.via f) rb o g' s' p.fits (fun{H cs d} h=>by rw[hg];exact p.get h) (fun{H cs us d x} h k=>by have:=p.set (show Rep.rd H cs (f d) from h) k;rw[<-hs]at this;exact this)
variable{β:Type}
theorem At.part[Rep α][Rep β]{o:Nat}{g:α->β}{s:α->β->α}(p:Part α β o g s){a:Addr}{d:α}(h:At H a d):At H (a.add o) (g d):=by obtain⟨cs,h1,h2⟩:=h;have l:=Rep.len h2;exact⟨_,tB h1 o (Rep.n β) (by rw[l];exact p.fits),p.get h2⟩
theorem Rd.Cf[Rep α][Rep β]{o:Nat}{g:α->β}{s:α->β->α}(p:Part α β o g s)(ha:Rep.agg α=true)(hb:Rep.agg β=false){K:View}{v:Value}{d:α}(h:Rd H v d): ∃u,Un.ev K (.part o) v=some u/\Rd H u (g d):=by
 unfold Rd at h;rw[if_pos ha]at h;obtain⟨cs,rfl,h⟩:=h;have l:=Rep.len h;have f:=p.fits;have k:=p.get h;rw[Rep.one hb]at f k;have hlt:o<cs.size:=by simpa using(show o<cs.toList.length by omega)
 refine⟨cs[o],by simp[hlt],?_⟩;unfold Rd;rw[if_neg (by simp[hb])];rw[DU (by simpa using hlt)]at k;simpa using k
theorem InD.Cy:Part InD Int 0 InD.frm (fun d x=>{ d with frm:=x }):=(Part.fst Part.all).via (fun _=>rfl) fun _ _=>rfl
theorem InD.AU:Part InD Int 1 InD.val (fun d x=>{ d with val:=x }):=(Part.snd Part.all).via (fun _=>rfl) fun _ _=>rfl
theorem PhiD.gK:Part PhiD Int 0 PhiD.dst (fun d x=>{ d with dst:=x }):=(Part.fst Part.all).via (fun _=>rfl) fun _ _=>rfl
theorem PhiD.oZ:Part PhiD (List InD) 1 PhiD.ins (fun d x=>{ d with ins:=x }):=(Part.snd Part.all).via (fun _=>rfl) fun _ _=>rfl
theorem InsD.pM:Part InsD Int 0 InsD.op (fun d x=>{ d with op:=x }):=(Part.fst Part.all).via (fun _=>rfl) fun _ _=>rfl
theorem InsD.gK:Part InsD Int 1 InsD.dst (fun d x=>{ d with dst:=x }):=(Part.snd (Part.fst Part.all)).via (fun _=>rfl) fun _ _=>rfl
theorem InsD.th:Part InsD Int 2 InsD.two (fun d x=>{ d with two:=x }):=(Part.snd (Part.snd (Part.fst Part.all))).via (fun _=>rfl) fun _ _=>rfl
theorem InsD.fm:Part InsD (List Int) 3 InsD.args (fun d x=>{ d with args:=x }):=(Part.snd (Part.snd (Part.snd (Part.fst Part.all)))).via (fun _=>rfl) fun _ _=>rfl
theorem InsD.iy:Part InsD I32 4 InsD.imm (fun d x=>{ d with imm:=x }):=(Part.snd (Part.snd (Part.snd (Part.snd Part.all)))).via (fun _=>rfl) fun _ _=>rfl
theorem cL.uV:Part cL Int 0 cL.kind (fun d x=>{ d with kind:=x }):=(Part.fst Part.all).via (fun _=>rfl) fun _ _=>rfl
theorem cL.fm:Part cL (List Int) 1 cL.args (fun d x=>{ d with args:=x }):=(Part.snd (Part.fst Part.all)).via (fun _=>rfl) fun _ _=>rfl
theorem cL.Bq:Part cL (List Int) 2 cL.to (fun d x=>{ d with to:=x }):=(Part.snd (Part.snd (Part.fst Part.all))).via (fun _=>rfl) fun _ _=>rfl
theorem cL.iy:Part cL I32 3 cL.imm (fun d x=>{ d with imm:=x }):=(Part.snd (Part.snd (Part.snd Part.all))).via (fun _=>rfl) fun _ _=>rfl
theorem BlkD.A1:Part BlkD (List PhiD) 0 BlkD.phis (fun d x=>{ d with phis:=x }):=(Part.fst Part.all).via (fun _=>rfl) fun _ _=>rfl
theorem BlkD.oZ:Part BlkD (List InsD) 1 BlkD.ins (fun d x=>{ d with ins:=x }):=(Part.snd (Part.fst Part.all)).via (fun _=>rfl) fun _ _=>rfl
theorem BlkD.nA:Part BlkD cL 2 BlkD.term (fun d x=>{ d with term:=x }):=(Part.snd (Part.snd Part.all)).via (fun _=>rfl) fun _ _=>rfl
theorem ae.yA:Part ae Int 0 ae.params (fun d x=>{ d with params:=x }):=(Part.fst Part.all).via (fun _=>rfl) fun _ _=>rfl
theorem ae.pj:Part ae (List BlkD) 1 ae.blocks (fun d x=>{ d with blocks:=x }):=(Part.snd Part.all).via (fun _=>rfl) fun _ _=>rfl
def Sl {α:Type} [Rep α] (H:View) (a:Addr) (v:Value) (l:List α):Prop:=ag H a=some v/\SlRd H v l
theorem At.sl[Rep α]{a:Addr}{l:List α}(h:At H a l): ∃v,Sl H a v l:=h.list
variable{b n:Nat}
theorem Addr.z{o:Nat}:(⟨b,o,none⟩:Addr).add n=⟨b,o+n,none⟩:=aM rfl n
section
variable {α:Type} [Rep α] {P:Program} {ty:TypeId} {us:List (Nat × Value)} {h:Heap}
theorem fh{v:Value}{d:α}(hr:Rd H v d):Rep.rd H v.cells.toList d/\v.cells.size=Rep.n α/\∀c∈v.cells.toList,c.oneCell'=true:=by
 unfold Rd at hr;split at hr
 ·obtain⟨cs,rfl,h⟩:=hr;exact⟨h,by rw[<-Rep.len h];rfl,fun c hc=>Rep.flat h c hc⟩
 rename_i ha;have hone:=Rep.one (α:=α) (by simpa using ha);have hfl:=Rep.flat hr v (by simp);have:v.cells = #[v]:=by cases v<;>first | rfl | simp[Value.oneCell']at hfl
 rw[this];exact⟨by simpa using hr,by simp[hone],by simpa using hfl⟩
theorem nq{v:Value}{d:α}{t:TypeId}{fz:Nat × Nat}(hb:H b=some (.cells v.cells t fz))(hr:Rd H v d):At H ⟨b,0,none⟩ d:=
 ⟨_,⟨v.cells,t,fz,rfl,hb,by simp;exact DH (by simp)⟩,(fh hr).1⟩
variable{K:Value->Heap->Prop}
theorem iD{t:TypeId}{x:Operand}{v:Value}{d:α}(hx:asg us x=v)(hv:Rd (vw h) v d)(hk : ∀h':Heap,h'=h.push (.cells v.cells t)->(vw h).le (vw h')->h'.size=h.size+1->At (vw h') ⟨h.size,0,none⟩ d->K (.pointer (some ⟨h.size,0,none⟩)) h'):step P (.box t x) ty us h K:=
 cS hx (hk _ rfl (bG _ _) (by simp) (nq (t:=t) (fz:=(0,0)) (by simp[vw]) (hv.mono (bG _ _))))
theorem SlRd.whole{K:View}{v:Value}{l:List α}(h:SlRd H v l)(ha:Rep.agg α=true)(hk:H.le K){i:Nat}(hi:i<l.length): ∃u,Un.ev K (.ak (Rep.n α)) (.pointer (some ((slA v).add (i*Rep.n α))))=some u/\Rd K u l[i]:=
 ((h.at hi).mono hk).ak ha
end
theorem At.rng{a:Addr}{d:Int}(h:At H a d):-9223372036854775808<=d/\d<=9223372036854775807:=by obtain⟨u,h1,h2⟩:=h.load rfl;exact(bh.1 h2).2
theorem At.bool {H:View} {a:Addr} {d:Bool} (h:At H a d):ag H a=some (.bool d):=by obtain⟨u,h1,h2⟩:=h.load rfl;rw[qI.1 h2]at h1;exact h1
theorem aF[Rep α]:SlRd H (.slice none 0 0) ([]:List α):=⟨none,0,rfl,by simp,by simp,.inl rfl⟩
variable{ty:TypeId}{bytes:Nat}{us:List (Nat × Value)}{K:Value->Heap->Prop}
theorem mj[Rep α]{t e:Nat}{z:Value}{ps:Array (Nat × Operand)}{vs:List Value}{ds:List α}{h:Heap}(ha:Rep.agg α=false)(hT:eR P t e 1 bytes z)(hp:ps.map (fun p=>(p.1,asg us p.2))=((vs.zipIdx 0).map fun p=>(p.2,p.1)).toArray){X:View}(hr:lp X vs ds)(hX:X.le (vw h))(hn:ds.length=n)(hb:n<=16777216)(hk : ∀u h',(vw h).le (vw h')->h'.size=h.size+1->(∀Y:View,X.le Y->Y h.size=h'[h.size]?->SlRd Y u ds)->u.ownBlock=some h.size->K u h'):step P (.buildSlice t n ps) ty us h K:=by
 have hl:=hr.len;obtain⟨B,h1,h2⟩:=sk vs 0 ((Array.range (n*1)).map (z.cells[· % z.cells.size]!)) (fun v hv=>by obtain⟨i,hi,rfl⟩:=DO hv;exact(hr.get i hi (by omega)).Bs ha) (by simp;omega);have hB:B=vs.toArray:=by rw[<-Array.toList_inj,h2];simp
 refine qK hT (by omega) hp h1 ?_;have hle:=bG h (.cells B e);have hone:=Rep.one (α:=α) ha;refine hk _ _ hle (by simp) (fun Y hY hYb=>⟨some ⟨h.size,0,none⟩,n,by rw[hn],by omega,by omega,.inr ⟨_,rfl,rfl,fun i hi=>?_⟩⟩) rfl;rw[aM rfl,hone];refine⟨[vs[i]],⟨B,e,(0,0),rfl,by rw[hYb];simp,?_⟩,?_⟩
 ·rw[hB];have hd:vs.drop i=vs[i]::vs.drop (i+1):=DU (by omega);simp only[Em,Ea,Ek,Fc];show List.take (0+1) (List.drop i vs)=_;rw[hd];rfl
 have:=(hr.get i (by omega) hi).mono hY;unfold Rd at this;rw[if_neg (by simp[ha])]at this;exact this
def mapE {β:Type} (enc:β->Value) (f:Int->Option β):Value->Option Value
 | .int .i64 j=>(f j).map enc
 | _=>none
@[simp] theorem ke{enc:β->Value}{f:Int->Option β}{j:Int}:mapE enc f (.int .i64 j)=(f j).map enc:=rfl
def putM {β:Type} (f:Int->Option β) (j:Int) (v:β):Int->Option β:=fun i=>if i=j then some v else f i
theorem fg{enc:β->Value}{f:Int->Option β}{j:Int}{v:β}:mapE enc (putM f j v) (.int .i64 j)=some (enc v)/\∀u,u≠.int .i64 j->mapE enc (putM f j v) u=mapE enc f u:=by
 refine⟨by simp[putM],fun u hu=>?_⟩;cases u<;>try rfl
 rename_i k i;cases k<;>try rfl
 have:i≠j:=fun e=>hu (by rw[e]);simp[putM,this]
theorem kL{enc:β->Value}:mapE enc (fun _=>.none)=fun _=>.none:=by
 funext u;cases u<;>try rfl
 rename_i k i;cases k<;>rfl
theorem Kept.skip {h h':Heap} {r:Nat} (k:Kept h h' (some r)):(skip r h).le (Lft.skip r h'):=fun b o hb=>by
 unfold Lft.skip at hb ⊢;split at hb
 ·cases hb
 rename_i hne;rw[if_neg hne];have hlt:=(Dx.1 hb).1;rw[k.block b hlt (by simpa using hne)];exact hb
variable{h':Heap}{r:Nat}
theorem Kept.wM{h:Heap}(k:Kept h h' (some r)):(Lft.skip r h).le (vw h'):=View.le_trans k.skip bK
theorem Kept.of_le{h:Heap}{b:Option Nat}(hle:(vw h).le (vw h')):Kept h h' b:=⟨cO hle,fun k hk _=>by have:=hle k h[k] (DJ hk);rw[DJ hk];exact this⟩
theorem Kept.upd{h:Heap}(hs:h'.size=h.size)(ho : ∀b,b≠r->h'[b]? = h[b]?):Kept h h' (some r):=⟨by omega,fun k _ hk=>ho k (by simpa using hk)⟩
variable{ty2:TypeId}{y:Operand}{us2:Value->List (Nat × Value)}
theorem gp{h:Heap}{t:TypeId}{z:Value}{x:Operand}{v:Value}(hz:(P.info? t).map (·.zero)=some (some z))(hzc:z.cells.size=n)(hsz:cH P t=some n)(hv:v.cells.size=n)(hone : ∀c∈v.cells.toList,c.oneCell'=true)(hx : ∀p,asg (us2 p) x=p)(hy : ∀p,asg (us2 p) y=v)(hk : ∀h':Heap,(vw h).le (vw h')->h'.size=h.size+1->h'[h.size]? = some (.cells v.cells t (0,0))->K (.pointer (some ⟨h.size,0,none⟩)) h'):
  @step po P (.alloc t) ty us h fun p h2=>@step po2 P (.store t x y) ty2 (us2 p) h2 fun _ h3=>K p h3:=by
 refine dF hz ?_;refine dk (g:=h.size) (o:=0) (n:=n) (v:=v) (cur:=z.cells) (e:=t) hsz (hx _) (hy _) hv hone (by simp) (by omega) fun h' hs ⟨row,hrow,he⟩ hoth=>?_;have hrow2:row=v.cells:=by rw[<-Array.toList_inj,he];simp only[Fq,D7,Em];rw[DX (by simp[hzc]),EF]
 rw[hrow2]at hrow;have hle:(vw h).le (vw h'):=fun b o hb=>by have hlt:=View.lt (View.le_refl (vw h)) hb;show h'[b]? = _;rw[hoth b (by omega)];exact bG _ _ b o hb
 exact hk h' hle (by rw[hs];simp) hrow
section
variable {σ α ε:Type} {f:σ->α->Except ε σ} {s s':σ} {l:List α} {k:Nat} {t:ε}
theorem tZ[Inhabited α](h:k<l.length)(hs:(l.take k).foldlM f s = .ok s'):(l.take (k+1)).foldlM f s=f s' (nth l k):=by rw[DK h,FN,hs,aq h];show List.foldlM f s' [l[k]]=f s' l[k];rw[Eo];cases f s' l[k]<;>rfl
theorem xI(h:(l.take k).foldlM f s = .error t):l.foldlM f s = .error t:=by
 have e:l.foldlM f s=(l.take k++l.drop k).foldlM f s:=by rw[EU]
 rw[e,FN,h];rfl
end
def upE {σ ε:Type} (f:Nat->σ->Except ε σ):Nat->σ->Except ε σ
 | 0,s=>.ok s
 | k+1,s=>match upE f k s with
  | .ok s'=>f k s'
  | .error t=>.error t
theorem iY{σ ε:Type}{f:Nat->σ->Except ε σ}{k:Nat}{s s':σ}(h:upE f k s = .ok s'):upE f (k+1) s=f k s':=by simp only[upE,h]
theorem rC {σ ε:Type} {f:Nat->σ->Except ε σ} {s:σ} {t:ε} : ∀{n k:Nat},k<=n->upE f k s = .error t->upE f n s = .error t
 | 0,k,hk,h=>by
  have:k=0:=by omega
  subst this;exact h
 | n+1,k,hk,h=>by
  rcases DA n k with hlt | hge
  ·have:k=n+1:=by omega
   subst this;exact h
  simp only[upE,rC hge h]
theorem q5{σ ε:Type}{f:Nat->σ->Except ε σ}{k:Nat}{s s':σ}{t:ε}(h:upE f k s = .ok s')(hk:k<n)(he:f k s' = .error t):upE f n s = .error t:=
 rC (k:=k+1) hk (by rw[iY h,he])
theorem dc[Rep α]{h:Heap}{t:TypeId}{z:Value}{x:Operand}{v:Value}{d:α}{X:View}(hz:(P.info? t).map (·.zero)=some (some z))(hzc:z.cells.size=Rep.n α)(hsz:cH P t=some (Rep.n α))(hv:Rd X v d)(hx : ∀p,asg (us2 p) x=p)(hy : ∀p,asg (us2 p) y=v)(hk : ∀h':Heap,(vw h).le (vw h')->h'.size=h.size+1->(∀Y:View,X.le Y->Y h.size=h'[h.size]?->At Y ⟨h.size,0,none⟩ d)->K (.pointer (some ⟨h.size,0,none⟩)) h'):
  @step po P (.alloc t) ty us h fun p h2=>@step po2 P (.store t x y) ty2 (us2 p) h2 fun _ h3=>K p h3:=by obtain⟨c1,c2,c3⟩:=fh hv;exact gp hz hzc hsz c2 c3 hx hy fun h' hle hs hb=>hk h' hle hs fun Y hY hYb=>nq (by rw[hYb];exact hb) (hv.mono hY)
variable{B:Nat}
theorem gS{d:BlkD}(h:At H ⟨B,0,none⟩ d): ∃vp vi va vt,Sl H ⟨B,0,none⟩ vp d.phis/\Sl H ⟨B,1,none⟩ vi d.ins/\ag H ⟨B,2,none⟩=some (.int .i64 d.term.kind)/\Sl H ⟨B,3,none⟩ va d.term.args/\Sl H ⟨B,4,none⟩ vt d.term.to:=by obtain⟨vp,h1⟩:=(h.part BlkD.A1).sl;obtain⟨vi,h2⟩:=(h.part BlkD.oZ).sl;have ht:=h.part BlkD.nA;obtain⟨va,h4⟩:=(ht.part cL.fm).sl;obtain⟨vt,h5⟩:=(ht.part cL.Bq).sl;exact⟨vp,vi,va,vt,by simpa using h1,by simpa using h2,by simpa using(ht.part cL.uV).int,by simpa using h4,by simpa using h5⟩
theorem rI{d:PhiD}(h:At H ⟨B,0,none⟩ d):ag H ⟨B,0,none⟩=some (.int .i64 d.dst)/\∃v,Sl H ⟨B,1,none⟩ v d.ins:=by obtain⟨v,hv⟩:=(h.part PhiD.oZ).sl;exact⟨by simpa using(h.part PhiD.gK).int,v,by simpa using hv⟩
theorem iF{d:InsD}(h:At H ⟨B,0,none⟩ d):ag H ⟨B,0,none⟩=some (.int .i64 d.op)/\ag H ⟨B,1,none⟩=some (.int .i64 d.dst)/\ag H ⟨B,2,none⟩=some (.int .i64 d.two)/\∃v,Sl H ⟨B,3,none⟩ v d.args:=by obtain⟨v,hv⟩:=(h.part InsD.fm).sl;exact⟨by simpa using(h.part InsD.pM).int,by simpa using(h.part InsD.gK).int,by simpa using(h.part InsD.th).int,v,by simpa using hv⟩
theorem j9{d:ae}(h:At H ⟨B,0,none⟩ d):ag H ⟨B,0,none⟩=some (.int .i64 d.params)/\∃v,Sl H ⟨B,1,none⟩ v d.blocks:=by obtain⟨v,hv⟩:=(h.part ae.pj).sl;exact⟨by simpa using(h.part ae.yA).int,v,by simpa using hv⟩
theorem uq{d:InD}(h:At H ⟨B,0,none⟩ d):ag H ⟨B,0,none⟩=some (.int .i64 d.frm)/\ag H ⟨B,1,none⟩=some (.int .i64 d.val):=
 ⟨by simpa using(h.part InD.Cy).int,by simpa using(h.part InD.AU).int⟩
theorem SlRd.wh[Rep α][Inhabited α]{v:Value}{l:List α}(h:SlRd H v l)(ha:Rep.agg α=true){N:Nat}(hn:Rep.n α=N){i:Nat}(hi:i<l.length): ∃u,(∀K:View,H.le K->Un.ev K (.ak N) (.pointer (some ((slA v).add (i*N))))=some u)/\Rd H u (nth l i):=by subst hn;obtain⟨u,h1,h2⟩:=h.whole ha (View.le_refl H) hi;refine⟨u,fun K hk=>?_,by rw[aq hi];exact h2⟩;have:=dp (ρ:=fun _=>none) (e:=.un (.ak (Rep.n α)) (.con (.pointer (some ((slA v).add (i*Rep.n α)))))) hk (v:=u) (by simpa using h1);simpa using this
instance:Inhabited BlkD:=⟨⟨[],[],⟨0,[],[],⟨0⟩⟩⟩⟩
theorem ny{h:Heap}{f:FuncId}{t:Nat}{ops:List Operand}{T:Array TypeId}(hf:asg us (.tmp t) = .func (.func f) #[] caps){R:Value->Heap->Prop}{Rp:List PanicEntry->Heap->Prop}(hfn:isFn P f=true)(hc:eT P f (ops.map (asg us)++caps.toList).toArray h R Rp)(hk : ∀v h',R v h'->K v h')(hp : ∀ch h',Rp ch h'->po.op ch h'):@step po P (.call ⟨.value (.tmp t),ops.toArray,T⟩) ty us h K:=by
 refine cf (po:=po) (nI (po:=po) (R:=R) (f:=f) (args:=(ops.map (asg us)++caps.toList).toArray) (fun w _=>?_) hc hk hp);unfold isFn at hfn;cases hfn':P.funcs[f]? with
 | none=>simp[hfn']at hfn
 | some fn=>simp only[hfn',DC,bne_iff_ne,ne_eq]at hfn;obtain⟨h1,h2⟩:=hfn;simp[aL,execOp,resolve,Deferred.ofValue,hf,invoke,callFunc,program,Sem.run,hfn',h1,Option.isNone];cases hb:fn.body<;>simp[hb]at h2 ⊢
@[simp] theorem B8{b:Bool}{v:Value}:gdv b undef v=undef:=rfl
@[simp] theorem B0{b:Bool}{o:Option Value}:gdO b undef o=some undef:=rfl
end
end Go.Lft
namespace Go.Proofs.YtnfiilgdjpdlkaaGreatDoor
open Go Go.Lft
theorem follows:Tryz.prog.follows .mixedOrders=true:=by kernel_rfl
abbrev T.int:Nat:=3
abbrev T.bool:Nat:=4
abbrev T.ck:Nat:=22
abbrev T.jZ:Nat:=25
abbrev T.ig:Nat:=27
abbrev T.mV:Nat:=31
abbrev T.zk:Nat:=33
abbrev T.qp:Nat:=35
abbrev T.jx:Nat:=36
abbrev T.dW:Nat:=38
abbrev T.iz:Nat:=50
abbrev T.ft:Nat:=55
abbrev T.jg:Nat:=57
abbrev T.fI:Nat:=64
abbrev T.fk:Nat:=70
abbrev T.sO:Nat:=80
abbrev T.mO:Nat:=97
abbrev T.bH:Nat:=101
abbrev T.fl:Nat:=108
abbrev T.en:Nat:=109
abbrev T.dM:Nat:=110
abbrev T.aH:Nat:=113
abbrev T.fE:Nat:=116
abbrev T.fZ:Nat:=120
abbrev T.rG:Nat:=123
abbrev T.sn:Nat:=127
abbrev T.ee:Nat:=136
abbrev T.aZ:Nat:=138
abbrev T.dU:Nat:=144
abbrev T.iB:Nat:=146
abbrev T.dN:Nat:=147
abbrev T.e5:Nat:=149
abbrev T.cz:Nat:=185
abbrev T.cR:Nat:=187
theorem U.int:Tryz.prog.underlying T.int=some (.int .i64):=by kernel_rfl
theorem U.ck:Tryz.prog.underlying T.ck=some (.slice T.int):=by kernel_rfl
theorem El.ck:eR Tryz.prog T.ck T.int 1 8 (.int .i64 0):=gC (by kernel_rfl) (by kernel_rfl) rfl (by decide)
theorem El.jZ:eR Tryz.prog T.jZ T.qp 6 112 (.agg #[(.slice none 0 0),(.slice none 0 0),(.int .i64 0),(.slice none 0 0),(.slice none 0 0),(.int .i32 0)]):=gC (by kernel_rfl) (by kernel_rfl) rfl (by decide)
theorem El.mV:eR Tryz.prog T.mV T.fk 5 56 (.agg #[(.int .i64 0),(.int .i64 0),(.int .i64 0),(.slice none 0 0),(.int .i32 0)]):=gC (by kernel_rfl) (by kernel_rfl) rfl (by decide)
theorem El.jx:eR Tryz.prog T.jx T.sO 8 80 (.agg #[(.int .i64 0),(.int .i64 0),(.int .i64 0),(.int .i64 0),(.int .i64 0),(.int .i64 0),(.int .i32 0),(.slice none 0 0)]):=gC (by kernel_rfl) (by kernel_rfl) rfl (by decide)
theorem U.iz:Tryz.prog.underlying T.iz=some (.array 2 T.int):=by kernel_rfl
theorem El.ft:eR Tryz.prog T.ft T.fI 2 16 (.agg #[(.int .i64 0),(.int .i64 0)]):=gC (by kernel_rfl) (by kernel_rfl) rfl (by decide)
theorem U.fl:Tryz.prog.underlying T.fl=some (.map T.int T.bool):=by kernel_rfl
theorem U.en:Tryz.prog.underlying T.en=some (.map T.int T.iz):=by kernel_rfl
theorem El.aH:eR Tryz.prog T.aH T.fE 2 16 (.agg #[(.int .i64 0),(.int .i64 0)]):=gC (by kernel_rfl) (by kernel_rfl) rfl (by decide)
theorem El.fZ:eR Tryz.prog T.fZ T.ck 1 24 (.slice none 0 0):=gC (by kernel_rfl) (by kernel_rfl) rfl (by decide)
theorem El.rG:eR Tryz.prog T.rG T.bool 1 1 (.bool false):=gC (by kernel_rfl) (by kernel_rfl) rfl (by decide)
theorem U.aZ:Tryz.prog.underlying T.aZ=some (.map T.int T.ee):=by kernel_rfl
theorem U.dN:Tryz.prog.underlying T.dN=some (.map T.int T.fE):=by kernel_rfl
theorem U.cR:Tryz.prog.underlying T.cR=some (.map T.int T.cz):=by kernel_rfl
end Go.Proofs.YtnfiilgdjpdlkaaGreatDoor
namespace Go.Lft
open Go Go.ChangeShapes Go.WideShapes Go.RowKit
structure RT (P:Program) (t:TypeId) (α:Type) [Rep α]:Prop where
 cells : ∀{H:Type} {enc:TypeId × Value->H} {W:World} {spare:Nat->Bool} {held:Bool} {fuel:Nat} {cs:List Value} {d:DataW H} {ps:List MemPlace},
  DataW.trod enc P W 0 spare held fuel t cs=some (d,ps)->(∀b∈d.weights P t,b<=reachBytes)->∃x:α,Rep.rd (vw W.heap) cs x
 val : ∀{W:World} {r:Reach} {base:Nat} {v:Value},Value.okWide P W r base t v->if Rep.agg α then ∃cs,v = .agg cs else v.cells = #[v]
theorem RT.arg{P:Program}{t:TypeId}{α:Type}[Rep α](rt:RT P t α){H:Type}{enc:TypeId × Value->H}{W:World}{spare:Nat->Bool}{held:Bool}{v:Value}{d:DataW H}{ps:List MemPlace}{r:Reach}{base:Nat}(h:DataW.Trod enc P W 0 spare held t v d ps)(hok:Value.okWide P W r base t v)(hw : ∀b∈d.weights P t,b<=reachBytes): ∃x:α,Rd (vw W.heap) v x:=by
 obtain⟨fuel,h⟩:=h;obtain⟨x,hx⟩:=rt.cells h hw;have hv:=rt.val hok;refine⟨x,?_⟩;unfold Rd;split
 ·rename_i ha;rw[if_pos ha]at hv;obtain⟨cs,rfl⟩:=hv;exact⟨cs,rfl,hx⟩
 rename_i ha;rw[if_neg ha]at hv;rw[hv]at hx;exact hx
theorem wf_i64{n:Int}(h:(Lit.int .i64 n).wf=true):-9223372036854775808<=n/\n<=9223372036854775807:=by simp only[Lit.wf,DC,decide_eq_true_eq]at h;simpa[IntKind.min,IntKind.max,IntKind.signed,IntKind.bits]using h
section
variable {P:Program} {t e:TypeId} {H:Type} {enc:TypeId × Value->H} {W:World} {spare:Nat->Bool} {held:Bool} {fuel:Nat} {cs:List Value} {x:DataW H × List MemPlace}
theorem trod_int{k:IntKind}(ht:P.underlying t=some (.int k))(h:DataW.trod enc P W 0 spare held fuel t cs=some x): ∃n,cs=[.int k n]/\(Lit.int k n).wf=true:=by
 cases fuel with
 | zero=>simp[DataW.trod]at h
 | succ n=>unfold DataW.trod at h;rw[ht]at h;split at h<;>simp_all
end
section
variable {P:Program} {t e:TypeId}
theorem BK(ht:P.underlying t=some (.int .i64)):RT P t Int where
 cells:=fun{H enc W spare held fuel cs d ps} h _=>by
  obtain⟨n,rfl,hw⟩:=trod_int ht h
  exact⟨n,rfl,wf_i64 hw⟩
 val:=fun{W r base v} h=>by
  simp only[Value.okWide,ht,Cell.okWide]at h
  cases v<;>simp[Cell.ok,ht]at h ⊢<;>first | rfl | simp[Rep.agg,Value.cells]
theorem xW{W:World}{a:Addr}{v:Value}(h:W.cell? a=some v):a.spot=none/\∃c T fz,W.heap[a.block]? = some (.cells c T fz)/\c[a.off]? = some v:=by
 unfold World.cell? at h;split at h
 ·rename_i c T fz hb;split at h
  ·cases h
  rename_i hs;exact⟨by simpa using hs,c,T,fz,hb,h⟩
 cases h
end
theorem zq{w w':World}(hs:Same w w')(hle:(vw w.heap).le (vw w'.heap)):Below w.heap.size w w':=
 ⟨hs.os,hs.tape,hs.output,hs.size,fun k hk=>by have:=hle k w.heap[k] (DJ hk);rw[DJ hk];exact this⟩
theorem lh {H:Type} {enc:TypeId × Value->H} {P:Program} {W W':World} (hl:laidOutB P=true) (hb:Below W.heap.size W W') : ∀{ts:List TypeId} {vs:List Value} {ds:List (DataW H)} {ps:List MemPlace},
  (∀t∈ts,P.readableRec t=true/\t<P.types.size)->DataW.TrodAll enc P W 0 (fun _=>true) true ts vs ds ps->(∀x∈ps,x.block<W.heap.size)->DataW.TrodAll enc P W' 0 (fun b=>decide (b<W.heap.size)) true ts vs ds ps
 | [],vs,ds,ps,_,h,_=>by obtain⟨rfl,rfl,rfl⟩:=trodAll_nil h;rfl
 | t::ts,vs,ds,ps,hr,h,hlt=>by obtain⟨v,vs',d,ds',p,q,rfl,rfl,rfl,h1,h2⟩:=trodAll_cons h;obtain⟨g1,g2⟩:=hr t (Dz ..);exact⟨p,q,Below.trod hl g1 g2 h1 hb fun x hx=>hlt x (Ei _ hx),lh hl hb (fun t ht=>hr t (DB _ ht)) h2 fun x hx=>hlt x (Eh _ hx),rfl⟩
theorem zy{H:Type}{enc:TypeId × Value->H}{P:Program}{fn:Func}{s:ChangeSpec}{W W':World}{args:Array Value}{ds gs:List (DataW H)}{before:List MemPlace}{fresh:Bool}{tb:TypeId}(hl:laidOutB P=true)(hr : ∀t∈fn.params.toList,P.readableRec t=true/\t<P.types.size)(hW:DataW.Whole enc P fn.params.toList s.vars false W args.toList ds gs before)(hv:s.vars=[])(hs:s.fn H (ds++gs)={ results:=[.lit (.bool true)],args:=ds })(hres:fn.resultTypes = #[tb])(htb:P.underlying tb=some .bool)(hb:Below W.heap.size W W'):s.post enc P fn false fresh false false W args (.bool true) W':=by
 have hW0:=hW;obtain⟨p,q,hA,hV,rfl,_,_⟩:=hW;rw[hv]at hV;obtain⟨rfl,rfl⟩:=trodVars_none hV;have hlt : ∀x∈p,x.block<W.heap.size:=fun x hx=>by simpa using hW0.lt x (Ei _ hx)
 refine⟨ds,[],p++[],[],p,[],hW0,?_,?_,?_,hb.frame _,fun h=>by cases h⟩
 ·rw[hs,hres];exact trodAll_mk1 (shut_bool htb true)
 ·rw[hs];exact lh hl hb hr hA hlt
 rw[hv,hs];rfl
end Go.Lft
namespace Go.Proofs.YtnfiilgdjpdlkaaGreatDoor
open Go Go.Lft
theorem Tryz.own:ownKnob Tryz.prog.godebug=none:=by kernel_rfl
theorem Tryz.laidOut:laidOutB Tryz.prog=true:=by kernel_rfl
theorem rtI:RT Tryz.prog T.int Int:=BK (by kernel_rfl)
end Go.Proofs.YtnfiilgdjpdlkaaGreatDoor
namespace Go.Lft
open Go Go.ChangeShapes Go.WideShapes Go.RowKit
theorem Cd{H:Type}{enc:TypeId × Value->H}{P:Program}{a:Assume}{C:Checked}{os:Os}{f:FuncId}{fn:Func}{s:ChangeSpec}{conds:List PathCond}{fresh:Bool}{tb t1 t2 t3:TypeId}{α β γ:Type}[Rep α][Rep β][Rep γ]{X:World->Prop}{F:Heap->Prop}(hX : ∀w w':World,w.heap=w'.heap->X w->X w')(hF : ∀w,X w->F w.heap)(own:ownKnob C.prog.godebug=none)(started:os.Started)(noInit:C.prog.inits.idxOf? f=none)(hfn:C.prog.funcs[f]? = some fn)(hP:C.prog=P)(witness : ∃(w:World) (tape:Tape) (i:Input),w.os=os/\(w.forCall tape i).Shaped C.prog/\i.vars=[]/\Input.okWide C.prog (w.forCall tape i) .any w.heap.size f i/\
   ((s.pre enc C.prog fn conds false (w.forCall tape i).memory i.args/\X (w.forCall tape i).memory)/\sizedMet enc C.prog fn (OpenSpec.ofChange s) false (w.forCall tape i).memory i.args)/\a.holds C.prog (lone (Frame.enter C.prog f i.args .normal) [] (w.forCall tape i)))(hl:laidOutB P=true)(hr : ∀t∈fn.params.toList,P.readableRec t=true/\t<P.types.size)(hv:s.vars=[])(hs : ∀ds,ds.length=3->s.fn H ds={ results:=[.lit (.bool true)],args:=ds })(hres:fn.resultTypes = #[tb])(htb:P.underlying tb=some .bool)(hp:fn.params = #[t1,t2,t3])(r1:RT P t1 α)(r2:RT P t2 β)(r3:RT P t3 γ)(hcall : ∀(h:Heap) (v1:Value) (x1:α) (v2:Value) (x2:β) (v3:Value) (x3:γ),F h->Rd (vw h) v1 x1->Rd (vw h) v2 x2->Rd (vw h) v3 x3->aj P f #[v1,v2,v3] h (fun v h'=>v = .bool true/\(vw h).le (vw h'))):
  ReturnsInHanded a C os f .any (fun w args=>(s.pre enc C.prog fn conds false w args/\X w)/\sizedMet enc C.prog fn (OpenSpec.ofChange s) false w args) (s.post enc C.prog fn false fresh false false):=by
 subst hP;refine returnsInHanded_of_change_and (X:=fun w _=>X w) (fun w w' _ hh h=>hX w w' hh h) own started noInit hfn witness ?_;intro W base args ds gs before hval hW _ hwt hXW _;have hW0:=hW;obtain⟨p,q,hA,hV,_,_,_⟩:=hW;rw[hv]at hV;obtain⟨hgs,_⟩:=trodVars_none hV;rw[hp]at hA;obtain⟨v1,v2,v3,d1,d2,d3,p1,p2,p3,hargs,hds,_,h1,h2,h3⟩:=trodAll_three hA;have hlen:(ds++gs).length=3:=by rw[hds,hgs];rfl
 have e0:s.plain.varTypes C.prog=[]:=by simp[DataSpec.varTypes,ChangeSpec.plain,hv]
 rw[hgs,hds,hp,e0]at hwt;simp only[EF,D3,decide_eq_true_eq]at hwt;obtain⟨x1,q1⟩:=r1.arg h1 (hval 0 t1 v1 (by rw[hp];rfl) (by rw[hargs];rfl)) (fun b hb=>hwt b (by simp[DataW.weightsEach,hb]));obtain⟨x2,q2⟩:=r2.arg h2 (hval 1 t2 v2 (by rw[hp];rfl) (by rw[hargs];rfl)) (fun b hb=>hwt b (by simp[DataW.weightsEach,hb]));obtain⟨x3,q3⟩:=r3.arg h3 (hval 2 t3 v3 (by rw[hp];rfl) (by rw[hargs];rfl)) (fun b hb=>hwt b (by simp[DataW.weightsEach,hb]));rw[hargs];refine(hcall W.heap v1 x1 v2 x2 v3 x3 (hF W hXW) q1 q2 q3 W rfl).mono ?_;rintro e W' ⟨v,rfl,⟨rfl,hle⟩,hsame⟩;rw[<-hargs];have hgs':ds++gs=ds:=by rw[hgs,EF]
 exact⟨_,rfl,zy hl hr hW0 hv (by rw[hs _ hlen,hgs']) hres htb (zq hsame hle)⟩
end Go.Lft
namespace Go.Proofs.YtnfiilgdjpdlkaaGreatDoor
open Go Go.Lft
abbrev Gr:=List (List Int)
def iW (g:Gr) (a b:Int):Bool:=decide (0<=a/\a<g.length/\0<=b/\b<g.length)&&(nth g a.toNat).contains b
def gJ (g:Gr) (a:Int):List Int:=sift (fun b=>iW g a b) (fun b=>(b:Int)) g.length
def np (g:Gr):Gr:=rows (fun b=>sift (fun a=>iW g a b) (fun a=>(a:Int)) g.length) g.length
def n9 (gone:Int) (l:List Int) (i:Nat) (out:List Bool):List Bool:=out.set (nth l i).toNat (nth out (nth l i).toNat||decide (nth l i≠gone))
def outBlock (g:Gr) (gone:Int) (a:Nat) (out:List Bool):List Bool:=if nth out a then up (n9 gone (gJ g a)) (gJ g a).length out else out
def iV (g:Gr) (gone:Int) (out:List Bool):List Bool:=up (outBlock g gone) g.length out
def iZ (g:Gr) (gone:Int):List Bool:=
 if g.length=0\/gone=0 then List.replicate g.length false else up (fun _=>iV g gone) g.length ((List.replicate g.length false).set 0 true)
theorem ry{β γ:Type}(m:β->γ){f:Nat->β->β}(hf : ∀k x,m (f k x)=m x)(n:Nat)(x:β):m (up f n x)=m x:=by
 induction n with
 | zero=>rfl
 | succ n ih=>rw[up,hf,ih]
def domC (g:Gr) (a b:Nat):Bool:=nth (iZ g (-1)) a&&nth (iZ g (-1)) b&&(decide ((a:Int)=(b:Int))||!nth (iZ g a) b)
def jP (l:List Int) (a:Int):Nat->Int->Bool
 | 0,_=>false
 | k+1,b=>if b=a then true else if b<0\/(l.length:Int)<=b then false else jP l a k (nth l b.toNat)
def cY (l:List Int) (a b:Int):Bool:=decide (0<=a/\a<l.length/\0<=b/\b<l.length)&&jP l a (l.length+1) b
def wO (p:Nat->Bool) (b:Nat) (s:Bool):Bool:=s&&p b
def nS (p:Nat->Bool) (n:Nat):Bool:=up (wO p) n true
theorem pg{p:Nat->Bool}{n:Nat}:nS p (n+1)=(nS p n&&p n):=rfl
theorem uH{g:Gr}:(np g).length=g.length:=by simp[np]
def fB (nx:Int->List Int):Nat->Int->List Bool × List Int->List Bool × List Int
 | 0,_,s=>s
 | n+1,a,s=>let r:=up (fun i s=>if nth s.1 (nth (nx a) i).toNat then s else fB nx n (nth (nx a) i) s) (nx a).length (s.1.set a.toNat true,s.2);(r.1,r.2++[a])
def bM (nx:Int->List Int) (n:Nat) (a:Int) (i:Nat) (s:List Bool × List Int):List Bool × List Int:=if nth s.1 (nth (nx a) i).toNat then s else fB nx n (nth (nx a) i) s
theorem fV{nx:Int->List Int}{n:Nat}{a:Int}{s:List Bool × List Int}:
  fB nx (n+1) a s=((up (bM nx n a) (nx a).length (s.1.set a.toNat true,s.2)).1,(up (bM nx n a) (nx a).length (s.1.set a.toNat true,s.2)).2++[a]):=rfl
def cr (t:List Bool):Nat:=t.count false
theorem fq{t:List Bool}{i:Nat}(hi:i<t.length)(hf:nth t i=false):cr (t.set i true)+1=cr t:=by rw[aq hi]at hf;unfold cr;rw[List.count_set hi];have hp:0<t.count false:=List.count_pos_iff.2 (hf▸Ez hi);simp[hf];omega
theorem qn{t:List Bool}{i:Nat}:cr (t.set i true)<=cr t:=by
 rcases DA i t.length with hi | hi
 ·unfold cr;rw[List.count_set hi];simp
 rw[List.set_eq_of_length_le hi];exact Dy _
theorem yb{β:Type}(I:β->Prop){f:Nat->β->β}(hf : ∀k x,I x->I (f k x))(n:Nat)(x:β)(hx:I x):I (up f n x):=by
 induction n with
 | zero=>exact hx
 | succ n ih=>rw[up];exact hf _ _ ih
theorem kc {nx:Int->List Int} {m c:Nat} : ∀(n:Nat) (a:Int) (s:List Bool × List Int),s.1.length=m/\cr s.1<=c->(fB nx n a s).1.length=m/\cr (fB nx n a s).1<=c
 | 0,_,_,h=>h
 | n+1,a,s,h=>by
  rw[fV];refine yb (fun s:List Bool × List Int=>s.1.length=m/\cr s.1<=c) (fun k x hx=>?_) _ _ ⟨by simpa using h.1,DW qn h.2⟩;unfold bM;split
  ·exact hx
  exact kc n _ x hx
def gG (nx:Int->List Int) (n:Nat):List Int:=if n=0 then[] else(fB nx n 0 (List.replicate n false,[])).2.reverse
theorem gN{α:Type}[Rep α]{W:View}{h:Heap}{e:TypeId}{v:Value}{l:List α}(o:OwnT W h e v l):v.cells = #[v]/\v.oneCell'=true:=by have:=o.len (K:=nothing);cases v<;>first | exact⟨rfl,rfl⟩ | (simp[Un.ev,vL]at this)
end Go.Proofs.YtnfiilgdjpdlkaaGreatDoor
namespace Go.Proofs.YtnfiilgdjpdlkaaGreatDoor
open Go Go.Lft
section
set_option maxRecDepth 100000
def q:List LC->LC|[]=>.skip|[a]=>a|a::b::l=>.seq a (q (b::l))
def k(K:List Nat)(S:List (Nat×E)):LC:=.reg false (.fin K S [])
def f(n c i:Nat)(K K2:List Nat)(e:E)(b:LC):LC:=.seq (.seq (.reg false (.fin K [(c,e)] [])) (.cond (.tmp c) [c] .skip (.exit n))) (.seq b (.reg false (.fin K2 [(i,.bin (.arith .add) (.tmp i) (.con (.int .i64 1)))] [])))
def u(n:Nat)(x y:LC):LC:=.cond (.tmp n) [n] x y
def v(n:Nat)(x:LC):LC:=.block n (.loop x)
def l(K:List Nat)(S A:List (Nat×E))(o:Op)(y d:Nat)(r:Reg):Reg:=.loud K S A none [] false o y (some d) true r
def s(K:List Nat)(S A:List (Nat×E))(o:Op)(r:Reg):Reg:=.loud K S A none [] false o 0 none false r
def p(A:List (Nat×E))(o:Op)(y d:Nat)(r:Reg):Reg:=.loud [] [] A none [] false o y (some d) true r
def z:Reg:=.fin [] [] []
def w:List Nat->List (Nat×E)|[]=>[]|a::l=>(a,.tmp a)::w l
def t(n:Nat):E:=.tmp n
def c(n:Int):E:=.con (.int .i64 n)
def d(x:E):E:=.un .load x
def e(n:Nat)(x:E):E:=.un (.fld n) x
def g(n:Nat)(x:E):E:=.un .load (.un (.fld n) x)
def i(n:Nat)(x y:E):E:=.bin (.idx n) x y
def h(x:E):E:=.un .len x
def j(o:BinOp)(x y:E):E:=.bin (.cmp o) x y
def o(x y:E):E:=.bin (.arith .add) x y
def a(n:Nat):Operand:=.tmp n
def x(n:Nat)(A:List Nat)(T:List Nat):Op:=.call ⟨.value (.func n),(A.map .tmp).toArray,T.toArray⟩
theorem sh:(∀a,q [a]=a)/\(∀a b l,q (a::b::l)=.seq a (q (b::l)))/\(∀K S,k K S=.reg false (.fin K S []))/\(∀n c i K L e b,f n c i K L e b=.seq (.seq (.reg false (.fin K [(c,e)] [])) (.cond (.tmp c) [c] .skip (.exit n))) (.seq b (.reg false (.fin L [(i,.bin (.arith .add) (.tmp i) (.con (.int .i64 1)))] []))))/\(∀n x y,u n x y=.cond (.tmp n) [n] x y)/\(∀n x,v n x=.block n (.loop x))/\(∀K S A o y d r,l K S A o y d r=.loud K S A none [] false o y (some d) true r)/\(∀K S A o r,s K S A o r=.loud K S A none [] false o 0 none false r)/\(∀A o y d r,p A o y d r=.loud [] [] A none [] false o y (some d) true r)/\(z=.fin [] [] [])/\(w []=[])/\(∀a l,w (a::l)=(a,.tmp a)::w l)/\(∀n,t n=.tmp n)/\(∀n,c n=.con (.int .i64 n))/\(∀x,d x=.un .load x)/\(∀n x,e n x=.un (.fld n) x)/\(∀n x,g n x=.un .load (.un (.fld n) x))/\(∀n x y,i n x y=.bin (.idx n) x y)/\(∀x,h x=.un .len x)/\(∀o x y,j o x y=.bin (.cmp o) x y)/\(∀m n,o m n=.bin (.arith .add) m n)/\(∀n,a n=.tmp n)/\(∀n A T,x n A T=.call ⟨.value (.func n),(A.map .tmp).toArray,T.toArray⟩)/\(∀(p:Nat->Operand) n l,List.map p (n::l)=p n::l.map p)/\(∀p:Nat->Operand,List.map p []=[]):=⟨fun _=>rfl,fun _ _ _=>rfl,fun _ _=>rfl,fun _ _ _ _ _ _ _=>rfl,fun _ _ _=>rfl,fun _ _=>rfl,fun _ _ _ _ _ _ _=>rfl,fun _ _ _ _ _=>rfl,fun _ _ _ _ _=>rfl,rfl,rfl,fun _ _=>rfl,fun _=>rfl,fun _=>rfl,fun _=>rfl,fun _ _=>rfl,fun _ _=>rfl,fun _ _ _=>rfl,fun _=>rfl,fun _ _ _=>rfl,fun _ _=>rfl,fun _=>rfl,fun _ _ _=>rfl,fun _ _ _=>rfl,fun _=>rfl⟩
set_option maxRecDepth 100000
abbrev N.slices_Reverse_int:Nat:=143
abbrev N.slices_Sort_int:Nat:=148
abbrev N.slices_Compact_int:Nat:=149
abbrev N.cn:Nat:=8
def L.cn.l1:LC:=by apply(fun{b:LC}(_:b=f 0 27 9 [25,26,27] [28,29,9] (j .lss (t 9) (t 0)) (.block 1 (.reg false (s [30,31,32,33,34] [] [(34,e 0 (i 2 (t 8) (t 9))),(32,t 1)] (.store 3 (a 34) (a 32)) z))))=>b);simp only[sh];rfl
def L.cn:LFn:=by apply(fun{b:LFn}(_:b=⟨[t 6],q [k [6] [(6,.con (.bool false))],.reg false (p [] (x 11 [] []) 4 14 (.fin [7] [(7,t 14)] [])),k [15,16,17,18,0] [(0,o (c 1) (.bin (.div .rem) (.bin (.bits .and) (t 0) (c 65535)) (c 1100)))],k [19,20,21,22,1] [(1,o (c 1) (.bin (.div .rem) (.bin (.bits .and) (t 1) (c 65535)) (c 37)))],.reg false (l [23] [] [(23,t 0),(23,t 0)] (.makeSlice 55 (a 23) (a 23)) 55 24 (.fin [8] [(8,t 24)] [])),q [k [9] [(9,c 0)],v 0 L.cn.l1],.reg false (s [35,36,37,38,39,40] [] [(40,e 1 (i 2 (t 8) (.bin (.arith .sub) (t 0) (c 1)))),(38,t 2)] (.store 3 (a 40) (a 38)) z),.reg false (l [42] [] [(42,t 8)] (x 23 [42] [55]) 58 43 (.fin [41,44,45,10,11] [(10,.un (.ext 0) (t 43)),(11,.un (.ext 1) (t 43))] [])),.block 2 (q [k [47,48,46] [(46,j .gtr (t 0) (c 1024))],u 46 (q [k [49,50,51,52,53,54,55,56,57,6] [(6,.ite (.ite (t 7) (j .eql (t 10) (c 2)) (.con (.bool false))) (j .eql (t 11) (c 0)) (.con (.bool false)))],.ret]) (q [k [59,60,61,62,63,64,58] [(58,.ite (j .lss (t 2) (c 0)) (.con (.bool true)) (j .gtr (t 2) (c 1000)))],u 58 (q [k [65,66,67,68,69,70,71,72,73,74,75,6] [(6,.ite (.ite (t 7) (j .eql (t 10) (c 22)) (.con (.bool false))) (j .eql (t 11) (.bin (.arith .sub) (t 0) (c 1))) (.con (.bool false)))],.ret]) .skip])]),.reg false (s [76,77,78,79,80,81,82] [] [(82,e 0 (i 2 (t 8) (.bin (.arith .sub) (t 0) (c 1)))),(80,o (c 37) (t 1))] (.store 3 (a 82) (a 80)) z),.reg false (l [84] [] [(84,t 8)] (x 23 [84] [55]) 58 85 (.fin [83,86,87,12,13] [(12,.un (.ext 0) (t 85)),(13,.un (.ext 1) (t 85))] [])),k [88,89,90,91,92,93,94,95,96,97,98,99,100,101,102,103,104,105,106,6] [(6,.ite (.ite (.ite (.ite (t 7) (j .eql (t 10) (c 0)) (.con (.bool false))) (j .eql (t 11) (c 0)) (.con (.bool false))) (j .eql (t 12) (c 20)) (.con (.bool false))) (j .eql (t 13) (.bin (.arith .sub) (t 0) (c 1))) (.con (.bool false)))],.ret]⟩)=>b);simp only[sh];rfl
theorem E.cn:aJ Tryz.prog Tryz.f8=some L.cn:=by kernel_rfl
theorem F.cn:Tryz.prog.funcs[N.cn]? = some Tryz.f8:=Tryz.func8
end
section
set_option maxRecDepth 100000
abbrev N.dI:Nat:=11
def L.dI:LFn:=by apply(fun{b:LFn}(_:b=⟨[t 0],q [k [0] [(0,.con (.bool false))],.reg false (p [] (x 33 [] []) 27 26 (p (w [26]) (.call ⟨.value (.func 15),#[a 26,.const (.int .i64 0),.const (.int .i64 1),.const (.int .i64 16)],#[27,3,3,3]⟩) 42 27 (.fin [25,28,29,30,1,2,3] [(1,.un (.ext 0) (t 27)),(2,.un (.ext 1) (t 27)),(3,.un (.ext 2) (t 27))] []))),.reg false (p [] (x 33 [] []) 27 32 (p (w [32]) (.call ⟨.value (.func 15),#[a 32,.const (.int .i64 0),.const (.int .i64 1),.const (.int .i64 3)],#[27,3,3,3]⟩) 42 33 (.fin [31,34,35,36,4,5,6] [(4,.un (.ext 0) (t 33)),(5,.un (.ext 1) (t 33)),(6,.un (.ext 2) (t 33))] []))),.reg false (p [] (x 33 [] []) 27 38 (p (w [38]) (.call ⟨.value (.func 15),#[a 38,.const (.int .i64 0),.const (.int .i64 1),.const (.int .i64 17)],#[27,3,3,3]⟩) 42 39 (.fin [37,40,41,42,7,8,9] [(9,.un (.ext 2) (t 39))] [.un (.ext 1) (t 39),.un (.ext 0) (t 39)]))),.reg false (p [] (x 33 [] []) 27 44 (p (w [44]) (.call ⟨.value (.func 16),#[a 44,.const (.int .i64 0),.const (.int .i64 1),.const (.int .i64 16),.const (.int .i64 9)],#[27,3,3,3,3]⟩) 44 45 (l [43,46,47,48] [(46,.un (.ext 0) (t 45)),(47,.un (.ext 1) (t 45)),(48,.un (.ext 2) (t 45))] [] (.alloc 38) 0 11 (s [10] [(10,t 46)] (w [11,47]) (.store 38 (a 11) (a 47)) (.fin [12] [(12,t 48)] []))))),.reg false (p [] (x 33 [] []) 27 50 (p (w [50]) (.call ⟨.value (.func 16),#[a 50,.const (.int .i64 0),.const (.int .i64 2),.const (.int .i64 0),.const (.int .i64 9)],#[27,3,3,3,3]⟩) 44 51 (l [49,52,53,54] [(52,.un (.ext 0) (t 51)),(53,.un (.ext 1) (t 51)),(54,.un (.ext 2) (t 51))] [] (.alloc 38) 0 14 (.loud [13] [] (w [14,53]) none [t 52] false (.store 38 (a 14) (a 53)) 0 none false (.fin [15] [(15,t 54)] []))))),.reg false (p [] (.build 64 #[(0,.const (.int .i64 1))]) 64 56 (p [] (.build 64 #[(0,.const (.int .i64 38))]) 64 57 (p (w [56,57]) (.buildSlice 55 2 #[(0,a 56),(1,a 57)]) 55 58 (p (w [58]) (x 23 [58] [55]) 58 59 (.fin [55,60,61,16,17] [(16,.un (.ext 0) (t 59)),(17,.un (.ext 1) (t 59))] []))))),.reg false (p [] (.build 64 #[(0,.const (.int .i64 1))]) 64 63 (p (w [63]) (.buildSlice 55 1 #[(0,a 63)]) 55 64 (p [] (x 33 [] []) 27 65 (p (w [64,65]) (x 26 [64,65] [55,27]) 65 66 (.fin [62,67,68,69,18,19,20] [(18,.un (.ext 0) (t 66)),(19,.un (.ext 1) (t 66)),(20,.un (.ext 2) (t 66))] []))))),.reg false (p [] (.build 64 #[(0,.const (.int .i64 16))]) 64 71 (p (w [71]) (.buildSlice 55 1 #[(0,a 71)]) 55 72 (p [] (x 33 [] []) 27 73 (p (w [72,73]) (x 26 [72,73] [55,27]) 65 74 (.fin [70,75,76,77,21,22,23] [(21,.un (.ext 0) (t 74))] [.un (.ext 2) (t 74),.un (.ext 1) (t 74)]))))),.reg false (l [78] [(78,t 1)] [] (.buildSlice 22 1 #[(0,.const (.int .i64 1))]) 22 79 (p (w [78,79]) (x 19 [78,79] [22,22]) 4 80 (.loud [81,82] [(81,t 80),(82,.gd (t 80) true (t 2))] [] (some (t 80,true)) [] false (.buildSlice 22 1 #[(0,.const (.int .i64 2))]) 22 (some 83) true (.loud [] [] (w [82,83]) (some (t 81,true)) [] false (x 19 [82,83] [22,22]) 4 (some 84) true (.loud [85,86,87,88,89,90] [(89,.ite (.ite (t 81) (t 84) (.con (.bool false))) (t 3) (.con (.bool false))),(90,.gd (.ite (.ite (t 81) (t 84) (.con (.bool false))) (t 3) (.con (.bool false))) true (t 4))] [] (some (.ite (.ite (t 81) (t 84) (.con (.bool false))) (t 3) (.con (.bool false)),true)) [] false (.buildSlice 22 2 #[(0,.const (.int .i64 1)),(1,.const (.int .i64 2))]) 22 (some 91) true (.loud [] [] (w [90,91]) (some (t 89,true)) [] false (x 19 [90,91] [22,22]) 4 (some 92) true (.fin [93,94,95,96,97,98,99,100,101,102,103,104,105,24] [(24,.ite (.ite (.ite (.ite (t 89) (t 92) (.con (.bool false))) (j .eql (h (t 5)) (c 0)) (.con (.bool false))) (t 6) (.con (.bool false))) (.un .not (t 9)) (.con (.bool false)))] []))))))),.reg false (.loud [106,107,108,109,110,111] [(110,.ite (t 24) (t 12) (.con (.bool false))),(111,.gd (.ite (t 24) (t 12) (.con (.bool false))) true (t 10))] [] (some (.ite (t 24) (t 12) (.con (.bool false)),true)) [] false (.build 80 #[(0,.const (.int .i64 18)),(1,.const (.int .i64 3)),(3,.const (.int .i64 1)),(6,.const (.int .i32 5))]) 80 (some 112) true (.loud [] [] (w [112]) (some (t 110,true)) [] false (.buildSlice 36 1 #[(0,a 112)]) 36 (some 113) true (.loud [] [] (w [111,113]) (some (t 110,true)) [] false (x 17 [111,113] [36,36]) 4 (some 114) true (.loud [115,116,117,118,119,120,121,122,123,124,125,126,127,128,129,130,131,132,133,134,135,136,137,138,139,140,141,142,143,144,145,146,147,148,149,150,151,152,153] [(153,.ite (.ite (.ite (.ite (.ite (.ite (.ite (.ite (.ite (.ite (t 110) (t 114) (.con (.bool false))) (t 15) (.con (.bool false))) (j .eql (g 0 (t 14)) (c 7)) (.con (.bool false))) (j .eql (g 1 (t 14)) (c 3)) (.con (.bool false))) (j .eql (t 16) (c 20)) (.con (.bool false))) (j .eql (t 17) (c 1)) (.con (.bool false))) (j .eql (t 18) (c 21)) (.con (.bool false))) (j .eql (t 19) (c 0)) (.con (.bool false))) (j .eql (t 20) (c 2)) (.con (.bool false))) (j .eql (t 21) (c 0)) (.con (.bool false)))] [] (some (.ite (.ite (.ite (.ite (.ite (.ite (.ite (.ite (.ite (.ite (t 110) (t 114) (.con (.bool false))) (t 15) (.con (.bool false))) (j .eql (g 0 (t 14)) (c 7)) (.con (.bool false))) (j .eql (g 1 (t 14)) (c 3)) (.con (.bool false))) (j .eql (t 16) (c 20)) (.con (.bool false))) (j .eql (t 17) (c 1)) (.con (.bool false))) (j .eql (t 18) (c 21)) (.con (.bool false))) (j .eql (t 19) (c 0)) (.con (.bool false))) (j .eql (t 20) (c 2)) (.con (.bool false))) (j .eql (t 21) (c 0)) (.con (.bool false)),true)) [] false (x 24 [] []) 3 (some 154) true (.loud [155,156,157] [(157,.ite (t 153) (j .eql (t 154) (c 37)) (.con (.bool false)))] [] (some (.ite (t 153) (j .eql (t 154) (c 37)) (.con (.bool false)),true)) [] false (x 22 [] []) 55 (some 158) true (.loud [159,160,161,162] [(162,.ite (t 157) (j .eql (h (t 158)) (c 37)) (.con (.bool false)))] [] (some (.ite (t 157) (j .eql (h (t 158)) (c 37)) (.con (.bool false)),true)) [] false (.call ⟨.value (.func 20),#[.const (.int .i64 16)],#[3]⟩) 9 (some 163) true (.fin [164,165,0] [(0,.ite (t 162) (.bin (.eqS false) (t 163) (.con (.string ⟨#[97,100,100,105]⟩))) (.con (.bool false)))] []))))))),.ret]⟩)=>b);simp only[sh];rfl
theorem E.dI:aJ Tryz.prog Tryz.f11=some L.dI:=by kernel_rfl
theorem F.dI:Tryz.prog.funcs[N.dI]? = some Tryz.f11:=Tryz.func11
abbrev N.dT:Nat:=15
def L.dT:LFn:=by apply(fun{b:LFn}(_:b=⟨[t 8,t 9,t 10],q [.reg false (p (w [0]) (.box 27 (a 0)) 0 4 (.fin [8,9,10] [(8,.con (.slice none 0 0)),(9,.con (.slice none 0 0)),(10,.con (.bool false))] [])),.reg false (l [14,15,16] [] [(14,.un (.ak 2) (t 4)),(15,t 1),(16,t 2)] (.call ⟨.value (.func 38),#[a 14,a 15,a 16,.const (.int .i64 0)],#[27,3,3,3]⟩) 98 17 (l [13,18,19] [(18,.un (.ext 0) (t 17)),(19,.un (.ext 1) (t 17))] [] (.alloc 97) 0 11 (s [] [] (w [11,18]) (.store 97 (a 11) (a 18)) (.fin [10] [(10,t 19)] [])))),q [.reg false (.loud [20,21,22,23,24,25,26,27] [(26,.ite (.un .not (t 10)) (.con (.bool true)) (j .lss (t 3) (c 1)))] [(27,.gd (.ite (.un .not (t 10)) (.con (.bool true)) (j .lss (t 3) (c 1))) false (.un (.ak 2) (t 4)))] (some (.ite (.un .not (t 10)) (.con (.bool true)) (j .lss (t 3) (c 1)),false)) [] false (x 27 [27] [27]) 4 (some 28) true (.fin [29,30] [(30,.ite (t 26) (.con (.bool true)) (.un .not (t 28)))] [])),u 30 (q [k [8,9,10] [(8,.con (.slice none 0 0)),(9,.con (.slice none 0 0)),(10,.con (.bool false))],.ret]) .skip],.reg false (l [32,33] [] [(32,.un (.ak 13) (t 11)),(33,t 3)] (x 39 [32,33] [97,3]) 102 34 (l [31,35,36] [(35,.un (.ext 0) (t 34)),(36,.un (.ext 1) (t 34))] [] (.alloc 101) 0 12 (s [] [] (w [12,35]) (.store 101 (a 12) (a 35)) (.fin [10] [(10,t 36)] [])))),q [k [37,38] [(38,.un .not (t 10))],u 38 (q [k [8,9,10] [(8,.con (.slice none 0 0)),(9,.con (.slice none 0 0)),(10,.con (.bool false))],.ret]) .skip],.reg true (.fin [39,40,41,42,8,9,10] [(8,g 0 (t 12)),(9,g 1 (t 12)),(10,.con (.bool true))] []),.ret]⟩)=>b);simp only[sh];rfl
theorem E.dT:aJ Tryz.prog Tryz.f15=some L.dT:=by kernel_rfl
theorem F.dT:Tryz.prog.funcs[N.dT]? = some Tryz.f15:=Tryz.func15
abbrev N.ey:Nat:=16
def L.ey:LFn:=by apply(fun{b:LFn}(_:b=⟨[t 10,.un (.ak 5) (t 11),t 12],q [.reg false (p (w [0]) (.box 27 (a 0)) 0 5 (l [10] [(10,.con (.slice none 0 0))] [] (.alloc 38) 0 11 (.fin [12] [(12,.con (.bool false))] []))),.reg false (l [17,18,19,20] [] [(17,.un (.ak 2) (t 5)),(18,t 1),(19,t 2),(20,t 4)] (x 38 [17,18,19,20] [27,3,3,3]) 98 21 (l [16,22,23] [(22,.un (.ext 0) (t 21)),(23,.un (.ext 1) (t 21))] [] (.alloc 97) 0 13 (s [] [] (w [13,22]) (.store 97 (a 13) (a 22)) (.fin [14] [(14,t 23)] [])))),q [.reg false (.loud [24,25,26,27] [(26,.un .not (t 14))] [(27,.gd (.un .not (t 14)) false (.un (.ak 2) (t 5)))] (some (.un .not (t 14),false)) [] false (x 27 [27] [27]) 4 (some 28) true (.fin [29,30] [(30,.ite (t 26) (.con (.bool true)) (.un .not (t 28)))] [])),u 30 (q [.reg false (p [] (.build 38 #[]) 38 31 (s [10] [(10,.con (.slice none 0 0))] (w [11,31]) (.store 38 (a 11) (a 31)) (.fin [12] [(12,.con (.bool false))] []))),.ret]) .skip],.reg false (l [33,34] [] [(33,.un (.ak 13) (t 13)),(34,t 3)] (x 39 [33,34] [97,3]) 102 35 (l [32,36,37] [(36,.un (.ext 0) (t 35)),(37,.un (.ext 1) (t 35))] [] (.alloc 101) 0 15 (s [] [] (w [15,36]) (.store 101 (a 15) (a 36)) (.fin [14] [(14,t 37)] [])))),q [k [38,39] [(39,.un .not (t 14))],u 39 (q [.reg false (p [] (.build 38 #[]) 38 40 (s [10] [(10,.con (.slice none 0 0))] (w [11,40]) (.store 38 (a 11) (a 40)) (.fin [12] [(12,.con (.bool false))] []))),.ret]) .skip],.reg true (.loud [41,42,43,44,10] [(10,g 2 (t 15))] [(11,t 11),(44,.un (.ak 5) (e 3 (t 15)))] none [] true (.store 38 (a 11) (a 44)) 0 none false (.fin [12] [(12,.con (.bool true))] [])),.ret]⟩)=>b);simp only[sh];rfl
theorem E.ey:aJ Tryz.prog Tryz.f16=some L.ey:=by kernel_rfl
theorem F.ey:Tryz.prog.funcs[N.ey]? = some Tryz.f16:=Tryz.func16
abbrev N.bV:Nat:=17
def L.bV.l1:LC:=by apply(fun{b:LC}(_:b=f 0 14 5 [11,12,13,14] [15,16,5] (j .lss (t 5) (h (t 0))) (.block 1 (q [.reg true (.loud [17,18,19,20,21,22,23,24] [] [(20,.un (.ak 8) (i 8 (t 0) (t 5))),(24,.un (.ak 8) (i 8 (t 1) (t 5)))] none [] true (x 40 [20,24] [80,80]) 4 (some 25) true (.fin [26] [(26,.un .not (t 25))] [])),u 26 (q [k [4] [(4,.con (.bool false))],.ret]) .skip])))=>b);simp only[sh];rfl
def L.bV:LFn:=by apply(fun{b:LFn}(_:b=⟨[t 4],q [k [4] [(4,.con (.bool false))],q [k [6,7,8,9,10] [(10,j .neq (h (t 0)) (h (t 1)))],u 10 (q [k [4] [(4,.con (.bool false))],.ret]) .skip],q [k [5] [(5,c 0)],v 0 L.bV.l1],k [4] [(4,.con (.bool true))],.ret]⟩)=>b);simp only[sh];rfl
theorem E.bV:aJ Tryz.prog Tryz.f17=some L.bV:=by kernel_rfl
theorem F.bV:Tryz.prog.funcs[N.bV]? = some Tryz.f17:=Tryz.func17
abbrev N.dh:Nat:=19
def L.dh.l1:LC:=by apply(fun{b:LC}(_:b=f 0 14 5 [11,12,13,14] [15,16,5] (j .lss (t 5) (h (t 0))) (.block 1 (q [.reg true (.fin [17,18,19,20,21,22,23,24,25] [(25,j .neq (d (i 1 (t 0) (t 5))) (d (i 1 (t 1) (t 5))))] []),u 25 (q [k [4] [(4,.con (.bool false))],.ret]) .skip])))=>b);simp only[sh];rfl
def L.dh:LFn:=by apply(fun{b:LFn}(_:b=⟨[t 4],q [k [4] [(4,.con (.bool false))],q [k [6,7,8,9,10] [(10,j .neq (h (t 0)) (h (t 1)))],u 10 (q [k [4] [(4,.con (.bool false))],.ret]) .skip],q [k [5] [(5,c 0)],v 0 L.dh.l1],k [4] [(4,.con (.bool true))],.ret]⟩)=>b);simp only[sh];rfl
theorem E.dh:aJ Tryz.prog Tryz.f19=some L.dh:=by kernel_rfl
theorem F.dh:Tryz.prog.funcs[N.dh]? = some Tryz.f19:=Tryz.func19
abbrev N.eU:Nat:=20
def L.eU:LFn:=by apply(fun{b:LFn}(_:b=⟨[t 2],q [k [2] [(2,.con (.string ⟨#[]⟩))],.reg false (p [] (.call ⟨.value (.func 41),#[.const (.string ⟨#[108,105,32,108,105,119,32,97,100,100,32,115,117,98,32,109,117,108,32,97,110,100,32,111,114,32,120,111,114,32,115,104,108,32,115,104,114,32,115,97,114,32,101,113,32,108,116,32,108,116,117,32,100,105,118,32,97,100,100,105,32,115,117,98,105,32,97,110,100,105,32,115,104,108,105,32,115,104,114,105,32,115,97,114,105,32,109,97,100,100,32,108,100,32,108,100,97,32,108,100,120,32,108,100,108,32,115,116,32,115,116,97,32,115,116,120,32,115,116,108,32,99,97,108,108,32,109,117,108,119,32,98,110,122,32,98,101,113,32,98,108,116,32,98,108,116,117,32,106,116]⟩)],#[9]⟩) 105 4 (.fin [3] [(3,t 4)] [])),q [k [5,6,7,8,9,10,11,12] [(12,.ite (j .lss (t 0) (c 1)) (.con (.bool true)) (j .gtr (t 0) (h (t 3))))],u 12 (q [k [2] [(2,.con (.string ⟨#[]⟩))],.ret]) .skip],k [13,14,15,16,17,2] [(2,d (i 1 (t 3) (.bin (.arith .sub) (t 0) (c 1))))],.ret]⟩)=>b);simp only[sh];rfl
theorem E.eU:aJ Tryz.prog Tryz.f20=some L.eU:=by kernel_rfl
theorem F.eU:Tryz.prog.funcs[N.eU]? = some Tryz.f20:=Tryz.func20
end
section
set_option maxRecDepth 100000
abbrev N.eI:Nat:=22
def L.eI.l1:LC:=by apply(fun{b:LC}(_:b=q [k [7] [(7,j .lss (t 6) (t 5))],u 7 .skip (.exit 0),.block 1 (q [k [8,9,10,2,3] [(2,t 6),(3,d (i 1 (t 4) (t 6)))],.reg false (l [11,12,13,14] [(11,t 1)] [(13,o (t 2) (c 1)),(14,t 3)] (.build 64 #[(0,a 13),(1,a 14)]) 64 15 (p (w [15]) (.buildSlice 55 1 #[(0,a 15)]) 55 16 (p (w [11,16]) (.call ⟨.builtin .append,#[a 11,a 16],#[55,55]⟩) 55 17 (.fin [1] [(1,t 17)] []))))]),k [18,6] [(6,o (t 6) (c 1))]])=>b);simp only[sh];rfl
def L.eI:LFn:=by apply(fun{b:LFn}(_:b=⟨[t 0],q [k [0] [(0,.con (.slice none 0 0))],k [1] [(1,.con (.slice none 0 0))],q [.reg false (p [] (.buildSlice 22 37 #[(0,.const (.int .i64 1)),(1,.const (.int .i64 2)),(2,.const (.int .i64 1)),(3,.const (.int .i64 1)),(4,.const (.int .i64 3)),(5,.const (.int .i64 1)),(6,.const (.int .i64 1)),(7,.const (.int .i64 1)),(8,.const (.int .i64 1)),(9,.const (.int .i64 1)),(10,.const (.int .i64 1)),(11,.const (.int .i64 1)),(12,.const (.int .i64 1)),(13,.const (.int .i64 1)),(14,.const (.int .i64 12)),(15,.const (.int .i64 1)),(16,.const (.int .i64 1)),(17,.const (.int .i64 1)),(18,.const (.int .i64 1)),(19,.const (.int .i64 1)),(20,.const (.int .i64 1)),(21,.const (.int .i64 3)),(22,.const (.int .i64 2)),(23,.const (.int .i64 2)),(24,.const (.int .i64 2)),(25,.const (.int .i64 4)),(26,.const (.int .i64 1)),(27,.const (.int .i64 1)),(28,.const (.int .i64 1)),(29,.const (.int .i64 3)),(30,.const (.int .i64 6)),(31,.const (.int .i64 4)),(32,.const (.int .i64 1)),(33,.const (.int .i64 1)),(34,.const (.int .i64 1)),(35,.const (.int .i64 1)),(36,.const (.int .i64 2))]) 22 4 (.fin [5,6] [(5,h (t 4)),(6,c 0)] [])),v 0 L.eI.l1],k [19,0] [(0,t 1)],.ret]⟩)=>b);simp only[sh];rfl
theorem E.eI:aJ Tryz.prog Tryz.f22=some L.eI:=by kernel_rfl
theorem F.eI:Tryz.prog.funcs[N.eI]? = some Tryz.f22:=Tryz.func22
abbrev N.du:Nat:=23
def L.du.l1:LC:=by apply(fun{b:LC}(_:b=q [k [12] [(12,j .lss (t 11) (t 10))],u 12 .skip (.exit 0),.block 1 (q [.reg false (l [13,14,15] [(13,t 11),(15,.un (.ak 2) (i 2 (t 9) (t 11)))] [] (.alloc 64) 0 5 (s [4] [(4,t 13)] (w [5,15]) (.store 64 (a 5) (a 15)) z)),.block 2 (q [.reg false (l [17,18] [] [(18,g 0 (t 5))] (x 20 [18] [3]) 9 19 (.fin [20,16] [(16,.bin (.eqS false) (t 19) (.con (.string ⟨#[]⟩)))] [])),u 16 (q [k [21,2,3] [(2,c 20),(3,t 4)],.ret]) (q [.reg false (l [23,24] [] [(24,g 1 (t 5))] (.call ⟨.value (.func 42),#[a 24,.const (.int .i64 0),.const (.int .i64 1000)],#[3,3,3]⟩) 4 25 (.fin [26,22] [(22,.un .not (t 25))] [])),u 22 (q [k [27,2,3] [(2,c 22),(3,t 4)],.ret]) .skip])])]),k [28,11] [(11,o (t 11) (c 1))]])=>b);simp only[sh];rfl
def L.du:LFn:=by apply(fun{b:LFn}(_:b=⟨[t 2,t 3],q [k [2,3] [(2,c 0),(3,c 0)],q [k [6,7,8] [(8,j .gtr (h (t 0)) (c 1024))],u 8 (q [k [2,3] [(2,c 2),(3,c 0)],.ret]) .skip],q [k [9,10,11] [(9,t 0),(10,h (t 0)),(11,c 0)],v 0 L.du.l1],k [2,3] [(2,c 0),(3,c 0)],.ret]⟩)=>b);simp only[sh];rfl
theorem E.du:aJ Tryz.prog Tryz.f23=some L.du:=by kernel_rfl
theorem F.du:Tryz.prog.funcs[N.du]? = some Tryz.f23:=Tryz.func23
abbrev N.db:Nat:=24
def L.db:LFn:=by apply(fun{b:LFn}(_:b=⟨[t 0],q [k [0] [(0,c 0)],.reg false (p [] (.call ⟨.value (.func 41),#[.const (.string ⟨#[108,105,32,108,105,119,32,97,100,100,32,115,117,98,32,109,117,108,32,97,110,100,32,111,114,32,120,111,114,32,115,104,108,32,115,104,114,32,115,97,114,32,101,113,32,108,116,32,108,116,117,32,100,105,118,32,97,100,100,105,32,115,117,98,105,32,97,110,100,105,32,115,104,108,105,32,115,104,114,105,32,115,97,114,105,32,109,97,100,100,32,108,100,32,108,100,97,32,108,100,120,32,108,100,108,32,115,116,32,115,116,97,32,115,116,120,32,115,116,108,32,99,97,108,108,32,109,117,108,119,32,98,110,122,32,98,101,113,32,98,108,116,32,98,108,116,117,32,106,116]⟩)],#[9]⟩) 105 1 (.fin [2,0] [(0,h (t 1))] [])),.ret]⟩)=>b);simp only[sh];rfl
theorem E.db:aJ Tryz.prog Tryz.f24=some L.db:=by kernel_rfl
theorem F.db:Tryz.prog.funcs[N.db]? = some Tryz.f24:=Tryz.func24
abbrev N.aW:Nat:=26
def L.aW.l1:LC:=by apply(fun{b:LC}(_:b=q [k [40] [(40,j .lss (t 39) (t 38))],u 40 .skip (.exit 0),.block 1 (q [.reg false (l [41,42] [(42,.un (.ak 2) (i 2 (t 37) (t 39)))] [] (.alloc 64) 0 11 (s [] [] (w [11,42]) (.store 64 (a 11) (a 42)) z)),.reg false (s [43,44,45] [] [(43,d (t 9)),(45,g 0 (t 11))] (.mapUpdate 108 (a 43) (a 45) (.const (.bool true))) z)]),k [46,39] [(39,o (t 39) (c 1))]])=>b);simp only[sh];rfl
def L.aW.l3:LC:=by apply(fun{b:LC}(_:b=q [k [60] [(60,j .lss (t 59) (t 58))],u 60 .skip (.exit 4),.block 5 (q [.reg false (l [61,62,63] [(61,t 59),(63,.un (.ak 5) (i 5 (t 57) (t 59)))] [] (.alloc 70) 0 16 (s [15] [(15,t 61)] (w [16,63]) (.store 70 (a 16) (a 63)) z)),.reg false (.loud [64,65,66,67,68,69,70,71,72,73,74,75] [(72,.ite (j .neq (g 0 (t 16)) (c 16)) (j .neq (g 0 (t 16)) (c 18)) (.con (.bool false)))] [(73,.gd (.ite (j .neq (g 0 (t 16)) (c 16)) (j .neq (g 0 (t 16)) (c 18)) (.con (.bool false))) true (.un (.ak 2) (t 3))),(75,.gd (.ite (j .neq (g 0 (t 16)) (c 16)) (j .neq (g 0 (t 16)) (c 18)) (.con (.bool false))) true (g 1 (t 16)))] (some (.ite (j .neq (g 0 (t 16)) (c 16)) (j .neq (g 0 (t 16)) (c 18)) (.con (.bool false)),true)) [] false (x 28 [73,75] [27,3]) 4 (some 76) true (.fin [77] [(77,.ite (t 72) (t 76) (.con (.bool false)))] [])),u 77 (.reg false (l [78,79,80,81,82] [(78,d (t 12)),(80,g 1 (t 16))] [(81,t 13),(82,t 15)] (.build 50 #[(0,a 81),(1,a 82)]) 50 83 (s [] [] (w [78,80,83]) (.mapUpdate 109 (a 78) (a 80) (a 83)) z))) .skip]),k [84,59] [(59,o (t 59) (c 1))]])=>b);simp only[sh];rfl
def L.aW.l2:LC:=by apply(fun{b:LC}(_:b=q [k [52] [(52,j .lss (t 51) (t 50))],u 52 .skip (.exit 2),.block 3 (q [.reg false (l [53,54,55] [(53,t 51),(55,.un (.ak 6) (i 6 (t 49) (t 51)))] [] (.alloc 35) 0 14 (s [13] [(13,t 53)] (w [14,55]) (.store 35 (a 14) (a 55)) z)),k [56,57,58,59] [(57,g 1 (t 14)),(58,h (g 1 (t 14))),(59,c 0)],v 4 L.aW.l3]),k [85,51] [(51,o (t 51) (c 1))]])=>b);simp only[sh];rfl
def L.aW.l5:LC:=by apply(fun{b:LC}(_:b=q [k [100] [(100,j .lss (t 99) (t 98))],u 100 .skip (.exit 8),.block 9 (q [k [101,20] [(20,t 99)],k [21] [(21,.con (.bool true))],q [k [102,103,104,105,106,107,108,109,110,111,112,113,114,115] [(115,.ite (j .lss (t 20) (h (g 1 (t 19)))) (j .neq (g 0 (i 5 (g 1 (t 19)) (t 20))) (c 16)) (.con (.bool false)))],u 115 (q [.reg true (.both (.loud [117,118,119,120,121,122,123] [] [(117,d (t 12)),(123,g 1 (i 5 (g 1 (t 19)) (t 20)))] none [] true (.lookup 109 (a 117) (a 123) true) 111 (some 124) true (l [116,125,126] [(125,.un (.ext 0) (t 124)),(126,.un (.ext 1) (t 124))] [] (.alloc 50) 0 22 (s [] [] (w [22,125]) (.store 50 (a 22) (a 125)) (.fin [23] [(23,t 126)] [])))) (l [117,118,119,120,121,122,123] [(117,d (t 12)),(123,g 1 (i 5 (g 1 (t 19)) (t 20)))] [] (.alloc 50) 0 22 (.loud [] [] (w [117,123]) none [] true (.lookup 109 (a 117) (a 123) true) 111 (some 124) true (s [116,125,126] [(126,.un (.ext 1) (t 124))] [(22,t 22),(125,.un (.ext 0) (t 124))] (.store 50 (a 22) (a 125)) (.fin [23] [(23,t 126)] []))))),.reg false (.loud [127,128,129,130,131] [(128,t 23),(129,.gd (t 23) true (.un (.ak 2) (t 22)))] [(130,.gd (t 23) true (t 18)),(131,.gd (t 23) true (t 20))] (some (t 23,true)) [] false (.build 50 #[(0,a 130),(1,a 131)]) 50 (some 132) true (.loud [] [] (w [129,132]) (some (t 128,true)) [] false (.binOp .eql 50 (a 129) (a 132) 50) 4 (some 133) true (.fin [134] [(134,.ite (t 128) (t 133) (.con (.bool false)))] []))),u 134 (k [21] [(21,.con (.bool false))]) .skip]) .skip],.reg false (.loud [135,136,137,138,139] [(136,t 21)] [(137,.gd (t 21) true (d (t 17))),(138,.gd (t 21) true (t 18)),(139,.gd (t 21) true (t 20))] (some (t 21,true)) [] false (.call ⟨.value (a 137),#[a 138,a 139],#[3,3]⟩) 4 (some 140) true (.fin [141,142] [(142,.ite (t 136) (.un .not (t 140)) (.con (.bool false)))] [])),u 142 (q [k [143,144,4,5,6] [(4,c 21),(5,t 18),(6,t 20)],.ret]) .skip]),k [145,99] [(99,o (t 99) (c 1))]])=>b);simp only[sh];rfl
def L.aW.l4:LC:=by apply(fun{b:LC}(_:b=q [k [91] [(91,j .lss (t 90) (t 89))],u 91 .skip (.exit 6),.block 7 (q [.reg false (l [92,93,94] [(92,t 90),(94,.un (.ak 6) (i 6 (t 88) (t 90)))] [] (.alloc 35) 0 19 (s [18] [(18,t 92)] (w [19,94]) (.store 35 (a 19) (a 94)) z)),k [95,96,97,98,99] [(98,o (h (g 1 (t 19))) (c 1)),(99,c 0)],v 8 L.aW.l5]),k [146,90] [(90,o (t 90) (c 1))]])=>b);simp only[sh];rfl
def L.aW:LFn:=by apply(fun{b:LFn}(_:b=⟨[t 4,t 5,t 6],q [.reg false (p (w [1]) (.box 27 (a 1)) 0 3 (.fin [4,5,6] [(4,c 0),(5,c 0),(6,c 0)] [])),q [.reg false (l [25] [] [(25,t 0)] (x 23 [25] [55]) 58 26 (.fin [24,27,28,7,8] [(7,.un (.ext 0) (t 26))] [.un (.ext 1) (t 26)])),k [29,30] [(30,j .neq (t 7) (c 0))],u 30 (q [k [31,4,5,6] [(4,t 7),(5,c 0),(6,c 0)],.ret]) .skip],q [.reg false (l [32] [] [(32,.un (.ak 2) (t 3))] (x 27 [32] [27]) 4 33 (.fin [34] [(34,.un .not (t 33))] [])),u 34 (q [k [4,5,6] [(4,c 1),(5,c 0),(6,c 0)],.ret]) .skip],.reg false (p [] (.makeMap 108 none) 108 35 (s [] [] (w [35]) (.insert 108 (a 35) (.const (.int .i64 0)) (.const (.bool true))) (l [36] [(36,t 35)] [] (.alloc 108) 0 9 (s [] [] (w [9,36]) (.store 108 (a 9) (a 36)) z)))),q [k [37,38,39] [(37,t 0),(38,h (t 0)),(39,c 0)],v 0 L.aW.l1],.reg false (p [] (.makeMap 109 none) 109 47 (p [] (.alloc 109) 0 12 (s [] [] (w [12,47]) (.store 109 (a 12) (a 47)) z))),q [k [48,49,50,51] [(49,g 1 (t 3)),(50,h (g 1 (t 3))),(51,c 0)],v 2 L.aW.l2],.reg false (p [] (.alloc 110) 0 17 z),.reg false (s [86] [] [(17,t 17),(86,.un (.fn 43) (.snoc (.snoc (.snoc (.snoc (.con (.tuple #[])) (t 3)) (t 9)) (t 12)) (t 17)))] (.store 110 (a 17) (a 86)) z),q [k [87,88,89,90] [(88,g 1 (t 3)),(89,h (g 1 (t 3))),(90,c 0)],v 6 L.aW.l4],k [4,5,6] [(4,c 0),(5,c 0),(6,c 0)],.ret]⟩)=>b);simp only[sh];rfl
theorem E.aW:aJ Tryz.prog Tryz.f26=some L.aW:=by kernel_rfl
theorem F.aW:Tryz.prog.funcs[N.aW]? = some Tryz.f26:=Tryz.func26
abbrev N.dQ:Nat:=27
def L.dQ:LFn:=by apply(fun{b:LFn}(_:b=⟨[t 2],q [.reg false (p (w [0]) (.box 27 (a 0)) 0 1 (.fin [2] [(2,.con (.bool false))] [])),.reg false (l [7] [] [(7,.un (.ak 2) (t 1))] (x 44 [7] [27]) 65 8 (.fin [6,9,10,11,3,4,5] [(3,.un (.ext 0) (t 8))] [.un (.ext 2) (t 8),.un (.ext 1) (t 8)])),k [12,13,2] [(2,j .eql (t 3) (c 0))],.ret]⟩)=>b);simp only[sh];rfl
theorem E.dQ:aJ Tryz.prog Tryz.f27=some L.dQ:=by kernel_rfl
theorem F.dQ:Tryz.prog.funcs[N.dQ]? = some Tryz.f27:=Tryz.func27
abbrev N.cT:Nat:=28
def L.cT:LFn:=by apply(fun{b:LFn}(_:b=⟨[t 4],q [.reg false (p (w [0]) (.box 27 (a 0)) 0 2 (p (w [1]) (.box 3 (a 1)) 0 3 (.fin [4] [(4,.con (.bool false))] []))),.reg false (p [] (.alloc 113) 0 5 (p [] (.alloc 113) 0 6 z)),.reg false (.loud [8,9] [] [(8,.un (.ak 2) (t 2)),(9,.un (.fn 46) (.snoc (.snoc (.snoc (.con (.tuple #[])) (t 3)) (t 5)) (t 6)))] none [] false (x 45 [8,9] [27,117]) 0 (some 10) false z),q [.reg true (.fin [11,12,13,14,15,16,17,18,19,20,21,22,23,24,25,26,27,28,29,30,31,32,33,34,35,36,37,38,39,40,41,42,43,44,45,46,47] [(47,.ite (.ite (.ite (.ite (j .neq (h (d (t 5))) (c 1)) (.con (.bool true)) (j .neq (h (d (t 6))) (c 1))) (.con (.bool true)) (j .lss (g 1 (i 2 (d (t 5)) (c 0))) (c 0))) (.con (.bool true)) (j .neq (g 0 (i 2 (d (t 5)) (c 0))) (g 0 (i 2 (d (t 6)) (c 0))))) (.con (.bool true)) (j .leq (g 1 (i 2 (d (t 6)) (c 0))) (g 1 (i 2 (d (t 5)) (c 0)))))] []),u 47 (q [k [4] [(4,.con (.bool false))],.ret]) .skip],.reg true (l [48,49,50,51,52,53,54,55,56,57,58,59,60,61,62] [(62,.un (.ak 5) (i 5 (g 1 (i 6 (g 1 (t 2)) (g 0 (i 2 (d (t 5)) (c 0))))) (g 1 (i 2 (d (t 5)) (c 0)))))] [] (.alloc 70) 0 7 (.loud [] [] (w [7,62]) none [] true (.store 70 (a 7) (a 62)) 0 none false z)),.reg false (.loud [63,64,65,66,67] [(67,j .eql (g 1 (t 7)) (d (t 3)))] [] (some (j .eql (g 1 (t 7)) (d (t 3)),true)) [] false (.buildSlice 22 6 #[(0,.const (.int .i64 1)),(1,.const (.int .i64 2)),(2,.const (.int .i64 4)),(3,.const (.int .i64 11)),(4,.const (.int .i64 12)),(5,.const (.int .i64 13))]) 22 (some 68) true (.loud [69,70] [] [(68,t 68),(70,.gd (t 67) true (g 0 (t 7)))] (some (t 67,true)) [] false (x 47 [68,70] [22,3]) 4 (some 71) true (.fin [72,4] [(4,.ite (t 67) (t 71) (.con (.bool false)))] []))),.ret]⟩)=>b);simp only[sh];rfl
theorem E.cT:aJ Tryz.prog Tryz.f28=some L.cT:=by kernel_rfl
theorem F.cT:Tryz.prog.funcs[N.cT]? = some Tryz.f28:=Tryz.func28
abbrev N.eB:Nat:=33
def L.eB:LFn:=by apply(fun{b:LFn}(_:b=⟨[.un (.ak 2) (t 0)],q [.reg false (p [] (.alloc 27) 0 0 z),.reg false (p [] (.build 70 #[(0,.const (.int .i64 1)),(1,.const (.int .i64 2)),(4,.const (.int .i32 5))]) 70 1 (p [] (.buildSlice 22 2 #[(0,.const (.int .i64 1)),(1,.const (.int .i64 2))]) 22 2 (p (w [2]) (.build 70 #[(0,.const (.int .i64 2)),(1,.const (.int .i64 3)),(3,a 2)]) 70 3 (p (w [1,3]) (.buildSlice 31 2 #[(0,a 1),(1,a 3)]) 31 4 (p [] (.buildSlice 22 1 #[(0,.const (.int .i64 3))]) 22 5 (p (w [5]) (.build 33 #[(0,.const (.int .i64 4)),(1,a 5)]) 33 6 (p (w [4,6]) (.build 35 #[(1,a 4),(2,a 6)]) 35 7 (p (w [7]) (.buildSlice 25 1 #[(0,a 7)]) 25 8 (p (w [8]) (.build 27 #[(0,.const (.int .i64 2)),(1,a 8)]) 27 9 (s [] [] (w [0,9]) (.store 27 (a 0) (a 9)) z)))))))))),.ret]⟩)=>b);simp only[sh];rfl
theorem E.eB:aJ Tryz.prog Tryz.f33=some L.eB:=by kernel_rfl
theorem F.eB:Tryz.prog.funcs[N.eB]? = some Tryz.f33:=Tryz.func33
end
section
set_option maxRecDepth 100000
abbrev N.gP:Nat:=38
def L.gP:LFn:=by apply(fun{b:LFn}(_:b=⟨[.un (.ak 13) (t 8),t 9],q [.reg false (p (w [0]) (.box 27 (a 0)) 0 4 (p [] (.alloc 97) 0 8 (.fin [9] [(9,.con (.bool false))] []))),q [k [11,12,13,14,15,16,17,18,19,20,21,22,23,24,25,26,27,28,29,30,31,32,33,34] [(34,.ite (.ite (.ite (j .lss (t 1) (c 0)) (.con (.bool true)) (j .geq (t 1) (h (g 1 (t 4))))) (.con (.bool true)) (j .lss (t 2) (c 0))) (.con (.bool true)) (j .gtr (t 2) (h (g 1 (i 6 (g 1 (t 4)) (t 1))))))],u 34 (q [.reg false (p [] (.build 97 #[]) 97 35 (s [] [] (w [8,35]) (.store 97 (a 8) (a 35)) (.fin [9] [(9,.con (.bool false))] []))),.ret]) .skip],.reg false (l [36,37,38,39,40] [(40,.un (.ak 6) (i 6 (g 1 (t 4)) (t 1)))] [] (.alloc 35) 0 10 (s [] [] (w [10,40]) (.store 35 (a 10) (a 40)) z)),q [k [41,42,43,44,45] [(45,j .eql (t 2) (h (g 1 (t 10))))],u 45 (q [.reg false (l [46,47,48,49] [] [(46,.un (.ak 2) (t 4)),(48,.un (.ak 4) (e 2 (t 10))),(49,t 3)] (.build 97 #[(0,a 46),(2,a 48),(3,.const (.bool true)),(4,a 49)]) 97 50 (s [] [] (w [8,50]) (.store 97 (a 8) (a 50)) (.fin [9] [(9,.con (.bool true))] []))),.ret]) .skip],.reg true (.loud [51,52,53,54,55,56,57] [] [(51,.un (.ak 2) (t 4)),(56,.un (.ak 5) (i 5 (g 1 (t 10)) (t 2))),(57,t 3)] none [] true (.build 97 #[(0,a 51),(1,a 56),(4,a 57)]) 97 (some 58) true (s [] [] (w [8,58]) (.store 97 (a 8) (a 58)) (.fin [9] [(9,.con (.bool true))] []))),.ret]⟩)=>b);simp only[sh];rfl
theorem E.gP:aJ Tryz.prog Tryz.f38=some L.gP:=by kernel_rfl
theorem F.gP:Tryz.prog.funcs[N.gP]? = some Tryz.f38:=Tryz.func38
abbrev N.cQ:Nat:=39
def L.cQ:LFn:=by apply(fun{b:LFn}(_:b=⟨[.un (.ak 8) (t 4),t 5],q [.reg false (p (w [0]) (.box 97 (a 0)) 0 2 (p [] (.alloc 101) 0 4 (.fin [5] [(5,.con (.bool false))] []))),q [k [8,9] [(9,g 11 (t 2))],u 9 (q [.reg false (l [10,11] [] [(10,.un (.ak 13) (t 2)),(11,t 1)] (x 63 [10,11] [97,3]) 102 12 (s [13,14] [(14,.un (.ext 1) (t 12))] [(4,t 4),(13,.un (.ext 0) (t 12))] (.store 101 (a 4) (a 13)) (.fin [5] [(5,t 14)] []))),.ret]) .skip],.reg false (l [16] [] [(16,.un (.ak 13) (t 2))] (x 64 [16] [97]) 138 17 (l [18] [] [(17,t 17),(18,t 1)] (.lookup 138 (a 17) (a 18) true) 137 19 (.fin [15,20,21,6,7] [(6,.un (.ext 0) (t 19)),(7,.un (.ext 1) (t 19))] []))),q [k [22,23] [(23,.un .not (t 7))],u 23 (q [.reg false (p [] (.build 101 #[]) 101 24 (s [] [] (w [4,24]) (.store 101 (a 4) (a 24)) (.fin [5] [(5,.con (.bool false))] []))),.ret]) .skip],.reg false (l [25] [] [(25,t 6)] (.call ⟨.value (a 25),#[],#[]⟩) 102 26 (s [27,28] [(28,.un (.ext 1) (t 26))] [(4,t 4),(27,.un (.ext 0) (t 26))] (.store 101 (a 4) (a 27)) (.fin [5] [(5,t 28)] []))),.ret]⟩)=>b);simp only[sh];rfl
theorem E.cQ:aJ Tryz.prog Tryz.f39=some L.cQ:=by kernel_rfl
theorem F.cQ:Tryz.prog.funcs[N.cQ]? = some Tryz.f39:=Tryz.func39
abbrev N.cW:Nat:=40
def L.cW:LFn:=by apply(fun{b:LFn}(_:b=⟨[t 4],q [.reg false (p (w [0]) (.box 80 (a 0)) 0 2 (p (w [1]) (.box 80 (a 1)) 0 3 (.fin [4] [(4,.con (.bool false))] []))),.reg false (.loud [5,6,7,8,9,10,11,12,13,14,15,16,17,18,19,20,21,22,23,24,25,26,27,28,29,30,31,32,33,34,35,36,37,38,39,40,41,42,43,44,45,46,47,48,49,50,51,52,53,54,55,56] [(52,.ite (.ite (.ite (.ite (.ite (.ite (j .eql (g 0 (t 2)) (g 0 (t 3))) (j .eql (g 1 (t 2)) (g 1 (t 3))) (.con (.bool false))) (j .eql (g 2 (t 2)) (g 2 (t 3))) (.con (.bool false))) (j .eql (g 3 (t 2)) (g 3 (t 3))) (.con (.bool false))) (j .eql (g 4 (t 2)) (g 4 (t 3))) (.con (.bool false))) (j .eql (g 5 (t 2)) (g 5 (t 3))) (.con (.bool false))) (j .eql (g 6 (t 2)) (g 6 (t 3))) (.con (.bool false)))] [(54,.gd (.ite (.ite (.ite (.ite (.ite (.ite (j .eql (g 0 (t 2)) (g 0 (t 3))) (j .eql (g 1 (t 2)) (g 1 (t 3))) (.con (.bool false))) (j .eql (g 2 (t 2)) (g 2 (t 3))) (.con (.bool false))) (j .eql (g 3 (t 2)) (g 3 (t 3))) (.con (.bool false))) (j .eql (g 4 (t 2)) (g 4 (t 3))) (.con (.bool false))) (j .eql (g 5 (t 2)) (g 5 (t 3))) (.con (.bool false))) (j .eql (g 6 (t 2)) (g 6 (t 3))) (.con (.bool false))) true (g 7 (t 2))),(56,.gd (.ite (.ite (.ite (.ite (.ite (.ite (j .eql (g 0 (t 2)) (g 0 (t 3))) (j .eql (g 1 (t 2)) (g 1 (t 3))) (.con (.bool false))) (j .eql (g 2 (t 2)) (g 2 (t 3))) (.con (.bool false))) (j .eql (g 3 (t 2)) (g 3 (t 3))) (.con (.bool false))) (j .eql (g 4 (t 2)) (g 4 (t 3))) (.con (.bool false))) (j .eql (g 5 (t 2)) (g 5 (t 3))) (.con (.bool false))) (j .eql (g 6 (t 2)) (g 6 (t 3))) (.con (.bool false))) true (g 7 (t 3)))] (some (.ite (.ite (.ite (.ite (.ite (.ite (j .eql (g 0 (t 2)) (g 0 (t 3))) (j .eql (g 1 (t 2)) (g 1 (t 3))) (.con (.bool false))) (j .eql (g 2 (t 2)) (g 2 (t 3))) (.con (.bool false))) (j .eql (g 3 (t 2)) (g 3 (t 3))) (.con (.bool false))) (j .eql (g 4 (t 2)) (g 4 (t 3))) (.con (.bool false))) (j .eql (g 5 (t 2)) (g 5 (t 3))) (.con (.bool false))) (j .eql (g 6 (t 2)) (g 6 (t 3))) (.con (.bool false)),true)) [] false (x 19 [54,56] [22,22]) 4 (some 57) true (.fin [58,4] [(4,.ite (t 52) (t 57) (.con (.bool false)))] [])),.ret]⟩)=>b);simp only[sh];rfl
theorem E.cW:aJ Tryz.prog Tryz.f40=some L.cW:=by kernel_rfl
theorem F.cW:Tryz.prog.funcs[N.cW]? = some Tryz.f40:=Tryz.func40
abbrev N.strings_Fields:Nat:=41
abbrev N.dH:Nat:=42
def L.dH:LFn:=by apply(fun{b:LFn}(_:b=⟨[t 6],q [k [6] [(6,.con (.bool false))],k [7,8,9,10,11,12,13,14,6] [(6,.ite (j .geq (t 0) (t 1)) (j .leq (t 0) (t 2)) (.con (.bool false)))],.ret]⟩)=>b);simp only[sh];rfl
theorem E.dH:aJ Tryz.prog Tryz.f42=some L.dH:=by kernel_rfl
theorem F.dH:Tryz.prog.funcs[N.dH]? = some Tryz.f42:=Tryz.func42
abbrev N.aQ:Nat:=43
def L.aQ.l2:LC:=by apply(fun{b:LC}(_:b=q [k [41] [(41,j .lss (t 40) (t 39))],u 41 .skip (.exit 2),.block 3 (q [k [42,43,15] [(15,d (i 1 (t 38) (t 40)))],.reg false (l [45,46] [] [(45,d (t 4)),(46,t 15)] (.lookup 109 (a 45) (a 46) true) 111 47 (l [44,48,49] [(48,.un (.ext 0) (t 47)),(49,.un (.ext 1) (t 47))] [] (.alloc 50) 0 16 (s [] [] (w [16,48]) (.store 50 (a 16) (a 48)) (.fin [17] [(17,t 49)] [])))),k [50,51,52,53] [(53,.ite (t 13) (t 17) (.con (.bool false)))],u 53 (.reg false (l [54,55,56,57,58] [] [(54,d (t 5)),(56,d (.bin (.aidx 2 1) (t 16) (c 0))),(58,d (.bin (.aidx 2 1) (t 16) (c 1)))] (.call ⟨.value (a 54),#[a 56,a 58],#[3,3]⟩) 4 59 (.fin [13] [(13,t 59)] []))) .skip]),k [60,40] [(40,o (t 40) (c 1))]])=>b);simp only[sh];rfl
def L.aQ.l1:LC:=by apply(fun{b:LC}(_:b=q [.reg false (p (w [26]) (.next (a 26) false) 0 27 (.fin [28] [(28,.un (.ext 0) (t 27))] [])),u 28 .skip (.exit 0),.block 1 (q [.reg false (p (w [26]) (.entry (a 26)) 0 29 (.fin [30,11] [(11,.un (.ext 0) (t 29))] [])),.reg false (l [32,33] [] [(32,.un (.ak 13) (t 9)),(33,t 11)] (x 39 [32,33] [97,3]) 102 34 (l [31,35,36] [(35,.un (.ext 0) (t 34)),(36,.un (.ext 1) (t 34))] [] (.alloc 101) 0 12 (s [] [] (w [12,35]) (.store 101 (a 12) (a 35)) (.fin [13] [(13,t 36)] [])))),q [k [37,38,39,40] [(38,g 0 (t 12)),(39,h (g 0 (t 12))),(40,c 0)],v 2 L.aQ.l2],k [61] [(61,t 13)],u 61 (q [k [8] [(8,.con (.bool true))],.ret]) .skip])])=>b);simp only[sh];rfl
def L.aQ:LFn:=by apply(fun{b:LFn}(_:b=⟨[t 8],q [k [8] [(8,.con (.bool false))],.reg false (l [19,20,21] [] [(19,.un (.ak 2) (t 2)),(20,t 0),(21,t 1)] (.call ⟨.value (.func 38),#[a 19,a 20,a 21,.const (.int .i64 0)],#[27,3,3,3]⟩) 98 22 (l [18,23,24] [(23,.un (.ext 0) (t 22)),(24,.un (.ext 1) (t 22))] [] (.alloc 97) 0 9 (s [] [] (w [9,23]) (.store 97 (a 9) (a 23)) (.fin [10] [] [t 24])))),q [.reg false (l [25] [] [(25,d (t 3))] (.range 108 (a 25)) 0 26 z),v 0 L.aQ.l1],k [8] [(8,.con (.bool false))],.ret]⟩)=>b);simp only[sh];rfl
theorem E.aQ:aJ Tryz.prog Tryz.f43=some L.aQ:=by kernel_rfl
theorem F.aQ:Tryz.prog.funcs[N.aQ]? = some Tryz.f43:=Tryz.func43
abbrev N.dS:Nat:=44
def R.dS:List E:=[.un .load (.tmp 2),.un .load (.tmp 3),.un .load (.tmp 4)]

def L.gl:LC:=by apply(fun{b:LC}(_:b=.reg false (p (w [0]) (.box 27 (a 0)) 0 1 (p [] (.alloc 57) 0 2 (p [] (.alloc 3) 0 3 (p [] (.alloc 3) 0 4 z)))))=>b);simp only[sh];rfl
theorem E.gl:dt Tryz.prog Tryz.f44.ntmps (ze Tryz.f44) (yy Tryz.f44) false (q8 Tryz.f44)=some L.gl:=by kernel_rfl
def L.ez.l1:LC:=by apply(fun{b:LC}(_:b=q [k [26] [(26,j .lss (t 25) (t 24))],u 26 .skip (.exit 0),.block 1 (q [.reg false (l [27,28] [(28,.un (.ak 6) (i 6 (t 23) (t 25)))] [] (.alloc 35) 0 7 (s [] [] (w [7,28]) (.store 35 (a 7) (a 28)) z)),k [29,30,31,32,33,34,35,36,37,5] [(5,o (t 5) (o (h (g 0 (t 7))) (h (g 1 (t 7)))))]]),k [38,25] [(25,o (t 25) (c 1))]])=>b);simp only[sh];rfl
def L.ez:LC:=by apply(fun{b:LC}(_:b=q [.reg false (l [10,11] [] [(11,g 0 (t 1))] (.call ⟨.value (.func 69),#[a 11,.const (.int .i64 0),.const (.int .i64 4)],#[3,3,3]⟩) 4 12 (.loud [] [] (w [12]) none [] false (.call ⟨.value (.func 68),#[a 12,.const (.int .i64 1),.const (.int .i64 0),.const (.int .i64 0)],#[4,57,3,3]⟩) 0 (some 13) false z)),.reg false (.loud [14,15,16,17] [] [(17,j .gtr (h (g 1 (t 1))) (c 0))] none [] false (.call ⟨.value (.func 68),#[a 17,.const (.int .i64 14),.const (.int .i64 0),.const (.int .i64 0)],#[4,57,3,3]⟩) 0 (some 18) false z),k [19,20,21,5] [(5,h (g 1 (t 1)))],q [k [22,23,24,25] [(23,g 1 (t 1)),(24,h (g 1 (t 1))),(25,c 0)],v 0 L.ez.l1],.reg false (.loud [39,40,41,42,43,44,45,46] [] [(46,.ite (j .leq (h (g 1 (t 1))) (c 512)) (j .leq (t 5) (c 4096)) (.con (.bool false)))] none [] false (.call ⟨.value (.func 68),#[a 46,.const (.int .i64 2),.const (.int .i64 0),.const (.int .i64 0)],#[4,57,3,3]⟩) 0 (some 47) false z),.reg false (l [48] [(48,.un (.ak 2) (t 1))] [] (.makeMap 147 none) 147 49 (p (w [48,49]) (.build 149 #[(0,a 48),(1,a 49)]) 149 50 (p (w [50]) (.box 149 (a 50)) 146 51 (.fin [8] [(8,t 51)] [])))),.reg false (.loud [52] [] [(52,t 8)] none [] false (x 70 [52] [146]) 0 (some 53) false z),.reg false (.loud [54] [] [(54,t 8)] none [] false (x 71 [54] [146]) 0 (some 55) false z),.reg false (s [] [] (w [2]) (.store 57 (a 2) (.const (.int .i64 0))) (s [] [] (w [3]) (.store 3 (a 3) (.const (.int .i64 0))) (s [] [] (w [4]) (.store 3 (a 4) (.const (.int .i64 0))) z))),.ret])=>b);simp only[sh];rfl
theorem E.ez:dt Tryz.prog Tryz.f44.ntmps (ze Tryz.f44) (yy Tryz.f44) false (yu Tryz.f44)=some L.ez:=by kernel_rfl
theorem R.pL:Tryz.f44.results.toList.mapM (resE Tryz.prog)=some R.dS:=by kernel_rfl
theorem F.dS:Tryz.prog.funcs[N.dS]? = some Tryz.f44:=Tryz.func44
theorem B.dS:Tryz.f44.body=some (.seq (q8 Tryz.f44) (.seq (.region (AJ (AL Tryz.f44)) #[AX Tryz.f44 0,AX Tryz.f44 1] false) (yu Tryz.f44))):=by kernel_rfl
abbrev N.bj:Nat:=45
def L.bj.l3:LC:=by apply(fun{b:LC}(_:b=q [k [33] [(33,j .lss (t 32) (t 31))],u 33 .skip (.exit 4),.block 5 (q [.reg false (l [34,35] [(35,.un (.ak 2) (i 2 (t 30) (t 32)))] [] (.alloc 95) 0 10 (s [] [] (w [10,35]) (.store 95 (a 10) (a 35)) z)),.reg false (l [36,37,38] [(36,t 8)] [(38,g 1 (t 10))] (.buildSlice 22 1 #[(0,a 38)]) 22 39 (p (w [36,39]) (.call ⟨.builtin .append,#[a 36,a 39],#[22,22]⟩) 22 40 (.fin [8] [(8,t 40)] [])))]),k [41,32] [(32,o (t 32) (c 1))]])=>b);simp only[sh];rfl
def L.bj.l2:LC:=by apply(fun{b:LC}(_:b=q [k [25] [(25,j .lss (t 24) (t 23))],u 25 .skip (.exit 2),.block 3 (q [.reg false (l [26,27,28] [(26,t 24),(28,.un (.ak 2) (i 2 (t 22) (t 24)))] [] (.alloc 93) 0 7 (s [6] [(6,t 26)] (w [7,28]) (.store 93 (a 7) (a 28)) z)),k [8] [(8,.con (.slice none 0 0))],q [k [29,30,31,32] [(30,g 1 (t 7)),(31,h (g 1 (t 7))),(32,c 0)],v 4 L.bj.l3],.reg false (l [42,43,44,45,46,47] [(42,t 1),(43,t 4),(45,.bin (.arith .sub) (c (-1)) (t 6))] [(47,g 0 (t 7))] (.buildSlice 22 1 #[(0,a 47)]) 22 48 (.loud [49] [] [(42,t 42),(43,t 43),(45,t 45),(48,t 48),(49,t 8)] none [] false (.call ⟨.value (a 42),#[a 43,a 45,a 48,a 49],#[3,3,22,22]⟩) 0 (some 50) false z))]),k [51,24] [(24,o (t 24) (c 1))]])=>b);simp only[sh];rfl
def L.bj.l4:LC:=by apply(fun{b:LC}(_:b=q [k [56] [(56,j .lss (t 55) (t 54))],u 56 .skip (.exit 6),.block 7 (q [.reg false (l [57,58,59] [(57,t 55),(59,.un (.ak 5) (i 5 (t 53) (t 55)))] [] (.alloc 70) 0 12 (s [11] [(11,t 57)] (w [12,59]) (.store 70 (a 12) (a 59)) z)),.reg true (l [60,61,62,63,65,66] [(60,t 1),(61,t 4),(62,t 11),(66,g 3 (t 12))] [(63,.un (.ak 5) (t 12))] (x 72 [63] [70]) 22 64 (.loud [] [] (w [60,61,62,64,66]) none [] true (.call ⟨.value (a 60),#[a 61,a 62,a 64,a 66],#[3,3,22,22]⟩) 0 (some 67) false z))]),k [68,55] [(55,o (t 55) (c 1))]])=>b);simp only[sh];rfl
def L.bj.l1:LC:=by apply(fun{b:LC}(_:b=q [k [17] [(17,j .lss (t 16) (t 15))],u 17 .skip (.exit 0),.block 1 (q [.reg false (l [18,19,20] [(18,t 16),(20,.un (.ak 6) (i 6 (t 14) (t 16)))] [] (.alloc 35) 0 5 (s [4] [(4,t 18)] (w [5,20]) (.store 35 (a 5) (a 20)) z)),q [k [21,22,23,24] [(22,g 0 (t 5)),(23,h (g 0 (t 5))),(24,c 0)],v 2 L.bj.l2],q [k [52,53,54,55] [(53,g 1 (t 5)),(54,h (g 1 (t 5))),(55,c 0)],v 6 L.bj.l4],.reg false (.loud [69,70,71,72,73,74,75,76] [] [(69,t 1),(70,t 4),(73,h (g 1 (t 5))),(76,g 1 (e 2 (t 5)))] none [] false (.call ⟨.value (a 69),#[a 70,a 73,.const (.slice none 0 0),a 76],#[3,3,22,22]⟩) 0 (some 77) false z)]),k [78,16] [(16,o (t 16) (c 1))]])=>b);simp only[sh];rfl
def L.bj:LFn:=by apply(fun{b:LFn}(_:b=⟨[],q [.reg false (p (w [0]) (.box 27 (a 0)) 0 2 z),k [13,14,15,16] [(14,g 1 (t 2)),(15,h (g 1 (t 2))),(16,c 0)],v 0 L.bj.l1]⟩)=>b);simp only[sh];rfl
theorem E.bj:aJ Tryz.prog Tryz.f45=some L.bj:=by kernel_rfl
theorem F.bj:Tryz.prog.funcs[N.bj]? = some Tryz.f45:=Tryz.func45
end
section
set_option maxRecDepth 100000
abbrev N.aT:Nat:=46
def L.aT.l1:LC:=by apply(fun{b:LC}(_:b=q [k [18] [(18,j .lss (t 17) (t 16))],u 18 .skip (.exit 0),.block 1 (q [k [19,20,12] [(12,d (i 1 (t 15) (t 17)))],k [21,22,23] [(23,j .eql (t 12) (d (t 4)))],u 23 (.reg false (l [24,25,26] [(24,d (t 5))] [(25,t 0),(26,t 1)] (.build 116 #[(0,a 25),(1,a 26)]) 116 27 (p (w [27]) (.buildSlice 113 1 #[(0,a 27)]) 113 28 (p (w [24,28]) (.call ⟨.builtin .append,#[a 24,a 28],#[113,113]⟩) 113 29 (s [] [] (w [5,29]) (.store 113 (a 5) (a 29)) z))))) .skip]),k [30,17] [(17,o (t 17) (c 1))]])=>b);simp only[sh];rfl
def L.aT.l2:LC:=by apply(fun{b:LC}(_:b=q [k [34] [(34,j .lss (t 33) (t 32))],u 34 .skip (.exit 2),.block 3 (q [k [35,36,14] [(14,d (i 1 (t 31) (t 33)))],k [37,38,39] [(39,j .eql (t 14) (d (t 4)))],u 39 (.reg false (l [40,41,42] [(40,d (t 6))] [(41,t 0),(42,t 1)] (.build 116 #[(0,a 41),(1,a 42)]) 116 43 (p (w [43]) (.buildSlice 113 1 #[(0,a 43)]) 113 44 (p (w [40,44]) (.call ⟨.builtin .append,#[a 40,a 44],#[113,113]⟩) 113 45 (s [] [] (w [6,45]) (.store 113 (a 6) (a 45)) z))))) .skip]),k [46,33] [(33,o (t 33) (c 1))]])=>b);simp only[sh];rfl
def L.aT:LFn:=by apply(fun{b:LFn}(_:b=⟨[],q [q [k [15,16,17] [(15,t 2),(16,h (t 2)),(17,c 0)],v 0 L.aT.l1],k [31,32,33] [(31,t 3),(32,h (t 3)),(33,c 0)],v 2 L.aT.l2]⟩)=>b);simp only[sh];rfl
theorem E.aT:aJ Tryz.prog Tryz.f46=some L.aT:=by kernel_rfl
theorem F.aT:Tryz.prog.funcs[N.aT]? = some Tryz.f46:=Tryz.func46
abbrev N.slices_Contains_int:Nat:=47
def L.slices_Contains_int:LFn:=by apply(fun{b:LFn}(_:b=⟨[t 4],q [k [4] [(4,.con (.bool false))],.reg false (l [5,6] [] [(5,t 0),(6,t 1)] (x 73 [5,6] [22,3]) 3 7 (.fin [8,4] [(4,j .geq (t 7) (c 0))] [])),.ret]⟩)=>b);simp only[sh];rfl
theorem E.slices_Contains_int:aJ Tryz.prog Tryz.f47=some L.slices_Contains_int:=by kernel_rfl
theorem F.slices_Contains_int:Tryz.prog.funcs[N.slices_Contains_int]? = some Tryz.f47:=Tryz.func47
end
section
set_option maxRecDepth 100000
abbrev N.dd:Nat:=63
def L.dd:LFn:=by apply(fun{b:LFn}(_:b=⟨[.un (.ak 8) (t 4),t 5],q [.reg false (p (w [0]) (.box 97 (a 0)) 0 2 (p [] (.alloc 101) 0 4 (.fin [5] [(5,.con (.bool false))] []))),.reg false (l [12,13] [(13,.un (.ak 4) (e 7 (t 2)))] [] (.alloc 33) 0 6 (s [] [] (w [6,13]) (.store 33 (a 6) (a 13)) z)),.reg false (l [14,15] [] [(15,g 2 (t 6))] (x 99 [15] [22]) 22 16 (.fin [7] [(7,t 16)] [])),.block 0 (q [k [18,19,20,21,22,23,24,17] [(17,.ite (j .eql (t 1) (c 0)) (j .eql (g 0 (t 6)) (c 1)) (.con (.bool false)))],u 17 (q [.reg false (l [25] [] [(25,t 7)] (.build 38 #[(0,.const (.int .i64 1)),(3,a 25)]) 38 26 (p (w [26]) (.build 101 #[(3,a 26)]) 101 27 (s [] [] (w [4,27]) (.store 101 (a 4) (a 27)) (.fin [5] [(5,.con (.bool true))] [])))),.ret]) (q [k [29,30,31,32,33,34,35,28] [(28,.ite (j .eql (t 1) (c 0)) (j .eql (g 0 (t 6)) (c 4)) (.con (.bool false)))],u 28 (q [.reg false (p [] (.build 38 #[(0,.const (.int .i64 7)),(1,.const (.int .i64 (-1)))]) 38 36 (p [] (.alloc 38) 0 8 (s [] [] (w [8,36]) (.store 38 (a 8) (a 36)) z))),q [k [37,38,39,40] [(40,j .gtr (h (g 1 (t 6))) (c 0))],u 40 (.reg false (s [41,42,43,44,45] [] [(45,e 1 (t 8)),(44,d (i 1 (g 1 (t 6)) (c 0)))] (.store 3 (a 45) (a 44)) z)) .skip],.reg true (l [46,47,49] [(49,.un (.ak 5) (t 8))] [(47,g 1 (t 6))] (x 99 [47] [22]) 22 48 (.loud [] [] (w [48,49]) none [] true (.build 101 #[(0,a 48),(3,a 49)]) 101 (some 50) true (s [] [] (w [4,50]) (.store 101 (a 4) (a 50)) (.fin [5] [(5,.con (.bool true))] [])))),.ret]) (q [k [52,53,54,55,56,57,58,51] [(51,.ite (j .eql (t 1) (c 0)) (j .eql (g 0 (t 6)) (c 5)) (.con (.bool false)))],u 51 (q [.reg false (l [59,60] [] [(60,g 3 (t 6))] (.build 38 #[(0,.const (.int .i64 8)),(4,a 60)]) 38 61 (p (w [61]) (.build 101 #[(3,a 61)]) 101 62 (s [] [] (w [4,62]) (.store 101 (a 4) (a 62)) (.fin [5] [(5,.con (.bool true))] [])))),.ret]) (q [k [64,65,66,67,68,69,70,63] [(63,.ite (j .eql (t 1) (c 33)) (j .eql (g 0 (t 6)) (c 2)) (.con (.bool false)))],u 63 (q [.reg true (.both (l [71,72,74,75,76,77,78] [(77,d (i 1 (g 1 (t 6)) (c 0))),(78,t 7)] [(72,g 1 (t 6))] (x 99 [72] [22]) 22 73 (p (w [77,78]) (.build 38 #[(0,.const (.int .i64 2)),(1,a 77),(3,a 78)]) 38 79 (.loud [] [] (w [73,79]) none [] true (.build 101 #[(0,a 73),(3,a 79)]) 101 (some 80) true (s [] [] (w [4,80]) (.store 101 (a 4) (a 80)) (.fin [5] [(5,.con (.bool true))] []))))) (l [71,72,74,75,76,77,78] [(72,g 1 (t 6))] [(77,d (i 1 (g 1 (t 6)) (c 0))),(78,t 7)] (.build 38 #[(0,.const (.int .i64 2)),(1,a 77),(3,a 78)]) 38 79 (p (w [72]) (x 99 [72] [22]) 22 73 (.loud [] [] (w [73,79]) none [] true (.build 101 #[(0,a 73),(3,a 79)]) 101 (some 80) true (s [] [] (w [4,80]) (.store 101 (a 4) (a 80)) (.fin [5] [(5,.con (.bool true))] [])))))),.ret]) (q [.reg false (l [82] [] [(82,t 1)] (.call ⟨.value (.func 42),#[a 82,.const (.int .i64 34),.const (.int .i64 36)],#[3,3,3]⟩) 4 83 (.fin [84,85,86,87,88,81] [(81,.ite (t 83) (j .eql (g 0 (t 6)) (c 2)) (.con (.bool false)))] [])),u 81 (q [k [89,90,9] [(9,.bin (.arith .sub) (t 1) (c 34))],.reg true (.both (.loud [92,93,94,95,96,97,98] [] [(92,.un (.ak 13) (t 2)),(96,d (i 1 (g 1 (t 6)) (c 0))),(98,o (c 11) (t 9))] none [] true (x 100 [92,96,98] [97,3,3]) 163 (some 99) true (l [91,100,101] [(100,.un (.ext 0) (t 99)),(101,.un (.ext 1) (t 99))] [] (.alloc 70) 0 10 (s [] [] (w [10,100]) (.store 70 (a 10) (a 100)) (.fin [11] [(11,t 101)] [])))) (l [92,93,94,95,96,97,98] [(92,.un (.ak 13) (t 2)),(96,d (i 1 (g 1 (t 6)) (c 0))),(98,o (c 11) (t 9))] [] (.alloc 70) 0 10 (.loud [] [] (w [92,96,98]) none [] true (x 100 [92,96,98] [97,3,3]) 163 (some 99) true (s [91,100,101] [(101,.un (.ext 1) (t 99))] [(10,t 10),(100,.un (.ext 0) (t 99))] (.store 70 (a 10) (a 100)) (.fin [11] [(11,t 101)] []))))),q [k [102,103] [(103,.un .not (t 11))],u 103 (q [.reg false (p [] (.build 101 #[]) 101 104 (s [] [] (w [4,104]) (.store 101 (a 4) (a 104)) (.fin [5] [(5,.con (.bool false))] []))),.ret]) .skip],.reg true (.both (l [105,106,108,109,111,112,113,114,115,116,117,118,119,120,121] [(109,g 1 (t 6)),(112,o (c 3) (t 9)),(116,d (i 1 (g 3 (t 10)) (c 0))),(120,d (i 1 (g 3 (t 10)) (c 1))),(121,t 7)] [(106,g 3 (t 10))] (x 99 [106] [22]) 22 107 (.both (p (w [109]) (x 99 [109] [22]) 22 110 (p (w [112,116,120,121]) (.build 38 #[(0,a 112),(1,a 116),(2,a 120),(3,a 121)]) 38 122 (.loud [] [] (w [107,110,122]) none [] true (.build 101 #[(0,a 107),(1,a 110),(3,a 122)]) 101 (some 123) true (s [] [] (w [4,123]) (.store 101 (a 4) (a 123)) (.fin [5] [(5,.con (.bool true))] []))))) (p (w [112,116,120,121]) (.build 38 #[(0,a 112),(1,a 116),(2,a 120),(3,a 121)]) 38 122 (p (w [109]) (x 99 [109] [22]) 22 110 (.loud [] [] (w [107,110,122]) none [] true (.build 101 #[(0,a 107),(1,a 110),(3,a 122)]) 101 (some 123) true (s [] [] (w [4,123]) (.store 101 (a 4) (a 123)) (.fin [5] [(5,.con (.bool true))] []))))))) (l [105,106,108,109,111,112,113,114,115,116,117,118,119,120,121] [(106,g 3 (t 10)),(109,g 1 (t 6))] [(112,o (c 3) (t 9)),(116,d (i 1 (g 3 (t 10)) (c 0))),(120,d (i 1 (g 3 (t 10)) (c 1))),(121,t 7)] (.build 38 #[(0,a 112),(1,a 116),(2,a 120),(3,a 121)]) 38 122 (p (w [106]) (x 99 [106] [22]) 22 107 (p (w [109]) (x 99 [109] [22]) 22 110 (.loud [] [] (w [107,110,122]) none [] true (.build 101 #[(0,a 107),(1,a 110),(3,a 122)]) 101 (some 123) true (s [] [] (w [4,123]) (.store 101 (a 4) (a 123)) (.fin [5] [(5,.con (.bool true))] []))))))),.ret]) (q [k [125,126,127,128,129,130,131,124] [(124,.ite (j .eql (t 1) (c 37)) (j .eql (g 0 (t 6)) (c 3)) (.con (.bool false)))],u 124 (q [.reg true (.both (l [132,133,135,136,137,138,139] [(138,d (i 1 (g 1 (t 6)) (c 0))),(139,t 7)] [(133,g 1 (t 6))] (x 99 [133] [22]) 22 134 (p (w [138,139]) (.build 38 #[(0,.const (.int .i64 6)),(1,a 138),(3,a 139)]) 38 140 (.loud [] [] (w [134,140]) none [] true (.build 101 #[(0,a 134),(3,a 140)]) 101 (some 141) true (s [] [] (w [4,141]) (.store 101 (a 4) (a 141)) (.fin [5] [(5,.con (.bool true))] []))))) (l [132,133,135,136,137,138,139] [(133,g 1 (t 6))] [(138,d (i 1 (g 1 (t 6)) (c 0))),(139,t 7)] (.build 38 #[(0,.const (.int .i64 6)),(1,a 138),(3,a 139)]) 38 140 (p (w [133]) (x 99 [133] [22]) 22 134 (.loud [] [] (w [134,140]) none [] true (.build 101 #[(0,a 134),(3,a 140)]) 101 (some 141) true (s [] [] (w [4,141]) (.store 101 (a 4) (a 141)) (.fin [5] [(5,.con (.bool true))] [])))))),.ret]) .skip])])])])])]),.reg false (p [] (.build 101 #[]) 101 142 (s [] [] (w [4,142]) (.store 101 (a 4) (a 142)) (.fin [5] [(5,.con (.bool false))] []))),.ret]⟩)=>b);simp only[sh];rfl
theorem E.dd:aJ Tryz.prog Tryz.f63=some L.dd:=by kernel_rfl
theorem F.dd:Tryz.prog.funcs[N.dd]? = some Tryz.f63:=Tryz.func63
end
section
set_option maxRecDepth 100000
abbrev N.aE:Nat:=64
def L.aE.l1:LC:=by apply(fun{b:LC}(_:b=q [q [k [21,22] [(22,j .leq (d (t 7)) (c 14))],u 22 .skip (.exit 0)],.block 1 (.reg false (.loud [25,26,27,28,29,30] [] [(25,d (t 6)),(26,d (t 7)),(29,.bin (.arith .sub) (o (c 3) (d (t 7))) (c 2)),(30,.un (.fn 106) (.snoc (.snoc (.con (.tuple #[])) (t 7)) (t 3)))] none [] false (.call ⟨.value (a 25),#[a 26,a 29,a 30],#[3,3,136]⟩) 0 (some 31) false z)),q [k [32] [(32,d (t 7))],.reg false (p [] (.alloc 3) 0 7 (s [] [] (w [7,32]) (.store 3 (a 7) (a 32)) z))],.reg false (s [23,24] [] [(7,t 7),(24,o (d (t 7)) (c 1))] (.store 3 (a 7) (a 24)) z)])=>b);simp only[sh];rfl
def L.aE.l2:LC:=by apply(fun{b:LC}(_:b=q [k [43] [(43,j .lss (t 42) (t 41))],u 43 .skip (.exit 2),.block 3 (q [k [44,45,46,9,10] [(9,t 42),(10,d (i 1 (t 40) (t 42)))],.reg false (.loud [47,48,49,50,51,52] [] [(47,t 8),(48,t 10),(50,o (c 19) (t 9)),(52,o (c 20) (t 9))] none [] false (.call ⟨.value (a 47),#[a 48,a 50,a 52,.const (.int .i64 0),.const (.int .i64 31),.const (.int .i64 1)],#[3,3,3,3,3,3]⟩) 0 (some 53) false z)]),k [54,42] [(42,o (t 42) (c 1))]])=>b);simp only[sh];rfl
def L.aE:LFn:=by apply(fun{b:LFn}(_:b=⟨[t 2],q [.reg false (p (w [0]) (.box 97 (a 0)) 0 1 (.fin [2] [(2,.con (.map none))] [])),.reg false (l [11,12] [(12,.un (.ak 5) (e 2 (t 1)))] [] (.alloc 70) 0 3 (s [] [] (w [3,12]) (.store 70 (a 3) (a 12)) z)),.reg false (p [] (.alloc 136) 0 4 (s [] [] (w [4]) (.store 136 (a 4) (.func 101)) z)),.reg false (p [] (.makeMap 138 none) 138 13 (p [] (.alloc 138) 0 5 (s [] [] (w [5,13]) (.store 138 (a 5) (a 13)) z))),.reg false (l [14] [(14,.un (.fn 102) (.snoc (.snoc (.snoc (.snoc (.con (.tuple #[])) (t 1)) (t 3)) (t 5)) (t 4)))] [] (.alloc 171) 0 6 (s [] [] (w [6,14]) (.store 171 (a 6) (a 14)) z)),.reg false (.loud [15,16] [] [(15,d (t 6)),(16,.un (.fn 103) (.snoc (.con (.tuple #[])) (t 3)))] none [] false (.call ⟨.value (a 15),#[.const (.int .i64 1),.const (.int .i64 1),a 16],#[3,3,136]⟩) 0 (some 17) false z),.reg false (.loud [18,19] [] [(18,d (t 6)),(19,.un (.fn 105) (.snoc (.con (.tuple #[])) (t 3)))] none [] false (.call ⟨.value (a 18),#[.const (.int .i64 1),.const (.int .i64 2),a 19],#[3,3,136]⟩) 0 (some 20) false z),q [.reg false (p [] (.alloc 3) 0 7 (s [] [] (w [7]) (.store 3 (a 7) (.const (.int .i64 2))) z)),v 0 L.aE.l1],k [33,8] [(8,.un (.fn 107) (.snoc (.snoc (.snoc (.con (.tuple #[])) (t 6)) (t 1)) (t 3)))],.reg false (.loud [34] [] [(34,t 8)] none [] false (.call ⟨.value (a 34),#[.const (.int .i64 2),.const (.int .i64 16),.const (.int .i64 18),.const (.int .i64 (-128)),.const (.int .i64 127),.const (.int .i64 1)],#[3,3,3,3,3,3]⟩) 0 (some 35) false z),.reg false (.loud [36] [] [(36,t 8)] none [] false (.call ⟨.value (a 36),#[.const (.int .i64 3),.const (.int .i64 17),.const (.int .i64 18),.const (.int .i64 (-127)),.const (.int .i64 128),.const (.int .i64 (-1))],#[3,3,3,3,3,3]⟩) 0 (some 37) false z),.reg false (.loud [38] [] [(38,t 8)] none [] false (.call ⟨.value (a 38),#[.const (.int .i64 5),.const (.int .i64 18),.const (.int .i64 19),.const (.int .i64 (-128)),.const (.int .i64 127),.const (.int .i64 1)],#[3,3,3,3,3,3]⟩) 0 (some 39) false z),q [.reg false (p [] (.buildSlice 22 3 #[(0,.const (.int .i64 8)),(1,.const (.int .i64 9)),(2,.const (.int .i64 10))]) 22 40 (.fin [41,42] [(41,h (t 40)),(42,c 0)] [])),v 2 L.aE.l2],.reg false (.loud [55,56] [] [(55,d (t 6)),(56,.un (.fn 110) (.snoc (.snoc (.snoc (.con (.tuple #[])) (t 1)) (t 3)) (t 4)))] none [] false (.call ⟨.value (a 55),#[.const (.int .i64 2),.const (.int .i64 22),a 56],#[3,3,136]⟩) 0 (some 57) false z),.reg false (.loud [58,59] [] [(58,.un (.ak 13) (t 1)),(59,d (t 6))] none [] false (.call ⟨.value (.func 111),#[a 58,a 59,.const (.int .i64 23),.const (.int .i64 15),.const (.int .i64 24),.const (.int .i64 25)],#[97,171,3,3,3,3]⟩) 0 (some 60) false z),.reg false (.loud [61,62] [] [(61,.un (.ak 13) (t 1)),(62,d (t 6))] none [] false (.call ⟨.value (.func 111),#[a 61,a 62,.const (.int .i64 27),.const (.int .i64 16),.const (.int .i64 26),.const (.int .i64 27)],#[97,171,3,3,3,3]⟩) 0 (some 63) false z),.reg false (.loud [64,65] [] [(64,d (t 6)),(65,.un (.fn 112) (.snoc (.con (.tuple #[])) (t 3)))] none [] false (.call ⟨.value (a 64),#[.const (.int .i64 17),.const (.int .i64 31),a 65],#[3,3,136]⟩) 0 (some 66) false z),.reg false (.loud [67,68] [] [(67,d (t 6)),(68,.un (.fn 113) (.snoc (.con (.tuple #[])) (t 3)))] none [] false (.call ⟨.value (a 67),#[.const (.int .i64 18),.const (.int .i64 32),a 68],#[3,3,136]⟩) 0 (some 69) false z),k [70,2] [(2,d (t 5))],.ret]⟩)=>b);simp only[sh];rfl
theorem E.aE:aJ Tryz.prog Tryz.f64=some L.aE:=by kernel_rfl
theorem F.aE:Tryz.prog.funcs[N.aE]? = some Tryz.f64:=Tryz.func64
abbrev N.bJ:Nat:=67
def L.bJ:LFn:=by apply(fun{b:LFn}(_:b=⟨[],q [.reg false (p [] (.call ⟨.builtin .recover,#[],#[]⟩) 20 6 z),.block 0 (q [.reg false (p (w [6]) (.binOp .eql 20 (a 6) (.const .nilIface) 20) 4 8 z),u 8 (.reg false (.fin [3] [] [t 6])) (q [.reg false (p (w [6]) (.typeAssert (a 6) 20 144 true) 0 9 (.fin [10,11] [(10,.un (.ext 1) (t 9)),(11,.un (.ext 0) (t 9))] [])),u 10 (q [.reg false (p [] (.alloc 144) 0 4 (s [] [] (w [4,11]) (.store 144 (a 4) (a 11)) z)),.reg true (s [12,13,14,15,16,17] [(15,g 1 (t 4)),(17,g 2 (t 4))] [(0,t 0),(13,g 0 (t 4))] (.store 57 (a 0) (a 13)) (s [] [] (w [1,15]) (.store 3 (a 1) (a 15)) (.loud [] [] (w [2,17]) none [] true (.store 3 (a 2) (a 17)) 0 none false z)))]) (q [k [5] [(5,t 6)],.reg false (s [7] [] [(7,t 5)] (.panic (a 7)) z)])])])]⟩)=>b);simp only[sh];rfl
theorem F.bJ:Tryz.prog.funcs[N.bJ]? = some Tryz.f67:=Tryz.func67
theorem Q.bJ:Tryz.f67.body=some (.seq (.region (AJ (q8 Tryz.f67)) #[BC Tryz.f67 0] false) (AQ Tryz.f67)):=by kernel_rfl
theorem E.ku:dt Tryz.prog Tryz.f67.ntmps (ze Tryz.f67) (yy Tryz.f67) false (AQ Tryz.f67)=some L.bJ.body.tail:=by kernel_rfl
abbrev N.dv:Nat:=68
def L.dv:LFn:=by apply(fun{b:LFn}(_:b=⟨[],q [k [8,9] [(9,.un .not (t 0))],u 9 (.reg false (l [10,11,12] [] [(10,t 1),(11,t 2),(12,t 3)] (.build 144 #[(0,a 10),(1,a 11),(2,a 12)]) 144 13 (p (w [13]) (.makeInterface 144 (a 13)) 20 14 (s [] [] (w [14]) (.panic (a 14)) z)))) .skip]⟩)=>b);simp only[sh];rfl
theorem E.dv:aJ Tryz.prog Tryz.f68=some L.dv:=by kernel_rfl
theorem F.dv:Tryz.prog.funcs[N.dv]? = some Tryz.f68:=Tryz.func68
abbrev N.dq:Nat:=69
def L.dq:LFn:=by apply(fun{b:LFn}(_:b=⟨[t 6],q [k [6] [(6,.con (.bool false))],k [7,8,9,10,11,12,13,14,6] [(6,.ite (j .geq (t 0) (t 1)) (j .leq (t 0) (t 2)) (.con (.bool false)))],.ret]⟩)=>b);simp only[sh];rfl
theorem E.dq:aJ Tryz.prog Tryz.f69=some L.dq:=by kernel_rfl
theorem F.dq:Tryz.prog.funcs[N.dq]? = some Tryz.f69:=Tryz.func69
abbrev N.az:Nat:=70
def L.az.l2:LC:=by apply(fun{b:LC}(_:b=q [k [29] [(29,j .lss (t 28) (t 27))],u 29 .skip (.exit 2),.block 3 (q [.reg false (l [30,31,32] [(30,t 28),(32,.un (.ak 2) (i 2 (t 26) (t 28)))] [] (.alloc 93) 0 5 (s [4] [(4,t 30)] (w [5,32]) (.store 93 (a 5) (a 32)) z)),.reg false (l [33,34,35] [(33,t 0)] [(35,g 0 (t 5))] (.buildSlice 22 1 #[(0,a 35)]) 22 36 (.loud [37,38,39] [] [(33,t 33),(36,t 36),(37,t 2),(39,.bin (.arith .sub) (c (-1)) (t 4))] none [] false (x 115 [33,36,37,39] [146,22,3,3]) 0 (some 40) false z))]),k [41,28] [(28,o (t 28) (c 1))]])=>b);simp only[sh];rfl
def L.az.l3:LC:=by apply(fun{b:LC}(_:b=q [k [46] [(46,j .lss (t 45) (t 44))],u 46 .skip (.exit 4),.block 5 (q [.reg false (l [47,48,49] [(47,t 45),(49,.un (.ak 5) (i 5 (t 43) (t 45)))] [] (.alloc 70) 0 7 (s [6] [(6,t 47)] (w [7,49]) (.store 70 (a 7) (a 49)) z)),.reg false (l [50,51] [] [(51,g 0 (t 7))] (.call ⟨.value (.func 69),#[a 51,.const (.int .i64 1),.const (.int .i64 18)],#[3,3,3]⟩) 4 52 (.loud [53,54] [] [(52,t 52),(53,t 2),(54,t 6)] none [] false (.call ⟨.value (.func 68),#[a 52,.const (.int .i64 10),a 53,a 54],#[4,57,3,3]⟩) 0 (some 55) false z)),.reg false (l [57,58] [] [(58,g 0 (t 7))] (x 116 [58] [3]) 182 59 (.fin [56,60,61,8,9] [(8,.un (.ext 0) (t 59)),(9,.un (.ext 1) (t 59))] [])),.reg false (l [62,63,64,65,66] [] [(64,h (g 3 (t 7))),(65,t 8),(66,t 9)] (x 69 [64,65,66] [3,3,3]) 4 67 (.loud [68,69] [] [(67,t 67),(68,t 2),(69,t 6)] none [] false (.call ⟨.value (.func 68),#[a 67,.const (.int .i64 10),a 68,a 69],#[4,57,3,3]⟩) 0 (some 70) false z)),.reg false (l [71,72] [(71,t 0)] [(72,.un (.ak 5) (t 7))] (x 72 [72] [70]) 22 73 (.loud [74,75] [] [(71,t 71),(73,t 73),(74,t 2),(75,t 6)] none [] false (x 115 [71,73,74,75] [146,22,3,3]) 0 (some 76) false z))]),k [77,45] [(45,o (t 45) (c 1))]])=>b);simp only[sh];rfl
def L.az.l4:LC:=by apply(fun{b:LC}(_:b=q [k [119] [(119,j .lss (t 118) (t 117))],u 119 .skip (.exit 6),.block 7 (q [k [120,121,13] [(13,d (i 1 (t 116) (t 118)))],.reg true (l [122,123,124,125,126,127,128,129,131,132,133,134] [(131,t 2),(134,h (g 1 (t 3)))] [(122,t 13),(129,.bin (.arith .sub) (h (g 1 (e 0 (.un .nilPtr (t 0))))) (c 1))] (.call ⟨.value (.func 69),#[a 122,.const (.int .i64 1),a 129],#[3,3,3]⟩) 4 130 (.loud [] [] (w [130,131,134]) none [] true (.call ⟨.value (.func 68),#[a 130,.const (.int .i64 14),a 131,a 134],#[4,57,3,3]⟩) 0 (some 135) false z))]),k [136,118] [(118,o (t 118) (c 1))]])=>b);simp only[sh];rfl
def L.az.l1:LC:=by apply(fun{b:LC}(_:b=q [k [21] [(21,j .lss (t 20) (t 19))],u 21 .skip (.exit 0),.block 1 (q [.reg false (l [22,23,24] [(22,t 20),(24,.un (.ak 6) (i 6 (t 18) (t 20)))] [] (.alloc 35) 0 3 (s [2] [(2,t 22)] (w [3,24]) (.store 35 (a 3) (a 24)) z)),q [k [25,26,27,28] [(26,g 0 (t 3)),(27,h (g 0 (t 3))),(28,c 0)],v 2 L.az.l2],q [k [42,43,44,45] [(43,g 1 (t 3)),(44,h (g 1 (t 3))),(45,c 0)],v 4 L.az.l3],.reg true (.both (l [80,81,82] [(82,g 0 (e 2 (t 3)))] [] (x 117 [] []) 187 79 (.both (.loud [] [] (w [79,82]) none [] true (.lookup 187 (a 79) (a 82) true) 186 (some 83) true (l [78,84,85] [(84,.un (.ext 0) (t 83)),(85,.un (.ext 1) (t 83))] [] (.alloc 185) 0 10 (s [] [] (w [10,84]) (.store 185 (a 10) (a 84)) (.fin [11] [(11,t 85)] [])))) (p [] (.alloc 185) 0 10 (.loud [] [] (w [79,82]) none [] true (.lookup 187 (a 79) (a 82) true) 186 (some 83) true (s [78,84,85] [(85,.un (.ext 1) (t 83))] [(10,t 10),(84,.un (.ext 0) (t 83))] (.store 185 (a 10) (a 84)) (.fin [11] [(11,t 85)] [])))))) (l [80,81,82] [(82,g 0 (e 2 (t 3)))] [] (.alloc 185) 0 10 (p [] (x 117 [] []) 187 79 (.loud [] [] (w [79,82]) none [] true (.lookup 187 (a 79) (a 82) true) 186 (some 83) true (s [78,84,85] [(85,.un (.ext 1) (t 83))] [(10,t 10),(84,.un (.ext 0) (t 83))] (.store 185 (a 10) (a 84)) (.fin [11] [(11,t 85)] [])))))),.reg true (.loud [86,87,88,89,90,91,92,93,94,95,109,110,111,112] [(87,t 11),(109,t 2),(112,h (g 1 (t 3)))] [(91,.gd (t 11) true (h (g 1 (e 2 (t 3))))),(93,.gd (t 11) true (g 0 (t 10))),(95,.gd (t 11) true (g 1 (t 10)))] (some (t 11,true)) [] false (x 69 [91,93,95] [3,3,3]) 4 (some 96) true (.loud [97,98,99,100,101,102,103,104,105,106] [(98,.ite (t 87) (t 96) (.con (.bool false)))] [(102,.gd (.ite (t 87) (t 96) (.con (.bool false))) true (h (g 2 (e 2 (t 3))))),(104,.gd (.ite (t 87) (t 96) (.con (.bool false))) true (g 2 (t 10))),(106,.gd (.ite (t 87) (t 96) (.con (.bool false))) true (g 3 (t 10)))] (some (.ite (t 87) (t 96) (.con (.bool false)),true)) [] false (x 69 [102,104,106] [3,3,3]) 4 (some 107) true (.loud [108] [] [(108,.ite (t 98) (t 107) (.con (.bool false))),(109,t 109),(112,t 112)] none [] true (.call ⟨.value (.func 68),#[a 108,.const (.int .i64 10),a 109,a 112],#[4,57,3,3]⟩) 0 (some 113) false z))),k [114,115,116,117,118] [(116,g 2 (e 2 (t 3))),(117,h (g 2 (e 2 (t 3)))),(118,c 0)],v 6 L.az.l4]),k [137,20] [(20,o (t 20) (c 1))]])=>b);simp only[sh];rfl
def L.az:LFn:=by apply(fun{b:LFn}(_:b=⟨[],q [k [14,15,16,17,18,19,20] [(18,g 1 (e 0 (.un .nilPtr (t 0)))),(19,h (g 1 (e 0 (.un .nilPtr (t 0))))),(20,c 0)],v 0 L.az.l1]⟩)=>b);simp only[sh];rfl
theorem E.az:aJ Tryz.prog Tryz.f70=some L.az:=by kernel_rfl
theorem F.az:Tryz.prog.funcs[N.az]? = some Tryz.f70:=Tryz.func70
abbrev N.ai:Nat:=71
def L.ai.l1:LC:=by apply(fun{b:LC}(_:b=q [k [37] [(37,j .lss (t 36) (t 35))],u 37 .skip (.exit 0),.block 1 (q [k [38,4] [(4,t 36)],.reg false (l [39,40] [] [(39,t 3),(40,t 4)] (x 47 [39,40] [22,3]) 4 41 (.loud [42] [] [(41,t 41),(42,t 4)] none [] false (.call ⟨.value (.func 68),#[a 41,.const (.int .i64 15),a 42,.const (.int .i64 0)],#[4,57,3,3]⟩) 0 (some 43) false z))]),k [44,36] [(36,o (t 36) (c 1))]])=>b);simp only[sh];rfl
def L.ai.l4:LC:=by apply(fun{b:LC}(_:b=q [k [86] [(86,j .lss (t 85) (t 84))],u 86 .skip (.exit 6),.block 7 (q [.reg false (l [87,88,89] [(87,t 85),(89,.un (.ak 2) (i 2 (t 83) (t 85)))] [] (.alloc 95) 0 14 (s [13] [(13,t 87)] (w [14,89]) (.store 95 (a 14) (a 89)) z)),.reg true (.fin [90,91,92,93,94,95,96,97,98,99,100,101,102,12] [(12,.ite (t 12) (j .eql (g 0 (t 14)) (d (i 1 (d (i 1 (t 5) (t 8))) (t 13)))) (.con (.bool false)))] [])]),k [103,85] [(85,o (t 85) (c 1))]])=>b);simp only[sh];rfl
def L.ai.l5:LC:=by apply(fun{b:LC}(_:b=q [k [113] [(113,j .lss (t 112) (t 111))],u 113 .skip (.exit 8),.block 9 (q [.reg false (l [114,115] [(115,.un (.ak 2) (i 2 (t 110) (t 112)))] [] (.alloc 95) 0 16 (s [] [] (w [16,115]) (.store 95 (a 16) (a 115)) z)),.reg true (.loud [116,117,118,119,120,121,122,123,124,125,126,127,128,129,130,131,132,133,134] [] [(116,t 7),(118,g 1 (t 16)),(120,g 0 (t 16)),(122,.bin (.arith .sub) (c (-1)) (t 10)),(133,h (g 1 (i 6 (g 1 (e 0 (.un .nilPtr (d (t 1))))) (g 0 (t 16))))),(134,t 8)] none [] true (.call ⟨.value (a 116),#[a 118,a 120,a 122,a 133,a 134],#[3,3,3,3,3]⟩) 0 (some 135) false z)]),k [136,112] [(112,o (t 112) (c 1))]])=>b);simp only[sh];rfl
def L.ai.l3:LC:=by apply(fun{b:LC}(_:b=q [k [65] [(65,j .lss (t 64) (t 63))],u 65 .skip (.exit 4),.block 5 (q [.reg false (l [66,67,68] [(66,t 64),(68,.un (.ak 2) (i 2 (t 62) (t 64)))] [] (.alloc 93) 0 11 (s [10] [(10,t 66)] (w [11,68]) (.store 93 (a 11) (a 68)) z)),.reg true (.fin [69,70,71,72,73,74,75,76,77,78,79,80,81,12] [(12,.ite (j .gtr (t 8) (c 0)) (j .eql (h (g 1 (t 11))) (h (d (i 1 (t 5) (t 8))))) (.con (.bool false)))] []),q [k [82,83,84,85] [(83,g 1 (t 11)),(84,h (g 1 (t 11))),(85,c 0)],v 6 L.ai.l4],.reg false (.loud [104,105,106,107] [] [(104,t 12),(105,t 8),(107,.bin (.arith .sub) (c (-1)) (t 10))] none [] false (.call ⟨.value (.func 68),#[a 104,.const (.int .i64 16),a 105,a 107],#[4,57,3,3]⟩) 0 (some 108) false z),k [109,110,111,112] [(110,g 1 (t 11)),(111,h (g 1 (t 11))),(112,c 0)],v 8 L.ai.l5]),k [137,64] [(64,o (t 64) (c 1))]])=>b);simp only[sh];rfl
def L.ai.l7:LC:=by apply(fun{b:LC}(_:b=q [k [150] [(150,j .lss (t 149) (t 148))],u 150 .skip (.exit 12),.block 13 (q [k [151,152,20] [(20,d (i 1 (t 147) (t 149)))],.reg false (.loud [153,154,155,156,157,158] [] [(153,t 7),(154,t 20),(155,t 8),(156,t 17),(157,t 17),(158,t 8)] none [] false (.call ⟨.value (a 153),#[a 154,a 155,a 156,a 157,a 158],#[3,3,3,3,3]⟩) 0 (some 159) false z)]),k [160,149] [(149,o (t 149) (c 1))]])=>b);simp only[sh];rfl
def L.ai.l6:LC:=by apply(fun{b:LC}(_:b=q [k [142] [(142,j .lss (t 141) (t 140))],u 142 .skip (.exit 10),.block 11 (q [.reg false (l [143,144,145] [(143,t 141),(145,.un (.ak 5) (i 5 (t 139) (t 141)))] [] (.alloc 70) 0 18 (s [17] [(17,t 143)] (w [18,145]) (.store 70 (a 18) (a 145)) z)),k [146,147,148,149] [(147,g 3 (t 18)),(148,h (g 3 (t 18))),(149,c 0)],v 12 L.ai.l7]),k [161,141] [(141,o (t 141) (c 1))]])=>b);simp only[sh];rfl
def L.ai.l8:LC:=by apply(fun{b:LC}(_:b=q [k [167] [(167,j .lss (t 166) (t 165))],u 167 .skip (.exit 14),.block 15 (q [k [168,169,22] [(22,d (i 1 (t 164) (t 166)))],.reg false (.loud [170,171,172,173,174,175,176,177,178,179] [] [(170,t 7),(171,t 22),(172,t 8),(175,h (g 1 (t 9))),(178,h (g 1 (t 9))),(179,t 8)] none [] false (.call ⟨.value (a 170),#[a 171,a 172,a 175,a 178,a 179],#[3,3,3,3,3]⟩) 0 (some 180) false z)]),k [181,166] [(166,o (t 166) (c 1))]])=>b);simp only[sh];rfl
def L.ai.l2:LC:=by apply(fun{b:LC}(_:b=q [k [57] [(57,j .lss (t 56) (t 55))],u 57 .skip (.exit 2),.block 3 (q [.reg false (l [58,59,60] [(58,t 56),(60,.un (.ak 6) (i 6 (t 54) (t 56)))] [] (.alloc 35) 0 9 (s [8] [(8,t 58)] (w [9,60]) (.store 35 (a 9) (a 60)) z)),q [k [61,62,63,64] [(62,g 0 (t 9)),(63,h (g 0 (t 9))),(64,c 0)],v 4 L.ai.l3],q [k [138,139,140,141] [(139,g 1 (t 9)),(140,h (g 1 (t 9))),(141,c 0)],v 10 L.ai.l6],k [162,163,164,165,166] [(164,g 1 (e 2 (t 9))),(165,h (g 1 (e 2 (t 9)))),(166,c 0)],v 14 L.ai.l8]),k [182,56] [(56,o (t 56) (c 1))]])=>b);simp only[sh];rfl
def L.ai:LFn:=by apply(fun{b:LFn}(_:b=⟨[],q [.reg false (p (w [0]) (.box 146 (a 0)) 0 1 z),.reg false (l [23,24,25,26] [] [(26,.un (.ak 2) (e 0 (.un .nilPtr (d (t 1)))))] (x 118 [26] [27]) 120 27 (.fin [2] [(2,t 27)] [])),.reg false (l [28] [] [(28,t 2)] (x 119 [28] [120]) 22 29 (.fin [3] [(3,t 29)] [])),q [k [30,31,32,33,34,35,36] [(35,h (g 1 (e 0 (.un .nilPtr (d (t 1)))))),(36,c 0)],v 0 L.ai.l1],.reg false (l [45] [] [(45,t 2)] (x 120 [45] [120]) 120 46 (l [47] [] [(47,t 2)] (x 121 [47] [120]) 22 48 (p [] (.alloc 22) 0 6 (s [5] [(5,t 46)] (w [6,48]) (.store 22 (a 6) (a 48)) z)))),k [49,7] [(7,.un (.fn 122) (.snoc (.snoc (.con (.tuple #[])) (t 1)) (t 6)))],k [50,51,52,53,54,55,56] [(54,g 1 (e 0 (.un .nilPtr (d (t 1))))),(55,h (g 1 (e 0 (.un .nilPtr (d (t 1)))))),(56,c 0)],v 2 L.ai.l2]⟩)=>b);simp only[sh];rfl
theorem E.ai:aJ Tryz.prog Tryz.f71=some L.ai:=by kernel_rfl
theorem F.ai:Tryz.prog.funcs[N.ai]? = some Tryz.f71:=Tryz.func71
abbrev N.dE:Nat:=72
def L.dE:LFn:=by apply(fun{b:LFn}(_:b=⟨[t 2],q [.reg false (p (w [0]) (.box 70 (a 0)) 0 1 (.fin [2] [(2,.con (.slice none 0 0))] [])),q [k [3,4] [(4,g 0 (t 1))],.block 0 (q [k [6,5] [(5,j .eql (t 4) (c 16))],u 5 (q [k [2] [(2,.con (.slice none 0 0))],.ret]) (q [k [8,7] [(7,j .eql (t 4) (c 18))],u 7 (q [.reg false (l [9,10,11,12] [] [(10,g 1 (t 1)),(12,g 2 (t 1))] (.buildSlice 22 2 #[(0,a 10),(1,a 12)]) 22 13 (.fin [2] [(2,t 13)] [])),.ret]) .skip])])],.reg false (l [14,15] [] [(15,g 1 (t 1))] (.buildSlice 22 1 #[(0,a 15)]) 22 16 (.fin [2] [(2,t 16)] [])),.ret]⟩)=>b);simp only[sh];rfl
theorem E.dE:aJ Tryz.prog Tryz.f72=some L.dE:=by kernel_rfl
theorem F.dE:Tryz.prog.funcs[N.dE]? = some Tryz.f72:=Tryz.func72
abbrev N.slices_Index_int:Nat:=73
def L.slices_Index_int.l1:LC:=by apply(fun{b:LC}(_:b=q [k [9] [(9,j .lss (t 8) (t 7))],u 9 .skip (.exit 0),.block 1 (q [k [10,5] [(5,t 8)],k [11,12,13,14,15,16] [(16,j .eql (t 1) (d (i 1 (t 0) (t 5))))],u 16 (q [k [17,4] [(4,t 5)],.ret]) .skip]),k [18,8] [(8,o (t 8) (c 1))]])=>b);simp only[sh];rfl
def L.slices_Index_int:LFn:=by apply(fun{b:LFn}(_:b=⟨[t 4],q [k [4] [(4,c 0)],q [k [6,7,8] [(7,h (t 0)),(8,c 0)],v 0 L.slices_Index_int.l1],k [4] [(4,c (-1))],.ret]⟩)=>b);simp only[sh];rfl
theorem E.slices_Index_int:aJ Tryz.prog Tryz.f73=some L.slices_Index_int:=by kernel_rfl
theorem F.slices_Index_int:Tryz.prog.funcs[N.slices_Index_int]? = some Tryz.f73:=Tryz.func73
end
section
set_option maxRecDepth 100000
abbrev N.cu:Nat:=99
def L.cu:LFn:=by apply(fun{b:LFn}(_:b=⟨[t 2],q [k [2] [(2,.con (.slice none 0 0))],q [.reg false (l [3] [] [(3,t 0)] (.binOp .eql 22 (a 3) (.const (.slice none 0 0)) 22) 4 4 z),u 4 (q [k [2] [(2,.con (.slice none 0 0))],.ret]) .skip],.reg false (p [] (.buildSlice 22 0 #[]) 22 5 (l [6] [] [(5,t 5),(6,t 0)] (.call ⟨.builtin .append,#[a 5,a 6],#[22,22]⟩) 22 7 (.fin [2] [(2,t 7)] []))),.ret]⟩)=>b);simp only[sh];rfl
theorem E.cu:aJ Tryz.prog Tryz.f99=some L.cu:=by kernel_rfl
theorem F.cu:Tryz.prog.funcs[N.cu]? = some Tryz.f99:=Tryz.func99
abbrev N.cD:Nat:=100
def L.cD:LFn:=by apply(fun{b:LFn}(_:b=⟨[.un (.ak 5) (t 6),t 7],q [.reg false (p (w [0]) (.box 97 (a 0)) 0 3 (p [] (.alloc 70) 0 6 (.fin [7] [(7,.con (.bool false))] []))),.reg false (l [11,12] [] [(11,.un (.ak 13) (t 3)),(12,t 1)] (x 129 [11,12] [97,3]) 163 13 (l [10,14,15] [(14,.un (.ext 0) (t 13)),(15,.un (.ext 1) (t 13))] [] (.alloc 70) 0 8 (s [] [] (w [8,14]) (.store 70 (a 8) (a 14)) (.fin [9] [(9,t 15)] [])))),.reg true (.loud [16,17,18,19,20,21,22,23,24,25,26,27] [(16,.un (.ak 5) (t 8)),(24,.ite (t 9) (j .eql (g 0 (t 8)) (t 2)) (.con (.bool false)))] [(26,.gd (.ite (t 9) (j .eql (g 0 (t 8)) (t 2)) (.con (.bool false))) true (.un (.ak 2) (e 0 (t 3)))),(27,.gd (.ite (t 9) (j .eql (g 0 (t 8)) (t 2)) (.con (.bool false))) true (t 1))] (some (.ite (t 9) (j .eql (g 0 (t 8)) (t 2)) (.con (.bool false)),true)) [] false (x 28 [26,27] [27,3]) 4 (some 28) true (.loud [29] [(29,.ite (t 24) (t 28) (.con (.bool false)))] (w [6,16]) none [] true (.store 70 (a 6) (a 16)) 0 none false (.fin [7] [(7,t 29)] []))),.ret]⟩)=>b);simp only[sh];rfl
theorem E.cD:aJ Tryz.prog Tryz.f100=some L.cD:=by kernel_rfl
theorem F.cD:Tryz.prog.funcs[N.cD]? = some Tryz.f100:=Tryz.func100
abbrev N.ay:Nat:=101
def L.ay:LFn:=by apply(fun{b:LFn}(_:b=⟨[.un (.ak 8) (t 0),t 1],q [.reg false (p [] (.alloc 101) 0 0 (.fin [1] [(1,.con (.bool false))] [])),.reg false (p [] (.build 101 #[]) 101 2 (s [] [] (w [0,2]) (.store 101 (a 0) (a 2)) (.fin [1] [(1,.con (.bool false))] []))),.ret]⟩)=>b);simp only[sh];rfl
theorem E.ay:aJ Tryz.prog Tryz.f101=some L.ay:=by kernel_rfl
theorem F.ay:Tryz.prog.funcs[N.ay]? = some Tryz.f101:=Tryz.func101
abbrev N.aA:Nat:=102
def L.aA:LFn:=by apply(fun{b:LFn}(_:b=⟨[],q [k [10,11,12,13,14,15,16,17,18] [(18,.ite (.un .not (g 11 (t 3))) (j .eql (g 0 (t 4)) (t 0)) (.con (.bool false)))],u 18 (.reg false (s [19,20,21] [] [(19,d (t 5)),(20,t 1),(21,t 2)] (.mapUpdate 138 (a 19) (a 20) (a 21)) z)) (q [.reg false (l [22,23] [] [(22,d (t 5)),(23,t 1)] (.lookup 138 (a 22) (a 23) false) 136 24 (p (w [24]) (.binOp .eql 136 (a 24) (.const .nilFunc) 136) 4 25 z)),u 25 (.reg false (s [26,27,28] [] [(26,d (t 5)),(27,t 1),(28,d (t 6))] (.mapUpdate 138 (a 26) (a 27) (a 28)) z)) .skip])]⟩)=>b);simp only[sh];rfl
theorem E.aA:aJ Tryz.prog Tryz.f102=some L.aA:=by kernel_rfl
theorem F.aA:Tryz.prog.funcs[N.aA]? = some Tryz.f102:=Tryz.func102
abbrev N.bn:Nat:=103
def L.bn:LFn:=by apply(fun{b:LFn}(_:b=⟨[.un (.ak 8) (t 1),t 2],q [.reg false (p [] (.alloc 101) 0 1 (.fin [2] [(2,.con (.bool false))] [])),.reg false (l [6,7,8,9] [] [(7,g 1 (t 0)),(9,g 4 (t 0))] (.build 80 #[(0,.const (.int .i64 3)),(1,a 7),(6,a 9)]) 80 10 (p (w [10]) (.call ⟨.value (.func 104),#[a 10,.const (.slice none 0 0),.const (.slice none 0 0)],#[80,22,22]⟩) 102 11 (l [5,12,13] [(12,.un (.ext 0) (t 11)),(13,.un (.ext 1) (t 11))] [] (.alloc 101) 0 3 (s [] [] (w [3,12]) (.store 101 (a 3) (a 12)) (.fin [4] [] [t 13]))))),.reg true (l [14,15,16,17] [(14,.un (.ak 8) (t 3))] [(17,.un (.conv .i64) (g 4 (t 0)))] (.call ⟨.value (.func 42),#[a 17,.const (.int .i64 (-32768)),.const (.int .i64 32767)],#[3,3,3]⟩) 4 18 (.loud [] [] (w [1,14]) none [] true (.store 101 (a 1) (a 14)) 0 none false (.fin [2] [(2,t 18)] []))),.ret]⟩)=>b);simp only[sh];rfl
theorem E.bn:aJ Tryz.prog Tryz.f103=some L.bn:=by kernel_rfl
theorem F.bn:Tryz.prog.funcs[N.bn]? = some Tryz.f103:=Tryz.func103
abbrev N.fN:Nat:=104
def L.fN:LFn:=by apply(fun{b:LFn}(_:b=⟨[.un (.ak 8) (t 6),t 7],q [.reg false (p (w [0]) (.box 80 (a 0)) 0 3 (p [] (.alloc 101) 0 6 (.fin [7] [(7,.con (.bool false))] []))),.reg false (l [8,9,10] [(8,t 1),(9,t 2)] [(10,.un (.ak 8) (t 3))] (.buildSlice 36 1 #[(0,a 10)]) 36 11 (p (w [8,9,11]) (.build 101 #[(0,a 8),(1,a 9),(2,a 11)]) 101 12 (s [] [] (w [6,12]) (.store 101 (a 6) (a 12)) (.fin [7] [(7,.con (.bool true))] [])))),.ret]⟩)=>b);simp only[sh];rfl
theorem E.fN:aJ Tryz.prog Tryz.f104=some L.fN:=by kernel_rfl
theorem F.fN:Tryz.prog.funcs[N.fN]? = some Tryz.f104:=Tryz.func104
abbrev N.bb:Nat:=105
def L.bb:LFn:=by apply(fun{b:LFn}(_:b=⟨[.un (.ak 8) (t 1),t 2],q [.reg false (p [] (.alloc 101) 0 1 (.fin [2] [(2,.con (.bool false))] [])),.reg false (l [3,4,5,6] [] [(4,g 1 (t 0)),(6,g 4 (t 0))] (.build 80 #[(0,.const (.int .i64 4)),(1,a 4),(6,a 6)]) 80 7 (p (w [7]) (.call ⟨.value (.func 104),#[a 7,.const (.slice none 0 0),.const (.slice none 0 0)],#[80,22,22]⟩) 102 8 (s [9,10] [(10,.un (.ext 1) (t 8))] [(1,t 1),(9,.un (.ext 0) (t 8))] (.store 101 (a 1) (a 9)) (.fin [2] [(2,t 10)] [])))),.ret]⟩)=>b);simp only[sh];rfl
theorem E.bb:aJ Tryz.prog Tryz.f105=some L.bb:=by kernel_rfl
theorem F.bb:Tryz.prog.funcs[N.bb]? = some Tryz.f105:=Tryz.func105
abbrev N.bo:Nat:=106
def L.bo:LFn:=by apply(fun{b:LFn}(_:b=⟨[.un (.ak 8) (t 2),t 3],q [.reg false (p [] (.alloc 101) 0 2 (.fin [3] [(3,.con (.bool false))] [])),.reg true (.both (l [4,5,6,7,8,9,10,11,12,13,14,15,16,18,19] [(19,g 3 (t 1))] [(6,.bin (.arith .sub) (o (c 5) (d (t 0))) (c 2)),(8,g 1 (t 1)),(12,d (i 1 (g 3 (t 1)) (c 0))),(16,d (i 1 (g 3 (t 1)) (c 1)))] (.build 80 #[(0,a 6),(1,a 8),(3,a 12),(4,a 16)]) 80 17 (p (w [19]) (x 99 [19] [22]) 22 20 (.loud [] [] (w [17,20]) none [] true (.call ⟨.value (.func 104),#[a 17,a 20,.const (.slice none 0 0)],#[80,22,22]⟩) 102 (some 21) true (s [22,23] [(23,.un (.ext 1) (t 21))] [(2,t 2),(22,.un (.ext 0) (t 21))] (.store 101 (a 2) (a 22)) (.fin [3] [(3,t 23)] []))))) (l [4,5,6,7,8,9,10,11,12,13,14,15,16,18,19] [(6,.bin (.arith .sub) (o (c 5) (d (t 0))) (c 2)),(8,g 1 (t 1)),(12,d (i 1 (g 3 (t 1)) (c 0))),(16,d (i 1 (g 3 (t 1)) (c 1)))] [(19,g 3 (t 1))] (x 99 [19] [22]) 22 20 (p (w [6,8,12,16]) (.build 80 #[(0,a 6),(1,a 8),(3,a 12),(4,a 16)]) 80 17 (.loud [] [] (w [17,20]) none [] true (.call ⟨.value (.func 104),#[a 17,a 20,.const (.slice none 0 0)],#[80,22,22]⟩) 102 (some 21) true (s [22,23] [(23,.un (.ext 1) (t 21))] [(2,t 2),(22,.un (.ext 0) (t 21))] (.store 101 (a 2) (a 22)) (.fin [3] [(3,t 23)] [])))))),.ret]⟩)=>b);simp only[sh];rfl
theorem E.bo:aJ Tryz.prog Tryz.f106=some L.bo:=by kernel_rfl
theorem F.bo:Tryz.prog.funcs[N.bo]? = some Tryz.f106:=Tryz.func106
abbrev N.aP:Nat:=107
def L.aP:LFn:=by apply(fun{b:LFn}(_:b=⟨[],q [.reg false (p (w [2]) (.box 3 (a 2)) 0 11 (p (w [3]) (.box 3 (a 3)) 0 12 (p (w [4]) (.box 3 (a 4)) 0 13 (p (w [5]) (.box 3 (a 5)) 0 14 z)))),.reg false (.loud [15,16,17,18] [] [(15,d (t 6)),(16,t 0),(17,t 1),(18,.un (.fn 108) (.snoc (.snoc (.snoc (.snoc (.snoc (.snoc (.con (.tuple #[])) (t 7)) (t 8)) (t 12)) (t 13)) (t 11)) (t 14)))] none [] false (.call ⟨.value (a 15),#[a 16,a 17,a 18],#[3,3,136]⟩) 0 (some 19) false z)]⟩)=>b);simp only[sh];rfl
theorem E.aP:aJ Tryz.prog Tryz.f107=some L.aP:=by kernel_rfl
theorem F.aP:Tryz.prog.funcs[N.aP]? = some Tryz.f107:=Tryz.func107
end
end Go.Proofs.YtnfiilgdjpdlkaaGreatDoor
