/- A part of the proof: LftY, LftZ, LftF, LftG, LftH, LftM, LftN, LftQ, LftU, LftJ, LftK, T, LftP, Ua, Law, Ga, La, Lb, Lc, Ld. -/
import Derived.Test.YtnfiilgdjpdlkaaGreatDoorZTTemps0
import Derived.ChangeKeysEq
import Derived.MapKept
import Derived.RecoverIn
import Derived.Test.YtnfiilgdjpdlkaaGreatDoorChecked
import Derived.KernelRfl
import Derived.ProofKit
import Derived.OpenShut
import Derived.HandedShaped
import Derived.LaidMore
import Derived.Test.YtnfiilgdjpdlkaaGreatDoorProg
set_option linter.unusedSimpArgs false
set_option linter.unusedVariables false
namespace Go.Lft
open Go
section
variable {po:OP} {pp:PP}
def fresh (h h':Heap):View:=fun b=>if b<h.size then none else h'[b]?
theorem ko(h h':Heap):(fresh h h').le (vw h'):=fun b o hb=>by
 unfold fresh at hb;split at hb
 ·cases hb
 exact hb
theorem jj(V:View)(h h':Heap):(fresh h h').le (grow V h h'):=fun b o hb=>by
 unfold fresh at hb;unfold grow;split at hb
 ·cases hb
 rename_i hlt;rw[if_neg hlt];exact hb
structure kD (h h':Heap) (v v':Value):Prop where
 kept:Kept h h' v.ownBlock
 at_:v'.ownBlock=v.ownBlock\/v'.ownBlock=some h.size
theorem kD.view {h h':Heap} {v v':Value} (m:kD h h' v v') {W:View} (hw:W.le (vw h)) (ha:Av W v):W.le (vw h')/\Av W v':=by
 refine⟨m.kept.view hw ha,fun b hb=>?_⟩;rcases m.at_ with e | e
 ·exact ha b (by rw[<-e];exact hb)
 rw[e]at hb;simp only[Kx]at hb;exact View.cM hw (by omega)
theorem Av.nil(W:View)(n c:Nat):Av W (.slice none n c):=fun b hb=>by simp[Value.ownBlock]at hb
section
variable {α:Type} [Rep α]
def OwnT (W:View) (h:Heap) (e:TypeId) (v:Value) (l:List α):Prop:=
 l.length<=140737488355328/\∃xs,tW h e (Rep.n α) v l.length xs/\∀(i:Nat) (hi:i<l.length),Rep.rd W ((xs.drop (i*Rep.n α)).take (Rep.n α)) l[i]
def SrcT (Ho Hi:View) (u:Value) (l:List α):Prop:=
 ∃a c,u = .slice a l.length c/\(a=none->l=[])/\∃news:List Value,news.length=l.length*Rep.n α/\(∀ad,a=some ad->∀j x,news[j]? = some x->aj Ho (ad.add j)=some x)/\
  ∀(i:Nat) (hi:i<l.length),Rep.rd Hi ((news.drop (i*Rep.n α)).take (Rep.n α)) l[i]
theorem OwnT.nil(W:View)(h:Heap)(e:TypeId):OwnT (α:=α) W h e (.slice none 0 0) []:=
 ⟨by simp,[],⟨by simp,.inl ⟨rfl,rfl⟩⟩,fun i hi=>by simp at hi⟩
variable {W:View} {h h':Heap} {e:TypeId} {v:Value} {l:List α}
theorem OwnT.len (o:OwnT W h e v l) {K:View}:Un.ev K .len v=some (.int .i64 l.length):=by
 obtain⟨_,xs,⟨_,hx⟩,_⟩:=o;rcases hx with⟨rfl,hn⟩ | ⟨g,cap,cur,rfl,_⟩
 ·rw[hn];rfl
 rfl
theorem OwnT.mono (o:OwnT W h e v l) {W':View} (hw:W.le W'):OwnT W' h e v l:=
 let ⟨b,xs,h1,h2⟩:=o
 ⟨b,xs,h1,fun i hi=>Rep.mono hw (h2 i hi)⟩
theorem OwnT.kept (o:OwnT W h e v l) {b:Option Nat} (k:Kept h h' b) (hb:v.ownBlock=none\/v.ownBlock≠b):OwnT W h' e v l:=
 let ⟨bd,xs,h1,h2⟩:=o
 ⟨bd,xs,h1.kept k hb,h2⟩
theorem OwnT.ext(o:OwnT W h e v l)(k:(vw h).le (vw h')):OwnT W h' e v l:=o.kept (rX k) (by cases v.ownBlock<;>simp)
variable{n:Nat}
theorem AK{xs:List Value}{len:Nat}(hl:xs.length=len*n)(hr : ∀(i:Nat),i<len->∀u∈(xs.drop (i*n)).take n,u.oneCell'=true): ∀u∈xs,u.oneCell'=true:=by
 intro u hu;obtain⟨j,hj,rfl⟩:=KV hu;have hn:0<n:=by
  rcases MJ n with h | h
  ·subst h;simp at hl;subst hl;simp at hj
  exact h
 have hlt:j / n<len:=by rw[Nat.div_lt_iff_lt_mul hn];omega
 refine hr (j / n) hlt _ ?_;have hm:=Nat.mod_lt j hn;have hd:=Nat.div_add_mod j n;have:((xs.drop (j / n*n)).take n)[j % n]? = some xs[j]:=by
  rw[LH,if_pos hm,MI];have:j / n*n+j % n=j:=by rw[Nat.mul_comm];exact hd
  rw[this];exact K6 hj
 exact Lm this
theorem Dq{xs ys:List Value}{a i:Nat}(hx:xs.length=a*n):((xs++ys).drop (i*n)).take n=if i<a then(xs.drop (i*n)).take n else(ys.drop ((i-a)*n)).take n:=by
 split
 ·rename_i h;have h1:i*n+n<=a*n:=by rw[<-Nat.succ_mul];exact KX _ h
  rw[Lx (by omega),Ln (by simp;omega)]
 rename_i h;have h1:a*n<=i*n:=KX _ (by omega);have h2:(i-a)*n=i*n-a*n:=Nat.sub_mul ..;rw[ME,K9 (by omega),Lr,hx,h2]
variable{P:Program}{ty:TypeId}{bytes:Nat}{y:Operand}{us:List (Nat × Value)}{K:Value->Heap->Prop}
theorem eu{t:TypeId}{z:Value}{x:Operand}{u:Value}{l2:List α}(hT:fe P t e (Rep.n α) bytes z)(hx:asg us x=v)(hy:asg us y=u)(ho:OwnT W h e v l)(hs:SrcT (vw h) W u l2)(hb:(l.length+l2.length)*bytes<=140737488355328)(hb2:l.length+l2.length<=140737488355328)(hk : ∀v' h',OwnT W h' e v' (l++l2)->kD h h' v v'->K v' h'):step P (.call ⟨.builtin .append,#[x,y],#[t,t]⟩) ty us h K:=by
 obtain⟨hbd,xs,h1,h2⟩:=ho;obtain⟨a,c,rfl,hnil,news,h3,h4,h5⟩:=hs;refine dq (cr fun w hw=>?_);subst hw;have hflat : ∀u∈news,u.oneCell'=true:=AK h3 fun i hi=>Rep.flat (h5 i hi);obtain⟨v',w',g1,g2,g3,g4,g5⟩:=AM hT (ty:=ty) h1 h3 (fun ad ha j u hu=>h4 ad ha j u hu) (c:=c) (fun ha=>by rw[hnil ha];rfl) hflat hb hb2;refine⟨v',w',?_,g2,hk v' w'.heap ⟨by simpa using hb2,xs++news,by simpa using g3,fun i hi=>?_⟩ ⟨g4,g5⟩⟩
 ·simp only[bD,execOp];simp[resolve,invoke,builtin,hx,hy,g1]
 rw[Dq h1.1];split
 ·rename_i hlt;rw[M5 hlt];exact h2 i hlt
 rename_i hge;rw[NQ (by omega)];exact h5 (i-l.length) (by simp at hi;omega)
variable{H:View}
theorem SlRd.src{K:View}(s:SlRd H v l)(hk:H.le K):SrcT K H v l:=by
 obtain⟨a,cap,rfl,h1,h2,h3⟩:=s;rcases h3 with rfl | ⟨ad,rfl,hs,hat⟩
 ·exact⟨a,cap,rfl,fun _=>rfl,[],by simp,fun _ _ j x hx=>by simp at hx,fun i hi=>by simp at hi⟩
 refine⟨some ad,cap,rfl,(fun h=>by cases h),?_⟩;cases hl:l with
 | nil=>exact⟨[],by simp,fun _ _ j x hx=>by simp at hx,fun i hi=>by simp at hi⟩
 | cons d0 l0=>
  rw[<-hl];have hpos:0<l.length:=by rw[hl];simp
  obtain⟨cs0,⟨c,T,fz,_,hb,_⟩,_⟩:=hat 0 hpos;have hblk:H ad.block=some (.cells c T fz):=by rw[bw hs]at hb;exact hb
  have hcs : ∀(i:Nat) (hi:i<l.length),Rep.rd H ((c.toList.drop (ad.off+i*Rep.n α)).take (Rep.n α)) l[i]:=by intro i hi;obtain⟨cs,⟨c',T',fz',_,hb',he⟩,hr⟩:=hat i hi;rw[bw hs]at hb' he;simp only at hb' he;rw[hblk]at hb';cases hb';rw[Rep.len hr]at he;rw[he];exact hr
  have htot:ad.off+l.length*Rep.n α<=c.toList.length:=by
   have:=Rep.len (hcs (l.length-1) (by omega));have hn:=Rep.pos (α:=α);simp only[Lp,K7]at this;have e1:l.length*Rep.n α=(l.length-1)*Rep.n α+Rep.n α:=by rw[<-Nat.succ_mul];congr 1;omega
   omega
  refine⟨(c.toList.drop ad.off).take (l.length*Rep.n α),?_,?_,?_⟩
  ·simp only[Lp,K7];omega
  ·intro ad' e j x hx;cases e;have hj:j<l.length*Rep.n α:=by
    rcases KB j (l.length*Rep.n α)with h | h
    ·exact h
    rw[K8 (by simp;omega)]at hx;cases hx
   rw[LH,if_pos hj,MI]at hx;rw[bw hs];simp only[aj,hk _ _ hblk];simpa using hx
  intro i hi;have h1:i*Rep.n α+Rep.n α<=l.length*Rep.n α:=by rw[<-Nat.succ_mul];exact KX _ hi
  rw[LM,LN,MD,LO (by omega)];exact hcs i hi
variable{V:View}
theorem OwnT.rd(o:OwnT W h e v l)(hw:W.le V)(hv : ∀b,v.ownBlock=some b->V b=h[b]?):SlRd V v l:=by
 obtain⟨hbd,xs,⟨hx,hown⟩,hel⟩:=o;rcases hown with⟨rfl,hn⟩ | ⟨g,cap,cur,rfl,hg,h1,h2,h3,h4⟩
 ·have:l=[]:=KN hn;subst this;exact⟨none,0,rfl,by simp,by simp,.inl rfl⟩
 refine⟨some ⟨g,0,none⟩,cap,rfl,h1,hbd,.inr ⟨_,rfl,rfl,fun i hi=>?_⟩⟩;refine⟨(xs.drop (i*Rep.n α)).take (Rep.n α),⟨cur,e,(0,0),?_,?_,?_⟩,Rep.mono hw (hel i hi)⟩
 ·rw[bw rfl]
 ·rw[bw rfl];rw[hv g rfl];exact hg
 rw[bw rfl,Rep.len (hel i hi)];have hle:i*Rep.n α+Rep.n α<=l.length*Rep.n α:=by rw[<-Nat.succ_mul];exact KX _ hi
 rw[<-h4,LM,LN];simp only[LG];rw[LO (by omega)]
theorem OwnT.fresh {h0:Heap} (o:OwnT W h e v l) (hW:W.le (fresh h0 h)) (ha:Av (vw h0) v):SlRd (Lft.fresh h0 h) v l:=by
 refine o.rd hW fun b hb=>?_;have:=ha b hb;simp only[vw]at this;have hge:h0.size<=b:=by
  rcases KB b h0.size with h | h
  ·simp[h]at this
  exact h
 simp only[Lft.fresh,if_neg (N7.2 hge)]
theorem mb{t:TypeId}{z:Value}{x:Operand}{u:Value}{d:α}(hT:fe P t e (Rep.n α) bytes z)(hx:asg us x=u)(hr:Rd W u d)(hk : ∀u' h',SrcT (vw h') W u' [d]->(vw h).le (vw h')->h'.size=h.size+1->K u' h'):step P (.buildSlice t 1 #[(0,x)]) ty us h K:=by
 have hTT:=hT;obtain⟨ht,⟨i,hi,hz,hsize,hby⟩,hzs,hsz,hsmall⟩:=hT;have hcells:Rep.rd W u.cells.toList d/\u.cells.size=Rep.n α:=by
  unfold Rd at hr;split at hr
  ·obtain⟨cs,rfl,h⟩:=hr;exact⟨h,by rw[<-Rep.len h];rfl⟩
  rename_i ha;have hone:=Rep.one (α:=α) (by simpa using ha);have hfl:=Rep.flat hr u (by simp);have:u.cells = #[u]:=by cases u<;>first | rfl | simp[Value.oneCell']at hfl
  rw[this];exact⟨by simpa using hr,by simp[hone]⟩
 have hfill:Instr.fill (fun j=>some (j*Rep.n α,Rep.n α)) ((Array.range (1*Rep.n α)).map (z.cells[· % z.cells.size]!)) [(0,u)]=some u.cells:=by
  have hlen : ∀(A:Array Value) (cs:Array Value),A.size=cs.size->cs.zipIdx.foldl (fun cs' (p:Value × Nat)=>cs'.setIfInBounds (0+p.2) p.1) A=cs:=by
   intro A cs hA;have key : ∀(l:List Value) (k:Nat) (B:Array Value),B.size=k+l.length->((l.zipIdx k).foldl (fun cs' (p:Value × Nat)=>cs'.setIfInBounds (0+p.2) p.1) B).toList=B.toList.take k++l:=by
    intro l;induction l with
    | nil=>intro k B hB;simp at hB;simp only[List.zipIdx_nil,List.foldl_nil,L2];rw[KG (by simp[hB])]
    | cons y l ih=>
     intro k B hB;simp only[Nt,K1];rw[ih (k+1) _ (by simp at hB ⊢;omega)];simp only[LG,NH];have hk:k<B.toList.length:=by simp at hB ⊢;omega
     rw[KM (by simpa using hk)];simp[NA]
   rw[<-Array.toList_inj,<-Array.foldl_toList,Array.toList_zipIdx];have:=key cs.toList 0 A (by simpa using hA);simpa using this
  simp only[Instr.fill,MV,LG,Array.size_map,Array.size_range,NS,hcells.2,ne_eq,not_true,decide_false,N6,gt_iff_lt,Nat.lt_irrefl];simp only[LB,if_false];congr 1;have:=hlen ((Array.range (Rep.n α)).map (z.cells[· % z.cells.size]!)) u.cells (by simp[hcells.2]);simpa using this
 refine nG ht hi hz hsize (by omega) (vs:=[(0,u)]) (by simp[hx]) hfill (hk _ _ ?_ (bM _ _) (by simp));refine⟨some ⟨h.size,0,none⟩,1,rfl,(fun h=>by cases h),u.cells.toList,by simp[hcells.2],?_,?_⟩
 ·intro ad e j x hx;cases e;rw[bw rfl];simp only[aj,vw,M6];simpa using hx
 intro i hi';simp only[Lw,M8,LG,Nat.lt_one_iff]at hi';subst hi';have:(u.cells.toList.take (Rep.n α))=u.cells.toList:=by rw[KG];simp[hcells.2]
 simpa[this]using hcells.1
theorem mV{t:TypeId}{z:Value}{x:Operand}{k:IntKind}{d:α}(hT:fe P t e (Rep.n α) bytes z)(hx:asg us x = .int k n)(hy:asg us y = .int k n)(hr:Rep.rd W z.cells.toList d)(hb:bytes*n<=140737488355328)(hb2:n<=140737488355328)(hk : ∀v' h',OwnT W h' e v' (List.replicate n d)->kD h h' (.slice none 0 0) v'->(vw h).le (vw h')->v'.ownBlock=some h.size->K v' h'):step P (.makeSlice t x y) ty us h K:=by
 obtain⟨ht,⟨i,hi,hz,hsize,hby⟩,hzs,hsz,hsmall⟩:=hT;refine dq (cr fun w hw=>?_);subst hw;have hrun:=run_make (P:=P) w t e i z ht hi hz k k (n:Int) (n:Int) (by omega) (Nd _) (by
  rw[hby];have:((bytes*n:Nat):Int)<=281474976710656:=by omega
  rwa [Int.natCast_mul]at this) (by omega);simp only[KT]at hrun;refine⟨.slice (some ⟨w.heap.size,0,none⟩) n n,w.alloc (.cells (madeCells z.cells (n*i.size)) e),?_,ic _ _,hk _ _ ?_ ⟨Kept.push _ _ _,.inr rfl⟩ (bM _ _) rfl⟩
 ·simp only[bD,execOp,hx,hy];simp[hrun]
 refine⟨by simpa using hb2,((madeCells z.cells (n*Rep.n α)).toList.take (n*Rep.n α)),⟨by simp[size_madeCells],.inr ⟨w.heap.size,n,madeCells z.cells (n*Rep.n α),by simp,?_,by simp,by simp only[maxLen];omega,by simp[size_madeCells],by simp⟩⟩,?_⟩
 ·rw[hsize];exact heap_alloc_new w _
 intro j hj;simp only[Ls]at hj;have he:((((madeCells z.cells (n*Rep.n α)).toList.take (n*Rep.n α)).drop (j*Rep.n α)).take (Rep.n α))=z.cells.toList:=by
  have h1:j*Rep.n α+Rep.n α<=n*Rep.n α:=by rw[<-Nat.succ_mul];exact KX _ hj
  refine LU ?_ fun m hm1 hm2=>?_
  ·simp[size_madeCells,hzs];omega
  simp only[Lp,K7]at hm1;simp only[List.getElem_take,Ni,madeCells,Array.toList_map,List.getElem_map,Array.toList_range,List.getElem_range];have hm:m<z.cells.size:=by simpa using hm2
  have hmod:(j*Rep.n α+m) % z.cells.size=m:=by rw[hzs,Nat.mul_comm,Nat.mul_add_mod];exact Nat.mod_eq_of_lt (by omega)
  rw[hmod];simp[hm]
 rw[he];simpa using hr
theorem rm{t:TypeId}{x:Operand}{i:Nat}{u:Value}{d:α}(hsz:dp P t=some (Rep.n α))(hx:asg us x = .pointer (some ((slA v).add (i*Rep.n α))))(hy:asg us y=u)(ho:OwnT W h e v l)(hi:i<l.length)(hr:Rd W u d)(hk : ∀h',OwnT W h' e v (l.set i d)->kD h h' v v->K undef h'):step P (.store t x y) ty us h K:=by
 have hcells:Rep.rd W u.cells.toList d/\u.cells.size=Rep.n α:=by
  unfold Rd at hr;split at hr
  ·obtain⟨cs,rfl,h⟩:=hr;exact⟨h,by rw[<-Rep.len h];rfl⟩
  rename_i ha;have hone:=Rep.one (α:=α) (by simpa using ha);have hfl:=Rep.flat hr u (by simp);have:u.cells = #[u]:=by cases u<;>first | rfl | simp[Value.oneCell']at hfl
  rw[this];exact⟨by simpa using hr,by simp[hone]⟩
 obtain⟨hbd,xs,⟨hxl,hown⟩,hel⟩:=ho;refine dq (oX fun w hw=>?_);subst hw;rcases hown with⟨rfl,hn⟩ | ⟨g,cap,cur,rfl,hg,h1,h2,h3,h4⟩
 ·omega
 have hle:i*Rep.n α+Rep.n α<=l.length*Rep.n α:=by rw[<-Nat.succ_mul];exact KX _ hi
 have hcap:l.length*Rep.n α<=cap*Rep.n α:=KX _ h1;have hlen:u.cells.toList.length=Rep.n α:=by simpa using hcells.2
 have hrun:=run_storeCells_at P g (i*Rep.n α) e u.cells.toList 0 cur w hg (by simp only[Nat.add_zero];omega) (fun c hc=>Rep.flat hcells.1 c hc);have hadd:(slA (.slice (some ⟨g,0,none⟩) l.length cap)).add (i*Rep.n α)=⟨g,i*Rep.n α,none⟩:=by show(⟨g,0,none⟩:Addr).add _=_;rw[bw rfl];simp
 have hszr:=run_sizeOf (P:=P) (w:=w) hsz;obtain⟨row,hrow⟩ : ∃row:Array Value,row.toList=cur.toList.take (i*Rep.n α)++u.cells.toList++cur.toList.drop (i*Rep.n α+Rep.n α):=⟨(cur.toList.take (i*Rep.n α)++u.cells.toList++cur.toList.drop (i*Rep.n α+Rep.n α)).toArray,rfl⟩;have hrun':Sem.run P (storeCells ⟨g,i*Rep.n α,none⟩ u.cells.toList) w = .ok () (w.setRow g row):=by rw[hrun];congr 2;rw[<-Array.toList_inj,hrow,hlen];rfl
 have hrsz:row.size=cap*Rep.n α:=by have:=congrArg List.length hrow;simp only[MC,KK,Lp,K7,hcells.2]at this;omega
 refine⟨w.setRow g row,?_,Same.pV rfl rfl rfl (by simp) hg (by simp) (fun k _ hne=>setRow_other w g k _ (fun e=>hne e)),hk (w.setRow g row).heap ⟨by simpa using hbd,xs.take (i*Rep.n α)++u.cells.toList++xs.drop (i*Rep.n α+Rep.n α),⟨?_,.inr ⟨g,cap,row,by simp,setRow_heap w g cur row e _ hg,by simpa using h1,h2,?_,?_⟩⟩,?_⟩ ⟨⟨by simp,fun k hk hne=>setRow_other w g k _ (fun e=>hne (by simp[Value.ownBlock,e]))⟩,.inl rfl⟩⟩
 ·simp only[bD,execOp,hx,hy,hadd];simp[Instr.storeAt,Instr.sureAddr,storeVar,hszr,hcells.2,hrun']
 ·simp only[KK,Lp,K7,hlen,KZ];omega
 ·exact hrsz
 ·simp only[KZ];rw[hrow,<-h4,LN,LO (by omega),KL,KL];have e1:(cur.toList.take (i*Rep.n α)).length=i*Rep.n α:=by simp;omega
  rw[LV,e1,KG (by omega)];congr 1;rw[LV,hlen,KG (by omega)];congr 1;rw[LM];congr 1;omega
 intro j hj;simp only[KZ]at hj;have hjle:j*Rep.n α+Rep.n α<=l.length*Rep.n α:=by rw[<-Nat.succ_mul];exact KX _ hj
 have e1:(xs.take (i*Rep.n α)).length=i*Rep.n α:=by simp;omega
 by_cases hij:i=j
 ·subst hij;rw[KL,ME,e1,K9 (by omega),Lr,NB,LW,Ln (by omega),KG (by omega)];simpa using hcells.1
 have hset:(l.set i d)[j]'(by simpa using hj)=l[j]:=by simp[hij]
 rw[hset];have:((xs.take (i*Rep.n α)++u.cells.toList++xs.drop (i*Rep.n α+Rep.n α)).drop (j*Rep.n α)).take (Rep.n α)=(xs.drop (j*Rep.n α)).take (Rep.n α):=by
  rcases KB j i with hlt | hge
  ·have h5:j*Rep.n α+Rep.n α<=i*Rep.n α:=by rw[<-Nat.succ_mul];exact KX _ hlt
   rw[KL,Lx (by omega),Ln (by simp;omega),LM,LN,LO (by omega)]
  have h5:i*Rep.n α+Rep.n α<=j*Rep.n α:=by rw[<-Nat.succ_mul];exact KX _ (by omega)
  have e2:(xs.take (i*Rep.n α)++u.cells.toList).length=i*Rep.n α+Rep.n α:=by rw[KK,e1,hlen]
  rw[ME,K9 (by omega),Lr,e2,MD];congr 2;omega
 rw[this];exact hel j hj
end
end
section
variable {po po2 po3:OP} {pp:PP}
def up {β:Type} (f:Nat->β->β):Nat->β->β
 | 0,x=>x
 | k+1,x=>f k (up f k x)
def Old (V:View) (h0:Heap) (W:View):Prop:=∀b o,b<h0.size->W b=some o->V b=some o
theorem Old.refl(V:View)(h0:Heap):Old V h0 V:=fun _ _ _ h=>h
theorem Old.nothing (V:View) (h0:Heap):Old V h0 nothing:=fun _ _ _ h=>by cases h
theorem Old.grow {V W:View} {h0 h1 h2:Heap} (o:Old V h0 W) (hs:h0.size<=h1.size):Old V h0 (grow W h1 h2):=fun b x hb hx=>by unfold Lft.grow at hx;rw[if_pos (by omega)]at hx;exact o b x hb hx
theorem Old.le {V W:View} {h0 h:Heap} (o:Old V h0 W) (hw:W.le (vw h)):W.le (Lft.grow V h0 h):=fun b x hx=>by
 unfold Lft.grow;split
 ·exact o b x (by assumption) hx
 exact hw b x hx
variable{H:View}
@[simp] theorem bs:nothing.le H:=fun _ _ h=>by cases h
theorem DP(h h':Heap):fresh h h'=Lft.grow nothing h h':=by funext b;unfold fresh Lft.grow;rfl
section
variable {α:Type} [Rep α] {V W:View} {h0 h h':Heap} {e:TypeId} {v:Value} {l:List α}
theorem OwnT.lt(o:OwnT W h e v l){b:Nat}(hb:v.ownBlock=some b):b<h.size:=by
 obtain⟨_,xs,⟨_,hown⟩,_⟩:=o;rcases hown with⟨rfl,_⟩ | ⟨g,cap,cur,rfl,hg,_⟩
 ·simp[Value.ownBlock]at hb
 simp only[Value.ownBlock,Kx]at hb;subst hb;exact(KC.1 hg).1
theorem OwnT.now(o:OwnT W h e v l)(hw:W.le (vw h)):SlRd (vw h) v l:=o.rd hw fun _ _=>rfl
theorem OwnT.grown(o:OwnT W h e v l)(hw:W.le (vw h))(ho:Old V h0 W)(ha:Av (vw h0) v):SlRd (Lft.grow V h0 h) v l:=by
 refine o.rd (ho.le hw) fun b hb=>?_;have:=ha b hb;simp only[vw]at this;have hge:h0.size<=b:=by
  rcases KB b h0.size with h | h
  ·simp[h]at this
  exact h
 simp only[Lft.grow,if_neg (N7.2 hge)]
theorem Av.grow (ha:Av W v) (hl : ∀b,v.ownBlock=some b->b<h.size):Av (Lft.grow W h h') v:=fun b hb=>by unfold Lft.grow;rw[if_pos (hl b hb)];exact ha b hb
structure Mine (V:View) (h0 h:Heap) (W:View) (e:TypeId) (v:Value) (l:List α):Prop where
 old:(vw h0).le (vw h)
 wle:W.le (vw h)
 av:Av W v
 av0:Av (vw h0) v
 agree:Old V h0 W
 own:OwnT W h e v l
theorem Mine.start(hV:V.le (vw h)):Mine (α:=α) V h h V e (.slice none 0 0) []:=
 ⟨View.le_refl _,hV,Av.nil _ _ _,Av.nil _ _ _,Old.refl _ _,OwnT.nil ..⟩
theorem Mine.ext (m:Mine V h0 h W e v l) (k:(vw h).le (vw h')):Mine V h0 h' (Lft.grow W h h') e v l:=
 ⟨View.le_trans m.old k,kM (View.le_trans m.wle k),m.av.grow fun _ hb=>m.own.lt hb,m.av0,m.agree.grow (bW m.old),(m.own.ext k).mono (bO m.wle)⟩
theorem Mine.ext'(m:Mine V h0 h W e v l)(k:(vw h).le (vw h')):Mine V h0 h' W e v l:=
 ⟨View.le_trans m.old k,View.le_trans m.wle k,m.av,m.av0,m.agree,m.own.ext k⟩
theorem Mine.result(m:Mine V h0 h W e v l):SlRd (Lft.grow V h0 h) v l:=m.own.grown m.wle m.agree m.av0
theorem Mine.fresh (m:Mine nothing h0 h W e v l):SlRd (Lft.fresh h0 h) v l:=by rw[DP];exact m.result
theorem Mine.now (m:Mine V h0 h W e v l):SlRd (vw h) v l:=m.own.now m.wle
theorem Mine.jo{v':Value}{l':List α}(m:Mine V h0 h W e v l)(o:OwnT W h' e v' l')(k:kD h h' v v'):Mine V h0 h' W e v' l':=
 let ⟨a1,a2⟩:=k.view m.wle m.av
 let ⟨b1,b2⟩:=k.view m.old m.av0
 ⟨b1,a1,a2,b2,m.agree,o⟩
variable{P:Program}{ty ty2:TypeId}{bytes:Nat}{y:Operand}{us:List (Nat × Value)}{us2:Value->List (Nat × Value)}
theorem Mine.push{t:TypeId}{z:Value}{x y2:Operand}{u:Value}{d:α}{K:Value->Value->Heap->Prop}(m:Mine V h0 h W e v l)(hT:fe P t e (Rep.n α) bytes z)(hx:asg us x=u)(hr:Rd W u d)(hb:(l.length+1)*bytes<=140737488355328)(hb2:l.length+1<=140737488355328)(hy : ∀u,asg (us2 u) y=v)(hy2 : ∀u,asg (us2 u) y2=u)(hk : ∀u v' h',Mine V h0 h' W e v' (l++[d])->K u v' h'):
  @step po P (.buildSlice t 1 #[(0,x)]) ty us h fun u h2=>@step po2 P (.call ⟨.builtin .append,#[y,y2],#[t,t]⟩) ty2 (us2 u) h2 fun v' h3=>K u v' h3:=by refine mb hT hx hr fun u h2 hs hle _=>?_;have m2:=m.ext' hle;exact eu hT (hy u) (hy2 u) m2.own hs hb hb2 fun v' h3 ho hm=>hk u v' h3 (m2.jo ho hm)
variable{n:Nat}{K:Value->Heap->Prop}
theorem Mine.made{t:TypeId}{z:Value}{x:Operand}{k:IntKind}{d:α}(hT:fe P t e (Rep.n α) bytes z)(hle:(vw h0).le (vw h))(hW:W.le (vw h))(ho:Old V h0 W)(hx:asg us x = .int k n)(hy:asg us y = .int k n)(hr:Rep.rd W z.cells.toList d)(hb:bytes*n<=140737488355328)(hb2:n<=140737488355328)(hk : ∀v' h',Mine V h0 h' W e v' (List.replicate n d)->(vw h).le (vw h')->v'.ownBlock=some h.size->K v' h'):step P (.makeSlice t x y) ty us h K:=
 mV hT hx hy hr hb hb2 fun v' h' ow mv le hb=>hk v' h' ⟨View.le_trans hle le,View.le_trans hW le,fun b hb'=>by rw[hb]at hb';cases hb';exact View.cM hW (Kz _),fun b hb'=>by rw[hb]at hb';cases hb';exact View.cM hle (Kz _),ho,ow⟩ le hb
theorem Mine.put{t:TypeId}{x:Operand}{i:Nat}{u:Value}{d:α}(m:Mine V h0 h W e v l)(hsz:dp P t=some (Rep.n α))(hx:asg us x = .pointer (some ((slA v).add (i*Rep.n α))))(hy:asg us y=u)(hi:i<l.length)(hr:Rd W u d)(hk : ∀h',Mine V h0 h' W e v (l.set i d)->K undef h'):step P (.store t x y) ty us h K:=
 rm hsz hx hy m.own hi hr fun h' ho hm=>hk h' (m.jo ho hm)
theorem Mine.put1{t:TypeId}{x:Operand}{i:Nat}{u:Value}{d:α}(m:Mine V h0 h W e v l)(hsz:dp P t=some (Rep.n α))(hn:Rep.n α=1)(hx:asg us x = .pointer (some ((slA v).add i)))(hy:asg us y=u)(hi:i<l.length)(hr:Rd W u d)(hk : ∀h',Mine V h0 h' W e v (l.set i d)->K undef h'):step P (.store t x y) ty us h K:=
 m.put hsz (i:=i) (by rw[hn,Lq];exact hx) hy hi hr hk
end
variable{β:Type}
theorem Cj{f:Nat->List β->List β}{m:Nat}(hf : ∀k x,(f k x).length<=x.length+m)(n:Nat)(x:List β):(up f n x).length<=x.length+n*m:=by
 induction n with
 | zero=>simp[up]
 | succ n ih=>have:=hf n (up f n x);rw[up,Lv];omega
def sift {β:Type} (p:Nat->Bool) (x:Nat->β) (n:Nat):List β:=up (fun b l=>if p b then l++[x b] else l) n []
theorem oe{p:Nat->Bool}{x:Nat->β}(n:Nat):(sift p x n).length<=n:=by have:=Cj (f:=fun b l=>if p b then l++[x b] else l) (m:=1) (fun k x=>by split<;>simp) n [];simpa[sift]using this
variable{n:Nat}
theorem mJ{p:Nat->Bool}{x:Nat->β}(h:p n=true):sift p x (n+1)=sift p x n++[x n]:=by rw[sift,up,if_pos h];rfl
theorem ll{p:Nat->Bool}{x:Nat->β}(h:p n=false):sift p x (n+1)=sift p x n:=by rw[sift,up,if_neg (by simp[h])];rfl
def rows {β:Type} (x:Nat->β) (n:Nat):List β:=(List.range n).map x
theorem ft{x:Nat->β}:rows x (n+1)=rows x n++[x n]:=by simp[rows,MM]
@[simp] theorem mj{x:Nat->β}:(rows x n).length=n:=by simp[rows]
@[simp] theorem IU{x:Nat->β}:rows x 0=[]:=rfl
@[simp] theorem I8{p:Nat->Bool}{x:Nat->β}:sift p x 0=[]:=rfl
theorem oH{p:Nat->Bool}{x:Nat->β}:sift p x n=((List.range n).filter p).map x:=by
 induction n with
 | zero=>rfl
 | succ n ih=>
  rw[MM,NI,MK,<-ih];cases h:p n with
  | true=>rw[mJ h];simp[h]
  | false=>rw[ll h];simp[h]
theorem vk{x:Nat->β}{d:β}{k:Nat}(hk:k<n):(rows x k++List.replicate (n-k) d).set k (x k)=rows x (k+1)++List.replicate (n-(k+1)) d:=by
 have e:n-k=(n-(k+1))+1:=by omega
 rw[List.set_append_right _ _ (by simp),mj,NB,e,List.replicate_succ,List.set_cons_zero,ft,KL];rfl
theorem gm[Inhabited β]{x:Nat->β}{i:Nat}(h:i<n):nth (rows x n) i=x i:=by rw[az (by simpa using h)];simp[rows]
theorem uv{h h1 h2:Heap}(hle:(vw h).le (vw h1)):(fresh h1 h2).le (fresh h h2):=fun b o hb=>by
 have:=bW hle;unfold fresh at hb ⊢;split at hb
 ·cases hb
 rw[if_neg (by omega)];exact hb
variable{P:Program}{bytes:Nat}
theorem gC{t e size:Nat}{z:Value}(ht:P.underlying t=some (.slice e))(h:(P.info? e).map (fun i=>(i.zero,i.size,i.bytes))=some (some z,size,bytes))(hz:z.cells.size=size)(hs:0<size/\size<=1000):fe P t e size bytes z:=by simp only[KA,LP]at h;obtain⟨i,h1,h2,h3,h4⟩:=h;exact⟨ht,⟨i,h1,h2,h3,h4⟩,hz,hs.1,hs.2⟩
theorem nY{a:Int}(h0:-9223372036854775808<=a)(h1:a<=9223372036854775807):Rd H (.int .i64 a) a:=bC.2 ⟨rfl,h0,h1⟩
theorem Iw{b:Bool}:Rd H (.bool b) b:=tq.2 rfl
end
section
variable {po:OP} {pp:PP}
variable{ρ:Env}
theorem ah{ts:List Nat}{u:Nat}:look (ck ρ ts) u=if ts.contains u then none else look ρ u:=by
 induction ρ with
 | nil=>simp
 | cons p ρ ih=>
  obtain⟨k,x⟩:=p;rw[lu];by_cases hk:ts.contains k=true
  ·simp only[hk,if_true,ih,rP];split
   ·rfl
   rename_i h;split
   ·rename_i e;subst e;exact absurd hk h
   rfl
  rw[if_neg hk,rP,rP,ih];by_cases h1:k=u
  ·subst h1;rw[if_pos rfl,if_pos rfl,if_neg hk]
  rw[if_neg h1,if_neg h1]
theorem mA {ρ ρ':Env} : ∀{ks:List Nat},(∀t∈ks,look ρ t=look ρ' t)->bF ks ρ=bF ks ρ'
 | [],_=>rfl
 | k::ks,h=>by have ih:bF ks ρ=bF ks ρ':=mA fun t ht=>h t (KJ _ ht);simp only[bF,h k KI,ih]
theorem my{ts:List Nat}(h : ∀p∈ρ,ts.contains p.1=false):ck ρ ts=ρ:=by
 induction ρ with
 | nil=>rfl
 | cons p ρ ih=>obtain⟨k,x⟩:=p;have h1:=h (k,x) KI;simp only at h1;rw[lu,h1,if_neg (by simp),ih (fun p hp=>h p (KJ _ hp))]
theorem nh{t:Nat}{v:Value}(h : ∀p∈ρ,p.1≠t):ck (setE ρ t v) [t]=ρ:=by
 have hid:ck ρ [t]=ρ:=my fun p hp=>by simpa using fun e=>h p hp e
 induction ρ with
 | nil=>simp[setE]
 | cons p ρ ih=>
  obtain⟨k,x⟩:=p;have hk:=h (k,x) KI;simp only at hk;have hid2:ck ρ [t]=ρ:=my fun p hp=>by simpa using fun e=>h p (KJ _ hp) e
  simp only[setE,if_neg hk];split
  ·rw[lu,if_pos (by simp),hid]
  rw[lu,if_neg (by simpa using hk),ih (fun p hp=>h p (KJ _ hp)) hid2]
theorem lJ{X Y:Env->Heap->Prop}{R:Post}:eU X (eU Y R)=eU X R:=by funext e ρ h;cases e<;>rfl
abbrev forL (a i c:Nat) (ks ks2:List Nat) (bound:E) (body:LC):LC:=
 .loop (.seq (.seq (.reg false (.fin ks [(c,.bin (.cmp .lss) (.tmp i) bound)] [])) (.cond (.tmp c) [c] .skip (.exit a)))
  (.seq body (.reg false (.fin ks2 [(i,.bin (.arith .add) (.tmp i) (.con (.int .i64 1)))] []))))
def sJ (kp ks ks2:List Nat) (c i:Nat):Bool:=kp.all fun t=>!ks.contains t&&t != c&&(t == i||!ks2.contains t)
theorem zip_fst{kp:List Nat}{vs:List Value}{p:Nat × Value}(h:p∈kp.zip vs):p.1∈kp:=(List.of_mem_zip h).1
variable{P:Program}{Q:Post}{body:LC}
theorem dI{h:Heap}{a i c:Nat}{ks ks2:List Nat}{bound:E}{σ:Type}(kp:List Nat)(vals:σ->Nat->List Value)(J:σ->Nat->Heap->Prop)(n:Nat)(s0:σ)(hok:sJ kp ks ks2 c i=true)(hn:n<=9223372036854775806)(h0:bF kp ρ=kp.zip (vals s0 0))(hj:J s0 0 h)(hi : ∀s k,look (kp.zip (vals s k)) i=some (.int .i64 k))(hb : ∀s k h,k<=n->J s k h->ev (look (kp.zip (vals s k))) (vw h) bound=some (.int .i64 n))(round : ∀s k h,k<n->J s k h->∀K:Env->Heap->Prop,(∀s' ρ' h',look ρ' i=some (.int .i64 k)->bF kp (setE ρ' i (.int .i64 ((k:Int)+1)))=kp.zip (vals s' (k+1))->J s' (k+1) h'->K ρ' h')->body.wp P (eU K (eY a Q)) (kp.zip (vals s k)) h)(done : ∀s h,J s n h->Q .normal (kp.zip (vals s n)) h):LC.wp P (forL a i c ks ks2 bound body) (eY a Q) ρ h:=by
 simp only[sJ,Lo,KE,L7,bne_iff_ne,Lt,beq_iff_eq,ne_eq]at hok;refine iV kp (fun m ρ h=>∃s k,k<=n/\ρ=kp.zip (vals s k)/\m=n-k/\J s k h) n ⟨s0,0,by omega,h0,by omega,hj⟩ ?_;rintro m ρ h ⟨s,k,hk,rfl,rfl,hJ⟩ K hK;have hkill:ck (kp.zip (vals s k)) ks=kp.zip (vals s k):=my fun p hp=>(hok p.1 (zip_fst hp)).1.1;have hne : ∀p∈kp.zip (vals s k),p.1≠c:=fun p hp=>(hok p.1 (zip_fst hp)).1.2
 have hk2 : ∀v,ck (setE (kp.zip (vals s k)) c v) [c]=kp.zip (vals s k):=fun v=>nh hne;have hlk : ∀v,look (setE (kp.zip (vals s k)) c v) c=some v:=fun v=>by rw[ag,if_pos rfl]
 simp only[tg,lT,jt,gE,kv,lL,kY,nT,hi,hb s k h hk hJ,KS,Fs,jK,lP,true_and,dD,hkill,fU,mB,hlk,kT,hk2,qP,qG,nj,nf,if_true];refine⟨fun hlt=>?_,fun hge=>?_⟩
 ·have hlt':k<n:=by omega
  rw[lJ];refine round s k h hlt' hJ _ fun s' ρ' h' hl he hJ'=>?_;simp only[lT,jt,gE,kv,lL,kY,nT,hl,lP,true_and,KS,yg,KS,xP,jK,dD,fU,true_and];rw[bE (by omega) (by omega)];refine hK (n-(k+1)) _ _ (by omega) ⟨s',k+1,by omega,?_,rfl,hJ'⟩;rw[<-he];refine mA fun t ht=>?_;rw[ag,ag,ah];split
  ·rfl
  rename_i hti;rcases(hok t ht).2 with e | e
  ·exact absurd e.symm hti
  rw[e];rfl
 have:k=n:=by omega
 subst this;exact done s h hJ
abbrev forR (a i c:Nat) (ks ks2:List Nat) (bound:E) (body:LC):LC:=
 .loop (.seq (.reg false (.fin ks [(c,.bin (.cmp .lss) (.tmp i) bound)] [])) (.seq (.cond (.tmp c) [c] .skip (.exit a))
  (.seq body (.reg false (.fin ks2 [(i,.bin (.arith .add) (.tmp i) (.con (.int .i64 1)))] [])))))
theorem aJ{h:Heap}{a i c:Nat}{ks ks2:List Nat}{bound:E}{σ:Type}(kp:List Nat)(vals:σ->Nat->List Value)(J:σ->Nat->Heap->Prop)(n:Nat)(s0:σ)(hok:sJ kp ks ks2 c i=true)(hn:n<=9223372036854775806)(h0:bF kp ρ=kp.zip (vals s0 0))(hj:J s0 0 h)(hi : ∀s k,look (kp.zip (vals s k)) i=some (.int .i64 k))(hb : ∀s k h,k<=n->J s k h->ev (look (kp.zip (vals s k))) (vw h) bound=some (.int .i64 n))(round : ∀s k h,k<n->J s k h->∀K:Env->Heap->Prop,(∀s' ρ' h',look ρ' i=some (.int .i64 k)->bF kp (setE ρ' i (.int .i64 ((k:Int)+1)))=kp.zip (vals s' (k+1))->J s' (k+1) h'->K ρ' h')->body.wp P (eU K (eY a Q)) (kp.zip (vals s k)) h)(done : ∀s h,J s n h->Q .normal (kp.zip (vals s n)) h):LC.wp P (forR a i c ks ks2 bound body) (eY a Q) ρ h:=by
 simp only[sJ,Lo,KE,L7,bne_iff_ne,Lt,beq_iff_eq,ne_eq]at hok;refine iV kp (fun m ρ h=>∃s k,k<=n/\ρ=kp.zip (vals s k)/\m=n-k/\J s k h) n ⟨s0,0,by omega,h0,by omega,hj⟩ ?_;rintro m ρ h ⟨s,k,hk,rfl,rfl,hJ⟩ K hK;have hkill:ck (kp.zip (vals s k)) ks=kp.zip (vals s k):=my fun p hp=>(hok p.1 (zip_fst hp)).1.1;have hne : ∀p∈kp.zip (vals s k),p.1≠c:=fun p hp=>(hok p.1 (zip_fst hp)).1.2
 have hk2 : ∀v,ck (setE (kp.zip (vals s k)) c v) [c]=kp.zip (vals s k):=fun v=>nh hne;have hlk : ∀v,look (setE (kp.zip (vals s k)) c v) c=some v:=fun v=>by rw[ag,if_pos rfl]
 simp only[tg,lT,jt,gE,kv,lL,kY,nT,hi,hb s k h hk hJ,KS,Fs,jK,lP,true_and,dD,hkill,fU,mB,hlk,kT,hk2,qP,qG,nj,nf,if_true];refine⟨fun hlt=>?_,fun hge=>?_⟩
 ·have hlt':k<n:=by omega
  rw[lJ];refine round s k h hlt' hJ _ fun s' ρ' h' hl he hJ'=>?_;simp only[lT,jt,gE,kv,lL,kY,nT,hl,lP,true_and,KS,yg,KS,xP,jK,dD,fU,true_and];rw[bE (by omega) (by omega)];refine hK (n-(k+1)) _ _ (by omega) ⟨s',k+1,by omega,?_,rfl,hJ'⟩;rw[<-he];refine mA fun t ht=>?_;rw[ag,ag,ah];split
  ·rfl
  rename_i hti;rcases(hok t ht).2 with e | e
  ·exact absurd e.symm hti
  rw[e];rfl
 have:k=n:=by omega
 subst this;exact done s h hJ
theorem aS{h:Heap}{r:Reg}(H:View)(hH:H.le (vw h))(hw:eJ P (some H) r (Q .normal) ρ h):LC.wp P (.reg true r) Q ρ h:=⟨H,View.uD hH,ju (fun _ _=>View.uD) hw⟩
theorem CL{h:Heap}{r:Reg}(H:View)(hH:H.sub (vw h))(hw:cJ View.sub P (some H) r (Q .normal) ρ h):LC.wp P (.reg true r) Q ρ h:=⟨H,hH,hw⟩
end
section
variable {po po2 po3:OP} {pp:PP}
variable{b n:Nat}
@[simp] theorem JO{o:Nat}:(⟨b,o,none⟩:Addr).add n=⟨b,o+n,none⟩:=bw rfl n
variable{H:View}
@[simp] theorem I9{a:Addr}:Un.ev H .nilPtr (.pointer (some a))=some (.pointer (some a)):=rfl
@[simp] theorem Kq{a:Addr}{o:Nat}:Un.ev H (.fld o) (.pointer (some a))=some (.pointer (some (a.add o))):=rfl
@[simp] theorem JR{k q:IntKind}{a:Int}:Un.ev H (.conv k) (.int q a)=some (.int k (k.wrap a)):=rfl
variable{cs:Array Value}
@[simp] theorem JX{o:Nat}:Un.ev H (.part o) (.agg cs)=cs[o]?:=rfl
@[simp] theorem JF{o:Nat}:Un.ev H (.parts o n) (.agg cs)=some (.agg (cs.extract o (o+n))):=rfl
@[simp] theorem J4{o:Nat}:Un.ev H (.ext o) (.tuple cs)=cs[o]?:=rfl
def G9:Value->Value->Option Value
 | .tuple vs,u=>some (.tuple (vs.push u))
 | _,_=>none
@[simp] theorem HH{vs:Array Value}{u:Value}:G9 (.tuple vs) u=some (.tuple (vs.push u)):=rfl
@[simp] theorem HP{σ:Nat->Option Value}{x y:E}:ev σ H (.snoc x y)=(ev σ H x).bind fun v=>(ev σ H y).bind fun u=>G9 v u:=by
 simp only[ev];cases hx:ev σ H x with
 | none=>rfl
 | some v=>
  cases hy:ev σ H y with
  | none=>cases v<;>rfl
  | some u=>cases v<;>rfl
@[simp] theorem Ku{f:Nat}{vs:Array Value}:Un.ev H (.fn f) (.tuple vs)=some (.func (.func f) #[] vs):=rfl
@[simp] theorem IS:(Value.agg cs).cells=cs:=rfl
@[simp] theorem HA{a:Option Addr}{c:Nat}:(Value.slice a n c).cells = #[.slice a n c]:=rfl
@[simp] theorem I4{k:IntKind}{n:Int}:(Value.int k n).cells = #[.int k n]:=rfl
@[simp] theorem H7{b:Bool}:(Value.bool b).cells = #[.bool b]:=rfl
@[simp] theorem FE{a:Option Addr}:(Value.pointer a).cells = #[.pointer a]:=rfl
def Bl (P:Program) (t:TypeId):Option (List (Nat × Nat)):=
 match P.underlying t with
 | some (.struct fields)=>fields.toList.mapM fun f=>(dp P f.type).map fun n=>(f.offset,n)
 | some (.array k e)=>(dp P e).map fun n=>(List.range k).map fun i=>(i*n,n)
 | _=>none
section
variable {P:Program} {ty:TypeId} {us:List (Nat × Value)} {h:Heap} {K:Value->Heap->Prop}
theorem wJ {f g:Nat->Option (Nat × Nat)} (hfg : ∀i p,f i=some p->g i=some p) : ∀{vs:List (Nat × Value)} {c cs:Array Value},Instr.fill f c vs=some cs->Instr.fill g c vs=some cs
 | [],c,cs,h=>h
 | (i,v)::vs,c,cs,h=>by
  simp only[Instr.fill]at h ⊢;split at h
  ·cases h
  rename_i off size hi;rw[hfg i _ hi];simp only;split at h
  ·cases h
  rename_i hc;rw[if_neg hc];exact wJ hfg h
theorem run_places {w:World} : ∀{fs:List Field} {ps:List (Nat × Nat)},(fs.mapM fun f=>(dp P f.type).map fun n=>(f.offset,n))=some ps->
  (fs.mapM fun(f:Field)=>Prod.mk f.offset <$> sizeOf f.type).run P w=Result.ok ps w
 | [],ps,h=>by simp at h;subst h;simp
 | f::fs,ps,h=>by simp only[N3,Option.bind_eq_bind,KH,KA]at h;obtain⟨p,⟨n,hn,rfl⟩,ps',h2,h3⟩:=h;simp only[Option.pure_def,Kx]at h3;subst h3;have ih:=run_places (w:=w) h2;simp[N3,Sem.run_bind,run_sizeOf hn,ih]
theorem aq{t:TypeId}{ps:Array (Nat × Operand)}{vs:List (Nat × Value)}{z:Value}{places:List (Nat × Nat)}(hz:(P.info? t).map (·.zero)=some (some z))(hpl:Bl P t=some places)(hp:ps.map (fun p=>(p.1,asg us p.2))=vs.toArray)(hf:Instr.fill (places[·]?) z.cells vs=some cs)(hk:K (.agg cs) h):step P (.build t ps) ty us h K:=by
 refine dq (cr fun w hw=>⟨.agg cs,w,?_,Same.refl _,by rw[hw];exact hk⟩);have hp':(ps.map fun x=>match x with | (i,x)=>(i,asg us x))=vs.toArray:=hp;simp only[KA]at hz;obtain⟨i,hi,hz⟩:=hz;simp only[bD,execOp,hp'];unfold Bl at hpl;split at hpl
 ·rename_i fields hu;have hr:=run_places (P:=P) (w:=w) hpl;have hr2:(fields.mapM fun(f:Field)=>Prod.mk f.offset <$> sizeOf f.type).run P w=Result.ok places.toArray w:=by rw[NP];simp only[Sem.run_map];erw [hr];rfl
  have hf':Instr.fill (places.toArray[·]?) z.cells vs=some cs:=by simpa using hf
  simp[Instr.build,zeroValue,typeInfo,hi,hz,run_underlying hu,hr2,hf',hf]
 ·rename_i k e hu;simp only[KA]at hpl;obtain⟨n,hn,rfl⟩:=hpl;have hf':=wJ (g:=fun i=>some (i*n,n)) (fun i p hp=>by
   simp only[L8,KA]at hp;obtain⟨j,hj,rfl⟩:=hp;rcases KB i k with hlt | hge
   ·rw[List.getElem?_range hlt]at hj;cases hj;rfl
   rw[K8 (by simpa using hge)]at hj;cases hj) hf;simp[Instr.build,zeroValue,typeInfo,hi,hz,run_underlying hu,run_sizeOf hn,hf']
 cases hpl
variable{bytes:Nat}
theorem qp{t e:TypeId}{size:Nat}{z:Value}{ps:Array (Nat × Operand)}{vs:List (Nat × Value)}(hT:fe P t e size bytes z)(hn:n*size<=16777216)(hp:ps.map (fun p=>(p.1,asg us p.2))=vs.toArray)(hf:Instr.fill (fun j=>some (j*size,size)) ((Array.range (n*size)).map (z.cells[· % z.cells.size]!)) vs=some cs)(hk:K (.slice (some ⟨h.size,0,none⟩) n n) (h.push (.cells cs e))):step P (.buildSlice t n ps) ty us h K:=by obtain⟨ht,⟨i,hi,hz,hsize,hby⟩,_⟩:=hT;exact nG ht hi hz hsize hn hp hf hk
theorem dS{t:TypeId}{z:Value}(hz:(P.info? t).map (·.zero)=some (some z))(hk:K (.pointer (some ⟨h.size,0,none⟩)) (h.push (.cells z.cells t))):step P (.alloc t) ty us h K:=by simp only[KA]at hz;obtain⟨i,hi,hz⟩:=hz;refine dq (cr fun w hw=>?_);subst hw;refine⟨_,w.alloc (.cells z.cells t),?_,ic _ _,hk⟩;simp only[bD,execOp];simp[Instr.alloc,zeroValue,typeInfo,hi,hz,newVar,newRow]
theorem dy{t:TypeId}{x:Operand}{v:Value}(hx:asg us x=v)(hk:K (.pointer (some ⟨h.size,0,none⟩)) (h.push (.cells v.cells t))):step P (.box t x) ty us h K:=by refine dq (cr fun w hw=>?_);subst hw;refine⟨_,w.alloc (.cells v.cells t),?_,ic _ _,hk⟩;simp only[bD,execOp];simp[Instr.box,hx,newVar,newRow]
variable{y:Operand}
theorem eX{t e:TypeId}{g o:Nat}{x:Operand}{v:Value}{cur:Array Value}(hsz:dp P t=some n)(hx:asg us x = .pointer (some ⟨g,o,none⟩))(hy:asg us y=v)(hv:v.cells.size=n)(h1 : ∀c∈v.cells.toList,c.oneCell'=true)(hg:h[g]? = some (.cells cur e (0,0)))(hfit:o+n<=cur.size)(hk : ∀h':Heap,h'.size=h.size->(∃row:Array Value,h'[g]? = some (.cells row e (0,0))/\row.toList=cur.toList.take o++v.cells.toList++cur.toList.drop (o+n))->(∀k,k≠g->h'[k]? = h[k]?)->K undef h'):step P (.store t x y) ty us h K:=by
 refine dq (oX fun w hw=>?_);subst hw;have hlen:v.cells.toList.length=n:=by simpa using hv
 have hrun:=run_storeCells_at P g o e v.cells.toList 0 cur w hg (by simp only[Nat.add_zero];omega) h1;obtain⟨row,hrow⟩ : ∃row:Array Value,row.toList=cur.toList.take o++v.cells.toList++cur.toList.drop (o+n):=⟨(cur.toList.take o++v.cells.toList++cur.toList.drop (o+n)).toArray,rfl⟩;have hrun':Sem.run P (storeCells ⟨g,o,none⟩ v.cells.toList) w = .ok () (w.setRow g row):=by rw[hrun];congr 2;rw[<-Array.toList_inj,hrow,hlen];rfl
 refine⟨w.setRow g row,?_,Same.pV rfl rfl rfl (by simp) hg (by simp) (fun k _ hne=>setRow_other w g k _ (fun e=>hne e)),hk _ (by simp) ⟨row,setRow_heap w g cur row e _ hg,hrow⟩ fun k hne=>setRow_other w g k _ (fun e=>hne e)⟩;simp only[bD,execOp,hx,hy];simp[Instr.storeAt,Instr.sureAddr,storeVar,run_sizeOf (P:=P) (w:=w) hsz,hv,hrun']
variable{ty2:TypeId}{us2:Value->List (Nat × Value)}
theorem rV{t:TypeId}{z:Value}{x:Operand}{v:Value}{K:Value->Heap->Prop}(hz:(P.info? t).map (·.zero)=some (some z))(hzc:z.cells.size=1)(hsz:dp P t=some 1)(hv:v.cells = #[v])(hone:v.oneCell'=true)(hx : ∀p,asg (us2 p) x=p)(hy : ∀p,asg (us2 p) y=v)(hk : ∀h':Heap,(vw h).le (vw h')->h'.size=h.size+1->h'[h.size]? = some (.cells #[v] t (0,0))->K (.pointer (some ⟨h.size,0,none⟩)) h'):
  @step po P (.alloc t) ty us h fun p h2=>@step po2 P (.store t x y) ty2 (us2 p) h2 fun _ h3=>K p h3:=by
 refine dS hz ?_;refine eX (g:=h.size) (o:=0) (n:=1) (v:=v) (cur:=z.cells) (e:=t) hsz (hx _) (hy _) (by rw[hv];rfl) (by rw[hv];simpa using hone) (by simp) (by omega) fun h' hs ⟨row,hrow,he⟩ hoth=>?_;have hrow2:row = #[v]:=by rw[<-Array.toList_inj,he,hv];simp only[MR,Lr,LG];rw[K9 (by simp[hzc])];rfl
 rw[hrow2]at hrow;refine hk h' (fun b o hb=>?_) (by rw[hs];simp) hrow;have hlt:=View.lt (View.le_refl (vw h)) hb;show h'[b]? = _;rw[hoth b (by omega)];exact bM _ _ b o hb
variable{caps:Array Value}
theorem bI{f:FuncId}{t:Nat}{ops:List Operand}{T:Array TypeId}(hf:asg us (.tmp t) = .func (.func f) #[] caps){R:Value->Heap->Prop}(hfn:isFn P f=true)(hc:aw P f (ops.map (asg us)++caps.toList).toArray h R)(hk : ∀v h',R v h'->K v h'):step P (.call ⟨.value (.tmp t),ops.toArray,T⟩) ty us h K:=by
 refine dq (qg (R:=R) (f:=f) (args:=(ops.map (asg us)++caps.toList).toArray) (fun w _=>?_) hc hk);unfold isFn at hfn;cases hfn':P.funcs[f]? with
 | none=>simp[hfn']at hfn
 | some fn=>simp only[hfn',KE,bne_iff_ne,ne_eq]at hfn;obtain⟨h1,h2⟩:=hfn;simp[bD,execOp,resolve,Deferred.ofValue,hf,invoke,callFunc,program,Sem.run,hfn',h1,Option.isNone];cases hb:fn.body<;>simp[hb]at h2 ⊢
theorem AP{e:TypeId}{w:World}{a b:Int}{ki:IntKind}(he:P.underlying e=some (.int ki)):(Op.equalIn (n+1) e (.int ki a) (.int ki b)).run P w = .ok (a == b) w:=by simp[Op.equalIn,run_underlying he]
theorem vZ{e:TypeId}{w:World}{o:Nat}{v:Value}(ha:mc P e=some false)(hv:cs[o]? = some v):(Go.part e cs o).run P w = .ok v w:=by simp[Go.part,mM ha,hv]
theorem zJ{t e:TypeId}{w:World}{a b c d:Int}{ki:IntKind}(hu:P.underlying t=some (.array 2 e))(he:P.underlying e=some (.int ki))(hs:dp P e=some 1)(ha:mc P e=some false):
  (Op.equal t (.agg #[.int ki a,.int ki b]) (.agg #[.int ki c,.int ki d])).run P w = .ok (a == c&&b == d) w:=by
 simp only[dp,KA]at hs;obtain⟨i,hi,hs⟩:=hs;have hc:P.cellsOf e=1:=by simp[Program.cellsOf,hi,hs]
 show(Op.equalIn (9999+1) t _ _).run P w=_;rw[run_equalIn_array (P:=P) (w:=w) (d:=9999) (xs:=_) (ys:=_) hu hi,hc];have p0 : ∀{x y:Int},(Go.part e #[.int ki x,.int ki y] 0).run P w = .ok (.int ki x) w:=vZ ha rfl;have p1 : ∀{x y:Int},(Go.part e #[.int ki x,.int ki y] 1).run P w = .ok (.int ki y) w:=vZ ha rfl;simp[MM,Op.eqItems,p0,p1,AP he];by_cases h1:a=c<;>by_cases h2:b=d<;>simp[h1,h2]
end
instance:Rep (Int × Int) where
 n:=2
 agg:=true
 rd:=fun _ cs d=>cs=[.int .i64 d.1,.int .i64 d.2]/\(-9223372036854775808<=d.1/\d.1<=9223372036854775807)/\-9223372036854775808<=d.2/\d.2<=9223372036854775807
 mono:=fun _ h=>h
 len:=fun h=>by rw[h.1];rfl
 one:=fun h=>by cases h
 flat:=fun h u hu=>by rw[h.1]at hu;simp at hu;rcases hu with rfl | rfl<;>rfl
 pos:=by decide
 fG:=fun h=>h
theorem oV{v:Value}{d:Int × Int}:Rd H v d↔v = .agg #[.int .i64 d.1,.int .i64 d.2]/\(-9223372036854775808<=d.1/\d.1<=9223372036854775807)/\-9223372036854775808<=d.2/\d.2<=9223372036854775807:=by
 simp only[Rd,Rep.agg,Rep.rd,if_true];constructor
 ·rintro⟨cs,rfl,h1,h2⟩;refine⟨?_,h2⟩;congr 1;rw[<-Array.toList_inj,h1]
 rintro⟨rfl,h2⟩;exact⟨_,rfl,rfl,h2⟩
variable{α:Type}
theorem SlRd.idxn[Rep α]{v:Value}{l:List α}(h:SlRd H v l){N:Nat}(hn:Rep.n α=N){k:IntKind}{i:Int}(h0:0<=i)(h1:i<l.length):Bn.ev (.idx N) v (.int k i)=some (.pointer (some ((slA v).add (i.toNat*N)))):=by have:=h.idx (k:=k) h0 h1;rw[hn]at this;exact this
theorem SlRd.Bk{K:View}{v:Value}{l:List (Int × Int)}(h:SlRd H v l)(hk:H.le K){i:Nat}(hi:i<l.length):aj K (((slA v).add (i*2)).add 0)=some (.int .i64 (nth l i).1)/\aj K (((slA v).add (i*2)).add 1)=some (.int .i64 (nth l i).2):=by obtain⟨cs,h1,h2⟩:=(h.at hi).mono hk;rw[az hi];obtain⟨e,_⟩:=h2;subst e;exact⟨gu h1 (i:=0) rfl,gu h1 (i:=1) rfl⟩
end
section
variable {po po2 po3:OP} {pp:PP}
variable{P:Program}{K:Value->Heap->Prop}
theorem Az{s:Sem Next}{l:Nat}{vs:List Value}{h:Heap}{R:Bool->Heap->Prop}(hs : ∀w:World,w.heap=h->s.run P w=(Instr.yield l vs.toArray).run P w)(hy:AA P l vs h R)(hk : ∀b h',R b h'->K (.bool b) h'):gM P s h K:=by intro w hw r o a K' Q' hK hQ;obtain⟨f,tmps,asg,body,h1,h2⟩:=hy w hw;rw[hs w hw,h1];simp only[Oper.uponIn];have h3:RoundIn (Fw r) 0 P l f tmps asg body w _:=h2;refine⟨fun h=>by simp[Fw,Fence.wide]at h,h3.mono ?_⟩;rintro e w' ⟨b,rfl,hR,hsame⟩;exact hK _ w' (hk _ _ hR) hsame
variable{ty:TypeId}{us:List (Nat × Value)}
theorem DT{t l:Nat}{ops:List Operand}{T:Array TypeId}{h:Heap}(hf:asg us (.tmp t) = .func (.yield l) #[] #[]){R:Bool->Heap->Prop}(hy:AA P l (ops.map (asg us)) h R)(hk : ∀b h',R b h'->K (.bool b) h'):step P (.call ⟨.value (.tmp t),ops.toArray,T⟩) ty us h K:=by refine dq (Az (l:=l) (vs:=ops.map (asg us)) (fun w _=>?_) hy hk);simp[bD,execOp,resolve,Deferred.ofValue,hf,invoke]
variable{β:Type}{body:LC}{Q:Post}{ρ:Env}
theorem Ad{enc:β->List Value}{g:E}{ps:List Nat}{asg:LC}{h:Heap}{gf:Nat}{caps:List Value}{all:List β}{A:β->Env}(V W0:View)(I:Option Exit->Nat->View->Heap->Prop)(hg:ev (look ρ) (vw h) g=some (.func (.func gf) #[] caps.toArray))(hf:isFn P gf=true)(hi:Iter P gf caps V (all.map enc))(hl : ∀x,(enc x).length=ps.length)(hV:V.le W0)(hI : ∀e k,nv h.size (I e k))(h0:I none 0 W0 h)(hasg : ∀x h1,@LC.wp noPP P asg (fun e ρ1 h2=>e = .normal/\h2=h1/\ρ1=A x) (dD ρ (ps.zip (enc x))) h1)(round : ∀k x W h1,(∀b,b<h.size->W b=W0 b)->all[k]? = some x->I none k W h1->∀K:Post,(∀ρ2 h3,I none (k+1) W h3->K .normal ρ2 h3)->(∀e ρ2 h3,e≠.normal->I (some e) (k+1) W h3->K e ρ2 h3)->@LC.wp noPP P body K (A x) h1)(done : ∀W h1,(∀b,b<h.size->W b=W0 b)->I none all.length W h1->Q .normal ρ h1)(left : ∀e k W h1,(∀b,b<h.size->W b=W0 b)->I (some e) k W h1->Q e ρ h1):LC.wp P (.rangef g ps asg body) Q ρ h:=by
 refine⟨gf,caps,V,W0,all.map enc,I,fun k=>match all[k]? with | some x=>A x | none=>[],hg,hf,hi,fun vs hvs=>?_,hV,hI,h0,fun k vs W h1 ha hk hIk=>?_,fun W h1 a b=>done W h1 a (by simpa using b),fun e k W h1 _ _=>left e k W h1⟩
 ·obtain⟨x,_,rfl⟩:=LF.1 hvs;exact hl x
 rw[L8,KA]at hk;obtain⟨x,hk,rfl⟩:=hk;simp only[hk];refine⟨hasg x h1,round k x W h1 ha hk hIk _ (fun ρ2 h3 hh=>hh) fun e ρ2 h3 hne hh=>?_⟩;cases e<;>first | exact absurd rfl hne | exact hh
theorem SlRd.drop {α:Type} [Rep α] {H:View} {v:Value} {l:List α} (h:SlRd H v l) {n:Nat} (hn:n<=l.length) {kd:IntKind} : ∃u,Bn.ev (.lo (Rep.n α)) v (.int kd n)=some u/\SlRd H u (l.drop n):=by
 obtain⟨a,cap,rfl,h1,h2,h3⟩:=h;refine⟨.slice (if cap=n then a else a.map (·.add (n*Rep.n α))) (l.length-n) (cap-n),by simp[Bn.ev,vL,vI,hn],if cap=n then a else a.map (·.add (n*Rep.n α)),cap-n,?_,?_,?_,?_⟩
 ·rw[K7]
 ·rw[K7];omega
 ·rw[K7];omega
 rcases h3 with rfl | ⟨ad,rfl,hs,hat⟩
 ·left;simp
 by_cases hc:cap=n
 ·left;simp;omega
 refine .inr ⟨ad.add (n*Rep.n α),by simp[hc],by rw[bw hs],fun i hi=>?_⟩;rw[K7]at hi;rw[Ni];have:=hat (n+i) (by omega);rw[bw hs]at this ⊢;rw[bw rfl];simpa[MQ,Nat.add_assoc]using this
def but (v:Value) (h:Heap):View:=fun b=>if v.ownBlock=some b then none else h[b]?
theorem DG{v:Value}{h:Heap}:(but v h).le (vw h):=fun b o hb=>by
 unfold but at hb;split at hb
 ·cases hb
 exact hb
theorem IA{v:Value}{h:Heap}:Av (but v h) v:=fun b hb=>by unfold but;rw[if_pos hb]
variable{h':Heap}
theorem zU{v:Value}{h:Heap}(hle:(vw h).le (vw h')):(but v h).le (but v h'):=fun b o hb=>by
 unfold but at *;split at hb
 ·cases hb
 rename_i hne;rw[if_neg hne];exact hle b o hb
variable{V:View}
theorem ID{v:Value}{h:Heap}(hV:V.le (vw h))(ha:Av V v):V.le (but v h):=fun b o hb=>by
 unfold but;split
 ·rename_i e;rw[ha b e]at hb;cases hb
 exact hV b o hb
variable{α:Type}{h0:Heap}{W:View}
theorem Mine.beside[Rep α][Rep β]{h:Heap}{e e1:TypeId}{v2 v1 v1':Value}{l2:List α}{l1':List β}(m2:Mine nothing h0 h nothing e v2 l2)(m1:Mine V h0 h' W e1 v1' l1')(mv:kD h h' v1 v1')(ne:v2.ownBlock=none\/v2.ownBlock≠v1.ownBlock):Mine nothing h0 h' nothing e v2 l2:=
 ⟨m1.old,fun _ _ h=>(by cases h),fun _ _=>rfl,m2.av0,Old.nothing _ _,m2.own.kept mv.kept ne⟩
theorem Mine.over[Rep α]{h:Heap}{e:TypeId}{v:Value}{l:List α}(m:Mine V h0 h nothing e v l):Mine (vw h0) h0 h (but v h) e v l:=
 ⟨m.old,DG,IA,m.av0,fun b o hb hx=>by have h1:=DG b o hx;have h2:h0[b]? = some h0[b]:=KO hb;have h3:h[b]? = some h0[b]:=m.old b _ h2;have h4:h[b]? = some o:=h1;rw[h3]at h4;cases h4;exact h2,m.own.mono (fun _ _ h=>by cases h)⟩
theorem Mine.Jq{h:Heap}{e:TypeId}{v:Value}{l:List Int}(m:Mine V h0 h W e v l):Mine nothing h0 h nothing e v l:=
 ⟨m.old,fun _ _ h=>(by cases h),fun _ _=>rfl,m.av0,Old.nothing _ _,m.own⟩
variable{n:Nat}
theorem H6{a:Addr}{c m:Nat}{k:IntKind}{i:Int}(h0:0<=i)(h1:i<n):Bn.ev (.idx m) (.slice (some a) n c) (.int k i)=some (.pointer (some (a.add (i.toNat*m)))):=by simp[Bn.ev,vL,vI,h0,h1]
theorem Gv{a:Addr}{c:Nat}{k:IntKind}{i:Int}(h0:0<=i)(h1:i<n):Bn.ev (.idx 1) (.slice (some a) n c) (.int k i)=some (.pointer (some (a.add i.toNat))):=by rw[H6 h0 h1,Lq]
variable{H:View}{b:Nat}
theorem dc{o:Nat}{c:Array Value}{T:TypeId}{fz:Nat × Nat}{v:Value}(h:H b=some (.cells c T fz))(hv:c[o]? = some v):aj H ⟨b,o,none⟩=some v:=by simp[aj,h,hv]
theorem SlRd.cells {α:Type} [Rep α] {H:View} {v:Value} {l:List α} (h:SlRd H v l):v.cells = #[v]/\v.oneCell'=true:=by obtain⟨a,cap,rfl,_⟩:=h;exact⟨rfl,rfl⟩
theorem nJ.ext{h0 h h':Heap}(hs:nJ h0.size h h')(hle:(vw h0).le (vw h)):(vw h0).le (vw h'):=fun b o hb=>by have hlt:=View.lt (View.le_refl (vw h0)) hb;show h'[b]? = _;rw[hs.same b (.inl hlt)];exact hle b o hb
theorem nJ.ko{h:Heap}(hs:nJ h0.size h h'):(fresh h0 h).fG.le (fresh h0 h'):=fun b o hb=>by
 have h1:=View.Es _ _ hb;have h2 : ∀x,o≠.deferred x:=by intro x e;subst e;unfold View.fG at hb;split at hb<;>cases hb
 unfold fresh at h1 ⊢;split at h1
 ·cases h1
 rename_i hge;rw[if_neg hge,hs.same b (.inr ?_)]
 ·exact h1
 rw[h1];intro e;exact h2 _ (Option.some.inj e)
theorem nJ.rd[Rep α]{h:Heap}{v:Value}{l:List α}(hs:nJ h0.size h h')(hr:SlRd (fresh h0 h) v l):SlRd (fresh h0 h') v l:=
 eE.1 ((eE.2 hr).fG.mono hs.ko)
theorem ir{h:Heap}(hb:b<h.size):grow W h h' b=W b:=by unfold grow;rw[if_pos hb]
theorem nv.grown{J:View->Heap->Prop}(hJ:nv n J){h:Heap}(hj:J W h)(hn:n<=h.size)(hle:(vw h).le (vw h')):J (grow W h h') h':=
 hJ.move hj (fun b hb=>ir (by omega)) (kM (View.le_trans (hJ.le hj) hle)) (fun b hb hlt=>⟨(rX hle).block b hlt (by simp),by rw[ir hlt];exact hb⟩) (bW hle)
variable{bytes:Nat}{y:Operand}
theorem Ee{t e:TypeId}{z:Value}{x:Operand}{h:Heap}{k:IntKind}(hT:fe P t e 1 bytes z)(hx:asg us x = .int k n)(hy:asg us y = .int k n)(hz1:z.cells = #[z])(hb:bytes*n<=140737488355328)(hb2:n<=140737488355328)(hk:K (.slice (some ⟨h.size,0,none⟩) n n) (h.push (.cells (List.replicate n z).toArray e))):step P (.makeSlice t x y) ty us h K:=by
 obtain⟨ht,⟨i,hi,hz,hsize,hby⟩,hzs,hsz,hsmall⟩:=hT;refine dq (cr fun w hw=>?_);subst hw;have hrun:=run_make (P:=P) w t e i z ht hi hz k k (n:Int) (n:Int) (by omega) (Nd _) (by
  rw[hby];have:((bytes*n:Nat):Int)<=281474976710656:=by omega
  rwa [Int.natCast_mul]at this) (by omega);simp only[KT,hsize,Lq]at hrun
 have hm:madeCells z.cells n=(List.replicate n z).toArray:=by
  rw[hz1];apply Array.ext
  ·simp[madeCells]
  intro j h1 h2;simp[madeCells,Nat.mod_one]
 rw[hm]at hrun;refine⟨_,w.alloc (.cells (List.replicate n z).toArray e),?_,ic _ _,hk⟩;simp only[bD,execOp,hx,hy];simp[hrun]
theorem OwnT.same[Rep α]{h:Heap}{e:TypeId}{v:Value}{l:List α}(o:OwnT W h e v l)(hb : ∀b,v.ownBlock=some b->h'[b]? = h[b]?):OwnT W h' e v l:=by
 obtain⟨bd,xs,⟨h1,h2⟩,h3⟩:=o;refine⟨bd,xs,⟨h1,?_⟩,h3⟩;rcases h2 with h2 | ⟨g,cap,cur,rfl,hg,h4⟩
 ·exact .inl h2
 exact .inr ⟨g,cap,cur,rfl,(hb g rfl).trans hg,h4⟩
structure Rw {α:Type} [Rep α] (W:View) (h:Heap) (ot e:TypeId) (g:Nat) (rv:List Value) (ls:List (List α)):Prop where
 wle:W.le (vw h)
 wg:W g=none
 blk:h[g]? = some (.cells rv.toArray ot (0,0))
 len:rv.length=ls.length
 own : ∀i,i<ls.length->OwnT nothing h e (nth rv i) (nth ls i)
 av : ∀i,i<ls.length->Av W (nth rv i)
 ng : ∀i,i<ls.length->(nth rv i).ownBlock≠some g
 dj : ∀i j,i<ls.length->j<ls.length->i≠j->(nth rv i).ownBlock=none\/(nth rv i).ownBlock≠(nth rv j).ownBlock
section
variable {α:Type} [Rep α] {W:View} {h h':Heap} {ot e:TypeId} {g:Nat} {rv:List Value} {ls:List (List α)}
theorem Rw.lt(r:Rw W h ot e g rv ls):g<h.size:=(KC.1 r.blk).1
theorem aB[Inhabited β]{i:Nat}{x:β}(hi:i<n):nth (List.replicate n x) i=x:=by rw[az (by simpa using hi)];simp
theorem Rw.start(hW:W.le (vw h))(hg:W g=none)(hb:h[g]? = some (.cells (List.replicate n (.slice none 0 0)).toArray ot (0,0))):Rw (α:=α) W h ot e g (List.replicate n (.slice none 0 0)) (List.replicate n []):=
 ⟨hW,hg,hb,by simp,fun i hi=>by rw[aB (by simpa using hi),aB (by simpa using hi)];exact OwnT.nil ..,fun i hi=>by rw[aB (by simpa using hi)];exact Av.nil _ _ _,
  fun i hi=>by rw[aB (by simpa using hi)];simp[Value.ownBlock],fun i j hi hj _=>by rw[aB (by simpa using hi)];exact .inl rfl⟩
theorem Rw.move(r:Rw W h ot e g rv ls){W':View}(h1:W'.le (vw h'))(h2 : ∀b,W b=none->b<h.size->h'[b]? = h[b]?/\W' b=none):Rw W' h' ot e g rv ls:=
 {wle:=h1,wg:=(h2 g r.wg r.lt).2,blk:=(h2 g r.wg r.lt).1.trans r.blk,len:=r.len,ng:=r.ng,dj:=r.dj
  own:=fun i hi=>(r.own i hi).same fun b hb=>(h2 b (r.av i hi b hb) ((r.own i hi).lt hb)).1
  av:=fun i hi b hb=>(h2 b (r.av i hi b hb) ((r.own i hi).lt hb)).2 }
theorem Rw.ext(r:Rw W h ot e g rv ls)(hle:(vw h).le (vw h')):Rw W h' ot e g rv ls:=
 r.move (View.le_trans r.wle hle) fun b hb hlt=>⟨(rX hle).block b hlt (by simp),hb⟩
theorem bn[Inhabited β]{l:List β}{i j:Nat}{x:β}(hj:j<l.length):nth (l.set i x) j=if i=j then x else nth l j:=by
 rw[az (by simpa using hj),List.getElem_set];split
 ·rfl
 rw[az hj]
theorem Rw.put{h2 h3:Heap}{i:Nat}{v':Value}{l':List α}(r:Rw W h ot e g rv ls)(hi:i<ls.length)(o:OwnT nothing h2 e v' l')(m:kD h h2 (nth rv i) v')(hb:h3[g]? = some (.cells (rv.set i v').toArray ot (0,0)))(hoth : ∀k,k≠g->h3[k]? = h2[k]?)(hsz:h3.size=h2.size):Rw W h3 ot e g (rv.set i v') (ls.set i l'):=by
 obtain⟨hw',ha'⟩:=m.view r.wle (r.av i hi);have hlt:=r.lt;have ng':v'.ownBlock≠some g:=by
  rcases m.at_ with e | e
  ·rw[e];exact r.ng i hi
  rw[e];intro e2;cases e2;omega
 have hv' : ∀j,j<ls.length->j≠i->(nth rv j).ownBlock=none\/(nth rv j).ownBlock≠v'.ownBlock:=by
  intro j hj hne;rcases m.at_ with e | e
  ·rw[e];exact r.dj j i hj hi hne
  right;rw[e];intro e2;have:=(r.own j hj).lt e2;omega
 have rl:=r.len;refine⟨fun b x hb=>?_,r.wg,hb,by simp[rl],fun j hj=>?_,fun j hj=>?_,fun j hj=>?_,fun j k hj hk hne=>?_⟩
 ·have hne:b≠g:=fun e=>by rw[e,r.wg]at hb;cases hb
  show h3[b]? = _;rw[hoth b hne];exact hw' b x hb
 ·rw[KZ]at hj;rw[bn (by omega),bn hj];split
  ·exact o.same fun b hb=>hoth b (fun e=>ng' (by rw[hb,e]))
  rename_i hne;refine((r.own j hj).kept m.kept (r.dj j i hj hi (fun e=>hne e.symm))).same fun b hb=>hoth b (fun e=>r.ng j hj (by rw[hb,e]))
 ·rw[KZ]at hj;rw[bn (by omega)];split
  ·exact ha'
  exact r.av j hj
 ·rw[KZ]at hj;rw[bn (by omega)];split
  ·exact ng'
  exact r.ng j hj
 rw[KZ]at hj hk;rw[bn (by omega),bn (by omega)];split
 ·rename_i e1;rw[if_neg (by omega)];rcases hv' k hk (by omega)with e | e
  ·rcases hb2:v'.ownBlock with _ | b
   ·exact .inl rfl
   right;rw[e];simp
  exact .inr fun e2=>e e2.symm
 split
 ·rename_i e1 e2;exact hv' j hj (by omega)
 exact r.dj j k hj hk hne
theorem Rw.rd (r:Rw W h ot e g rv ls) {X:View} (hg:X g=h[g]?) (hx : ∀i b,i<ls.length->(nth rv i).ownBlock=some b->X b=h[b]?) (hb:ls.length<=140737488355328):SlRd X (.slice (some ⟨g,0,none⟩) ls.length ls.length) ls:=by
 refine⟨some ⟨g,0,none⟩,ls.length,rfl,Kz _,hb,.inr ⟨_,rfl,rfl,fun i hi=>?_⟩⟩;rw[bw rfl];have hlen:=r.len;refine⟨[nth rv i],⟨rv.toArray,ot,(0,0),rfl,by rw[hg];exact r.blk,?_⟩,nth rv i,rfl,?_⟩
 ·rw[az (by omega)];simp only[LG,show Rep.n (List α)=1 from rfl,Lq,Lw,M8];have hd:rv.drop i=rv[i]::rv.drop (i+1):=KY (by omega);show List.take (0+1) (List.drop i rv)=_;rw[hd];rfl
 rw[<-az hi];exact(r.own i hi).rd (fun _ _ h=>by cases h) (hx i · hi)
theorem Rw.fresh {h0:Heap} (r:Rw W h ot e g rv ls) (h0W:(vw h0).le W) (hb:ls.length<=140737488355328):SlRd (Lft.fresh h0 h) (.slice (some ⟨g,0,none⟩) ls.length ls.length) ls:=by
 have key : ∀b,W b=none->h0.size<=b:=by
  intro b hb;rcases KB b h0.size with hlt | hge
  ·have:=h0W b h0[b] (KO hlt);rw[hb]at this;cases this
  exact hge
 refine r.rd (by unfold Lft.fresh;rw[if_neg (N7.2 (key g r.wg))]) (fun i b hi hbb=>by unfold Lft.fresh;rw[if_neg (N7.2 (key b (r.av i hi b hbb)))]) hb
end
def skip (B:Nat) (h:Heap):View:=fun b=>if b=B then none else h[b]?
variable{B:Nat}
theorem cS{h:Heap}:(skip B h).le (vw h):=fun b o hb=>by
 unfold skip at hb;split at hb
 ·cases hb
 exact hb
theorem lH{h:Heap}(hb:b≠B):skip B h b=h[b]?:=by unfold skip;rw[if_neg hb]
section
variable {α:Type} [Rep α] {W:View} {h h':Heap} {B:Nat} {T e:TypeId} {v:Value} {l:List α}
end
end
section
open Go Go.MapKept
variable {po:OP} {pp:PP}
structure dL (d:TypeDesc) (h:Heap) (r:Nat) (f:Value->Option Value):Prop where
 ex : ∃es clock,h[r]? = some (.map es clock)/\(∀x∈es.toList,IsKey d x.key)/\Stamped es clock/\∀k v,IsKey d k->((∃x∈es.toList,x.key=k/\x.val=v)↔f k=some v)
theorem dL.lt{d:TypeDesc}{h:Heap}{r:Nat}{f:Value->Option Value}(m:dL d h r f):r<h.size:=by obtain⟨es,c,h1,_⟩:=m.ex;exact(KC.1 h1).1
variable{h':Heap}{r:Nat}
theorem dL.same{d:TypeDesc}{h:Heap}{f:Value->Option Value}(m:dL d h r f)(e:h'[r]? = h[r]?):dL d h' r f:=by obtain⟨es,c,h1,h2⟩:=m.ex;exact⟨es,c,by rw[e];exact h1,h2⟩
theorem dL.ext{d:TypeDesc}{h h':Heap}{r:Nat}{f:Value->Option Value}(m:dL d h r f)(hle:(vw h).le (vw h')):dL d h' r f:=by obtain⟨es,c,h1,h2⟩:=m.ex;exact⟨es,c,hle _ _ h1,h2⟩
theorem dL.none {d:TypeDesc} {h:Heap} {r:Nat} (hr:h[r]? = some (.map #[] 0)):dL d h r fun _=>none:=
 ⟨#[],0,hr,by simp,stamped_empty 0,by simp⟩
section
variable {P:Program} {ty:TypeId} {us:List (Nat × Value)} {h:Heap} {K:Value->Heap->Prop} {d:TypeDesc} {r:Nat} {f:Value->Option Value} {t k e:TypeId}
theorem lg(hk:K (.map (some h.size)) (h.push (.map #[] 0))):step P (.makeMap t .none) ty us h K:=by refine dq (cr fun w hw=>?_);subst hw;refine⟨_,w.alloc (.map #[] 0),?_,ic _ _,hk⟩;simp only[bD,execOp];simp[Instr.makeMap,newObj];rfl
variable{y:Operand}
theorem C2{x:Operand}{u z:Value}(ht:P.underlying t=some (.map k e))(hd:P.underlying k=some d)(hz:(P.info? e).map (·.zero)=some (some z))(hx:asg us x = .map (some r))(hy:asg us y=u)(hu:IsKey d u)(m:dL d h r f)(hk:K ((f u).getD z) h):step P (.lookup t x y false) ty us h K:=by
 obtain⟨es,c,h1,h2,h3,h4⟩:=m.ex;simp only[KA]at hz;obtain⟨i,hi,hz⟩:=hz;refine dq (cr fun w hw=>⟨_,w,?_,Same.refl _,by rw[hw];exact hk⟩);have hz':(zeroValue e).run P w = .ok z w:=by simp[zeroValue,typeInfo,hi,hz]
 rw[<-hw]at h1;simp only[bD,execOp,hx,hy];rcases findNow_spec hu es.toList 0 h2 with⟨g1,g2⟩ | ⟨j,x,g1,g2,g3⟩
 ·have hf:f u = .none:=by
   cases hfu:f u with
   | none=>rfl
   | some v=>obtain⟨x,hx,e1,_⟩:=(h4 u v hu).2 hfu;exact absurd e1 (g2 x hx)
  simp[Instr.lookup,run_underlying ht,MapKept.run_getObj_map h1,MapKept.run_checkKey hd hu,MapKept.run_findKey hd g1,Result.andThen,hf,hz']
 have hf:f u=some x.val:=(h4 u x.val hu).1 ⟨x,Lm g2,g3,rfl⟩;simp[Instr.lookup,run_underlying ht,MapKept.run_getObj_map h1,MapKept.run_checkKey hd hu,MapKept.run_findKey hd g1,Result.andThen,hf]
theorem AU{w:World}{u v:Value}(ht:P.underlying t=some (.map k e))(hd:P.underlying k=some d)(hu:IsKey d u)(m:dL d w.heap r f)(g:Value->Option Value)(hg:g u=some v)(hg2 : ∀j,j≠u->g j=f j):
  ∃o,(Instr.mapUpdate t (.map (some r)) u v).run P w = .ok () { w with heap:=w.heap.setIfInBounds r o }/\dL d (w.heap.setIfInBounds r o) r g:=by
 obtain⟨es,c,h1,h2,h3,h4⟩:=m.ex;rcases findNow_spec hu es.toList 0 h2 with⟨g1,g2⟩ | ⟨j,x,g1,g2,g3⟩
 ·refine⟨.map (es.push { key:=u,val:=v,born:=c }) (c+1),?_,_,_,(MapKept.heap_set h1).1,?_,stamped_push h3 g2,?_⟩
  ·simp[Instr.mapUpdate,run_underlying ht,MapKept.run_getObj_map h1,MapKept.run_checkKey hd hu,MapKept.run_findKey hd g1,MapKept.run_setObj_map _ h1,Result.andThen]
  ·intro x hx;simp only[Array.toList_push,KD,KF]at hx;rcases hx with hx | rfl
   ·exact h2 x hx
   exact hu
  intro q p hq;constructor
  ·rintro⟨x,hx,e1,e2⟩;simp only[Array.toList_push,KD,KF]at hx;rcases hx with hx | rfl
   ·rw[hg2 q (fun e=>g2 x hx (e1.trans e))];exact(h4 q p hq).1 ⟨x,hx,e1,e2⟩
   simp only at e1 e2;subst e1;subst e2;exact hg
  intro hp;by_cases e:q=u
  ·subst e;rw[hg]at hp;cases hp;exact⟨{ key:=q,val:=v,born:=c },by simp,rfl,rfl⟩
  rw[hg2 q e]at hp;obtain⟨x,hx,e⟩:=(h4 q p hq).2 hp;exact⟨x,by simp[show x∈es from by simpa using hx],e⟩
 have hj:es[j]? = some x:=by simpa using g2
 have hmem:x∈es.toList:=Lm g2;have hlt:j<es.size:=(KC.1 hj).1;have hkeyf : ∀e',es[j]? = some e'->({ e' with key:=u,val:=v }:MapEntry).key=e'.key:=fun e' he'=>by rw[hj]at he';cases he';exact g3.symm
 have hst:Stamped (es.modify j (fun e'=>{ e' with key:=u,val:=v })) c:=stamped_modify h3 _ _ (fun _ _=>rfl) (fun e' _ he'=>hkeyf e' he');have hget : ∀i y,(es.modify j (fun e'=>{ e' with key:=u,val:=v }))[i]? = some y↔(i=j/\y={ x with key:=u,val:=v })\/(i≠j/\es[i]? = some y):=by
  intro i y;rw[Np];by_cases hij:i=j
  ·subst hij;rw[if_pos rfl,hj];simp[eq_comm]
  rw[if_neg (Ne.symm hij)];simp[hij]
 have huniq : ∀i y,es[i]? = some y->y.key=u->i=j:=by
  intro i y hy hk;have hnd:=h3.2.2;have e1:(es.toList.map (·.key))[i]? = some u:=by simp[hy,hk]
  have e2:(es.toList.map (·.key))[j]? = some u:=by simp[hj,g3]
  have hl1:=(MY.1 e1);have hl2:=(MY.1 e2);obtain⟨l1,q1⟩:=hl1;obtain⟨l2,q2⟩:=hl2;exact(List.getElem_inj hnd).1 (q1.trans q2.symm)
 refine⟨.map (es.modify j (fun e'=>{ e' with key:=u,val:=v })) c,?_,_,_,(MapKept.heap_set h1).1,?_,hst,?_⟩
 ·simp[Instr.mapUpdate,run_underlying ht,MapKept.run_getObj_map h1,MapKept.run_checkKey hd hu,MapKept.run_findKey hd g1,hj,g3,MapKept.run_keyThatStays hu,MapKept.run_setObj_map _ h1,Result.andThen]
 ·intro y hy;obtain⟨i,hi⟩:=Nw hy;have hi:(es.modify j (fun e'=>{ e' with key:=u,val:=v }))[i]? = some y:=by rw[LX]at hi;exact hi
  rcases(hget i y).1 hi with⟨_,rfl⟩ | ⟨_,h5⟩
  ·exact hu
  exact h2 y (Lm (by simpa using h5))
 intro q p hq;constructor
 ·rintro⟨y,hy,e1,e2⟩;obtain⟨i,hi⟩:=Nw hy;have hi:(es.modify j (fun e'=>{ e' with key:=u,val:=v }))[i]? = some y:=by rw[LX]at hi;exact hi
  rcases(hget i y).1 hi with⟨_,rfl⟩ | ⟨h6,h5⟩
  ·simp only at e1 e2;subst e1;subst e2;exact hg
  rw[hg2 q (fun e=>h6 (huniq i y h5 (e1.trans e)))];exact(h4 q p hq).1 ⟨y,Lm (by simpa using h5),e1,e2⟩
 intro hp;by_cases hqu:q=u
 ·subst hqu;rw[hg]at hp;cases hp;refine⟨{ x with key:=q,val:=v },Lm (i:=j) ?_,rfl,rfl⟩;rw[LX];exact(hget j { x with key:=q,val:=v }).2 (.inl ⟨rfl,rfl⟩)
 rw[hg2 q hqu]at hp;obtain⟨y,hy,e1,e2⟩:=(h4 q p hq).2 hp;obtain⟨i,hi⟩:=Nw hy;have hi':es[i]? = some y:=by simpa using hi
 refine⟨y,Lm (i:=i) ?_,e1,e2⟩;rw[LX];refine(hget i y).2 (.inr ⟨fun e=>?_,hi'⟩);subst e;rw[hj]at hi';cases hi';exact hqu (e1.symm.trans g3)
theorem jX{x q:Operand}{u v:Value}{op:Op}(hop:op = .mapUpdate t x y q\/op = .insert t x y q)(ht:P.underlying t=some (.map k e))(hd:P.underlying k=some d)(hx:asg us x = .map (some r))(hy:asg us y=u)(hq:asg us q=v)(hu:IsKey d u)(m:dL d h r f)(g:Value->Option Value)(hg:g u=some v)(hg2 : ∀j,j≠u->g j=f j)(hk : ∀h':Heap,h'.size=h.size->(∀b,b≠r->h'[b]? = h[b]?)->dL d h' r g->K undef h'):step P op ty us h K:=by refine dq (oX fun w hw=>?_);subst hw;obtain⟨o,h1,h2⟩:=AU (v:=v) ht hd hu m g hg hg2;obtain⟨es,c,h3,_⟩:=m.ex;have hoth:=(MapKept.heap_set (o':=o) h3).2;refine⟨{ w with heap:=w.heap.setIfInBounds r o },?_,Same.pV rfl rfl rfl (by simp) h3 (by simp) (fun k _ hne=>hoth k hne),hk _ (by simp) hoth h2⟩;rcases hop with rfl | rfl<;>simp only[bD,execOp,hx,hy,hq]<;>simp[h1]
end
def mapI (f:Int->Option Int):Value->Option Value
 | .int .i64 j=>(f j).map (.int .i64)
 | _=>none
@[simp] theorem Jf{f:Int->Option Int}{j:Int}:mapI f (.int .i64 j)=(f j).map (.int .i64):=rfl
def mapB (s:Int->Bool):Value->Option Value
 | .int .i64 j=>if s j then some (.bool true) else none
 | _=>none
@[simp] theorem yC{s:Int->Bool}{j:Int}:mapB s (.int .i64 j)=if s j then some (.bool true) else none:=rfl
theorem fE{j:Int}:IsKey (.int .i64) (.int .i64 j):=rfl
theorem Fz{f g:Int->Bool}{j:Int}(h : ∀i,g i=if i=j then true else f i):mapB g (.int .i64 j)=some (.bool true)/\∀u,u≠.int .i64 j->mapB g u=mapB f u:=by
 refine⟨by simp[h],fun u hu=>?_⟩;cases u<;>try rfl
 rename_i k i;cases k<;>try rfl
 have:i≠j:=fun e=>hu (by rw[e]);simp[h,this]
@[simp] theorem IW{s:Bool}:(if s=true then some (Value.bool true) else .none).getD (.bool false) = .bool s:=by cases s<;>rfl
end
section
variable {po:OP} {pp:PP}
variable{P:Program}{Q:Post}{ρ:Env}
theorem ab{x y:LC}{h:Heap}(hx : ∀z,z=y->LC.wp P x (eU (LC.wp P z Q) Q) ρ h):LC.wp P (.seq x y) Q ρ h:=hx y rfl
variable{ty:TypeId}
theorem wm{k:Bool}{kill:List Nat}{sets args:List (Nat × E)}{grd:Option (E × Bool)}{chk:List E}{tail:Bool}{op:Op}{dst:Option Nat}{keep:Bool}{next:Reg}{h:Heap}(hx : ∀z,z=next->LC.wp P (.reg k (.loud kill sets args grd chk tail op ty dst keep z)) Q ρ h):LC.wp P (.reg k (.loud kill sets args grd chk tail op ty dst keep next)) Q ρ h:=hx next rfl
theorem bo{m:Option View}{kill:List Nat}{sets args:List (Nat × E)}{grd:Option (E × Bool)}{chk:List E}{tail:Bool}{op:Op}{dst:Option Nat}{keep:Bool}{next:Reg}{Q:Env->Heap->Prop}{h:Heap}(hx : ∀z,z=next->eJ P m (.loud kill sets args grd chk tail op ty dst keep z) Q ρ h):eJ P m (.loud kill sets args grd chk tail op ty dst keep next) Q ρ h:=hx next rfl
def ov {α:Type} [Rep α] (X:View):List Value->List α->Prop
 | [],[]=>True
 | v::vs,d::ds=>Rd X v d/\ov X vs ds
 | _,_=>False
theorem ov.len {α:Type} [Rep α] {X:View} : ∀{vs:List Value} {ds:List α},ov X vs ds->vs.length=ds.length
 | [],[],_=>rfl
 | _::_,_::_,h=>by simp[ov.len h.2]
theorem ov.get {α:Type} [Rep α] {X:View} : ∀{vs:List Value} {ds:List α},ov X vs ds->∀(i:Nat) (h1:i<vs.length) (h2:i<ds.length),Rd X vs[i] ds[i]
 | _::_,_::_,h,0,_,_=>h.1
 | _::_,_::_,h,i+1,h1,h2=>h.2.get i _ _
variable{α:Type}
theorem Rd.IH[Rep α]{X:View}{v:Value}{d:α}(ha:Rep.agg α=false)(h:Rd X v d):v.cells = #[v]:=by unfold Rd at h;rw[if_neg (by simp[ha])]at h;have hfl:=Rep.flat h v (by simp);cases v<;>first | rfl | simp[Value.oneCell']at hfl
theorem zX : ∀(vs:List Value) (k:Nat) (A:Array Value),(∀v∈vs,v.cells = #[v])->k+vs.length=A.size->
  ∃B,Instr.fill (fun j=>some (j*1,1)) A ((vs.zipIdx k).map fun p=>(p.2,p.1))=some B/\B.toList=A.toList.take k++vs
 | [],k,A,_,hk=>⟨A,rfl,by simp at hk;rw[KG (by simp[hk])];simp⟩
 | v::vs,k,A,hv,hk=>by
  have hc:=hv v (KI ..);obtain⟨B,h1,h2⟩:=zX vs (k+1) (A.setIfInBounds k v) (fun u hu=>hv u (KJ _ hu)) (by simp at hk ⊢;omega);refine⟨B,?_,?_⟩
  ·simp only[Nt,LK,Instr.fill,hc,Lq];rw[if_neg (by simp at hk ⊢;omega)];simpa using h1
  rw[h2];have hkA:k<A.toList.length:=by simp at hk ⊢;omega
  rw[KM (by simpa using hkA)];simp[NA]
end
structure Cat (α β:Type) where
 a:α
 b:β
instance {α β:Type} [Rep α] [Rep β]:Rep (Cat α β) where
 n:=Rep.n α+Rep.n β
 agg:=true
 rd:=fun H cs d=>∃c1 c2,cs=c1++c2/\Rep.rd H c1 d.a/\Rep.rd H c2 d.b
 mono:=fun hk ⟨c1,c2,h1,h2,h3⟩=>⟨c1,c2,h1,Rep.mono hk h2,Rep.mono hk h3⟩
 len:=fun⟨c1,c2,h1,h2,h3⟩=>by rw[h1,KK,Rep.len h2,Rep.len h3]
 one:=fun h=>by cases h
 flat:=fun⟨c1,c2,h1,h2,h3⟩ u hu=>by
  rw[h1]at hu
  rcases KD.1 hu with hu | hu
  ·exact Rep.flat h2 u hu
  ·exact Rep.flat h3 u hu
 pos:=Nat.add_pos_left Rep.pos _
 fG:=fun⟨c1,c2,h1,h2,h3⟩=>⟨c1,c2,h1,Rep.fG h2,Rep.fG h3⟩
abbrev Rep.via {α γ:Type} [Rep α] (f:γ->α):Rep γ where
 n:=Rep.n α
 agg:=Rep.agg α
 rd:=fun H cs d=>Rep.rd H cs (f d)
 mono:=fun hk h=>Rep.mono hk h
 len:=fun h=>Rep.len h
 one:=fun h=>Rep.one h
 flat:=fun h=>Rep.flat h
 pos:=Rep.pos
 fG:=fun h=>Rep.fG h
theorem At.int {H:View} {a:Addr} {d:Int} (h:At H a d):aj H a=some (.int .i64 d):=by obtain⟨u,h1,h2⟩:=h.load rfl;rw[(bC.1 h2).1]at h1;exact h1
variable{α:Type}{H:View}
theorem At.list[Rep α]{a:Addr}{l:List α}(h:At H a l): ∃v,aj H a=some v/\SlRd H v l:=by obtain⟨u,h1,h2⟩:=h.load rfl;exact⟨u,h1,eE.1 h2⟩
theorem At.i32 {H:View} {a:Addr} {d:I32} (h:At H a d):aj H a=some (.int .i32 d.v):=by obtain⟨u,h1,h2⟩:=h.load rfl;rw[(Aq.1 h2).1]at h1;exact h1
structure InD where
 frm:Int
 val:Int
 deriving Inhabited,DecidableEq
instance:Rep InD:=Rep.via fun d=>Cat.mk d.frm d.val
structure PhiD where
 dst:Int
 ins:List InD
 deriving Inhabited,DecidableEq
instance:Rep PhiD:=Rep.via fun d=>Cat.mk d.dst d.ins
structure InsD where
 op:Int
 dst:Int
 two:Int
 args:List Int
 imm:I32
 deriving Inhabited,DecidableEq
instance:Rep InsD:=Rep.via fun d=>Cat.mk d.op (Cat.mk d.dst (Cat.mk d.two (Cat.mk d.args d.imm)))
structure dm where
 kind:Int
 args:List Int
 to:List Int
 imm:I32
 deriving Inhabited,DecidableEq
instance:Rep dm:=Rep.via fun d=>Cat.mk d.kind (Cat.mk d.args (Cat.mk d.to d.imm))
structure BlkD where
 phis:List PhiD
 ins:List InsD
 term:dm
 deriving Inhabited,DecidableEq
instance:Rep BlkD:=Rep.via fun d=>Cat.mk d.phis (Cat.mk d.ins d.term)
structure ak where
 params:Int
 blocks:List BlkD
 deriving Inhabited,DecidableEq
instance:Rep ak:=Rep.via fun d=>Cat.mk d.params d.blocks
section
open Go Go.MapKept
variable {po:OP} {pp:PP}
section
variable {P:Program} {ty:TypeId} {us:List (Nat × Value)} {h:Heap} {K:Value->Heap->Prop}
def isIface:TypeDesc->Bool
 | .interface _=>true
 | _=>false
theorem DZ{t:TypeId}{d:TypeDesc}{x:Operand}{v:Value}(hd:P.underlying t=some d)(hn:isIface d=false)(hx:asg us x=v)(hk:K (.iface t v) h):step P (.makeInterface t x) ty us h K:=by refine dq (cr fun w hw=>⟨.iface t v,w,?_,Same.refl _,by rw[hw];exact hk⟩);simp only[bD,execOp,hx];cases d<;>first | (simp[isIface]at hn;done) | (simp[Instr.makeInterface,run_underlying hd];done)
theorem Du{x:Operand}{t:TypeId}{v:Value}(hx:asg us x = .iface t v)(hk:po.op [{ v:=.iface t v,recovered:=false }] h):step P (.panic x) ty us h K:=by
 refine dq ?_;intro w hw r o a K' Q' hK hQ;have hr:(bD (.panic x) ty us).run P w = .halt (.panic (.iface t v)) w:=by simp only[bD,execOp,hx];simp[Instr.panic,goPanic,Sem.run]
 rw[hr];simp only[Oper.uponIn];exact hQ _ w (by rw[hw];exact hk) (Same.refl _)
theorem CA{T xT:TypeId}{d:TypeDesc}{x:Operand}{v:Value}(hd:P.underlying T=some d)(hn:isIface d=false)(hx:asg us x = .iface T v)(hk:K (.tuple #[v,.bool true]) h):step P (.typeAssert x xT T true) ty us h K:=by refine dq (cr fun w hw=>⟨.tuple #[v,.bool true],w,?_,Same.refl _,by rw[hw];exact hk⟩);simp only[bD,execOp,hx];cases d<;>first | (simp[isIface]at hn;done) | (simp[Instr.typeAssert,run_underlying hd];done)
variable{r:Nat}{y:Operand}
theorem lz{t k e:TypeId}{d:TypeDesc}{f:Value->Option Value}{x:Operand}{u z:Value}(ht:P.underlying t=some (.map k e))(hd:P.underlying k=some d)(hz:(P.info? e).map (·.zero)=some (some z))(hx:asg us x = .map (some r))(hy:asg us y=u)(hu:IsKey d u)(m:dL d h r f)(hk:K (.tuple #[(f u).getD z,.bool (f u).isSome]) h):step P (.lookup t x y true) ty us h K:=by
 obtain⟨es,c,h1,h2,h3,h4⟩:=m.ex;simp only[KA]at hz;obtain⟨i,hi,hz⟩:=hz;refine dq (cr fun w hw=>⟨_,w,?_,Same.refl _,by rw[hw];exact hk⟩);have hz':(zeroValue e).run P w = .ok z w:=by simp[zeroValue,typeInfo,hi,hz]
 rw[<-hw]at h1;simp only[bD,execOp,hx,hy];rcases MapKept.findNow_spec hu es.toList 0 h2 with⟨g1,g2⟩ | ⟨j,x,g1,g2,g3⟩
 ·have hf:f u = .none:=by
   cases hfu:f u with
   | none=>rfl
   | some v=>obtain⟨x,hx,e1,_⟩:=(h4 u v hu).2 hfu;exact absurd e1 (g2 x hx)
  simp[Instr.lookup,run_underlying ht,MapKept.run_getObj_map h1,MapKept.run_checkKey hd hu,MapKept.run_findKey hd g1,Result.andThen,hf,hz']
 have hf:f u=some x.val:=(h4 u x.val hu).1 ⟨x,Lm g2,g3,rfl⟩;simp[Instr.lookup,run_underlying ht,MapKept.run_getObj_map h1,MapKept.run_checkKey hd hu,MapKept.run_findKey hd g1,Result.andThen,hf]
theorem AZ{T:TypeId}{ms:Array (String × TypeId)}{w:World}{v:Value}{b:Bool}(hd:P.underlying T=some (.interface ms))(hv:v = .nilIface/\b=true\/∃t u,v = .iface t u/\b=false):(Op.equal T v .nilIface).run P w = .ok b w:=by
 have key : ∀n,(Op.equalIn (n+1) T v .nilIface).run P w = .ok b w:=fun n=>by rcases hv with⟨rfl,rfl⟩ | ⟨t,u,rfl,rfl⟩<;>simp[Op.equalIn,run_underlying hd]
 exact key 9999
theorem zF{T rt:TypeId}{ms:Array (String × TypeId)}{x:Operand}{v:Value}{b:Bool}(hd:P.underlying T=some (.interface ms))(hx:asg us x=v)(hv:v = .nilIface/\b=true\/∃t u,v = .iface t u/\b=false)(hk:K (.bool b) h):
  step P (.binOp .eql T x (.const .nilIface) rt) ty us h K:=by refine dq (cr fun w hw=>⟨.bool b,w,?_,Same.refl _,by rw[hw];exact hk⟩);simp only[bD,execOp,hx,wj];have:=AZ (w:=w) hd hv;rcases hv with⟨rfl,rfl⟩ | ⟨t,u,rfl,rfl⟩<;>simp[eqGuard,binOp,this]
end
end
def pU (P:Program) (g:FuncId) (args:Array Value) (u:FrameMode) (h:Heap) (S:FrameMode->Heap->Prop):Prop:=
 ∀w:World,w.heap=h->CallsDIn (Fw none) 0 P g args u w fun e u' w'=>e = .returned (.tuple #[])/\S u' w'.heap/\Same w w'
variable{P:Program}{caps:Array Value}
theorem AN{fn:Func}{a:Act}{w:World}{R:Ending->World->Prop}{g:FuncId}{S:FrameMode->Heap->Prop}{u:FrameMode}(hg:isFn P g=true)(hd:a.defers=[{ target:=.fn (.func g) caps,args:=#[] }])(hu:u≠.run)(hc:pU P g caps u w.heap S)(hS : ∀u' w',S u' w'.heap->Same w w'->settle u' = .returning/\∃v,(results fn a.tmps).run P w' = .ok v w'/\R (.returned v) w'):LeavesIn (Fw none) 0 P fn a.tmps R a.defers u w:=by
 rw[hd];refine leavesIn_cons (f:=g) (args:=caps) hu (by simp[Fw,Fence.wide]) ?_ (fun _ _=>trivial) ((hc w rfl).mono ?_)
 ·unfold isFn at hg;cases hfn':P.funcs[g]? with
  | none=>simp[hfn']at hg
  | some fn'=>simp only[hfn',KE,bne_iff_ne,ne_eq]at hg;obtain⟨h1,h2⟩:=hg;simp[invoke,callFunc,program,Sem.run,hfn',h1,Option.isNone];cases hb:fn'.body<;>simp[hb]at h2 ⊢
 rintro e u' w' ⟨rfl,h1,h2⟩;obtain⟨h3,v,h4,h5⟩:=hS u' w' h1 h2;show LeavesIn (Fw none) 0 P fn a.tmps R [] (settle u') w';rw[h3];exact⟨v,h4,h5⟩
def qo (ρ:Env):List Operand->Option (List Value)
 | []=>some []
 | .tmp t::l=>match look ρ t,qo ρ l with
  | some v,some vs=>some (v::vs)
  | _,_=>none
 | _::_=>none
theorem vC {ρ:Env} {a:Act} (hs:Sat ρ a) : ∀{l:List Operand} {vs:List Value},qo ρ l=some vs->l.map a.eval=vs
 | [],vs,h=>by simp[qo]at h;subst h;rfl
 | .tmp t::l,vs,h=>by
  simp only[qo]at h;split at h
  ·rename_i v vs' h1 h2;simp only[Kx]at h;subst h;have:=hs t v h1;simp[Act.eval,this,vC hs h2]
  cases h
 | .const _::_,_,h=>by simp[qo]at h
 | .global _::_,_,h=>by simp[qo]at h
 | .func _::_,_,h=>by simp[qo]at h
theorem pj{f:FuncId}{fn:Func}{c0 c1:Code}{id:Nat}{o1 o2:Oper}{g t:Nat}{capops:Array Operand}{tys:Array TypeId}{live0 liveR0 live1 liveR1:List Nat}{L0 L1:LC}{res:List E}{args:List Value}{h:Heap}{R:Value->Heap->Prop}{Mid:Env->Heap->Prop}(hm:P.follows .mixedOrders=true)(hf:P.funcs[f]? = some fn)(hb:fn.body=some (.seq c0 (.seq (.region id #[o1,o2] false) c1)))(h1:o1.op = .makeFunc (.func g) #[] capops)(h1d:o1.dst=some t)(h1g:o1.guard=none)(h2:o2.op = .defer ⟨.value (.tmp t),#[],tys⟩)(h2d:o2.dst=none)(h2g:o2.guard=none)(ht:t<fn.ntmps)(hg:isFn P g=true)(hL0:ey P fn.ntmps live0 liveR0 false c0=some L0)(hp0:L0.plain=true)(hL1:ey P fn.ntmps live1 liveR1 false c1=some L1)(hp1:L1.plain=true)(hres:fn.results.toList.mapM (resE P)=some res)(hn:args.length<=fn.ntmps)(hw:@LC.wp noPP P L0 (eU Mid fun _ _ _=>False) (jL 0 args) h)(hmid : ∀ρ hh,Mid ρ hh->∃capv,qo ρ capops.toList=some capv/\∃pp:PP,
   @LC.wp pp P L1 (fun e ρ2 h2=>(e = .normal\/e = .ret)/\∃S,pU P g capv.toArray .returning h2 S/\∀u' h3,S u' h3->settle u' = .returning/\∃vs,evs (look ρ2) (vw h3) res=some vs/\R (pack vs) h3) (ck ρ [t]) hh/\
   ∀ch ρ2 h2,pp.kp ch h2->pp.fx ρ2->∃S,pU P g capv.toArray (.panicking ch) h2 S/\∀u' h3,S u' h3->settle u' = .returning/\∃vs,evs (look ρ2) (vw h3) res=some vs/\R (pack vs) h3):
  aw P f args.toArray h R:=by
 intro w hwh;subst hwh;have hsat:Sat (jL 0 args) { tmps:=args.toArray++Array.replicate (fn.ntmps-args.toArray.size) undef,defers:=[] }:=by
  intro t v hl;obtain⟨_,h2⟩:=np args 0 t v hl;have:t<args.length:=by
   rcases KB t args.length with h | h
   ·exact h
   simp[K8 h]at h2
  simp only[Nat.sub_zero]at h2;simp only[Nl,L6,this,if_true,Nn];exact h2
 refine(callsIn_wide (n:=0)).1 (callsIn_of_wp_defers hf hb trivial (wpIn_seq (wpIn_mono (dU (r:=none) hm c0 hL0 (fun _=>rfl) hw hsat (by simp;omega)) ?_)));rintro e a1 w1 ⟨ρ1,s1,n1,⟨ms,hds,hms,_⟩,hq,hS1⟩;rw[hms hp0]at hds;have hds:a1.defers=[]:=hds;have hq:=pb hq;cases e with
 | normal=>
  obtain⟨capv,hcap,pp,hwp,hpan⟩:=hmid ρ1 w1.heap hq;have hev:=vC s1 hcap;refine wpIn_seq (wpIn_region_list ?_);have wt1:Region.wanted o1 (yielded #[o1,o2] a1.tmps)=true:=by simp[Region.wanted,h1g]
  have hf1:(execOp a1.eval o1).run P w1 = .ok (.value (.func (.func g) #[] capv.toArray)) w1:=by
   simp only[execOp,h1];have:capops.map a1.eval=capv.toArray:=by rw[<-hev,<-Array.toList_inj];simp
   simp[this,Instr.makeFunc]
  have hput:a1.put o1.dst (.func (.func g) #[] capv.toArray)={ tmps:=a1.tmps.setIfInBounds t (.func (.func g) #[] capv.toArray),defers:=a1.defers }:=by rw[h1d];rfl
  have hget:(a1.tmps.setIfInBounds t (.func (.func g) #[] capv.toArray))[t]? = some (.func (.func g) #[] capv.toArray):=by rw[Ng];simp[n1,ht]
  simp only[wpListIn];rw[if_pos wt1];refine⟨fun _ _=>trivial,?_⟩;rw[Oper.semAt_eq _ _ _ (by intro c e;rw[h1]at e;cases e),hf1];simp only[Oper.uponIn,hput];have wt2:Region.wanted o2 (yielded #[o1,o2] (a1.tmps.setIfInBounds t (.func (.func g) #[] capv.toArray)))=true:=by simp[Region.wanted,h2g]
  rw[if_pos wt2];have hf2:(execOp (Act.eval { tmps:=a1.tmps.setIfInBounds t (.func (.func g) #[] capv.toArray),defers:=a1.defers }) o2).run P w1 = .ok (.defer { target:=.fn (.func g) capv.toArray,args:=#[] }) w1:=by simp only[execOp,h2];simp[resolve,Act.eval,hget,Deferred.ofValue]
  refine⟨fun _ _=>trivial,?_⟩;rw[show Fence.wide.round=none from rfl,Oper.semAt_none,hf2];simp only[Oper.uponIn,h2d,Act.put,hds];show c1.wpIn (Fw none) 0 P _ _ _;have s2:Sat (ck ρ1 [t]) { tmps:=a1.tmps.setIfInBounds t (.func (.func g) #[] capv.toArray),defers:=[{ target:=.fn (.func g) capv.toArray,args:=#[] }] }:=by intro x v hl;obtain⟨e1,e2⟩:=lh _ _ _ _ hl;have hne:t≠x:=fun e=>e1 (by simp[e]);simp only[Lu hne];exact s1 x v e2
  refine wpIn_mono (dU (pp:=pp) (r:=none) (a:={ tmps:=a1.tmps.setIfInBounds t (.func (.func g) #[] capv.toArray),defers:=[{ target:=.fn (.func g) capv.toArray,args:=#[] }] }) hm c1 hL1 (fun _=>rfl) hwp s2 (by simp[n1])) ?_;rintro e a2 w2 ⟨ρ2,s3,n3,⟨ms2,hds2,hms2,_⟩,hq2,hS2⟩;rw[hms2 hp1]at hds2;have hds2:a2.defers=[{ target:=.fn (.func g) capv.toArray,args:=#[] }]:=hds2;have fin : ∀(u:FrameMode),u≠.run->(∃S,pU P g capv.toArray u w2.heap S/\∀u' h3,S u' h3->settle u' = .returning/\∃vs,evs (look ρ2) (vw h3) res=some vs/\R (pack vs) h3)->
    LeavesIn (Fw none) 0 P fn a2.tmps (fun e w'=>∃v,e = .returned v/\R v w'.heap/\Same w w') a2.defers u w2:=by rintro u hu ⟨S,hc,hS⟩;refine AN hg hds2 hu hc fun u' w' hu' hsame=>?_;obtain⟨g1,vs,g2,g3⟩:=hS u' w'.heap hu';exact⟨g1,pack vs,lX hres (pf (fun t v h=>s3 t v h) g2),pack vs,rfl,g3,(hS1.trans hS2).trans hsame⟩
  cases e with
  | normal=>exact fin .returning (by simp) hq2.2
  | ret=>exact fin .returning (by simp) hq2.2
  | panic ch=>exact fin (.panicking ch) (by simp) (hpan ch ρ2 w2.heap hq2.2 hq2.1)
  | exit i=>rcases hq2.1 with h | h<;>cases h
  | goto l=>rcases hq2.1 with h | h<;>cases h
  | outgrown=>rcases hq2.1 with h | h<;>cases h
 | _=>exact hq.elim
def jz:FrameMode->Value × FrameMode
 | .panicking ({ v,recovered:=false,goexit:=false }::older)=>(v,.panicking ({ v,recovered:=true }::older))
 | u=>(.nilIface,u)
theorem nL{g:FuncId}{fn:Func}{c1:Code}{id t:Nat}{o:Oper}{tys:Array TypeId}{live liveR:List Nat}{L:LC}{args:List Value}{u:FrameMode}{h:Heap}{S:FrameMode->Heap->Prop}(hm:P.follows .mixedOrders=true)(hf:P.funcs[g]? = some fn)(hb:fn.body=some (.seq (.region id #[o] false) c1))(ho:o.op = .call ⟨.builtin .recover,#[],tys⟩)(hod:o.dst=some t)(hog:o.guard=none)(ht:t<fn.ntmps)(hL:ey P fn.ntmps live liveR false c1=some L)(hp:L.plain=true)(hr:fn.results = #[])(hn:args.length<=fn.ntmps)(hw:@LC.wp noPP P L (fun e _ h'=>(e = .normal\/e = .ret)/\S (jz u).2 h') ((t,(jz u).1)::ck (jL 0 args) [t]) h):pU P g args.toArray u h S:=by
 intro w hwh;subst hwh;refine callsDIn_of_wpSIn hf hb trivial fun c₀ cs hu=>?_;apply wpSIn_seq;apply wpSIn_region;have hsat:Sat (jL 0 args) { tmps:=args.toArray++Array.replicate (fn.ntmps-args.toArray.size) undef,defers:=[] }:=by
  intro t v hl;obtain⟨_,h2⟩:=np args 0 t v hl;have:t<args.length:=by
   rcases KB t args.length with h | h
   ·exact h
   simp[K8 h]at h2
  simp only[Nat.sub_zero]at h2;simp only[Nl,L6,this,if_true,Nn];exact h2
 have hsz:(args.toArray++Array.replicate (fn.ntmps-args.toArray.size) undef).size=fn.ntmps:=by simp;omega
 have hex : ∀ρ,(execOp ρ o).run P w = .ok .recover w:=fun ρ=>by simp only[execOp,ho];simp[resolve,invoke,builtin]
 generalize args.toArray++Array.replicate (fn.ntmps-args.toArray.size) undef=tm at hsat hsz;have hwant : ∀tm',Region.wanted o (yielded #[o] tm')=true:=fun tm'=>by simp[Region.wanted,hog]
 have key : ∀(v:Value) (c':Frame),(jz u).1=v->c'={ c₀ with mode:=(jz u).2 }->c1.wpSIn (Fw none) 0 P (bodyPostS P fn c₀ cs fun e u' w'=>e = .returned (.tuple #[])/\S u' w'.heap/\Same w w') { tmps:=tm.setIfInBounds t v,defers:=[] } (c'::cs) w:=by
  intro v c' hv hc';have s2:Sat ((t,(jz u).1)::ck (jL 0 args) [t]) { tmps:=tm.setIfInBounds t v,defers:=[] }:=by
   intro x y hl;simp only[look]at hl;split at hl
   ·rename_i e;subst e;simp only[Kx]at hl;rw[<-hl,hv,Ng];simp[hsz,ht]
   rename_i e;obtain⟨e1,e2⟩:=lh _ _ _ _ hl;simp only[Lu e];exact hsat x y e2
  refine wpSIn_of_wpIn rfl (wpIn_mono (dU (pp:=noPP) (r:=none) (a:={ tmps:=tm.setIfInBounds t v,defers:=[] }) hm c1 hL (fun _=>rfl) hw s2 (by simp[hsz])) ?_);rintro e a2 w2 ⟨ρ2,s3,n3,⟨ms2,hds2,hms2,_⟩,hq2,hS2⟩;rw[hms2 hp]at hds2;have hds2:a2.defers=[]:=hds2;have hq2:=pb hq2;have hres:(results fn a2.tmps).run P w2 = .ok (.tuple #[]) w2:=by simp[results,hr]
  have fin:a2.defers=[]/\∃u',c'::cs={ c₀ with mode:=u' }::cs/\∃v,(results fn a2.tmps).run P w2 = .ok v w2/\Ending.returned v = .returned (.tuple #[])/\S u' w2.heap/\Same w w2:=
   ⟨hds2,_,by rw[hc'],_,hres,rfl,hq2.2,hS2⟩;cases e with
  | normal=>exact fin
  | ret=>exact fin
  | panic ch=>rcases hq2.1 with h | h<;>cases h
  | exit i=>rcases hq2.1 with h | h<;>cases h
  | goto l=>rcases hq2.1 with h | h<;>cases h
  | outgrown=>rcases hq2.1 with h | h<;>cases h
 have hr0:List.range (#[o]:Array Oper).size=[0]:=rfl;rw[hr0];simp only[wpOpsSIn];have ho0:(#[o]:Array Oper)[0]? = some o:=rfl;rw[ho0];simp only[hwant,if_true,hex];refine⟨fun _ _=>trivial,?_⟩;by_cases hcase : ∃v older,u = .panicking ({ v,recovered:=false,goexit:=false }::older)
 ·obtain⟨v,older,rfl⟩:=hcase;have e:recoverD (c₀::cs)=some (v,{ c₀ with mode:=.panicking ({ v,recovered:=true }::older) }::cs):=by simp only[recoverD,hu]
  rw[e];simp only[hod];exact key v _ rfl rfl
 have e:recoverD (c₀::cs)=none:=by
  simp only[recoverD,hu];split
  ·exact absurd ⟨_,_,rfl⟩ hcase
  rfl
 have er:jz u=(.nilIface,u):=by
  unfold jz;split
  ·exact absurd ⟨_,_,rfl⟩ hcase
  rfl
 rw[e];simp only[hod];exact key .nilIface c₀ (by rw[er]) (by rw[er,<-hu])
section
variable {po po2:OP} {pp:PP}
structure Part (α β:Type) [Rep α] [Rep β] (o:Nat) (get:α->β) (set:α->β->α):Prop where
 fits:o+Rep.n β<=Rep.n α
 get : ∀{H:View} {cs:List Value} {d:α},Rep.rd H cs d->Rep.rd H ((cs.drop o).take (Rep.n β)) (get d)
 set : ∀{H:View} {cs us:List Value} {d:α} {x:β},Rep.rd H cs d->Rep.rd H us x->Rep.rd H (cs.take o++us++cs.drop (o+Rep.n β)) (set d x)
theorem Part.all[Rep α]:Part α α 0 (fun d=>d) (fun _ x=>x) where
 fits:=by simp
 get:=fun h=>by rw[LW,KG (by rw[Rep.len h];exact Kz _)];exact h
 set:=fun h k=>by
  have:=Rep.len h
  rw[MR,Lr,K9 (by omega),L2];exact k
section
variable {α β γ:Type} [Rep α] [Rep β] [Rep γ] {o:Nat}
theorem Part.fst{g:α->γ}{s:α->γ->α}(p:Part α γ o g s):Part (Cat α β) γ o (fun d=>g d.a) (fun d x=>⟨s d.a x,d.b⟩) where
 fits:=KU p.fits (Nat.le_add_right _ _)
 get:=by
  rintro H cs d ⟨c1,c2,rfl,h1,h2⟩
  have l1:=Rep.len h1
  have f:=p.fits
  rw[Lx (by omega),Ln (by simp;omega)]
  exact p.get h1
 set:=by
  rintro H cs us d x ⟨c1,c2,rfl,h1,h2⟩ k
  have l1:=Rep.len h1
  have f:=p.fits
  refine⟨_,c2,?_,p.set h1 k,h2⟩
  rw[Ln (by omega),Lx (by omega)]
  simp[KL]
theorem Part.snd{g:β->γ}{s:β->γ->β}(p:Part β γ o g s):Part (Cat α β) γ (Rep.n α+o) (fun d=>g d.b) (fun d x=>⟨d.a,s d.b x⟩) where
 fits:=by
  have:=p.fits
  show Rep.n α+o+Rep.n γ<=Rep.n α+Rep.n β
  omega
 get:=by
  rintro H cs d ⟨c1,c2,rfl,h1,h2⟩
  have l1:=Rep.len h1
  rw[ME,K9 (by omega),Lr,show Rep.n α+o-c1.length=o by omega]
  exact p.get h2
 set:=by
  rintro H cs us d x ⟨c1,c2,rfl,h1,h2⟩ k
  have l1:=Rep.len h1
  refine⟨c1,_,?_,h1,p.set h2 k⟩
  rw[LV,KG (by omega),show Rep.n α+o-c1.length=o by omega,ME,K9 (by omega),Lr,
   show Rep.n α+o+Rep.n γ-c1.length=o+Rep.n γ by omega]
  simp[KL]
end
theorem Part.via {α β γ:Type} [ra:Rep α] [rb:Rep β] {f:γ->α} {o o':Nat} {g:α->β} {s:α->β->α} (p:Part α β o g s) {g':γ->β} {s':γ->β->γ} (hg : ∀d,g' d=g (f d)) (hs : ∀d x,f (s' d x)=s (f d) x) (ho:o=o':=by rfl):@Part γ β (Rep.via f) rb o' g' s':=by subst ho;exact @Part.mk γ β (Rep.via f) rb o g' s' p.fits (fun{H cs d} h=>by rw[hg];exact p.get h) (fun{H cs us d x} h k=>by have:=p.set (show Rep.rd H cs (f d) from h) k;rw[<-hs]at this;exact this)
variable{β:Type}
theorem At.part[Rep α][Rep β]{o:Nat}{g:α->β}{s:α->β->α}(p:Part α β o g s){a:Addr}{d:α}(h:At H a d):At H (a.add o) (g d):=by obtain⟨cs,h1,h2⟩:=h;have l:=Rep.len h2;exact⟨_,zV h1 o (Rep.n β) (by rw[l];exact p.fits),p.get h2⟩
theorem Rd.Jz[Rep α][Rep β]{o:Nat}{g:α->β}{s:α->β->α}(p:Part α β o g s)(ha:Rep.agg α=true)(hb:Rep.agg β=false){K:View}{v:Value}{d:α}(h:Rd H v d): ∃u,Un.ev K (.part o) v=some u/\Rd H u (g d):=by
 unfold Rd at h;rw[if_pos ha]at h;obtain⟨cs,rfl,h⟩:=h;have l:=Rep.len h;have f:=p.fits;have k:=p.get h;rw[Rep.one hb]at f k;have hlt:o<cs.size:=by simpa using(show o<cs.toList.length by omega)
 refine⟨cs[o],by simp[hlt],?_⟩;unfold Rd;rw[if_neg (by simp[hb])];rw[KY (by simpa using hlt)]at k;simpa using k
theorem InD.Jx:Part InD Int 0 InD.frm (fun d x=>{ d with frm:=x }):=(Part.fst Part.all).via (fun _=>rfl) fun _ _=>rfl
theorem InD.BY:Part InD Int 1 InD.val (fun d x=>{ d with val:=x }):=(Part.snd Part.all).via (fun _=>rfl) fun _ _=>rfl
theorem PhiD.iN:Part PhiD Int 0 PhiD.dst (fun d x=>{ d with dst:=x }):=(Part.fst Part.all).via (fun _=>rfl) fun _ _=>rfl
theorem PhiD.lV:Part PhiD (List InD) 1 PhiD.ins (fun d x=>{ d with ins:=x }):=(Part.snd Part.all).via (fun _=>rfl) fun _ _=>rfl
theorem InsD.qw:Part InsD Int 0 InsD.op (fun d x=>{ d with op:=x }):=(Part.fst Part.all).via (fun _=>rfl) fun _ _=>rfl
theorem InsD.iN:Part InsD Int 1 InsD.dst (fun d x=>{ d with dst:=x }):=(Part.snd (Part.fst Part.all)).via (fun _=>rfl) fun _ _=>rfl
theorem InsD.xe:Part InsD Int 2 InsD.two (fun d x=>{ d with two:=x }):=(Part.snd (Part.snd (Part.fst Part.all))).via (fun _=>rfl) fun _ _=>rfl
theorem InsD.fj:Part InsD (List Int) 3 InsD.args (fun d x=>{ d with args:=x }):=(Part.snd (Part.snd (Part.snd (Part.fst Part.all)))).via (fun _=>rfl) fun _ _=>rfl
theorem InsD.gP:Part InsD I32 4 InsD.imm (fun d x=>{ d with imm:=x }):=(Part.snd (Part.snd (Part.snd (Part.snd Part.all)))).via (fun _=>rfl) fun _ _=>rfl
theorem dm.Ak:Part dm Int 0 dm.kind (fun d x=>{ d with kind:=x }):=(Part.fst Part.all).via (fun _=>rfl) fun _ _=>rfl
theorem dm.fj:Part dm (List Int) 1 dm.args (fun d x=>{ d with args:=x }):=(Part.snd (Part.fst Part.all)).via (fun _=>rfl) fun _ _=>rfl
theorem dm.yb:Part dm (List Int) 2 dm.to (fun d x=>{ d with to:=x }):=(Part.snd (Part.snd (Part.fst Part.all))).via (fun _=>rfl) fun _ _=>rfl
theorem dm.gP:Part dm I32 3 dm.imm (fun d x=>{ d with imm:=x }):=(Part.snd (Part.snd (Part.snd Part.all))).via (fun _=>rfl) fun _ _=>rfl
theorem BlkD.rQ:Part BlkD (List PhiD) 0 BlkD.phis (fun d x=>{ d with phis:=x }):=(Part.fst Part.all).via (fun _=>rfl) fun _ _=>rfl
theorem BlkD.lV:Part BlkD (List InsD) 1 BlkD.ins (fun d x=>{ d with ins:=x }):=(Part.snd (Part.fst Part.all)).via (fun _=>rfl) fun _ _=>rfl
theorem BlkD.nm:Part BlkD dm 2 BlkD.term (fun d x=>{ d with term:=x }):=(Part.snd (Part.snd Part.all)).via (fun _=>rfl) fun _ _=>rfl
theorem ak.Ex:Part ak Int 0 ak.params (fun d x=>{ d with params:=x }):=(Part.fst Part.all).via (fun _=>rfl) fun _ _=>rfl
theorem ak.qz:Part ak (List BlkD) 1 ak.blocks (fun d x=>{ d with blocks:=x }):=(Part.snd Part.all).via (fun _=>rfl) fun _ _=>rfl
def Sl {α:Type} [Rep α] (H:View) (a:Addr) (v:Value) (l:List α):Prop:=aj H a=some v/\SlRd H v l
theorem At.sl[Rep α]{a:Addr}{l:List α}(h:At H a l): ∃v,Sl H a v l:=h.list
variable{b n:Nat}
theorem Addr.z{o:Nat}:(⟨b,o,none⟩:Addr).add n=⟨b,o+n,none⟩:=bw rfl n
section
variable {α:Type} [Rep α] {P:Program} {ty:TypeId} {us:List (Nat × Value)} {h:Heap}
theorem gD{v:Value}{d:α}(hr:Rd H v d):Rep.rd H v.cells.toList d/\v.cells.size=Rep.n α/\∀c∈v.cells.toList,c.oneCell'=true:=by
 unfold Rd at hr;split at hr
 ·obtain⟨cs,rfl,h⟩:=hr;exact⟨h,by rw[<-Rep.len h];rfl,fun c hc=>Rep.flat h c hc⟩
 rename_i ha;have hone:=Rep.one (α:=α) (by simpa using ha);have hfl:=Rep.flat hr v (by simp);have:v.cells = #[v]:=by cases v<;>first | rfl | simp[Value.oneCell']at hfl
 rw[this];exact⟨by simpa using hr,by simp[hone],by simpa using hfl⟩
theorem pM{v:Value}{d:α}{t:TypeId}{fz:Nat × Nat}(hb:H b=some (.cells v.cells t fz))(hr:Rd H v d):At H ⟨b,0,none⟩ d:=
 ⟨_,⟨v.cells,t,fz,rfl,hb,by simp;exact KG (by simp)⟩,(gD hr).1⟩
variable{K:Value->Heap->Prop}
theorem iG{t:TypeId}{x:Operand}{v:Value}{d:α}(hx:asg us x=v)(hv:Rd (vw h) v d)(hk : ∀h':Heap,h'=h.push (.cells v.cells t)->(vw h).le (vw h')->h'.size=h.size+1->At (vw h') ⟨h.size,0,none⟩ d->K (.pointer (some ⟨h.size,0,none⟩)) h'):step P (.box t x) ty us h K:=
 dy hx (hk _ rfl (bM _ _) (by simp) (pM (t:=t) (fz:=(0,0)) (by simp[vw]) (hv.mono (bM _ _))))
theorem SlRd.whole{K:View}{v:Value}{l:List α}(h:SlRd H v l)(ha:Rep.agg α=true)(hk:H.le K){i:Nat}(hi:i<l.length): ∃u,Un.ev K (.au (Rep.n α)) (.pointer (some ((slA v).add (i*Rep.n α))))=some u/\Rd K u l[i]:=
 ((h.at hi).mono hk).au ha
end
theorem At.rng{a:Addr}{d:Int}(h:At H a d):-9223372036854775808<=d/\d<=9223372036854775807:=by obtain⟨u,h1,h2⟩:=h.load rfl;exact(bC.1 h2).2
theorem At.bool {H:View} {a:Addr} {d:Bool} (h:At H a d):aj H a=some (.bool d):=by obtain⟨u,h1,h2⟩:=h.load rfl;rw[tq.1 h2]at h1;exact h1
theorem aI[Rep α]:SlRd H (.slice none 0 0) ([]:List α):=⟨none,0,rfl,by simp,by simp,.inl rfl⟩
variable{ty:TypeId}{bytes:Nat}{us:List (Nat × Value)}{K:Value->Heap->Prop}
theorem kR[Rep α]{t e:Nat}{z:Value}{ps:Array (Nat × Operand)}{vs:List Value}{ds:List α}{h:Heap}(ha:Rep.agg α=false)(hT:fe P t e 1 bytes z)(hp:ps.map (fun p=>(p.1,asg us p.2))=((vs.zipIdx 0).map fun p=>(p.2,p.1)).toArray){X:View}(hr:ov X vs ds)(hX:X.le (vw h))(hn:ds.length=n)(hb:n<=16777216)(hk : ∀u h',(vw h).le (vw h')->h'.size=h.size+1->(∀Y:View,X.le Y->Y h.size=h'[h.size]?->SlRd Y u ds)->u.ownBlock=some h.size->K u h'):step P (.buildSlice t n ps) ty us h K:=by
 have hl:=hr.len;obtain⟨B,h1,h2⟩:=zX vs 0 ((Array.range (n*1)).map (z.cells[· % z.cells.size]!)) (fun v hv=>by obtain⟨i,hi,rfl⟩:=KV hv;exact(hr.get i hi (by omega)).IH ha) (by simp;omega);have hB:B=vs.toArray:=by rw[<-Array.toList_inj,h2];simp
 refine qp hT (by omega) hp h1 ?_;have hle:=bM h (.cells B e);have hone:=Rep.one (α:=α) ha;refine hk _ _ hle (by simp) (fun Y hY hYb=>⟨some ⟨h.size,0,none⟩,n,by rw[hn],by omega,by omega,.inr ⟨_,rfl,rfl,fun i hi=>?_⟩⟩) rfl;rw[bw rfl,hone];refine⟨[vs[i]],⟨B,e,(0,0),rfl,by rw[hYb];simp,?_⟩,?_⟩
 ·rw[hB];have hd:vs.drop i=vs[i]::vs.drop (i+1):=KY (by omega);simp only[LG,Lq,Lw,M8];show List.take (0+1) (List.drop i vs)=_;rw[hd];rfl
 have:=(hr.get i (by omega) hi).mono hY;unfold Rd at this;rw[if_neg (by simp[ha])]at this;exact this
def mapE {β:Type} (enc:β->Value) (f:Int->Option β):Value->Option Value
 | .int .i64 j=>(f j).map enc
 | _=>none
@[simp] theorem oh{enc:β->Value}{f:Int->Option β}{j:Int}:mapE enc f (.int .i64 j)=(f j).map enc:=rfl
def putM {β:Type} (f:Int->Option β) (j:Int) (v:β):Int->Option β:=fun i=>if i=j then some v else f i
theorem iR{enc:β->Value}{f:Int->Option β}{j:Int}{v:β}:mapE enc (putM f j v) (.int .i64 j)=some (enc v)/\∀u,u≠.int .i64 j->mapE enc (putM f j v) u=mapE enc f u:=by
 refine⟨by simp[putM],fun u hu=>?_⟩;cases u<;>try rfl
 rename_i k i;cases k<;>try rfl
 have:i≠j:=fun e=>hu (by rw[e]);simp[putM,this]
theorem oU{enc:β->Value}:mapE enc (fun _=>.none)=fun _=>.none:=by
 funext u;cases u<;>try rfl
 rename_i k i;cases k<;>rfl
theorem Kept.skip {h h':Heap} {r:Nat} (k:Kept h h' (some r)):(skip r h).le (Lft.skip r h'):=fun b o hb=>by
 unfold Lft.skip at hb ⊢;split at hb
 ·cases hb
 rename_i hne;rw[if_neg hne];have hlt:=(KC.1 hb).1;rw[k.block b hlt (by simpa using hne)];exact hb
variable{h':Heap}{r:Nat}
theorem Kept.BB{h:Heap}(k:Kept h h' (some r)):(Lft.skip r h).le (vw h'):=View.le_trans k.skip cS
theorem Kept.of_le{h:Heap}{b:Option Nat}(hle:(vw h).le (vw h')):Kept h h' b:=⟨bW hle,fun k hk _=>by have:=hle k h[k] (KO hk);rw[KO hk];exact this⟩
theorem Kept.upd{h:Heap}(hs:h'.size=h.size)(ho : ∀b,b≠r->h'[b]? = h[b]?):Kept h h' (some r):=⟨by omega,fun k _ hk=>ho k (by simpa using hk)⟩
variable{ty2:TypeId}{y:Operand}{us2:Value->List (Nat × Value)}
theorem gS{h:Heap}{t:TypeId}{z:Value}{x:Operand}{v:Value}(hz:(P.info? t).map (·.zero)=some (some z))(hzc:z.cells.size=n)(hsz:dp P t=some n)(hv:v.cells.size=n)(hone : ∀c∈v.cells.toList,c.oneCell'=true)(hx : ∀p,asg (us2 p) x=p)(hy : ∀p,asg (us2 p) y=v)(hk : ∀h':Heap,(vw h).le (vw h')->h'.size=h.size+1->h'[h.size]? = some (.cells v.cells t (0,0))->K (.pointer (some ⟨h.size,0,none⟩)) h'):
  @step po P (.alloc t) ty us h fun p h2=>@step po2 P (.store t x y) ty2 (us2 p) h2 fun _ h3=>K p h3:=by
 refine dS hz ?_;refine eX (g:=h.size) (o:=0) (n:=n) (v:=v) (cur:=z.cells) (e:=t) hsz (hx _) (hy _) hv hone (by simp) (by omega) fun h' hs ⟨row,hrow,he⟩ hoth=>?_;have hrow2:row=v.cells:=by rw[<-Array.toList_inj,he];simp only[MR,Lr,LG];rw[K9 (by simp[hzc]),L2]
 rw[hrow2]at hrow;have hle:(vw h).le (vw h'):=fun b o hb=>by have hlt:=View.lt (View.le_refl (vw h)) hb;show h'[b]? = _;rw[hoth b (by omega)];exact bM _ _ b o hb
 exact hk h' hle (by rw[hs];simp) hrow
section
variable {σ α ε:Type} {f:σ->α->Except ε σ} {s s':σ} {l:List α} {k:Nat} {t:ε}
theorem AJ[Inhabited α](h:k<l.length)(hs:(l.take k).foldlM f s = .ok s'):(l.take (k+1)).foldlM f s=f s' (nth l k):=by rw[KM h,NJ,hs,az h];show List.foldlM f s' [l[k]]=f s' l[k];rw[LJ];cases f s' l[k]<;>rfl
theorem Dg(h:(l.take k).foldlM f s = .error t):l.foldlM f s = .error t:=by
 have e:l.foldlM f s=(l.take k++l.drop k).foldlM f s:=by rw[LY]
 rw[e,NJ,h];rfl
end
def upE {σ ε:Type} (f:Nat->σ->Except ε σ):Nat->σ->Except ε σ
 | 0,s=>.ok s
 | k+1,s=>match upE f k s with
  | .ok s'=>f k s'
  | .error t=>.error t
theorem mF{σ ε:Type}{f:Nat->σ->Except ε σ}{k:Nat}{s s':σ}(h:upE f k s = .ok s'):upE f (k+1) s=f k s':=by simp only[upE,h]
theorem yl {σ ε:Type} {f:Nat->σ->Except ε σ} {s:σ} {t:ε} : ∀{n k:Nat},k<=n->upE f k s = .error t->upE f n s = .error t
 | 0,k,hk,h=>by
  have:k=0:=by omega
  subst this;exact h
 | n+1,k,hk,h=>by
  rcases KB n k with hlt | hge
  ·have:k=n+1:=by omega
   subst this;exact h
  simp only[upE,yl hge h]
theorem xr{σ ε:Type}{f:Nat->σ->Except ε σ}{k:Nat}{s s':σ}{t:ε}(h:upE f k s = .ok s')(hk:k<n)(he:f k s' = .error t):upE f n s = .error t:=
 yl (k:=k+1) hk (by rw[mF h,he])
theorem dX[Rep α]{h:Heap}{t:TypeId}{z:Value}{x:Operand}{v:Value}{d:α}{X:View}(hz:(P.info? t).map (·.zero)=some (some z))(hzc:z.cells.size=Rep.n α)(hsz:dp P t=some (Rep.n α))(hv:Rd X v d)(hx : ∀p,asg (us2 p) x=p)(hy : ∀p,asg (us2 p) y=v)(hk : ∀h':Heap,(vw h).le (vw h')->h'.size=h.size+1->(∀Y:View,X.le Y->Y h.size=h'[h.size]?->At Y ⟨h.size,0,none⟩ d)->K (.pointer (some ⟨h.size,0,none⟩)) h'):
  @step po P (.alloc t) ty us h fun p h2=>@step po2 P (.store t x y) ty2 (us2 p) h2 fun _ h3=>K p h3:=by obtain⟨c1,c2,c3⟩:=gD hv;exact gS hz hzc hsz c2 c3 hx hy fun h' hle hs hb=>hk h' hle hs fun Y hY hYb=>pM (by rw[hYb];exact hb) (hv.mono hY)
variable{B:Nat}
theorem kl{d:BlkD}(h:At H ⟨B,0,none⟩ d): ∃vp vi va vt,Sl H ⟨B,0,none⟩ vp d.phis/\Sl H ⟨B,1,none⟩ vi d.ins/\aj H ⟨B,2,none⟩=some (.int .i64 d.term.kind)/\Sl H ⟨B,3,none⟩ va d.term.args/\Sl H ⟨B,4,none⟩ vt d.term.to:=by obtain⟨vp,h1⟩:=(h.part BlkD.rQ).sl;obtain⟨vi,h2⟩:=(h.part BlkD.lV).sl;have ht:=h.part BlkD.nm;obtain⟨va,h4⟩:=(ht.part dm.fj).sl;obtain⟨vt,h5⟩:=(ht.part dm.yb).sl;exact⟨vp,vi,va,vt,by simpa using h1,by simpa using h2,by simpa using(ht.part dm.Ak).int,by simpa using h4,by simpa using h5⟩
theorem yd{d:PhiD}(h:At H ⟨B,0,none⟩ d):aj H ⟨B,0,none⟩=some (.int .i64 d.dst)/\∃v,Sl H ⟨B,1,none⟩ v d.ins:=by obtain⟨v,hv⟩:=(h.part PhiD.lV).sl;exact⟨by simpa using(h.part PhiD.iN).int,v,by simpa using hv⟩
theorem kP{d:InsD}(h:At H ⟨B,0,none⟩ d):aj H ⟨B,0,none⟩=some (.int .i64 d.op)/\aj H ⟨B,1,none⟩=some (.int .i64 d.dst)/\aj H ⟨B,2,none⟩=some (.int .i64 d.two)/\∃v,Sl H ⟨B,3,none⟩ v d.args:=by obtain⟨v,hv⟩:=(h.part InsD.fj).sl;exact⟨by simpa using(h.part InsD.qw).int,by simpa using(h.part InsD.iN).int,by simpa using(h.part InsD.xe).int,v,by simpa using hv⟩
theorem jE{d:ak}(h:At H ⟨B,0,none⟩ d):aj H ⟨B,0,none⟩=some (.int .i64 d.params)/\∃v,Sl H ⟨B,1,none⟩ v d.blocks:=by obtain⟨v,hv⟩:=(h.part ak.qz).sl;exact⟨by simpa using(h.part ak.Ex).int,v,by simpa using hv⟩
theorem Al{d:InD}(h:At H ⟨B,0,none⟩ d):aj H ⟨B,0,none⟩=some (.int .i64 d.frm)/\aj H ⟨B,1,none⟩=some (.int .i64 d.val):=
 ⟨by simpa using(h.part InD.Jx).int,by simpa using(h.part InD.BY).int⟩
theorem SlRd.wh[Rep α][Inhabited α]{v:Value}{l:List α}(h:SlRd H v l)(ha:Rep.agg α=true){N:Nat}(hn:Rep.n α=N){i:Nat}(hi:i<l.length): ∃u,(∀K:View,H.le K->Un.ev K (.au N) (.pointer (some ((slA v).add (i*N))))=some u)/\Rd H u (nth l i):=by subst hn;obtain⟨u,h1,h2⟩:=h.whole ha (View.le_refl H) hi;refine⟨u,fun K hk=>?_,by rw[az hi];exact h2⟩;have:=dY (ρ:=fun _=>none) (e:=.un (.au (Rep.n α)) (.con (.pointer (some ((slA v).add (i*Rep.n α)))))) hk (v:=u) (by simpa using h1);simpa using this
instance:Inhabited BlkD:=⟨⟨[],[],⟨0,[],[],⟨0⟩⟩⟩⟩
theorem rH{h:Heap}{f:FuncId}{t:Nat}{ops:List Operand}{T:Array TypeId}(hf:asg us (.tmp t) = .func (.func f) #[] caps){R:Value->Heap->Prop}{Rp:List PanicEntry->Heap->Prop}(hfn:isFn P f=true)(hc:iH P f (ops.map (asg us)++caps.toList).toArray h R Rp)(hk : ∀v h',R v h'->K v h')(hp : ∀ch h',Rp ch h'->po.op ch h'):@step po P (.call ⟨.value (.tmp t),ops.toArray,T⟩) ty us h K:=by
 refine dq (po:=po) (sA (po:=po) (R:=R) (f:=f) (args:=(ops.map (asg us)++caps.toList).toArray) (fun w _=>?_) hc hk hp);unfold isFn at hfn;cases hfn':P.funcs[f]? with
 | none=>simp[hfn']at hfn
 | some fn=>simp only[hfn',KE,bne_iff_ne,ne_eq]at hfn;obtain⟨h1,h2⟩:=hfn;simp[bD,execOp,resolve,Deferred.ofValue,hf,invoke,callFunc,program,Sem.run,hfn',h1,Option.isNone];cases hb:fn.body<;>simp[hb]at h2 ⊢
@[simp] theorem IQ{b:Bool}{v:Value}:gdv b undef v=undef:=rfl
@[simp] theorem I1{b:Bool}{o:Option Value}:gdO b undef o=some undef:=rfl
end
end Go.Lft
namespace Go.Proofs.YtnfiilgdjpdlkaaGreatDoor
open Go Go.Lft
theorem follows:Tryz.prog.follows .mixedOrders=true:=by kernel_rfl
abbrev T.int:Nat:=3
abbrev T.bool:Nat:=4
abbrev T.aP:Nat:=22
abbrev T.Is:Nat:=23
abbrev T.lN:Nat:=25
abbrev T.eI:Nat:=27
abbrev T.oT:Nat:=30
abbrev T.mD:Nat:=31
abbrev T.iX:Nat:=33
abbrev T.fq:Nat:=35
abbrev T.jf:Nat:=36
abbrev T.gg:Nat:=38
abbrev T.gL:Nat:=50
abbrev T.jP:Nat:=55
abbrev T.mL:Nat:=57
abbrev T.lE:Nat:=64
abbrev T.eV:Nat:=70
abbrev T.eO:Nat:=80
abbrev T.pB:Nat:=87
abbrev T.aY:Nat:=89
abbrev T.qQ:Nat:=91
abbrev T.ni:Nat:=93
abbrev T.rp:Nat:=95
abbrev T.rn:Nat:=97
abbrev T.aO:Nat:=101
abbrev T.ji:Nat:=108
abbrev T.gx:Nat:=109
abbrev T.fJ:Nat:=110
abbrev T.bz:Nat:=113
abbrev T.jr:Nat:=116
abbrev T.jy:Nat:=120
abbrev T.nu:Nat:=123
abbrev T.td:Nat:=124
abbrev T.yB:Nat:=127
abbrev T.gl:Nat:=136
abbrev T.cG:Nat:=138
abbrev T.fX:Nat:=144
abbrev T.lC:Nat:=146
abbrev T.fM:Nat:=147
abbrev T.iC:Nat:=149
abbrev T.Ge:Nat:=154
abbrev T.gK:Nat:=157
abbrev T.fo:Nat:=160
abbrev T.dJ:Nat:=185
abbrev T.eo:Nat:=187
theorem U.int:Tryz.prog.underlying T.int=some (.int .i64):=by kernel_rfl
theorem U.aP:Tryz.prog.underlying T.aP=some (.slice T.int):=by kernel_rfl
theorem El.aP:fe Tryz.prog T.aP T.int 1 8 (.int .i64 0):=gC (by kernel_rfl) (by kernel_rfl) rfl (by decide)
theorem El.lN:fe Tryz.prog T.lN T.fq 6 112 (.agg #[(.slice none 0 0),(.slice none 0 0),(.int .i64 0),(.slice none 0 0),(.slice none 0 0),(.int .i32 0)]):=gC (by kernel_rfl) (by kernel_rfl) rfl (by decide)
theorem El.oT:fe Tryz.prog T.oT T.ni 2 32 (.agg #[(.int .i64 0),(.slice none 0 0)]):=gC (by kernel_rfl) (by kernel_rfl) rfl (by decide)
theorem El.mD:fe Tryz.prog T.mD T.eV 5 56 (.agg #[(.int .i64 0),(.int .i64 0),(.int .i64 0),(.slice none 0 0),(.int .i32 0)]):=gC (by kernel_rfl) (by kernel_rfl) rfl (by decide)
theorem El.jf:fe Tryz.prog T.jf T.eO 8 80 (.agg #[(.int .i64 0),(.int .i64 0),(.int .i64 0),(.int .i64 0),(.int .i64 0),(.int .i64 0),(.int .i32 0),(.slice none 0 0)]):=gC (by kernel_rfl) (by kernel_rfl) rfl (by decide)
theorem U.gL:Tryz.prog.underlying T.gL=some (.array 2 T.int):=by kernel_rfl
theorem El.jP:fe Tryz.prog T.jP T.lE 2 16 (.agg #[(.int .i64 0),(.int .i64 0)]):=gC (by kernel_rfl) (by kernel_rfl) rfl (by decide)
theorem El.qQ:fe Tryz.prog T.qQ T.rp 2 16 (.agg #[(.int .i64 0),(.int .i64 0)]):=gC (by kernel_rfl) (by kernel_rfl) rfl (by decide)
theorem U.ji:Tryz.prog.underlying T.ji=some (.map T.int T.bool):=by kernel_rfl
theorem U.gx:Tryz.prog.underlying T.gx=some (.map T.int T.gL):=by kernel_rfl
theorem El.bz:fe Tryz.prog T.bz T.jr 2 16 (.agg #[(.int .i64 0),(.int .i64 0)]):=gC (by kernel_rfl) (by kernel_rfl) rfl (by decide)
theorem El.jy:fe Tryz.prog T.jy T.aP 1 24 (.slice none 0 0):=gC (by kernel_rfl) (by kernel_rfl) rfl (by decide)
theorem El.nu:fe Tryz.prog T.nu T.bool 1 1 (.bool false):=gC (by kernel_rfl) (by kernel_rfl) rfl (by decide)
theorem El.td:fe Tryz.prog T.td T.nu 1 24 (.slice none 0 0):=gC (by kernel_rfl) (by kernel_rfl) rfl (by decide)
theorem U.cG:Tryz.prog.underlying T.cG=some (.map T.int T.gl):=by kernel_rfl
theorem U.fM:Tryz.prog.underlying T.fM=some (.map T.int T.jr):=by kernel_rfl
theorem El.gK:fe Tryz.prog T.gK T.fo 4 64 (.agg #[(.int .i64 0),(.int .i64 0),(.slice none 0 0),(.slice none 0 0)]):=gC (by kernel_rfl) (by kernel_rfl) rfl (by decide)
theorem U.eo:Tryz.prog.underlying T.eo=some (.map T.int T.dJ):=by kernel_rfl
end Go.Proofs.YtnfiilgdjpdlkaaGreatDoor
namespace Go.Lft
open Go Go.ChangeShapes Go.WideShapes Go.RowKit
structure RT (P:Program) (t:TypeId) (α:Type) [Rep α]:Prop where
 cells : ∀{H:Type} {enc:TypeId × Value->H} {W:World} {spare:Nat->Bool} {held:Bool} {fuel:Nat} {cs:List Value} {d:DataW H} {ps:List MemPlace},
  DataW.trod enc P W 0 spare held fuel t cs=some (d,ps)->(∀b∈d.weights P t,b<=reachBytes)->∃x:α,Rep.rd (vw W.heap) cs x
 val : ∀{W:World} {r:Reach} {base:Nat} {v:Value},Value.okWide P W r base t v->if Rep.agg α then ∃cs,v = .agg cs else v.cells = #[v]
theorem RT.arg{P:Program}{t:TypeId}{α:Type}[Rep α](rt:RT P t α){H:Type}{enc:TypeId × Value->H}{W:World}{spare:Nat->Bool}{held:Bool}{v:Value}{d:DataW H}{ps:List MemPlace}{r:Reach}{base:Nat}(h:DataW.Trod enc P W 0 spare held t v d ps)(hok:Value.okWide P W r base t v)(hw : ∀b∈d.weights P t,b<=reachBytes): ∃x:α,Rd (vw W.heap) v x:=by
 obtain⟨fuel,h⟩:=h;obtain⟨x,hx⟩:=rt.cells h hw;have hv:=rt.val hok;refine⟨x,?_⟩;unfold Rd;split
 ·rename_i ha;rw[if_pos ha]at hv;obtain⟨cs,rfl⟩:=hv;exact⟨cs,rfl,hx⟩
 rename_i ha;rw[if_neg ha]at hv;rw[hv]at hx;exact hx
theorem wf_i64{n:Int}(h:(Lit.int .i64 n).wf=true):-9223372036854775808<=n/\n<=9223372036854775807:=by simp only[Lit.wf,KE,decide_eq_true_eq]at h;simpa[IntKind.min,IntKind.max,IntKind.signed,IntKind.bits]using h
section
variable {P:Program} {t e:TypeId} {H:Type} {enc:TypeId × Value->H} {W:World} {spare:Nat->Bool} {held:Bool} {fuel:Nat} {cs:List Value} {x:DataW H × List MemPlace}
theorem trod_int{k:IntKind}(ht:P.underlying t=some (.int k))(h:DataW.trod enc P W 0 spare held fuel t cs=some x): ∃n,cs=[.int k n]/\(Lit.int k n).wf=true:=by
 cases fuel with
 | zero=>simp[DataW.trod]at h
 | succ n=>unfold DataW.trod at h;rw[ht]at h;split at h<;>simp_all
end
section
variable {P:Program} {t e:TypeId}
theorem HU(ht:P.underlying t=some (.int .i64)):RT P t Int where
 cells:=fun{H enc W spare held fuel cs d ps} h _=>by
  obtain⟨n,rfl,hw⟩:=trod_int ht h
  exact⟨n,rfl,wf_i64 hw⟩
 val:=fun{W r base v} h=>by
  simp only[Value.okWide,ht,Cell.okWide]at h
  cases v<;>simp[Cell.ok,ht]at h ⊢<;>first | rfl | simp[Rep.agg,Value.cells]
theorem wI{W:World}{a:Addr}{v:Value}(h:W.cell? a=some v):a.spot=none/\∃c T fz,W.heap[a.block]? = some (.cells c T fz)/\c[a.off]? = some v:=by
 unfold World.cell? at h;split at h
 ·rename_i c T fz hb;split at h
  ·cases h
  rename_i hs;exact⟨by simpa using hs,c,T,fz,hb,h⟩
 cases h
theorem tB{W:World}{a:Addr}{n:Nat}{c:List Value}(hn:0<n)(h:W.cells? 0 a n=some c):a.spot=none/\iK (vw W.heap) a c:=by
 obtain⟨_,hl,hc⟩:=World.cells?_some h;have h0:=hc 0 hn;have e0:a.add 0=a:=by simp[Addr.add]
 rw[e0,K6 (by omega)]at h0;obtain⟨hs,arr,T,fz,hb,_⟩:=wI h0;refine⟨hs,arr,T,fz,hs,hb,Nj fun i=>?_⟩;by_cases hi:i<n
 ·have h1:=hc i hi;rw[bw hs]at h1;simp only[World.cell?,hb]at h1;rw[LH,if_pos (by omega),MI];simpa using h1
 rw[K8 (by simp;omega),K8 (by omega)]
theorem sN {H:Type} {P:Program} {e:TypeId} : ∀{l:List (DataW H)} {d:DataW H},d∈l->∀b∈d.weights P e,b∈DataW.weightsAll P e l
 | x::l,d,hd,b,hb=>by
  rw[DataW.weightsAll,KD];rcases KP.1 hd with rfl | hd
  ·exact .inl hb
  exact .inr (sN hd b hb)
theorem Ei{α:Type}[Rep α](ht:P.underlying t=some (.slice e))(hc:P.cellsOf e=Rep.n α)(hby:1<=P.bytesOf e)(re:RT P e α):RT P t (List α) where
 cells:=fun{H enc W spare held fuel cs d ps} h hw=>by
  rcases DataW.trod_slice ht h with⟨rfl,_⟩ | ⟨a,len,cap,elems,rest,n,_,rfl,hx,_,hlc,hcm,hel,hget,_,_⟩
  ·exact⟨[],_,rfl,none,0,rfl,by simp,by simp,.inl rfl⟩
  ·simp only[LP]at hx
   obtain⟨rfl,_⟩:=hx
   have hwt : ∀b∈(DataW.slice (elems.map (·.1)) (rest.map (·.1))).weights P t,b<=reachBytes:=hw
   unfold DataW.weights at hwt
   rw[ht]at hwt
   simp only[KP,KD,LR]at hwt
   have hlen:len<=140737488351232:=by
    have h1:=hwt _ (.inl rfl)
    have h2:elems.length*1<=(elems.length+rest.length)*P.bytesOf e:=MT (by omega) hby
    have h3:reachBytes=140737488351232:=rfl
    omega
   have hpos:=Rep.pos (α:=α)
   have each : ∀i,i<len->∃x:α,∃c,W.cells? 0 (a.add (i*Rep.n α)) (Rep.n α)=some c/\Rep.rd (vw W.heap) c x:=by
    intro i hi
    have h1:=hget i hi
    rw[hc,K6 (by omega),KH]at h1
    obtain⟨c,hc1,hc2⟩:=h1
    obtain⟨x,hx⟩:=re.cells (d:=elems[i].1) (ps:=elems[i].2) hc2 fun b hb=>hwt b (.inr (.inl (sN (LF.2 ⟨_,Ly (by omega),rfl⟩) b hb)))
    exact⟨x,c,hc1,hx⟩
   have key : ∀k,k<=len->∃l:List α,l.length=k/\∀(i:Nat) (hi:i<l.length),∃c,W.cells? 0 (a.add (i*Rep.n α)) (Rep.n α)=some c/\Rep.rd (vw W.heap) c l[i]:=by
    intro k
    induction k with
    | zero=>exact fun _=>⟨[],rfl,fun i hi=>by simp at hi⟩
    | succ k ih=>
     intro hk
     obtain⟨l,h1,h2⟩:=ih (by omega)
     obtain⟨x,c,h3,h4⟩:=each k (by omega)
     refine⟨l++[x],by simp[h1],fun i hi=>?_⟩
     rcases KB i l.length with hlt | hge
     ·rw[M5 hlt];exact h2 i hlt
     ·have:i=k:=by simp at hi;omega
      subst this
      rw[NQ hge]
      simp only[h1,NB,LS]
      exact⟨c,h3,h4⟩
   obtain⟨l,h1,h2⟩:=key len (Kz _)
   refine⟨l,_,rfl,some a,cap,by rw[h1],by omega,by omega,?_⟩
   rcases MJ len with h0 | h0
   ·left;exact KN (by omega)
   ·right
    obtain⟨c,h3,_⟩:=h2 0 (by omega)
    have e0:a.add (0*Rep.n α)=a:=by simp[Addr.add]
    rw[e0]at h3
    refine⟨a,rfl,(tB hpos h3).1,fun i hi=>?_⟩
    obtain⟨c,h3,h4⟩:=h2 i hi
    exact⟨c,(tB hpos h3).2,h4⟩
 val:=fun{W r base v} h=>by
  simp only[Value.okWide,ht,Cell.okWide]at h
  cases v<;>simp[Cell.ok,ht]at h ⊢<;>first | rfl | simp[Rep.agg,Value.cells]
theorem Gm(ht:P.underlying t=some (.array 2 e))(he:P.underlying e=some (.int .i64))(hc:P.cellsOf e=1)(hc2:P.cellsOf t=2):RT P t (Int × Int) where
 cells:=fun{H enc W spare held fuel cs d ps} h _=>by
  obtain⟨xs,m,_,_,hl,hxl,hget⟩:=DataW.trod_array ht h
  rw[hc2]at hl
  match cs,hl with
  | [u,v],_=>
   have h0:=hget 0 (by omega)
   have h1:=hget 1 (by omega)
   rw[hc,K6 (by omega)]at h0 h1
   obtain⟨a,e1,w1⟩:=trod_int he h0
   obtain⟨b,e2,w2⟩:=trod_int he h1
   simp at e1 e2
   subst e1;subst e2
   exact⟨(a,b),rfl,wf_i64 w1,wf_i64 w2⟩
 val:=fun{W r base v} h=>by
  simp only[Value.okWide,ht]at h
  obtain⟨cs,rfl,_⟩:=h
  exact⟨cs,rfl⟩
end
theorem DY{w w':World}(hs:Same w w')(hle:(vw w.heap).le (vw w'.heap)):Below w.heap.size w w':=
 ⟨hs.os,hs.tape,hs.output,hs.size,fun k hk=>by have:=hle k w.heap[k] (KO hk);rw[KO hk];exact this⟩
theorem pD {H:Type} {enc:TypeId × Value->H} {P:Program} {W W':World} (hl:laidOutB P=true) (hb:Below W.heap.size W W') : ∀{ts:List TypeId} {vs:List Value} {ds:List (DataW H)} {ps:List MemPlace},
  (∀t∈ts,P.readableRec t=true/\t<P.types.size)->DataW.TrodAll enc P W 0 (fun _=>true) true ts vs ds ps->(∀x∈ps,x.block<W.heap.size)->DataW.TrodAll enc P W' 0 (fun b=>decide (b<W.heap.size)) true ts vs ds ps
 | [],vs,ds,ps,_,h,_=>by obtain⟨rfl,rfl,rfl⟩:=trodAll_nil h;rfl
 | t::ts,vs,ds,ps,hr,h,hlt=>by obtain⟨v,vs',d,ds',p,q,rfl,rfl,rfl,h1,h2⟩:=trodAll_cons h;obtain⟨g1,g2⟩:=hr t (KI ..);exact⟨p,q,Below.trod hl g1 g2 h1 hb fun x hx=>hlt x (LD _ hx),pD hl hb (fun t ht=>hr t (KJ _ ht)) h2 fun x hx=>hlt x (LA _ hx),rfl⟩
theorem Er{H:Type}{enc:TypeId × Value->H}{P:Program}{fn:Func}{s:ChangeSpec}{W W':World}{args:Array Value}{ds gs:List (DataW H)}{before:List MemPlace}{fresh:Bool}{tb:TypeId}(hl:laidOutB P=true)(hr : ∀t∈fn.params.toList,P.readableRec t=true/\t<P.types.size)(hW:DataW.Whole enc P fn.params.toList s.vars false W args.toList ds gs before)(hv:s.vars=[])(hs:s.fn H (ds++gs)={ results:=[.lit (.bool true)],args:=ds })(hres:fn.resultTypes = #[tb])(htb:P.underlying tb=some .bool)(hb:Below W.heap.size W W'):s.post enc P fn false fresh false false W args (.bool true) W':=by
 have hW0:=hW;obtain⟨p,q,hA,hV,rfl,_,_⟩:=hW;rw[hv]at hV;obtain⟨rfl,rfl⟩:=trodVars_none hV;have hlt : ∀x∈p,x.block<W.heap.size:=fun x hx=>by simpa using hW0.lt x (LD _ hx)
 refine⟨ds,[],p++[],[],p,[],hW0,?_,?_,?_,hb.frame _,fun h=>by cases h⟩
 ·rw[hs,hres];exact trodAll_mk1 (shut_bool htb true)
 ·rw[hs];exact pD hl hb hr hA hlt
 rw[hv,hs];rfl
end Go.Lft
namespace Go.Proofs.YtnfiilgdjpdlkaaGreatDoor
open Go Go.Lft
theorem Tryz.own:ownKnob Tryz.prog.godebug=none:=by kernel_rfl
theorem Tryz.laidOut:laidOutB Tryz.prog=true:=by kernel_rfl
theorem rtI:RT Tryz.prog T.int Int:=HU (by kernel_rfl)
theorem rtIs:RT Tryz.prog T.aP (List Int):=Ei (e:=T.int) (by kernel_rfl) (by kernel_rfl) (of_decide_eq_true (by kernel_rfl)) rtI
end Go.Proofs.YtnfiilgdjpdlkaaGreatDoor
namespace Go.Lft
open Go Go.ChangeShapes Go.WideShapes Go.RowKit
theorem Jg{H:Type}{enc:TypeId × Value->H}{P:Program}{a:Assume}{C:Checked}{os:Os}{f:FuncId}{fn:Func}{s:ChangeSpec}{conds:List PathCond}{fresh:Bool}{tb t1 t2 t3:TypeId}{α β γ:Type}[Rep α][Rep β][Rep γ]{X:World->Prop}{F:Heap->Prop}(hX : ∀w w':World,w.heap=w'.heap->X w->X w')(hF : ∀w,X w->F w.heap)(own:ownKnob C.prog.godebug=none)(started:os.Started)(noInit:C.prog.inits.idxOf? f=none)(hfn:C.prog.funcs[f]? = some fn)(hP:C.prog=P)(witness : ∃(w:World) (tape:Tape) (i:Input),w.os=os/\(w.forCall tape i).Shaped C.prog/\i.vars=[]/\Input.okWide C.prog (w.forCall tape i) .any w.heap.size f i/\
   ((s.pre enc C.prog fn conds false (w.forCall tape i).memory i.args/\X (w.forCall tape i).memory)/\sizedMet enc C.prog fn (OpenSpec.ofChange s) false (w.forCall tape i).memory i.args)/\a.holds C.prog (lone (Frame.enter C.prog f i.args .normal) [] (w.forCall tape i)))(hl:laidOutB P=true)(hr : ∀t∈fn.params.toList,P.readableRec t=true/\t<P.types.size)(hv:s.vars=[])(hs : ∀ds,ds.length=3->s.fn H ds={ results:=[.lit (.bool true)],args:=ds })(hres:fn.resultTypes = #[tb])(htb:P.underlying tb=some .bool)(hp:fn.params = #[t1,t2,t3])(r1:RT P t1 α)(r2:RT P t2 β)(r3:RT P t3 γ)(hcall : ∀(h:Heap) (v1:Value) (x1:α) (v2:Value) (x2:β) (v3:Value) (x3:γ),F h->Rd (vw h) v1 x1->Rd (vw h) v2 x2->Rd (vw h) v3 x3->aw P f #[v1,v2,v3] h (fun v h'=>v = .bool true/\(vw h).le (vw h'))):
  ReturnsInHanded a C os f .any (fun w args=>(s.pre enc C.prog fn conds false w args/\X w)/\sizedMet enc C.prog fn (OpenSpec.ofChange s) false w args) (s.post enc C.prog fn false fresh false false):=by
 subst hP;refine returnsInHanded_of_change_and (X:=fun w _=>X w) (fun w w' _ hh h=>hX w w' hh h) own started noInit hfn witness ?_;intro W base args ds gs before hval hW _ hwt hXW _;have hW0:=hW;obtain⟨p,q,hA,hV,_,_,_⟩:=hW;rw[hv]at hV;obtain⟨hgs,_⟩:=trodVars_none hV;rw[hp]at hA;obtain⟨v1,v2,v3,d1,d2,d3,p1,p2,p3,hargs,hds,_,h1,h2,h3⟩:=trodAll_three hA;have hlen:(ds++gs).length=3:=by rw[hds,hgs];rfl
 have e0:s.plain.varTypes C.prog=[]:=by simp[DataSpec.varTypes,ChangeSpec.plain,hv]
 rw[hgs,hds,hp,e0]at hwt;simp only[L2,Lo,decide_eq_true_eq]at hwt;obtain⟨x1,q1⟩:=r1.arg h1 (hval 0 t1 v1 (by rw[hp];rfl) (by rw[hargs];rfl)) (fun b hb=>hwt b (by simp[DataW.weightsEach,hb]));obtain⟨x2,q2⟩:=r2.arg h2 (hval 1 t2 v2 (by rw[hp];rfl) (by rw[hargs];rfl)) (fun b hb=>hwt b (by simp[DataW.weightsEach,hb]));obtain⟨x3,q3⟩:=r3.arg h3 (hval 2 t3 v3 (by rw[hp];rfl) (by rw[hargs];rfl)) (fun b hb=>hwt b (by simp[DataW.weightsEach,hb]));rw[hargs];refine(hcall W.heap v1 x1 v2 x2 v3 x3 (hF W hXW) q1 q2 q3 W rfl).mono ?_;rintro e W' ⟨v,rfl,⟨rfl,hle⟩,hsame⟩;rw[<-hargs];have hgs':ds++gs=ds:=by rw[hgs,L2]
 exact⟨_,rfl,Er hl hr hW0 hv (by rw[hs _ hlen,hgs']) hres htb (DY hsame hle)⟩
end Go.Lft
namespace Go.Proofs.YtnfiilgdjpdlkaaGreatDoor
open Go Go.Lft
abbrev Gr:=List (List Int)
def mK (g:Gr) (a b:Int):Bool:=decide (0<=a/\a<g.length/\0<=b/\b<g.length)&&(nth g a.toNat).contains b
def kL (g:Gr) (a:Int):List Int:=sift (fun b=>mK g a b) (fun b=>(b:Int)) g.length
def rO (g:Gr):Gr:=rows (fun b=>sift (fun a=>mK g a b) (fun a=>(a:Int)) g.length) g.length
def tx (gone:Int) (l:List Int) (i:Nat) (out:List Bool):List Bool:=out.set (nth l i).toNat (nth out (nth l i).toNat||decide (nth l i≠gone))
def outBlock (g:Gr) (gone:Int) (a:Nat) (out:List Bool):List Bool:=if nth out a then up (tx gone (kL g a)) (kL g a).length out else out
def mH (g:Gr) (gone:Int) (out:List Bool):List Bool:=up (outBlock g gone) g.length out
def mw (g:Gr) (gone:Int):List Bool:=
 if g.length=0\/gone=0 then List.replicate g.length false else up (fun _=>mH g gone) g.length ((List.replicate g.length false).set 0 true)
theorem xU{β γ:Type}(m:β->γ){f:Nat->β->β}(hf : ∀k x,m (f k x)=m x)(n:Nat)(x:β):m (up f n x)=m x:=by
 induction n with
 | zero=>rfl
 | succ n ih=>rw[up,hf,ih]
def domC (g:Gr) (a b:Nat):Bool:=nth (mw g (-1)) a&&nth (mw g (-1)) b&&(decide ((a:Int)=(b:Int))||!nth (mw g a) b)
def nV (l:List Int) (a:Int):Nat->Int->Bool
 | 0,_=>false
 | k+1,b=>if b=a then true else if b<0\/(l.length:Int)<=b then false else nV l a k (nth l b.toNat)
def eB (l:List Int) (a b:Int):Bool:=decide (0<=a/\a<l.length/\0<=b/\b<l.length)&&nV l a (l.length+1) b
def BO (p:Nat->Bool) (b:Nat) (s:Bool):Bool:=s&&p b
def sD (p:Nat->Bool) (n:Nat):Bool:=up (BO p) n true
theorem tC{p:Nat->Bool}{n:Nat}:sD p (n+1)=(sD p n&&p n):=rfl
theorem A7{g:Gr}:(rO g).length=g.length:=by simp[rO]
def jq (nx:Int->List Int):Nat->Int->List Bool × List Int->List Bool × List Int
 | 0,_,s=>s
 | n+1,a,s=>let r:=up (fun i s=>if nth s.1 (nth (nx a) i).toNat then s else jq nx n (nth (nx a) i) s) (nx a).length (s.1.set a.toNat true,s.2);(r.1,r.2++[a])
def cU (nx:Int->List Int) (n:Nat) (a:Int) (i:Nat) (s:List Bool × List Int):List Bool × List Int:=if nth s.1 (nth (nx a) i).toNat then s else jq nx n (nth (nx a) i) s
theorem jO{nx:Int->List Int}{n:Nat}{a:Int}{s:List Bool × List Int}:
  jq nx (n+1) a s=((up (cU nx n a) (nx a).length (s.1.set a.toNat true,s.2)).1,(up (cU nx n a) (nx a).length (s.1.set a.toNat true,s.2)).2++[a]):=rfl
def dA (t:List Bool):Nat:=t.count false
theorem jg{t:List Bool}{i:Nat}(hi:i<t.length)(hf:nth t i=false):dA (t.set i true)+1=dA t:=by rw[az hi]at hf;unfold dA;rw[List.count_set hi];have hp:0<t.count false:=List.count_pos_iff.2 (hf▸Ly hi);simp[hf];omega
theorem wC{t:List Bool}{i:Nat}:dA (t.set i true)<=dA t:=by
 rcases KB i t.length with hi | hi
 ·unfold dA;rw[List.count_set hi];simp
 rw[List.set_eq_of_length_le hi];exact Kz _
theorem rM{β:Type}(I:β->Prop){f:Nat->β->β}(hf : ∀k x,I x->I (f k x))(n:Nat)(x:β)(hx:I x):I (up f n x):=by
 induction n with
 | zero=>exact hx
 | succ n ih=>rw[up];exact hf _ _ ih
theorem oz {nx:Int->List Int} {m c:Nat} : ∀(n:Nat) (a:Int) (s:List Bool × List Int),s.1.length=m/\dA s.1<=c->(jq nx n a s).1.length=m/\dA (jq nx n a s).1<=c
 | 0,_,_,h=>h
 | n+1,a,s,h=>by
  rw[jO];refine rM (fun s:List Bool × List Int=>s.1.length=m/\dA s.1<=c) (fun k x hx=>?_) _ _ ⟨by simpa using h.1,KU wC h.2⟩;unfold cU;split
  ·exact hx
  exact oz n _ x hx
def kH (nx:Int->List Int) (n:Nat):List Int:=if n=0 then[] else(jq nx n 0 (List.replicate n false,[])).2.reverse
theorem kQ{α:Type}[Rep α]{W:View}{h:Heap}{e:TypeId}{v:Value}{l:List α}(o:OwnT W h e v l):v.cells = #[v]/\v.oneCell'=true:=by have:=o.len (K:=nothing);cases v<;>first | exact⟨rfl,rfl⟩ | (simp[Un.ev,vL]at this)
end Go.Proofs.YtnfiilgdjpdlkaaGreatDoor
namespace Go.Proofs.YtnfiilgdjpdlkaaGreatDoor
open Go Go.Lft
section
set_option maxRecDepth 100000
def q:List LC->LC|[]=>.skip|[a]=>a|a::b::l=>.seq a (q (b::l))
def k(K:List Nat)(S:List (Nat×E)):LC:=.reg false (.fin K S [])
def f(n c i:Nat)(K K2:List Nat)(e:E)(b:LC):LC:=.seq (.seq (.reg false (.fin K [(c,e)] [])) (.cond (.tmp c) [c] .skip (.exit n))) (.seq b (.reg false (.fin K2 [(i,.bin (.arith .add) (.tmp i) (.con (.int .i64 1)))] [])))
def u(n:Nat)(x y:LC):LC:=.cond (.tmp n) [n] x y
def v(n:Nat)(x:LC):LC:=.block n (.loop x)
def l(K:List Nat)(S A:List (Nat×E))(o:Op)(y d:Nat)(r:Reg):Reg:=.loud K S A none [] false o y (some d) true r
def s(K:List Nat)(S A:List (Nat×E))(o:Op)(r:Reg):Reg:=.loud K S A none [] false o 0 none false r
def p(A:List (Nat×E))(o:Op)(y d:Nat)(r:Reg):Reg:=.loud [] [] A none [] false o y (some d) true r
def z:Reg:=.fin [] [] []
def w:List Nat->List (Nat×E)|[]=>[]|a::l=>(a,.tmp a)::w l
def t(n:Nat):E:=.tmp n
def c(n:Int):E:=.con (.int .i64 n)
def d(x:E):E:=.un .load x
def e(n:Nat)(x:E):E:=.un (.fld n) x
def g(n:Nat)(x:E):E:=.un .load (.un (.fld n) x)
def i(n:Nat)(x y:E):E:=.bin (.idx n) x y
def h(x:E):E:=.un .len x
def j(o:BinOp)(x y:E):E:=.bin (.cmp o) x y
def o(x y:E):E:=.bin (.arith .add) x y
def a(n:Nat):Operand:=.tmp n
def x(n:Nat)(A:List Nat)(T:List Nat):Op:=.call ⟨.value (.func n),(A.map .tmp).toArray,T.toArray⟩
theorem sh:(∀a,q [a]=a)/\(∀a b l,q (a::b::l)=.seq a (q (b::l)))/\(∀K S,k K S=.reg false (.fin K S []))/\(∀n c i K L e b,f n c i K L e b=.seq (.seq (.reg false (.fin K [(c,e)] [])) (.cond (.tmp c) [c] .skip (.exit n))) (.seq b (.reg false (.fin L [(i,.bin (.arith .add) (.tmp i) (.con (.int .i64 1)))] []))))/\(∀n x y,u n x y=.cond (.tmp n) [n] x y)/\(∀n x,v n x=.block n (.loop x))/\(∀K S A o y d r,l K S A o y d r=.loud K S A none [] false o y (some d) true r)/\(∀K S A o r,s K S A o r=.loud K S A none [] false o 0 none false r)/\(∀A o y d r,p A o y d r=.loud [] [] A none [] false o y (some d) true r)/\(z=.fin [] [] [])/\(w []=[])/\(∀a l,w (a::l)=(a,.tmp a)::w l)/\(∀n,t n=.tmp n)/\(∀n,c n=.con (.int .i64 n))/\(∀x,d x=.un .load x)/\(∀n x,e n x=.un (.fld n) x)/\(∀n x,g n x=.un .load (.un (.fld n) x))/\(∀n x y,i n x y=.bin (.idx n) x y)/\(∀x,h x=.un .len x)/\(∀o x y,j o x y=.bin (.cmp o) x y)/\(∀m n,o m n=.bin (.arith .add) m n)/\(∀n,a n=.tmp n)/\(∀n A T,x n A T=.call ⟨.value (.func n),(A.map .tmp).toArray,T.toArray⟩)/\(∀(p:Nat->Operand) n l,List.map p (n::l)=p n::l.map p)/\(∀p:Nat->Operand,List.map p []=[]):=⟨fun _=>rfl,fun _ _ _=>rfl,fun _ _=>rfl,fun _ _ _ _ _ _ _=>rfl,fun _ _ _=>rfl,fun _ _=>rfl,fun _ _ _ _ _ _ _=>rfl,fun _ _ _ _ _=>rfl,fun _ _ _ _ _=>rfl,rfl,rfl,fun _ _=>rfl,fun _=>rfl,fun _=>rfl,fun _=>rfl,fun _ _=>rfl,fun _ _=>rfl,fun _ _ _=>rfl,fun _=>rfl,fun _ _ _=>rfl,fun _ _=>rfl,fun _=>rfl,fun _ _ _=>rfl,fun _ _ _=>rfl,fun _=>rfl⟩
set_option maxRecDepth 100000
abbrev N.slices_Reverse_int:Nat:=143
abbrev N.slices_Sort_int:Nat:=148
abbrev N.slices_Compact_int:Nat:=149
abbrev N.dh:Nat:=9
def L.dh.l1:LC:=by apply(fun{b:LC}(_:b=q [q [.reg false (l [40] [(40,t 11)] [] (x 24 [] []) 3 41 (.fin [42] [(42,j .leq (t 40) (t 41))] [])),u 42 .skip (.exit 0)],.block 1 (q [.reg false (l [46,47,48,49,50,51] [] [(46,.un (.au 2) (t 8)),(47,t 9),(48,t 10),(49,t 11),(51,d (.bin (.aidx 2 1) (t 5) (c 0)))] (x 16 [46,47,48,49,51] [27,3,3,3,3]) 44 52 (l [45,53,54,55] [(53,.un (.ext 0) (t 52)),(54,.un (.ext 1) (t 52)),(55,.un (.ext 2) (t 52))] [] (.alloc 38) 0 13 (s [12] [(12,t 53)] (w [13,54]) (.store 38 (a 13) (a 54)) (.fin [14] [(14,t 55)] [])))),.reg false (l [57,58,59,60,61,62] [] [(57,.un (.au 2) (t 8)),(58,t 9),(59,t 10),(60,t 11),(62,d (.bin (.aidx 2 1) (t 5) (c 1)))] (x 16 [57,58,59,60,62] [27,3,3,3,3]) 44 63 (l [56,64,65,66] [(64,.un (.ext 0) (t 63)),(65,.un (.ext 1) (t 63)),(66,.un (.ext 2) (t 63))] [] (.alloc 38) 0 16 (s [15] [(15,t 64)] (w [16,65]) (.store 38 (a 16) (a 65)) (.fin [17] [(17,t 66)] [])))),q [.reg false (.loud [67,68,69,70,71,72,73,74,75,76,77,78,79] [(77,.ite (.bin (.eqB true) (t 14) (t 17)) (.con (.bool true)) (j .neq (h (t 12)) (h (t 15))))] [(78,.gd (.ite (.bin (.eqB true) (t 14) (t 17)) (.con (.bool true)) (j .neq (h (t 12)) (h (t 15)))) false (.un (.au 5) (t 13))),(79,.gd (.ite (.bin (.eqB true) (t 14) (t 17)) (.con (.bool true)) (j .neq (h (t 12)) (h (t 15)))) false (.un (.au 5) (t 16)))] (some (.ite (.bin (.eqB true) (t 14) (t 17)) (.con (.bool true)) (j .neq (h (t 12)) (h (t 15))),false)) [] false (x 18 [78,79] [38,38]) 4 (some 80) true (.fin [81,82] [(82,.ite (t 77) (.con (.bool true)) (.un .not (t 80)))] [])),u 82 (q [k [6] [(6,.con (.bool false))],.ret]) .skip],q [k [83,84,85,86,87,88] [(88,.ite (j .neq (t 11) (c 26)) (j .neq (t 11) (c 30)) (.con (.bool false)))],u 88 (q [q [.reg false (l [89,90] [] [(89,t 12),(90,t 15)] (x 17 [89,90] [36,36]) 4 91 (.fin [92] [(92,.un .not (t 91))] [])),u 92 (q [k [6] [(6,.con (.bool false))],.ret]) .skip],.exit 1]) .skip],.reg true (.fin [93,94,95,96,97,98,99,100,101,102,103,104,105,106,107,108,109,110,111,112,113,114,115,116,117,118,119,120,121,122,123,124,125,126,127,128,129,130,131,132,133,134,135,136,137,138,139,140,141,142,143,144,145,146,147,148,149,150,151,152,153,154,155,156,157,158] [(158,.ite (t 14) (.ite (.ite (.ite (.ite (.ite (.ite (j .neq (h (t 12)) (c 2)) (.con (.bool true)) (j .neq (g 0 (i 8 (t 12) (c 0))) (c 4))) (.con (.bool true)) (j .neq (g 1 (i 8 (t 12) (c 0))) (d (.bin (.aidx 2 1) (t 5) (c 0))))) (.con (.bool true)) (j .neq (g 1 (i 8 (t 15) (c 0))) (d (.bin (.aidx 2 1) (t 5) (c 1))))) (.con (.bool true)) (j .neq (g 4 (i 8 (t 12) (c 1))) (d (.bin (.aidx 2 1) (t 5) (c 0))))) (.con (.bool true)) (j .neq (g 4 (i 8 (t 15) (c 1))) (d (.bin (.aidx 2 1) (t 5) (c 1))))) (.con (.bool true)) (j .neq (g 6 (i 8 (t 12) (c 0))) (g 4 (i 5 (g 1 (i 6 (g 1 (t 8)) (t 9))) (t 10))))) (.con (.bool false)))] [.gd (.gd (t 14) true (.ite (.ite (.ite (.ite (.ite (j .neq (h (t 12)) (c 2)) (.con (.bool true)) (j .neq (g 0 (i 8 (t 12) (c 0))) (c 4))) (.con (.bool true)) (j .neq (g 1 (i 8 (t 12) (c 0))) (d (.bin (.aidx 2 1) (t 5) (c 0))))) (.con (.bool true)) (j .neq (g 1 (i 8 (t 15) (c 0))) (d (.bin (.aidx 2 1) (t 5) (c 1))))) (.con (.bool true)) (j .neq (g 4 (i 8 (t 12) (c 1))) (d (.bin (.aidx 2 1) (t 5) (c 0))))) (.con (.bool true)) (j .neq (g 4 (i 8 (t 15) (c 1))) (d (.bin (.aidx 2 1) (t 5) (c 1)))))) false (j .neq (g 6 (i 8 (t 12) (c 0))) (g 4 (i 5 (g 1 (i 6 (g 1 (t 8)) (t 9))) (t 10)))),.gd (.gd (t 14) true (.ite (.ite (.ite (.ite (j .neq (h (t 12)) (c 2)) (.con (.bool true)) (j .neq (g 0 (i 8 (t 12) (c 0))) (c 4))) (.con (.bool true)) (j .neq (g 1 (i 8 (t 12) (c 0))) (d (.bin (.aidx 2 1) (t 5) (c 0))))) (.con (.bool true)) (j .neq (g 1 (i 8 (t 15) (c 0))) (d (.bin (.aidx 2 1) (t 5) (c 1))))) (.con (.bool true)) (j .neq (g 4 (i 8 (t 12) (c 1))) (d (.bin (.aidx 2 1) (t 5) (c 0)))))) false (j .neq (g 4 (i 8 (t 15) (c 1))) (d (.bin (.aidx 2 1) (t 5) (c 1)))),.gd (.gd (t 14) true (.ite (.ite (.ite (j .neq (h (t 12)) (c 2)) (.con (.bool true)) (j .neq (g 0 (i 8 (t 12) (c 0))) (c 4))) (.con (.bool true)) (j .neq (g 1 (i 8 (t 12) (c 0))) (d (.bin (.aidx 2 1) (t 5) (c 0))))) (.con (.bool true)) (j .neq (g 1 (i 8 (t 15) (c 0))) (d (.bin (.aidx 2 1) (t 5) (c 1)))))) false (j .neq (g 4 (i 8 (t 12) (c 1))) (d (.bin (.aidx 2 1) (t 5) (c 0)))),.gd (.gd (t 14) true (.ite (.ite (j .neq (h (t 12)) (c 2)) (.con (.bool true)) (j .neq (g 0 (i 8 (t 12) (c 0))) (c 4))) (.con (.bool true)) (j .neq (g 1 (i 8 (t 12) (c 0))) (d (.bin (.aidx 2 1) (t 5) (c 0)))))) false (j .neq (g 1 (i 8 (t 15) (c 0))) (d (.bin (.aidx 2 1) (t 5) (c 1)))),.gd (.gd (t 14) true (.ite (j .neq (h (t 12)) (c 2)) (.con (.bool true)) (j .neq (g 0 (i 8 (t 12) (c 0))) (c 4)))) false (j .neq (g 1 (i 8 (t 12) (c 0))) (d (.bin (.aidx 2 1) (t 5) (c 0)))),.gd (.gd (t 14) true (j .neq (h (t 12)) (c 2))) false (j .neq (g 0 (i 8 (t 12) (c 0))) (c 4))]),u 158 (q [k [6] [(6,.con (.bool false))],.ret]) .skip]),k [43,44,11] [(11,o (t 11) (c 1))]])=>b);simp only[sh];rfl
def L.dh:LFn:=by apply(fun{b:LFn}(_:b=⟨[t 6],q [.reg false (p (w [1]) (.box 50 (a 1)) 0 4 (p (w [2]) (.box 50 (a 2)) 0 5 (.fin [6] [(6,.con (.bool false))] []))),.reg false (p [] (x 11 [] []) 4 18 (.fin [7] [(7,t 18)] [])),.reg false (l [19] [] [(19,t 0)] (x 13 [19] [22]) 27 20 (p [] (.alloc 27) 0 8 (s [] [] (w [8,20]) (.store 27 (a 8) (a 20)) z))),k [21,22,23,24,25,26,27,9] [(9,.bin (.div .rem) (.bin (.bits .and) (d (.bin (.aidx 2 1) (t 4) (c 0))) (c 65535)) (h (g 1 (t 8))))],.reg true (.fin [28,29,30,31,32,33,34,35,36,37,38,39,10] [(10,.bin (.div .rem) (.bin (.bits .and) (d (.bin (.aidx 2 1) (t 4) (c 1))) (c 65535)) (o (h (g 1 (i 6 (g 1 (t 8)) (t 9)))) (c 1)))] []),q [k [11] [(11,c 0)],v 0 L.dh.l1],k [159,6] [(6,t 7)],.ret]⟩)=>b);simp only[sh];rfl
theorem E.dh:aN Tryz.prog Tryz.f9=some L.dh:=by kernel_rfl
theorem F.dh:Tryz.prog.funcs[N.dh]? = some Tryz.f9:=Tryz.func9
end
section
set_option maxRecDepth 100000
abbrev N.fS:Nat:=11
def L.fS:LFn:=by apply(fun{b:LFn}(_:b=⟨[t 0],q [k [0] [(0,.con (.bool false))],.reg false (p [] (x 33 [] []) 27 26 (p (w [26]) (.call ⟨.value (.func 15),#[a 26,.const (.int .i64 0),.const (.int .i64 1),.const (.int .i64 16)],#[27,3,3,3]⟩) 42 27 (.fin [25,28,29,30,1,2,3] [(1,.un (.ext 0) (t 27)),(2,.un (.ext 1) (t 27)),(3,.un (.ext 2) (t 27))] []))),.reg false (p [] (x 33 [] []) 27 32 (p (w [32]) (.call ⟨.value (.func 15),#[a 32,.const (.int .i64 0),.const (.int .i64 1),.const (.int .i64 3)],#[27,3,3,3]⟩) 42 33 (.fin [31,34,35,36,4,5,6] [(4,.un (.ext 0) (t 33)),(5,.un (.ext 1) (t 33)),(6,.un (.ext 2) (t 33))] []))),.reg false (p [] (x 33 [] []) 27 38 (p (w [38]) (.call ⟨.value (.func 15),#[a 38,.const (.int .i64 0),.const (.int .i64 1),.const (.int .i64 17)],#[27,3,3,3]⟩) 42 39 (.fin [37,40,41,42,7,8,9] [(9,.un (.ext 2) (t 39))] [.un (.ext 1) (t 39),.un (.ext 0) (t 39)]))),.reg false (p [] (x 33 [] []) 27 44 (p (w [44]) (.call ⟨.value (.func 16),#[a 44,.const (.int .i64 0),.const (.int .i64 1),.const (.int .i64 16),.const (.int .i64 9)],#[27,3,3,3,3]⟩) 44 45 (l [43,46,47,48] [(46,.un (.ext 0) (t 45)),(47,.un (.ext 1) (t 45)),(48,.un (.ext 2) (t 45))] [] (.alloc 38) 0 11 (s [10] [(10,t 46)] (w [11,47]) (.store 38 (a 11) (a 47)) (.fin [12] [(12,t 48)] []))))),.reg false (p [] (x 33 [] []) 27 50 (p (w [50]) (.call ⟨.value (.func 16),#[a 50,.const (.int .i64 0),.const (.int .i64 2),.const (.int .i64 0),.const (.int .i64 9)],#[27,3,3,3,3]⟩) 44 51 (l [49,52,53,54] [(52,.un (.ext 0) (t 51)),(53,.un (.ext 1) (t 51)),(54,.un (.ext 2) (t 51))] [] (.alloc 38) 0 14 (.loud [13] [] (w [14,53]) none [t 52] false (.store 38 (a 14) (a 53)) 0 none false (.fin [15] [(15,t 54)] []))))),.reg false (p [] (.build 64 #[(0,.const (.int .i64 1))]) 64 56 (p [] (.build 64 #[(0,.const (.int .i64 38))]) 64 57 (p (w [56,57]) (.buildSlice 55 2 #[(0,a 56),(1,a 57)]) 55 58 (p (w [58]) (x 23 [58] [55]) 58 59 (.fin [55,60,61,16,17] [(16,.un (.ext 0) (t 59)),(17,.un (.ext 1) (t 59))] []))))),.reg false (p [] (.build 64 #[(0,.const (.int .i64 1))]) 64 63 (p (w [63]) (.buildSlice 55 1 #[(0,a 63)]) 55 64 (p [] (x 33 [] []) 27 65 (p (w [64,65]) (x 26 [64,65] [55,27]) 65 66 (.fin [62,67,68,69,18,19,20] [(18,.un (.ext 0) (t 66)),(19,.un (.ext 1) (t 66)),(20,.un (.ext 2) (t 66))] []))))),.reg false (p [] (.build 64 #[(0,.const (.int .i64 16))]) 64 71 (p (w [71]) (.buildSlice 55 1 #[(0,a 71)]) 55 72 (p [] (x 33 [] []) 27 73 (p (w [72,73]) (x 26 [72,73] [55,27]) 65 74 (.fin [70,75,76,77,21,22,23] [(21,.un (.ext 0) (t 74))] [.un (.ext 2) (t 74),.un (.ext 1) (t 74)]))))),.reg false (l [78] [(78,t 1)] [] (.buildSlice 22 1 #[(0,.const (.int .i64 1))]) 22 79 (p (w [78,79]) (x 19 [78,79] [22,22]) 4 80 (.loud [81,82] [(81,t 80),(82,.gd (t 80) true (t 2))] [] (some (t 80,true)) [] false (.buildSlice 22 1 #[(0,.const (.int .i64 2))]) 22 (some 83) true (.loud [] [] (w [82,83]) (some (t 81,true)) [] false (x 19 [82,83] [22,22]) 4 (some 84) true (.loud [85,86,87,88,89,90] [(89,.ite (.ite (t 81) (t 84) (.con (.bool false))) (t 3) (.con (.bool false))),(90,.gd (.ite (.ite (t 81) (t 84) (.con (.bool false))) (t 3) (.con (.bool false))) true (t 4))] [] (some (.ite (.ite (t 81) (t 84) (.con (.bool false))) (t 3) (.con (.bool false)),true)) [] false (.buildSlice 22 2 #[(0,.const (.int .i64 1)),(1,.const (.int .i64 2))]) 22 (some 91) true (.loud [] [] (w [90,91]) (some (t 89,true)) [] false (x 19 [90,91] [22,22]) 4 (some 92) true (.fin [93,94,95,96,97,98,99,100,101,102,103,104,105,24] [(24,.ite (.ite (.ite (.ite (t 89) (t 92) (.con (.bool false))) (j .eql (h (t 5)) (c 0)) (.con (.bool false))) (t 6) (.con (.bool false))) (.un .not (t 9)) (.con (.bool false)))] []))))))),.reg false (.loud [106,107,108,109,110,111] [(110,.ite (t 24) (t 12) (.con (.bool false))),(111,.gd (.ite (t 24) (t 12) (.con (.bool false))) true (t 10))] [] (some (.ite (t 24) (t 12) (.con (.bool false)),true)) [] false (.build 80 #[(0,.const (.int .i64 18)),(1,.const (.int .i64 3)),(3,.const (.int .i64 1)),(6,.const (.int .i32 5))]) 80 (some 112) true (.loud [] [] (w [112]) (some (t 110,true)) [] false (.buildSlice 36 1 #[(0,a 112)]) 36 (some 113) true (.loud [] [] (w [111,113]) (some (t 110,true)) [] false (x 17 [111,113] [36,36]) 4 (some 114) true (.loud [115,116,117,118,119,120,121,122,123,124,125,126,127,128,129,130,131,132,133,134,135,136,137,138,139,140,141,142,143,144,145,146,147,148,149,150,151,152,153] [(153,.ite (.ite (.ite (.ite (.ite (.ite (.ite (.ite (.ite (.ite (t 110) (t 114) (.con (.bool false))) (t 15) (.con (.bool false))) (j .eql (g 0 (t 14)) (c 7)) (.con (.bool false))) (j .eql (g 1 (t 14)) (c 3)) (.con (.bool false))) (j .eql (t 16) (c 20)) (.con (.bool false))) (j .eql (t 17) (c 1)) (.con (.bool false))) (j .eql (t 18) (c 21)) (.con (.bool false))) (j .eql (t 19) (c 0)) (.con (.bool false))) (j .eql (t 20) (c 2)) (.con (.bool false))) (j .eql (t 21) (c 0)) (.con (.bool false)))] [] (some (.ite (.ite (.ite (.ite (.ite (.ite (.ite (.ite (.ite (.ite (t 110) (t 114) (.con (.bool false))) (t 15) (.con (.bool false))) (j .eql (g 0 (t 14)) (c 7)) (.con (.bool false))) (j .eql (g 1 (t 14)) (c 3)) (.con (.bool false))) (j .eql (t 16) (c 20)) (.con (.bool false))) (j .eql (t 17) (c 1)) (.con (.bool false))) (j .eql (t 18) (c 21)) (.con (.bool false))) (j .eql (t 19) (c 0)) (.con (.bool false))) (j .eql (t 20) (c 2)) (.con (.bool false))) (j .eql (t 21) (c 0)) (.con (.bool false)),true)) [] false (x 24 [] []) 3 (some 154) true (.loud [155,156,157] [(157,.ite (t 153) (j .eql (t 154) (c 37)) (.con (.bool false)))] [] (some (.ite (t 153) (j .eql (t 154) (c 37)) (.con (.bool false)),true)) [] false (x 22 [] []) 55 (some 158) true (.loud [159,160,161,162] [(162,.ite (t 157) (j .eql (h (t 158)) (c 37)) (.con (.bool false)))] [] (some (.ite (t 157) (j .eql (h (t 158)) (c 37)) (.con (.bool false)),true)) [] false (.call ⟨.value (.func 20),#[.const (.int .i64 16)],#[3]⟩) 9 (some 163) true (.fin [164,165,0] [(0,.ite (t 162) (.bin (.eqS false) (t 163) (.con (.string ⟨#[97,100,100,105]⟩))) (.con (.bool false)))] []))))))),.ret]⟩)=>b);simp only[sh];rfl
theorem E.fS:aN Tryz.prog Tryz.f11=some L.fS:=by kernel_rfl
theorem F.fS:Tryz.prog.funcs[N.fS]? = some Tryz.f11:=Tryz.func11
abbrev N.fY:Nat:=13
def L.fY:LFn:=by apply(fun{b:LFn}(_:b=⟨[.un (.au 2) (t 2)],q [.reg false (p [] (.alloc 27) 0 2 z),.reg false (l [3,4,5,6,7] [] [(7,.bin .hi (t 0) (.bin .min (h (t 0)) (c 200)))] (x 35 [7] [22]) 27 8 (s [] [] (w [2,8]) (.store 27 (a 2) (a 8)) z)),.ret]⟩)=>b);simp only[sh];rfl
theorem E.fY:aN Tryz.prog Tryz.f13=some L.fY:=by kernel_rfl
theorem F.fY:Tryz.prog.funcs[N.fY]? = some Tryz.f13:=Tryz.func13
abbrev N.fZ:Nat:=15
def L.fZ:LFn:=by apply(fun{b:LFn}(_:b=⟨[t 8,t 9,t 10],q [.reg false (p (w [0]) (.box 27 (a 0)) 0 4 (.fin [8,9,10] [(8,.con (.slice none 0 0)),(9,.con (.slice none 0 0)),(10,.con (.bool false))] [])),.reg false (l [14,15,16] [] [(14,.un (.au 2) (t 4)),(15,t 1),(16,t 2)] (.call ⟨.value (.func 38),#[a 14,a 15,a 16,.const (.int .i64 0)],#[27,3,3,3]⟩) 98 17 (l [13,18,19] [(18,.un (.ext 0) (t 17)),(19,.un (.ext 1) (t 17))] [] (.alloc 97) 0 11 (s [] [] (w [11,18]) (.store 97 (a 11) (a 18)) (.fin [10] [(10,t 19)] [])))),q [.reg false (.loud [20,21,22,23,24,25,26,27] [(26,.ite (.un .not (t 10)) (.con (.bool true)) (j .lss (t 3) (c 1)))] [(27,.gd (.ite (.un .not (t 10)) (.con (.bool true)) (j .lss (t 3) (c 1))) false (.un (.au 2) (t 4)))] (some (.ite (.un .not (t 10)) (.con (.bool true)) (j .lss (t 3) (c 1)),false)) [] false (x 27 [27] [27]) 4 (some 28) true (.fin [29,30] [(30,.ite (t 26) (.con (.bool true)) (.un .not (t 28)))] [])),u 30 (q [k [8,9,10] [(8,.con (.slice none 0 0)),(9,.con (.slice none 0 0)),(10,.con (.bool false))],.ret]) .skip],.reg false (l [32,33] [] [(32,.un (.au 13) (t 11)),(33,t 3)] (x 39 [32,33] [97,3]) 102 34 (l [31,35,36] [(35,.un (.ext 0) (t 34)),(36,.un (.ext 1) (t 34))] [] (.alloc 101) 0 12 (s [] [] (w [12,35]) (.store 101 (a 12) (a 35)) (.fin [10] [(10,t 36)] [])))),q [k [37,38] [(38,.un .not (t 10))],u 38 (q [k [8,9,10] [(8,.con (.slice none 0 0)),(9,.con (.slice none 0 0)),(10,.con (.bool false))],.ret]) .skip],.reg true (.fin [39,40,41,42,8,9,10] [(8,g 0 (t 12)),(9,g 1 (t 12)),(10,.con (.bool true))] []),.ret]⟩)=>b);simp only[sh];rfl
theorem E.fZ:aN Tryz.prog Tryz.f15=some L.fZ:=by kernel_rfl
theorem F.fZ:Tryz.prog.funcs[N.fZ]? = some Tryz.f15:=Tryz.func15
abbrev N.gF:Nat:=16
def L.gF:LFn:=by apply(fun{b:LFn}(_:b=⟨[t 10,.un (.au 5) (t 11),t 12],q [.reg false (p (w [0]) (.box 27 (a 0)) 0 5 (l [10] [(10,.con (.slice none 0 0))] [] (.alloc 38) 0 11 (.fin [12] [(12,.con (.bool false))] []))),.reg false (l [17,18,19,20] [] [(17,.un (.au 2) (t 5)),(18,t 1),(19,t 2),(20,t 4)] (x 38 [17,18,19,20] [27,3,3,3]) 98 21 (l [16,22,23] [(22,.un (.ext 0) (t 21)),(23,.un (.ext 1) (t 21))] [] (.alloc 97) 0 13 (s [] [] (w [13,22]) (.store 97 (a 13) (a 22)) (.fin [14] [(14,t 23)] [])))),q [.reg false (.loud [24,25,26,27] [(26,.un .not (t 14))] [(27,.gd (.un .not (t 14)) false (.un (.au 2) (t 5)))] (some (.un .not (t 14),false)) [] false (x 27 [27] [27]) 4 (some 28) true (.fin [29,30] [(30,.ite (t 26) (.con (.bool true)) (.un .not (t 28)))] [])),u 30 (q [.reg false (p [] (.build 38 #[]) 38 31 (s [10] [(10,.con (.slice none 0 0))] (w [11,31]) (.store 38 (a 11) (a 31)) (.fin [12] [(12,.con (.bool false))] []))),.ret]) .skip],.reg false (l [33,34] [] [(33,.un (.au 13) (t 13)),(34,t 3)] (x 39 [33,34] [97,3]) 102 35 (l [32,36,37] [(36,.un (.ext 0) (t 35)),(37,.un (.ext 1) (t 35))] [] (.alloc 101) 0 15 (s [] [] (w [15,36]) (.store 101 (a 15) (a 36)) (.fin [14] [(14,t 37)] [])))),q [k [38,39] [(39,.un .not (t 14))],u 39 (q [.reg false (p [] (.build 38 #[]) 38 40 (s [10] [(10,.con (.slice none 0 0))] (w [11,40]) (.store 38 (a 11) (a 40)) (.fin [12] [(12,.con (.bool false))] []))),.ret]) .skip],.reg true (.loud [41,42,43,44,10] [(10,g 2 (t 15))] [(11,t 11),(44,.un (.au 5) (e 3 (t 15)))] none [] true (.store 38 (a 11) (a 44)) 0 none false (.fin [12] [(12,.con (.bool true))] [])),.ret]⟩)=>b);simp only[sh];rfl
theorem E.gF:aN Tryz.prog Tryz.f16=some L.gF:=by kernel_rfl
theorem F.gF:Tryz.prog.funcs[N.gF]? = some Tryz.f16:=Tryz.func16
abbrev N.di:Nat:=17
def L.di.l1:LC:=by apply(fun{b:LC}(_:b=f 0 14 5 [11,12,13,14] [15,16,5] (j .lss (t 5) (h (t 0))) (.block 1 (q [.reg true (.loud [17,18,19,20,21,22,23,24] [] [(20,.un (.au 8) (i 8 (t 0) (t 5))),(24,.un (.au 8) (i 8 (t 1) (t 5)))] none [] true (x 40 [20,24] [80,80]) 4 (some 25) true (.fin [26] [(26,.un .not (t 25))] [])),u 26 (q [k [4] [(4,.con (.bool false))],.ret]) .skip])))=>b);simp only[sh];rfl
def L.di:LFn:=by apply(fun{b:LFn}(_:b=⟨[t 4],q [k [4] [(4,.con (.bool false))],q [k [6,7,8,9,10] [(10,j .neq (h (t 0)) (h (t 1)))],u 10 (q [k [4] [(4,.con (.bool false))],.ret]) .skip],q [k [5] [(5,c 0)],v 0 L.di.l1],k [4] [(4,.con (.bool true))],.ret]⟩)=>b);simp only[sh];rfl
theorem E.di:aN Tryz.prog Tryz.f17=some L.di:=by kernel_rfl
theorem F.di:Tryz.prog.funcs[N.di]? = some Tryz.f17:=Tryz.func17
abbrev N.eD:Nat:=18
def L.eD:LFn:=by apply(fun{b:LFn}(_:b=⟨[t 4],q [.reg false (p (w [0]) (.box 38 (a 0)) 0 2 (p (w [1]) (.box 38 (a 1)) 0 3 (.fin [4] [(4,.con (.bool false))] []))),.reg false (.loud [5,6,7,8,9,10,11,12,13,14,15,16,17,18,19,20,21,22,23,24,25,26,27,28,29,30,31,32,33,34,35] [(31,.ite (.ite (.ite (j .eql (g 0 (t 2)) (g 0 (t 3))) (j .eql (g 1 (t 2)) (g 1 (t 3))) (.con (.bool false))) (j .eql (g 2 (t 2)) (g 2 (t 3))) (.con (.bool false))) (j .eql (g 4 (t 2)) (g 4 (t 3))) (.con (.bool false)))] [(33,.gd (.ite (.ite (.ite (j .eql (g 0 (t 2)) (g 0 (t 3))) (j .eql (g 1 (t 2)) (g 1 (t 3))) (.con (.bool false))) (j .eql (g 2 (t 2)) (g 2 (t 3))) (.con (.bool false))) (j .eql (g 4 (t 2)) (g 4 (t 3))) (.con (.bool false))) true (g 3 (t 2))),(35,.gd (.ite (.ite (.ite (j .eql (g 0 (t 2)) (g 0 (t 3))) (j .eql (g 1 (t 2)) (g 1 (t 3))) (.con (.bool false))) (j .eql (g 2 (t 2)) (g 2 (t 3))) (.con (.bool false))) (j .eql (g 4 (t 2)) (g 4 (t 3))) (.con (.bool false))) true (g 3 (t 3)))] (some (.ite (.ite (.ite (j .eql (g 0 (t 2)) (g 0 (t 3))) (j .eql (g 1 (t 2)) (g 1 (t 3))) (.con (.bool false))) (j .eql (g 2 (t 2)) (g 2 (t 3))) (.con (.bool false))) (j .eql (g 4 (t 2)) (g 4 (t 3))) (.con (.bool false)),true)) [] false (x 19 [33,35] [22,22]) 4 (some 36) true (.fin [37,4] [(4,.ite (t 31) (t 36) (.con (.bool false)))] [])),.ret]⟩)=>b);simp only[sh];rfl
theorem E.eD:aN Tryz.prog Tryz.f18=some L.eD:=by kernel_rfl
theorem F.eD:Tryz.prog.funcs[N.eD]? = some Tryz.f18:=Tryz.func18
abbrev N.eW:Nat:=19
def L.eW.l1:LC:=by apply(fun{b:LC}(_:b=f 0 14 5 [11,12,13,14] [15,16,5] (j .lss (t 5) (h (t 0))) (.block 1 (q [.reg true (.fin [17,18,19,20,21,22,23,24,25] [(25,j .neq (d (i 1 (t 0) (t 5))) (d (i 1 (t 1) (t 5))))] []),u 25 (q [k [4] [(4,.con (.bool false))],.ret]) .skip])))=>b);simp only[sh];rfl
def L.eW:LFn:=by apply(fun{b:LFn}(_:b=⟨[t 4],q [k [4] [(4,.con (.bool false))],q [k [6,7,8,9,10] [(10,j .neq (h (t 0)) (h (t 1)))],u 10 (q [k [4] [(4,.con (.bool false))],.ret]) .skip],q [k [5] [(5,c 0)],v 0 L.eW.l1],k [4] [(4,.con (.bool true))],.ret]⟩)=>b);simp only[sh];rfl
theorem E.eW:aN Tryz.prog Tryz.f19=some L.eW:=by kernel_rfl
theorem F.eW:Tryz.prog.funcs[N.eW]? = some Tryz.f19:=Tryz.func19
abbrev N.iI:Nat:=20
def L.iI:LFn:=by apply(fun{b:LFn}(_:b=⟨[t 2],q [k [2] [(2,.con (.string ⟨#[]⟩))],.reg false (p [] (.call ⟨.value (.func 41),#[.const (.string ⟨#[108,105,32,108,105,119,32,97,100,100,32,115,117,98,32,109,117,108,32,97,110,100,32,111,114,32,120,111,114,32,115,104,108,32,115,104,114,32,115,97,114,32,101,113,32,108,116,32,108,116,117,32,100,105,118,32,97,100,100,105,32,115,117,98,105,32,97,110,100,105,32,115,104,108,105,32,115,104,114,105,32,115,97,114,105,32,109,97,100,100,32,108,100,32,108,100,97,32,108,100,120,32,108,100,108,32,115,116,32,115,116,97,32,115,116,120,32,115,116,108,32,99,97,108,108,32,109,117,108,119,32,98,110,122,32,98,101,113,32,98,108,116,32,98,108,116,117,32,106,116]⟩)],#[9]⟩) 105 4 (.fin [3] [(3,t 4)] [])),q [k [5,6,7,8,9,10,11,12] [(12,.ite (j .lss (t 0) (c 1)) (.con (.bool true)) (j .gtr (t 0) (h (t 3))))],u 12 (q [k [2] [(2,.con (.string ⟨#[]⟩))],.ret]) .skip],k [13,14,15,16,17,2] [(2,d (i 1 (t 3) (.bin (.arith .sub) (t 0) (c 1))))],.ret]⟩)=>b);simp only[sh];rfl
theorem E.iI:aN Tryz.prog Tryz.f20=some L.iI:=by kernel_rfl
theorem F.iI:Tryz.prog.funcs[N.iI]? = some Tryz.f20:=Tryz.func20
end
section
set_option maxRecDepth 100000
abbrev N.ik:Nat:=22
def L.ik.l1:LC:=by apply(fun{b:LC}(_:b=q [k [7] [(7,j .lss (t 6) (t 5))],u 7 .skip (.exit 0),.block 1 (q [k [8,9,10,2,3] [(2,t 6),(3,d (i 1 (t 4) (t 6)))],.reg false (l [11,12,13,14] [(11,t 1)] [(13,o (t 2) (c 1)),(14,t 3)] (.build 64 #[(0,a 13),(1,a 14)]) 64 15 (p (w [15]) (.buildSlice 55 1 #[(0,a 15)]) 55 16 (p (w [11,16]) (.call ⟨.builtin .append,#[a 11,a 16],#[55,55]⟩) 55 17 (.fin [1] [(1,t 17)] []))))]),k [18,6] [(6,o (t 6) (c 1))]])=>b);simp only[sh];rfl
def L.ik:LFn:=by apply(fun{b:LFn}(_:b=⟨[t 0],q [k [0] [(0,.con (.slice none 0 0))],k [1] [(1,.con (.slice none 0 0))],q [.reg false (p [] (.buildSlice 22 37 #[(0,.const (.int .i64 1)),(1,.const (.int .i64 2)),(2,.const (.int .i64 1)),(3,.const (.int .i64 1)),(4,.const (.int .i64 3)),(5,.const (.int .i64 1)),(6,.const (.int .i64 1)),(7,.const (.int .i64 1)),(8,.const (.int .i64 1)),(9,.const (.int .i64 1)),(10,.const (.int .i64 1)),(11,.const (.int .i64 1)),(12,.const (.int .i64 1)),(13,.const (.int .i64 1)),(14,.const (.int .i64 12)),(15,.const (.int .i64 1)),(16,.const (.int .i64 1)),(17,.const (.int .i64 1)),(18,.const (.int .i64 1)),(19,.const (.int .i64 1)),(20,.const (.int .i64 1)),(21,.const (.int .i64 3)),(22,.const (.int .i64 2)),(23,.const (.int .i64 2)),(24,.const (.int .i64 2)),(25,.const (.int .i64 4)),(26,.const (.int .i64 1)),(27,.const (.int .i64 1)),(28,.const (.int .i64 1)),(29,.const (.int .i64 3)),(30,.const (.int .i64 6)),(31,.const (.int .i64 4)),(32,.const (.int .i64 1)),(33,.const (.int .i64 1)),(34,.const (.int .i64 1)),(35,.const (.int .i64 1)),(36,.const (.int .i64 2))]) 22 4 (.fin [5,6] [(5,h (t 4)),(6,c 0)] [])),v 0 L.ik.l1],k [19,0] [(0,t 1)],.ret]⟩)=>b);simp only[sh];rfl
theorem E.ik:aN Tryz.prog Tryz.f22=some L.ik:=by kernel_rfl
theorem F.ik:Tryz.prog.funcs[N.ik]? = some Tryz.f22:=Tryz.func22
abbrev N.fC:Nat:=23
def L.fC.l1:LC:=by apply(fun{b:LC}(_:b=q [k [12] [(12,j .lss (t 11) (t 10))],u 12 .skip (.exit 0),.block 1 (q [.reg false (l [13,14,15] [(13,t 11),(15,.un (.au 2) (i 2 (t 9) (t 11)))] [] (.alloc 64) 0 5 (s [4] [(4,t 13)] (w [5,15]) (.store 64 (a 5) (a 15)) z)),.block 2 (q [.reg false (l [17,18] [] [(18,g 0 (t 5))] (x 20 [18] [3]) 9 19 (.fin [20,16] [(16,.bin (.eqS false) (t 19) (.con (.string ⟨#[]⟩)))] [])),u 16 (q [k [21,2,3] [(2,c 20),(3,t 4)],.ret]) (q [.reg false (l [23,24] [] [(24,g 1 (t 5))] (.call ⟨.value (.func 42),#[a 24,.const (.int .i64 0),.const (.int .i64 1000)],#[3,3,3]⟩) 4 25 (.fin [26,22] [(22,.un .not (t 25))] [])),u 22 (q [k [27,2,3] [(2,c 22),(3,t 4)],.ret]) .skip])])]),k [28,11] [(11,o (t 11) (c 1))]])=>b);simp only[sh];rfl
def L.fC:LFn:=by apply(fun{b:LFn}(_:b=⟨[t 2,t 3],q [k [2,3] [(2,c 0),(3,c 0)],q [k [6,7,8] [(8,j .gtr (h (t 0)) (c 1024))],u 8 (q [k [2,3] [(2,c 2),(3,c 0)],.ret]) .skip],q [k [9,10,11] [(9,t 0),(10,h (t 0)),(11,c 0)],v 0 L.fC.l1],k [2,3] [(2,c 0),(3,c 0)],.ret]⟩)=>b);simp only[sh];rfl
theorem E.fC:aN Tryz.prog Tryz.f23=some L.fC:=by kernel_rfl
theorem F.fC:Tryz.prog.funcs[N.fC]? = some Tryz.f23:=Tryz.func23
abbrev N.eH:Nat:=24
def L.eH:LFn:=by apply(fun{b:LFn}(_:b=⟨[t 0],q [k [0] [(0,c 0)],.reg false (p [] (.call ⟨.value (.func 41),#[.const (.string ⟨#[108,105,32,108,105,119,32,97,100,100,32,115,117,98,32,109,117,108,32,97,110,100,32,111,114,32,120,111,114,32,115,104,108,32,115,104,114,32,115,97,114,32,101,113,32,108,116,32,108,116,117,32,100,105,118,32,97,100,100,105,32,115,117,98,105,32,97,110,100,105,32,115,104,108,105,32,115,104,114,105,32,115,97,114,105,32,109,97,100,100,32,108,100,32,108,100,97,32,108,100,120,32,108,100,108,32,115,116,32,115,116,97,32,115,116,120,32,115,116,108,32,99,97,108,108,32,109,117,108,119,32,98,110,122,32,98,101,113,32,98,108,116,32,98,108,116,117,32,106,116]⟩)],#[9]⟩) 105 1 (.fin [2,0] [(0,h (t 1))] [])),.ret]⟩)=>b);simp only[sh];rfl
theorem E.eH:aN Tryz.prog Tryz.f24=some L.eH:=by kernel_rfl
theorem F.eH:Tryz.prog.funcs[N.eH]? = some Tryz.f24:=Tryz.func24
abbrev N.cm:Nat:=26
def L.cm.l1:LC:=by apply(fun{b:LC}(_:b=q [k [40] [(40,j .lss (t 39) (t 38))],u 40 .skip (.exit 0),.block 1 (q [.reg false (l [41,42] [(42,.un (.au 2) (i 2 (t 37) (t 39)))] [] (.alloc 64) 0 11 (s [] [] (w [11,42]) (.store 64 (a 11) (a 42)) z)),.reg false (s [43,44,45] [] [(43,d (t 9)),(45,g 0 (t 11))] (.mapUpdate 108 (a 43) (a 45) (.const (.bool true))) z)]),k [46,39] [(39,o (t 39) (c 1))]])=>b);simp only[sh];rfl
def L.cm.l3:LC:=by apply(fun{b:LC}(_:b=q [k [60] [(60,j .lss (t 59) (t 58))],u 60 .skip (.exit 4),.block 5 (q [.reg false (l [61,62,63] [(61,t 59),(63,.un (.au 5) (i 5 (t 57) (t 59)))] [] (.alloc 70) 0 16 (s [15] [(15,t 61)] (w [16,63]) (.store 70 (a 16) (a 63)) z)),.reg false (.loud [64,65,66,67,68,69,70,71,72,73,74,75] [(72,.ite (j .neq (g 0 (t 16)) (c 16)) (j .neq (g 0 (t 16)) (c 18)) (.con (.bool false)))] [(73,.gd (.ite (j .neq (g 0 (t 16)) (c 16)) (j .neq (g 0 (t 16)) (c 18)) (.con (.bool false))) true (.un (.au 2) (t 3))),(75,.gd (.ite (j .neq (g 0 (t 16)) (c 16)) (j .neq (g 0 (t 16)) (c 18)) (.con (.bool false))) true (g 1 (t 16)))] (some (.ite (j .neq (g 0 (t 16)) (c 16)) (j .neq (g 0 (t 16)) (c 18)) (.con (.bool false)),true)) [] false (x 28 [73,75] [27,3]) 4 (some 76) true (.fin [77] [(77,.ite (t 72) (t 76) (.con (.bool false)))] [])),u 77 (.reg false (l [78,79,80,81,82] [(78,d (t 12)),(80,g 1 (t 16))] [(81,t 13),(82,t 15)] (.build 50 #[(0,a 81),(1,a 82)]) 50 83 (s [] [] (w [78,80,83]) (.mapUpdate 109 (a 78) (a 80) (a 83)) z))) .skip]),k [84,59] [(59,o (t 59) (c 1))]])=>b);simp only[sh];rfl
def L.cm.l2:LC:=by apply(fun{b:LC}(_:b=q [k [52] [(52,j .lss (t 51) (t 50))],u 52 .skip (.exit 2),.block 3 (q [.reg false (l [53,54,55] [(53,t 51),(55,.un (.au 6) (i 6 (t 49) (t 51)))] [] (.alloc 35) 0 14 (s [13] [(13,t 53)] (w [14,55]) (.store 35 (a 14) (a 55)) z)),k [56,57,58,59] [(57,g 1 (t 14)),(58,h (g 1 (t 14))),(59,c 0)],v 4 L.cm.l3]),k [85,51] [(51,o (t 51) (c 1))]])=>b);simp only[sh];rfl
def L.cm.l5:LC:=by apply(fun{b:LC}(_:b=q [k [100] [(100,j .lss (t 99) (t 98))],u 100 .skip (.exit 8),.block 9 (q [k [101,20] [(20,t 99)],k [21] [(21,.con (.bool true))],q [k [102,103,104,105,106,107,108,109,110,111,112,113,114,115] [(115,.ite (j .lss (t 20) (h (g 1 (t 19)))) (j .neq (g 0 (i 5 (g 1 (t 19)) (t 20))) (c 16)) (.con (.bool false)))],u 115 (q [.reg true (.both (.loud [117,118,119,120,121,122,123] [] [(117,d (t 12)),(123,g 1 (i 5 (g 1 (t 19)) (t 20)))] none [] true (.lookup 109 (a 117) (a 123) true) 111 (some 124) true (l [116,125,126] [(125,.un (.ext 0) (t 124)),(126,.un (.ext 1) (t 124))] [] (.alloc 50) 0 22 (s [] [] (w [22,125]) (.store 50 (a 22) (a 125)) (.fin [23] [(23,t 126)] [])))) (l [117,118,119,120,121,122,123] [(117,d (t 12)),(123,g 1 (i 5 (g 1 (t 19)) (t 20)))] [] (.alloc 50) 0 22 (.loud [] [] (w [117,123]) none [] true (.lookup 109 (a 117) (a 123) true) 111 (some 124) true (s [116,125,126] [(126,.un (.ext 1) (t 124))] [(22,t 22),(125,.un (.ext 0) (t 124))] (.store 50 (a 22) (a 125)) (.fin [23] [(23,t 126)] []))))),.reg false (.loud [127,128,129,130,131] [(128,t 23),(129,.gd (t 23) true (.un (.au 2) (t 22)))] [(130,.gd (t 23) true (t 18)),(131,.gd (t 23) true (t 20))] (some (t 23,true)) [] false (.build 50 #[(0,a 130),(1,a 131)]) 50 (some 132) true (.loud [] [] (w [129,132]) (some (t 128,true)) [] false (.binOp .eql 50 (a 129) (a 132) 50) 4 (some 133) true (.fin [134] [(134,.ite (t 128) (t 133) (.con (.bool false)))] []))),u 134 (k [21] [(21,.con (.bool false))]) .skip]) .skip],.reg false (.loud [135,136,137,138,139] [(136,t 21)] [(137,.gd (t 21) true (d (t 17))),(138,.gd (t 21) true (t 18)),(139,.gd (t 21) true (t 20))] (some (t 21,true)) [] false (.call ⟨.value (a 137),#[a 138,a 139],#[3,3]⟩) 4 (some 140) true (.fin [141,142] [(142,.ite (t 136) (.un .not (t 140)) (.con (.bool false)))] [])),u 142 (q [k [143,144,4,5,6] [(4,c 21),(5,t 18),(6,t 20)],.ret]) .skip]),k [145,99] [(99,o (t 99) (c 1))]])=>b);simp only[sh];rfl
def L.cm.l4:LC:=by apply(fun{b:LC}(_:b=q [k [91] [(91,j .lss (t 90) (t 89))],u 91 .skip (.exit 6),.block 7 (q [.reg false (l [92,93,94] [(92,t 90),(94,.un (.au 6) (i 6 (t 88) (t 90)))] [] (.alloc 35) 0 19 (s [18] [(18,t 92)] (w [19,94]) (.store 35 (a 19) (a 94)) z)),k [95,96,97,98,99] [(98,o (h (g 1 (t 19))) (c 1)),(99,c 0)],v 8 L.cm.l5]),k [146,90] [(90,o (t 90) (c 1))]])=>b);simp only[sh];rfl
def L.cm:LFn:=by apply(fun{b:LFn}(_:b=⟨[t 4,t 5,t 6],q [.reg false (p (w [1]) (.box 27 (a 1)) 0 3 (.fin [4,5,6] [(4,c 0),(5,c 0),(6,c 0)] [])),q [.reg false (l [25] [] [(25,t 0)] (x 23 [25] [55]) 58 26 (.fin [24,27,28,7,8] [(7,.un (.ext 0) (t 26))] [.un (.ext 1) (t 26)])),k [29,30] [(30,j .neq (t 7) (c 0))],u 30 (q [k [31,4,5,6] [(4,t 7),(5,c 0),(6,c 0)],.ret]) .skip],q [.reg false (l [32] [] [(32,.un (.au 2) (t 3))] (x 27 [32] [27]) 4 33 (.fin [34] [(34,.un .not (t 33))] [])),u 34 (q [k [4,5,6] [(4,c 1),(5,c 0),(6,c 0)],.ret]) .skip],.reg false (p [] (.makeMap 108 none) 108 35 (s [] [] (w [35]) (.insert 108 (a 35) (.const (.int .i64 0)) (.const (.bool true))) (l [36] [(36,t 35)] [] (.alloc 108) 0 9 (s [] [] (w [9,36]) (.store 108 (a 9) (a 36)) z)))),q [k [37,38,39] [(37,t 0),(38,h (t 0)),(39,c 0)],v 0 L.cm.l1],.reg false (p [] (.makeMap 109 none) 109 47 (p [] (.alloc 109) 0 12 (s [] [] (w [12,47]) (.store 109 (a 12) (a 47)) z))),q [k [48,49,50,51] [(49,g 1 (t 3)),(50,h (g 1 (t 3))),(51,c 0)],v 2 L.cm.l2],.reg false (p [] (.alloc 110) 0 17 z),.reg false (s [86] [] [(17,t 17),(86,.un (.fn 43) (.snoc (.snoc (.snoc (.snoc (.con (.tuple #[])) (t 3)) (t 9)) (t 12)) (t 17)))] (.store 110 (a 17) (a 86)) z),q [k [87,88,89,90] [(88,g 1 (t 3)),(89,h (g 1 (t 3))),(90,c 0)],v 6 L.cm.l4],k [4,5,6] [(4,c 0),(5,c 0),(6,c 0)],.ret]⟩)=>b);simp only[sh];rfl
theorem E.cm:aN Tryz.prog Tryz.f26=some L.cm:=by kernel_rfl
theorem F.cm:Tryz.prog.funcs[N.cm]? = some Tryz.f26:=Tryz.func26
abbrev N.fO:Nat:=27
def L.fO:LFn:=by apply(fun{b:LFn}(_:b=⟨[t 2],q [.reg false (p (w [0]) (.box 27 (a 0)) 0 1 (.fin [2] [(2,.con (.bool false))] [])),.reg false (l [7] [] [(7,.un (.au 2) (t 1))] (x 44 [7] [27]) 65 8 (.fin [6,9,10,11,3,4,5] [(3,.un (.ext 0) (t 8))] [.un (.ext 2) (t 8),.un (.ext 1) (t 8)])),k [12,13,2] [(2,j .eql (t 3) (c 0))],.ret]⟩)=>b);simp only[sh];rfl
theorem E.fO:aN Tryz.prog Tryz.f27=some L.fO:=by kernel_rfl
theorem F.fO:Tryz.prog.funcs[N.fO]? = some Tryz.f27:=Tryz.func27
abbrev N.ee:Nat:=28
def L.ee:LFn:=by apply(fun{b:LFn}(_:b=⟨[t 4],q [.reg false (p (w [0]) (.box 27 (a 0)) 0 2 (p (w [1]) (.box 3 (a 1)) 0 3 (.fin [4] [(4,.con (.bool false))] []))),.reg false (p [] (.alloc 113) 0 5 (p [] (.alloc 113) 0 6 z)),.reg false (.loud [8,9] [] [(8,.un (.au 2) (t 2)),(9,.un (.fn 46) (.snoc (.snoc (.snoc (.con (.tuple #[])) (t 3)) (t 5)) (t 6)))] none [] false (x 45 [8,9] [27,117]) 0 (some 10) false z),q [.reg true (.fin [11,12,13,14,15,16,17,18,19,20,21,22,23,24,25,26,27,28,29,30,31,32,33,34,35,36,37,38,39,40,41,42,43,44,45,46,47] [(47,.ite (.ite (.ite (.ite (j .neq (h (d (t 5))) (c 1)) (.con (.bool true)) (j .neq (h (d (t 6))) (c 1))) (.con (.bool true)) (j .lss (g 1 (i 2 (d (t 5)) (c 0))) (c 0))) (.con (.bool true)) (j .neq (g 0 (i 2 (d (t 5)) (c 0))) (g 0 (i 2 (d (t 6)) (c 0))))) (.con (.bool true)) (j .leq (g 1 (i 2 (d (t 6)) (c 0))) (g 1 (i 2 (d (t 5)) (c 0)))))] []),u 47 (q [k [4] [(4,.con (.bool false))],.ret]) .skip],.reg true (l [48,49,50,51,52,53,54,55,56,57,58,59,60,61,62] [(62,.un (.au 5) (i 5 (g 1 (i 6 (g 1 (t 2)) (g 0 (i 2 (d (t 5)) (c 0))))) (g 1 (i 2 (d (t 5)) (c 0)))))] [] (.alloc 70) 0 7 (.loud [] [] (w [7,62]) none [] true (.store 70 (a 7) (a 62)) 0 none false z)),.reg false (.loud [63,64,65,66,67] [(67,j .eql (g 1 (t 7)) (d (t 3)))] [] (some (j .eql (g 1 (t 7)) (d (t 3)),true)) [] false (.buildSlice 22 6 #[(0,.const (.int .i64 1)),(1,.const (.int .i64 2)),(2,.const (.int .i64 4)),(3,.const (.int .i64 11)),(4,.const (.int .i64 12)),(5,.const (.int .i64 13))]) 22 (some 68) true (.loud [69,70] [] [(68,t 68),(70,.gd (t 67) true (g 0 (t 7)))] (some (t 67,true)) [] false (x 47 [68,70] [22,3]) 4 (some 71) true (.fin [72,4] [(4,.ite (t 67) (t 71) (.con (.bool false)))] []))),.ret]⟩)=>b);simp only[sh];rfl
theorem E.ee:aN Tryz.prog Tryz.f28=some L.ee:=by kernel_rfl
theorem F.ee:Tryz.prog.funcs[N.ee]? = some Tryz.f28:=Tryz.func28
abbrev N.gI:Nat:=33
def L.gI:LFn:=by apply(fun{b:LFn}(_:b=⟨[.un (.au 2) (t 0)],q [.reg false (p [] (.alloc 27) 0 0 z),.reg false (p [] (.build 70 #[(0,.const (.int .i64 1)),(1,.const (.int .i64 2)),(4,.const (.int .i32 5))]) 70 1 (p [] (.buildSlice 22 2 #[(0,.const (.int .i64 1)),(1,.const (.int .i64 2))]) 22 2 (p (w [2]) (.build 70 #[(0,.const (.int .i64 2)),(1,.const (.int .i64 3)),(3,a 2)]) 70 3 (p (w [1,3]) (.buildSlice 31 2 #[(0,a 1),(1,a 3)]) 31 4 (p [] (.buildSlice 22 1 #[(0,.const (.int .i64 3))]) 22 5 (p (w [5]) (.build 33 #[(0,.const (.int .i64 4)),(1,a 5)]) 33 6 (p (w [4,6]) (.build 35 #[(1,a 4),(2,a 6)]) 35 7 (p (w [7]) (.buildSlice 25 1 #[(0,a 7)]) 25 8 (p (w [8]) (.build 27 #[(0,.const (.int .i64 2)),(1,a 8)]) 27 9 (s [] [] (w [0,9]) (.store 27 (a 0) (a 9)) z)))))))))),.ret]⟩)=>b);simp only[sh];rfl
theorem E.gI:aN Tryz.prog Tryz.f33=some L.gI:=by kernel_rfl
theorem F.gI:Tryz.prog.funcs[N.gI]? = some Tryz.f33:=Tryz.func33
abbrev N.cu:Nat:=34
def L.cu:LFn:=by apply(fun{b:LFn}(_:b=⟨[t 4],q [k [4] [(4,c 0)],k [5] [(5,c 0)],q [.reg true (.fin [6,7,8,9,10,11,12,13,14,15] [(15,j .lss (g 1 (.un .nilPtr (t 0))) (h (g 0 (.un .nilPtr (t 0)))))] []),u 15 (.reg true (.fin [16,17,18,19,20,21,22,23,24,25,5] [(5,d (i 1 (g 0 (.un .nilPtr (t 0))) (g 1 (.un .nilPtr (t 0)))))] [])) .skip],.reg false (s [26,27,28,29,30,31,32,33] [] [(33,e 1 (.un .nilPtr (t 0))),(31,o (g 1 (.un .nilPtr (t 0))) (c 1))] (.store 3 (a 33) (a 31)) z),k [34,35,36,37,38,39,40,4] [(4,.bin (.div .rem) (o (.bin (.div .rem) (t 5) (t 1)) (t 1)) (t 1))],.ret]⟩)=>b);simp only[sh];rfl
theorem E.cu:aN Tryz.prog Tryz.f34=some L.cu:=by kernel_rfl
theorem F.cu:Tryz.prog.funcs[N.cu]? = some Tryz.f34:=Tryz.func34
end
section
set_option maxRecDepth 100000
abbrev N.aA:Nat:=35
def L.aA.l1:LC:=by apply(fun{b:LC}(_:b=f 0 62 6 [60,61,62] [63,64,6] (j .lss (t 6) (t 4)) (.block 1 (.reg true (.loud [65,66,67,68,69,70,71,72,73,74,75,76,77] [] [(77,e 2 (e 2 (i 6 (g 1 (e 2 (.un .nilPtr (t 3)))) (t 6)))),(74,d (i 1 (t 5) (t 6)))] none [] true (.store 22 (a 77) (a 74)) 0 none false z))))=>b);simp only[sh];rfl
def L.aA.l3:LC:=by apply(fun{b:LC}(_:b=f 4 110 10 [105,106,107,108,109,110] [111,112,10] (j .lss (t 10) (d (i 1 (t 7) (t 8)))) (.block 5 (.reg true (l [113,114,115,116,117,118,119,120,121,122,123,124,125,126,127,128] [(117,g 1 (e 2 (.un .nilPtr (t 3)))),(118,t 8),(127,g 0 (i 6 (g 1 (e 2 (.un .nilPtr (t 3)))) (t 8)))] [(128,t 3)] (x 52 [128] [87]) 3 129 (p (w [129]) (.build 93 #[(0,a 129)]) 93 130 (p (w [130]) (.buildSlice 30 1 #[(0,a 130)]) 30 131 (p (w [127,131]) (.call ⟨.builtin .append,#[a 127,a 131],#[30,30]⟩) 30 132 (.loud [133,134] [] [(134,e 0 (i 6 (t 117) (t 118))),(132,t 132)] none [] true (.store 30 (a 134) (a 132)) 0 none false z))))))))=>b);simp only[sh];rfl
def L.aA.l2:LC:=by apply(fun{b:LC}(_:b=f 2 82 8 [80,81,82] [83,84,8] (j .lss (t 8) (t 4)) (.block 3 (q [.reg false (l [85,86,87,88,89] [] [(88,.un (.au 2) (e 2 (.un .nilPtr (t 3)))),(89,t 8)] (x 51 [88,89] [27,3]) 22 90 (.fin [9] [(9,t 90)] [])),q [k [91,92,93] [(93,j .gtr (h (t 9)) (c 1))],u 93 (.reg false (l [94,95,96] [(94,t 7),(95,t 8)] [(96,t 3)] (.call ⟨.value (.func 34),#[a 96,.const (.int .i64 4)],#[87,3]⟩) 3 97 (s [98] [] [(98,i 1 (t 94) (t 95)),(97,t 97)] (.store 3 (a 98) (a 97)) z))) (q [.reg false (l [99] [] [(99,t 3)] (.call ⟨.value (.func 34),#[a 99,.const (.int .i64 6)],#[87,3]⟩) 3 100 (.fin [101] [(101,j .eql (t 100) (c 0))] [])),u 101 (.reg false (s [102,103,104] [] [(104,i 1 (t 7) (t 8))] (.store 3 (a 104) (.const (.int .i64 1))) z)) .skip])],k [10] [(10,c 0)],v 4 L.aA.l3])))=>b);simp only[sh];rfl
def L.aA.l6:LC:=by apply(fun{b:LC}(_:b=f 10 155 16 [153,154,155] [156,157,16] (j .lss (t 16) (t 4)) (.block 11 (.reg false (l [158,159,160,161,162,163] [(158,t 15)] [(162,.un (.au 2) (e 2 (.un .nilPtr (t 3)))),(163,t 16)] (x 53 [162,163] [27,3]) 123 164 (p (w [164]) (.buildSlice 124 1 #[(0,a 164)]) 124 165 (p (w [158,165]) (.call ⟨.builtin .append,#[a 158,a 165],#[124,124]⟩) 124 166 (.fin [15] [(15,t 166)] [])))))))=>b);simp only[sh];rfl
def L.aA.l7:LC:=by apply(fun{b:LC}(_:b=f 12 169 17 [167,168,169] [170,171,17] (j .lss (t 17) (t 4)) (.block 13 (.reg false (.fin [172,173,174,175,176,177,178,179,180,181,182,183,184,185,186,187,188,189,190,191,192,14] [(14,.ite (t 14) (.ite (.ite (j .eql (t 17) (t 13)) (.con (.bool true)) (d (i 1 (t 11) (t 17)))) (.con (.bool true)) (d (i 1 (d (i 1 (t 15) (t 17))) (t 13)))) (.con (.bool false)))] [.gd (.gd (t 14) true (.ite (j .eql (t 17) (t 13)) (.con (.bool true)) (d (i 1 (t 11) (t 17))))) false (d (i 1 (d (i 1 (t 15) (t 17))) (t 13))),.gd (.gd (t 14) true (j .eql (t 17) (t 13))) false (d (i 1 (t 11) (t 17)))]))))=>b);simp only[sh];rfl
def L.aA.l8:LC:=by apply(fun{b:LC}(_:b=f 14 208 18 [202,203,204,205,206,207,208] [209,210,18] (j .lss (t 18) (g 0 (e 2 (.un .nilPtr (t 3))))) (.block 15 (.reg false (l [211,212,213,214,215,216] [(211,t 3),(215,g 5 (.un .nilPtr (t 3)))] [(216,t 18)] (.buildSlice 22 1 #[(0,a 216)]) 22 217 (p (w [215,217]) (.call ⟨.builtin .append,#[a 215,a 217],#[22,22]⟩) 22 218 (s [219,220] [] [(220,e 5 (.un .nilPtr (t 211))),(218,t 218)] (.store 22 (a 220) (a 218)) z))))))=>b);simp only[sh];rfl
def L.aA.l10:LC:=by apply(fun{b:LC}(_:b=f 18 256 20 [245,246,247,248,249,250,251,252,253,254,255,256] [257,258,20] (j .lss (t 20) (h (g 0 (i 6 (g 1 (e 2 (.un .nilPtr (t 3)))) (t 19))))) (.block 19 (.reg true (l [259,260,261,262,263,264,265,266,267,268,269,270,271,272,273,274,275,276] [(259,t 3),(263,g 5 (.un .nilPtr (t 3)))] [(276,g 0 (i 2 (g 0 (i 6 (g 1 (e 2 (.un .nilPtr (t 3)))) (t 19))) (t 20)))] (.buildSlice 22 1 #[(0,a 276)]) 22 277 (.loud [] [] (w [263,277]) none [] true (.call ⟨.builtin .append,#[a 263,a 277],#[22,22]⟩) 22 (some 278) true (s [279,280] [] [(280,e 5 (.un .nilPtr (t 259))),(278,t 278)] (.store 22 (a 280) (a 278)) z))))))=>b);simp only[sh];rfl
def L.aA.l11:LC:=by apply(fun{b:LC}(_:b=f 20 292 21 [281,282,283,284,285,286,287,288,289,290,291,292] [293,294,21] (j .lss (t 21) (h (g 1 (i 6 (g 1 (e 2 (.un .nilPtr (t 3)))) (t 19))))) (.block 21 (q [.reg false (l [295,296,297,298,299,300,301,302,303,304,305,306] [] [(306,.un (.au 5) (i 5 (g 1 (i 6 (g 1 (e 2 (.un .nilPtr (t 3)))) (t 19))) (t 21)))] (x 54 [306] [70]) 22 307 (.fin [22] [(22,t 307)] [])),.reg false (l [308,309,310,311,312,313] [(308,t 3)] [(312,g 5 (.un .nilPtr (t 3))),(313,t 22)] (.call ⟨.builtin .append,#[a 312,a 313],#[22,22]⟩) 22 314 (s [315,316] [] [(316,e 5 (.un .nilPtr (t 308))),(314,t 314)] (.store 22 (a 316) (a 314)) z))])))=>b);simp only[sh];rfl
def L.aA.l9:LC:=by apply(fun{b:LC}(_:b=f 16 223 19 [221,222,223] [224,225,19] (j .lss (t 19) (t 4)) (.block 17 (q [q [.reg false (.fin [226,227,228,229,230,231,232,233,234,235,236,237,238,239,240,241,242,243,244] [(244,.ite (j .neq (t 19) (t 13)) (.ite (.un .not (d (i 1 (t 11) (t 19)))) (.con (.bool true)) (d (i 1 (d (i 1 (t 15) (t 19))) (t 13)))) (.con (.bool false)))] [.gd (.gd (j .neq (t 19) (t 13)) true (.un .not (d (i 1 (t 11) (t 19))))) false (d (i 1 (d (i 1 (t 15) (t 19))) (t 13)))]),u 244 (.exit 17) .skip],q [k [20] [(20,c 0)],v 18 L.aA.l10],k [21] [(21,c 0)],v 20 L.aA.l11])))=>b);simp only[sh];rfl
def L.aA.l12:LC:=by apply(fun{b:LC}(_:b=f 22 321 24 [319,320,321] [322,323,24] (j .lss (t 24) (t 23)) (.block 23 (.reg false (.loud [324,325] [] [(324,t 3),(325,t 13)] none [] false (x 55 [324,325] [87,3]) 0 (some 326) false z))))=>b);simp only[sh];rfl
def L.aA.l5:LC:=by apply(fun{b:LC}(_:b=f 8 144 13 [142,143,144] [145,146,13] (j .lss (t 13) (t 4)) (.block 9 (q [k [147,148,149,150,151,14] [(14,.un .not (d (i 1 (t 11) (t 13))))],.reg false (p [] (.buildSlice 124 0 #[]) 124 152 (.fin [15] [(15,t 152)] [])),q [k [16] [(16,c 0)],v 10 L.aA.l6],q [k [17] [(17,c 0)],v 12 L.aA.l7],q [k [193,194] [(194,.un .not (t 14))],u 194 (.exit 9) .skip],.reg false (s [195,196,197] [] [(197,i 1 (t 11) (t 13))] (.store 4 (a 197) (.const (.bool true))) z),.reg false (l [198] [(198,t 3)] [] (.buildSlice 22 0 #[]) 22 199 (s [200,201] [] [(201,e 5 (.un .nilPtr (t 198))),(199,t 199)] (.store 22 (a 201) (a 199)) z)),q [k [18] [(18,c 0)],v 14 L.aA.l8],q [k [19] [(19,c 0)],v 16 L.aA.l9],.reg false (l [317] [] [(317,t 3)] (.call ⟨.value (.func 34),#[a 317,.const (.int .i64 7)],#[87,3]⟩) 3 318 (.fin [23] [(23,t 318)] [])),q [k [24] [(24,c 0)],v 22 L.aA.l12],.reg false (.loud [327,328,329,330,331,332] [] [(327,t 3),(328,t 13),(332,d (i 1 (t 5) (t 13)))] none [] false (x 56 [327,328,332] [87,3,22]) 0 (some 333) false z)])))=>b);simp only[sh];rfl
def L.aA.l4:LC:=by apply(fun{b:LC}(_:b=f 6 139 12 [137,138,139] [140,141,12] (j .lss (t 12) (t 4)) (.block 7 (q [k [13] [(13,c 0)],v 8 L.aA.l5])))=>b);simp only[sh];rfl
def L.aA.l15:LC:=by apply(fun{b:LC}(_:b=f 28 357 29 [354,355,356,357] [358,359,29] (j .lss (t 29) (h (t 26))) (.block 29 (q [.reg true (.loud [360,361,362,363,364,365,366,367] [] [(363,.un (.au 2) (e 2 (.un .nilPtr (t 3)))),(367,d (i 1 (t 26) (t 29)))] none [] true (x 57 [363,367] [27,3]) 22 (some 368) true (.fin [30] [(30,t 368)] [])),q [k [369,370,371] [(371,j .eql (h (t 30)) (c 0))],u 371 (.reg true (l [372,373,374,375,376,377,378] [(372,t 30),(373,t 3),(377,d (i 1 (t 26) (t 29)))] [(378,t 3)] (x 59 [378] [87]) 21 379 (.loud [] [] (w [373,377,379]) none [] true (x 58 [373,377,379] [87,3,21]) 3 (some 380) true (p (w [380]) (.buildSlice 22 1 #[(0,a 380)]) 22 381 (p (w [372,381]) (.call ⟨.builtin .append,#[a 372,a 381],#[22,22]⟩) 22 382 (.fin [30] [(30,t 382)] [])))))) .skip],.reg true (l [383,384,385,386,387,388,389,390,391] [(383,t 28),(387,d (i 1 (t 26) (t 29))),(388,t 30)] [(389,t 3),(391,h (t 30))] (x 34 [389,391] [87,3]) 3 392 (.loud [393,394] [] [(387,t 387),(394,d (i 1 (t 388) (t 392)))] none [] true (.build 95 #[(0,a 387),(1,a 394)]) 95 (some 395) true (p (w [395]) (.buildSlice 91 1 #[(0,a 395)]) 91 396 (p (w [383,396]) (.call ⟨.builtin .append,#[a 383,a 396],#[91,91]⟩) 91 397 (.fin [28] [(28,t 397)] [])))))])))=>b);simp only[sh];rfl
def L.aA.l14:LC:=by apply(fun{b:LC}(_:b=f 26 350 27 [345,346,347,348,349,350] [351,352,27] (j .lss (t 27) (d (i 1 (t 7) (t 25)))) (.block 27 (q [.reg false (p [] (.buildSlice 91 0 #[]) 91 353 (.fin [28] [(28,t 353)] [])),q [k [29] [(29,c 0)],v 28 L.aA.l15],.reg false (s [398,399,400,401,402,403,404,405,406,407,408,409,410] [] [(410,e 1 (i 2 (g 0 (i 6 (g 1 (e 2 (.un .nilPtr (t 3)))) (t 25))) (t 27))),(408,t 28)] (.store 91 (a 410) (a 408)) z)])))=>b);simp only[sh];rfl
def L.aA.l13:LC:=by apply(fun{b:LC}(_:b=f 24 336 25 [334,335,336] [337,338,25] (j .lss (t 25) (t 4)) (.block 25 (q [.reg false (l [339,340,341,342,343] [] [(342,.un (.au 2) (e 2 (.un .nilPtr (t 3)))),(343,t 25)] (x 51 [342,343] [27,3]) 22 344 (.fin [26] [(26,t 344)] [])),k [27] [(27,c 0)],v 26 L.aA.l14])))=>b);simp only[sh];rfl
def L.aA:LFn:=by apply(fun{b:LFn}(_:b=⟨[.un (.au 2) (t 2)],q [.reg false (p [] (.alloc 27) 0 2 z),.reg false (l [31] [] [(31,t 0)] (.build 89 #[(0,a 31)]) 89 32 (p (w [32]) (.box 89 (a 32)) 87 33 (.fin [3] [(3,t 33)] []))),.reg false (l [34,35] [(34,t 3)] [(35,t 3)] (.call ⟨.value (.func 34),#[a 35,.const (.int .i64 5)],#[87,3]⟩) 3 36 (s [37,38,39] [] [(39,e 0 (e 2 (.un .nilPtr (t 34)))),(36,t 36)] (.store 3 (a 39) (a 36)) z)),.reg false (s [40,41,42,43,44,45,46,47] [] [(47,e 4 (.un .nilPtr (t 3))),(45,g 0 (e 2 (.un .nilPtr (t 3))))] (.store 3 (a 47) (a 45)) z),.reg false (l [48] [] [(48,t 3)] (.call ⟨.value (.func 34),#[a 48,.const (.int .i64 9)],#[87,3]⟩) 3 49 (.fin [50,4] [(4,o (c 1) (t 49))] [])),.reg false (l [51,52] [] [(51,t 3),(52,t 4)] (x 50 [51,52] [87,3]) 120 53 (.fin [5] [(5,t 53)] [])),.reg false (l [54,55] [(54,t 3)] [(55,t 4),(55,t 4)] (.makeSlice 25 (a 55) (a 55)) 25 56 (s [57,58,59] [] [(59,e 1 (e 2 (.un .nilPtr (t 54)))),(56,t 56)] (.store 25 (a 59) (a 56)) z)),q [k [6] [(6,c 0)],v 0 L.aA.l1],.reg false (l [78] [] [(78,t 4),(78,t 4)] (.makeSlice 22 (a 78) (a 78)) 22 79 (.fin [7] [(7,t 79)] [])),q [k [8] [(8,c 1)],v 2 L.aA.l2],.reg false (l [135] [] [(135,t 4),(135,t 4)] (.makeSlice 123 (a 135) (a 135)) 123 136 (.fin [11] [(11,t 136)] [])),q [k [12] [(12,c 0)],v 6 L.aA.l4],q [k [25] [(25,c 1)],v 24 L.aA.l13],.reg false (s [411,412,413,414] [] [(2,t 2),(414,.un (.au 2) (e 2 (.un .nilPtr (t 3))))] (.store 27 (a 2) (a 414)) z),.ret]⟩)=>b);simp only[sh];rfl
theorem E.aA:aN Tryz.prog Tryz.f35=some L.aA:=by kernel_rfl
theorem F.aA:Tryz.prog.funcs[N.aA]? = some Tryz.f35:=Tryz.func35
abbrev N.kO:Nat:=38
def L.kO:LFn:=by apply(fun{b:LFn}(_:b=⟨[.un (.au 13) (t 8),t 9],q [.reg false (p (w [0]) (.box 27 (a 0)) 0 4 (p [] (.alloc 97) 0 8 (.fin [9] [(9,.con (.bool false))] []))),q [k [11,12,13,14,15,16,17,18,19,20,21,22,23,24,25,26,27,28,29,30,31,32,33,34] [(34,.ite (.ite (.ite (j .lss (t 1) (c 0)) (.con (.bool true)) (j .geq (t 1) (h (g 1 (t 4))))) (.con (.bool true)) (j .lss (t 2) (c 0))) (.con (.bool true)) (j .gtr (t 2) (h (g 1 (i 6 (g 1 (t 4)) (t 1))))))],u 34 (q [.reg false (p [] (.build 97 #[]) 97 35 (s [] [] (w [8,35]) (.store 97 (a 8) (a 35)) (.fin [9] [(9,.con (.bool false))] []))),.ret]) .skip],.reg false (l [36,37,38,39,40] [(40,.un (.au 6) (i 6 (g 1 (t 4)) (t 1)))] [] (.alloc 35) 0 10 (s [] [] (w [10,40]) (.store 35 (a 10) (a 40)) z)),q [k [41,42,43,44,45] [(45,j .eql (t 2) (h (g 1 (t 10))))],u 45 (q [.reg false (l [46,47,48,49] [] [(46,.un (.au 2) (t 4)),(48,.un (.au 4) (e 2 (t 10))),(49,t 3)] (.build 97 #[(0,a 46),(2,a 48),(3,.const (.bool true)),(4,a 49)]) 97 50 (s [] [] (w [8,50]) (.store 97 (a 8) (a 50)) (.fin [9] [(9,.con (.bool true))] []))),.ret]) .skip],.reg true (.loud [51,52,53,54,55,56,57] [] [(51,.un (.au 2) (t 4)),(56,.un (.au 5) (i 5 (g 1 (t 10)) (t 2))),(57,t 3)] none [] true (.build 97 #[(0,a 51),(1,a 56),(4,a 57)]) 97 (some 58) true (s [] [] (w [8,58]) (.store 97 (a 8) (a 58)) (.fin [9] [(9,.con (.bool true))] []))),.ret]⟩)=>b);simp only[sh];rfl
theorem E.kO:aN Tryz.prog Tryz.f38=some L.kO:=by kernel_rfl
theorem F.kO:Tryz.prog.funcs[N.kO]? = some Tryz.f38:=Tryz.func38
abbrev N.ed:Nat:=39
def L.ed:LFn:=by apply(fun{b:LFn}(_:b=⟨[.un (.au 8) (t 4),t 5],q [.reg false (p (w [0]) (.box 97 (a 0)) 0 2 (p [] (.alloc 101) 0 4 (.fin [5] [(5,.con (.bool false))] []))),q [k [8,9] [(9,g 11 (t 2))],u 9 (q [.reg false (l [10,11] [] [(10,.un (.au 13) (t 2)),(11,t 1)] (x 63 [10,11] [97,3]) 102 12 (s [13,14] [(14,.un (.ext 1) (t 12))] [(4,t 4),(13,.un (.ext 0) (t 12))] (.store 101 (a 4) (a 13)) (.fin [5] [(5,t 14)] []))),.ret]) .skip],.reg false (l [16] [] [(16,.un (.au 13) (t 2))] (x 64 [16] [97]) 138 17 (l [18] [] [(17,t 17),(18,t 1)] (.lookup 138 (a 17) (a 18) true) 137 19 (.fin [15,20,21,6,7] [(6,.un (.ext 0) (t 19)),(7,.un (.ext 1) (t 19))] []))),q [k [22,23] [(23,.un .not (t 7))],u 23 (q [.reg false (p [] (.build 101 #[]) 101 24 (s [] [] (w [4,24]) (.store 101 (a 4) (a 24)) (.fin [5] [(5,.con (.bool false))] []))),.ret]) .skip],.reg false (l [25] [] [(25,t 6)] (.call ⟨.value (a 25),#[],#[]⟩) 102 26 (s [27,28] [(28,.un (.ext 1) (t 26))] [(4,t 4),(27,.un (.ext 0) (t 26))] (.store 101 (a 4) (a 27)) (.fin [5] [(5,t 28)] []))),.ret]⟩)=>b);simp only[sh];rfl
theorem E.ed:aN Tryz.prog Tryz.f39=some L.ed:=by kernel_rfl
theorem F.ed:Tryz.prog.funcs[N.ed]? = some Tryz.f39:=Tryz.func39
abbrev N.ef:Nat:=40
def L.ef:LFn:=by apply(fun{b:LFn}(_:b=⟨[t 4],q [.reg false (p (w [0]) (.box 80 (a 0)) 0 2 (p (w [1]) (.box 80 (a 1)) 0 3 (.fin [4] [(4,.con (.bool false))] []))),.reg false (.loud [5,6,7,8,9,10,11,12,13,14,15,16,17,18,19,20,21,22,23,24,25,26,27,28,29,30,31,32,33,34,35,36,37,38,39,40,41,42,43,44,45,46,47,48,49,50,51,52,53,54,55,56] [(52,.ite (.ite (.ite (.ite (.ite (.ite (j .eql (g 0 (t 2)) (g 0 (t 3))) (j .eql (g 1 (t 2)) (g 1 (t 3))) (.con (.bool false))) (j .eql (g 2 (t 2)) (g 2 (t 3))) (.con (.bool false))) (j .eql (g 3 (t 2)) (g 3 (t 3))) (.con (.bool false))) (j .eql (g 4 (t 2)) (g 4 (t 3))) (.con (.bool false))) (j .eql (g 5 (t 2)) (g 5 (t 3))) (.con (.bool false))) (j .eql (g 6 (t 2)) (g 6 (t 3))) (.con (.bool false)))] [(54,.gd (.ite (.ite (.ite (.ite (.ite (.ite (j .eql (g 0 (t 2)) (g 0 (t 3))) (j .eql (g 1 (t 2)) (g 1 (t 3))) (.con (.bool false))) (j .eql (g 2 (t 2)) (g 2 (t 3))) (.con (.bool false))) (j .eql (g 3 (t 2)) (g 3 (t 3))) (.con (.bool false))) (j .eql (g 4 (t 2)) (g 4 (t 3))) (.con (.bool false))) (j .eql (g 5 (t 2)) (g 5 (t 3))) (.con (.bool false))) (j .eql (g 6 (t 2)) (g 6 (t 3))) (.con (.bool false))) true (g 7 (t 2))),(56,.gd (.ite (.ite (.ite (.ite (.ite (.ite (j .eql (g 0 (t 2)) (g 0 (t 3))) (j .eql (g 1 (t 2)) (g 1 (t 3))) (.con (.bool false))) (j .eql (g 2 (t 2)) (g 2 (t 3))) (.con (.bool false))) (j .eql (g 3 (t 2)) (g 3 (t 3))) (.con (.bool false))) (j .eql (g 4 (t 2)) (g 4 (t 3))) (.con (.bool false))) (j .eql (g 5 (t 2)) (g 5 (t 3))) (.con (.bool false))) (j .eql (g 6 (t 2)) (g 6 (t 3))) (.con (.bool false))) true (g 7 (t 3)))] (some (.ite (.ite (.ite (.ite (.ite (.ite (j .eql (g 0 (t 2)) (g 0 (t 3))) (j .eql (g 1 (t 2)) (g 1 (t 3))) (.con (.bool false))) (j .eql (g 2 (t 2)) (g 2 (t 3))) (.con (.bool false))) (j .eql (g 3 (t 2)) (g 3 (t 3))) (.con (.bool false))) (j .eql (g 4 (t 2)) (g 4 (t 3))) (.con (.bool false))) (j .eql (g 5 (t 2)) (g 5 (t 3))) (.con (.bool false))) (j .eql (g 6 (t 2)) (g 6 (t 3))) (.con (.bool false)),true)) [] false (x 19 [54,56] [22,22]) 4 (some 57) true (.fin [58,4] [(4,.ite (t 52) (t 57) (.con (.bool false)))] [])),.ret]⟩)=>b);simp only[sh];rfl
theorem E.ef:aN Tryz.prog Tryz.f40=some L.ef:=by kernel_rfl
theorem F.ef:Tryz.prog.funcs[N.ef]? = some Tryz.f40:=Tryz.func40
abbrev N.strings_Fields:Nat:=41
abbrev N.fT:Nat:=42
def L.fT:LFn:=by apply(fun{b:LFn}(_:b=⟨[t 6],q [k [6] [(6,.con (.bool false))],k [7,8,9,10,11,12,13,14,6] [(6,.ite (j .geq (t 0) (t 1)) (j .leq (t 0) (t 2)) (.con (.bool false)))],.ret]⟩)=>b);simp only[sh];rfl
theorem E.fT:aN Tryz.prog Tryz.f42=some L.fT:=by kernel_rfl
theorem F.fT:Tryz.prog.funcs[N.fT]? = some Tryz.f42:=Tryz.func42
abbrev N.bQ:Nat:=43
def L.bQ.l2:LC:=by apply(fun{b:LC}(_:b=q [k [41] [(41,j .lss (t 40) (t 39))],u 41 .skip (.exit 2),.block 3 (q [k [42,43,15] [(15,d (i 1 (t 38) (t 40)))],.reg false (l [45,46] [] [(45,d (t 4)),(46,t 15)] (.lookup 109 (a 45) (a 46) true) 111 47 (l [44,48,49] [(48,.un (.ext 0) (t 47)),(49,.un (.ext 1) (t 47))] [] (.alloc 50) 0 16 (s [] [] (w [16,48]) (.store 50 (a 16) (a 48)) (.fin [17] [(17,t 49)] [])))),k [50,51,52,53] [(53,.ite (t 13) (t 17) (.con (.bool false)))],u 53 (.reg false (l [54,55,56,57,58] [] [(54,d (t 5)),(56,d (.bin (.aidx 2 1) (t 16) (c 0))),(58,d (.bin (.aidx 2 1) (t 16) (c 1)))] (.call ⟨.value (a 54),#[a 56,a 58],#[3,3]⟩) 4 59 (.fin [13] [(13,t 59)] []))) .skip]),k [60,40] [(40,o (t 40) (c 1))]])=>b);simp only[sh];rfl
def L.bQ.l1:LC:=by apply(fun{b:LC}(_:b=q [.reg false (p (w [26]) (.next (a 26) false) 0 27 (.fin [28] [(28,.un (.ext 0) (t 27))] [])),u 28 .skip (.exit 0),.block 1 (q [.reg false (p (w [26]) (.entry (a 26)) 0 29 (.fin [30,11] [(11,.un (.ext 0) (t 29))] [])),.reg false (l [32,33] [] [(32,.un (.au 13) (t 9)),(33,t 11)] (x 39 [32,33] [97,3]) 102 34 (l [31,35,36] [(35,.un (.ext 0) (t 34)),(36,.un (.ext 1) (t 34))] [] (.alloc 101) 0 12 (s [] [] (w [12,35]) (.store 101 (a 12) (a 35)) (.fin [13] [(13,t 36)] [])))),q [k [37,38,39,40] [(38,g 0 (t 12)),(39,h (g 0 (t 12))),(40,c 0)],v 2 L.bQ.l2],k [61] [(61,t 13)],u 61 (q [k [8] [(8,.con (.bool true))],.ret]) .skip])])=>b);simp only[sh];rfl
def L.bQ:LFn:=by apply(fun{b:LFn}(_:b=⟨[t 8],q [k [8] [(8,.con (.bool false))],.reg false (l [19,20,21] [] [(19,.un (.au 2) (t 2)),(20,t 0),(21,t 1)] (.call ⟨.value (.func 38),#[a 19,a 20,a 21,.const (.int .i64 0)],#[27,3,3,3]⟩) 98 22 (l [18,23,24] [(23,.un (.ext 0) (t 22)),(24,.un (.ext 1) (t 22))] [] (.alloc 97) 0 9 (s [] [] (w [9,23]) (.store 97 (a 9) (a 23)) (.fin [10] [] [t 24])))),q [.reg false (l [25] [] [(25,d (t 3))] (.range 108 (a 25)) 0 26 z),v 0 L.bQ.l1],k [8] [(8,.con (.bool false))],.ret]⟩)=>b);simp only[sh];rfl
theorem E.bQ:aN Tryz.prog Tryz.f43=some L.bQ:=by kernel_rfl
theorem F.bQ:Tryz.prog.funcs[N.bQ]? = some Tryz.f43:=Tryz.func43
abbrev N.fW:Nat:=44
def R.fW:List E:=[.un .load (.tmp 2),.un .load (.tmp 3),.un .load (.tmp 4)]

def L.kc:LC:=by apply(fun{b:LC}(_:b=.reg false (p (w [0]) (.box 27 (a 0)) 0 1 (p [] (.alloc 57) 0 2 (p [] (.alloc 3) 0 3 (p [] (.alloc 3) 0 4 z)))))=>b);simp only[sh];rfl
theorem E.kc:ey Tryz.prog Tryz.f44.ntmps (iU Tryz.f44) (EX Tryz.f44) false (xD Tryz.f44)=some L.kc:=by kernel_rfl
def L.gH.l1:LC:=by apply(fun{b:LC}(_:b=q [k [26] [(26,j .lss (t 25) (t 24))],u 26 .skip (.exit 0),.block 1 (q [.reg false (l [27,28] [(28,.un (.au 6) (i 6 (t 23) (t 25)))] [] (.alloc 35) 0 7 (s [] [] (w [7,28]) (.store 35 (a 7) (a 28)) z)),k [29,30,31,32,33,34,35,36,37,5] [(5,o (t 5) (o (h (g 0 (t 7))) (h (g 1 (t 7)))))]]),k [38,25] [(25,o (t 25) (c 1))]])=>b);simp only[sh];rfl
def L.gH:LC:=by apply(fun{b:LC}(_:b=q [.reg false (l [10,11] [] [(11,g 0 (t 1))] (.call ⟨.value (.func 69),#[a 11,.const (.int .i64 0),.const (.int .i64 4)],#[3,3,3]⟩) 4 12 (.loud [] [] (w [12]) none [] false (.call ⟨.value (.func 68),#[a 12,.const (.int .i64 1),.const (.int .i64 0),.const (.int .i64 0)],#[4,57,3,3]⟩) 0 (some 13) false z)),.reg false (.loud [14,15,16,17] [] [(17,j .gtr (h (g 1 (t 1))) (c 0))] none [] false (.call ⟨.value (.func 68),#[a 17,.const (.int .i64 14),.const (.int .i64 0),.const (.int .i64 0)],#[4,57,3,3]⟩) 0 (some 18) false z),k [19,20,21,5] [(5,h (g 1 (t 1)))],q [k [22,23,24,25] [(23,g 1 (t 1)),(24,h (g 1 (t 1))),(25,c 0)],v 0 L.gH.l1],.reg false (.loud [39,40,41,42,43,44,45,46] [] [(46,.ite (j .leq (h (g 1 (t 1))) (c 512)) (j .leq (t 5) (c 4096)) (.con (.bool false)))] none [] false (.call ⟨.value (.func 68),#[a 46,.const (.int .i64 2),.const (.int .i64 0),.const (.int .i64 0)],#[4,57,3,3]⟩) 0 (some 47) false z),.reg false (l [48] [(48,.un (.au 2) (t 1))] [] (.makeMap 147 none) 147 49 (p (w [48,49]) (.build 149 #[(0,a 48),(1,a 49)]) 149 50 (p (w [50]) (.box 149 (a 50)) 146 51 (.fin [8] [(8,t 51)] [])))),.reg false (.loud [52] [] [(52,t 8)] none [] false (x 70 [52] [146]) 0 (some 53) false z),.reg false (.loud [54] [] [(54,t 8)] none [] false (x 71 [54] [146]) 0 (some 55) false z),.reg false (s [] [] (w [2]) (.store 57 (a 2) (.const (.int .i64 0))) (s [] [] (w [3]) (.store 3 (a 3) (.const (.int .i64 0))) (s [] [] (w [4]) (.store 3 (a 4) (.const (.int .i64 0))) z))),.ret])=>b);simp only[sh];rfl
theorem E.gH:ey Tryz.prog Tryz.f44.ntmps (iU Tryz.f44) (EX Tryz.f44) false (Ek Tryz.f44)=some L.gH:=by kernel_rfl
theorem R.vQ:Tryz.f44.results.toList.mapM (resE Tryz.prog)=some R.fW:=by kernel_rfl
theorem F.fW:Tryz.prog.funcs[N.fW]? = some Tryz.f44:=Tryz.func44
theorem B.fW:Tryz.f44.body=some (.seq (xD Tryz.f44) (.seq (.region (G6 (HB Tryz.f44)) #[Hg Tryz.f44 0,Hg Tryz.f44 1] false) (Ek Tryz.f44))):=by kernel_rfl
abbrev N.cw:Nat:=45
def L.cw.l3:LC:=by apply(fun{b:LC}(_:b=q [k [33] [(33,j .lss (t 32) (t 31))],u 33 .skip (.exit 4),.block 5 (q [.reg false (l [34,35] [(35,.un (.au 2) (i 2 (t 30) (t 32)))] [] (.alloc 95) 0 10 (s [] [] (w [10,35]) (.store 95 (a 10) (a 35)) z)),.reg false (l [36,37,38] [(36,t 8)] [(38,g 1 (t 10))] (.buildSlice 22 1 #[(0,a 38)]) 22 39 (p (w [36,39]) (.call ⟨.builtin .append,#[a 36,a 39],#[22,22]⟩) 22 40 (.fin [8] [(8,t 40)] [])))]),k [41,32] [(32,o (t 32) (c 1))]])=>b);simp only[sh];rfl
def L.cw.l2:LC:=by apply(fun{b:LC}(_:b=q [k [25] [(25,j .lss (t 24) (t 23))],u 25 .skip (.exit 2),.block 3 (q [.reg false (l [26,27,28] [(26,t 24),(28,.un (.au 2) (i 2 (t 22) (t 24)))] [] (.alloc 93) 0 7 (s [6] [(6,t 26)] (w [7,28]) (.store 93 (a 7) (a 28)) z)),k [8] [(8,.con (.slice none 0 0))],q [k [29,30,31,32] [(30,g 1 (t 7)),(31,h (g 1 (t 7))),(32,c 0)],v 4 L.cw.l3],.reg false (l [42,43,44,45,46,47] [(42,t 1),(43,t 4),(45,.bin (.arith .sub) (c (-1)) (t 6))] [(47,g 0 (t 7))] (.buildSlice 22 1 #[(0,a 47)]) 22 48 (.loud [49] [] [(42,t 42),(43,t 43),(45,t 45),(48,t 48),(49,t 8)] none [] false (.call ⟨.value (a 42),#[a 43,a 45,a 48,a 49],#[3,3,22,22]⟩) 0 (some 50) false z))]),k [51,24] [(24,o (t 24) (c 1))]])=>b);simp only[sh];rfl
def L.cw.l4:LC:=by apply(fun{b:LC}(_:b=q [k [56] [(56,j .lss (t 55) (t 54))],u 56 .skip (.exit 6),.block 7 (q [.reg false (l [57,58,59] [(57,t 55),(59,.un (.au 5) (i 5 (t 53) (t 55)))] [] (.alloc 70) 0 12 (s [11] [(11,t 57)] (w [12,59]) (.store 70 (a 12) (a 59)) z)),.reg true (l [60,61,62,63,65,66] [(60,t 1),(61,t 4),(62,t 11),(66,g 3 (t 12))] [(63,.un (.au 5) (t 12))] (x 72 [63] [70]) 22 64 (.loud [] [] (w [60,61,62,64,66]) none [] true (.call ⟨.value (a 60),#[a 61,a 62,a 64,a 66],#[3,3,22,22]⟩) 0 (some 67) false z))]),k [68,55] [(55,o (t 55) (c 1))]])=>b);simp only[sh];rfl
def L.cw.l1:LC:=by apply(fun{b:LC}(_:b=q [k [17] [(17,j .lss (t 16) (t 15))],u 17 .skip (.exit 0),.block 1 (q [.reg false (l [18,19,20] [(18,t 16),(20,.un (.au 6) (i 6 (t 14) (t 16)))] [] (.alloc 35) 0 5 (s [4] [(4,t 18)] (w [5,20]) (.store 35 (a 5) (a 20)) z)),q [k [21,22,23,24] [(22,g 0 (t 5)),(23,h (g 0 (t 5))),(24,c 0)],v 2 L.cw.l2],q [k [52,53,54,55] [(53,g 1 (t 5)),(54,h (g 1 (t 5))),(55,c 0)],v 6 L.cw.l4],.reg false (.loud [69,70,71,72,73,74,75,76] [] [(69,t 1),(70,t 4),(73,h (g 1 (t 5))),(76,g 1 (e 2 (t 5)))] none [] false (.call ⟨.value (a 69),#[a 70,a 73,.const (.slice none 0 0),a 76],#[3,3,22,22]⟩) 0 (some 77) false z)]),k [78,16] [(16,o (t 16) (c 1))]])=>b);simp only[sh];rfl
def L.cw:LFn:=by apply(fun{b:LFn}(_:b=⟨[],q [.reg false (p (w [0]) (.box 27 (a 0)) 0 2 z),k [13,14,15,16] [(14,g 1 (t 2)),(15,h (g 1 (t 2))),(16,c 0)],v 0 L.cw.l1]⟩)=>b);simp only[sh];rfl
theorem E.cw:aN Tryz.prog Tryz.f45=some L.cw:=by kernel_rfl
theorem F.cw:Tryz.prog.funcs[N.cw]? = some Tryz.f45:=Tryz.func45
end
end Go.Proofs.YtnfiilgdjpdlkaaGreatDoor
