/- A part of the proof: LftY, LftZ, LftF, LftG, LftH, LftM, LftN, LftQ, LftU, LftJ, LftK, T, LftP, Ua, LftO, LftI, LftL, Ga, La, Lb. -/
import Derived.Test.YtbkdlhkoiagbbaaGreatZSTells0
import Derived.ChangeKeysEq
import Derived.MapKept
import Derived.RecoverIn
import Derived.Test.YtbkdlhkoiagbbaaGreatChecked
import Derived.KernelRfl
import Derived.ProofKit
import Derived.OpenShut
import Derived.HandedShaped
import Derived.Test.YtbkdlhkoiagbbaaGreatProg
set_option linter.unusedSimpArgs false
set_option linter.unusedVariables false
namespace Go.Lft
open Go
section
variable {po:OP} {pp:PP}
def fresh (h h':Heap):View:=fun b=>if b<h.size then none else h'[b]?
theorem iz(h h':Heap):(fresh h h').le (vw h'):=fun b o hb=>by
 unfold fresh at hb;split at hb
 ·cases hb
 exact hb
theorem eC(V:View)(h h':Heap):(fresh h h').le (grow V h h'):=fun b o hb=>by
 unfold fresh at hb;unfold grow;split at hb
 ·cases hb
 rename_i hlt;rw[if_neg hlt];exact hb
structure lq (h h':Heap) (v v':Value):Prop where
 kept:Kept h h' v.ownBlock
 at_:v'.ownBlock=v.ownBlock\/v'.ownBlock=some h.size
theorem lq.view {h h':Heap} {v v':Value} (m:lq h h' v v') {W:View} (hw:W.le (vw h)) (ha:Av W v):W.le (vw h')/\Av W v':=by
 refine⟨m.kept.view hw ha,fun b hb=>?_⟩;rcases m.at_ with e | e
 ·exact ha b (by rw[<-e];exact hb)
 rw[e]at hb;simp only[LF]at hb;exact View.dH hw (by omega)
theorem Av.nil(W:View)(n c:Nat):Av W (.slice none n c):=fun b hb=>by simp[Value.ownBlock]at hb
section
variable {α:Type} [Rep α]
def OwnT (W:View) (h:Heap) (e:TypeId) (v:Value) (l:List α):Prop:=
 l.length<=140737488355328/\∃xs,wL h e (Rep.n α) v l.length xs/\∀(i:Nat) (hi:i<l.length),Rep.rd W ((xs.drop (i*Rep.n α)).take (Rep.n α)) l[i]
def SrcT (Ho Hi:View) (u:Value) (l:List α):Prop:=
 ∃a c,u = .slice a l.length c/\(a=none->l=[])/\∃news:List Value,news.length=l.length*Rep.n α/\(∀ad,a=some ad->∀j x,news[j]? = some x->ao Ho (ad.add j)=some x)/\
  ∀(i:Nat) (hi:i<l.length),Rep.rd Hi ((news.drop (i*Rep.n α)).take (Rep.n α)) l[i]
theorem OwnT.nil(W:View)(h:Heap)(e:TypeId):OwnT (α:=α) W h e (.slice none 0 0) []:=
 ⟨by simp,[],⟨by simp,.inl ⟨rfl,rfl⟩⟩,fun i hi=>by simp at hi⟩
variable {W:View} {h h':Heap} {e:TypeId} {v:Value} {l:List α}
theorem OwnT.len (o:OwnT W h e v l) {K:View}:Un.ev K .len v=some (.int .i64 l.length):=by
 obtain⟨_,xs,⟨_,hx⟩,_⟩:=o;rcases hx with⟨rfl,hn⟩ | ⟨g,cap,cur,rfl,_⟩
 ·rw[hn];rfl
 rfl
theorem OwnT.mono (o:OwnT W h e v l) {W':View} (hw:W.le W'):OwnT W' h e v l:=
 let ⟨b,xs,h1,h2⟩:=o
 ⟨b,xs,h1,fun i hi=>Rep.mono hw (h2 i hi)⟩
theorem OwnT.kept (o:OwnT W h e v l) {b:Option Nat} (k:Kept h h' b) (hb:v.ownBlock=none\/v.ownBlock≠b):OwnT W h' e v l:=
 let ⟨bd,xs,h1,h2⟩:=o
 ⟨bd,xs,h1.kept k hb,h2⟩
theorem OwnT.ext(o:OwnT W h e v l)(k:(vw h).le (vw h')):OwnT W h' e v l:=o.kept (pD k) (by cases v.ownBlock<;>simp)
variable{n:Nat}
theorem BR{xs:List Value}{len:Nat}(hl:xs.length=len*n)(hr : ∀(i:Nat),i<len->∀u∈(xs.drop (i*n)).take n,u.oneCell'=true): ∀u∈xs,u.oneCell'=true:=by
 intro u hu;obtain⟨j,hj,rfl⟩:=LQ hu;have hn:0<n:=by
  rcases N2 n with h | h
  ·subst h;simp at hl;subst hl;simp at hj
  exact h
 have hlt:j / n<len:=by rw[Nat.div_lt_iff_lt_mul hn];omega
 refine hr (j / n) hlt _ ?_;have hm:=Nat.mod_lt j hn;have hd:=Nat.div_add_mod j n;have:((xs.drop (j / n*n)).take n)[j % n]? = some xs[j]:=by
  rw[List.getElem?_take,if_pos hm,List.getElem?_drop];have:j / n*n+j % n=j:=by rw[Nat.mul_comm];exact hd
  rw[this];exact List.getElem?_eq_getElem hj
 exact MI this
theorem Eh{xs ys:List Value}{a i:Nat}(hx:xs.length=a*n):((xs++ys).drop (i*n)).take n=if i<a then(xs.drop (i*n)).take n else(ys.drop ((i-a)*n)).take n:=by
 split
 ·rename_i h;have h1:i*n+n<=a*n:=by rw[<-Nat.succ_mul];exact L7 _ h
  rw[Nh (by omega),MQ (by simp;omega)]
 rename_i h;have h1:a*n<=i*n:=L7 _ (by omega);have h2:(i-a)*n=i*n-a*n:=Nat.sub_mul ..;rw[NZ,MG (by omega),MB,hx,h2]
variable{P:Program}{ty:TypeId}{bytes:Nat}{y:Operand}{us:List (Nat × Value)}{K:Value->Heap->Prop}
theorem bw{t:TypeId}{z:Value}{x:Operand}{u:Value}{l2:List α}(hT:ff P t e (Rep.n α) bytes z)(hx:asg us x=v)(hy:asg us y=u)(ho:OwnT W h e v l)(hs:SrcT (vw h) W u l2)(hb:(l.length+l2.length)*bytes<=140737488355328)(hb2:l.length+l2.length<=140737488355328)(hk : ∀v' h',OwnT W h' e v' (l++l2)->lq h h' v v'->K v' h'):step P (.call ⟨.builtin .append,#[x,y],#[t,t]⟩) ty us h K:=by
 obtain⟨hbd,xs,h1,h2⟩:=ho;obtain⟨a,c,rfl,hnil,news,h3,h4,h5⟩:=hs;refine dR (dt fun w hw=>?_);subst hw;have hflat : ∀u∈news,u.oneCell'=true:=BR h3 fun i hi=>Rep.flat (h5 i hi);obtain⟨v',w',g1,g2,g3,g4,g5⟩:=B9 hT (ty:=ty) h1 h3 (fun ad ha j u hu=>h4 ad ha j u hu) (c:=c) (fun ha=>by rw[hnil ha];rfl) hflat hb hb2;refine⟨v',w',?_,g2,hk v' w'.heap ⟨by simpa using hb2,xs++news,by simpa using g3,fun i hi=>?_⟩ ⟨g4,g5⟩⟩
 ·simp only[bL,execOp];simp[resolve,invoke,builtin,hx,hy,g1]
 rw[Eh h1.1];split
 ·rename_i hlt;rw[Nv hlt];exact h2 i hlt
 rename_i hge;rw[Ni (by omega)];exact h5 (i-l.length) (by simp at hi;omega)
variable{H:View}
theorem SlRd.src{K:View}(s:SlRd H v l)(hk:H.le K):SrcT K H v l:=by
 obtain⟨a,cap,rfl,h1,h2,h3⟩:=s;rcases h3 with rfl | ⟨ad,rfl,hs,hat⟩
 ·exact⟨a,cap,rfl,fun _=>rfl,[],by simp,fun _ _ j x hx=>by simp at hx,fun i hi=>by simp at hi⟩
 refine⟨some ad,cap,rfl,(fun h=>by cases h),?_⟩;cases hl:l with
 | nil=>exact⟨[],by simp,fun _ _ j x hx=>by simp at hx,fun i hi=>by simp at hi⟩
 | cons d0 l0=>
  rw[<-hl];have hpos:0<l.length:=by rw[hl];simp
  obtain⟨cs0,⟨c,T,fz,_,hb,_⟩,_⟩:=hat 0 hpos;have hblk:H ad.block=some (.cells c T fz):=by rw[bn hs]at hb;exact hb
  have hcs : ∀(i:Nat) (hi:i<l.length),Rep.rd H ((c.toList.drop (ad.off+i*Rep.n α)).take (Rep.n α)) l[i]:=by intro i hi;obtain⟨cs,⟨c',T',fz',_,hb',he⟩,hr⟩:=hat i hi;rw[bn hs]at hb' he;simp only at hb' he;rw[hblk]at hb';cases hb';rw[Rep.len hr]at he;rw[he];exact hr
  have htot:ad.off+l.length*Rep.n α<=c.toList.length:=by
   have:=Rep.len (hcs (l.length-1) (by omega));have hn:=Rep.pos (α:=α);simp only[MA,ME]at this;have e1:l.length*Rep.n α=(l.length-1)*Rep.n α+Rep.n α:=by rw[<-Nat.succ_mul];congr 1;omega
   omega
  refine⟨(c.toList.drop ad.off).take (l.length*Rep.n α),?_,?_,?_⟩
  ·simp only[MA,ME];omega
  ·intro ad' e j x hx;cases e;have hj:j<l.length*Rep.n α:=by
    rcases LI j (l.length*Rep.n α)with h | h
    ·exact h
    rw[List.getElem?_eq_none (by simp;omega)]at hx;cases hx
   rw[List.getElem?_take,if_pos hj,List.getElem?_drop]at hx;rw[bn hs];simp only[ao,hk _ _ hblk];simpa using hx
  intro i hi;have h1:i*Rep.n α+Rep.n α<=l.length*Rep.n α:=by rw[<-Nat.succ_mul];exact L7 _ hi
  rw[Nk,M9,NG,MO (by omega)];exact hcs i hi
variable{V:View}
theorem OwnT.rd(o:OwnT W h e v l)(hw:W.le V)(hv : ∀b,v.ownBlock=some b->V b=h[b]?):SlRd V v l:=by
 obtain⟨hbd,xs,⟨hx,hown⟩,hel⟩:=o;rcases hown with⟨rfl,hn⟩ | ⟨g,cap,cur,rfl,hg,h1,h2,h3,h4⟩
 ·have:l=[]:=LO hn;subst this;exact⟨none,0,rfl,by simp,by simp,.inl rfl⟩
 refine⟨some ⟨g,0,none⟩,cap,rfl,h1,hbd,.inr ⟨_,rfl,rfl,fun i hi=>?_⟩⟩;refine⟨(xs.drop (i*Rep.n α)).take (Rep.n α),⟨cur,e,(0,0),?_,?_,?_⟩,Rep.mono hw (hel i hi)⟩
 ·rw[bn rfl]
 ·rw[bn rfl];rw[hv g rfl];exact hg
 rw[bn rfl,Rep.len (hel i hi)];have hle:i*Rep.n α+Rep.n α<=l.length*Rep.n α:=by rw[<-Nat.succ_mul];exact L7 _ hi
 rw[<-h4,Nk,M9];simp only[Nt];rw[MO (by omega)]
theorem OwnT.fresh {h0:Heap} (o:OwnT W h e v l) (hW:W.le (fresh h0 h)) (ha:Av (vw h0) v):SlRd (Lft.fresh h0 h) v l:=by
 refine o.rd hW fun b hb=>?_;have:=ha b hb;simp only[vw]at this;have hge:h0.size<=b:=by
  rcases LI b h0.size with h | h
  ·simp[h]at this
  exact h
 simp only[Lft.fresh,if_neg (Pk.2 hge)]
theorem lg{t:TypeId}{z:Value}{x:Operand}{u:Value}{d:α}(hT:ff P t e (Rep.n α) bytes z)(hx:asg us x=u)(hr:Rd W u d)(hk : ∀u' h',SrcT (vw h') W u' [d]->(vw h).le (vw h')->h'.size=h.size+1->K u' h'):step P (.buildSlice t 1 #[(0,x)]) ty us h K:=by
 have hTT:=hT;obtain⟨ht,⟨i,hi,hz,hsize,hby⟩,hzs,hsz,hsmall⟩:=hT;have hcells:Rep.rd W u.cells.toList d/\u.cells.size=Rep.n α:=by
  unfold Rd at hr;split at hr
  ·obtain⟨cs,rfl,h⟩:=hr;exact⟨h,by rw[<-Rep.len h];rfl⟩
  rename_i ha;have hone:=Rep.one (α:=α) (by simpa using ha);have hfl:=Rep.flat hr u (by simp);have:u.cells = #[u]:=by cases u<;>first | rfl | simp[Value.oneCell']at hfl
  rw[this];exact⟨by simpa using hr,by simp[hone]⟩
 have hfill:Instr.fill (fun j=>some (j*Rep.n α,Rep.n α)) ((Array.range (1*Rep.n α)).map (z.cells[· % z.cells.size]!)) [(0,u)]=some u.cells:=by
  have hlen : ∀(A:Array Value) (cs:Array Value),A.size=cs.size->cs.zipIdx.foldl (fun cs' (p:Value × Nat)=>cs'.setIfInBounds (0+p.2) p.1) A=cs:=by
   intro A cs hA;have key : ∀(l:List Value) (k:Nat) (B:Array Value),B.size=k+l.length->((l.zipIdx k).foldl (fun cs' (p:Value × Nat)=>cs'.setIfInBounds (0+p.2) p.1) B).toList=B.toList.take k++l:=by
    intro l;induction l with
    | nil=>intro k B hB;simp at hB;simp only[List.zipIdx_nil,List.foldl_nil,Nj];rw[LV (by simp[hB])]
    | cons y l ih=>
     intro k B hB;simp only[Ow,MU];rw[ih (k+1) _ (by simp at hB ⊢;omega)];simp only[Nt,OK];have hk:k<B.toList.length:=by simp at hB ⊢;omega
     rw[L8 (by simpa using hk)];simp[OE]
   rw[<-Array.toList_inj,<-Array.foldl_toList,Array.toList_zipIdx];have:=key cs.toList 0 A (by simpa using hA);simpa using this
  simp only[Instr.fill,Ny,Nt,Array.size_map,Array.size_range,OB,hcells.2,ne_eq,not_true,decide_false,O8,gt_iff_lt,OA];simp only[Nw,if_false];congr 1;have:=hlen ((Array.range (Rep.n α)).map (z.cells[· % z.cells.size]!)) u.cells (by simp[hcells.2]);simpa using this
 refine nR ht hi hz hsize (by omega) (vs:=[(0,u)]) (by simp[hx]) hfill (hk _ _ ?_ (bm _ _) (by simp));refine⟨some ⟨h.size,0,none⟩,1,rfl,(fun h=>by cases h),u.cells.toList,by simp[hcells.2],?_,?_⟩
 ·intro ad e j x hx;cases e;rw[bn rfl];simp only[ao,vw,Array.getElem?_push_size];simpa using hx
 intro i hi';simp only[Nl,N6,Nt,Nat.lt_one_iff]at hi';subst hi';have:(u.cells.toList.take (Rep.n α))=u.cells.toList:=by rw[LV];simp[hcells.2]
 simpa[this]using hcells.1
theorem lx{t:TypeId}{z:Value}{x:Operand}{k:IntKind}{d:α}(hT:ff P t e (Rep.n α) bytes z)(hx:asg us x = .int k n)(hy:asg us y = .int k n)(hr:Rep.rd W z.cells.toList d)(hb:bytes*n<=140737488355328)(hb2:n<=140737488355328)(hk : ∀v' h',OwnT W h' e v' (List.replicate n d)->lq h h' (.slice none 0 0) v'->(vw h).le (vw h')->v'.ownBlock=some h.size->K v' h'):step P (.makeSlice t x y) ty us h K:=by
 obtain⟨ht,⟨i,hi,hz,hsize,hby⟩,hzs,hsz,hsmall⟩:=hT;refine dR (dt fun w hw=>?_);subst hw;have hrun:=run_make (P:=P) w t e i z ht hi hz k k (n:Int) (n:Int) (by omega) (Oa _) (by
  rw[hby];have:((bytes*n:Nat):Int)<=281474976710656:=by omega
  rwa [Int.natCast_mul]at this) (by omega);simp only[LY]at hrun;refine⟨.slice (some ⟨w.heap.size,0,none⟩) n n,w.alloc (.cells (madeCells z.cells (n*i.size)) e),?_,kg _ _,hk _ _ ?_ ⟨Kept.push _ _ _,.inr rfl⟩ (bm _ _) rfl⟩
 ·simp only[bL,execOp,hx,hy];simp[hrun]
 refine⟨by simpa using hb2,((madeCells z.cells (n*Rep.n α)).toList.take (n*Rep.n α)),⟨by simp[size_madeCells],.inr ⟨w.heap.size,n,madeCells z.cells (n*Rep.n α),by simp,?_,by simp,by simp only[maxLen];omega,by simp[size_madeCells],by simp⟩⟩,?_⟩
 ·rw[hsize];exact heap_alloc_new w _
 intro j hj;simp only[MM]at hj;have he:((((madeCells z.cells (n*Rep.n α)).toList.take (n*Rep.n α)).drop (j*Rep.n α)).take (Rep.n α))=z.cells.toList:=by
  have h1:j*Rep.n α+Rep.n α<=n*Rep.n α:=by rw[<-Nat.succ_mul];exact L7 _ hj
  refine MJ ?_ fun m hm1 hm2=>?_
  ·simp[size_madeCells,hzs];omega
  simp only[MA,ME]at hm1;simp only[Ol,N9,madeCells,Array.toList_map,NC,Array.toList_range,List.getElem_range];have hm:m<z.cells.size:=by simpa using hm2
  have hmod:(j*Rep.n α+m) % z.cells.size=m:=by rw[hzs,Nat.mul_comm,Nat.mul_add_mod];exact Nat.mod_eq_of_lt (by omega)
  rw[hmod];simp[hm]
 rw[he];simpa using hr
theorem qA{t:TypeId}{x:Operand}{i:Nat}{u:Value}{d:α}(hsz:cC P t=some (Rep.n α))(hx:asg us x = .pointer (some ((slA v).add (i*Rep.n α))))(hy:asg us y=u)(ho:OwnT W h e v l)(hi:i<l.length)(hr:Rd W u d)(hk : ∀h',OwnT W h' e v (l.set i d)->lq h h' v v->K undef h'):step P (.store t x y) ty us h K:=by
 have hcells:Rep.rd W u.cells.toList d/\u.cells.size=Rep.n α:=by
  unfold Rd at hr;split at hr
  ·obtain⟨cs,rfl,h⟩:=hr;exact⟨h,by rw[<-Rep.len h];rfl⟩
  rename_i ha;have hone:=Rep.one (α:=α) (by simpa using ha);have hfl:=Rep.flat hr u (by simp);have:u.cells = #[u]:=by cases u<;>first | rfl | simp[Value.oneCell']at hfl
  rw[this];exact⟨by simpa using hr,by simp[hone]⟩
 obtain⟨hbd,xs,⟨hxl,hown⟩,hel⟩:=ho;refine dR (mY fun w hw=>?_);subst hw;rcases hown with⟨rfl,hn⟩ | ⟨g,cap,cur,rfl,hg,h1,h2,h3,h4⟩
 ·omega
 have hle:i*Rep.n α+Rep.n α<=l.length*Rep.n α:=by rw[<-Nat.succ_mul];exact L7 _ hi
 have hcap:l.length*Rep.n α<=cap*Rep.n α:=L7 _ h1;have hlen:u.cells.toList.length=Rep.n α:=by simpa using hcells.2
 have hrun:=run_storeCells_at P g (i*Rep.n α) e u.cells.toList 0 cur w hg (by simp only[Nat.add_zero];omega) (fun c hc=>Rep.flat hcells.1 c hc);have hadd:(slA (.slice (some ⟨g,0,none⟩) l.length cap)).add (i*Rep.n α)=⟨g,i*Rep.n α,none⟩:=by show(⟨g,0,none⟩:Addr).add _=_;rw[bn rfl];simp
 have hszr:=run_sizeOf (P:=P) (w:=w) hsz;obtain⟨row,hrow⟩ : ∃row:Array Value,row.toList=cur.toList.take (i*Rep.n α)++u.cells.toList++cur.toList.drop (i*Rep.n α+Rep.n α):=⟨(cur.toList.take (i*Rep.n α)++u.cells.toList++cur.toList.drop (i*Rep.n α+Rep.n α)).toArray,rfl⟩;have hrun':Sem.run P (storeCells ⟨g,i*Rep.n α,none⟩ u.cells.toList) w = .ok () (w.setRow g row):=by rw[hrun];congr 2;rw[<-Array.toList_inj,hrow,hlen];rfl
 have hrsz:row.size=cap*Rep.n α:=by have:=congrArg List.length hrow;simp only[NW,LH,MA,ME,hcells.2]at this;omega
 refine⟨w.setRow g row,?_,Same.qy rfl rfl rfl (by simp) hg (by simp) (fun k _ hne=>setRow_other w g k _ (fun e=>hne e)),hk (w.setRow g row).heap ⟨by simpa using hbd,xs.take (i*Rep.n α)++u.cells.toList++xs.drop (i*Rep.n α+Rep.n α),⟨?_,.inr ⟨g,cap,row,by simp,setRow_heap w g cur row e _ hg,by simpa using h1,h2,?_,?_⟩⟩,?_⟩ ⟨⟨by simp,fun k hk hne=>setRow_other w g k _ (fun e=>hne (by simp[Value.ownBlock,e]))⟩,.inl rfl⟩⟩
 ·simp only[bL,execOp,hx,hy,hadd];simp[Instr.storeAt,Instr.sureAddr,storeVar,hszr,hcells.2,hrun']
 ·simp only[LH,MA,ME,hlen,LN];omega
 ·exact hrsz
 ·simp only[LN];rw[hrow,<-h4,M9,MO (by omega),L5,L5];have e1:(cur.toList.take (i*Rep.n α)).length=i*Rep.n α:=by simp;omega
  rw[NL,e1,LV (by omega)];congr 1;rw[NL,hlen,LV (by omega)];congr 1;rw[Nk];congr 1;omega
 intro j hj;simp only[LN]at hj;have hjle:j*Rep.n α+Rep.n α<=l.length*Rep.n α:=by rw[<-Nat.succ_mul];exact L7 _ hj
 have e1:(xs.take (i*Rep.n α)).length=i*Rep.n α:=by simp;omega
 by_cases hij:i=j
 ·subst hij;rw[L5,NZ,e1,MG (by omega),MB,Om,NM,MQ (by omega),LV (by omega)];simpa using hcells.1
 have hset:(l.set i d)[j]'(by simpa using hj)=l[j]:=by simp[hij]
 rw[hset];have:((xs.take (i*Rep.n α)++u.cells.toList++xs.drop (i*Rep.n α+Rep.n α)).drop (j*Rep.n α)).take (Rep.n α)=(xs.drop (j*Rep.n α)).take (Rep.n α):=by
  rcases LI j i with hlt | hge
  ·have h5:j*Rep.n α+Rep.n α<=i*Rep.n α:=by rw[<-Nat.succ_mul];exact L7 _ hlt
   rw[L5,Nh (by omega),MQ (by simp;omega),Nk,M9,MO (by omega)]
  have h5:i*Rep.n α+Rep.n α<=j*Rep.n α:=by rw[<-Nat.succ_mul];exact L7 _ (by omega)
  have e2:(xs.take (i*Rep.n α)++u.cells.toList).length=i*Rep.n α+Rep.n α:=by rw[LH,e1,hlen]
  rw[NZ,MG (by omega),MB,e2,NG];congr 2;omega
 rw[this];exact hel j hj
end
end
section
variable {po po2 po3:OP} {pp:PP}
def up {β:Type} (f:Nat->β->β):Nat->β->β
 | 0,x=>x
 | k+1,x=>f k (up f k x)
def Old (V:View) (h0:Heap) (W:View):Prop:=∀b o,b<h0.size->W b=some o->V b=some o
theorem Old.refl(V:View)(h0:Heap):Old V h0 V:=fun _ _ _ h=>h
theorem Old.nothing (V:View) (h0:Heap):Old V h0 nothing:=fun _ _ _ h=>by cases h
theorem Old.grow {V W:View} {h0 h1 h2:Heap} (o:Old V h0 W) (hs:h0.size<=h1.size):Old V h0 (grow W h1 h2):=fun b x hb hx=>by unfold Lft.grow at hx;rw[if_pos (by omega)]at hx;exact o b x hb hx
theorem Old.le {V W:View} {h0 h:Heap} (o:Old V h0 W) (hw:W.le (vw h)):W.le (Lft.grow V h0 h):=fun b x hx=>by
 unfold Lft.grow;split
 ·exact o b x (by assumption) hx
 exact hw b x hx
variable{H:View}
@[simp] theorem dg:nothing.le H:=fun _ _ h=>by cases h
theorem FJ(h h':Heap):fresh h h'=Lft.grow nothing h h':=by funext b;unfold fresh Lft.grow;rfl
section
variable {α:Type} [Rep α] {V W:View} {h0 h h':Heap} {e:TypeId} {v:Value} {l:List α}
theorem OwnT.lt(o:OwnT W h e v l){b:Nat}(hb:v.ownBlock=some b):b<h.size:=by
 obtain⟨_,xs,⟨_,hown⟩,_⟩:=o;rcases hown with⟨rfl,_⟩ | ⟨g,cap,cur,rfl,hg,_⟩
 ·simp[Value.ownBlock]at hb
 simp only[Value.ownBlock,LF]at hb;subst hb;exact(Array.getElem?_eq_some_iff.1 hg).1
theorem OwnT.now(o:OwnT W h e v l)(hw:W.le (vw h)):SlRd (vw h) v l:=o.rd hw fun _ _=>rfl
theorem OwnT.grown(o:OwnT W h e v l)(hw:W.le (vw h))(ho:Old V h0 W)(ha:Av (vw h0) v):SlRd (Lft.grow V h0 h) v l:=by
 refine o.rd (ho.le hw) fun b hb=>?_;have:=ha b hb;simp only[vw]at this;have hge:h0.size<=b:=by
  rcases LI b h0.size with h | h
  ·simp[h]at this
  exact h
 simp only[Lft.grow,if_neg (Pk.2 hge)]
theorem Av.grow (ha:Av W v) (hl : ∀b,v.ownBlock=some b->b<h.size):Av (Lft.grow W h h') v:=fun b hb=>by unfold Lft.grow;rw[if_pos (hl b hb)];exact ha b hb
structure Mine (V:View) (h0 h:Heap) (W:View) (e:TypeId) (v:Value) (l:List α):Prop where
 old:(vw h0).le (vw h)
 wle:W.le (vw h)
 av:Av W v
 av0:Av (vw h0) v
 agree:Old V h0 W
 own:OwnT W h e v l
theorem Mine.start(hV:V.le (vw h)):Mine (α:=α) V h h V e (.slice none 0 0) []:=
 ⟨View.le_refl _,hV,Av.nil _ _ _,Av.nil _ _ _,Old.refl _ _,OwnT.nil ..⟩
theorem Mine.ext (m:Mine V h0 h W e v l) (k:(vw h).le (vw h')):Mine V h0 h' (Lft.grow W h h') e v l:=
 ⟨View.le_trans m.old k,nG (View.le_trans m.wle k),m.av.grow fun _ hb=>m.own.lt hb,m.av0,m.agree.grow (gQ m.old),(m.own.ext k).mono (aH m.wle)⟩
theorem Mine.ext'(m:Mine V h0 h W e v l)(k:(vw h).le (vw h')):Mine V h0 h' W e v l:=
 ⟨View.le_trans m.old k,View.le_trans m.wle k,m.av,m.av0,m.agree,m.own.ext k⟩
theorem Mine.result(m:Mine V h0 h W e v l):SlRd (Lft.grow V h0 h) v l:=m.own.grown m.wle m.agree m.av0
theorem Mine.fresh (m:Mine nothing h0 h W e v l):SlRd (Lft.fresh h0 h) v l:=by rw[FJ];exact m.result
theorem Mine.now (m:Mine V h0 h W e v l):SlRd (vw h) v l:=m.own.now m.wle
theorem Mine.lQ{v':Value}{l':List α}(m:Mine V h0 h W e v l)(o:OwnT W h' e v' l')(k:lq h h' v v'):Mine V h0 h' W e v' l':=
 let ⟨a1,a2⟩:=k.view m.wle m.av
 let ⟨b1,b2⟩:=k.view m.old m.av0
 ⟨b1,a1,a2,b2,m.agree,o⟩
variable{P:Program}{ty ty2:TypeId}{bytes:Nat}{y:Operand}{us:List (Nat × Value)}{us2:Value->List (Nat × Value)}
theorem Mine.push{t:TypeId}{z:Value}{x y2:Operand}{u:Value}{d:α}{K:Value->Value->Heap->Prop}(m:Mine V h0 h W e v l)(hT:ff P t e (Rep.n α) bytes z)(hx:asg us x=u)(hr:Rd W u d)(hb:(l.length+1)*bytes<=140737488355328)(hb2:l.length+1<=140737488355328)(hy : ∀u,asg (us2 u) y=v)(hy2 : ∀u,asg (us2 u) y2=u)(hk : ∀u v' h',Mine V h0 h' W e v' (l++[d])->K u v' h'):
  @step po P (.buildSlice t 1 #[(0,x)]) ty us h fun u h2=>@step po2 P (.call ⟨.builtin .append,#[y,y2],#[t,t]⟩) ty2 (us2 u) h2 fun v' h3=>K u v' h3:=by refine lg hT hx hr fun u h2 hs hle _=>?_;have m2:=m.ext' hle;exact bw hT (hy u) (hy2 u) m2.own hs hb hb2 fun v' h3 ho hm=>hk u v' h3 (m2.lQ ho hm)
variable{n:Nat}{K:Value->Heap->Prop}
theorem Mine.made{t:TypeId}{z:Value}{x:Operand}{k:IntKind}{d:α}(hT:ff P t e (Rep.n α) bytes z)(hle:(vw h0).le (vw h))(hW:W.le (vw h))(ho:Old V h0 W)(hx:asg us x = .int k n)(hy:asg us y = .int k n)(hr:Rep.rd W z.cells.toList d)(hb:bytes*n<=140737488355328)(hb2:n<=140737488355328)(hk : ∀v' h',Mine V h0 h' W e v' (List.replicate n d)->(vw h).le (vw h')->v'.ownBlock=some h.size->K v' h'):step P (.makeSlice t x y) ty us h K:=
 lx hT hx hy hr hb hb2 fun v' h' ow mv le hb=>hk v' h' ⟨View.le_trans hle le,View.le_trans hW le,fun b hb'=>by rw[hb]at hb';cases hb';exact View.dH hW (LG _),fun b hb'=>by rw[hb]at hb';cases hb';exact View.dH hle (LG _),ho,ow⟩ le hb
theorem Mine.put{t:TypeId}{x:Operand}{i:Nat}{u:Value}{d:α}(m:Mine V h0 h W e v l)(hsz:cC P t=some (Rep.n α))(hx:asg us x = .pointer (some ((slA v).add (i*Rep.n α))))(hy:asg us y=u)(hi:i<l.length)(hr:Rd W u d)(hk : ∀h',Mine V h0 h' W e v (l.set i d)->K undef h'):step P (.store t x y) ty us h K:=
 qA hsz hx hy m.own hi hr fun h' ho hm=>hk h' (m.lQ ho hm)
theorem Mine.put1{t:TypeId}{x:Operand}{i:Nat}{u:Value}{d:α}(m:Mine V h0 h W e v l)(hsz:cC P t=some (Rep.n α))(hn:Rep.n α=1)(hx:asg us x = .pointer (some ((slA v).add i)))(hy:asg us y=u)(hi:i<l.length)(hr:Rd W u d)(hk : ∀h',Mine V h0 h' W e v (l.set i d)->K undef h'):step P (.store t x y) ty us h K:=
 m.put hsz (i:=i) (by rw[hn,MP];exact hx) hy hi hr hk
end
variable{β:Type}
theorem xA{f:Nat->List β->List β}{m:Nat}(hf : ∀k x,(f k x).length<=x.length+m)(n:Nat)(x:List β):(up f n x).length<=x.length+n*m:=by
 induction n with
 | zero=>simp[up]
 | succ n ih=>have:=hf n (up f n x);rw[up,MX];omega
def sift {β:Type} (p:Nat->Bool) (x:Nat->β) (n:Nat):List β:=up (fun b l=>if p b then l++[x b] else l) n []
theorem ij{p:Nat->Bool}{x:Nat->β}(n:Nat):(sift p x n).length<=n:=by have:=xA (f:=fun b l=>if p b then l++[x b] else l) (m:=1) (fun k x=>by split<;>simp) n [];simpa[sift]using this
variable{n:Nat}
theorem jk{p:Nat->Bool}{x:Nat->β}(h:p n=true):sift p x (n+1)=sift p x n++[x n]:=by rw[sift,up,if_pos h];rfl
theorem hZ{p:Nat->Bool}{x:Nat->β}(h:p n=false):sift p x (n+1)=sift p x n:=by rw[sift,up,if_neg (by simp[h])];rfl
def rows {β:Type} (x:Nat->β) (n:Nat):List β:=(List.range n).map x
theorem eG{x:Nat->β}:rows x (n+1)=rows x n++[x n]:=by simp[rows,O2]
@[simp] theorem fP{x:Nat->β}:(rows x n).length=n:=by simp[rows]
@[simp] theorem J6{x:Nat->β}:rows x 0=[]:=rfl
@[simp] theorem J8{p:Nat->Bool}{x:Nat->β}:sift p x 0=[]:=rfl
theorem kE{p:Nat->Bool}{x:Nat->β}:sift p x n=((List.range n).filter p).map x:=by
 induction n with
 | zero=>rfl
 | succ n ih=>
  rw[O2,Oh,N5,<-ih];cases h:p n with
  | true=>rw[jk h];simp[h]
  | false=>rw[hZ h];simp[h]
theorem lS{x:Nat->β}{d:β}{k:Nat}(hk:k<n):(rows x k++List.replicate (n-k) d).set k (x k)=rows x (k+1)++List.replicate (n-(k+1)) d:=by
 have e:n-k=(n-(k+1))+1:=by omega
 rw[Ou _ _ (by simp),fP,Om,e,List.replicate_succ,List.set_cons_zero,eG,L5];rfl
theorem eQ[Inhabited β]{x:Nat->β}{i:Nat}(h:i<n):nth (rows x n) i=x i:=by rw[ak (by simpa using h)];simp[rows]
theorem nA{h h1 h2:Heap}(hle:(vw h).le (vw h1)):(fresh h1 h2).le (fresh h h2):=fun b o hb=>by
 have:=gQ hle;unfold fresh at hb ⊢;split at hb
 ·cases hb
 rw[if_neg (by omega)];exact hb
variable{P:Program}{bytes:Nat}
theorem iQ{t e size:Nat}{z:Value}(ht:P.underlying t=some (.slice e))(h:(P.info? e).map (fun i=>(i.zero,i.size,i.bytes))=some (some z,size,bytes))(hz:z.cells.size=size)(hs:0<size/\size<=1000):ff P t e size bytes z:=by simp only[LL,ND]at h;obtain⟨i,h1,h2,h3,h4⟩:=h;exact⟨ht,⟨i,h1,h2,h3,h4⟩,hz,hs.1,hs.2⟩
theorem mN{a:Int}(h0:-9223372036854775808<=a)(h1:a<=9223372036854775807):Rd H (.int .i64 a) a:=dr.2 ⟨rfl,h0,h1⟩
theorem Hb{b:Bool}:Rd H (.bool b) b:=uv.2 rfl
end
section
variable {po:OP} {pp:PP}
variable{ρ:Env}
theorem ah{ts:List Nat}{u:Nat}:look (bM ρ ts) u=if ts.contains u then none else look ρ u:=by
 induction ρ with
 | nil=>simp
 | cons p ρ ih=>
  obtain⟨k,x⟩:=p;rw[lV];by_cases hk:ts.contains k=true
  ·simp only[hk,if_true,ih,rS];split
   ·rfl
   rename_i h;split
   ·rename_i e;subst e;exact absurd hk h
   rfl
  rw[if_neg hk,rS,rS,ih];by_cases h1:k=u
  ·subst h1;rw[if_pos rfl,if_pos rfl,if_neg hk]
  rw[if_neg h1,if_neg h1]
theorem lL {ρ ρ':Env} : ∀{ks:List Nat},(∀t∈ks,look ρ t=look ρ' t)->aZ ks ρ=aZ ks ρ'
 | [],_=>rfl
 | k::ks,h=>by have ih:aZ ks ρ=aZ ks ρ':=lL fun t ht=>h t (LS _ ht);simp only[aZ,h k LR,ih]
theorem mj{ts:List Nat}(h : ∀p∈ρ,ts.contains p.1=false):bM ρ ts=ρ:=by
 induction ρ with
 | nil=>rfl
 | cons p ρ ih=>obtain⟨k,x⟩:=p;have h1:=h (k,x) LR;simp only at h1;rw[lV,h1,if_neg (by simp),ih (fun p hp=>h p (LS _ hp))]
theorem lU{t:Nat}{v:Value}(h : ∀p∈ρ,p.1≠t):bM (setE ρ t v) [t]=ρ:=by
 have hid:bM ρ [t]=ρ:=mj fun p hp=>by simpa using fun e=>h p hp e
 induction ρ with
 | nil=>simp[setE]
 | cons p ρ ih=>
  obtain⟨k,x⟩:=p;have hk:=h (k,x) LR;simp only at hk;have hid2:bM ρ [t]=ρ:=mj fun p hp=>by simpa using fun e=>h p (LS _ hp) e
  simp only[setE,if_neg hk];split
  ·rw[lV,if_pos (by simp),hid]
  rw[lV,if_neg (by simpa using hk),ih (fun p hp=>h p (LS _ hp)) hid2]
theorem kV{X Y:Env->Heap->Prop}{R:Post}:gr X (gr Y R)=gr X R:=by funext e ρ h;cases e<;>rfl
abbrev forL (a i c:Nat) (ks ks2:List Nat) (bound:E) (body:LC):LC:=
 .loop (.seq (.seq (.reg false (.fin ks [(c,.bin (.cmp .lss) (.tmp i) bound)] [])) (.cond (.tmp c) [c] .skip (.exit a)))
  (.seq body (.reg false (.fin ks2 [(i,.bin (.arith .add) (.tmp i) (.con (.int .i64 1)))] []))))
def pY (kp ks ks2:List Nat) (c i:Nat):Bool:=kp.all fun t=>!ks.contains t&&t != c&&(t == i||!ks2.contains t)
theorem kO{kp:List Nat}{vs:List Value}{p:Nat × Value}(h:p∈kp.zip vs):p.1∈kp:=(List.of_mem_zip h).1
variable{P:Program}{body:LC}
theorem aO{Q:Post}{h:Heap}{a i c:Nat}{ks ks2:List Nat}{bound:E}{σ:Type}(kp:List Nat)(vals:σ->Nat->List Value)(J:σ->Nat->Heap->Prop)(n:Nat)(s0:σ)(hok:pY kp ks ks2 c i=true)(hn:n<=9223372036854775806)(h0:aZ kp ρ=kp.zip (vals s0 0))(hj:J s0 0 h)(hi : ∀s k,look (kp.zip (vals s k)) i=some (.int .i64 k))(hb : ∀s k h,k<=n->J s k h->ev (look (kp.zip (vals s k))) (vw h) bound=some (.int .i64 n))(round : ∀s k h,k<n->J s k h->∀K:Env->Heap->Prop,(∀s' ρ' h',look ρ' i=some (.int .i64 k)->aZ kp (setE ρ' i (.int .i64 ((k:Int)+1)))=kp.zip (vals s' (k+1))->J s' (k+1) h'->K ρ' h')->body.wp P (gr K (dJ a Q)) (kp.zip (vals s k)) h)(done : ∀s h,J s n h->Q .normal (kp.zip (vals s n)) h):LC.wp P (forL a i c ks ks2 bound body) (dJ a Q) ρ h:=by
 simp only[pY,M8,LK,NI,bne_iff_ne,ML,beq_iff_eq,ne_eq]at hok;refine fN kp (fun m ρ h=>∃s k,k<=n/\ρ=kp.zip (vals s k)/\m=n-k/\J s k h) n ⟨s0,0,by omega,h0,by omega,hj⟩ ?_;rintro m ρ h ⟨s,k,hk,rfl,rfl,hJ⟩ K hK;have hkill:bM (kp.zip (vals s k)) ks=kp.zip (vals s k):=mj fun p hp=>(hok p.1 (kO hp)).1.1;have hne : ∀p∈kp.zip (vals s k),p.1≠c:=fun p hp=>(hok p.1 (kO hp)).1.2
 have hk2 : ∀v,bM (setE (kp.zip (vals s k)) c v) [c]=kp.zip (vals s k):=fun v=>lU hne;have hlk : ∀v,look (setE (kp.zip (vals s k)) c v) c=some v:=fun v=>by rw[ag,if_pos rfl]
 simp only[qY,kH,iA,fZ,js,kL,kt,jP,hi,hb s k h hk hJ,L3,Gw,iT,kM,true_and,dk,hkill,bT,lW,hlk,j7,hk2,og,oz,lN,mf,if_true];refine⟨fun hlt=>?_,fun hge=>?_⟩
 ·have hlt':k<n:=by omega
  rw[kV];refine round s k h hlt' hJ _ fun s' ρ' h' hl he hJ'=>?_;simp only[kH,iA,fZ,js,kL,kt,jP,hl,kM,true_and,L3,vH,L3,wI,iT,dk,bT,true_and];rw[bJ (by omega) (by omega)];refine hK (n-(k+1)) _ _ (by omega) ⟨s',k+1,by omega,?_,rfl,hJ'⟩;rw[<-he];refine lL fun t ht=>?_;rw[ag,ag,ah];split
  ·rfl
  rename_i hti;rcases(hok t ht).2 with e | e
  ·exact absurd e.symm hti
  rw[e];rfl
 have:k=n:=by omega
 subst this;exact done s h hJ
abbrev forR (a i c:Nat) (ks ks2:List Nat) (bound:E) (body:LC):LC:=
 .loop (.seq (.reg false (.fin ks [(c,.bin (.cmp .lss) (.tmp i) bound)] [])) (.seq (.cond (.tmp c) [c] .skip (.exit a))
  (.seq body (.reg false (.fin ks2 [(i,.bin (.arith .add) (.tmp i) (.con (.int .i64 1)))] [])))))
theorem a6{Q:Post}{h:Heap}{a i c:Nat}{ks ks2:List Nat}{bound:E}{σ:Type}(kp:List Nat)(vals:σ->Nat->List Value)(J:σ->Nat->Heap->Prop)(n:Nat)(s0:σ)(hok:pY kp ks ks2 c i=true)(hn:n<=9223372036854775806)(h0:aZ kp ρ=kp.zip (vals s0 0))(hj:J s0 0 h)(hi : ∀s k,look (kp.zip (vals s k)) i=some (.int .i64 k))(hb : ∀s k h,k<=n->J s k h->ev (look (kp.zip (vals s k))) (vw h) bound=some (.int .i64 n))(round : ∀s k h,k<n->J s k h->∀K:Env->Heap->Prop,(∀s' ρ' h',look ρ' i=some (.int .i64 k)->aZ kp (setE ρ' i (.int .i64 ((k:Int)+1)))=kp.zip (vals s' (k+1))->J s' (k+1) h'->K ρ' h')->body.wp P (gr K (dJ a Q)) (kp.zip (vals s k)) h)(done : ∀s h,J s n h->Q .normal (kp.zip (vals s n)) h):LC.wp P (forR a i c ks ks2 bound body) (dJ a Q) ρ h:=by
 simp only[pY,M8,LK,NI,bne_iff_ne,ML,beq_iff_eq,ne_eq]at hok;refine fN kp (fun m ρ h=>∃s k,k<=n/\ρ=kp.zip (vals s k)/\m=n-k/\J s k h) n ⟨s0,0,by omega,h0,by omega,hj⟩ ?_;rintro m ρ h ⟨s,k,hk,rfl,rfl,hJ⟩ K hK;have hkill:bM (kp.zip (vals s k)) ks=kp.zip (vals s k):=mj fun p hp=>(hok p.1 (kO hp)).1.1;have hne : ∀p∈kp.zip (vals s k),p.1≠c:=fun p hp=>(hok p.1 (kO hp)).1.2
 have hk2 : ∀v,bM (setE (kp.zip (vals s k)) c v) [c]=kp.zip (vals s k):=fun v=>lU hne;have hlk : ∀v,look (setE (kp.zip (vals s k)) c v) c=some v:=fun v=>by rw[ag,if_pos rfl]
 simp only[qY,kH,iA,fZ,js,kL,kt,jP,hi,hb s k h hk hJ,L3,Gw,iT,kM,true_and,dk,hkill,bT,lW,hlk,j7,hk2,og,oz,lN,mf,if_true];refine⟨fun hlt=>?_,fun hge=>?_⟩
 ·have hlt':k<n:=by omega
  rw[kV];refine round s k h hlt' hJ _ fun s' ρ' h' hl he hJ'=>?_;simp only[kH,iA,fZ,js,kL,kt,jP,hl,kM,true_and,L3,vH,L3,wI,iT,dk,bT,true_and];rw[bJ (by omega) (by omega)];refine hK (n-(k+1)) _ _ (by omega) ⟨s',k+1,by omega,?_,rfl,hJ'⟩;rw[<-he];refine lL fun t ht=>?_;rw[ag,ag,ah];split
  ·rfl
  rename_i hti;rcases(hok t ht).2 with e | e
  ·exact absurd e.symm hti
  rw[e];rfl
 have:k=n:=by omega
 subst this;exact done s h hJ
theorem bF{Q:Post}{h:Heap}{r:Reg}(H:View)(hH:H.le (vw h))(hw:fY P (some H) r (Q .normal) ρ h):LC.wp P (.reg true r) Q ρ h:=⟨H,View.wJ hH,jK (fun _ _=>View.wJ) hw⟩
theorem D3{Q:Post}{h:Heap}{r:Reg}(H:View)(hH:H.sub (vw h))(hw:cu View.sub P (some H) r (Q .normal) ρ h):LC.wp P (.reg true r) Q ρ h:=⟨H,hH,hw⟩
end
section
variable {po po2 po3:OP} {pp:PP}
variable{b n:Nat}
@[simp] theorem vD{o:Nat}:(⟨b,o,none⟩:Addr).add n=⟨b,o+n,none⟩:=bn rfl n
variable{H:View}
@[simp] theorem J3{a:Addr}:Un.ev H .nilPtr (.pointer (some a))=some (.pointer (some a)):=rfl
@[simp] theorem Gm{a:Addr}{o:Nat}:Un.ev H (.fld o) (.pointer (some a))=some (.pointer (some (a.add o))):=rfl
@[simp] theorem KW{k q:IntKind}{a:Int}:Un.ev H (.conv k) (.int q a)=some (.int k (k.wrap a)):=rfl
variable{cs:Array Value}
@[simp] theorem KX{o:Nat}:Un.ev H (.part o) (.agg cs)=cs[o]?:=rfl
@[simp] theorem KM{o:Nat}:Un.ev H (.parts o n) (.agg cs)=some (.agg (cs.extract o (o+n))):=rfl
@[simp] theorem K1{o:Nat}:Un.ev H (.ext o) (.tuple cs)=cs[o]?:=rfl
def IF:Value->Value->Option Value
 | .tuple vs,u=>some (.tuple (vs.push u))
 | _,_=>none
@[simp] theorem IP{vs:Array Value}{u:Value}:IF (.tuple vs) u=some (.tuple (vs.push u)):=rfl
@[simp] theorem Je{σ:Nat->Option Value}{x y:E}:ev σ H (.snoc x y)=(ev σ H x).bind fun v=>(ev σ H y).bind fun u=>IF v u:=by
 simp only[ev];cases hx:ev σ H x with
 | none=>rfl
 | some v=>
  cases hy:ev σ H y with
  | none=>cases v<;>rfl
  | some u=>cases v<;>rfl
@[simp] theorem Ly{f:Nat}{vs:Array Value}:Un.ev H (.fn f) (.tuple vs)=some (.func (.func f) #[] vs):=rfl
@[simp] theorem J4:(Value.agg cs).cells=cs:=rfl
@[simp] theorem IH{a:Option Addr}{c:Nat}:(Value.slice a n c).cells = #[.slice a n c]:=rfl
@[simp] theorem J7{k:IntKind}{n:Int}:(Value.int k n).cells = #[.int k n]:=rfl
@[simp] theorem JO{b:Bool}:(Value.bool b).cells = #[.bool b]:=rfl
@[simp] theorem GY{a:Option Addr}:(Value.pointer a).cells = #[.pointer a]:=rfl
def CA (P:Program) (t:TypeId):Option (List (Nat × Nat)):=
 match P.underlying t with
 | some (.struct fields)=>fields.toList.mapM fun f=>(cC P f.type).map fun n=>(f.offset,n)
 | some (.array k e)=>(cC P e).map fun n=>(List.range k).map fun i=>(i*n,n)
 | _=>none
section
variable {P:Program} {ty:TypeId} {us:List (Nat × Value)} {h:Heap} {K:Value->Heap->Prop}
theorem xJ {f g:Nat->Option (Nat × Nat)} (hfg : ∀i p,f i=some p->g i=some p) : ∀{vs:List (Nat × Value)} {c cs:Array Value},Instr.fill f c vs=some cs->Instr.fill g c vs=some cs
 | [],c,cs,h=>h
 | (i,v)::vs,c,cs,h=>by
  simp only[Instr.fill]at h ⊢;split at h
  ·cases h
  rename_i off size hi;rw[hfg i _ hi];simp only;split at h
  ·cases h
  rename_i hc;rw[if_neg hc];exact xJ hfg h
theorem run_places {w:World} : ∀{fs:List Field} {ps:List (Nat × Nat)},(fs.mapM fun f=>(cC P f.type).map fun n=>(f.offset,n))=some ps->
  (fs.mapM fun(f:Field)=>Prod.mk f.offset <$> sizeOf f.type).run P w=Result.ok ps w
 | [],ps,h=>by simp at h;subst h;simp
 | f::fs,ps,h=>by simp only[O6,Option.bind_eq_bind,LU,LL]at h;obtain⟨p,⟨n,hn,rfl⟩,ps',h2,h3⟩:=h;simp only[Option.pure_def,LF]at h3;subst h3;have ih:=run_places (w:=w) h2;simp[O6,Sem.run_bind,run_sizeOf hn,ih]
theorem aE{t:TypeId}{ps:Array (Nat × Operand)}{vs:List (Nat × Value)}{z:Value}{places:List (Nat × Nat)}(hz:(P.info? t).map (·.zero)=some (some z))(hpl:CA P t=some places)(hp:ps.map (fun p=>(p.1,asg us p.2))=vs.toArray)(hf:Instr.fill (places[·]?) z.cells vs=some cs)(hk:K (.agg cs) h):step P (.build t ps) ty us h K:=by
 refine dR (dt fun w hw=>⟨.agg cs,w,?_,Same.refl _,by rw[hw];exact hk⟩);have hp':(ps.map fun x=>match x with | (i,x)=>(i,asg us x))=vs.toArray:=hp;simp only[LL]at hz;obtain⟨i,hi,hz⟩:=hz;simp only[bL,execOp,hp'];unfold CA at hpl;split at hpl
 ·rename_i fields hu;have hr:=run_places (P:=P) (w:=w) hpl;have hr2:(fields.mapM fun(f:Field)=>Prod.mk f.offset <$> sizeOf f.type).run P w=Result.ok places.toArray w:=by rw[OO];simp only[Sem.run_map];erw [hr];rfl
  have hf':Instr.fill (places.toArray[·]?) z.cells vs=some cs:=by simpa using hf
  simp[Instr.build,zeroValue,typeInfo,hi,hz,run_underlying hu,hr2,hf',hf]
 ·rename_i k e hu;simp only[LL]at hpl;obtain⟨n,hn,rfl⟩:=hpl;have hf':=xJ (g:=fun i=>some (i*n,n)) (fun i p hp=>by
   simp only[List.getElem?_map,LL]at hp;obtain⟨j,hj,rfl⟩:=hp;rcases LI i k with hlt | hge
   ·rw[List.getElem?_range hlt]at hj;cases hj;rfl
   rw[List.getElem?_eq_none (by simpa using hge)]at hj;cases hj) hf;simp[Instr.build,zeroValue,typeInfo,hi,hz,run_underlying hu,run_sizeOf hn,hf']
 cases hpl
variable{bytes:Nat}
theorem pB{t e:TypeId}{size:Nat}{z:Value}{ps:Array (Nat × Operand)}{vs:List (Nat × Value)}(hT:ff P t e size bytes z)(hn:n*size<=16777216)(hp:ps.map (fun p=>(p.1,asg us p.2))=vs.toArray)(hf:Instr.fill (fun j=>some (j*size,size)) ((Array.range (n*size)).map (z.cells[· % z.cells.size]!)) vs=some cs)(hk:K (.slice (some ⟨h.size,0,none⟩) n n) (h.push (.cells cs e))):step P (.buildSlice t n ps) ty us h K:=by obtain⟨ht,⟨i,hi,hz,hsize,hby⟩,_⟩:=hT;exact nR ht hi hz hsize hn hp hf hk
theorem eZ{t:TypeId}{z:Value}(hz:(P.info? t).map (·.zero)=some (some z))(hk:K (.pointer (some ⟨h.size,0,none⟩)) (h.push (.cells z.cells t))):step P (.alloc t) ty us h K:=by simp only[LL]at hz;obtain⟨i,hi,hz⟩:=hz;refine dR (dt fun w hw=>?_);subst hw;refine⟨_,w.alloc (.cells z.cells t),?_,kg _ _,hk⟩;simp only[bL,execOp];simp[Instr.alloc,zeroValue,typeInfo,hi,hz,newVar,newRow]
theorem j6{t:TypeId}{x:Operand}{v:Value}(hx:asg us x=v)(hk:K (.pointer (some ⟨h.size,0,none⟩)) (h.push (.cells v.cells t))):step P (.box t x) ty us h K:=by refine dR (dt fun w hw=>?_);subst hw;refine⟨_,w.alloc (.cells v.cells t),?_,kg _ _,hk⟩;simp only[bL,execOp];simp[Instr.box,hx,newVar,newRow]
variable{y:Operand}
theorem eR{t e:TypeId}{g o:Nat}{x:Operand}{v:Value}{cur:Array Value}(hsz:cC P t=some n)(hx:asg us x = .pointer (some ⟨g,o,none⟩))(hy:asg us y=v)(hv:v.cells.size=n)(h1 : ∀c∈v.cells.toList,c.oneCell'=true)(hg:h[g]? = some (.cells cur e (0,0)))(hfit:o+n<=cur.size)(hk : ∀h':Heap,h'.size=h.size->(∃row:Array Value,h'[g]? = some (.cells row e (0,0))/\row.toList=cur.toList.take o++v.cells.toList++cur.toList.drop (o+n))->(∀k,k≠g->h'[k]? = h[k]?)->K undef h'):step P (.store t x y) ty us h K:=by
 refine dR (mY fun w hw=>?_);subst hw;have hlen:v.cells.toList.length=n:=by simpa using hv
 have hrun:=run_storeCells_at P g o e v.cells.toList 0 cur w hg (by simp only[Nat.add_zero];omega) h1;obtain⟨row,hrow⟩ : ∃row:Array Value,row.toList=cur.toList.take o++v.cells.toList++cur.toList.drop (o+n):=⟨(cur.toList.take o++v.cells.toList++cur.toList.drop (o+n)).toArray,rfl⟩;have hrun':Sem.run P (storeCells ⟨g,o,none⟩ v.cells.toList) w = .ok () (w.setRow g row):=by rw[hrun];congr 2;rw[<-Array.toList_inj,hrow,hlen];rfl
 refine⟨w.setRow g row,?_,Same.qy rfl rfl rfl (by simp) hg (by simp) (fun k _ hne=>setRow_other w g k _ (fun e=>hne e)),hk _ (by simp) ⟨row,setRow_heap w g cur row e _ hg,hrow⟩ fun k hne=>setRow_other w g k _ (fun e=>hne e)⟩;simp only[bL,execOp,hx,hy];simp[Instr.storeAt,Instr.sureAddr,storeVar,run_sizeOf (P:=P) (w:=w) hsz,hv,hrun']
variable{ty2:TypeId}{us2:Value->List (Nat × Value)}
theorem se{t:TypeId}{z:Value}{x:Operand}{v:Value}{K:Value->Heap->Prop}(hz:(P.info? t).map (·.zero)=some (some z))(hzc:z.cells.size=1)(hsz:cC P t=some 1)(hv:v.cells = #[v])(hone:v.oneCell'=true)(hx : ∀p,asg (us2 p) x=p)(hy : ∀p,asg (us2 p) y=v)(hk : ∀h':Heap,(vw h).le (vw h')->h'.size=h.size+1->h'[h.size]? = some (.cells #[v] t (0,0))->K (.pointer (some ⟨h.size,0,none⟩)) h'):
  @step po P (.alloc t) ty us h fun p h2=>@step po2 P (.store t x y) ty2 (us2 p) h2 fun _ h3=>K p h3:=by
 refine eZ hz ?_;refine eR (g:=h.size) (o:=0) (n:=1) (v:=v) (cur:=z.cells) (e:=t) hsz (hx _) (hy _) (by rw[hv];rfl) (by rw[hv];simpa using hone) (by simp) (by omega) fun h' hs ⟨row,hrow,he⟩ hoth=>?_;have hrow2:row = #[v]:=by rw[<-Array.toList_inj,he,hv];simp only[NN,MB,Nt];rw[MG (by simp[hzc])];rfl
 rw[hrow2]at hrow;refine hk h' (fun b o hb=>?_) (by rw[hs];simp) hrow;have hlt:=View.lt (View.le_refl (vw h)) hb;show h'[b]? = _;rw[hoth b (by omega)];exact bm _ _ b o hb
variable{caps:Array Value}
theorem j0{f:FuncId}{t:Nat}{ops:List Operand}{T:Array TypeId}(hf:asg us (.tmp t) = .func (.func f) #[] caps){R:Value->Heap->Prop}(hfn:isFn P f=true)(hc:az P f (ops.map (asg us)++caps.toList).toArray h R)(hk : ∀v h',R v h'->K v h'):step P (.call ⟨.value (.tmp t),ops.toArray,T⟩) ty us h K:=by
 refine dR (wx (R:=R) (f:=f) (args:=(ops.map (asg us)++caps.toList).toArray) (fun w _=>?_) hc hk);unfold isFn at hfn;cases hfn':P.funcs[f]? with
 | none=>simp[hfn']at hfn
 | some fn=>simp only[hfn',LK,bne_iff_ne,ne_eq]at hfn;obtain⟨h1,h2⟩:=hfn;simp[bL,execOp,resolve,Deferred.ofValue,hf,invoke,callFunc,program,Sem.run,hfn',h1,Option.isNone];cases hb:fn.body<;>simp[hb]at h2 ⊢
end
instance:Rep (Int × Int) where
 n:=2
 agg:=true
 rd:=fun _ cs d=>cs=[.int .i64 d.1,.int .i64 d.2]/\(-9223372036854775808<=d.1/\d.1<=9223372036854775807)/\-9223372036854775808<=d.2/\d.2<=9223372036854775807
 mono:=fun _ h=>h
 len:=fun h=>by rw[h.1];rfl
 one:=fun h=>by cases h
 flat:=fun h u hu=>by rw[h.1]at hu;simp at hu;rcases hu with rfl | rfl<;>rfl
 pos:=by decide
 fG:=fun h=>h
theorem uC{v:Value}{d:Int × Int}:Rd H v d↔v = .agg #[.int .i64 d.1,.int .i64 d.2]/\(-9223372036854775808<=d.1/\d.1<=9223372036854775807)/\-9223372036854775808<=d.2/\d.2<=9223372036854775807:=by
 simp only[Rd,Rep.agg,Rep.rd,if_true];constructor
 ·rintro⟨cs,rfl,h1,h2⟩;refine⟨?_,h2⟩;congr 1;rw[<-Array.toList_inj,h1]
 rintro⟨rfl,h2⟩;exact⟨_,rfl,rfl,h2⟩
variable{α:Type}
theorem SlRd.idxn[Rep α]{v:Value}{l:List α}(h:SlRd H v l){N:Nat}(hn:Rep.n α=N){k:IntKind}{i:Int}(h0:0<=i)(h1:i<l.length):Bn.ev (.idx N) v (.int k i)=some (.pointer (some ((slA v).add (i.toNat*N)))):=by have:=h.idx (k:=k) h0 h1;rw[hn]at this;exact this
theorem SlRd.pair{K:View}{v:Value}{l:List (Int × Int)}(h:SlRd H v l)(hk:H.le K){i:Nat}(hi:i<l.length):Un.ev K (.al 2) (.pointer (some ((slA v).add (i*2))))=some (.agg #[.int .i64 (nth l i).1,.int .i64 (nth l i).2]):=by obtain⟨u,h1,h2⟩:=((h.at hi).mono hk).al rfl;rw[uC]at h2;rw[h2.1]at h1;rw[ak hi];exact h1
theorem SlRd.H9{K:View}{v:Value}{l:List (Int × Int)}(h:SlRd H v l)(hk:H.le K){i:Nat}(hi:i<l.length):ao K (((slA v).add (i*2)).add 0)=some (.int .i64 (nth l i).1)/\ao K (((slA v).add (i*2)).add 1)=some (.int .i64 (nth l i).2):=by obtain⟨cs,h1,h2⟩:=(h.at hi).mono hk;rw[ak hi];obtain⟨e,_⟩:=h2;subst e;exact⟨jH h1 (i:=0) rfl,jH h1 (i:=1) rfl⟩
end
section
variable {po po2 po3:OP} {pp:PP}
variable{P:Program}{K:Value->Heap->Prop}
theorem B0{s:Sem Next}{l:Nat}{vs:List Value}{h:Heap}{R:Bool->Heap->Prop}(hs : ∀w:World,w.heap=h->s.run P w=(Instr.yield l vs.toArray).run P w)(hy:Bm P l vs h R)(hk : ∀b h',R b h'->K (.bool b) h'):iF P s h K:=by intro w hw r o a K' Q' hK hQ;obtain⟨f,tmps,asg,body,h1,h2⟩:=hy w hw;rw[hs w hw,h1];simp only[Oper.uponIn];have h3:RoundIn (Fw r) 0 P l f tmps asg body w _:=h2;refine⟨fun h=>by simp[Fw,Fence.wide]at h,h3.mono ?_⟩;rintro e w' ⟨b,rfl,hR,hsame⟩;exact hK _ w' (hk _ _ hR) hsame
variable{ty:TypeId}{us:List (Nat × Value)}
theorem GA{t l:Nat}{ops:List Operand}{T:Array TypeId}{h:Heap}(hf:asg us (.tmp t) = .func (.yield l) #[] #[]){R:Bool->Heap->Prop}(hy:Bm P l (ops.map (asg us)) h R)(hk : ∀b h',R b h'->K (.bool b) h'):step P (.call ⟨.value (.tmp t),ops.toArray,T⟩) ty us h K:=by refine dR (B0 (l:=l) (vs:=ops.map (asg us)) (fun w _=>?_) hy hk);simp[bL,execOp,resolve,Deferred.ofValue,hf,invoke]
variable{β:Type}{body:LC}{ρ:Env}
theorem uK{enc:β->List Value}{g:E}{ps:List Nat}{asg:LC}{Q:Post}{h:Heap}{gf:Nat}{caps:List Value}{all:List β}{A:β->Env}(V W0:View)(I:Option Exit->Nat->View->Heap->Prop)(hg:ev (look ρ) (vw h) g=some (.func (.func gf) #[] caps.toArray))(hf:isFn P gf=true)(hi:Iter P gf caps V (all.map enc))(hl : ∀x,(enc x).length=ps.length)(hV:V.le W0)(hI : ∀e k,nE h.size (I e k))(h0:I none 0 W0 h)(hasg : ∀x h1,@LC.wp noPP P asg (fun e ρ1 h2=>e = .normal/\h2=h1/\ρ1=A x) (dk ρ (ps.zip (enc x))) h1)(round : ∀k x W h1,(∀b,b<h.size->W b=W0 b)->all[k]? = some x->I none k W h1->∀K:Post,(∀ρ2 h3,I none (k+1) W h3->K .normal ρ2 h3)->(∀e ρ2 h3,e≠.normal->I (some e) (k+1) W h3->K e ρ2 h3)->@LC.wp noPP P body K (A x) h1)(done : ∀W h1,(∀b,b<h.size->W b=W0 b)->I none all.length W h1->Q .normal ρ h1)(left : ∀e k W h1,(∀b,b<h.size->W b=W0 b)->I (some e) k W h1->Q e ρ h1):LC.wp P (.rangef g ps asg body) Q ρ h:=by
 refine⟨gf,caps,V,W0,all.map enc,I,fun k=>match all[k]? with | some x=>A x | none=>[],hg,hf,hi,fun vs hvs=>?_,hV,hI,h0,fun k vs W h1 ha hk hIk=>?_,fun W h1 a b=>done W h1 a (by simpa using b),fun e k W h1 _ _=>left e k W h1⟩
 ·obtain⟨x,_,rfl⟩:=MR.1 hvs;exact hl x
 rw[List.getElem?_map,LL]at hk;obtain⟨x,hk,rfl⟩:=hk;simp only[hk];refine⟨hasg x h1,round k x W h1 ha hk hIk _ (fun ρ2 h3 hh=>hh) fun e ρ2 h3 hne hh=>?_⟩;cases e<;>first | exact absurd rfl hne | exact hh
theorem SlRd.drop {α:Type} [Rep α] {H:View} {v:Value} {l:List α} (h:SlRd H v l) {n:Nat} (hn:n<=l.length) {kd:IntKind} : ∃u,Bn.ev (.lo (Rep.n α)) v (.int kd n)=some u/\SlRd H u (l.drop n):=by
 obtain⟨a,cap,rfl,h1,h2,h3⟩:=h;refine⟨.slice (if cap=n then a else a.map (·.add (n*Rep.n α))) (l.length-n) (cap-n),by simp[Bn.ev,vL,vI,hn],if cap=n then a else a.map (·.add (n*Rep.n α)),cap-n,?_,?_,?_,?_⟩
 ·rw[ME]
 ·rw[ME];omega
 ·rw[ME];omega
 rcases h3 with rfl | ⟨ad,rfl,hs,hat⟩
 ·left;simp
 by_cases hc:cap=n
 ·left;simp;omega
 refine .inr ⟨ad.add (n*Rep.n α),by simp[hc],by rw[bn hs],fun i hi=>?_⟩;rw[ME]at hi;rw[N9];have:=hat (n+i) (by omega);rw[bn hs]at this ⊢;rw[bn rfl];simpa[N1,O9]using this
def but (v:Value) (h:Heap):View:=fun b=>if v.ownBlock=some b then none else h[b]?
theorem Gu{v:Value}{h:Heap}:(but v h).le (vw h):=fun b o hb=>by
 unfold but at hb;split at hb
 ·cases hb
 exact hb
theorem JI{v:Value}{h:Heap}:Av (but v h) v:=fun b hb=>by unfold but;rw[if_pos hb]
variable{h':Heap}
theorem AX{v:Value}{h:Heap}(hle:(vw h).le (vw h')):(but v h).le (but v h'):=fun b o hb=>by
 unfold but at *;split at hb
 ·cases hb
 rename_i hne;rw[if_neg hne];exact hle b o hb
variable{V:View}
theorem Jj{v:Value}{h:Heap}(hV:V.le (vw h))(ha:Av V v):V.le (but v h):=fun b o hb=>by
 unfold but;split
 ·rename_i e;rw[ha b e]at hb;cases hb
 exact hV b o hb
variable{α:Type}{h0:Heap}{W:View}
theorem Mine.beside[Rep α][Rep β]{h:Heap}{e e1:TypeId}{v2 v1 v1':Value}{l2:List α}{l1':List β}(m2:Mine nothing h0 h nothing e v2 l2)(m1:Mine V h0 h' W e1 v1' l1')(mv:lq h h' v1 v1')(ne:v2.ownBlock=none\/v2.ownBlock≠v1.ownBlock):Mine nothing h0 h' nothing e v2 l2:=
 ⟨m1.old,fun _ _ h=>(by cases h),fun _ _=>rfl,m2.av0,Old.nothing _ _,m2.own.kept mv.kept ne⟩
theorem Mine.over[Rep α]{h:Heap}{e:TypeId}{v:Value}{l:List α}(m:Mine V h0 h nothing e v l):Mine (vw h0) h0 h (but v h) e v l:=
 ⟨m.old,Gu,JI,m.av0,fun b o hb hx=>by have h1:=Gu b o hx;have h2:h0[b]? = some h0[b]:=Array.getElem?_eq_getElem hb;have h3:h[b]? = some h0[b]:=m.old b _ h2;have h4:h[b]? = some o:=h1;rw[h3]at h4;cases h4;exact h2,m.own.mono (fun _ _ h=>by cases h)⟩
theorem Mine.KE{h:Heap}{e:TypeId}{v:Value}{l:List Int}(m:Mine V h0 h W e v l):Mine nothing h0 h nothing e v l:=
 ⟨m.old,fun _ _ h=>(by cases h),fun _ _=>rfl,m.av0,Old.nothing _ _,m.own⟩
variable{n:Nat}
theorem Jo{a:Addr}{c m:Nat}{k:IntKind}{i:Int}(h0:0<=i)(h1:i<n):Bn.ev (.idx m) (.slice (some a) n c) (.int k i)=some (.pointer (some (a.add (i.toNat*m)))):=by simp[Bn.ev,vL,vI,h0,h1]
theorem Iv{a:Addr}{c:Nat}{k:IntKind}{i:Int}(h0:0<=i)(h1:i<n):Bn.ev (.idx 1) (.slice (some a) n c) (.int k i)=some (.pointer (some (a.add i.toNat))):=by rw[Jo h0 h1,MP]
variable{H:View}{b:Nat}
theorem bW{o:Nat}{c:Array Value}{T:TypeId}{fz:Nat × Nat}{v:Value}(h:H b=some (.cells c T fz))(hv:c[o]? = some v):ao H ⟨b,o,none⟩=some v:=by simp[ao,h,hv]
theorem SlRd.cells {α:Type} [Rep α] {H:View} {v:Value} {l:List α} (h:SlRd H v l):v.cells = #[v]/\v.oneCell'=true:=by obtain⟨a,cap,rfl,_⟩:=h;exact⟨rfl,rfl⟩
theorem nQ.ext{h0 h h':Heap}(hs:nQ h0.size h h')(hle:(vw h0).le (vw h)):(vw h0).le (vw h'):=fun b o hb=>by have hlt:=View.lt (View.le_refl (vw h0)) hb;show h'[b]? = _;rw[hs.same b (.inl hlt)];exact hle b o hb
theorem nQ.iz{h:Heap}(hs:nQ h0.size h h'):(fresh h0 h).fG.le (fresh h0 h'):=fun b o hb=>by
 have h1:=View.zz _ _ hb;have h2 : ∀x,o≠.deferred x:=by intro x e;subst e;unfold View.fG at hb;split at hb<;>cases hb
 unfold fresh at h1 ⊢;split at h1
 ·cases h1
 rename_i hge;rw[if_neg hge,hs.same b (.inr ?_)]
 ·exact h1
 rw[h1];intro e;exact h2 _ (Option.some.inj e)
theorem nQ.rd[Rep α]{h:Heap}{v:Value}{l:List α}(hs:nQ h0.size h h')(hr:SlRd (fresh h0 h) v l):SlRd (fresh h0 h') v l:=
 fy.1 ((fy.2 hr).fG.mono hs.iz)
theorem sJ{h:Heap}(hb:b<h.size):grow W h h' b=W b:=by unfold grow;rw[if_pos hb]
theorem nE.grown{J:View->Heap->Prop}(hJ:nE n J){h:Heap}(hj:J W h)(hn:n<=h.size)(hle:(vw h).le (vw h')):J (grow W h h') h':=
 hJ.move hj (fun b hb=>sJ (by omega)) (nG (View.le_trans (hJ.le hj) hle)) (fun b hb hlt=>⟨(pD hle).block b hlt (by simp),by rw[sJ hlt];exact hb⟩) (gQ hle)
variable{bytes:Nat}{y:Operand}
theorem Gg{t e:TypeId}{z:Value}{x:Operand}{h:Heap}{k:IntKind}(hT:ff P t e 1 bytes z)(hx:asg us x = .int k n)(hy:asg us y = .int k n)(hz1:z.cells = #[z])(hb:bytes*n<=140737488355328)(hb2:n<=140737488355328)(hk:K (.slice (some ⟨h.size,0,none⟩) n n) (h.push (.cells (List.replicate n z).toArray e))):step P (.makeSlice t x y) ty us h K:=by
 obtain⟨ht,⟨i,hi,hz,hsize,hby⟩,hzs,hsz,hsmall⟩:=hT;refine dR (dt fun w hw=>?_);subst hw;have hrun:=run_make (P:=P) w t e i z ht hi hz k k (n:Int) (n:Int) (by omega) (Oa _) (by
  rw[hby];have:((bytes*n:Nat):Int)<=281474976710656:=by omega
  rwa [Int.natCast_mul]at this) (by omega);simp only[LY,hsize,MP]at hrun
 have hm:madeCells z.cells n=(List.replicate n z).toArray:=by
  rw[hz1];apply Array.ext
  ·simp[madeCells]
  intro j h1 h2;simp[madeCells,Nat.mod_one]
 rw[hm]at hrun;refine⟨_,w.alloc (.cells (List.replicate n z).toArray e),?_,kg _ _,hk⟩;simp only[bL,execOp,hx,hy];simp[hrun]
theorem OwnT.same{α:Type}[Rep α]{W:View}{h h':Heap}{e:TypeId}{v:Value}{l:List α}(o:OwnT W h e v l)(hb : ∀b,v.ownBlock=some b->h'[b]? = h[b]?):OwnT W h' e v l:=by
 obtain⟨bd,xs,⟨h1,h2⟩,h3⟩:=o;refine⟨bd,xs,⟨h1,?_⟩,h3⟩;rcases h2 with h2 | ⟨g,cap,cur,rfl,hg,h4⟩
 ·exact .inl h2
 exact .inr ⟨g,cap,cur,rfl,(hb g rfl).trans hg,h4⟩
structure Rw {α:Type} [Rep α] (W:View) (h:Heap) (ot e:TypeId) (g:Nat) (rv:List Value) (ls:List (List α)):Prop where
 wle:W.le (vw h)
 wg:W g=none
 blk:h[g]? = some (.cells rv.toArray ot (0,0))
 len:rv.length=ls.length
 own : ∀i,i<ls.length->OwnT nothing h e (nth rv i) (nth ls i)
 av : ∀i,i<ls.length->Av W (nth rv i)
 ng : ∀i,i<ls.length->(nth rv i).ownBlock≠some g
 dj : ∀i j,i<ls.length->j<ls.length->i≠j->(nth rv i).ownBlock=none\/(nth rv i).ownBlock≠(nth rv j).ownBlock
section
variable {α:Type} [Rep α] {W:View} {h h':Heap} {ot e:TypeId} {g:Nat} {rv:List Value} {ls:List (List α)}
theorem Rw.lt(r:Rw W h ot e g rv ls):g<h.size:=(Array.getElem?_eq_some_iff.1 r.blk).1
theorem aA[Inhabited β]{i:Nat}{x:β}(hi:i<n):nth (List.replicate n x) i=x:=by rw[ak (by simpa using hi)];simp
theorem Rw.start(hW:W.le (vw h))(hg:W g=none)(hb:h[g]? = some (.cells (List.replicate n (.slice none 0 0)).toArray ot (0,0))):Rw (α:=α) W h ot e g (List.replicate n (.slice none 0 0)) (List.replicate n []):=
 ⟨hW,hg,hb,by simp,fun i hi=>by rw[aA (by simpa using hi),aA (by simpa using hi)];exact OwnT.nil ..,fun i hi=>by rw[aA (by simpa using hi)];exact Av.nil _ _ _,
  fun i hi=>by rw[aA (by simpa using hi)];simp[Value.ownBlock],fun i j hi hj _=>by rw[aA (by simpa using hi)];exact .inl rfl⟩
theorem Rw.move(r:Rw W h ot e g rv ls){W':View}(h1:W'.le (vw h'))(h2 : ∀b,W b=none->b<h.size->h'[b]? = h[b]?/\W' b=none):Rw W' h' ot e g rv ls:=
 {wle:=h1,wg:=(h2 g r.wg r.lt).2,blk:=(h2 g r.wg r.lt).1.trans r.blk,len:=r.len,ng:=r.ng,dj:=r.dj
  own:=fun i hi=>(r.own i hi).same fun b hb=>(h2 b (r.av i hi b hb) ((r.own i hi).lt hb)).1
  av:=fun i hi b hb=>(h2 b (r.av i hi b hb) ((r.own i hi).lt hb)).2 }
theorem Rw.ext(r:Rw W h ot e g rv ls)(hle:(vw h).le (vw h')):Rw W h' ot e g rv ls:=
 r.move (View.le_trans r.wle hle) fun b hb hlt=>⟨(pD hle).block b hlt (by simp),hb⟩
theorem aF[Inhabited β]{l:List β}{i j:Nat}{x:β}(hj:j<l.length):nth (l.set i x) j=if i=j then x else nth l j:=by
 rw[ak (by simpa using hj),Od];split
 ·rfl
 rw[ak hj]
theorem Rw.put{h2 h3:Heap}{i:Nat}{v':Value}{l':List α}(r:Rw W h ot e g rv ls)(hi:i<ls.length)(o:OwnT nothing h2 e v' l')(m:lq h h2 (nth rv i) v')(hb:h3[g]? = some (.cells (rv.set i v').toArray ot (0,0)))(hoth : ∀k,k≠g->h3[k]? = h2[k]?)(hsz:h3.size=h2.size):Rw W h3 ot e g (rv.set i v') (ls.set i l'):=by
 obtain⟨hw',ha'⟩:=m.view r.wle (r.av i hi);have hlt:=r.lt;have ng':v'.ownBlock≠some g:=by
  rcases m.at_ with e | e
  ·rw[e];exact r.ng i hi
  rw[e];intro e2;cases e2;omega
 have hv' : ∀j,j<ls.length->j≠i->(nth rv j).ownBlock=none\/(nth rv j).ownBlock≠v'.ownBlock:=by
  intro j hj hne;rcases m.at_ with e | e
  ·rw[e];exact r.dj j i hj hi hne
  right;rw[e];intro e2;have:=(r.own j hj).lt e2;omega
 have rl:=r.len;refine⟨fun b x hb=>?_,r.wg,hb,by simp[rl],fun j hj=>?_,fun j hj=>?_,fun j hj=>?_,fun j k hj hk hne=>?_⟩
 ·have hne:b≠g:=fun e=>by rw[e,r.wg]at hb;cases hb
  show h3[b]? = _;rw[hoth b hne];exact hw' b x hb
 ·rw[LN]at hj;rw[aF (by omega),aF hj];split
  ·exact o.same fun b hb=>hoth b (fun e=>ng' (by rw[hb,e]))
  rename_i hne;refine((r.own j hj).kept m.kept (r.dj j i hj hi (fun e=>hne e.symm))).same fun b hb=>hoth b (fun e=>r.ng j hj (by rw[hb,e]))
 ·rw[LN]at hj;rw[aF (by omega)];split
  ·exact ha'
  exact r.av j hj
 ·rw[LN]at hj;rw[aF (by omega)];split
  ·exact ng'
  exact r.ng j hj
 rw[LN]at hj hk;rw[aF (by omega),aF (by omega)];split
 ·rename_i e1;rw[if_neg (by omega)];rcases hv' k hk (by omega)with e | e
  ·rcases hb2:v'.ownBlock with _ | b
   ·exact .inl rfl
   right;rw[e];simp
  exact .inr fun e2=>e e2.symm
 split
 ·rename_i e1 e2;exact hv' j hj (by omega)
 exact r.dj j k hj hk hne
theorem Rw.rd (r:Rw W h ot e g rv ls) {X:View} (hg:X g=h[g]?) (hx : ∀i b,i<ls.length->(nth rv i).ownBlock=some b->X b=h[b]?) (hb:ls.length<=140737488355328):SlRd X (.slice (some ⟨g,0,none⟩) ls.length ls.length) ls:=by
 refine⟨some ⟨g,0,none⟩,ls.length,rfl,LG _,hb,.inr ⟨_,rfl,rfl,fun i hi=>?_⟩⟩;rw[bn rfl];have hlen:=r.len;refine⟨[nth rv i],⟨rv.toArray,ot,(0,0),rfl,by rw[hg];exact r.blk,?_⟩,nth rv i,rfl,?_⟩
 ·rw[ak (by omega)];simp only[Nt,show Rep.n (List α)=1 from rfl,MP,Nl,N6];have hd:rv.drop i=rv[i]::rv.drop (i+1):=MV (by omega);show List.take (0+1) (List.drop i rv)=_;rw[hd];rfl
 rw[<-ak hi];exact(r.own i hi).rd (fun _ _ h=>by cases h) (hx i · hi)
theorem Rw.fresh {h0:Heap} (r:Rw W h ot e g rv ls) (h0W:(vw h0).le W) (hb:ls.length<=140737488355328):SlRd (Lft.fresh h0 h) (.slice (some ⟨g,0,none⟩) ls.length ls.length) ls:=by
 have key : ∀b,W b=none->h0.size<=b:=by
  intro b hb;rcases LI b h0.size with hlt | hge
  ·have:=h0W b h0[b] (Array.getElem?_eq_getElem hlt);rw[hb]at this;cases this
  exact hge
 refine r.rd (by unfold Lft.fresh;rw[if_neg (Pk.2 (key g r.wg))]) (fun i b hi hbb=>by unfold Lft.fresh;rw[if_neg (Pk.2 (key b (r.av i hi b hbb)))]) hb
end
def skip (B:Nat) (h:Heap):View:=fun b=>if b=B then none else h[b]?
variable{B:Nat}
theorem cA{h:Heap}:(skip B h).le (vw h):=fun b o hb=>by
 unfold skip at hb;split at hb
 ·cases hb
 exact hb
theorem DP{h:Heap}:skip B h B=none:=by simp[skip]
theorem jT{h:Heap}(hb:b≠B):skip B h b=h[b]?:=by unfold skip;rw[if_neg hb]
theorem Iq{h:Heap}(hV:V.le (vw h))(hB:V B=none):V.le (skip B h):=fun b o hb=>by
 have hne:b≠B:=fun e=>by rw[e,hB]at hb;cases hb
 rw[jT hne];exact hV b o hb
structure Bx {α:Type} [Rep α] (W:View) (h:Heap) (B:Nat) (T e:TypeId) (v:Value) (l:List α):Prop where
 wle:W.le (vw h)
 wB:W B=none
 box:h[B]? = some (.cells #[v] T (0,0))
 av:Av W v
 nv:v.ownBlock≠some B
 own:OwnT nothing h e v l
theorem Ew[Rep α]{h:Heap}{e:TypeId}{v:Value}{l:List α}(o:OwnT W h e v l):v.cells = #[v]/\v.oneCell'=true:=by have:=o.len (K:=nothing);cases v<;>first | exact⟨rfl,rfl⟩ | (simp[Un.ev,vL]at this)
section
variable {α:Type} [Rep α] {W:View} {h h':Heap} {B:Nat} {T e:TypeId} {v:Value} {l:List α}
theorem Bx.lt(b:Bx W h B T e v l):B<h.size:=(Array.getElem?_eq_some_iff.1 b.box).1
theorem Bx.move(r:Bx W h B T e v l){W':View}(h1:W'.le (vw h'))(h2 : ∀b,W b=none->b<h.size->h'[b]? = h[b]?/\W' b=none):Bx W' h' B T e v l:=
 {wle:=h1,wB:=(h2 B r.wB r.lt).2,box:=(h2 B r.wB r.lt).1.trans r.box,nv:=r.nv
  av:=fun b hb=>(h2 b (r.av b hb) (r.own.lt hb)).2
  own:=r.own.same fun b hb=>(h2 b (r.av b hb) (r.own.lt hb)).1 }
theorem Bx.ext(r:Bx W h B T e v l)(hle:(vw h).le (vw h')):Bx W h' B T e v l:=
 r.move (View.le_trans r.wle hle) fun b hb hlt=>⟨(pD hle).block b hlt (by simp),hb⟩
theorem Bx.cell(r:Bx W h B T e v l):ao (vw h) ⟨B,0,none⟩=some v:=by simp[ao,vw,r.box]
theorem Bx.start(hW:W.le (vw h))(hB:W B=none)(hb:h[B]? = some (.cells #[.slice none 0 0] T (0,0))):Bx (α:=α) W h B T e (.slice none 0 0) []:=
 ⟨hW,hB,hb,Av.nil _ _ _,by simp[Value.ownBlock],OwnT.nil ..⟩
theorem Bx.BZ{h1 h2:Heap}{v':Value}{l':List α}(k:Bx W h B T e v l)(o:OwnT nothing h1 e v' l')(m:lq h h1 v v')(hsz:h2.size=h1.size)(hB:h2[B]? = some (.cells #[v'] T (0,0)))(hoth : ∀j,j≠B->h2[j]? = h1[j]?):Bx W h2 B T e v' l':=by
 obtain⟨hw',ha'⟩:=m.view k.wle k.av;have hlt:=k.lt;have nl':v'.ownBlock≠some B:=by
  rcases m.at_ with e | e
  ·rw[e];exact k.nv
  rw[e];intro e2;cases e2;omega
 refine⟨fun b x hb=>?_,k.wB,hB,ha',nl',o.same fun b hb=>hoth b (fun e=>nl' (by rw[hb,e]))⟩;have hne:b≠B:=fun e=>by rw[e,k.wB]at hb;cases hb
 show h2[b]? = _;rw[hoth b hne];exact hw' b x hb
theorem Bx.append {P:Program} {t ty ty3:TypeId} {bytes:Nat} {z:Value} {x y p q:Operand} {us:List (Nat × Value)} {us3:Value->List (Nat × Value)} {u:Value} {l2:List α} {K:Value->Heap->Prop} (k:Bx W h B T e v l)
  (hT:ff P t e (Rep.n α) bytes z) (hsz:cC P T=some 1) (hx:asg us x=v) (hy:asg us y=u) (hs:SrcT (vw h) nothing u l2) (hb:(l.length+l2.length)*bytes<=140737488355328) (hb2:l.length+l2.length<=140737488355328)
  (hp : ∀v',asg (us3 v') p = .pointer (some ⟨B,0,none⟩)) (hq : ∀v',asg (us3 v') q=v') (hk : ∀v' h',Bx W h' B T e v' (l++l2)->K v' h') :
  @step po P (.call ⟨.builtin .append,#[x,y],#[t,t]⟩) ty us h fun v' h2=>@step po2 P (.store T p q) ty3 (us3 v') h2 fun _ h3=>K v' h3:=by
 refine bw hT hx hy k.own hs hb hb2 fun v' h2 o2 m2=>?_;have hB2:h2[B]? = some (.cells #[v] T (0,0)):=by rw[m2.kept.block B k.lt (fun e=>k.nv e.symm)];exact k.box
 obtain⟨hcells,hone⟩:=Ew o2;refine eR (g:=B) (o:=0) (n:=1) (v:=v') hsz (hp v') (hq v') (by rw[hcells];rfl) (by rw[hcells];simpa using hone) hB2 (by simp) fun h3 hsz3 ⟨row,hrow,he⟩ hoth=>hk v' h3 ?_;have hrow2:row = #[v']:=by rw[<-Array.toList_inj,he,hcells];rfl
 rw[hrow2]at hrow;exact k.BZ o2 m2 hsz3 hrow hoth
variable{ty2:TypeId}{us2:Value->List (Nat × Value)}
theorem Bx.push{t ty3:TypeId}{z:Value}{x y2 p q:Operand}{us3:Value->Value->List (Nat × Value)}{u:Value}{d:α}{K:Value->Value->Heap->Prop}(k:Bx W h B T e v l)(hT:ff P t e (Rep.n α) bytes z)(hsz:cC P T=some 1)(hx:asg us x=u)(hr:Rd nothing u d)(hb:(l.length+1)*bytes<=140737488355328)(hb2:l.length+1<=140737488355328)(hy : ∀u,asg (us2 u) y=v)(hy2 : ∀u,asg (us2 u) y2=u)(hp : ∀u v',asg (us3 u v') p = .pointer (some ⟨B,0,none⟩))(hq : ∀u v',asg (us3 u v') q=v')(hk : ∀u v' h',Bx W h' B T e v' (l++[d])->K u v' h'):
  @step po P (.buildSlice t 1 #[(0,x)]) ty us h fun u h2=>@step po2 P (.call ⟨.builtin .append,#[y,y2],#[t,t]⟩) ty2 (us2 u) h2 fun v' h3=>@step po3 P (.store T p q) ty3 (us3 u v') h3 fun _ h4=>K u v' h4:=by refine lg hT hx hr fun u h2 hs hle _=>?_;exact(k.ext hle).append hT hsz (hy u) (hy2 u) hs hb hb2 (hp u) (hq u) fun v' h' b=>hk u v' h' b
theorem Bx.fresh {h0:Heap} (k:Bx W h B T e v l) (h0W:(vw h0).le W):SlRd (Lft.fresh h0 h) v l:=
 k.own.fresh (fun _ _ h=>by cases h) fun b hb=>by
  cases hx:vw h0 b with
  | none=>rfl
  | some o=>have:=h0W _ _ hx;rw[k.av b hb]at this;cases this
end
end
section
open Go Go.MapKept
variable {po:OP} {pp:PP}
structure gX (d:TypeDesc) (h:Heap) (r:Nat) (f:Value->Option Value):Prop where
 ex : ∃es clock,h[r]? = some (.map es clock)/\(∀x∈es.toList,IsKey d x.key)/\Stamped es clock/\∀k v,IsKey d k->((∃x∈es.toList,x.key=k/\x.val=v)↔f k=some v)
theorem gX.lt{d:TypeDesc}{h:Heap}{r:Nat}{f:Value->Option Value}(m:gX d h r f):r<h.size:=by obtain⟨es,c,h1,_⟩:=m.ex;exact(Array.getElem?_eq_some_iff.1 h1).1
theorem gX.same{d:TypeDesc}{h h':Heap}{r:Nat}{f:Value->Option Value}(m:gX d h r f)(e:h'[r]? = h[r]?):gX d h' r f:=by obtain⟨es,c,h1,h2⟩:=m.ex;exact⟨es,c,by rw[e];exact h1,h2⟩
theorem gX.ext{d:TypeDesc}{h h':Heap}{r:Nat}{f:Value->Option Value}(m:gX d h r f)(hle:(vw h).le (vw h')):gX d h' r f:=by obtain⟨es,c,h1,h2⟩:=m.ex;exact⟨es,c,hle _ _ h1,h2⟩
theorem gX.none {d:TypeDesc} {h:Heap} {r:Nat} (hr:h[r]? = some (.map #[] 0)):gX d h r fun _=>none:=
 ⟨#[],0,hr,by simp,stamped_empty 0,by simp⟩
section
variable {P:Program} {ty:TypeId} {us:List (Nat × Value)} {h:Heap} {K:Value->Heap->Prop} {d:TypeDesc} {r:Nat} {f:Value->Option Value} {t k e:TypeId}
theorem qk(hk:K (.map (some h.size)) (h.push (.map #[] 0))):step P (.makeMap t .none) ty us h K:=by refine dR (dt fun w hw=>?_);subst hw;refine⟨_,w.alloc (.map #[] 0),?_,kg _ _,hk⟩;simp only[bL,execOp];simp[Instr.makeMap,newObj];rfl
theorem Bq{w:World}{u v:Value}(ht:P.underlying t=some (.map k e))(hd:P.underlying k=some d)(hu:IsKey d u)(m:gX d w.heap r f)(g:Value->Option Value)(hg:g u=some v)(hg2 : ∀j,j≠u->g j=f j):
  ∃o,(Instr.mapUpdate t (.map (some r)) u v).run P w = .ok () { w with heap:=w.heap.setIfInBounds r o }/\gX d (w.heap.setIfInBounds r o) r g:=by
 obtain⟨es,c,h1,h2,h3,h4⟩:=m.ex;rcases findNow_spec hu es.toList 0 h2 with⟨g1,g2⟩ | ⟨j,x,g1,g2,g3⟩
 ·refine⟨.map (es.push { key:=u,val:=v,born:=c }) (c+1),?_,_,_,(MapKept.heap_set h1).1,?_,stamped_push h3 g2,?_⟩
  ·simp[Instr.mapUpdate,run_underlying ht,MapKept.run_getObj_map h1,MapKept.run_checkKey hd hu,MapKept.run_findKey hd g1,MapKept.run_setObj_map _ h1,Result.andThen]
  ·intro x hx;simp only[On,LP,LM]at hx;rcases hx with hx | rfl
   ·exact h2 x hx
   exact hu
  intro q p hq;constructor
  ·rintro⟨x,hx,e1,e2⟩;simp only[On,LP,LM]at hx;rcases hx with hx | rfl
   ·rw[hg2 q (fun e=>g2 x hx (e1.trans e))];exact(h4 q p hq).1 ⟨x,hx,e1,e2⟩
   simp only at e1 e2;subst e1;subst e2;exact hg
  intro hp;by_cases e:q=u
  ·subst e;rw[hg]at hp;cases hp;exact⟨{ key:=q,val:=v,born:=c },by simp,rfl,rfl⟩
  rw[hg2 q e]at hp;obtain⟨x,hx,e⟩:=(h4 q p hq).2 hp;exact⟨x,by simp[show x∈es from by simpa using hx],e⟩
 have hj:es[j]? = some x:=by simpa using g2
 have hmem:x∈es.toList:=MI g2;have hlt:j<es.size:=(Array.getElem?_eq_some_iff.1 hj).1;have hkeyf : ∀e',es[j]? = some e'->({ e' with key:=u,val:=v }:MapEntry).key=e'.key:=fun e' he'=>by rw[hj]at he';cases he';exact g3.symm
 have hst:Stamped (es.modify j (fun e'=>{ e' with key:=u,val:=v })) c:=stamped_modify h3 _ _ (fun _ _=>rfl) (fun e' _ he'=>hkeyf e' he');have hget : ∀i y,(es.modify j (fun e'=>{ e' with key:=u,val:=v }))[i]? = some y↔(i=j/\y={ x with key:=u,val:=v })\/(i≠j/\es[i]? = some y):=by
  intro i y;rw[Array.getElem?_modify];by_cases hij:i=j
  ·subst hij;rw[if_pos rfl,hj];simp[eq_comm]
  rw[if_neg (Ne.symm hij)];simp[hij]
 have huniq : ∀i y,es[i]? = some y->y.key=u->i=j:=by
  intro i y hy hk;have hnd:=h3.2.2;have e1:(es.toList.map (·.key))[i]? = some u:=by simp[hy,hk]
  have e2:(es.toList.map (·.key))[j]? = some u:=by simp[hj,g3]
  have hl1:=(List.getElem?_eq_some_iff.1 e1);have hl2:=(List.getElem?_eq_some_iff.1 e2);obtain⟨l1,q1⟩:=hl1;obtain⟨l2,q2⟩:=hl2;exact(Ox hnd).1 (q1.trans q2.symm)
 refine⟨.map (es.modify j (fun e'=>{ e' with key:=u,val:=v })) c,?_,_,_,(MapKept.heap_set h1).1,?_,hst,?_⟩
 ·simp[Instr.mapUpdate,run_underlying ht,MapKept.run_getObj_map h1,MapKept.run_checkKey hd hu,MapKept.run_findKey hd g1,hj,g3,MapKept.run_keyThatStays hu,MapKept.run_setObj_map _ h1,Result.andThen]
 ·intro y hy;obtain⟨i,hi⟩:=List.getElem?_of_mem hy;have hi:(es.modify j (fun e'=>{ e' with key:=u,val:=v }))[i]? = some y:=by rw[Array.getElem?_toList]at hi;exact hi
  rcases(hget i y).1 hi with⟨_,rfl⟩ | ⟨_,h5⟩
  ·exact hu
  exact h2 y (MI (by simpa using h5))
 intro q p hq;constructor
 ·rintro⟨y,hy,e1,e2⟩;obtain⟨i,hi⟩:=List.getElem?_of_mem hy;have hi:(es.modify j (fun e'=>{ e' with key:=u,val:=v }))[i]? = some y:=by rw[Array.getElem?_toList]at hi;exact hi
  rcases(hget i y).1 hi with⟨_,rfl⟩ | ⟨h6,h5⟩
  ·simp only at e1 e2;subst e1;subst e2;exact hg
  rw[hg2 q (fun e=>h6 (huniq i y h5 (e1.trans e)))];exact(h4 q p hq).1 ⟨y,MI (by simpa using h5),e1,e2⟩
 intro hp;by_cases hqu:q=u
 ·subst hqu;rw[hg]at hp;cases hp;refine⟨{ x with key:=q,val:=v },MI (i:=j) ?_,rfl,rfl⟩;rw[Array.getElem?_toList];exact(hget j { x with key:=q,val:=v }).2 (.inl ⟨rfl,rfl⟩)
 rw[hg2 q hqu]at hp;obtain⟨y,hy,e1,e2⟩:=(h4 q p hq).2 hp;obtain⟨i,hi⟩:=List.getElem?_of_mem hy;have hi':es[i]? = some y:=by simpa using hi
 refine⟨y,MI (i:=i) ?_,e1,e2⟩;rw[Array.getElem?_toList];refine(hget i y).2 (.inr ⟨fun e=>?_,hi'⟩);subst e;rw[hj]at hi';cases hi';exact hqu (e1.symm.trans g3)
variable{y:Operand}
theorem xZ{x q:Operand}{u v:Value}{op:Op}(hop:op = .mapUpdate t x y q\/op = .insert t x y q)(ht:P.underlying t=some (.map k e))(hd:P.underlying k=some d)(hx:asg us x = .map (some r))(hy:asg us y=u)(hq:asg us q=v)(hu:IsKey d u)(m:gX d h r f)(g:Value->Option Value)(hg:g u=some v)(hg2 : ∀j,j≠u->g j=f j)(hk : ∀h':Heap,h'.size=h.size->(∀b,b≠r->h'[b]? = h[b]?)->gX d h' r g->K undef h'):step P op ty us h K:=by refine dR (mY fun w hw=>?_);subst hw;obtain⟨o,h1,h2⟩:=Bq (v:=v) ht hd hu m g hg hg2;obtain⟨es,c,h3,_⟩:=m.ex;have hoth:=(MapKept.heap_set (o':=o) h3).2;refine⟨{ w with heap:=w.heap.setIfInBounds r o },?_,Same.qy rfl rfl rfl (by simp) h3 (by simp) (fun k _ hne=>hoth k hne),hk _ (by simp) hoth h2⟩;rcases hop with rfl | rfl<;>simp only[bL,execOp,hx,hy,hq]<;>simp[h1]
end
def mapI (f:Int->Option Int):Value->Option Value
 | .int .i64 j=>(f j).map (.int .i64)
 | _=>none
@[simp] theorem Kq{f:Int->Option Int}{j:Int}:mapI f (.int .i64 j)=(f j).map (.int .i64):=rfl
def mapB (s:Int->Bool):Value->Option Value
 | .int .i64 j=>if s j then some (.bool true) else none
 | _=>none
@[simp] theorem Km{s:Int->Bool}{j:Int}:mapB s (.int .i64 j)=if s j then some (.bool true) else none:=rfl
theorem mC{j:Int}:IsKey (.int .i64) (.int .i64 j):=rfl
@[simp] theorem J9{s:Bool}:(if s=true then some (Value.bool true) else .none).getD (.bool false) = .bool s:=by cases s<;>rfl
end
section
variable {po:OP} {pp:PP}
variable{P:Program}{ρ:Env}
theorem aa{x y:LC}{Q:Post}{h:Heap}(hx : ∀z,z=y->LC.wp P x (gr (LC.wp P z Q) Q) ρ h):LC.wp P (.seq x y) Q ρ h:=hx y rfl
def oe {α:Type} [Rep α] (X:View):List Value->List α->Prop
 | [],[]=>True
 | v::vs,d::ds=>Rd X v d/\oe X vs ds
 | _,_=>False
theorem oe.len {α:Type} [Rep α] {X:View} : ∀{vs:List Value} {ds:List α},oe X vs ds->vs.length=ds.length
 | [],[],_=>rfl
 | _::_,_::_,h=>by simp[oe.len h.2]
theorem oe.get {α:Type} [Rep α] {X:View} : ∀{vs:List Value} {ds:List α},oe X vs ds->∀(i:Nat) (h1:i<vs.length) (h2:i<ds.length),Rd X vs[i] ds[i]
 | _::_,_::_,h,0,_,_=>h.1
 | _::_,_::_,h,i+1,h1,h2=>h.2.get i _ _
variable{α:Type}
theorem Rd.Ja[Rep α]{X:View}{v:Value}{d:α}(ha:Rep.agg α=false)(h:Rd X v d):v.cells = #[v]:=by unfold Rd at h;rw[if_neg (by simp[ha])]at h;have hfl:=Rep.flat h v (by simp);cases v<;>first | rfl | simp[Value.oneCell']at hfl
theorem uS : ∀(vs:List Value) (k:Nat) (A:Array Value),(∀v∈vs,v.cells = #[v])->k+vs.length=A.size->
  ∃B,Instr.fill (fun j=>some (j*1,1)) A ((vs.zipIdx k).map fun p=>(p.2,p.1))=some B/\B.toList=A.toList.take k++vs
 | [],k,A,_,hk=>⟨A,rfl,by simp at hk;rw[LV (by simp[hk])];simp⟩
 | v::vs,k,A,hv,hk=>by
  have hc:=hv v (LR ..);obtain⟨B,h1,h2⟩:=uS vs (k+1) (A.setIfInBounds k v) (fun u hu=>hv u (LS _ hu)) (by simp at hk ⊢;omega);refine⟨B,?_,?_⟩
  ·simp only[Ow,NK,Instr.fill,hc,MP];rw[if_neg (by simp at hk ⊢;omega)];simpa using h1
  rw[h2];have hkA:k<A.toList.length:=by simp at hk ⊢;omega
  rw[L8 (by simpa using hkA)];simp[OE]
end
structure Cat (α β:Type) where
 a:α
 b:β
instance {α β:Type} [Rep α] [Rep β]:Rep (Cat α β) where
 n:=Rep.n α+Rep.n β
 agg:=true
 rd:=fun H cs d=>∃c1 c2,cs=c1++c2/\Rep.rd H c1 d.a/\Rep.rd H c2 d.b
 mono:=fun hk ⟨c1,c2,h1,h2,h3⟩=>⟨c1,c2,h1,Rep.mono hk h2,Rep.mono hk h3⟩
 len:=fun⟨c1,c2,h1,h2,h3⟩=>by rw[h1,LH,Rep.len h2,Rep.len h3]
 one:=fun h=>by cases h
 flat:=fun⟨c1,c2,h1,h2,h3⟩ u hu=>by
  rw[h1]at hu
  rcases LP.1 hu with hu | hu
  ·exact Rep.flat h2 u hu
  ·exact Rep.flat h3 u hu
 pos:=Nat.add_pos_left Rep.pos _
 fG:=fun⟨c1,c2,h1,h2,h3⟩=>⟨c1,c2,h1,Rep.fG h2,Rep.fG h3⟩
abbrev Rep.via {α γ:Type} [Rep α] (f:γ->α):Rep γ where
 n:=Rep.n α
 agg:=Rep.agg α
 rd:=fun H cs d=>Rep.rd H cs (f d)
 mono:=fun hk h=>Rep.mono hk h
 len:=fun h=>Rep.len h
 one:=fun h=>Rep.one h
 flat:=fun h=>Rep.flat h
 pos:=Rep.pos
 fG:=fun h=>Rep.fG h
variable{H:View}
theorem A0{a:Addr}{c1 c2:List Value}(h:gj H a (c1++c2)):gj H a c1/\gj H (a.add c1.length) c2:=by
 obtain⟨c,T,fz,hs,hb,he⟩:=h;rw[LH]at he;have h1:(c.toList.drop a.off).take c1.length=c1:=by have:=congrArg (List.take c1.length) he;rw[M9,MO (by omega),Oj]at this;exact this
 have h2:(c.toList.drop (a.off+c1.length)).take c2.length=c2:=by have:=congrArg (List.drop c1.length) he;rw[Nk,NG,List.drop_left]at this;rw[show c1.length+c2.length-c1.length=c2.length by omega]at this;exact this
 refine⟨⟨c,T,fz,hs,hb,h1⟩,?_⟩;rw[bn hs];exact⟨c,T,fz,rfl,hb,h2⟩
variable{α β:Type}
theorem At.cat[Rep α][Rep β]{a:Addr}{d:Cat α β}(h:At H a d):At H a d.a/\At H (a.add (Rep.n α)) d.b:=by obtain⟨cs,h1,c1,c2,rfl,h2,h3⟩:=h;obtain⟨g1,g2⟩:=A0 h1;rw[Rep.len h2]at g2;exact⟨⟨c1,g1,h2⟩,⟨c2,g2,h3⟩⟩
theorem At.int {H:View} {a:Addr} {d:Int} (h:At H a d):ao H a=some (.int .i64 d):=by obtain⟨u,h1,h2⟩:=h.load rfl;rw[(dr.1 h2).1]at h1;exact h1
theorem At.list[Rep α]{a:Addr}{l:List α}(h:At H a l): ∃v,ao H a=some v/\SlRd H v l:=by obtain⟨u,h1,h2⟩:=h.load rfl;exact⟨u,h1,fy.1 h2⟩
theorem At.i32 {H:View} {a:Addr} {d:I32} (h:At H a d):ao H a=some (.int .i32 d.v):=by obtain⟨u,h1,h2⟩:=h.load rfl;rw[(I3.1 h2).1]at h1;exact h1
structure InD where
 frm:Int
 val:Int
 deriving Inhabited,DecidableEq
instance:Rep InD:=Rep.via fun d=>Cat.mk d.frm d.val
structure PhiD where
 dst:Int
 ins:List InD
 deriving Inhabited,DecidableEq
instance:Rep PhiD:=Rep.via fun d=>Cat.mk d.dst d.ins
structure InsD where
 op:Int
 dst:Int
 two:Int
 args:List Int
 imm:I32
 deriving Inhabited,DecidableEq
instance:Rep InsD:=Rep.via fun d=>Cat.mk d.op (Cat.mk d.dst (Cat.mk d.two (Cat.mk d.args d.imm)))
structure da where
 kind:Int
 args:List Int
 to:List Int
 imm:I32
 deriving Inhabited,DecidableEq
instance:Rep da:=Rep.via fun d=>Cat.mk d.kind (Cat.mk d.args (Cat.mk d.to d.imm))
structure BlkD where
 phis:List PhiD
 ins:List InsD
 term:da
 deriving Inhabited,DecidableEq
instance:Rep BlkD:=Rep.via fun d=>Cat.mk d.phis (Cat.mk d.ins d.term)
structure an where
 params:Int
 blocks:List BlkD
 deriving Inhabited,DecidableEq
instance:Rep an:=Rep.via fun d=>Cat.mk d.params d.blocks
section
open Go Go.MapKept
variable {po:OP} {pp:PP}
section
variable {P:Program} {ty:TypeId} {us:List (Nat × Value)} {h:Heap} {K:Value->Heap->Prop}
def isIface:TypeDesc->Bool
 | .interface _=>true
 | _=>false
theorem EY{t:TypeId}{d:TypeDesc}{x:Operand}{v:Value}(hd:P.underlying t=some d)(hn:isIface d=false)(hx:asg us x=v)(hk:K (.iface t v) h):step P (.makeInterface t x) ty us h K:=by refine dR (dt fun w hw=>⟨.iface t v,w,?_,Same.refl _,by rw[hw];exact hk⟩);simp only[bL,execOp,hx];cases d<;>first | (simp[isIface]at hn;done) | (simp[Instr.makeInterface,run_underlying hd];done)
theorem EP{x:Operand}{t:TypeId}{v:Value}(hx:asg us x = .iface t v)(hk:po.op [{ v:=.iface t v,recovered:=false }] h):step P (.panic x) ty us h K:=by
 refine dR ?_;intro w hw r o a K' Q' hK hQ;have hr:(bL (.panic x) ty us).run P w = .halt (.panic (.iface t v)) w:=by simp only[bL,execOp,hx];simp[Instr.panic,goPanic,Sem.run]
 rw[hr];simp only[Oper.uponIn];exact hQ _ w (by rw[hw];exact hk) (Same.refl _)
theorem Ef{T xT:TypeId}{d:TypeDesc}{x:Operand}{v:Value}(hd:P.underlying T=some d)(hn:isIface d=false)(hx:asg us x = .iface T v)(hk:K (.tuple #[v,.bool true]) h):step P (.typeAssert x xT T true) ty us h K:=by refine dR (dt fun w hw=>⟨.tuple #[v,.bool true],w,?_,Same.refl _,by rw[hw];exact hk⟩);simp only[bL,execOp,hx];cases d<;>first | (simp[isIface]at hn;done) | (simp[Instr.typeAssert,run_underlying hd];done)
variable{r:Nat}{y:Operand}
theorem lZ{t k e:TypeId}{d:TypeDesc}{f:Value->Option Value}{x:Operand}{u z:Value}(ht:P.underlying t=some (.map k e))(hd:P.underlying k=some d)(hz:(P.info? e).map (·.zero)=some (some z))(hx:asg us x = .map (some r))(hy:asg us y=u)(hu:IsKey d u)(m:gX d h r f)(hk:K (.tuple #[(f u).getD z,.bool (f u).isSome]) h):step P (.lookup t x y true) ty us h K:=by
 obtain⟨es,c,h1,h2,h3,h4⟩:=m.ex;simp only[LL]at hz;obtain⟨i,hi,hz⟩:=hz;refine dR (dt fun w hw=>⟨_,w,?_,Same.refl _,by rw[hw];exact hk⟩);have hz':(zeroValue e).run P w = .ok z w:=by simp[zeroValue,typeInfo,hi,hz]
 rw[<-hw]at h1;simp only[bL,execOp,hx,hy];rcases MapKept.findNow_spec hu es.toList 0 h2 with⟨g1,g2⟩ | ⟨j,x,g1,g2,g3⟩
 ·have hf:f u = .none:=by
   cases hfu:f u with
   | none=>rfl
   | some v=>obtain⟨x,hx,e1,_⟩:=(h4 u v hu).2 hfu;exact absurd e1 (g2 x hx)
  simp[Instr.lookup,run_underlying ht,MapKept.run_getObj_map h1,MapKept.run_checkKey hd hu,MapKept.run_findKey hd g1,Result.andThen,hf,hz']
 have hf:f u=some x.val:=(h4 u x.val hu).1 ⟨x,MI g2,g3,rfl⟩;simp[Instr.lookup,run_underlying ht,MapKept.run_getObj_map h1,MapKept.run_checkKey hd hu,MapKept.run_findKey hd g1,Result.andThen,hf]
theorem BN{T:TypeId}{ms:Array (String × TypeId)}{w:World}{v:Value}{b:Bool}(hd:P.underlying T=some (.interface ms))(hv:v = .nilIface/\b=true\/∃t u,v = .iface t u/\b=false):(Op.equal T v .nilIface).run P w = .ok b w:=by
 have key : ∀n,(Op.equalIn (n+1) T v .nilIface).run P w = .ok b w:=fun n=>by rcases hv with⟨rfl,rfl⟩ | ⟨t,u,rfl,rfl⟩<;>simp[Op.equalIn,run_underlying hd]
 exact key 9999
theorem Aq{T rt:TypeId}{ms:Array (String × TypeId)}{x:Operand}{v:Value}{b:Bool}(hd:P.underlying T=some (.interface ms))(hx:asg us x=v)(hv:v = .nilIface/\b=true\/∃t u,v = .iface t u/\b=false)(hk:K (.bool b) h):
  step P (.binOp .eql T x (.const .nilIface) rt) ty us h K:=by refine dR (dt fun w hw=>⟨.bool b,w,?_,Same.refl _,by rw[hw];exact hk⟩);simp only[bL,execOp,hx,xe];have:=BN (w:=w) hd hv;rcases hv with⟨rfl,rfl⟩ | ⟨t,u,rfl,rfl⟩<;>simp[eqGuard,binOp,this]
end
end
def qf (P:Program) (g:FuncId) (args:Array Value) (u:FrameMode) (h:Heap) (S:FrameMode->Heap->Prop):Prop:=
 ∀w:World,w.heap=h->CallsDIn (Fw none) 0 P g args u w fun e u' w'=>e = .returned (.tuple #[])/\S u' w'.heap/\Same w w'
variable{P:Program}{caps:Array Value}
theorem Ck{fn:Func}{a:Act}{w:World}{R:Ending->World->Prop}{g:FuncId}{S:FrameMode->Heap->Prop}{u:FrameMode}(hg:isFn P g=true)(hd:a.defers=[{ target:=.fn (.func g) caps,args:=#[] }])(hu:u≠.run)(hc:qf P g caps u w.heap S)(hS : ∀u' w',S u' w'.heap->Same w w'->settle u' = .returning/\∃v,(results fn a.tmps).run P w' = .ok v w'/\R (.returned v) w'):LeavesIn (Fw none) 0 P fn a.tmps R a.defers u w:=by
 rw[hd];refine leavesIn_cons (f:=g) (args:=caps) hu (by simp[Fw,Fence.wide]) ?_ (fun _ _=>trivial) ((hc w rfl).mono ?_)
 ·unfold isFn at hg;cases hfn':P.funcs[g]? with
  | none=>simp[hfn']at hg
  | some fn'=>simp only[hfn',LK,bne_iff_ne,ne_eq]at hg;obtain⟨h1,h2⟩:=hg;simp[invoke,callFunc,program,Sem.run,hfn',h1,Option.isNone];cases hb:fn'.body<;>simp[hb]at h2 ⊢
 rintro e u' w' ⟨rfl,h1,h2⟩;obtain⟨h3,v,h4,h5⟩:=hS u' w' h1 h2;show LeavesIn (Fw none) 0 P fn a.tmps R [] (settle u') w';rw[h3];exact⟨v,h4,h5⟩
def rD (ρ:Env):List Operand->Option (List Value)
 | []=>some []
 | .tmp t::l=>match look ρ t,rD ρ l with
  | some v,some vs=>some (v::vs)
  | _,_=>none
 | _::_=>none
theorem wu {ρ:Env} {a:Act} (hs:Sat ρ a) : ∀{l:List Operand} {vs:List Value},rD ρ l=some vs->l.map a.eval=vs
 | [],vs,h=>by simp[rD]at h;subst h;rfl
 | .tmp t::l,vs,h=>by
  simp only[rD]at h;split at h
  ·rename_i v vs' h1 h2;simp only[LF]at h;subst h;have:=hs t v h1;simp[Act.eval,this,wu hs h2]
  cases h
 | .const _::_,_,h=>by simp[rD]at h
 | .global _::_,_,h=>by simp[rD]at h
 | .func _::_,_,h=>by simp[rD]at h
theorem pU{f:FuncId}{fn:Func}{c0 c1:Code}{id:Nat}{o1 o2:Oper}{g t:Nat}{capops:Array Operand}{tys:Array TypeId}{live0 liveR0 live1 liveR1:List Nat}{L0 L1:LC}{res:List E}{args:List Value}{h:Heap}{R:Value->Heap->Prop}{Mid:Env->Heap->Prop}(hm:P.follows .mixedOrders=true)(hf:P.funcs[f]? = some fn)(hb:fn.body=some (.seq c0 (.seq (.region id #[o1,o2] false) c1)))(h1:o1.op = .makeFunc (.func g) #[] capops)(h1d:o1.dst=some t)(h1g:o1.guard=none)(h2:o2.op = .defer ⟨.value (.tmp t),#[],tys⟩)(h2d:o2.dst=none)(h2g:o2.guard=none)(ht:t<fn.ntmps)(hg:isFn P g=true)(hL0:fL P fn.ntmps live0 liveR0 false c0=some L0)(hp0:L0.plain=true)(hL1:fL P fn.ntmps live1 liveR1 false c1=some L1)(hp1:L1.plain=true)(hres:fn.results.toList.mapM (resE P)=some res)(hn:args.length<=fn.ntmps)(hw:@LC.wp noPP P L0 (gr Mid fun _ _ _=>False) (kc 0 args) h)(hmid : ∀ρ hh,Mid ρ hh->∃capv,rD ρ capops.toList=some capv/\∃pp:PP,
   @LC.wp pp P L1 (fun e ρ2 h2=>(e = .normal\/e = .ret)/\∃S,qf P g capv.toArray .returning h2 S/\∀u' h3,S u' h3->settle u' = .returning/\∃vs,evs (look ρ2) (vw h3) res=some vs/\R (pack vs) h3) (bM ρ [t]) hh/\
   ∀ch ρ2 h2,pp.kp ch h2->pp.fx ρ2->∃S,qf P g capv.toArray (.panicking ch) h2 S/\∀u' h3,S u' h3->settle u' = .returning/\∃vs,evs (look ρ2) (vw h3) res=some vs/\R (pack vs) h3):
  az P f args.toArray h R:=by
 intro w hwh;subst hwh;have hsat:Sat (kc 0 args) { tmps:=args.toArray++Array.replicate (fn.ntmps-args.toArray.size) undef,defers:=[] }:=by
  intro t v hl;obtain⟨_,h2⟩:=nw args 0 t v hl;have:t<args.length:=by
   rcases LI t args.length with h | h
   ·exact h
   simp[List.getElem?_eq_none h]at h2
  simp only[OX]at h2;simp only[Array.getElem?_append,NR,this,if_true,List.getElem?_toArray];exact h2
 refine(callsIn_wide (n:=0)).1 (callsIn_of_wp_defers hf hb trivial (wpIn_seq (wpIn_mono (dW (r:=none) hm c0 hL0 (fun _=>rfl) hw hsat (by simp;omega)) ?_)));rintro e a1 w1 ⟨ρ1,s1,n1,⟨ms,hds,hms,_⟩,hq,hS1⟩;rw[hms hp0]at hds;have hds:a1.defers=[]:=hds;have hq:=pQ hq;cases e with
 | normal=>
  obtain⟨capv,hcap,pp,hwp,hpan⟩:=hmid ρ1 w1.heap hq;have hev:=wu s1 hcap;refine wpIn_seq (wpIn_region_list ?_);have wt1:Region.wanted o1 (yielded #[o1,o2] a1.tmps)=true:=by simp[Region.wanted,h1g]
  have hf1:(execOp a1.eval o1).run P w1 = .ok (.value (.func (.func g) #[] capv.toArray)) w1:=by
   simp only[execOp,h1];have:capops.map a1.eval=capv.toArray:=by rw[<-hev,<-Array.toList_inj];simp
   simp[this,Instr.makeFunc]
  have hput:a1.put o1.dst (.func (.func g) #[] capv.toArray)={ tmps:=a1.tmps.setIfInBounds t (.func (.func g) #[] capv.toArray),defers:=a1.defers }:=by rw[h1d];rfl
  have hget:(a1.tmps.setIfInBounds t (.func (.func g) #[] capv.toArray))[t]? = some (.func (.func g) #[] capv.toArray):=by rw[Array.getElem?_setIfInBounds_self];simp[n1,ht]
  simp only[wpListIn];rw[if_pos wt1];refine⟨fun _ _=>trivial,?_⟩;rw[Oper.semAt_eq _ _ _ (by intro c e;rw[h1]at e;cases e),hf1];simp only[Oper.uponIn,hput];have wt2:Region.wanted o2 (yielded #[o1,o2] (a1.tmps.setIfInBounds t (.func (.func g) #[] capv.toArray)))=true:=by simp[Region.wanted,h2g]
  rw[if_pos wt2];have hf2:(execOp (Act.eval { tmps:=a1.tmps.setIfInBounds t (.func (.func g) #[] capv.toArray),defers:=a1.defers }) o2).run P w1 = .ok (.defer { target:=.fn (.func g) capv.toArray,args:=#[] }) w1:=by simp only[execOp,h2];simp[resolve,Act.eval,hget,Deferred.ofValue]
  refine⟨fun _ _=>trivial,?_⟩;rw[show Fence.wide.round=none from rfl,Oper.semAt_none,hf2];simp only[Oper.uponIn,h2d,Act.put,hds];show c1.wpIn (Fw none) 0 P _ _ _;have s2:Sat (bM ρ1 [t]) { tmps:=a1.tmps.setIfInBounds t (.func (.func g) #[] capv.toArray),defers:=[{ target:=.fn (.func g) capv.toArray,args:=#[] }] }:=by intro x v hl;obtain⟨e1,e2⟩:=lR _ _ _ _ hl;have hne:t≠x:=fun e=>e1 (by simp[e]);simp only[Array.getElem?_setIfInBounds_ne hne];exact s1 x v e2
  refine wpIn_mono (dW (pp:=pp) (r:=none) (a:={ tmps:=a1.tmps.setIfInBounds t (.func (.func g) #[] capv.toArray),defers:=[{ target:=.fn (.func g) capv.toArray,args:=#[] }] }) hm c1 hL1 (fun _=>rfl) hwp s2 (by simp[n1])) ?_;rintro e a2 w2 ⟨ρ2,s3,n3,⟨ms2,hds2,hms2,_⟩,hq2,hS2⟩;rw[hms2 hp1]at hds2;have hds2:a2.defers=[{ target:=.fn (.func g) capv.toArray,args:=#[] }]:=hds2;have fin : ∀(u:FrameMode),u≠.run->(∃S,qf P g capv.toArray u w2.heap S/\∀u' h3,S u' h3->settle u' = .returning/\∃vs,evs (look ρ2) (vw h3) res=some vs/\R (pack vs) h3)->
    LeavesIn (Fw none) 0 P fn a2.tmps (fun e w'=>∃v,e = .returned v/\R v w'.heap/\Same w w') a2.defers u w2:=by rintro u hu ⟨S,hc,hS⟩;refine Ck hg hds2 hu hc fun u' w' hu' hsame=>?_;obtain⟨g1,vs,g2,g3⟩:=hS u' w'.heap hu';exact⟨g1,pack vs,mG hres (pw (fun t v h=>s3 t v h) g2),pack vs,rfl,g3,(hS1.trans hS2).trans hsame⟩
  cases e with
  | normal=>exact fin .returning (by simp) hq2.2
  | ret=>exact fin .returning (by simp) hq2.2
  | panic ch=>exact fin (.panicking ch) (by simp) (hpan ch ρ2 w2.heap hq2.2 hq2.1)
  | exit i=>rcases hq2.1 with h | h<;>cases h
  | goto l=>rcases hq2.1 with h | h<;>cases h
  | outgrown=>rcases hq2.1 with h | h<;>cases h
 | _=>exact hq.elim
def jU:FrameMode->Value × FrameMode
 | .panicking ({ v,recovered:=false,goexit:=false }::older)=>(v,.panicking ({ v,recovered:=true }::older))
 | u=>(.nilIface,u)
theorem oO{g:FuncId}{fn:Func}{c1:Code}{id t:Nat}{o:Oper}{tys:Array TypeId}{live liveR:List Nat}{L:LC}{args:List Value}{u:FrameMode}{h:Heap}{S:FrameMode->Heap->Prop}(hm:P.follows .mixedOrders=true)(hf:P.funcs[g]? = some fn)(hb:fn.body=some (.seq (.region id #[o] false) c1))(ho:o.op = .call ⟨.builtin .recover,#[],tys⟩)(hod:o.dst=some t)(hog:o.guard=none)(ht:t<fn.ntmps)(hL:fL P fn.ntmps live liveR false c1=some L)(hp:L.plain=true)(hr:fn.results = #[])(hn:args.length<=fn.ntmps)(hw:@LC.wp noPP P L (fun e _ h'=>(e = .normal\/e = .ret)/\S (jU u).2 h') ((t,(jU u).1)::bM (kc 0 args) [t]) h):qf P g args.toArray u h S:=by
 intro w hwh;subst hwh;refine callsDIn_of_wpSIn hf hb trivial fun c₀ cs hu=>?_;apply wpSIn_seq;apply wpSIn_region;have hsat:Sat (kc 0 args) { tmps:=args.toArray++Array.replicate (fn.ntmps-args.toArray.size) undef,defers:=[] }:=by
  intro t v hl;obtain⟨_,h2⟩:=nw args 0 t v hl;have:t<args.length:=by
   rcases LI t args.length with h | h
   ·exact h
   simp[List.getElem?_eq_none h]at h2
  simp only[OX]at h2;simp only[Array.getElem?_append,NR,this,if_true,List.getElem?_toArray];exact h2
 have hsz:(args.toArray++Array.replicate (fn.ntmps-args.toArray.size) undef).size=fn.ntmps:=by simp;omega
 have hex : ∀ρ,(execOp ρ o).run P w = .ok .recover w:=fun ρ=>by simp only[execOp,ho];simp[resolve,invoke,builtin]
 generalize args.toArray++Array.replicate (fn.ntmps-args.toArray.size) undef=tm at hsat hsz;have hwant : ∀tm',Region.wanted o (yielded #[o] tm')=true:=fun tm'=>by simp[Region.wanted,hog]
 have key : ∀(v:Value) (c':Frame),(jU u).1=v->c'={ c₀ with mode:=(jU u).2 }->c1.wpSIn (Fw none) 0 P (bodyPostS P fn c₀ cs fun e u' w'=>e = .returned (.tuple #[])/\S u' w'.heap/\Same w w') { tmps:=tm.setIfInBounds t v,defers:=[] } (c'::cs) w:=by
  intro v c' hv hc';have s2:Sat ((t,(jU u).1)::bM (kc 0 args) [t]) { tmps:=tm.setIfInBounds t v,defers:=[] }:=by
   intro x y hl;simp only[look]at hl;split at hl
   ·rename_i e;subst e;simp only[LF]at hl;rw[<-hl,hv,Array.getElem?_setIfInBounds_self];simp[hsz,ht]
   rename_i e;obtain⟨e1,e2⟩:=lR _ _ _ _ hl;simp only[Array.getElem?_setIfInBounds_ne e];exact hsat x y e2
  refine wpSIn_of_wpIn rfl (wpIn_mono (dW (pp:=noPP) (r:=none) (a:={ tmps:=tm.setIfInBounds t v,defers:=[] }) hm c1 hL (fun _=>rfl) hw s2 (by simp[hsz])) ?_);rintro e a2 w2 ⟨ρ2,s3,n3,⟨ms2,hds2,hms2,_⟩,hq2,hS2⟩;rw[hms2 hp]at hds2;have hds2:a2.defers=[]:=hds2;have hq2:=pQ hq2;have hres:(results fn a2.tmps).run P w2 = .ok (.tuple #[]) w2:=by simp[results,hr]
  have fin:a2.defers=[]/\∃u',c'::cs={ c₀ with mode:=u' }::cs/\∃v,(results fn a2.tmps).run P w2 = .ok v w2/\Ending.returned v = .returned (.tuple #[])/\S u' w2.heap/\Same w w2:=
   ⟨hds2,_,by rw[hc'],_,hres,rfl,hq2.2,hS2⟩;cases e with
  | normal=>exact fin
  | ret=>exact fin
  | panic ch=>rcases hq2.1 with h | h<;>cases h
  | exit i=>rcases hq2.1 with h | h<;>cases h
  | goto l=>rcases hq2.1 with h | h<;>cases h
  | outgrown=>rcases hq2.1 with h | h<;>cases h
 have hr0:List.range (#[o]:Array Oper).size=[0]:=rfl;rw[hr0];simp only[wpOpsSIn];have ho0:(#[o]:Array Oper)[0]? = some o:=rfl;rw[ho0];simp only[hwant,if_true,hex];refine⟨fun _ _=>trivial,?_⟩;by_cases hcase : ∃v older,u = .panicking ({ v,recovered:=false,goexit:=false }::older)
 ·obtain⟨v,older,rfl⟩:=hcase;have e:recoverD (c₀::cs)=some (v,{ c₀ with mode:=.panicking ({ v,recovered:=true }::older) }::cs):=by simp only[recoverD,hu]
  rw[e];simp only[hod];exact key v _ rfl rfl
 have e:recoverD (c₀::cs)=none:=by
  simp only[recoverD,hu];split
  ·exact absurd ⟨_,_,rfl⟩ hcase
  rfl
 have er:jU u=(.nilIface,u):=by
  unfold jU;split
  ·exact absurd ⟨_,_,rfl⟩ hcase
  rfl
 rw[e];simp only[hod];exact key .nilIface c₀ (by rw[er]) (by rw[er,<-hu])
section
variable {po po2:OP} {pp:PP}
structure Part (α β:Type) [Rep α] [Rep β] (o:Nat) (get:α->β) (set:α->β->α):Prop where
 fits:o+Rep.n β<=Rep.n α
 get : ∀{H:View} {cs:List Value} {d:α},Rep.rd H cs d->Rep.rd H ((cs.drop o).take (Rep.n β)) (get d)
 set : ∀{H:View} {cs us:List Value} {d:α} {x:β},Rep.rd H cs d->Rep.rd H us x->Rep.rd H (cs.take o++us++cs.drop (o+Rep.n β)) (set d x)
theorem Part.all[Rep α]:Part α α 0 (fun d=>d) (fun _ x=>x) where
 fits:=by simp
 get:=fun h=>by rw[NM,LV (by rw[Rep.len h];exact LG _)];exact h
 set:=fun h k=>by
  have:=Rep.len h
  rw[NN,MB,MG (by omega),Nj];exact k
section
variable {α β γ:Type} [Rep α] [Rep β] [Rep γ] {o:Nat}
theorem Part.fst{g:α->γ}{s:α->γ->α}(p:Part α γ o g s):Part (Cat α β) γ o (fun d=>g d.a) (fun d x=>⟨s d.a x,d.b⟩) where
 fits:=L9 p.fits (Nat.le_add_right _ _)
 get:=by
  rintro H cs d ⟨c1,c2,rfl,h1,h2⟩
  have l1:=Rep.len h1
  have f:=p.fits
  rw[Nh (by omega),MQ (by simp;omega)]
  exact p.get h1
 set:=by
  rintro H cs us d x ⟨c1,c2,rfl,h1,h2⟩ k
  have l1:=Rep.len h1
  have f:=p.fits
  refine⟨_,c2,?_,p.set h1 k,h2⟩
  rw[MQ (by omega),Nh (by omega)]
  simp[L5]
theorem Part.snd{g:β->γ}{s:β->γ->β}(p:Part β γ o g s):Part (Cat α β) γ (Rep.n α+o) (fun d=>g d.b) (fun d x=>⟨d.a,s d.b x⟩) where
 fits:=by
  have:=p.fits
  show Rep.n α+o+Rep.n γ<=Rep.n α+Rep.n β
  omega
 get:=by
  rintro H cs d ⟨c1,c2,rfl,h1,h2⟩
  have l1:=Rep.len h1
  rw[NZ,MG (by omega),MB,show Rep.n α+o-c1.length=o by omega]
  exact p.get h2
 set:=by
  rintro H cs us d x ⟨c1,c2,rfl,h1,h2⟩ k
  have l1:=Rep.len h1
  refine⟨c1,_,?_,h1,p.set h2 k⟩
  rw[NL,LV (by omega),show Rep.n α+o-c1.length=o by omega,NZ,MG (by omega),MB,
   show Rep.n α+o+Rep.n γ-c1.length=o+Rep.n γ by omega]
  simp[L5]
end
theorem Part.via {α β γ:Type} [ra:Rep α] [rb:Rep β] {f:γ->α} {o o':Nat} {g:α->β} {s:α->β->α} (p:Part α β o g s) {g':γ->β} {s':γ->β->γ} (hg : ∀d,g' d=g (f d)) (hs : ∀d x,f (s' d x)=s (f d) x) (ho:o=o':=by rfl):@Part γ β (Rep.via f) rb o' g' s':=by subst ho;exact @Part.mk γ β (Rep.via f) rb o g' s' p.fits (fun{H cs d} h=>by rw[hg];exact p.get h) (fun{H cs us d x} h k=>by have:=p.set (show Rep.rd H cs (f d) from h) k;rw[<-hs]at this;exact this)
theorem At.part[Rep α][Rep β]{o:Nat}{g:α->β}{s:α->β->α}(p:Part α β o g s){a:Addr}{d:α}(h:At H a d):At H (a.add o) (g d):=by obtain⟨cs,h1,h2⟩:=h;have l:=Rep.len h2;exact⟨_,zT h1 o (Rep.n β) (by rw[l];exact p.fits),p.get h2⟩
theorem InD.mE:Part InD Int 0 InD.frm (fun d x=>{ d with frm:=x }):=(Part.fst Part.all).via (fun _=>rfl) fun _ _=>rfl
theorem InD.rn:Part InD Int 1 InD.val (fun d x=>{ d with val:=x }):=(Part.snd Part.all).via (fun _=>rfl) fun _ _=>rfl
theorem PhiD.kQ:Part PhiD Int 0 PhiD.dst (fun d x=>{ d with dst:=x }):=(Part.fst Part.all).via (fun _=>rfl) fun _ _=>rfl
theorem PhiD.jr:Part PhiD (List InD) 1 PhiD.ins (fun d x=>{ d with ins:=x }):=(Part.snd Part.all).via (fun _=>rfl) fun _ _=>rfl
theorem InsD.HR:Part InsD Int 0 InsD.op (fun d x=>{ d with op:=x }):=(Part.fst Part.all).via (fun _=>rfl) fun _ _=>rfl
theorem InsD.kQ:Part InsD Int 1 InsD.dst (fun d x=>{ d with dst:=x }):=(Part.snd (Part.fst Part.all)).via (fun _=>rfl) fun _ _=>rfl
theorem InsD.An:Part InsD Int 2 InsD.two (fun d x=>{ d with two:=x }):=(Part.snd (Part.snd (Part.fst Part.all))).via (fun _=>rfl) fun _ _=>rfl
theorem InsD.qn:Part InsD (List Int) 3 InsD.args (fun d x=>{ d with args:=x }):=(Part.snd (Part.snd (Part.snd (Part.fst Part.all)))).via (fun _=>rfl) fun _ _=>rfl
theorem InsD.AH:Part InsD I32 4 InsD.imm (fun d x=>{ d with imm:=x }):=(Part.snd (Part.snd (Part.snd (Part.snd Part.all)))).via (fun _=>rfl) fun _ _=>rfl
theorem da.wz:Part da Int 0 da.kind (fun d x=>{ d with kind:=x }):=(Part.fst Part.all).via (fun _=>rfl) fun _ _=>rfl
theorem da.qn:Part da (List Int) 1 da.args (fun d x=>{ d with args:=x }):=(Part.snd (Part.fst Part.all)).via (fun _=>rfl) fun _ _=>rfl
theorem da.tY:Part da (List Int) 2 da.to (fun d x=>{ d with to:=x }):=(Part.snd (Part.snd (Part.fst Part.all))).via (fun _=>rfl) fun _ _=>rfl
theorem da.AH:Part da I32 3 da.imm (fun d x=>{ d with imm:=x }):=(Part.snd (Part.snd (Part.snd Part.all))).via (fun _=>rfl) fun _ _=>rfl
theorem BlkD.km:Part BlkD (List PhiD) 0 BlkD.phis (fun d x=>{ d with phis:=x }):=(Part.fst Part.all).via (fun _=>rfl) fun _ _=>rfl
theorem BlkD.jr:Part BlkD (List InsD) 1 BlkD.ins (fun d x=>{ d with ins:=x }):=(Part.snd (Part.fst Part.all)).via (fun _=>rfl) fun _ _=>rfl
theorem BlkD.kz:Part BlkD da 2 BlkD.term (fun d x=>{ d with term:=x }):=(Part.snd (Part.snd Part.all)).via (fun _=>rfl) fun _ _=>rfl
theorem an.rC:Part an Int 0 an.params (fun d x=>{ d with params:=x }):=(Part.fst Part.all).via (fun _=>rfl) fun _ _=>rfl
theorem an.E0:Part an (List BlkD) 1 an.blocks (fun d x=>{ d with blocks:=x }):=(Part.snd Part.all).via (fun _=>rfl) fun _ _=>rfl
def Sl {α:Type} [Rep α] (H:View) (a:Addr) (v:Value) (l:List α):Prop:=ao H a=some v/\SlRd H v l
theorem At.sl[Rep α]{a:Addr}{l:List α}(h:At H a l): ∃v,Sl H a v l:=h.list
variable{b n:Nat}
theorem Addr.z{o:Nat}:(⟨b,o,none⟩:Addr).add n=⟨b,o+n,none⟩:=bn rfl n
section
variable {α:Type} [Rep α] {P:Program} {ty:TypeId} {us:List (Nat × Value)} {h:Heap}
theorem kY{v:Value}{d:α}(hr:Rd H v d):Rep.rd H v.cells.toList d/\v.cells.size=Rep.n α/\∀c∈v.cells.toList,c.oneCell'=true:=by
 unfold Rd at hr;split at hr
 ·obtain⟨cs,rfl,h⟩:=hr;exact⟨h,by rw[<-Rep.len h];rfl,fun c hc=>Rep.flat h c hc⟩
 rename_i ha;have hone:=Rep.one (α:=α) (by simpa using ha);have hfl:=Rep.flat hr v (by simp);have:v.cells = #[v]:=by cases v<;>first | rfl | simp[Value.oneCell']at hfl
 rw[this];exact⟨by simpa using hr,by simp[hone],by simpa using hfl⟩
theorem oW{v:Value}{d:α}{t:TypeId}{fz:Nat × Nat}(hb:H b=some (.cells v.cells t fz))(hr:Rd H v d):At H ⟨b,0,none⟩ d:=
 ⟨_,⟨v.cells,t,fz,rfl,hb,by simp;exact LV (by simp)⟩,(kY hr).1⟩
variable{ty2:TypeId}{y:Operand}{us2:Value->List (Nat × Value)}{K:Value->Heap->Prop}
theorem HE{t:TypeId}{z:Value}{x:Operand}{v:Value}{d:α}(hz:(P.info? t).map (·.zero)=some (some z))(hzc:z.cells.size=Rep.n α)(hsz:cC P t=some (Rep.n α))(hv:Rd (vw h) v d)(hx : ∀p,asg (us2 p) x=p)(hy : ∀p,asg (us2 p) y=v)(hk : ∀h':Heap,(vw h).le (vw h')->h'.size=h.size+1->h'[h.size]? = some (.cells v.cells t (0,0))->At (vw h') ⟨h.size,0,none⟩ d->K (.pointer (some ⟨h.size,0,none⟩)) h'):
  @step po P (.alloc t) ty us h fun p h2=>@step po2 P (.store t x y) ty2 (us2 p) h2 fun _ h3=>K p h3:=by
 obtain⟨c1,c2,c3⟩:=kY hv;refine eZ hz ?_;refine eR (g:=h.size) (o:=0) (n:=Rep.n α) (v:=v) (cur:=z.cells) (e:=t) hsz (hx _) (hy _) c2 c3 (by simp) (by omega) fun h' hs ⟨row,hrow,he⟩ hoth=>?_;have hrow2:row=v.cells:=by rw[<-Array.toList_inj,he];simp only[NN,MB,Nt];rw[MG (by simp[hzc]),Nj]
 rw[hrow2]at hrow;have hle:(vw h).le (vw h'):=fun b o hb=>by have hlt:=View.lt (View.le_refl (vw h)) hb;show h'[b]? = _;rw[hoth b (by omega)];exact bm _ _ b o hb
 exact hk h' hle (by rw[hs];simp) hrow (oW hrow (hv.mono hle))
theorem gm{t:TypeId}{x:Operand}{v:Value}{d:α}(hx:asg us x=v)(hv:Rd (vw h) v d)(hk : ∀h':Heap,h'=h.push (.cells v.cells t)->(vw h).le (vw h')->h'.size=h.size+1->At (vw h') ⟨h.size,0,none⟩ d->K (.pointer (some ⟨h.size,0,none⟩)) h'):step P (.box t x) ty us h K:=
 j6 hx (hk _ rfl (bm _ _) (by simp) (oW (t:=t) (fz:=(0,0)) (by simp[vw]) (hv.mono (bm _ _))))
theorem SlRd.whole{K:View}{v:Value}{l:List α}(h:SlRd H v l)(ha:Rep.agg α=true)(hk:H.le K){i:Nat}(hi:i<l.length): ∃u,Un.ev K (.al (Rep.n α)) (.pointer (some ((slA v).add (i*Rep.n α))))=some u/\Rd K u l[i]:=
 ((h.at hi).mono hk).al ha
end
theorem At.rng{a:Addr}{d:Int}(h:At H a d):-9223372036854775808<=d/\d<=9223372036854775807:=by obtain⟨u,h1,h2⟩:=h.load rfl;exact(dr.1 h2).2
theorem At.bool {H:View} {a:Addr} {d:Bool} (h:At H a d):ao H a=some (.bool d):=by obtain⟨u,h1,h2⟩:=h.load rfl;rw[uv.1 h2]at h1;exact h1
theorem fo[Rep α]:SlRd H (.slice none 0 0) ([]:List α):=⟨none,0,rfl,by simp,by simp,.inl rfl⟩
variable{ty:TypeId}{bytes:Nat}{us:List (Nat × Value)}{K:Value->Heap->Prop}
theorem lA[Rep α]{t e:Nat}{z:Value}{ps:Array (Nat × Operand)}{vs:List Value}{ds:List α}{h:Heap}(ha:Rep.agg α=false)(hT:ff P t e 1 bytes z)(hp:ps.map (fun p=>(p.1,asg us p.2))=((vs.zipIdx 0).map fun p=>(p.2,p.1)).toArray){X:View}(hr:oe X vs ds)(hX:X.le (vw h))(hn:ds.length=n)(hb:n<=16777216)(hk : ∀u h',(vw h).le (vw h')->h'.size=h.size+1->(∀Y:View,X.le Y->Y h.size=h'[h.size]?->SlRd Y u ds)->u.ownBlock=some h.size->K u h'):step P (.buildSlice t n ps) ty us h K:=by
 have hl:=hr.len;obtain⟨B,h1,h2⟩:=uS vs 0 ((Array.range (n*1)).map (z.cells[· % z.cells.size]!)) (fun v hv=>by obtain⟨i,hi,rfl⟩:=LQ hv;exact(hr.get i hi (by omega)).Ja ha) (by simp;omega);have hB:B=vs.toArray:=by rw[<-Array.toList_inj,h2];simp
 refine pB hT (by omega) hp h1 ?_;have hle:=bm h (.cells B e);have hone:=Rep.one (α:=α) ha;refine hk _ _ hle (by simp) (fun Y hY hYb=>⟨some ⟨h.size,0,none⟩,n,by rw[hn],by omega,by omega,.inr ⟨_,rfl,rfl,fun i hi=>?_⟩⟩) rfl;rw[bn rfl,hone];refine⟨[vs[i]],⟨B,e,(0,0),rfl,by rw[hYb];simp,?_⟩,?_⟩
 ·rw[hB];have hd:vs.drop i=vs[i]::vs.drop (i+1):=MV (by omega);simp only[Nt,MP,Nl,N6];show List.take (0+1) (List.drop i vs)=_;rw[hd];rfl
 have:=(hr.get i (by omega) hi).mono hY;unfold Rd at this;rw[if_neg (by simp[ha])]at this;exact this
def mapE {β:Type} (enc:β->Value) (f:Int->Option β):Value->Option Value
 | .int .i64 j=>(f j).map enc
 | _=>none
@[simp] theorem oy{enc:β->Value}{f:Int->Option β}{j:Int}:mapE enc f (.int .i64 j)=(f j).map enc:=rfl
def putM {β:Type} (f:Int->Option β) (j:Int) (v:β):Int->Option β:=fun i=>if i=j then some v else f i
theorem qX{enc:β->Value}{f:Int->Option β}{j:Int}{v:β}:mapE enc (putM f j v) (.int .i64 j)=some (enc v)/\∀u,u≠.int .i64 j->mapE enc (putM f j v) u=mapE enc f u:=by
 refine⟨by simp[putM],fun u hu=>?_⟩;cases u<;>try rfl
 rename_i k i;cases k<;>try rfl
 have:i≠j:=fun e=>hu (by rw[e]);simp[putM,this]
theorem xj{enc:β->Value}:mapE enc (fun _=>.none)=fun _=>.none:=by
 funext u;cases u<;>try rfl
 rename_i k i;cases k<;>rfl
theorem Kept.skip {h h':Heap} {r:Nat} (k:Kept h h' (some r)):(skip r h).le (Lft.skip r h'):=fun b o hb=>by
 unfold Lft.skip at hb ⊢;split at hb
 ·cases hb
 rename_i hne;rw[if_neg hne];have hlt:=(Array.getElem?_eq_some_iff.1 hb).1;rw[k.block b hlt (by simpa using hne)];exact hb
variable{h':Heap}{r:Nat}
theorem Kept.Dc{h:Heap}(k:Kept h h' (some r)):(Lft.skip r h).le (vw h'):=View.le_trans k.skip cA
theorem Kept.of_le{h:Heap}{b:Option Nat}(hle:(vw h).le (vw h')):Kept h h' b:=⟨gQ hle,fun k hk _=>by have:=hle k h[k] (Array.getElem?_eq_getElem hk);rw[Array.getElem?_eq_getElem hk];exact this⟩
theorem Kept.upd{h:Heap}(hs:h'.size=h.size)(ho : ∀b,b≠r->h'[b]? = h[b]?):Kept h h' (some r):=⟨by omega,fun k _ hk=>ho k (by simpa using hk)⟩
variable{ty2:TypeId}{y:Operand}{us2:Value->List (Nat × Value)}
theorem jO{h:Heap}{t:TypeId}{z:Value}{x:Operand}{v:Value}(hz:(P.info? t).map (·.zero)=some (some z))(hzc:z.cells.size=n)(hsz:cC P t=some n)(hv:v.cells.size=n)(hone : ∀c∈v.cells.toList,c.oneCell'=true)(hx : ∀p,asg (us2 p) x=p)(hy : ∀p,asg (us2 p) y=v)(hk : ∀h':Heap,(vw h).le (vw h')->h'.size=h.size+1->h'[h.size]? = some (.cells v.cells t (0,0))->K (.pointer (some ⟨h.size,0,none⟩)) h'):
  @step po P (.alloc t) ty us h fun p h2=>@step po2 P (.store t x y) ty2 (us2 p) h2 fun _ h3=>K p h3:=by
 refine eZ hz ?_;refine eR (g:=h.size) (o:=0) (n:=n) (v:=v) (cur:=z.cells) (e:=t) hsz (hx _) (hy _) hv hone (by simp) (by omega) fun h' hs ⟨row,hrow,he⟩ hoth=>?_;have hrow2:row=v.cells:=by rw[<-Array.toList_inj,he];simp only[NN,MB,Nt];rw[MG (by simp[hzc]),Nj]
 rw[hrow2]at hrow;have hle:(vw h).le (vw h'):=fun b o hb=>by have hlt:=View.lt (View.le_refl (vw h)) hb;show h'[b]? = _;rw[hoth b (by omega)];exact bm _ _ b o hb
 exact hk h' hle (by rw[hs];simp) hrow
section
variable {σ α ε:Type} {f:σ->α->Except ε σ} {s s':σ} {l:List α} {k:Nat} {t:ε}
theorem B1[Inhabited α](h:k<l.length)(hs:(l.take k).foldlM f s = .ok s'):(l.take (k+1)).foldlM f s=f s' (nth l k):=by rw[L8 h,OL,hs,ak h];show List.foldlM f s' [l[k]]=f s' l[k];rw[Nn];cases f s' l[k]<;>rfl
theorem Dn(h:(l.take k).foldlM f s = .error t):l.foldlM f s = .error t:=by
 have e:l.foldlM f s=(l.take k++l.drop k).foldlM f s:=by rw[NB]
 rw[e,OL,h];rfl
end
def upE {σ ε:Type} (f:Nat->σ->Except ε σ):Nat->σ->Except ε σ
 | 0,s=>.ok s
 | k+1,s=>match upE f k s with
  | .ok s'=>f k s'
  | .error t=>.error t
theorem ju{σ ε:Type}{f:Nat->σ->Except ε σ}{k:Nat}{s s':σ}(h:upE f k s = .ok s'):upE f (k+1) s=f k s':=by simp only[upE,h]
theorem zn {σ ε:Type} {f:Nat->σ->Except ε σ} {s:σ} {t:ε} : ∀{n k:Nat},k<=n->upE f k s = .error t->upE f n s = .error t
 | 0,k,hk,h=>by
  have:k=0:=by omega
  subst this;exact h
 | n+1,k,hk,h=>by
  rcases LI n k with hlt | hge
  ·have:k=n+1:=by omega
   subst this;exact h
  simp only[upE,zn hge h]
theorem oK{σ ε:Type}{f:Nat->σ->Except ε σ}{k:Nat}{s s':σ}{t:ε}(h:upE f k s = .ok s')(hk:k<n)(he:f k s' = .error t):upE f n s = .error t:=
 zn (k:=k+1) hk (by rw[ju h,he])
theorem fm[Rep α]{h:Heap}{t:TypeId}{z:Value}{x:Operand}{v:Value}{d:α}{X:View}(hz:(P.info? t).map (·.zero)=some (some z))(hzc:z.cells.size=Rep.n α)(hsz:cC P t=some (Rep.n α))(hv:Rd X v d)(hx : ∀p,asg (us2 p) x=p)(hy : ∀p,asg (us2 p) y=v)(hk : ∀h':Heap,(vw h).le (vw h')->h'.size=h.size+1->(∀Y:View,X.le Y->Y h.size=h'[h.size]?->At Y ⟨h.size,0,none⟩ d)->K (.pointer (some ⟨h.size,0,none⟩)) h'):
  @step po P (.alloc t) ty us h fun p h2=>@step po2 P (.store t x y) ty2 (us2 p) h2 fun _ h3=>K p h3:=by obtain⟨c1,c2,c3⟩:=kY hv;exact jO hz hzc hsz c2 c3 hx hy fun h' hle hs hb=>hk h' hle hs fun Y hY hYb=>oW (by rw[hYb];exact hb) (hv.mono hY)
variable{B:Nat}
theorem ib{d:BlkD}(h:At H ⟨B,0,none⟩ d): ∃vp vi va vt,Sl H ⟨B,0,none⟩ vp d.phis/\Sl H ⟨B,1,none⟩ vi d.ins/\ao H ⟨B,2,none⟩=some (.int .i64 d.term.kind)/\Sl H ⟨B,3,none⟩ va d.term.args/\Sl H ⟨B,4,none⟩ vt d.term.to:=by obtain⟨vp,h1⟩:=(h.part BlkD.km).sl;obtain⟨vi,h2⟩:=(h.part BlkD.jr).sl;have ht:=h.part BlkD.kz;obtain⟨va,h4⟩:=(ht.part da.qn).sl;obtain⟨vt,h5⟩:=(ht.part da.tY).sl;exact⟨vp,vi,va,vt,by simpa using h1,by simpa using h2,by simpa using(ht.part da.wz).int,by simpa using h4,by simpa using h5⟩
theorem Dj{d:PhiD}(h:At H ⟨B,0,none⟩ d):ao H ⟨B,0,none⟩=some (.int .i64 d.dst)/\∃v,Sl H ⟨B,1,none⟩ v d.ins:=by obtain⟨v,hv⟩:=(h.part PhiD.jr).sl;exact⟨by simpa using(h.part PhiD.kQ).int,v,by simpa using hv⟩
theorem rJ{d:InsD}(h:At H ⟨B,0,none⟩ d):ao H ⟨B,0,none⟩=some (.int .i64 d.op)/\ao H ⟨B,1,none⟩=some (.int .i64 d.dst)/\ao H ⟨B,2,none⟩=some (.int .i64 d.two)/\∃v,Sl H ⟨B,3,none⟩ v d.args:=by obtain⟨v,hv⟩:=(h.part InsD.qn).sl;exact⟨by simpa using(h.part InsD.HR).int,by simpa using(h.part InsD.kQ).int,by simpa using(h.part InsD.An).int,v,by simpa using hv⟩
theorem fM{d:an}(h:At H ⟨B,0,none⟩ d):ao H ⟨B,0,none⟩=some (.int .i64 d.params)/\∃v,Sl H ⟨B,1,none⟩ v d.blocks:=by obtain⟨v,hv⟩:=(h.part an.E0).sl;exact⟨by simpa using(h.part an.rC).int,v,by simpa using hv⟩
theorem Fu{d:InD}(h:At H ⟨B,0,none⟩ d):ao H ⟨B,0,none⟩=some (.int .i64 d.frm)/\ao H ⟨B,1,none⟩=some (.int .i64 d.val):=
 ⟨by simpa using(h.part InD.mE).int,by simpa using(h.part InD.rn).int⟩
theorem SlRd.wh[Rep α][Inhabited α]{v:Value}{l:List α}(h:SlRd H v l)(ha:Rep.agg α=true){N:Nat}(hn:Rep.n α=N){i:Nat}(hi:i<l.length): ∃u,(∀K:View,H.le K->Un.ev K (.al N) (.pointer (some ((slA v).add (i*N))))=some u)/\Rd H u (nth l i):=by subst hn;obtain⟨u,h1,h2⟩:=h.whole ha (View.le_refl H) hi;refine⟨u,fun K hk=>?_,by rw[ak hi];exact h2⟩;have:=cV (ρ:=fun _=>none) (e:=.un (.al (Rep.n α)) (.con (.pointer (some ((slA v).add (i*Rep.n α)))))) hk (v:=u) (by simpa using h1);simpa using this
instance:Inhabited BlkD:=⟨⟨[],[],⟨0,[],[],⟨0⟩⟩⟩⟩
theorem sV{h:Heap}{f:FuncId}{t:Nat}{ops:List Operand}{T:Array TypeId}(hf:asg us (.tmp t) = .func (.func f) #[] caps){R:Value->Heap->Prop}{Rp:List PanicEntry->Heap->Prop}(hfn:isFn P f=true)(hc:iZ P f (ops.map (asg us)++caps.toList).toArray h R Rp)(hk : ∀v h',R v h'->K v h')(hp : ∀ch h',Rp ch h'->po.op ch h'):@step po P (.call ⟨.value (.tmp t),ops.toArray,T⟩) ty us h K:=by
 refine dR (po:=po) (tR (po:=po) (R:=R) (f:=f) (args:=(ops.map (asg us)++caps.toList).toArray) (fun w _=>?_) hc hk hp);unfold isFn at hfn;cases hfn':P.funcs[f]? with
 | none=>simp[hfn']at hfn
 | some fn=>simp only[hfn',LK,bne_iff_ne,ne_eq]at hfn;obtain⟨h1,h2⟩:=hfn;simp[bL,execOp,resolve,Deferred.ofValue,hf,invoke,callFunc,program,Sem.run,hfn',h1,Option.isNone];cases hb:fn.body<;>simp[hb]at h2 ⊢
@[simp] theorem JW{b:Bool}{v:Value}:gdv b undef v=undef:=rfl
@[simp] theorem J5{b:Bool}{o:Option Value}:gdO b undef o=some undef:=rfl
end
end Go.Lft
namespace Go.Proofs.YtbkdlhkoiagbbaaGreat
open Go Go.Lft
theorem follows:Tryz.prog.follows .mixedOrders=true:=by kernel_rfl
abbrev T.int:Nat:=3
abbrev T.bool:Nat:=4
abbrev T.uint8:Nat:=5
abbrev T.aS:Nat:=22
abbrev T.mH:Nat:=23
abbrev T.AO:Nat:=24
abbrev T.fH:Nat:=26
abbrev T.ar:Nat:=28
abbrev T.mW:Nat:=34
abbrev T.j8:Nat:=38
abbrev T.dh:Nat:=40
abbrev T.gM:Nat:=43
abbrev T.jf:Nat:=44
abbrev T.j4:Nat:=46
abbrev T.ay:Nat:=48
abbrev T.bZ:Nat:=61
abbrev T.cE:Nat:=63
abbrev T.bI:Nat:=65
abbrev T.pZ:Nat:=66
abbrev T.aN:Nat:=68
abbrev T.lh:Nat:=73
abbrev T.pM:Nat:=74
abbrev T.cg:Nat:=78
abbrev T.zq:Nat:=79
abbrev T.bE:Nat:=84
abbrev T.lf:Nat:=89
abbrev T.lM:Nat:=90
abbrev T.Hp:Nat:=115
abbrev T.gG:Nat:=118
abbrev T.eJ:Nat:=121
abbrev T.de:Nat:=123
abbrev T.gI:Nat:=129
abbrev T.ml:Nat:=132
abbrev T.gn:Nat:=133
abbrev T.iX:Nat:=135
abbrev T.dK:Nat:=170
abbrev T.eF:Nat:=172
abbrev T.A7:Nat:=177
abbrev T.mz:Nat:=191
theorem U.int:Tryz.prog.underlying T.int=some (.int .i64):=by kernel_rfl
theorem U.uint8:Tryz.prog.underlying T.uint8=some (.int .u8):=by kernel_rfl
theorem U.aS:Tryz.prog.underlying T.aS=some (.slice T.int):=by kernel_rfl
theorem El.aS:ff Tryz.prog T.aS T.int 1 8 (.int .i64 0):=iQ (by kernel_rfl) (by kernel_rfl) rfl (by decide)
theorem U.mH:Tryz.prog.underlying T.mH=some (.array 3 T.int):=by kernel_rfl
theorem El.fH:ff Tryz.prog T.fH T.ay 6 112 (.agg #[(.slice none 0 0),(.slice none 0 0),(.int .i64 0),(.slice none 0 0),(.slice none 0 0),(.int .i32 0)]):=iQ (by kernel_rfl) (by kernel_rfl) rfl (by decide)
theorem El.j8:ff Tryz.prog T.j8 T.lM 2 16 (.agg #[(.int .i64 0),(.int .i64 0)]):=iQ (by kernel_rfl) (by kernel_rfl) rfl (by decide)
theorem El.dh:ff Tryz.prog T.dh T.aS 1 24 (.slice none 0 0):=iQ (by kernel_rfl) (by kernel_rfl) rfl (by decide)
theorem El.gM:ff Tryz.prog T.gM T.cE 2 32 (.agg #[(.int .i64 0),(.slice none 0 0)]):=iQ (by kernel_rfl) (by kernel_rfl) rfl (by decide)
theorem El.jf:ff Tryz.prog T.jf T.cg 5 56 (.agg #[(.int .i64 0),(.int .i64 0),(.int .i64 0),(.slice none 0 0),(.int .i32 0)]):=iQ (by kernel_rfl) (by kernel_rfl) rfl (by decide)
theorem U.bZ:Tryz.prog.underlying T.bZ=some (.slice T.bI):=by kernel_rfl
theorem El.bZ:ff Tryz.prog T.bZ T.bI 2 16 (.agg #[(.int .i64 0),(.int .i64 0)]):=iQ (by kernel_rfl) (by kernel_rfl) rfl (by decide)
theorem El.lh:ff Tryz.prog T.lh T.bool 1 1 (.bool false):=iQ (by kernel_rfl) (by kernel_rfl) rfl (by decide)
theorem El.pM:ff Tryz.prog T.pM T.lh 1 24 (.slice none 0 0):=iQ (by kernel_rfl) (by kernel_rfl) rfl (by decide)
theorem U.lf:Tryz.prog.underlying T.lf=some (.map T.lM T.int):=by kernel_rfl
theorem U.lM:Tryz.prog.underlying T.lM=some (.array 2 T.int):=by kernel_rfl
theorem El.gG:ff Tryz.prog T.gG T.eJ 4 64 (.agg #[(.int .i64 0),(.int .i64 0),(.slice none 0 0),(.slice none 0 0)]):=iQ (by kernel_rfl) (by kernel_rfl) rfl (by decide)
theorem U.gn:Tryz.prog.underlying T.gn=some (.map T.int T.A7):=by kernel_rfl
theorem U.eF:Tryz.prog.underlying T.eF=some (.map T.int T.dK):=by kernel_rfl
theorem U.mz:Tryz.prog.underlying T.mz=some (.slice T.uint8):=by kernel_rfl
theorem El.mz:ff Tryz.prog T.mz T.uint8 1 1 (.int .u8 0):=iQ (by kernel_rfl) (by kernel_rfl) rfl (by decide)
end Go.Proofs.YtbkdlhkoiagbbaaGreat
namespace Go.Lft
open Go Go.ChangeShapes Go.WideShapes Go.RowKit
structure RT (P:Program) (t:TypeId) (α:Type) [Rep α]:Prop where
 cells : ∀{H:Type} {enc:TypeId × Value->H} {W:World} {spare:Nat->Bool} {held:Bool} {fuel:Nat} {cs:List Value} {d:DataW H} {ps:List MemPlace},
  DataW.trod enc P W 0 spare held fuel t cs=some (d,ps)->(∀b∈d.weights P t,b<=reachBytes)->∃x:α,Rep.rd (vw W.heap) cs x
 val : ∀{W:World} {r:Reach} {base:Nat} {v:Value},Value.okWide P W r base t v->if Rep.agg α then ∃cs,v = .agg cs else v.cells = #[v]
theorem RT.arg{P:Program}{t:TypeId}{α:Type}[Rep α](rt:RT P t α){H:Type}{enc:TypeId × Value->H}{W:World}{spare:Nat->Bool}{held:Bool}{v:Value}{d:DataW H}{ps:List MemPlace}{r:Reach}{base:Nat}(h:DataW.Trod enc P W 0 spare held t v d ps)(hok:Value.okWide P W r base t v)(hw : ∀b∈d.weights P t,b<=reachBytes): ∃x:α,Rd (vw W.heap) v x:=by
 obtain⟨fuel,h⟩:=h;obtain⟨x,hx⟩:=rt.cells h hw;have hv:=rt.val hok;refine⟨x,?_⟩;unfold Rd;split
 ·rename_i ha;rw[if_pos ha]at hv;obtain⟨cs,rfl⟩:=hv;exact⟨cs,rfl,hx⟩
 rename_i ha;rw[if_neg ha]at hv;rw[hv]at hx;exact hx
theorem wf_i64{n:Int}(h:(Lit.int .i64 n).wf=true):-9223372036854775808<=n/\n<=9223372036854775807:=by simp only[Lit.wf,LK,decide_eq_true_eq]at h;simpa[IntKind.min,IntKind.max,IntKind.signed,IntKind.bits]using h
section
variable {P:Program} {t e:TypeId} {H:Type} {enc:TypeId × Value->H} {W:World} {spare:Nat->Bool} {held:Bool} {fuel:Nat} {cs:List Value} {x:DataW H × List MemPlace}
theorem trod_int{k:IntKind}(ht:P.underlying t=some (.int k))(h:DataW.trod enc P W 0 spare held fuel t cs=some x): ∃n,cs=[.int k n]/\(Lit.int k n).wf=true:=by
 cases fuel with
 | zero=>simp[DataW.trod]at h
 | succ n=>unfold DataW.trod at h;rw[ht]at h;split at h<;>simp_all
end
section
variable {P:Program} {t e:TypeId}
theorem JS(ht:P.underlying t=some (.int .i64)):RT P t Int where
 cells:=fun{H enc W spare held fuel cs d ps} h _=>by
  obtain⟨n,rfl,hw⟩:=trod_int ht h
  exact⟨n,rfl,wf_i64 hw⟩
 val:=fun{W r base v} h=>by
  simp only[Value.okWide,ht,Cell.okWide]at h
  cases v<;>simp[Cell.ok,ht]at h ⊢<;>first | rfl | simp[Rep.agg,Value.cells]
theorem Ej{W:World}{a:Addr}{v:Value}(h:W.cell? a=some v):a.spot=none/\∃c T fz,W.heap[a.block]? = some (.cells c T fz)/\c[a.off]? = some v:=by
 unfold World.cell? at h;split at h
 ·rename_i c T fz hb;split at h
  ·cases h
  rename_i hs;exact⟨by simpa using hs,c,T,fz,hb,h⟩
 cases h
theorem uH{W:World}{a:Addr}{n:Nat}{c:List Value}(hn:0<n)(h:W.cells? 0 a n=some c):a.spot=none/\gj (vw W.heap) a c:=by
 obtain⟨_,hl,hc⟩:=World.cells?_some h;have h0:=hc 0 hn;have e0:a.add 0=a:=by simp[Addr.add]
 rw[e0,List.getElem?_eq_getElem (by omega)]at h0;obtain⟨hs,arr,T,fz,hb,_⟩:=Ej h0;refine⟨hs,arr,T,fz,hs,hb,Oo fun i=>?_⟩;by_cases hi:i<n
 ·have h1:=hc i hi;rw[bn hs]at h1;simp only[World.cell?,hb]at h1;rw[List.getElem?_take,if_pos (by omega),List.getElem?_drop];simpa using h1
 rw[List.getElem?_eq_none (by simp;omega),List.getElem?_eq_none (by omega)]
theorem tW {H:Type} {P:Program} {e:TypeId} : ∀{l:List (DataW H)} {d:DataW H},d∈l->∀b∈d.weights P e,b∈DataW.weightsAll P e l
 | x::l,d,hd,b,hb=>by
  rw[DataW.weightsAll,LP];rcases L4.1 hd with rfl | hd
  ·exact .inl hb
  exact .inr (tW hd b hb)
theorem FN{α:Type}[Rep α](ht:P.underlying t=some (.slice e))(hc:P.cellsOf e=Rep.n α)(hby:1<=P.bytesOf e)(re:RT P e α):RT P t (List α) where
 cells:=fun{H enc W spare held fuel cs d ps} h hw=>by
  rcases DataW.trod_slice ht h with⟨rfl,_⟩ | ⟨a,len,cap,elems,rest,n,_,rfl,hx,_,hlc,hcm,hel,hget,_,_⟩
  ·exact⟨[],_,rfl,none,0,rfl,by simp,by simp,.inl rfl⟩
  ·simp only[ND]at hx
   obtain⟨rfl,_⟩:=hx
   have hwt : ∀b∈(DataW.slice (elems.map (·.1)) (rest.map (·.1))).weights P t,b<=reachBytes:=hw
   unfold DataW.weights at hwt
   rw[ht]at hwt
   simp only[L4,LP,L6]at hwt
   have hlen:len<=140737488351232:=by
    have h1:=hwt _ (.inl rfl)
    have h2:elems.length*1<=(elems.length+rest.length)*P.bytesOf e:=N0 (by omega) hby
    have h3:reachBytes=140737488351232:=rfl
    omega
   have hpos:=Rep.pos (α:=α)
   have each : ∀i,i<len->∃x:α,∃c,W.cells? 0 (a.add (i*Rep.n α)) (Rep.n α)=some c/\Rep.rd (vw W.heap) c x:=by
    intro i hi
    have h1:=hget i hi
    rw[hc,List.getElem?_eq_getElem (by omega),LU]at h1
    obtain⟨c,hc1,hc2⟩:=h1
    obtain⟨x,hx⟩:=re.cells (d:=elems[i].1) (ps:=elems[i].2) hc2 fun b hb=>hwt b (.inr (.inl (tW (MR.2 ⟨_,MD (by omega),rfl⟩) b hb)))
    exact⟨x,c,hc1,hx⟩
   have key : ∀k,k<=len->∃l:List α,l.length=k/\∀(i:Nat) (hi:i<l.length),∃c,W.cells? 0 (a.add (i*Rep.n α)) (Rep.n α)=some c/\Rep.rd (vw W.heap) c l[i]:=by
    intro k
    induction k with
    | zero=>exact fun _=>⟨[],rfl,fun i hi=>by simp at hi⟩
    | succ k ih=>
     intro hk
     obtain⟨l,h1,h2⟩:=ih (by omega)
     obtain⟨x,c,h3,h4⟩:=each k (by omega)
     refine⟨l++[x],by simp[h1],fun i hi=>?_⟩
     rcases LI i l.length with hlt | hge
     ·rw[Nv hlt];exact h2 i hlt
     ·have:i=k:=by simp at hi;omega
      subst this
      rw[Ni hge]
      simp only[h1,Om,NJ]
      exact⟨c,h3,h4⟩
   obtain⟨l,h1,h2⟩:=key len (LG _)
   refine⟨l,_,rfl,some a,cap,by rw[h1],by omega,by omega,?_⟩
   rcases N2 len with h0 | h0
   ·left;exact LO (by omega)
   ·right
    obtain⟨c,h3,_⟩:=h2 0 (by omega)
    have e0:a.add (0*Rep.n α)=a:=by simp[Addr.add]
    rw[e0]at h3
    refine⟨a,rfl,(uH hpos h3).1,fun i hi=>?_⟩
    obtain⟨c,h3,h4⟩:=h2 i hi
    exact⟨c,(uH hpos h3).2,h4⟩
 val:=fun{W r base v} h=>by
  simp only[Value.okWide,ht,Cell.okWide]at h
  cases v<;>simp[Cell.ok,ht]at h ⊢<;>first | rfl | simp[Rep.agg,Value.cells]
end
theorem ET{w w':World}(hs:Same w w')(hle:(vw w.heap).le (vw w'.heap)):Below w.heap.size w w':=
 ⟨hs.os,hs.tape,hs.output,hs.size,fun k hk=>by have:=hle k w.heap[k] (Array.getElem?_eq_getElem hk);rw[Array.getElem?_eq_getElem hk];exact this⟩
theorem qb {H:Type} {enc:TypeId × Value->H} {P:Program} {W W':World} (hl:laidOutB P=true) (hb:Below W.heap.size W W') : ∀{ts:List TypeId} {vs:List Value} {ds:List (DataW H)} {ps:List MemPlace},
  (∀t∈ts,P.readableRec t=true/\t<P.types.size)->DataW.TrodAll enc P W 0 (fun _=>true) true ts vs ds ps->(∀x∈ps,x.block<W.heap.size)->DataW.TrodAll enc P W' 0 (fun b=>decide (b<W.heap.size)) true ts vs ds ps
 | [],vs,ds,ps,_,h,_=>by obtain⟨rfl,rfl,rfl⟩:=trodAll_nil h;rfl
 | t::ts,vs,ds,ps,hr,h,hlt=>by obtain⟨v,vs',d,ds',p,q,rfl,rfl,rfl,h1,h2⟩:=trodAll_cons h;obtain⟨g1,g2⟩:=hr t (LR ..);exact⟨p,q,Below.trod hl g1 g2 h1 hb fun x hx=>hlt x (Ng _ hx),qb hl hb (fun t ht=>hr t (LS _ ht)) h2 fun x hx=>hlt x (M5 _ hx),rfl⟩
theorem E9{H:Type}{enc:TypeId × Value->H}{P:Program}{fn:Func}{s:ChangeSpec}{W W':World}{args:Array Value}{ds gs:List (DataW H)}{before:List MemPlace}{fresh:Bool}{tb:TypeId}(hl:laidOutB P=true)(hr : ∀t∈fn.params.toList,P.readableRec t=true/\t<P.types.size)(hW:DataW.Whole enc P fn.params.toList s.vars false W args.toList ds gs before)(hv:s.vars=[])(hs:s.fn H (ds++gs)={ results:=[.lit (.bool true)],args:=ds })(hres:fn.resultTypes = #[tb])(htb:P.underlying tb=some .bool)(hb:Below W.heap.size W W'):s.post enc P fn false fresh false false W args (.bool true) W':=by
 have hW0:=hW;obtain⟨p,q,hA,hV,rfl,_,_⟩:=hW;rw[hv]at hV;obtain⟨rfl,rfl⟩:=trodVars_none hV;have hlt : ∀x∈p,x.block<W.heap.size:=fun x hx=>by simpa using hW0.lt x (Ng _ hx)
 refine⟨ds,[],p++[],[],p,[],hW0,?_,?_,?_,hb.frame _,fun h=>by cases h⟩
 ·rw[hs,hres];exact trodAll_mk1 (shut_bool htb true)
 ·rw[hs];exact qb hl hb hr hA hlt
 rw[hv,hs];rfl
theorem law2{H:Type}{enc:TypeId × Value->H}{P:Program}{a:Assume}{C:Checked}{os:Os}{f:FuncId}{fn:Func}{s:ChangeSpec}{conds:List PathCond}{fresh:Bool}{tb t1 t2:TypeId}{α β:Type}[Rep α][Rep β](own:ownKnob C.prog.godebug=none)(started:os.Started)(noInit:C.prog.inits.idxOf? f=none)(hfn:C.prog.funcs[f]? = some fn)(hP:C.prog=P)(witness : ∃(w:World) (tape:Tape) (i:Input),w.os=os/\(w.forCall tape i).Shaped C.prog/\i.vars=[]/\Input.okWide C.prog (w.forCall tape i) .any w.heap.size f i/\
   s.pre6 enc C.prog fn conds false (w.forCall tape i).memory i.args/\a.holds C.prog (lone (Frame.enter C.prog f i.args .normal) [] (w.forCall tape i)))(hl:laidOutB P=true)(hr : ∀t∈fn.params.toList,P.readableRec t=true/\t<P.types.size)(hv:s.vars=[])(hs : ∀ds,ds.length=2->s.fn H ds={ results:=[.lit (.bool true)],args:=ds })(hres:fn.resultTypes = #[tb])(htb:P.underlying tb=some .bool)(hp:fn.params = #[t1,t2])(r1:RT P t1 α)(r2:RT P t2 β)(hcall : ∀(h:Heap) (v1:Value) (x1:α) (v2:Value) (x2:β),Rd (vw h) v1 x1->Rd (vw h) v2 x2->az P f #[v1,v2] h (fun v h'=>v = .bool true/\(vw h).le (vw h'))):
  ReturnsInHanded a C os f .any (s.pre6 enc C.prog fn conds false) (s.post enc C.prog fn false fresh false false):=by
 subst hP;refine returnsInHanded_of_change_shaped own started noInit hfn witness ?_;intro W base args ds gs before hval hW _ hwt _ _;have hW0:=hW;obtain⟨p,q,hA,hV,_,_,_⟩:=hW;rw[hv]at hV;obtain⟨hgs,_⟩:=trodVars_none hV;rw[hp]at hA;obtain⟨v1,v2,d1,d2,p1,p2,hargs,hds,_,h1,h2⟩:=trodAll_two hA;have hlen:(ds++gs).length=2:=by rw[hds,hgs];rfl
 rw[hgs,hds,hp]at hwt;simp only[Nj,M8,decide_eq_true_eq]at hwt;obtain⟨x1,q1⟩:=r1.arg h1 (hval 0 t1 v1 (by rw[hp];rfl) (by rw[hargs];rfl)) (fun b hb=>hwt b (by simp[DataW.weightsEach,hb]));obtain⟨x2,q2⟩:=r2.arg h2 (hval 1 t2 v2 (by rw[hp];rfl) (by rw[hargs];rfl)) (fun b hb=>hwt b (by simp[DataW.weightsEach,hb]));rw[hargs];refine(hcall W.heap v1 x1 v2 x2 q1 q2 W rfl).mono ?_;rintro e W' ⟨v,rfl,⟨rfl,hle⟩,hsame⟩;rw[<-hargs];have hgs':ds++gs=ds:=by rw[hgs,Nj]
 exact⟨_,rfl,E9 hl hr hW0 hv (by rw[hs _ hlen,hgs']) hres htb (ET hsame hle)⟩
end Go.Lft
namespace Go.Proofs.YtbkdlhkoiagbbaaGreat
open Go Go.Lft
theorem Tryz.own:ownKnob Tryz.prog.godebug=none:=by kernel_rfl
theorem Tryz.laidOut:laidOutB Tryz.prog=true:=by kernel_rfl
theorem rtI:RT Tryz.prog T.int Int:=JS (by kernel_rfl)
theorem rtIs:RT Tryz.prog T.aS (List Int):=FN (e:=T.int) (by kernel_rfl) (by kernel_rfl) (of_decide_eq_true (by kernel_rfl)) rtI
end Go.Proofs.YtbkdlhkoiagbbaaGreat
namespace Go.Lft
open Go
section
variable {po po2 po3:OP} {pp:PP}
structure Raw where
 v:Value
instance:Rep Raw where
 n:=1
 agg:=false
 rd:=fun _ cs d=>cs=[d.v]/\d.v.oneCell'=true
 mono:=fun _ h=>h
 len:=fun h=>by rw[h.1];rfl
 one:=fun _=>rfl
 flat:=fun h u hu=>by rw[h.1]at hu;simp at hu;subst hu;exact h.2
 pos:=OQ
 fG:=fun h=>h
instance:Inhabited Raw:=⟨⟨.bool false⟩⟩
theorem qx{H:View}{v:Value}{d:Raw}:Rd H v d↔v=d.v/\d.v.oneCell'=true:=by simp[Rd,Rep.agg,Rep.rd]
theorem At.raw{H:View}{a:Addr}{d:Raw}(h:At H a d):ao H a=some d.v:=by obtain⟨u,h1,h2⟩:=h.load rfl;rw[(qx.1 h2).1]at h1;exact h1
variable{α β:Type}{off:Nat}{P:Program}{W:View}{ty:TypeId}{y:Operand}{us:List (Nat × Value)}{K:Value->Heap->Prop}
theorem y4[Rep α][Rep β]{g:α->β}{s:α->β->α}(p:Part α β off g s){h:Heap}{e:TypeId}{v:Value}{l:List α}{t:TypeId}{x:Operand}{i:Nat}{u:Value}{d:β}(hsz:cC P t=some (Rep.n β))(hx:asg us x = .pointer (some (((slA v).add (i*Rep.n α)).add off)))(hy:asg us y=u)(ho:OwnT W h e v l)(hi:i<l.length)(hr:Rd W u d)(hk : ∀h',h'.size=h.size->OwnT W h' e v (l.set i (s l[i] d))->lq h h' v v->K undef h'):@step po P (.store t x y) ty us h K:=by
 obtain⟨c1,c2,c3⟩:=kY hr;obtain⟨hbd,xs,⟨hxl,hown⟩,hel⟩:=ho;have hf:=p.fits;refine dR (po:=po) (mY fun w hw=>?_);subst hw;rcases hown with⟨rfl,hn⟩ | ⟨gb,cap,cur,rfl,hg,h1,h2,h3,h4⟩
 ·omega
 have hle:i*Rep.n α+Rep.n α<=l.length*Rep.n α:=by rw[<-Nat.succ_mul];exact L7 _ hi
 have hcap:l.length*Rep.n α<=cap*Rep.n α:=L7 _ h1;have hlen:u.cells.toList.length=Rep.n β:=by simpa using c2
 have hrun:=run_storeCells_at P gb (i*Rep.n α+off) e u.cells.toList 0 cur w hg (by simp only[Nat.add_zero];omega) c3;have hadd:((slA (.slice (some ⟨gb,0,none⟩) l.length cap)).add (i*Rep.n α)).add off=⟨gb,i*Rep.n α+off,none⟩:=by show((⟨gb,0,none⟩:Addr).add _).add _=_;simp[Addr.z]
 have hszr:=run_sizeOf (P:=P) (w:=w) hsz;obtain⟨row,hrow⟩ : ∃row:Array Value,row.toList=cur.toList.take (i*Rep.n α+off)++u.cells.toList++cur.toList.drop (i*Rep.n α+off+Rep.n β):=⟨(cur.toList.take (i*Rep.n α+off)++u.cells.toList++cur.toList.drop (i*Rep.n α+off+Rep.n β)).toArray,rfl⟩;have hrun':Sem.run P (storeCells ⟨gb,i*Rep.n α+off,none⟩ u.cells.toList) w = .ok () (w.setRow gb row):=by rw[hrun];congr 2;rw[<-Array.toList_inj,hrow,hlen];rfl
 have hrsz:row.size=cap*Rep.n α:=by have:=congrArg List.length hrow;simp only[NW,LH,MA,ME,c2]at this;omega
 refine⟨w.setRow gb row,?_,Same.qy rfl rfl rfl (by simp) hg (by simp) (fun k _ hne=>setRow_other w gb k _ (fun e=>hne e)),hk (w.setRow gb row).heap (by simp) ⟨by simpa using hbd,xs.take (i*Rep.n α+off)++u.cells.toList++xs.drop (i*Rep.n α+off+Rep.n β),⟨?_,.inr ⟨gb,cap,row,by simp,setRow_heap w gb cur row e _ hg,by simpa using h1,h2,?_,?_⟩⟩,?_⟩ ⟨⟨by simp,fun k hk hne=>setRow_other w gb k _ (fun e=>hne (by simp[Value.ownBlock,e]))⟩,.inl rfl⟩⟩
 ·simp only[bL,execOp,hx,hy,hadd];simp[Instr.storeAt,Instr.sureAddr,storeVar,hszr,c2,hrun']
 ·simp only[LH,MA,ME,hlen,LN];omega
 ·exact hrsz
 ·simp only[LN];rw[hrow,<-h4,M9,MO (by omega),L5,L5];have e1:(cur.toList.take (i*Rep.n α+off)).length=i*Rep.n α+off:=by simp;omega
  rw[NL,e1,LV (by omega)];congr 1;rw[NL,hlen,LV (by omega)];congr 1;rw[Nk];congr 1;omega
 intro j hj;simp only[LN]at hj;have hjle:j*Rep.n α+Rep.n α<=l.length*Rep.n α:=by rw[<-Nat.succ_mul];exact L7 _ hj
 have e1:(xs.take (i*Rep.n α+off)).length=i*Rep.n α+off:=by simp;omega
 by_cases hij:i=j
 ·subst hij;have hset:(l.set i (s l[i] d))[i]'(by simpa using hj)=s l[i] d:=by simp
  rw[hset];have:=p.set (hel i hj) c1;have hcs:((xs.drop (i*Rep.n α)).take (Rep.n α)).length=Rep.n α:=by simp;omega
  have e3:((xs.take (i*Rep.n α+off)++u.cells.toList++xs.drop (i*Rep.n α+off+Rep.n β)).drop (i*Rep.n α)).take (Rep.n α)=((xs.drop (i*Rep.n α)).take (Rep.n α)).take off++u.cells.toList++((xs.drop (i*Rep.n α)).take (Rep.n α)).drop (off+Rep.n β):=by
   rw[L5,Nh (by omega),Nk,OV,M9,MO (by omega),L5];have e4:((xs.drop (i*Rep.n α)).take off).length=off:=by simp;omega
   rw[NL,e4,LV (by omega)];congr 1;rw[NL,hlen,LV (by omega)];congr 1;rw[Nk,NG];rw[show i*Rep.n α+(off+Rep.n β)=i*Rep.n α+off+Rep.n β by omega,show Rep.n α-off-Rep.n β=Rep.n α-(off+Rep.n β) by omega]
  rw[e3];exact this
 have hset:(l.set i (s l[i] d))[j]'(by simpa using hj)=l[j]:=by simp[hij]
 rw[hset];have:((xs.take (i*Rep.n α+off)++u.cells.toList++xs.drop (i*Rep.n α+off+Rep.n β)).drop (j*Rep.n α)).take (Rep.n α)=(xs.drop (j*Rep.n α)).take (Rep.n α):=by
  rcases LI j i with hlt | hge
  ·have h5:j*Rep.n α+Rep.n α<=i*Rep.n α:=by rw[<-Nat.succ_mul];exact L7 _ hlt
   rw[L5,Nh (by omega),MQ (by simp;omega),Nk,M9,MO (by omega)]
  have h5:i*Rep.n α+Rep.n α<=j*Rep.n α:=by rw[<-Nat.succ_mul];exact L7 _ (by omega)
  have e2:(xs.take (i*Rep.n α+off)++u.cells.toList).length=i*Rep.n α+off+Rep.n β:=by rw[LH,e1,hlen]
  rw[NZ,MG (by omega),MB,e2,NG];congr 2;omega
 rw[this];exact hel j hj
abbrev Key:=Nat × Nat
structure Item where
 α:Type
 rep:Rep α
 e:TypeId
 v:Value
 l:List α
abbrev Own:=Key->Option Item
def it {α:Type} [r:Rep α] (e:TypeId) (v:Value) (l:List α):Option Item:=some ⟨α,r,e,v,l⟩
def bx {α:Type} [r:Rep α] (e:TypeId) (B:Nat) (d:α):Option Item:=some ⟨α,r,e,.slice (some ⟨B,0,none⟩) 1 1,[d]⟩
def Own.upd (o:Own) (k:Key) (i:Option Item):Own:=fun j=>if j=k then i else o j
structure Owns (W:View) (h:Heap) (o:Own):Prop where
 wle:W.le (vw h)
 own : ∀k i,o k=some i->@OwnT i.α i.rep W h i.e i.v i.l
 av : ∀k i,o k=some i->Av W i.v
 dj : ∀k k' i i' b,o k=some i->o k'=some i'->i.v.ownBlock=some b->i'.v.ownBlock=some b->k=k'
section
variable {W:View} {h h':Heap} {o:Own} {k:Key}
theorem Owns.congr{o':Own}(w:Owns W h o)(he : ∀k,o' k=o k):Owns W h o':=by have:o'=o:=funext he;rw[this];exact w
theorem Owns.start(hw:W.le (vw h)):Owns W h (fun _=>.none):=⟨hw,fun _ _ h=>(by cases h),fun _ _ h=>(by cases h),fun _ _ _ _ _ h=>(by cases h)⟩
theorem Owns.get[r:Rep α]{e:TypeId}{v:Value}{l:List α}(w:Owns W h o)(hk:o k=it e v l):OwnT W h e v l:=w.own k _ hk
theorem Owns.now {α:Type} [r:Rep α] {e:TypeId} {v:Value} {l:List α} (w:Owns W h o) (hk:o k=it e v l):SlRd (vw h) v l:=(w.get hk).now w.wle
theorem Owns.at {α:Type} [r:Rep α] {e:TypeId} {B:Nat} {d:α} (w:Owns W h o) (hk:o k=bx e B d):At (vw h) ⟨B,0,.none⟩ d:=by have:SlRd (vw h) (.slice (some ⟨B,0,.none⟩) 1 1) [d]:=w.now (k:=k) hk;have:=this.at (i:=0) (by simp);simpa[slA]using this
theorem Owns.cells {α:Type} [r:Rep α] {e:TypeId} {v:Value} {l:List α} (w:Owns W h o) (hk:o k=it e v l):v.cells = #[v]/\v.oneCell'=true:=by have:=(w.get hk).len (K:=nothing);cases v<;>first | exact⟨rfl,rfl⟩ | (simp[Un.ev,vL]at this)
theorem Owns.lt {i:Item} (w:Owns W h o) (hk:o k=some i) {b:Nat} (hb:i.v.ownBlock=some b):b<h.size:=@OwnT.lt i.α i.rep _ _ _ _ _ (w.own k i hk) _ hb
theorem Owns.ext'(w:Owns W h o)(hle:(vw h).le (vw h')):Owns W h' o:=
 ⟨View.le_trans w.wle hle,fun k i hk=>@OwnT.ext i.α i.rep _ _ _ _ _ _ (w.own k i hk) hle,w.av,w.dj⟩
theorem Owns.ext (w:Owns W h o) (hle:(vw h).le (vw h')):Owns (grow W h h') h' o:=
 ⟨nG (View.le_trans w.wle hle),fun k i hk=>@OwnT.mono i.α i.rep _ _ _ _ _ (@OwnT.ext i.α i.rep _ _ _ _ _ _ (w.own k i hk) hle) _ (aH w.wle),
  fun k i hk=>(w.av k i hk).grow fun b hb=>w.lt hk hb,w.dj⟩
theorem Owns.Kf{W':View}(w:Owns W h o)(h1:W.le W')(h2:W'.le (vw h))(h3 : ∀k i b,o k=some i->i.v.ownBlock=some b->W' b = .none):Owns W' h o:=
 ⟨h2,fun k i hk=>@OwnT.mono i.α i.rep _ _ _ _ _ (w.own k i hk) _ h1,fun k i hk b hb=>h3 k i b hk hb,w.dj⟩
theorem Owns.sub{o':Own}(w:Owns W h o)(hs : ∀k i,o' k=some i->o k=some i):Owns W h o':=
 ⟨w.wle,fun k i hk=>w.own k i (hs k i hk),fun k i hk=>w.av k i (hs k i hk),fun k k' i i' b hk hk'=>w.dj k k' i i' b (hs k i hk) (hs k' i' hk')⟩
theorem Owns.lQ{i:Item}[rb:Rep β]{e2:TypeId}{v':Value}{l':List β}(w:Owns W h o)(hk:o k=some i)(o2:OwnT W h' e2 v' l')(m:lq h h' i.v v'):Owns W h' (o.upd k (it e2 v' l')):=by
 obtain⟨w1,a1⟩:=m.view w.wle (w.av k i hk);have new : ∀(y:Item) (q:Key) (b:Nat),o q=some y->y.v.ownBlock=some b->v'.ownBlock=some b->q=k:=fun y q b hq hb hv=>by
  rcases m.at_ with e | e
  ·exact w.dj q k y i b hq hk hb (e▸hv)
  rw[e]at hv;simp only[LF]at hv;have:=w.lt hq hb;omega
 refine⟨w1,fun j x hj=>?_,fun j x hj=>?_,fun j j' x x' b hj hj' hb hb'=>?_⟩
 ·unfold Own.upd at hj;split at hj
  ·cases hj;exact o2
  rename_i hjk;refine @OwnT.kept x.α x.rep _ _ _ _ _ _ (w.own j x hj) _ m.kept ?_;cases hx:x.v.ownBlock with
  | none=>exact .inl rfl
  | some b=>exact .inr fun e=>hjk (w.dj j k x i b hj hk hx e.symm)
 ·unfold Own.upd at hj;split at hj
  ·cases hj;exact a1
  exact(m.view w.wle (w.av k i hk) |>.1:_) |> fun _=>w.av j x hj
 unfold Own.upd at hj hj';split at hj
 ·rename_i a;cases hj;split at hj'
  ·rename_i c;rw[a,c]
  rw[a];exact(new x' j' b hj' hb' hb).symm
 split at hj'
 ·rename_i c;cases hj';rw[c];exact new x j b hj hb hb'
 exact w.dj j j' x x' b hj hj' hb hb'
theorem Owns.add[rb:Rep β]{e2:TypeId}{v':Value}{l':List β}(w:Owns W h o)(hk:o k = .none)(o2:OwnT W h' e2 v' l')(hle:(vw h).le (vw h'))(hb : ∀b,v'.ownBlock=some b->h.size<=b):Owns W h' (o.upd k (it e2 v' l')):=by
 have w1:=w.ext' hle;refine⟨w1.wle,fun j x hj=>?_,fun j x hj=>?_,fun j j' x x' b hj hj' hb1 hb2=>?_⟩
 ·unfold Own.upd at hj;split at hj
  ·cases hj;exact o2
  exact w1.own j x hj
 ·unfold Own.upd at hj;split at hj
  ·cases hj;intro b hb';exact View.dH w.wle (hb b hb')
  exact w.av j x hj
 unfold Own.upd at hj hj';split at hj
 ·rename_i a;cases hj;split at hj'
  ·rename_i c;rw[a,c]
  have:=w.lt hj' hb2;have:=hb b hb1;omega
 split at hj'
 ·cases hj';have:=w.lt hj hb1;have:=hb b hb2;omega
 exact w.dj j j' x x' b hj hj' hb1 hb2
theorem Own.af{i:Option Item}:o.upd k i k=i:=by simp[Own.upd]
theorem Own.ab{i:Option Item}{j:Key}(hj:j≠k):o.upd k i j=o j:=by simp[Own.upd,hj]
variable{B:Nat}
theorem iq[Rep β]{e:TypeId}{v:Value}{d:β}(hb:h[B]? = some (.cells v.cells e (0,0)))(hr:Rd W v d)(hn:Rep.n β<=1000):OwnT W h e (.slice (some ⟨B,0,.none⟩) 1 1) [d]:=by
 obtain⟨c1,c2,c3⟩:=kY hr;refine⟨by simp,v.cells.toList,⟨by simp[c2],.inr ⟨B,1,v.cells,rfl,hb,LG _,by simp[maxLen],by omega,?_⟩⟩,fun i hi=>?_⟩
 ·rw[LV];simp[c2]
 have:i=0:=by simpa using hi
 subst this;simp only[Ny,NM,NJ];rw[LV (by simp[c2])];exact c1
section
variable {P:Program} {ty:TypeId} {us:List (Nat × Value)} {α:Type} [r:Rep α] {e:TypeId} {v:Value} {l:List α}
theorem Owns.bw {t:TypeId} {bytes:Nat} {z:Value} {x y:Operand} {u:Value} {l2:List α} {K:Value->Heap->Prop} (w:Owns W h o) (hk:o k=it e v l) (hT:ff P t e (Rep.n α) bytes z) (hx:asg us x=v) (hy:asg us y=u)
  (hs:SrcT (vw h) W u l2) (hb:(l.length+l2.length)*bytes<=140737488355328) (hb2:l.length+l2.length<=140737488355328)
  (hK : ∀v' h',Owns W h' (o.upd k (it e v' (l++l2)))->lq h h' v v'->K v' h'):@step po P (.call ⟨.builtin .append,#[x,y],#[t,t]⟩) ty us h K:=
 Lft.bw hT hx hy (w.get hk) hs hb hb2 fun v' h' o2 m=>hK v' h' (w.lQ hk o2 m) m
variable{bytes:Nat}
theorem Owns.fg{t ty2:TypeId}{z:Value}{x y2:Operand}{us2:Value->List (Nat × Value)}{u:Value}{d:α}{K:Value->Value->Heap->Prop}(w:Owns W h o)(hk:o k=it e v l)(hT:ff P t e (Rep.n α) bytes z)(hx:asg us x=u)(hr:Rd W u d)(hb:(l.length+1)*bytes<=140737488355328)(hb2:l.length+1<=140737488355328)(hy : ∀u,asg (us2 u) y=v)(hy2 : ∀u,asg (us2 u) y2=u)(hK : ∀u v' h',Owns W h' (o.upd k (it e v' (l++[d])))->h.size<=h'.size->K u v' h'):
  @step po P (.buildSlice t 1 #[(0,x)]) ty us h fun u h2=>@step po2 P (.call ⟨.builtin .append,#[y,y2],#[t,t]⟩) ty2 (us2 u) h2 fun v' h3=>K u v' h3:=by refine lg (po:=po) hT hx hr fun u h2 hs hle hsz=>?_;exact(w.ext' hle).bw hk hT (hy u) (hy2 u) hs hb hb2 fun v' h3 w3 m=>hK u v' h3 w3 (by have:=m.kept.size;omega)
theorem Owns.ky{t:TypeId}{x:Operand}{i:Nat}{u:Value}{d:α}(w:Owns W h o)(hk:o k=it e v l)(hsz:cC P t=some (Rep.n α))(hx:asg us x = .pointer (some ((slA v).add (i*Rep.n α))))(hy:asg us y=u)(hi:i<l.length)(hr:Rd W u d)(hK : ∀h',Owns W h' (o.upd k (it e v (l.set i d)))->h'.size>=h.size->K undef h'):@step po P (.store t x y) ty us h K:=
 qA (po:=po) hsz hx hy (w.get hk) hi hr fun h' o2 m=>hK h' (w.lQ hk o2 m) m.kept.size
theorem Owns.je[Rep β]{g:α->β}{s:α->β->α}(p:Part α β off g s){t:TypeId}{x:Operand}{i:Nat}{u:Value}{d:β}(w:Owns W h o)(hk:o k=it e v l)(hsz:cC P t=some (Rep.n β))(hx:asg us x = .pointer (some (((slA v).add (i*Rep.n α)).add off)))(hy:asg us y=u)(hi:i<l.length)(hr:Rd W u d)(hK : ∀h',Owns W h' (o.upd k (it e v (l.set i (s l[i] d))))->h'.size=h.size->K undef h'):@step po P (.store t x y) ty us h K:=
 y4 (po:=po) p hsz hx hy (w.get hk) hi hr fun h' hs o2 m=>hK h' (w.lQ hk o2 m) hs
theorem Owns.ez[Rep β]{g:α->β}{s:α->β->α}(p:Part α β off g s){t:TypeId}{x:Operand}{D:α}{u:Value}{d:β}(w:Owns W h o)(hk:o k=bx e B D)(hsz:cC P t=some (Rep.n β))(hx:asg us x = .pointer (some ⟨B,off,.none⟩))(hy:asg us y=u)(hr:Rd W u d)(hK : ∀h',Owns W h' (o.upd k (bx e B (s D d)))->h'.size=h.size->K undef h'):@step po P (.store t x y) ty us h K:=
 w.je (po:=po) (v:=.slice (some ⟨B,0,.none⟩) 1 1) (l:=[D]) (i:=0) p hk hsz (by rw[hx];simp[slA,Addr.z]) hy (by simp) hr fun h' w' hs=>hK h' w' hs
end
end
theorem qU{h0 h1 h2 h3:Heap}(hs:h0.size<=h1.size)(hle:(vw h2).le (vw h3)):(fresh h1 h2).le (grow W h0 h3):=fun b o hb=>by
 unfold fresh at hb;split at hb
 ·cases hb
 unfold grow;rw[if_neg (by omega)];exact hle b o hb
theorem cM{h0 h1:Heap}{b:Nat}(hb:h0.size<=b):grow W h0 h1 b=h1[b]?:=by unfold grow;rw[if_neg (by omega)]
def View.plus (W:View) (v:Value) (h:Heap):View:=fun b=>if v.ownBlock=some b then h[b]? else W b
theorem eD{v:Value}{h:Heap}(ha:Av W v):W.le (W.plus v h):=fun b o hb=>by
 unfold View.plus;split
 ·rename_i e;rw[ha b e]at hb;cases hb
 exact hb
theorem H8{v:Value}{h:Heap}(hw:W.le (vw h)):(W.plus v h).le (vw h):=fun b o hb=>by
 unfold View.plus at hb;split at hb
 ·exact hb
 exact hw b o hb
theorem Owns.freeze{h:Heap}{o:Own}{k:Key}[r:Rep α]{e:TypeId}{v:Value}{l:List α}(w:Owns W h o)(hk:o k=it e v l):Owns (W.plus v h) h (o.upd k .none)/\SlRd (W.plus v h) v l:=by
 have ha:Av W v:=w.av k _ hk;constructor
 ·refine(w.sub (o':=o.upd k .none) fun j i hj=>?_).Kf (eD ha) (H8 w.wle) fun j i b hj hb=>?_
  ·unfold Own.upd at hj;split at hj
   ·cases hj
   exact hj
  unfold Own.upd at hj;split at hj
  ·cases hj
  rename_i hjk;unfold View.plus;rw[if_neg]
  ·exact w.av j i hj b hb
  intro e2;exact hjk (w.dj j k i _ b hj hk hb e2)
 refine(w.get hk).rd (eD ha) fun b hb=>?_;unfold View.plus;rw[if_pos hb]
variable{bytes:Nat}
theorem qT[Rep α]{t e:TypeId}{z:Value}{h:Heap}(hT:ff P t e (Rep.n α) bytes z)(hk : ∀h',(vw h).le (vw h')->h'.size=h.size+1->(∀W,OwnT (α:=α) W h' e (.slice (some ⟨h.size,0,none⟩) 0 0) [])->K (.slice (some ⟨h.size,0,none⟩) 0 0) h'):@step po P (.buildSlice t 0 #[]) ty us h K:=by refine pB (n:=0) (size:=Rep.n α) (vs:=[]) (cs:=#[]) hT (by omega) (by simp) (by simp only[Instr.fill,Ny];rw[show Array.range 0 = #[] by simp[Array.range_zero'],Array.map_empty]) (hk _ (bm _ _) (by simp) fun W=>⟨by simp,[],⟨by simp,.inr ⟨h.size,0,#[],rfl,by simp,LG _,by simp[maxLen],by simp,by simp⟩⟩,fun i hi=>by simp at hi⟩)
theorem Mine.empty[Rep α]{V:View}{h0 h h':Heap}{e:TypeId}(hle:(vw h0).le (vw h))(hle2:(vw h).le (vw h'))(hW:W.le (vw h))(ho:Old V h0 W)(own : ∀W,OwnT (α:=α) W h' e (.slice (some ⟨h.size,0,none⟩) 0 0) []):Mine (α:=α) V h0 h' W e (.slice (some ⟨h.size,0,none⟩) 0 0) []:=
 ⟨View.le_trans hle hle2,View.le_trans hW hle2,fun b hb=>by cases hb;exact View.dH hW (LG _),fun b hb=>by cases hb;exact View.dH hle (LG _),ho,own W⟩
variable{B:Nat}
theorem Owns.atW{h:Heap}{o:Own}{k:Key}[r:Rep α]{e:TypeId}{d:α}(w:Owns W h o)(hk:o k=bx e B d): ∃cs,gj (vw h) ⟨B,0,none⟩ cs/\Rep.rd W cs d:=by
 obtain⟨hb,xs,⟨hl,hown⟩,hel⟩:=w.get (k:=k) (v:=.slice (some ⟨B,0,none⟩) 1 1) (l:=[d]) hk;have h0:=hel 0 (by simp);simp only[Ny,NM,NJ,LJ,OB]at h0 hl;rw[LV (by omega)]at h0;rcases hown with⟨h1,_⟩ | ⟨g,cap,cur,h1,h2,h3,h4,h5,h6⟩
 ·cases h1
 simp only[Value.slice.injEq,LF,Addr.mk.injEq]at h1;obtain⟨⟨rfl,_⟩,_⟩:=h1;refine⟨xs,⟨cur,e,(0,0),rfl,h2,?_⟩,h0⟩;rw[hl,NM];simpa using h6
theorem Owns.vR{h:Heap}{o:Own}{k:Key}[r:Rep α]{e:TypeId}{v:Value}{l:List α}{t ty2:TypeId}{z:Value}{x y2:Operand}{us2:Value->List (Nat × Value)}{u:Value}{d:α}{K:Value->Value->Heap->Prop}(w:Owns W h o)(hk:o k=it e v l)(hT:ff P t e (Rep.n α) bytes z)(hx:asg us x=u)(hr:Rd W u d)(hb:(l.length+1)*bytes<=140737488355328)(hb2:l.length+1<=140737488355328)(hy : ∀u,asg (us2 u) y=v)(hy2 : ∀u,asg (us2 u) y2=u)(hK : ∀u v' h',Owns W h' (o.upd k (it e v' (l++[d])))->(∀X:View,X.le (vw h)->Av X v->X.le (vw h')/\Av X v')->K u v' h'):
  @step po P (.buildSlice t 1 #[(0,x)]) ty us h fun u h2=>@step po2 P (.call ⟨.builtin .append,#[y,y2],#[t,t]⟩) ty2 (us2 u) h2 fun v' h3=>K u v' h3:=by refine lg (po:=po) hT hx hr fun u h2 hs hle hsz=>?_;exact(w.ext' hle).bw hk hT (hy u) (hy2 u) hs hb hb2 fun v' h3 w3 m=>hK u v' h3 w3 fun X hX hA=>m.view (View.le_trans hX hle) hA
theorem Owns.xq{h:Heap}{o:Own}{k:Key}[r:Rep α][Rep β]{e:TypeId}{g:α->β}{s:α->β->α}(p:Part α β off g s){t:TypeId}{x:Operand}{D:α}{u:Value}{d:β}(w:Owns W h o)(hk:o k=bx e B D)(hsz:cC P t=some (Rep.n β))(hx:asg us x = .pointer (some ⟨B,off,.none⟩))(hy:asg us y=u)(hr:Rd W u d)(hK : ∀h',Owns W h' (o.upd k (bx e B (s D d)))->(∀X:View,X.le (vw h)->X B = .none->X.le (vw h'))->K undef h'):@step po P (.store t x y) ty us h K:=
 y4 (po:=po) p (v:=.slice (some ⟨B,0,.none⟩) 1 1) (l:=[D]) (i:=0) hsz (by rw[hx];simp[slA,Addr.z]) hy (w.get (k:=k) (v:=.slice (some ⟨B,0,.none⟩) 1 1) (l:=[D]) hk) (by simp) hr fun h' hs o2 m=>hK h' (w.lQ hk o2 m) fun X hX hB=>(m.view hX fun b hb=>by simp only[Value.ownBlock,LF]at hb;subst hb;exact hB).1
theorem aw{c:E}{kill:List Nat}{x y:LC}{Q:Post}{ρ:Env}{h:Heap}(hc:ev (look ρ) (vw h) c=some (.bool true))(hx:x.wp P Q (bM ρ kill) h):LC.wp P (.cond c kill x y) Q ρ h:=by rw[lW,hc,wR];exact hx
theorem au{c:E}{kill:List Nat}{x y:LC}{Q:Post}{ρ:Env}{h:Heap}(hc:ev (look ρ) (vw h) c=some (.bool false))(hy:y.wp P Q (bM ρ kill) h):LC.wp P (.cond c kill x y) Q ρ h:=by rw[lW,hc,tM];exact hy
end
section
variable {po po2 po3:OP} {pp:PP}
structure RawN (n:Nat) where
 l:List Value
instance {n:Nat}:Rep (RawN n) where
 n:=n+1
 agg:=true
 rd:=fun _ cs d=>cs=d.l/\cs.length=n+1/\∀u∈cs,u.oneCell'=true
 mono:=fun _ h=>h
 len:=fun h=>h.2.1
 one:=fun h=>by cases h
 flat:=fun h u hu=>h.2.2 u hu
 pos:=Nat.succ_pos _
 fG:=fun h=>h
variable{n:Nat}
theorem eP{H:View}{l:List Value}(h1:l.length=n+1)(h2 : ∀u∈l,u.oneCell'=true):Rd H (.agg l.toArray) (RawN.mk (n:=n) l):=by unfold Rd;rw[if_pos (show Rep.agg (RawN n)=true from rfl)];exact⟨_,rfl,rfl,h1,h2⟩
theorem RawN.p{o:Nat}(ho:o<=n):Part (RawN n) Raw o (fun d=>⟨d.l.getD o undef⟩) (fun d x=>⟨d.l.set o x.v⟩) where
 fits:=by show o+1<=n+1;omega
 get:=by
  rintro H cs d ⟨rfl,h1,h2⟩
  have hlt:o<d.l.length:=by omega
  have e:(d.l.drop o).take (Rep.n Raw)=[d.l.getD o undef]:=by
   have:d.l.getD o undef=d.l[o]:=by simp[hlt]
   rw[this]
   show(d.l.drop o).take 1=_
   rw[MV hlt];rfl
  refine⟨e,?_⟩
  have:d.l.getD o undef=d.l[o]:=by simp[hlt]
  show(d.l.getD o undef).oneCell'=true
  rw[this];exact h2 _ (MD hlt)
 set:=by
  rintro H cs us d x ⟨rfl,h1,h2⟩ ⟨rfl,h3⟩
  have hlt:o<d.l.length:=by omega
  have e:d.l.take o++[x.v]++d.l.drop (o+Rep.n Raw)=d.l.set o x.v:=by
   show d.l.take o++[x.v]++d.l.drop (o+1)=_
   rw[Oi,if_pos hlt];simp
  refine⟨e,by simp[e,h1],fun u hu=>?_⟩
  rw[e]at hu
  rcases MY hu with h | rfl
  ·exact h2 _ h
  ·exact h3
section
variable {W:View} {h:Heap} {o:Own} {k:Key}
theorem Owns.raw {n:Nat} {e:TypeId} {B:Nat} {l:List Value} (w:Owns W h o) (hk:o k=bx e B (RawN.mk (n:=n) l)) {i:Nat} (hi:i<=n):ao (vw h) ⟨B,i,none⟩=some (l.getD i undef):=by have:=((w.at hk).part (RawN.p hi)).raw;simpa using this
variable{B:Nat}
theorem Owns.dI{e:TypeId}{l:List Value}(w:Owns W h o)(hk:o k=bx e B (RawN.mk (n:=n) l)):Un.ev (vw h) (.al (n+1)) (.pointer (some ⟨B,0,none⟩))=some (.agg l.toArray):=by obtain⟨cs,hcs,he,h1,h2⟩:=w.atW hk;have he:cs=l:=he;subst he;have h1:cs.length=n+1:=h1;have:=gz hcs (n+1) 0 #[] (by omega);simp only[Un.ev,vP,L3];rw[this];simp[h1]
variable{P:Program}{ty:TypeId}{us:List (Nat × Value)}{y:Operand}{K:Value->Heap->Prop}
theorem Owns.mI{t ty2:TypeId}{z:Value}{x:Operand}{us2:Value->List (Nat × Value)}{l:List Value}(w:Owns W h o)(hk:o k=none)(hz:(P.info? t).map (·.zero)=some (some z))(hzc:z.cells.size=n+1)(hsz:cC P t=some (n+1))(hl:l.length=n+1)(hn:n+1<=1000)(hone : ∀c∈l,c.oneCell'=true)(hx : ∀p,asg (us2 p) x=p)(hy : ∀p,asg (us2 p) y = .agg l.toArray)(hK : ∀h':Heap,(vw h).le (vw h')->Owns W h' (o.upd k (bx t h.size (RawN.mk (n:=n) l)))->K (.pointer (some ⟨h.size,0,none⟩)) h'):
  @step po P (.alloc t) ty us h fun p h2=>@step po2 P (.store t x y) ty2 (us2 p) h2 fun _ h3=>K p h3:=
 jO (v:=.agg l.toArray) hz hzc hsz (by simpa[Value.cells]using hl) (by simpa[Value.cells]using hone) hx hy fun h' hle hs hb=>hK h' hle
  (w.add hk (iq (d:=RawN.mk (n:=n) l) hb (eP hl hone) hn) hle fun b hb=>by simp only[Value.ownBlock,LF]at hb;omega)
theorem Owns.kF{t:TypeId}{z:Value}(w:Owns W h o)(hk:o k=none)(hz:(P.info? t).map (·.zero)=some (some z))(hzc:z.cells.size=n+1)(hn:n+1<=1000)(hone : ∀c∈z.cells.toList,c.oneCell'=true)(hK : ∀h':Heap,(vw h).le (vw h')->Owns W h' (o.upd k (bx t h.size (RawN.mk (n:=n) z.cells.toList)))->K (.pointer (some ⟨h.size,0,none⟩)) h'):
  @step po P (.alloc t) ty us h K:=by
 refine eZ hz ?_;have q1:=bm h (.cells z.cells t);have b2:(h.push (.cells z.cells t))[h.size]? = some (.cells z.cells t (0,0)):=by simp
 generalize h.push (.cells z.cells t)=h2 at q1 b2;have hz2:(Value.agg z.cells).cells=z.cells:=rfl;refine hK h2 q1 (w.add hk (iq (v:=.agg z.cells) (d:=RawN.mk (n:=n) z.cells.toList) (by rw[hz2];exact b2) ?_ hn) q1 fun b hb=>by simp only[Value.ownBlock,LF]at hb;omega);have:=eP (n:=n) (H:=W) (l:=z.cells.toList) (by simpa using hzc) hone;simpa using this
theorem Owns.bu{i:Nat}{e t:TypeId}{l:List Value}{x:Operand}{u:Value}(w:Owns W h o)(hk:o k=bx e B (RawN.mk (n:=n) l))(hi:i<=n)(hsz:cC P t=some 1)(hx:asg us x = .pointer (some ⟨B,i,none⟩))(hy:asg us y=u)(hu:u.oneCell'=true)(hK : ∀h',Owns W h' (o.upd k (bx e B (RawN.mk (n:=n) (l.set i u))))->(∀X:View,X.le (vw h)->X B=none->X.le (vw h'))->K undef h'):@step po P (.store t x y) ty us h K:=
 w.xq (po:=po) (RawN.p hi) (d:=⟨u⟩) hk hsz hx hy (qx.2 ⟨rfl,hu⟩) hK
variable{α:Type}{bytes:Nat}
theorem Owns.dy[r:Rep α]{e:TypeId}{t:TypeId}{z:Value}(w:Owns W h o)(hk:o k=none)(hT:ff P t e (Rep.n α) bytes z)(hK : ∀v h',(vw h).le (vw h')->v.oneCell'=true->Owns W h' (o.upd k (it e v ([]:List α)))->(∀X:View,X.le (vw h)->Av X v)->K v h'):@step po P (.buildSlice t 0 #[]) ty us h K:=
 qT (α:=α) hT fun h' hle hs own=>hK _ h' hle rfl (w.add hk (own W) hle fun b hb=>by simp only[Value.ownBlock,LF]at hb;omega) fun X hX b hb=>by simp only[Value.ownBlock,LF]at hb;subst hb;exact View.dH hX (LG _)
end
abbrev forC (a i c:Nat) (ks ks2:List Nat) (ce:E) (body:LC):LC:=
 .loop (.seq (.seq (.reg false (.fin ks [(c,ce)] [])) (.cond (.tmp c) [c] .skip (.exit a)))
  (.seq body (.reg false (.fin ks2 [(i,.bin (.arith .add) (.tmp i) (.con (.int .i64 1)))] []))))
variable{P:Program}
theorem EJ{Q:Post}{ρ:Env}{h:Heap}{a i c:Nat}{ks ks2:List Nat}{ce:E}{body:LC}{σ:Type}(kp:List Nat)(vals:σ->Nat->List Value)(J:σ->Nat->Heap->Prop)(n:Nat)(s0:σ)(hok:pY kp ks ks2 c i=true)(hn:n<=9223372036854775806)(h0:aZ kp ρ=kp.zip (vals s0 0))(hj:J s0 0 h)(hi : ∀s k,look (kp.zip (vals s k)) i=some (.int .i64 k))(hb : ∀s k h,k<=n->J s k h->ev (look (kp.zip (vals s k))) (vw h) ce=some (.bool (decide (k<n))))(round : ∀s k h,k<n->J s k h->∀K:Env->Heap->Prop,(∀s' ρ' h',look ρ' i=some (.int .i64 k)->aZ kp (setE ρ' i (.int .i64 ((k:Int)+1)))=kp.zip (vals s' (k+1))->J s' (k+1) h'->K ρ' h')->body.wp P (gr K (dJ a Q)) (kp.zip (vals s k)) h)(done : ∀s h,J s n h->Q .normal (kp.zip (vals s n)) h):LC.wp P (forC a i c ks ks2 ce body) (dJ a Q) ρ h:=by
 simp only[pY,M8,LK,NI,bne_iff_ne,ML,beq_iff_eq,ne_eq]at hok;refine fN kp (fun m ρ h=>∃s k,k<=n/\ρ=kp.zip (vals s k)/\m=n-k/\J s k h) n ⟨s0,0,by omega,h0,by omega,hj⟩ ?_;rintro m ρ h ⟨s,k,hk,rfl,rfl,hJ⟩ K hK;have hkill:bM (kp.zip (vals s k)) ks=kp.zip (vals s k):=mj fun p hp=>(hok p.1 (kO hp)).1.1;have hne : ∀p∈kp.zip (vals s k),p.1≠c:=fun p hp=>(hok p.1 (kO hp)).1.2
 have hk2 : ∀v,bM (setE (kp.zip (vals s k)) c v) [c]=kp.zip (vals s k):=fun v=>lU hne;have hlk : ∀v,look (setE (kp.zip (vals s k)) c v) c=some v:=fun v=>by rw[ag,if_pos rfl]
 simp only[qY,kH,iA,fZ,js,kL,hb s k h hk hJ,L3,iT,kM,true_and,dk,hkill,bT,lW,jP,hlk,j7,hk2,og,oz,lN,mf,if_true];refine⟨fun hlt=>?_,fun hge=>?_⟩
 ·have hlt':k<n:=by omega
  rw[kV];refine round s k h hlt' hJ _ fun s' ρ' h' hl he hJ'=>?_;simp only[kH,iA,fZ,js,kL,kt,jP,hl,kM,true_and,L3,vH,L3,wI,iT,dk,bT,true_and];rw[bJ (by omega) (by omega)];refine hK (n-(k+1)) _ _ (by omega) ⟨s',k+1,by omega,?_,rfl,hJ'⟩;rw[<-he];refine lL fun t ht=>?_;rw[ag,ag,ah];split
  ·rfl
  rename_i hti;rcases(hok t ht).2 with e | e
  ·exact absurd e.symm hti
  rw[e];rfl
 have:k=n:=by omega
 subst this;exact done s h hJ
end
end Go.Lft
namespace Go.Lft
open Go
variable {po po2 po3:OP} {pp:PP}
section
variable {W:View} {h:Heap} {o:Own} {k:Key}
theorem Owns.nI {P:Program} {ty:TypeId} {us:List (Nat × Value)} {t ty2:TypeId} {α:Type} [Rep α] {n:Nat} {z u:Value} {d:α} {x y:Operand} {us2:Value->List (Nat × Value)} {K:Value->Heap->Prop} (w:Owns W h o) (hk:o k=none) (hr:Rd W u d) (hN:Rep.n α=n) (hz:(P.info? t).map (·.zero)=some (some z)) (hzc:z.cells.size=n) (hsz:cC P t=some n) (hn:n<=1000)
  (hx : ∀p,asg (us2 p) x=p) (hy : ∀p,asg (us2 p) y=u) (hK : ∀h':Heap,(vw h).le (vw h')->Owns W h' (o.upd k (bx t h.size d))->K (.pointer (some ⟨h.size,0,none⟩)) h') :
  @step po P (.alloc t) ty us h fun p h2=>@step po2 P (.store t x y) ty2 (us2 p) h2 fun _ h3=>K p h3:=by subst hN;obtain⟨c1,c2,c3⟩:=kY hr;exact jO (v:=u) hz hzc hsz (by simpa using c2) c3 hx hy fun h' hle hs hb=>hK h' hle (w.add hk (iq (d:=d) hb hr hn) hle fun b hb=>by simp only[Value.ownBlock,LF]at hb;omega)
end
theorem Gp {P:Program} {Q:Post} {ρ:Env} {h:Heap} {a i c:Nat} {ks ks2:List Nat} {ce:E} {body:LC} {σ:Type} (kp:List Nat) (vals:σ->Nat->List Value) (J:σ->Nat->Heap->Prop) (n:Nat) (d:Int) (s0:σ)
  (hok:pY kp ks ks2 c i=true) (hd:-9223372036854775808<=d) (hn:n+d<=9223372036854775806) (h0:aZ kp ρ=kp.zip (vals s0 0)) (hj:J s0 0 h)
  (hi : ∀s k,look (kp.zip (vals s k)) i=some (.int .i64 ((k:Int)+d)))
  (hb : ∀s k h,k<=n->J s k h->ev (look (kp.zip (vals s k))) (vw h) ce=some (.bool (decide (k<n))))
  (round : ∀s k h,k<n->J s k h->∀K:Env->Heap->Prop,(∀s' ρ' h',look ρ' i=some (.int .i64 ((k:Int)+d))->aZ kp (setE ρ' i (.int .i64 (((k:Int)+d)+1)))=kp.zip (vals s' (k+1))->J s' (k+1) h'->K ρ' h')->body.wp P (gr K (dJ a Q)) (kp.zip (vals s k)) h)
  (done : ∀s h,J s n h->Q .normal (kp.zip (vals s n)) h):LC.wp P (forC a i c ks ks2 ce body) (dJ a Q) ρ h:=by
 simp only[pY,M8,LK,NI,bne_iff_ne,ML,beq_iff_eq,ne_eq]at hok;refine fN kp (fun m ρ h=>∃s k,k<=n/\ρ=kp.zip (vals s k)/\m=n-k/\J s k h) n ⟨s0,0,by omega,h0,by omega,hj⟩ ?_;rintro m ρ h ⟨s,k,hk,rfl,rfl,hJ⟩ K hK;have hkill:bM (kp.zip (vals s k)) ks=kp.zip (vals s k):=mj fun p hp=>(hok p.1 (kO hp)).1.1;have hne : ∀p∈kp.zip (vals s k),p.1≠c:=fun p hp=>(hok p.1 (kO hp)).1.2
 have hk2 : ∀v,bM (setE (kp.zip (vals s k)) c v) [c]=kp.zip (vals s k):=fun v=>lU hne;have hlk : ∀v,look (setE (kp.zip (vals s k)) c v) c=some v:=fun v=>by rw[ag,if_pos rfl]
 simp only[qY,kH,iA,fZ,js,kL,hb s k h hk hJ,L3,iT,kM,true_and,dk,hkill,bT,lW,jP,hlk,j7,hk2,og,oz,lN,mf,if_true];refine⟨fun hlt=>?_,fun hge=>?_⟩
 ·have hlt':k<n:=by omega
  rw[kV];refine round s k h hlt' hJ _ fun s' ρ' h' hl he hJ'=>?_;simp only[kH,iA,fZ,js,kL,kt,jP,hl,kM,true_and,L3,vH,L3,wI,iT,dk,bT,true_and];rw[bJ (by omega) (by omega)];refine hK (n-(k+1)) _ _ (by omega) ⟨s',k+1,by omega,?_,rfl,hJ'⟩;rw[<-he];refine lL fun t ht=>?_;rw[ag,ag,ah];split
  ·rfl
  rename_i hti;rcases(hok t ht).2 with e | e
  ·exact absurd e.symm hti
  rw[e];rfl
 have:k=n:=by omega
 subst this;exact done s h hJ
section
variable {po:OP}
theorem Owns.ru {P:Program} {W:View} {h:Heap} {o:Own} {ty:TypeId} {us:List (Nat × Value)} {α:Type} [Rep α] {t:TypeId} {x:Operand} {v:Value} {d:α} {K:Value->Heap->Prop} (w:Owns W h o) (hx:asg us x=v) (hv:Rd W v d)
  (hk : ∀B h' W',W.le W'->Owns W' h' o->At W' ⟨B,0,none⟩ d->(vw h).le (vw h')->K (.pointer (some ⟨B,0,none⟩)) h'):step P (.box t x) ty us h K:=by refine gm hx (hv.mono w.wle) fun h1 hp hle hs _=>?_;exact hk _ _ _ (aH w.wle) (w.ext hle) (oW (t:=t) (fz:=(0,0)) (by rw[cM (LG _),hp];simp) (hv.mono (aH w.wle))) hle
theorem Owns.uo {P:Program} {W:View} {h:Heap} {o:Own} {k:Key} {ty:TypeId} {us:List (Nat × Value)} {n:Nat} {l:List Value} {t:TypeId} {x:Operand} {K:Value->Heap->Prop} (w:Owns W h o) (hk:o k=none) (hx:asg us x = .agg l.toArray) (hl:l.length=n+1) (hn:n+1<=1000) (hc : ∀c∈l,c.oneCell'=true)
  (hK : ∀B h',(vw h).le (vw h')->Owns W h' (o.upd k (bx t B (RawN.mk (n:=n) l)))->K (.pointer (some ⟨B,0,none⟩)) h'):step P (.box t x) ty us h K:=by
 refine j6 hx ?_;have hb1:(h.push (.cells (Value.agg l.toArray).cells t))[h.size]? = some (.cells (Value.agg l.toArray).cells t (0,0)):=by simp
 have hle1:=bm h (.cells (Value.agg l.toArray).cells t);generalize h.push (.cells (Value.agg l.toArray).cells t)=h1 at hb1 hle1;exact hK _ _ hle1 (w.add (k:=k) hk (iq (W:=W) (d:=RawN.mk (n:=n) l) hb1 (eP hl hc) hn) hle1 (fun b hb=>by simp only[Value.ownBlock,LF]at hb;omega))
end
end Go.Lft
namespace Go.Lft
open Go
variable {po:OP}
theorem Ag {P:Program} {ty t rt e:TypeId} {us:List (Nat × Value)} {h:Heap} {K:Value->Heap->Prop} {x y:Operand} {a:Option Addr} {n c:Nat} (hu:P.underlying t=some (.slice e)) (hx:asg us x = .slice a n c) (hy:asg us y = .slice none 0 0) (hk:K (.bool a.isNone) h):step P (.binOp .eql t x y rt) ty us h K:=by
 refine dR (dt fun w hw=>⟨_,w,?_,Same.refl _,by rw[hw];exact hk⟩);simp only[bL,execOp,hx,hy];have e1:(Op.equal t (.slice a n c) (.slice none 0 0)).run P w = .ok a.isNone w:=by show(Op.equalIn (9999+1) t _ _).run P w=_;rw[Op.equalIn];cases a<;>simp[run_underlying hu]
 simp[eqGuard,binOp,e1]
end Go.Lft
namespace Go.Proofs.YtbkdlhkoiagbbaaGreat
open Go Go.Lft
abbrev Gr:=List (List Int)
def eH (g:Gr) (a b:Int):Bool:=decide (0<=a/\a<g.length/\0<=b/\b<g.length)&&(nth g a.toNat).contains b
def dC (g:Gr) (a:Int):List Int:=sift (fun b=>eH g a b) (fun b=>(b:Int)) g.length
def fT (g:Gr):Gr:=rows (fun b=>sift (fun a=>eH g a b) (fun a=>(a:Int)) g.length) g.length
def uz (gone:Int) (l:List Int) (i:Nat) (out:List Bool):List Bool:=out.set (nth l i).toNat (nth out (nth l i).toNat||decide (nth l i≠gone))
def outBlock (g:Gr) (gone:Int) (a:Nat) (out:List Bool):List Bool:=if nth out a then up (uz gone (dC g a)) (dC g a).length out else out
def na (g:Gr) (gone:Int) (out:List Bool):List Bool:=up (outBlock g gone) g.length out
def mT (g:Gr) (gone:Int):List Bool:=
 if g.length=0\/gone=0 then List.replicate g.length false else up (fun _=>na g gone) g.length ((List.replicate g.length false).set 0 true)
theorem yq{β γ:Type}(m:β->γ){f:Nat->β->β}(hf : ∀k x,m (f k x)=m x)(n:Nat)(x:β):m (up f n x)=m x:=by
 induction n with
 | zero=>rfl
 | succ n ih=>rw[up,hf,ih]
theorem Ex{g:Gr}{a:Int}{i:Nat}(hi:i<(dC g a).length):0<=nth (dC g a) i/\nth (dC g a) i<g.length:=by have:=bc hi;rw[dC,kE]at this;simp only[MR,NP,M7]at this;obtain⟨b,⟨h1,_⟩,h2⟩:=this;rw[dC,kE]at *;omega
def domC (g:Gr) (a b:Nat):Bool:=nth (mT g (-1)) a&&nth (mT g (-1)) b&&(decide ((a:Int)=(b:Int))||!nth (mT g a) b)
def ou (l:List Int) (a:Int):Nat->Int->Bool
 | 0,_=>false
 | k+1,b=>if b=a then true else if b<0\/(l.length:Int)<=b then false else ou l a k (nth l b.toNat)
def eU (l:List Int) (a b:Int):Bool:=decide (0<=a/\a<l.length/\0<=b/\b<l.length)&&ou l a (l.length+1) b
def FB (p:Nat->Bool) (b:Nat) (s:Bool):Bool:=s||p b
def Cp (p:Nat->Bool) (b:Nat) (s:Bool):Bool:=s&&p b
def yd (p:Nat->Bool) (n:Nat):Bool:=up (FB p) n false
def tH (p:Nat->Bool) (n:Nat):Bool:=up (Cp p) n true
theorem Bu{p:Nat->Bool}{n:Nat}:yd p (n+1)=(yd p n||p n):=rfl
theorem vO{p:Nat->Bool}{n:Nat}:tH p (n+1)=(tH p n&&p n):=rfl
def tP (g:Gr) (p:Gr) (a i:Nat):Bool:=decide ((1:Int)<(dC g a).length)&&decide ((1:Int)<(nth p (nth (dC g a) i).toNat).length)
def lB (g:Gr) (p:Gr) (a:Nat):List (Int × Int):=sift (tP g p a) (fun i=>((a:Int),nth (dC g a) i)) (dC g a).length
def jF (g:Gr):List (Int × Int):=up (fun a l=>l++lB g (fT g) a) g.length []
theorem uV{g:Gr}:(fT g).length=g.length:=by simp[fT]
theorem rY{g:Gr}{a:Int}:(dC g a).length<=g.length:=ij _
def jM (nx:Int->List Int):Nat->Int->List Bool × List Int->List Bool × List Int
 | 0,_,s=>s
 | n+1,a,s=>let r:=up (fun i s=>if nth s.1 (nth (nx a) i).toNat then s else jM nx n (nth (nx a) i) s) (nx a).length (s.1.set a.toNat true,s.2);(r.1,r.2++[a])
def cL (nx:Int->List Int) (n:Nat) (a:Int) (i:Nat) (s:List Bool × List Int):List Bool × List Int:=if nth s.1 (nth (nx a) i).toNat then s else jM nx n (nth (nx a) i) s
theorem ko{nx:Int->List Int}{n:Nat}{a:Int}{s:List Bool × List Int}:
  jM nx (n+1) a s=((up (cL nx n a) (nx a).length (s.1.set a.toNat true,s.2)).1,(up (cL nx n a) (nx a).length (s.1.set a.toNat true,s.2)).2++[a]):=rfl
def dv (t:List Bool):Nat:=t.count false
theorem jD{t:List Bool}{i:Nat}(hi:i<t.length)(hf:nth t i=false):dv (t.set i true)+1=dv t:=by rw[ak hi]at hf;unfold dv;rw[List.count_set hi];have hp:0<t.count false:=List.count_pos_iff.2 (hf▸MD hi);simp[hf];omega
theorem yj{t:List Bool}{i:Nat}:dv (t.set i true)<=dv t:=by
 rcases LI i t.length with hi | hi
 ·unfold dv;rw[List.count_set hi];simp
 rw[List.set_eq_of_length_le hi];exact LG _
theorem sf{β:Type}(I:β->Prop){f:Nat->β->β}(hf : ∀k x,I x->I (f k x))(n:Nat)(x:β)(hx:I x):I (up f n x):=by
 induction n with
 | zero=>exact hx
 | succ n ih=>rw[up];exact hf _ _ ih
theorem oA {nx:Int->List Int} {m c:Nat} : ∀(n:Nat) (a:Int) (s:List Bool × List Int),s.1.length=m/\dv s.1<=c->(jM nx n a s).1.length=m/\dv (jM nx n a s).1<=c
 | 0,_,_,h=>h
 | n+1,a,s,h=>by
  rw[ko];refine sf (fun s:List Bool × List Int=>s.1.length=m/\dv s.1<=c) (fun k x hx=>?_) _ _ ⟨by simpa using h.1,L9 yj h.2⟩;unfold cL;split
  ·exact hx
  exact oA n _ x hx
def lj (nx:Int->List Int) (n:Nat):List Int:=if n=0 then[] else(jM nx n 0 (List.replicate n false,[])).2.reverse
theorem lF{α:Type}[Rep α]{W:View}{h:Heap}{e:TypeId}{v:Value}{l:List α}(o:OwnT W h e v l):v.cells = #[v]/\v.oneCell'=true:=by have:=o.len (K:=nothing);cases v<;>first | exact⟨rfl,rfl⟩ | (simp[Un.ev,vL]at this)
end Go.Proofs.YtbkdlhkoiagbbaaGreat
namespace Go.Proofs.YtbkdlhkoiagbbaaGreat
open Go Go.Lft
section
set_option maxRecDepth 100000
def q:List LC->LC|[]=>.skip|[a]=>a|a::b::l=>.seq a (q (b::l))
def k(K:List Nat)(S:List (Nat×E)):LC:=.reg false (.fin K S [])
def f(n c i:Nat)(K K2:List Nat)(e:E)(b:LC):LC:=.seq (.seq (.reg false (.fin K [(c,e)] [])) (.cond (.tmp c) [c] .skip (.exit n))) (.seq b (.reg false (.fin K2 [(i,.bin (.arith .add) (.tmp i) (.con (.int .i64 1)))] [])))
def u(n:Nat)(x y:LC):LC:=.cond (.tmp n) [n] x y
def v(n:Nat)(x:LC):LC:=.block n (.loop x)
def l(K:List Nat)(S A:List (Nat×E))(o:Op)(y d:Nat)(r:Reg):Reg:=.loud K S A none [] false o y (some d) true r
def s(K:List Nat)(S A:List (Nat×E))(o:Op)(r:Reg):Reg:=.loud K S A none [] false o 0 none false r
def p(A:List (Nat×E))(o:Op)(y d:Nat)(r:Reg):Reg:=.loud [] [] A none [] false o y (some d) true r
def z:Reg:=.fin [] [] []
def w:List Nat->List (Nat×E)|[]=>[]|a::l=>(a,.tmp a)::w l
def t(n:Nat):E:=.tmp n
def c(n:Int):E:=.con (.int .i64 n)
def d(x:E):E:=.un .load x
def e(n:Nat)(x:E):E:=.un (.fld n) x
def g(n:Nat)(x:E):E:=.un .load (.un (.fld n) x)
def i(n:Nat)(x y:E):E:=.bin (.idx n) x y
def h(x:E):E:=.un .len x
def j(o:BinOp)(x y:E):E:=.bin (.cmp o) x y
def o(x y:E):E:=.bin (.arith .add) x y
def a(n:Nat):Operand:=.tmp n
def x(n:Nat)(A:List Nat)(T:List Nat):Op:=.call ⟨.value (.func n),(A.map .tmp).toArray,T.toArray⟩
theorem sh:(∀a,q [a]=a)/\(∀a b l,q (a::b::l)=.seq a (q (b::l)))/\(∀K S,k K S=.reg false (.fin K S []))/\(∀n c i K L e b,f n c i K L e b=.seq (.seq (.reg false (.fin K [(c,e)] [])) (.cond (.tmp c) [c] .skip (.exit n))) (.seq b (.reg false (.fin L [(i,.bin (.arith .add) (.tmp i) (.con (.int .i64 1)))] []))))/\(∀n x y,u n x y=.cond (.tmp n) [n] x y)/\(∀n x,v n x=.block n (.loop x))/\(∀K S A o y d r,l K S A o y d r=.loud K S A none [] false o y (some d) true r)/\(∀K S A o r,s K S A o r=.loud K S A none [] false o 0 none false r)/\(∀A o y d r,p A o y d r=.loud [] [] A none [] false o y (some d) true r)/\(z=.fin [] [] [])/\(w []=[])/\(∀a l,w (a::l)=(a,.tmp a)::w l)/\(∀n,t n=.tmp n)/\(∀n,c n=.con (.int .i64 n))/\(∀x,d x=.un .load x)/\(∀n x,e n x=.un (.fld n) x)/\(∀n x,g n x=.un .load (.un (.fld n) x))/\(∀n x y,i n x y=.bin (.idx n) x y)/\(∀x,h x=.un .len x)/\(∀o x y,j o x y=.bin (.cmp o) x y)/\(∀m n,o m n=.bin (.arith .add) m n)/\(∀n,a n=.tmp n)/\(∀n A T,x n A T=.call ⟨.value (.func n),(A.map .tmp).toArray,T.toArray⟩)/\(∀(p:Nat->Operand) n l,List.map p (n::l)=p n::l.map p)/\(∀p:Nat->Operand,List.map p []=[]):=⟨fun _=>rfl,fun _ _ _=>rfl,fun _ _=>rfl,fun _ _ _ _ _ _ _=>rfl,fun _ _ _=>rfl,fun _ _=>rfl,fun _ _ _ _ _ _ _=>rfl,fun _ _ _ _ _=>rfl,fun _ _ _ _ _=>rfl,rfl,rfl,fun _ _=>rfl,fun _=>rfl,fun _=>rfl,fun _=>rfl,fun _ _=>rfl,fun _ _=>rfl,fun _ _ _=>rfl,fun _=>rfl,fun _ _ _=>rfl,fun _ _=>rfl,fun _=>rfl,fun _ _ _=>rfl,fun _ _ _=>rfl,fun _=>rfl⟩
set_option maxRecDepth 100000
abbrev N.slices_Sort_int:Nat:=83
abbrev N.slices_Compact_int:Nat:=84
abbrev N.slices_Reverse_int:Nat:=138
abbrev N.dE:Nat:=3
def L.dE:LFn:=by apply(fun{b:LFn}(_:b=⟨[t 4],q [.reg false (p (w [1]) (.box 24 (a 1)) 0 3 (.fin [4] [(4,.con (.bool false))] [])),.reg false (p [] (x 7 [] []) 4 8 (.fin [5] [(5,t 8)] [])),.reg false (l [9] [] [(9,t 0)] (x 9 [9] [22]) 22 10 (p (w [10]) (x 8 [10] [22]) 28 11 (p [] (.alloc 28) 0 6 (s [] [] (w [6,11]) (.store 28 (a 6) (a 11)) z)))),.reg false (l [12,13,14] [] [(12,.un (.al 2) (t 6)),(14,.un (.al 3) (.bin (.aidx 2 3) (t 3) (c 0)))] (x 10 [12,14] [28,23]) 28 15 (p [] (.alloc 28) 0 7 (s [] [] (w [7,15]) (.store 28 (a 7) (a 15)) z))),.reg false (.loud [16,17,18] [(17,t 5)] [(18,.gd (t 5) true (.un (.al 2) (t 6)))] (some (t 5,true)) [] false (x 11 [18] [28]) 4 (some 19) true (.loud [20,21,22] [(21,.ite (t 17) (t 19) (.con (.bool false)))] [(22,.gd (.ite (t 17) (t 19) (.con (.bool false))) true (.un (.al 2) (t 7)))] (some (.ite (t 17) (t 19) (.con (.bool false)),true)) [] false (x 11 [22] [28]) 4 (some 23) true (.loud [24,25,26,27,28] [(25,.ite (t 21) (t 23) (.con (.bool false)))] [(26,.gd (.ite (t 21) (t 23) (.con (.bool false))) true (.un (.al 2) (t 7))),(28,.gd (.ite (t 21) (t 23) (.con (.bool false))) true (.un (.al 3) (.bin (.aidx 2 3) (t 3) (c 1))))] (some (.ite (t 21) (t 23) (.con (.bool false)),true)) [] false (x 10 [26,28] [28,23]) 28 (some 29) true (.loud [] [] (w [29]) (some (t 25,true)) [] false (x 11 [29] [28]) 4 (some 30) true (.loud [31,32] [(32,.ite (t 25) (t 30) (.con (.bool false)))] [] (some (.ite (t 25) (t 30) (.con (.bool false)),true)) [] false (.build 28 #[]) 28 (some 33) true (.loud [] [] (w [33]) (some (t 32,true)) [] false (x 11 [33] [28]) 4 (some 34) true (.fin [35,4] [(4,.ite (t 32) (t 34) (.con (.bool false)))] []))))))),.ret]⟩)=>b);simp only[sh];rfl
theorem E.dE:aX Tryz.prog Tryz.f3=some L.dE:=by kernel_rfl
theorem F.dE:Tryz.prog.funcs[N.dE]? = some Tryz.f3:=Tryz.func3
abbrev N.gu:Nat:=7
def L.gu:LFn:=by apply(fun{b:LFn}(_:b=⟨[t 0],q [k [0] [(0,.con (.bool false))],.reg false (p [] (x 23 [] []) 28 5 (p (w [5]) (x 12 [5] [28]) 35 6 (l [4,7,8] [(7,.un (.ext 0) (t 6)),(8,.un (.ext 1) (t 6))] [] (.alloc 28) 0 1 (s [] [] (w [1,7]) (.store 28 (a 1) (a 7)) (.fin [2] [(2,t 8)] []))))),q [k [9,10,11,12,13,14,15,16,17,18,19,20,21,22,23,24,25,26,27,28,29,30,31,32,33,34,35,36,37,38,39,40,41,42,43,44,45,46,47] [(47,.ite (.ite (.ite (.ite (j .neq (t 2) (c 0)) (.con (.bool true)) (j .neq (h (g 1 (t 1))) (c 4))) (.con (.bool true)) (j .neq (h (g 2 (e 2 (i 6 (g 1 (t 1)) (c 0))))) (c 2))) (.con (.bool true)) (j .neq (h (g 0 (i 6 (g 1 (t 1)) (c 2)))) (c 1))) (.con (.bool true)) (j .neq (h (g 1 (i 2 (g 0 (i 6 (g 1 (t 1)) (c 2))) (c 0)))) (c 2)))],u 47 (q [k [0] [(0,.con (.bool false))],.ret]) .skip],k [48,49,50,51,52,53,54,55,3] [(3,g 1 (i 2 (g 0 (i 6 (g 1 (t 1)) (c 2))) (c 0)))],k [56,57,58,59,60,61,62,63,64,65,66,67,68,69,70,71,72,73,74,75,76,77,78,79,80,81,82,83,84,85,86,87,0] [(0,.ite (.ite (.ite (j .eql (d (i 1 (g 2 (e 2 (i 6 (g 1 (t 1)) (c 0)))) (c 1))) (c 3)) (j .eql (g 0 (e 2 (i 6 (g 1 (t 1)) (c 3)))) (c 1)) (.con (.bool false))) (j .eql (g 0 (i 2 (t 3) (c 0))) (c 1)) (.con (.bool false))) (j .eql (g 0 (i 2 (t 3) (c 1))) (c 3)) (.con (.bool false)))],.ret]⟩)=>b);simp only[sh];rfl
theorem E.gu:aX Tryz.prog Tryz.f7=some L.gu:=by kernel_rfl
theorem F.gu:Tryz.prog.funcs[N.gu]? = some Tryz.f7:=Tryz.func7
abbrev N.ax:Nat:=8
def L.ax.l1:LC:=by apply(fun{b:LC}(_:b=f 0 62 6 [60,61,62] [63,64,6] (j .lss (t 6) (t 4)) (.block 1 (.reg true (.loud [65,66,67,68,69,70,71,72,73,74,75,76,77] [] [(77,e 2 (e 2 (i 6 (g 1 (e 2 (.un .nilPtr (t 3)))) (t 6)))),(74,d (i 1 (t 5) (t 6)))] none [] true (.store 22 (a 77) (a 74)) 0 none false z))))=>b);simp only[sh];rfl
def L.ax.l3:LC:=by apply(fun{b:LC}(_:b=f 4 110 10 [105,106,107,108,109,110] [111,112,10] (j .lss (t 10) (d (i 1 (t 7) (t 8)))) (.block 5 (.reg true (l [113,114,115,116,117,118,119,120,121,122,123,124,125,126,127,128] [(117,g 1 (e 2 (.un .nilPtr (t 3)))),(118,t 8),(127,g 0 (i 6 (g 1 (e 2 (.un .nilPtr (t 3)))) (t 8)))] [(128,t 3)] (x 27 [128] [66]) 3 129 (p (w [129]) (.build 63 #[(0,a 129)]) 63 130 (p (w [130]) (.buildSlice 43 1 #[(0,a 130)]) 43 131 (p (w [127,131]) (.call ⟨.builtin .append,#[a 127,a 131],#[43,43]⟩) 43 132 (.loud [133,134] [] [(134,e 0 (i 6 (t 117) (t 118))),(132,t 132)] none [] true (.store 43 (a 134) (a 132)) 0 none false z))))))))=>b);simp only[sh];rfl
def L.ax.l2:LC:=by apply(fun{b:LC}(_:b=f 2 82 8 [80,81,82] [83,84,8] (j .lss (t 8) (t 4)) (.block 3 (q [.reg false (l [85,86,87,88,89] [] [(88,.un (.al 2) (e 2 (.un .nilPtr (t 3)))),(89,t 8)] (x 26 [88,89] [28,3]) 22 90 (.fin [9] [(9,t 90)] [])),q [k [91,92,93] [(93,j .gtr (h (t 9)) (c 1))],u 93 (.reg false (l [94,95,96] [(94,t 7),(95,t 8)] [(96,t 3)] (.call ⟨.value (.func 24),#[a 96,.const (.int .i64 4)],#[66,3]⟩) 3 97 (s [98] [] [(98,i 1 (t 94) (t 95)),(97,t 97)] (.store 3 (a 98) (a 97)) z))) (q [.reg false (l [99] [] [(99,t 3)] (.call ⟨.value (.func 24),#[a 99,.const (.int .i64 6)],#[66,3]⟩) 3 100 (.fin [101] [(101,j .eql (t 100) (c 0))] [])),u 101 (.reg false (s [102,103,104] [] [(104,i 1 (t 7) (t 8))] (.store 3 (a 104) (.const (.int .i64 1))) z)) .skip])],k [10] [(10,c 0)],v 4 L.ax.l3])))=>b);simp only[sh];rfl
def L.ax.l6:LC:=by apply(fun{b:LC}(_:b=f 10 155 16 [153,154,155] [156,157,16] (j .lss (t 16) (t 4)) (.block 11 (.reg false (l [158,159,160,161,162,163] [(158,t 15)] [(162,.un (.al 2) (e 2 (.un .nilPtr (t 3)))),(163,t 16)] (x 28 [162,163] [28,3]) 73 164 (p (w [164]) (.buildSlice 74 1 #[(0,a 164)]) 74 165 (p (w [158,165]) (.call ⟨.builtin .append,#[a 158,a 165],#[74,74]⟩) 74 166 (.fin [15] [(15,t 166)] [])))))))=>b);simp only[sh];rfl
def L.ax.l7:LC:=by apply(fun{b:LC}(_:b=f 12 169 17 [167,168,169] [170,171,17] (j .lss (t 17) (t 4)) (.block 13 (.reg false (.fin [172,173,174,175,176,177,178,179,180,181,182,183,184,185,186,187,188,189,190,191,192,14] [(14,.ite (t 14) (.ite (.ite (j .eql (t 17) (t 13)) (.con (.bool true)) (d (i 1 (t 11) (t 17)))) (.con (.bool true)) (d (i 1 (d (i 1 (t 15) (t 17))) (t 13)))) (.con (.bool false)))] [.gd (.gd (t 14) true (.ite (j .eql (t 17) (t 13)) (.con (.bool true)) (d (i 1 (t 11) (t 17))))) false (d (i 1 (d (i 1 (t 15) (t 17))) (t 13))),.gd (.gd (t 14) true (j .eql (t 17) (t 13))) false (d (i 1 (t 11) (t 17)))]))))=>b);simp only[sh];rfl
def L.ax.l8:LC:=by apply(fun{b:LC}(_:b=f 14 208 18 [202,203,204,205,206,207,208] [209,210,18] (j .lss (t 18) (g 0 (e 2 (.un .nilPtr (t 3))))) (.block 15 (.reg false (l [211,212,213,214,215,216] [(211,t 3),(215,g 5 (.un .nilPtr (t 3)))] [(216,t 18)] (.buildSlice 22 1 #[(0,a 216)]) 22 217 (p (w [215,217]) (.call ⟨.builtin .append,#[a 215,a 217],#[22,22]⟩) 22 218 (s [219,220] [] [(220,e 5 (.un .nilPtr (t 211))),(218,t 218)] (.store 22 (a 220) (a 218)) z))))))=>b);simp only[sh];rfl
def L.ax.l10:LC:=by apply(fun{b:LC}(_:b=f 18 256 20 [245,246,247,248,249,250,251,252,253,254,255,256] [257,258,20] (j .lss (t 20) (h (g 0 (i 6 (g 1 (e 2 (.un .nilPtr (t 3)))) (t 19))))) (.block 19 (.reg true (l [259,260,261,262,263,264,265,266,267,268,269,270,271,272,273,274,275,276] [(259,t 3),(263,g 5 (.un .nilPtr (t 3)))] [(276,g 0 (i 2 (g 0 (i 6 (g 1 (e 2 (.un .nilPtr (t 3)))) (t 19))) (t 20)))] (.buildSlice 22 1 #[(0,a 276)]) 22 277 (.loud [] [] (w [263,277]) none [] true (.call ⟨.builtin .append,#[a 263,a 277],#[22,22]⟩) 22 (some 278) true (s [279,280] [] [(280,e 5 (.un .nilPtr (t 259))),(278,t 278)] (.store 22 (a 280) (a 278)) z))))))=>b);simp only[sh];rfl
def L.ax.l11:LC:=by apply(fun{b:LC}(_:b=f 20 292 21 [281,282,283,284,285,286,287,288,289,290,291,292] [293,294,21] (j .lss (t 21) (h (g 1 (i 6 (g 1 (e 2 (.un .nilPtr (t 3)))) (t 19))))) (.block 21 (q [.reg false (l [295,296,297,298,299,300,301,302,303,304,305,306] [] [(306,.un (.al 5) (i 5 (g 1 (i 6 (g 1 (e 2 (.un .nilPtr (t 3)))) (t 19))) (t 21)))] (x 29 [306] [78]) 22 307 (.fin [22] [(22,t 307)] [])),.reg false (l [308,309,310,311,312,313] [(308,t 3)] [(312,g 5 (.un .nilPtr (t 3))),(313,t 22)] (.call ⟨.builtin .append,#[a 312,a 313],#[22,22]⟩) 22 314 (s [315,316] [] [(316,e 5 (.un .nilPtr (t 308))),(314,t 314)] (.store 22 (a 316) (a 314)) z))])))=>b);simp only[sh];rfl
def L.ax.l9:LC:=by apply(fun{b:LC}(_:b=f 16 223 19 [221,222,223] [224,225,19] (j .lss (t 19) (t 4)) (.block 17 (q [q [.reg false (.fin [226,227,228,229,230,231,232,233,234,235,236,237,238,239,240,241,242,243,244] [(244,.ite (j .neq (t 19) (t 13)) (.ite (.un .not (d (i 1 (t 11) (t 19)))) (.con (.bool true)) (d (i 1 (d (i 1 (t 15) (t 19))) (t 13)))) (.con (.bool false)))] [.gd (.gd (j .neq (t 19) (t 13)) true (.un .not (d (i 1 (t 11) (t 19))))) false (d (i 1 (d (i 1 (t 15) (t 19))) (t 13)))]),u 244 (.exit 17) .skip],q [k [20] [(20,c 0)],v 18 L.ax.l10],k [21] [(21,c 0)],v 20 L.ax.l11])))=>b);simp only[sh];rfl
def L.ax.l12:LC:=by apply(fun{b:LC}(_:b=f 22 321 24 [319,320,321] [322,323,24] (j .lss (t 24) (t 23)) (.block 23 (.reg false (.loud [324,325] [] [(324,t 3),(325,t 13)] none [] false (x 30 [324,325] [66,3]) 0 (some 326) false z))))=>b);simp only[sh];rfl
def L.ax.l5:LC:=by apply(fun{b:LC}(_:b=f 8 144 13 [142,143,144] [145,146,13] (j .lss (t 13) (t 4)) (.block 9 (q [k [147,148,149,150,151,14] [(14,.un .not (d (i 1 (t 11) (t 13))))],.reg false (p [] (.buildSlice 74 0 #[]) 74 152 (.fin [15] [(15,t 152)] [])),q [k [16] [(16,c 0)],v 10 L.ax.l6],q [k [17] [(17,c 0)],v 12 L.ax.l7],q [k [193,194] [(194,.un .not (t 14))],u 194 (.exit 9) .skip],.reg false (s [195,196,197] [] [(197,i 1 (t 11) (t 13))] (.store 4 (a 197) (.const (.bool true))) z),.reg false (l [198] [(198,t 3)] [] (.buildSlice 22 0 #[]) 22 199 (s [200,201] [] [(201,e 5 (.un .nilPtr (t 198))),(199,t 199)] (.store 22 (a 201) (a 199)) z)),q [k [18] [(18,c 0)],v 14 L.ax.l8],q [k [19] [(19,c 0)],v 16 L.ax.l9],.reg false (l [317] [] [(317,t 3)] (.call ⟨.value (.func 24),#[a 317,.const (.int .i64 7)],#[66,3]⟩) 3 318 (.fin [23] [(23,t 318)] [])),q [k [24] [(24,c 0)],v 22 L.ax.l12],.reg false (.loud [327,328,329,330,331,332] [] [(327,t 3),(328,t 13),(332,d (i 1 (t 5) (t 13)))] none [] false (x 31 [327,328,332] [66,3,22]) 0 (some 333) false z)])))=>b);simp only[sh];rfl
def L.ax.l4:LC:=by apply(fun{b:LC}(_:b=f 6 139 12 [137,138,139] [140,141,12] (j .lss (t 12) (t 4)) (.block 7 (q [k [13] [(13,c 0)],v 8 L.ax.l5])))=>b);simp only[sh];rfl
def L.ax.l15:LC:=by apply(fun{b:LC}(_:b=f 28 357 29 [354,355,356,357] [358,359,29] (j .lss (t 29) (h (t 26))) (.block 29 (q [.reg true (.loud [360,361,362,363,364,365,366,367] [] [(363,.un (.al 2) (e 2 (.un .nilPtr (t 3)))),(367,d (i 1 (t 26) (t 29)))] none [] true (x 32 [363,367] [28,3]) 22 (some 368) true (.fin [30] [(30,t 368)] [])),q [k [369,370,371] [(371,j .eql (h (t 30)) (c 0))],u 371 (.reg true (l [372,373,374,375,376,377,378] [(372,t 30),(373,t 3),(377,d (i 1 (t 26) (t 29)))] [(378,t 3)] (x 34 [378] [66]) 21 379 (.loud [] [] (w [373,377,379]) none [] true (x 33 [373,377,379] [66,3,21]) 3 (some 380) true (p (w [380]) (.buildSlice 22 1 #[(0,a 380)]) 22 381 (p (w [372,381]) (.call ⟨.builtin .append,#[a 372,a 381],#[22,22]⟩) 22 382 (.fin [30] [(30,t 382)] [])))))) .skip],.reg true (l [383,384,385,386,387,388,389,390,391] [(383,t 28),(387,d (i 1 (t 26) (t 29))),(388,t 30)] [(389,t 3),(391,h (t 30))] (x 24 [389,391] [66,3]) 3 392 (.loud [393,394] [] [(387,t 387),(394,d (i 1 (t 388) (t 392)))] none [] true (.build 65 #[(0,a 387),(1,a 394)]) 65 (some 395) true (p (w [395]) (.buildSlice 61 1 #[(0,a 395)]) 61 396 (p (w [383,396]) (.call ⟨.builtin .append,#[a 383,a 396],#[61,61]⟩) 61 397 (.fin [28] [(28,t 397)] [])))))])))=>b);simp only[sh];rfl
def L.ax.l14:LC:=by apply(fun{b:LC}(_:b=f 26 350 27 [345,346,347,348,349,350] [351,352,27] (j .lss (t 27) (d (i 1 (t 7) (t 25)))) (.block 27 (q [.reg false (p [] (.buildSlice 61 0 #[]) 61 353 (.fin [28] [(28,t 353)] [])),q [k [29] [(29,c 0)],v 28 L.ax.l15],.reg false (s [398,399,400,401,402,403,404,405,406,407,408,409,410] [] [(410,e 1 (i 2 (g 0 (i 6 (g 1 (e 2 (.un .nilPtr (t 3)))) (t 25))) (t 27))),(408,t 28)] (.store 61 (a 410) (a 408)) z)])))=>b);simp only[sh];rfl
def L.ax.l13:LC:=by apply(fun{b:LC}(_:b=f 24 336 25 [334,335,336] [337,338,25] (j .lss (t 25) (t 4)) (.block 25 (q [.reg false (l [339,340,341,342,343] [] [(342,.un (.al 2) (e 2 (.un .nilPtr (t 3)))),(343,t 25)] (x 26 [342,343] [28,3]) 22 344 (.fin [26] [(26,t 344)] [])),k [27] [(27,c 0)],v 26 L.ax.l14])))=>b);simp only[sh];rfl
def L.ax:LFn:=by apply(fun{b:LFn}(_:b=⟨[.un (.al 2) (t 2)],q [.reg false (p [] (.alloc 28) 0 2 z),.reg false (l [31] [] [(31,t 0)] (.build 68 #[(0,a 31)]) 68 32 (p (w [32]) (.box 68 (a 32)) 66 33 (.fin [3] [(3,t 33)] []))),.reg false (l [34,35] [(34,t 3)] [(35,t 3)] (.call ⟨.value (.func 24),#[a 35,.const (.int .i64 5)],#[66,3]⟩) 3 36 (s [37,38,39] [] [(39,e 0 (e 2 (.un .nilPtr (t 34)))),(36,t 36)] (.store 3 (a 39) (a 36)) z)),.reg false (s [40,41,42,43,44,45,46,47] [] [(47,e 4 (.un .nilPtr (t 3))),(45,g 0 (e 2 (.un .nilPtr (t 3))))] (.store 3 (a 47) (a 45)) z),.reg false (l [48] [] [(48,t 3)] (.call ⟨.value (.func 24),#[a 48,.const (.int .i64 9)],#[66,3]⟩) 3 49 (.fin [50,4] [(4,o (c 1) (t 49))] [])),.reg false (l [51,52] [] [(51,t 3),(52,t 4)] (x 25 [51,52] [66,3]) 40 53 (.fin [5] [(5,t 53)] [])),.reg false (l [54,55] [(54,t 3)] [(55,t 4),(55,t 4)] (.makeSlice 26 (a 55) (a 55)) 26 56 (s [57,58,59] [] [(59,e 1 (e 2 (.un .nilPtr (t 54)))),(56,t 56)] (.store 26 (a 59) (a 56)) z)),q [k [6] [(6,c 0)],v 0 L.ax.l1],.reg false (l [78] [] [(78,t 4),(78,t 4)] (.makeSlice 22 (a 78) (a 78)) 22 79 (.fin [7] [(7,t 79)] [])),q [k [8] [(8,c 1)],v 2 L.ax.l2],.reg false (l [135] [] [(135,t 4),(135,t 4)] (.makeSlice 73 (a 135) (a 135)) 73 136 (.fin [11] [(11,t 136)] [])),q [k [12] [(12,c 0)],v 6 L.ax.l4],q [k [25] [(25,c 1)],v 24 L.ax.l13],.reg false (s [411,412,413,414] [] [(2,t 2),(414,.un (.al 2) (e 2 (.un .nilPtr (t 3))))] (.store 28 (a 2) (a 414)) z),.ret]⟩)=>b);simp only[sh];rfl
theorem E.ax:aX Tryz.prog Tryz.f8=some L.ax:=by kernel_rfl
theorem F.ax:Tryz.prog.funcs[N.ax]? = some Tryz.f8:=Tryz.func8
abbrev N.ig:Nat:=9
def L.ig:LFn:=by apply(fun{b:LFn}(_:b=⟨[t 2],q [k [2] [(2,.con (.slice none 0 0))],q [k [3,4,5] [(5,j .gtr (h (t 0)) (c 400))],u 5 (q [k [6,7,2] [(2,.bin .hi (t 0) (c 400))],.ret]) .skip],k [8,2] [(2,t 0)],.ret]⟩)=>b);simp only[sh];rfl
theorem E.ig:aX Tryz.prog Tryz.f9=some L.ig:=by kernel_rfl
theorem F.ig:Tryz.prog.funcs[N.ig]? = some Tryz.f9:=Tryz.func9
end
section
set_option maxRecDepth 100000
abbrev N.fA:Nat:=10
def L.fA:LFn:=by apply(fun{b:LFn}(_:b=⟨[.un (.al 2) (t 4)],q [.reg false (p (w [0]) (.box 28 (a 0)) 0 2 (p (w [1]) (.box 23 (a 1)) 0 3 (p [] (.alloc 28) 0 4 z))),.reg false (p [] (.buildSlice 26 0 #[]) 26 16 (l [17,18] [] [(16,t 16),(18,g 1 (t 2))] (.call ⟨.builtin .append,#[a 16,a 18],#[26,26]⟩) 26 19 (.fin [5] [(5,t 19)] []))),.reg false (s [20,21] [] [(21,e 1 (t 2)),(20,t 5)] (.store 26 (a 21) (a 20)) z),q [k [22,23,24] [(24,j .eql (h (t 5)) (c 0))],u 24 (q [.reg false (s [25] [] [(4,t 4),(25,.un (.al 2) (t 2))] (.store 28 (a 4) (a 25)) z),.ret]) .skip],.reg false (p (w [3]) (.slice 23 (a 3) none none none) 22 26 (p (w [26]) (.build 68 #[(0,a 26)]) 68 27 (p (w [27]) (.box 68 (a 27)) 66 28 (.fin [6] [(6,t 28)] [])))),.reg false (l [29] [] [(29,t 6)] (.call ⟨.value (.func 24),#[a 29,.const (.int .i64 12)],#[66,3]⟩) 3 30 (.fin [7] [(7,t 30)] [])),.reg false (l [31,32,33] [] [(31,t 6),(33,h (t 5))] (x 24 [31,33] [66,3]) 3 34 (.fin [8] [(8,t 34)] [])),.reg false (l [35] [] [(35,t 6)] (.call ⟨.value (.func 24),#[a 35,.const (.int .i64 40)],#[66,3]⟩) 3 36 (.fin [9] [(9,t 36)] [])),.reg false (l [37,38,39,40] [(40,.un (.al 6) (i 6 (t 5) (t 8)))] [] (.alloc 48) 0 10 (s [] [] (w [10,40]) (.store 48 (a 10) (a 40)) z)),.reg false (p [] (.buildSlice 44 0 #[]) 44 41 (l [42,43] [] [(41,t 41),(43,g 1 (t 10))] (.call ⟨.builtin .append,#[a 41,a 43],#[44,44]⟩) 44 44 (s [45] [] [(45,e 1 (t 10)),(44,t 44)] (.store 44 (a 45) (a 44)) z))),.reg false (p [] (.buildSlice 43 0 #[]) 43 46 (l [47,48] [] [(46,t 46),(48,g 0 (t 10))] (.call ⟨.builtin .append,#[a 46,a 48],#[43,43]⟩) 43 49 (s [50] [] [(50,e 0 (t 10)),(49,t 49)] (.store 43 (a 50) (a 49)) z))),k [11] [(11,c 0)],q [k [51,52,53,54] [(54,j .gtr (h (g 1 (t 10))) (c 0))],u 54 (k [55,56,57,58,59,11] [(11,.bin (.div .rem) (t 9) (h (g 1 (t 10))))]) .skip],q [k [60] [(60,t 7)],.block 0 (q [k [69,68] [(68,j .eql (t 60) (c 0))],u 68 (.reg false (s [70,71,72,73] [] [(73,e 0 (t 2)),(72,.bin (.arith .sub) (.bin (.div .rem) (t 9) (c 7)) (c 1))] (.store 3 (a 73) (a 72)) z)) (q [k [75,74] [(74,j .eql (t 60) (c 1))],u 74 (q [k [76,77,78,79] [(79,j .gtr (h (g 1 (t 10))) (c 0))],u 79 (.reg false (s [80,81,82,83,84,85,86,87] [] [(87,e 0 (i 5 (g 1 (t 10)) (t 11))),(85,o (.bin (.div .rem) (t 9) (c 20)) (c 0))] (.store 3 (a 87) (a 85)) z)) .skip]) (q [k [89,88] [(88,j .eql (t 60) (c 2))],u 88 (q [k [90,91,92,93] [(93,j .gtr (h (g 1 (t 10))) (c 0))],u 93 (.reg false (s [94,95,96,97,98,99] [] [(99,e 1 (i 5 (g 1 (t 10)) (t 11))),(97,t 9)] (.store 3 (a 99) (a 97)) z)) .skip]) (q [k [101,100] [(100,j .eql (t 60) (c 3))],u 100 (q [k [102,103,104,105,106,107,108,109,110,111,112,113,114,115] [(115,.ite (j .gtr (h (g 1 (t 10))) (c 0)) (j .gtr (h (g 3 (i 5 (g 1 (t 10)) (t 11)))) (c 0)) (.con (.bool false)))],u 115 (q [.reg false (p [] (.buildSlice 22 0 #[]) 22 116 (l [117,118,119,120,121,122] [] [(116,t 116),(122,g 3 (i 5 (g 1 (t 10)) (t 11)))] (.call ⟨.builtin .append,#[a 116,a 122],#[22,22]⟩) 22 123 (.fin [12] [(12,t 123)] []))),.reg false (s [124,125,126,127,128,129,130] [] [(130,i 1 (t 12) (.bin (.div .rem) (t 9) (h (t 12)))),(129,t 9)] (.store 3 (a 130) (a 129)) z),.reg false (s [131,132,133,134,135,136] [] [(136,e 3 (i 5 (g 1 (t 10)) (t 11))),(134,t 12)] (.store 22 (a 136) (a 134)) z)]) .skip]) (q [k [138,137] [(137,j .eql (t 60) (c 4))],u 137 (.reg false (p [] (.buildSlice 22 0 #[]) 22 139 (l [140,141,142] [] [(139,t 139),(142,g 2 (e 2 (t 10)))] (.call ⟨.builtin .append,#[a 139,a 142],#[22,22]⟩) 22 143 (l [144,145,146] [] [(146,.bin (.arith .sub) (.bin (.div .rem) (t 9) (c 12)) (c 1))] (.buildSlice 22 1 #[(0,a 146)]) 22 147 (p (w [143,147]) (.call ⟨.builtin .append,#[a 143,a 147],#[22,22]⟩) 22 148 (s [149,150] [] [(150,e 2 (e 2 (t 10))),(148,t 148)] (.store 22 (a 150) (a 148)) z)))))) (q [k [152,151] [(151,j .eql (t 60) (c 5))],u 151 (.reg false (s [153,154,155,156] [] [(156,e 0 (e 2 (t 10))),(154,.bin (.div .rem) (t 9) (c 7))] (.store 3 (a 156) (a 154)) z)) (q [k [158,157] [(157,j .eql (t 60) (c 6))],u 157 (q [k [159,160,161,162] [(162,j .gtr (h (g 0 (t 10))) (c 0))],u 162 (.reg true (.both (l [163,164,165,166,167,168,169,171,172,173,174,175,176,177,178,179,180,182,183,184] [(164,g 0 (t 10)),(169,.bin (.div .rem) (t 9) (h (g 0 (t 10)))),(180,g 1 (i 2 (g 0 (t 10)) (.bin (.div .rem) (t 9) (h (g 0 (t 10)))))),(183,.bin (.div .rem) (t 9) (c 5)),(184,t 9)] [] (.buildSlice 61 0 #[]) 61 170 (.both (p (w [170,180]) (.call ⟨.builtin .append,#[a 170,a 180],#[61,61]⟩) 61 181 (p (w [183,184]) (.build 65 #[(0,a 183),(1,a 184)]) 65 185 (p (w [185]) (.buildSlice 61 1 #[(0,a 185)]) 61 186 (p (w [181,186]) (.call ⟨.builtin .append,#[a 181,a 186],#[61,61]⟩) 61 187 (.loud [188,189] [] [(189,e 1 (i 2 (t 164) (t 169))),(187,t 187)] none [] true (.store 61 (a 189) (a 187)) 0 none false z))))) (p (w [183,184]) (.build 65 #[(0,a 183),(1,a 184)]) 65 185 (.both (p (w [170,180]) (.call ⟨.builtin .append,#[a 170,a 180],#[61,61]⟩) 61 181 (p (w [185]) (.buildSlice 61 1 #[(0,a 185)]) 61 186 (p (w [181,186]) (.call ⟨.builtin .append,#[a 181,a 186],#[61,61]⟩) 61 187 (.loud [188,189] [] [(189,e 1 (i 2 (t 164) (t 169))),(187,t 187)] none [] true (.store 61 (a 189) (a 187)) 0 none false z)))) (p (w [185]) (.buildSlice 61 1 #[(0,a 185)]) 61 186 (p (w [170,180]) (.call ⟨.builtin .append,#[a 170,a 180],#[61,61]⟩) 61 181 (p (w [181,186]) (.call ⟨.builtin .append,#[a 181,a 186],#[61,61]⟩) 61 187 (.loud [188,189] [] [(189,e 1 (i 2 (t 164) (t 169))),(187,t 187)] none [] true (.store 61 (a 189) (a 187)) 0 none false z)))))))) (l [163,164,165,166,167,168,169,171,172,173,174,175,176,177,178,179,180,182,183,184] [(164,g 0 (t 10)),(169,.bin (.div .rem) (t 9) (h (g 0 (t 10)))),(180,g 1 (i 2 (g 0 (t 10)) (.bin (.div .rem) (t 9) (h (g 0 (t 10))))))] [(183,.bin (.div .rem) (t 9) (c 5)),(184,t 9)] (.build 65 #[(0,a 183),(1,a 184)]) 65 185 (.both (p [] (.buildSlice 61 0 #[]) 61 170 (.both (p (w [170,180]) (.call ⟨.builtin .append,#[a 170,a 180],#[61,61]⟩) 61 181 (p (w [185]) (.buildSlice 61 1 #[(0,a 185)]) 61 186 (p (w [181,186]) (.call ⟨.builtin .append,#[a 181,a 186],#[61,61]⟩) 61 187 (.loud [188,189] [] [(189,e 1 (i 2 (t 164) (t 169))),(187,t 187)] none [] true (.store 61 (a 189) (a 187)) 0 none false z)))) (p (w [185]) (.buildSlice 61 1 #[(0,a 185)]) 61 186 (p (w [170,180]) (.call ⟨.builtin .append,#[a 170,a 180],#[61,61]⟩) 61 181 (p (w [181,186]) (.call ⟨.builtin .append,#[a 181,a 186],#[61,61]⟩) 61 187 (.loud [188,189] [] [(189,e 1 (i 2 (t 164) (t 169))),(187,t 187)] none [] true (.store 61 (a 189) (a 187)) 0 none false z)))))) (p (w [185]) (.buildSlice 61 1 #[(0,a 185)]) 61 186 (p [] (.buildSlice 61 0 #[]) 61 170 (p (w [170,180]) (.call ⟨.builtin .append,#[a 170,a 180],#[61,61]⟩) 61 181 (p (w [181,186]) (.call ⟨.builtin .append,#[a 181,a 186],#[61,61]⟩) 61 187 (.loud [188,189] [] [(189,e 1 (i 2 (t 164) (t 169))),(187,t 187)] none [] true (.store 61 (a 189) (a 187)) 0 none false z))))))))) .skip]) (q [k [191,190] [(190,j .eql (t 60) (c 7))],u 190 (q [k [192,193,194,195,196,197,198,199,200,201,202,203,204] [(204,.ite (j .gtr (h (g 0 (t 10))) (c 0)) (j .gtr (h (g 1 (i 2 (g 0 (t 10)) (c 0)))) (c 0)) (.con (.bool false)))],u 204 (q [.reg false (p [] (.buildSlice 61 0 #[]) 61 205 (l [206,207,208,209,210] [] [(205,t 205),(210,g 1 (i 2 (g 0 (t 10)) (c 0)))] (.call ⟨.builtin .append,#[a 205,a 210],#[61,61]⟩) 61 211 (.fin [13] [(13,t 211)] []))),.reg false (s [212,213,214,215,216,217,218,219] [] [(219,e 1 (i 2 (t 13) (.bin (.div .rem) (t 9) (h (t 13))))),(217,t 9)] (.store 3 (a 219) (a 217)) z),.reg false (s [220,221,222,223,224] [] [(224,e 1 (i 2 (g 0 (t 10)) (c 0))),(222,t 13)] (.store 61 (a 224) (a 222)) z)]) .skip]) (q [k [226,225] [(225,j .eql (t 60) (c 8))],u 225 (q [k [227,228,229,230] [(230,j .gtr (h (g 1 (t 10))) (c 0))],u 230 (.reg true (.loud [231,232,233,234,235,236,237,238,239] [] [(234,.bin .hi (g 1 (t 10)) (t 11)),(239,.bin (.lo 5) (g 1 (t 10)) (o (t 11) (c 1)))] none [] true (.call ⟨.builtin .append,#[a 234,a 239],#[44,44]⟩) 44 (some 240) true (s [241] [] [(241,e 1 (t 10)),(240,t 240)] (.store 44 (a 241) (a 240)) z))) .skip]) (q [k [243,242] [(242,j .eql (t 60) (c 9))],u 242 (q [k [244,245,246,247] [(247,j .gtr (h (g 1 (t 10))) (c 1))],u 247 (q [.reg false (l [248,249,250,251] [(251,.un (.al 5) (i 5 (g 1 (t 10)) (c 0)))] [] (.alloc 78) 0 14 (s [] [] (w [14,251]) (.store 78 (a 14) (a 251)) z)),.reg true (.loud [252,253,254,255,256,257,258,259] [] [(259,i 5 (g 1 (t 10)) (c 0)),(258,.un (.al 5) (i 5 (g 1 (t 10)) (t 11)))] none [] true (.store 78 (a 259) (a 258)) 0 none false z),.reg false (s [260,261,262,263,264] [] [(264,i 5 (g 1 (t 10)) (t 11)),(263,.un (.al 5) (t 14))] (.store 78 (a 264) (a 263)) z)]) .skip]) (q [k [266,265] [(265,j .eql (t 60) (c 10))],u 265 (q [k [267,268,269,270,271] [(271,j .gtr (h (g 2 (e 2 (t 10)))) (c 0))],u 271 (q [.reg false (p [] (.buildSlice 22 0 #[]) 22 272 (l [273,274,275] [] [(272,t 272),(275,g 2 (e 2 (t 10)))] (.call ⟨.builtin .append,#[a 272,a 275],#[22,22]⟩) 22 276 (.fin [15] [(15,t 276)] []))),.reg false (s [277,278,279,280,281,282,283,284] [] [(284,i 1 (t 15) (.bin (.div .rem) (t 9) (h (t 15)))),(283,.bin (.div .rem) (t 9) (c 11))] (.store 3 (a 284) (a 283)) z),.reg false (s [285,286,287] [] [(287,e 2 (e 2 (t 10))),(285,t 15)] (.store 22 (a 287) (a 285)) z)]) .skip]) (.reg false (l [61,62,63] [(62,g 0 (t 10))] [(63,t 9)] (.build 63 #[(0,a 63)]) 63 64 (p (w [64]) (.buildSlice 43 1 #[(0,a 64)]) 43 65 (p (w [62,65]) (.call ⟨.builtin .append,#[a 62,a 65],#[43,43]⟩) 43 66 (s [67] [] [(67,e 0 (t 10)),(66,t 66)] (.store 43 (a 67) (a 66)) z)))))])])])])])])])])])])])],.reg false (s [288,289,290,291] [] [(291,i 6 (t 5) (t 8)),(290,.un (.al 6) (t 10))] (.store 48 (a 291) (a 290)) z),.reg false (s [292] [] [(4,t 4),(292,.un (.al 2) (t 2))] (.store 28 (a 4) (a 292)) z),.ret]⟩)=>b);simp only[sh];rfl
theorem E.fA:aX Tryz.prog Tryz.f10=some L.fA:=by kernel_rfl
theorem F.fA:Tryz.prog.funcs[N.fA]? = some Tryz.f10:=Tryz.func10
abbrev N.gl:Nat:=11
def L.gl:LFn:=by apply(fun{b:LFn}(_:b=⟨[t 2],q [.reg false (p (w [0]) (.box 28 (a 0)) 0 1 (.fin [2] [(2,.con (.bool false))] [])),.reg false (l [7] [] [(7,.un (.al 2) (t 1))] (x 12 [7] [28]) 35 8 (l [6,9,10] [(9,.un (.ext 0) (t 8)),(10,.un (.ext 1) (t 8))] [] (.alloc 28) 0 3 (s [] [] (w [3,9]) (.store 28 (a 3) (a 9)) (.fin [4] [(4,t 10)] [])))),.reg false (l [11] [] [(11,.un (.al 2) (t 1))] (x 35 [11] [28]) 84 12 (p [] (.alloc 84) 0 5 (s [] [] (w [5,12]) (.store 84 (a 5) (a 12)) z))),.reg false (.loud [13,14,15,16,17,18,19,20] [(17,j .eql (t 4) (g 2 (t 5)))] [(18,.gd (j .eql (t 4) (g 2 (t 5))) true (.un (.al 2) (t 3))),(20,.gd (j .eql (t 4) (g 2 (t 5))) true (.un (.al 2) (e 0 (t 5))))] (some (j .eql (t 4) (g 2 (t 5)),true)) [] false (x 13 [18,20] [28,28]) 4 (some 21) true (.fin [22,2] [(2,.ite (t 17) (t 21) (.con (.bool false)))] [])),.ret]⟩)=>b);simp only[sh];rfl
theorem E.gl:aX Tryz.prog Tryz.f11=some L.gl:=by kernel_rfl
theorem F.gl:Tryz.prog.funcs[N.gl]? = some Tryz.f11:=Tryz.func11
abbrev N.bQ:Nat:=12
def L.bQ.l1:LC:=by apply(fun{b:LC}(_:b=q [k [45] [(45,j .lss (t 44) (t 43))],u 45 .skip (.exit 0),.block 1 (q [.reg false (l [46,47] [(47,.un (.al 6) (i 6 (t 42) (t 44)))] [] (.alloc 48) 0 10 (s [] [] (w [10,47]) (.store 48 (a 10) (a 47)) z)),k [48,49,50,51,52,53,54,55,56,57,8] [(8,o (t 8) (o (o (h (g 0 (t 10))) (h (g 1 (t 10)))) (c 1)))]]),k [58,44] [(44,o (t 44) (c 1))]])=>b);simp only[sh];rfl
def L.bQ.l2:LC:=by apply(fun{b:LC}(_:b=q [k [77] [(77,j .lss (t 76) (t 75))],u 77 .skip (.exit 2),.block 3 (q [.reg false (l [78,79] [(79,.un (.al 2) (i 2 (t 74) (t 76)))] [] (.alloc 90) 0 14 (s [] [] (w [14,79]) (.store 90 (a 14) (a 79)) z)),.reg false (s [80,81,82,83,84] [] [(80,t 12),(81,.un (.al 2) (t 14)),(84,h (g 1 (t 11)))] (.mapUpdate 89 (a 80) (a 81) (a 84)) z),.reg false (l [85,86,87,88] [(86,g 1 (t 11))] [(88,d (.bin (.aidx 2 1) (t 14) (c 1)))] (.buildSlice 22 1 #[(0,a 88)]) 22 89 (p (w [89]) (.build 46 #[(0,.const (.int .i64 1)),(2,a 89)]) 46 90 (p (w [90]) (.build 48 #[(2,a 90)]) 48 91 (p (w [91]) (.buildSlice 26 1 #[(0,a 91)]) 26 92 (p (w [86,92]) (.call ⟨.builtin .append,#[a 86,a 92],#[26,26]⟩) 26 93 (s [94] [] [(94,e 1 (t 11)),(93,t 93)] (.store 26 (a 94) (a 93)) z))))))]),k [95,76] [(76,o (t 76) (c 1))]])=>b);simp only[sh];rfl
def L.bQ.l4:LC:=by apply(fun{b:LC}(_:b=q [k [113] [(113,j .lss (t 112) (t 111))],u 113 .skip (.exit 6),.block 7 (q [k [114,115,116,17,18] [(17,t 112),(18,d (i 1 (t 110) (t 112)))],.reg false (l [118,119,120] [(118,t 12)] [(119,t 15),(120,t 18)] (.build 90 #[(0,a 119),(1,a 120)]) 90 121 (p (w [118,121]) (.lookup 89 (a 118) (a 121) true) 92 122 (.fin [117,123,124,19,20] [(19,.un (.ext 0) (t 122)),(20,.un (.ext 1) (t 122))] []))),k [125] [(125,t 20)],u 125 (.reg false (s [126,127,128,129,130,131,132,133] [] [(133,i 1 (g 2 (e 2 (.un .nilPtr (t 16)))) (t 17)),(132,t 19)] (.store 3 (a 133) (a 132)) z)) .skip]),k [134,112] [(112,o (t 112) (c 1))]])=>b);simp only[sh];rfl
def L.bQ.l6:LC:=by apply(fun{b:LC}(_:b=q [k [148] [(148,j .lss (t 147) (t 146))],u 148 .skip (.exit 10),.block 11 (q [k [149,23] [(23,t 147)],.reg false (l [151,152,153,154,155,156,157,158] [(151,t 12)] [(157,g 0 (i 2 (g 1 (t 22)) (t 23))),(158,t 15)] (.build 90 #[(0,a 157),(1,a 158)]) 90 159 (p (w [151,159]) (.lookup 89 (a 151) (a 159) true) 92 160 (.fin [150,161,162,24,25] [(24,.un (.ext 0) (t 160)),(25,.un (.ext 1) (t 160))] []))),k [163] [(163,t 25)],u 163 (.reg false (s [164,165,166,167,168,169] [] [(169,e 0 (i 2 (g 1 (t 22)) (t 23))),(167,t 24)] (.store 3 (a 169) (a 167)) z)) .skip]),k [170,147] [(147,o (t 147) (c 1))]])=>b);simp only[sh];rfl
def L.bQ.l5:LC:=by apply(fun{b:LC}(_:b=q [k [141] [(141,j .lss (t 140) (t 139))],u 141 .skip (.exit 8),.block 9 (q [.reg false (l [142,143] [(143,.un (.al 2) (i 2 (t 138) (t 140)))] [] (.alloc 63) 0 22 (s [] [] (w [22,143]) (.store 63 (a 22) (a 143)) z)),q [k [144,145,146,147] [(146,h (g 1 (t 22))),(147,c 0)],v 10 L.bQ.l6],.reg false (.loud [171,172] [] [(172,g 1 (t 22))] none [] false (.call ⟨.value (.func 38),#[a 172,.func 39],#[61,94]⟩) 0 (some 173) false z)]),k [174,140] [(140,o (t 140) (c 1))]])=>b);simp only[sh];rfl
def L.bQ.l3:LC:=by apply(fun{b:LC}(_:b=q [k [100] [(100,j .lss (t 99) (t 98))],u 100 .skip (.exit 4),.block 5 (q [k [101,15] [(15,t 99)],k [102,103,104,105,16] [(16,i 6 (g 1 (t 11)) (t 15))],q [k [106,107,108,109,110,111,112] [(110,g 2 (e 2 (.un .nilPtr (t 16)))),(111,h (g 2 (e 2 (.un .nilPtr (t 16))))),(112,c 0)],v 6 L.bQ.l4],k [135,136,137,138,139,140] [(138,g 0 (.un .nilPtr (t 16))),(139,h (g 0 (.un .nilPtr (t 16)))),(140,c 0)],v 8 L.bQ.l5]),k [175,99] [(99,o (t 99) (c 1))]])=>b);simp only[sh];rfl
def L.bQ:LFn:=by apply(fun{b:LFn}(_:b=⟨[.un (.al 2) (t 2),t 3],q [.reg false (p (w [0]) (.box 28 (a 0)) 0 1 (p [] (.alloc 28) 0 2 (.fin [3] [(3,c 0)] []))),.reg false (l [27] [] [(27,.un (.al 2) (t 1))] (x 36 [27] [28]) 86 28 (.fin [26,29,30,31,4,5,6] [(4,.un (.ext 0) (t 28))] [.un (.ext 2) (t 28),.un (.ext 1) (t 28)])),q [k [32,33] [(33,j .neq (t 4) (c 0))],u 33 (q [.reg false (p [] (.build 28 #[]) 28 34 (s [35] [(35,t 4)] (w [2,34]) (.store 28 (a 2) (a 34)) (.fin [3] [(3,t 35)] []))),.ret]) .skip],.reg false (l [36] [] [(36,.un (.al 2) (t 1))] (x 18 [36] [28]) 40 37 (p (w [37]) (x 17 [37] [40]) 38 38 (.fin [7] [(7,t 38)] []))),k [39,40,8] [(8,h (t 7))],q [k [41,42,43,44] [(42,g 1 (t 1)),(43,h (g 1 (t 1))),(44,c 0)],v 0 L.bQ.l1],q [k [59,60,61,62,63,64,65,66,67,68,69] [(69,.ite (j .gtr (o (h (g 1 (t 1))) (h (t 7))) (c 512)) (.con (.bool true)) (j .gtr (t 8) (c 4096)))],u 69 (q [.reg false (p [] (.build 28 #[]) 28 70 (s [] [] (w [2,70]) (.store 28 (a 2) (a 70)) (.fin [3] [(3,c 2)] []))),.ret]) .skip],.reg false (l [71] [] [(71,.un (.al 2) (t 1))] (x 37 [71] [28]) 28 72 (p [] (.alloc 28) 0 11 (s [] [] (w [11,72]) (.store 28 (a 11) (a 72)) z))),.reg false (p [] (.makeMap 89 none) 89 73 (.fin [12] [(12,t 73)] [])),q [k [74,75,76] [(74,t 7),(75,h (t 7)),(76,c 0)],v 2 L.bQ.l2],q [k [96,97,98,99] [(98,h (g 1 (t 1))),(99,c 0)],v 4 L.bQ.l3],.reg false (s [176] [] [(2,t 2),(176,.un (.al 2) (t 11))] (.store 28 (a 2) (a 176)) (.fin [3] [(3,c 0)] [])),.ret]⟩)=>b);simp only[sh];rfl
theorem E.bQ:aX Tryz.prog Tryz.f12=some L.bQ:=by kernel_rfl
theorem F.bQ:Tryz.prog.funcs[N.bQ]? = some Tryz.f12:=Tryz.func12
abbrev N.gZ:Nat:=13
def L.gZ:LFn:=by apply(fun{b:LFn}(_:b=⟨[t 4],q [.reg false (p (w [0]) (.box 28 (a 0)) 0 2 (p (w [1]) (.box 28 (a 1)) 0 3 (.fin [4] [(4,.con (.bool false))] []))),.reg true (l [5,7] [(7,.un (.al 2) (t 3))] [(5,.un (.al 2) (t 2))] (x 40 [5] [28]) 9 6 (.loud [] [] (w [7]) none [] true (x 40 [7] [28]) 9 (some 8) true (.fin [9,4] [(4,.bin (.eqS false) (t 6) (t 8))] []))),.ret]⟩)=>b);simp only[sh];rfl
theorem E.gZ:aX Tryz.prog Tryz.f13=some L.gZ:=by kernel_rfl
theorem F.gZ:Tryz.prog.funcs[N.gZ]? = some Tryz.f13:=Tryz.func13
abbrev N.cQ:Nat:=14
def L.cQ.l2:LC:=by apply(fun{b:LC}(_:b=f 2 22 7 [19,20,21,22] [23,24,7] (j .lss (t 7) (h (t 6))) (.block 3 (q [k [25,26,27,28,29,30,31,32,33,34,35,36,37,38] [(38,.ite (j .gtr (h (t 6)) (c 1)) (j .gtr (h (d (i 1 (t 3) (d (i 1 (t 6) (t 7)))))) (c 1)) (.con (.bool false)))],u 38 (.reg false (l [39,40,41,42,43,44] [(39,t 4)] [(40,t 5),(44,d (i 1 (t 6) (t 7)))] (.build 90 #[(0,a 40),(1,a 44)]) 90 45 (p (w [45]) (.buildSlice 38 1 #[(0,a 45)]) 38 46 (p (w [39,46]) (.call ⟨.builtin .append,#[a 39,a 46],#[38,38]⟩) 38 47 (.fin [4] [(4,t 47)] []))))) .skip])))=>b);simp only[sh];rfl
def L.cQ.l1:LC:=by apply(fun{b:LC}(_:b=f 0 13 5 [10,11,12,13] [14,15,5] (j .lss (t 5) (h (t 0))) (.block 1 (q [.reg false (l [16,17] [] [(16,t 0),(17,t 5)] (x 42 [16,17] [40,3]) 22 18 (.fin [6] [(6,t 18)] [])),k [7] [(7,c 0)],v 2 L.cQ.l2])))=>b);simp only[sh];rfl
def L.cQ:LFn:=by apply(fun{b:LFn}(_:b=⟨[t 2],q [k [2] [(2,.con (.slice none 0 0))],.reg false (l [8] [] [(8,t 0)] (x 41 [8] [40]) 40 9 (.fin [3] [(3,t 9)] [])),k [4] [(4,.con (.slice none 0 0))],q [k [5] [(5,c 0)],v 0 L.cQ.l1],k [48,2] [(2,t 4)],.ret]⟩)=>b);simp only[sh];rfl
theorem E.cQ:aX Tryz.prog Tryz.f14=some L.cQ:=by kernel_rfl
theorem F.cQ:Tryz.prog.funcs[N.cQ]? = some Tryz.f14:=Tryz.func14
abbrev N.fK:Nat:=15
def L.fK.l3:LC:=by apply(fun{b:LC}(_:b=f 4 32 8 [23,24,25,26,27,28,29,30,31,32] [33,34,8] (j .lss (t 8) (h (g 2 (e 2 (i 6 (g 1 (t 1)) (t 4)))))) (.block 5 (k [35,36,37,38,39,40,41,42,43,44,45,46,47,48,49,7] [(7,.ite (t 7) (.con (.bool true)) (j .eql (d (i 1 (g 2 (e 2 (i 6 (g 1 (t 1)) (t 4)))) (t 8))) (t 6)))])))=>b);simp only[sh];rfl
def L.fK.l2:LC:=by apply(fun{b:LC}(_:b=f 2 20 6 [16,17,18,19,20] [21,22,6] (j .lss (t 6) (h (g 1 (t 1)))) (.block 3 (q [k [7] [(7,.con (.bool false))],q [k [8] [(8,c 0)],v 4 L.fK.l3],k [50] [(50,t 7)],u 50 (.reg false (l [51,52] [(51,t 5)] [(52,t 6)] (.buildSlice 22 1 #[(0,a 52)]) 22 53 (p (w [51,53]) (.call ⟨.builtin .append,#[a 51,a 53],#[22,22]⟩) 22 54 (.fin [5] [(5,t 54)] [])))) .skip])))=>b);simp only[sh];rfl
def L.fK.l1:LC:=by apply(fun{b:LC}(_:b=f 0 13 4 [9,10,11,12,13] [14,15,4] (j .lss (t 4) (h (g 1 (t 1)))) (.block 1 (q [k [5] [(5,.con (.slice none 0 0))],q [k [6] [(6,c 0)],v 2 L.fK.l2],.reg false (l [55,56] [(55,t 3)] [(56,t 5)] (.buildSlice 40 1 #[(0,a 56)]) 40 57 (p (w [55,57]) (.call ⟨.builtin .append,#[a 55,a 57],#[40,40]⟩) 40 58 (.fin [3] [(3,t 58)] [])))])))=>b);simp only[sh];rfl
def L.fK:LFn:=by apply(fun{b:LFn}(_:b=⟨[t 2],q [.reg false (p (w [0]) (.box 28 (a 0)) 0 1 (.fin [2] [(2,.con (.slice none 0 0))] [])),k [3] [(3,.con (.slice none 0 0))],q [k [4] [(4,c 0)],v 0 L.fK.l1],k [59,2] [(2,t 3)],.ret]⟩)=>b);simp only[sh];rfl
theorem E.fK:aX Tryz.prog Tryz.f15=some L.fK:=by kernel_rfl
theorem F.fK:Tryz.prog.funcs[N.fK]? = some Tryz.f15:=Tryz.func15
abbrev N.ep:Nat:=17
def L.ep:LFn:=by apply(fun{b:LFn}(_:b=⟨[t 2],q [k [2] [(2,.con (.slice none 0 0))],.reg false (l [8] [] [(8,t 0)] (x 43 [8] [40]) 40 9 (l [10] [] [(10,t 0)] (x 44 [10] [40]) 40 11 (p [] (.alloc 40) 0 3 (p [] (.alloc 40) 0 4 (s [] [] (w [3,9]) (.store 40 (a 3) (a 9)) (s [] [] (w [4,11]) (.store 40 (a 4) (a 11)) z)))))),.reg false (p [] (.alloc 38) 0 5 z),q [.reg false (l [12] [] [(12,t 0)] (x 45 [12] [40]) 99 13 z),.block 0 (.rangef (t 13) [14,15] (q [k [6] [(6,t 14)],k [7] [(7,t 15)]]) (.block 1 (q [k [16,17,18,19,20,21,22,23,24,25,26,27,28,29] [(29,.ite (j .gtr (h (d (i 1 (d (t 3)) (t 6)))) (c 1)) (j .gtr (h (d (i 1 (d (t 4)) (t 7)))) (c 1)) (.con (.bool false)))],u 29 (.reg false (l [30,31,32] [(30,d (t 5))] [(31,t 6),(32,t 7)] (.build 90 #[(0,a 31),(1,a 32)]) 90 33 (p (w [33]) (.buildSlice 38 1 #[(0,a 33)]) 38 34 (p (w [30,34]) (.call ⟨.builtin .append,#[a 30,a 34],#[38,38]⟩) 38 35 (s [] [] (w [5,35]) (.store 38 (a 5) (a 35)) z))))) .skip])))],k [36,2] [(2,d (t 5))],.ret]⟩)=>b);simp only[sh];rfl
theorem E.ep:aX Tryz.prog Tryz.f17=some L.ep:=by kernel_rfl
theorem F.ep:Tryz.prog.funcs[N.ep]? = some Tryz.f17:=Tryz.func17
abbrev N.iN:Nat:=18
def L.iN.l1:LC:=by apply(fun{b:LC}(_:b=q [k [14] [(14,j .lss (t 13) (t 12))],u 14 .skip (.exit 0),.block 1 (q [.reg false (l [15,16,17] [(15,t 13),(17,.un (.al 6) (i 6 (t 11) (t 13)))] [] (.alloc 48) 0 5 (s [4] [(4,t 15)] (w [5,17]) (.store 48 (a 5) (a 17)) z)),.reg false (l [18,19,20,21,22,23,24,25] [(18,t 3),(19,t 4)] [(22,g 2 (e 2 (t 5))),(25,h (g 1 (t 1)))] (x 46 [22,25] [22,3]) 22 26 (s [27] [] [(27,i 1 (t 18) (t 19)),(26,t 26)] (.store 22 (a 27) (a 26)) z))]),k [28,13] [(13,o (t 13) (c 1))]])=>b);simp only[sh];rfl
def L.iN:LFn:=by apply(fun{b:LFn}(_:b=⟨[t 2],q [.reg false (p (w [0]) (.box 28 (a 0)) 0 1 (.fin [2] [(2,.con (.slice none 0 0))] [])),.reg false (l [6,7,8] [] [(8,h (g 1 (t 1))),(8,h (g 1 (t 1)))] (.makeSlice 40 (a 8) (a 8)) 40 9 (.fin [3] [(3,t 9)] [])),q [k [10,11,12,13] [(11,g 1 (t 1)),(12,h (g 1 (t 1))),(13,c 0)],v 0 L.iN.l1],k [29,2] [(2,t 3)],.ret]⟩)=>b);simp only[sh];rfl
theorem E.iN:aX Tryz.prog Tryz.f18=some L.iN:=by kernel_rfl
theorem F.iN:Tryz.prog.funcs[N.iN]? = some Tryz.f18:=Tryz.func18
end
end Go.Proofs.YtbkdlhkoiagbbaaGreat
