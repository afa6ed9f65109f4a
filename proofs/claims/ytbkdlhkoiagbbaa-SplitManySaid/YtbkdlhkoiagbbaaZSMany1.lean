/- A part of the proof: LftY, LftZ, LftF, LftG, LftH, LftM, LftN, LftQ, LftU, LftJ, LftK, T, LftP, LftA, Ua, LftO, LftI, LftL, Ga, La, Lb, Lc. -/
import Derived.Test.YtbkdlhkoiagbbaaZSMany0
import Derived.ChangeKeysEq
import Derived.MapKept
import Derived.RecoverIn
import Derived.Test.YtbkdlhkoiagbbaaChecked
import Derived.KernelRfl
import Derived.ProofKit
import Derived.OpenShut
import Derived.HandedShaped
import Derived.Test.YtbkdlhkoiagbbaaProg
set_option linter.unusedSimpArgs false
set_option linter.unusedVariables false
namespace Go.Lft
open Go
variable {po:OP} {pp:PP}
def fresh (h h':Heap):View:=fun b=>if b<h.size then none else h'[b]?
theorem fu (h h':Heap):(fresh h h').le (vw h'):=fun b o hb=>by
 unfold fresh at hb;split at hb
 ·cases hb
 ·exact hb
theorem jo (V:View) (h h':Heap):(fresh h h').le (grow V h h'):=fun b o hb=>by
 unfold fresh at hb;unfold grow
 split at hb
 ·cases hb
 ·rename_i hlt;rw [if_neg hlt];exact hb
structure gB (h h':Heap) (v v':Value):Prop where
 kept:Kept h h' v.ownBlock
 at_:v'.ownBlock=v.ownBlock∨v'.ownBlock=some h.size
theorem gB.view {h h':Heap} {v v':Value} (m:gB h h' v v') {W:View} (hw:W.le (vw h)) (ha:Av W v):W.le (vw h')∧Av W v':=by
 refine ⟨m.kept.view hw ha,fun b hb=>?_⟩
 rcases m.at_ with e | e
 ·exact ha b (by rw [←e];exact hb)
 ·rw [e] at hb
  simp only [Option.some.injEq] at hb
  exact View.da hw (by omega)
theorem Av.nil (W:View) (n c:Nat):Av W (.slice none n c):=fun b hb=>by simp [Value.ownBlock] at hb
theorem Av.new {W:View} {h:Heap} (hw:W.le (vw h)) (n c o:Nat):Av W (.slice (some ⟨h.size,o,none⟩) n c):=fun b hb=>by
 simp only [Value.ownBlock,Option.some.injEq] at hb;subst hb;exact View.da hw (Nat.le_refl _)
section
variable {α:Type} [Rep α]
def OwnT (W:View) (h:Heap) (e:TypeId) (v:Value) (l:List α):Prop:=
 l.length≤140737488355328∧∃ xs,oE h e (Rep.n α) v l.length xs∧∀ (i:Nat) (hi:i<l.length),Rep.rd W ((xs.drop (i*Rep.n α)).take (Rep.n α)) l[i]
def SrcT (Ho Hi:View) (u:Value) (l:List α):Prop:=
 ∃ a c,u = .slice a l.length c∧(a=none→l=[])∧∃ news:List Value,news.length=l.length*Rep.n α∧(∀ ad,a=some ad→∀ j x,news[j]? = some x→ah Ho (ad.add j)=some x)∧
  ∀ (i:Nat) (hi:i<l.length),Rep.rd Hi ((news.drop (i*Rep.n α)).take (Rep.n α)) l[i]
theorem OwnT.nil (W:View) (h:Heap) (e:TypeId):OwnT (α:=α) W h e (.slice none 0 0) []:=
 ⟨by simp,[],⟨by simp,.inl ⟨rfl,rfl⟩⟩,fun i hi=>by simp at hi⟩
variable {W:View} {h h':Heap} {e:TypeId} {v:Value} {l:List α}
theorem OwnT.bound (o:OwnT W h e v l):l.length≤140737488355328:=o.1
theorem OwnT.len (o:OwnT W h e v l) {K:View}:Un.ev K .len v=some (.int .i64 l.length):=by
 obtain ⟨_,xs,⟨_,hx⟩,_⟩:=o
 rcases hx with ⟨rfl,hn⟩ | ⟨g,cap,cur,rfl,_⟩
 ·rw [hn];rfl
 ·rfl
theorem OwnT.mono (o:OwnT W h e v l) {W':View} (hw:W.le W'):OwnT W' h e v l:=
 let ⟨b,xs,h1,h2⟩:=o
 ⟨b,xs,h1,fun i hi=>Rep.mono hw (h2 i hi)⟩
theorem OwnT.kept (o:OwnT W h e v l) {b:Option Nat} (k:Kept h h' b) (hb:v.ownBlock=none∨v.ownBlock≠b):OwnT W h' e v l:=
 let ⟨bd,xs,h1,h2⟩:=o
 ⟨bd,xs,h1.kept k hb,h2⟩
theorem OwnT.ext (o:OwnT W h e v l) (k:(vw h).le (vw h')):OwnT W h' e v l:=o.kept (kE k) (by cases v.ownBlock<;>simp)
theorem uT {xs:List Value} {n len:Nat} (hl:xs.length=len*n) (hr : ∀ (i:Nat),i<len→∀ u∈(xs.drop (i*n)).take n,u.oneCell'=true) : ∀ u∈xs,u.oneCell'=true:=by
 intro u hu
 obtain ⟨j,hj,rfl⟩:=List.getElem_of_mem hu
 have hn:0<n:=by
  rcases Nat.eq_zero_or_pos n with h | h
  ·subst h;simp at hl;subst hl;simp at hj
  ·exact h
 have hlt:j / n<len:=by
  rw [Nat.div_lt_iff_lt_mul hn];omega
 refine hr (j / n) hlt _ ?_
 have hm:=Nat.mod_lt j hn
 have hd:=Nat.div_add_mod j n
 have:((xs.drop (j / n*n)).take n)[j % n]? = some xs[j]:=by
  rw [List.getElem?_take,if_pos hm,List.getElem?_drop]
  have:j / n*n+j % n=j:=by rw [Nat.mul_comm];exact hd
  rw [this];exact List.getElem?_eq_getElem hj
 exact List.mem_of_getElem? this
theorem wN {xs ys:List Value} {n a i:Nat} (hx:xs.length=a*n):((xs++ys).drop (i*n)).take n=if i<a then (xs.drop (i*n)).take n else (ys.drop ((i-a)*n)).take n:=by
 split
 ·rename_i h
  have h1:i*n+n≤a*n:=by rw [←Nat.succ_mul];exact Nat.mul_le_mul_right _ h
  rw [List.drop_append_of_le_length (by omega),List.take_append_of_le_length (by simp;omega)]
 ·rename_i h
  have h1:a*n≤i*n:=Nat.mul_le_mul_right _ (by omega)
  have h2:(i-a)*n=i*n-a*n:=Nat.sub_mul ..
  rw [List.drop_append,List.drop_eq_nil_of_le (by omega),List.nil_append,hx,h2]
theorem eg {P:Program} {t ty:TypeId} {bytes:Nat} {z:Value} {x y:Operand} {us:List (Nat × Value)} {u:Value} {l2:List α} {K:Value→Heap→Prop} (hT:dA P t e (Rep.n α) bytes z) (hx:asg us x=v) (hy:asg us y=u)
  (ho:OwnT W h e v l) (hs:SrcT (vw h) W u l2) (hb:(l.length+l2.length)*bytes≤140737488355328) (hb2:l.length+l2.length≤140737488355328)
  (hk : ∀ v' h',OwnT W h' e v' (l++l2)→gB h h' v v'→K v' h'):step P (.call ⟨.builtin .append,#[x,y],#[t,t]⟩) ty us h K:=by
 obtain ⟨hbd,xs,h1,h2⟩:=ho
 obtain ⟨a,c,rfl,hnil,news,h3,h4,h5⟩:=hs
 refine cB (cg fun w hw=>?_)
 subst hw
 have hflat : ∀ u∈news,u.oneCell'=true:=uT h3 fun i hi=>Rep.flat (h5 i hi)
 obtain ⟨v',w',g1,g2,g3,g4,g5⟩:=ud hT (ty:=ty) h1 h3 (fun ad ha j u hu=>h4 ad ha j u hu) (c:=c) (fun ha=>by rw [hnil ha];rfl) hflat hb hb2
 refine ⟨v',w',?_,g2,hk v' w'.heap ⟨by simpa using hb2,xs++news,by simpa using g3,fun i hi=>?_⟩ ⟨g4,g5⟩⟩
 ·simp only [a6,execOp]
  simp [resolve,invoke,builtin,hx,hy,g1]
 ·rw [wN h1.1]
  split
  ·rename_i hlt;rw [List.getElem_append_left hlt];exact h2 i hlt
  ·rename_i hge
   rw [List.getElem_append_right (by omega)]
   exact h5 (i-l.length) (by simp at hi;omega)
theorem SlRd.src {H K:View} (s:SlRd H v l) (hk:H.le K):SrcT K H v l:=by
 obtain ⟨a,cap,rfl,h1,h2,h3⟩:=s
 rcases h3 with rfl | ⟨ad,rfl,hs,hat⟩
 ·exact ⟨a,cap,rfl,fun _=>rfl,[],by simp,fun _ _ j x hx=>by simp at hx,fun i hi=>by simp at hi⟩
 ·refine ⟨some ad,cap,rfl,(fun h=>by cases h),?_⟩
  cases hl:l with
  | nil=>exact ⟨[],by simp,fun _ _ j x hx=>by simp at hx,fun i hi=>by simp at hi⟩
  | cons d0 l0=>
   rw [←hl]
   have hpos:0<l.length:=by rw [hl];simp
   obtain ⟨cs0,⟨c,T,fz,_,hb,_⟩,_⟩:=hat 0 hpos
   have hblk:H ad.block=some (.cells c T fz):=by
    rw [aL hs] at hb;exact hb
   have hcs : ∀ (i:Nat) (hi:i<l.length),Rep.rd H ((c.toList.drop (ad.off+i*Rep.n α)).take (Rep.n α)) l[i]:=by
    intro i hi
    obtain ⟨cs,⟨c',T',fz',_,hb',he⟩,hr⟩:=hat i hi
    rw [aL hs] at hb' he
    simp only at hb' he
    rw [hblk] at hb'
    cases hb'
    rw [Rep.len hr] at he
    rw [he];exact hr
   have htot:ad.off+l.length*Rep.n α≤c.toList.length:=by
    have:=Rep.len (hcs (l.length-1) (by omega))
    have hn:=Rep.pos (α:=α)
    simp only [List.length_take,List.length_drop] at this
    have e1:l.length*Rep.n α=(l.length-1)*Rep.n α+Rep.n α:=by rw [←Nat.succ_mul];congr 1;omega
    omega
   refine ⟨(c.toList.drop ad.off).take (l.length*Rep.n α),?_,?_,?_⟩
   ·simp only [List.length_take,List.length_drop];omega
   ·intro ad' e j x hx
    cases e
    have hj:j<l.length*Rep.n α:=by
     rcases Nat.lt_or_ge j (l.length*Rep.n α) with h | h
     ·exact h
     ·rw [List.getElem?_eq_none (by simp;omega)] at hx;cases hx
    rw [List.getElem?_take,if_pos hj,List.getElem?_drop] at hx
    rw [aL hs]
    simp only [ah,hk _ _ hblk]
    simpa using hx
   ·intro i hi
    have h1:i*Rep.n α+Rep.n α≤l.length*Rep.n α:=by rw [←Nat.succ_mul];exact Nat.mul_le_mul_right _ hi
    rw [List.drop_take,List.take_take,List.drop_drop,Nat.min_eq_left (by omega)]
    exact hcs i hi
theorem SrcT.mono {Ho Hi Ho' Hi':View} (s:SrcT Ho Hi v l) (h1:Ho.le Ho') (h2:Hi.le Hi'):SrcT Ho' Hi' v l:=
 let ⟨a,c,g1,g2,news,g3,g4,g5⟩:=s
 ⟨a,c,g1,g2,news,g3,fun ad ha j x hx=>af h1 (g4 ad ha j x hx),fun i hi=>Rep.mono h2 (g5 i hi)⟩
theorem OwnT.rd (o:OwnT W h e v l) {V:View} (hw:W.le V) (hv : ∀ b,v.ownBlock=some b→V b=h[b]?):SlRd V v l:=by
 obtain ⟨hbd,xs,⟨hx,hown⟩,hel⟩:=o
 rcases hown with ⟨rfl,hn⟩ | ⟨g,cap,cur,rfl,hg,h1,h2,h3,h4⟩
 ·have:l=[]:=List.eq_nil_of_length_eq_zero hn
  subst this
  exact ⟨none,0,rfl,by simp,by simp,.inl rfl⟩
 ·refine ⟨some ⟨g,0,none⟩,cap,rfl,h1,hbd,.inr ⟨_,rfl,rfl,fun i hi=>?_⟩⟩
  refine ⟨(xs.drop (i*Rep.n α)).take (Rep.n α),⟨cur,e,(0,0),?_,?_,?_⟩,Rep.mono hw (hel i hi)⟩
  ·rw [aL rfl]
  ·rw [aL rfl];rw [hv g rfl];exact hg
  ·rw [aL rfl,Rep.len (hel i hi)]
   have hle:i*Rep.n α+Rep.n α≤l.length*Rep.n α:=by rw [←Nat.succ_mul];exact Nat.mul_le_mul_right _ hi
   rw [←h4,List.drop_take,List.take_take]
   simp only [Nat.zero_add]
   rw [Nat.min_eq_left (by omega)]
theorem OwnT.fresh {h0:Heap} (o:OwnT W h e v l) (hW:W.le (fresh h0 h)) (ha:Av (vw h0) v):SlRd (Lft.fresh h0 h) v l:=by
 refine o.rd hW fun b hb=>?_
 have:=ha b hb
 simp only [vw] at this
 have hge:h0.size≤b:=by
  rcases Nat.lt_or_ge b h0.size with h | h
  ·simp [h] at this
  ·exact h
 simp only [Lft.fresh,if_neg (Nat.not_lt.2 hge)]
theorem nj {P:Program} {t ty:TypeId} {bytes:Nat} {z:Value} {x:Operand} {us:List (Nat × Value)} {u:Value} {d:α} {K:Value→Heap→Prop} (hT:dA P t e (Rep.n α) bytes z) (hx:asg us x=u)
  (hr:Rd W u d) (hk : ∀ u' h',SrcT (vw h') W u' [d]→(vw h).le (vw h')→h'.size=h.size+1→K u' h'):step P (.buildSlice t 1 #[(0,x)]) ty us h K:=by
 have hTT:=hT
 obtain ⟨ht,⟨i,hi,hz,hsize,hby⟩,hzs,hsz,hsmall⟩:=hT
 have hcells:Rep.rd W u.cells.toList d∧u.cells.size=Rep.n α:=by
  unfold Rd at hr
  split at hr
  ·obtain ⟨cs,rfl,h⟩:=hr
   exact ⟨h,by rw [←Rep.len h];rfl⟩
  ·rename_i ha
   have hone:=Rep.one (α:=α) (by simpa using ha)
   have hfl:=Rep.flat hr u (by simp)
   have:u.cells = #[u]:=by cases u<;>first | rfl | simp [Value.oneCell'] at hfl
   rw [this]
   exact ⟨by simpa using hr,by simp [hone]⟩
 have hfill:Instr.fill (fun j=>some (j*Rep.n α,Rep.n α)) ((Array.range (1*Rep.n α)).map (z.cells[· % z.cells.size]!)) [(0,u)]=some u.cells:=by
  have hlen : ∀ (A:Array Value) (cs:Array Value),A.size=cs.size→cs.zipIdx.foldl (fun cs' (p:Value × Nat)=>cs'.setIfInBounds (0+p.2) p.1) A=cs:=by
   intro A cs hA
   have key : ∀ (l:List Value) (k:Nat) (B:Array Value),B.size=k+l.length→((l.zipIdx k).foldl (fun cs' (p:Value × Nat)=>cs'.setIfInBounds (0+p.2) p.1) B).toList=B.toList.take k++l:=by
    intro l
    induction l with
    | nil=>intro k B hB;simp at hB;simp only [List.zipIdx_nil,List.foldl_nil,List.append_nil];rw [List.take_of_length_le (by simp [hB])]
    | cons y l ih=>
     intro k B hB
     simp only [List.zipIdx_cons,List.foldl_cons]
     rw [ih (k+1) _ (by simp at hB ⊢;omega)]
     simp only [Nat.zero_add,Array.toList_setIfInBounds]
     have hk:k<B.toList.length:=by simp at hB ⊢;omega
     rw [List.take_succ_eq_append_getElem (by simpa using hk)]
     simp [List.take_set_of_le]
   rw [←Array.toList_inj,←Array.foldl_toList,Array.toList_zipIdx]
   have:=key cs.toList 0 A (by simpa using hA)
   simpa using this
  simp only [Instr.fill,Nat.zero_mul,Nat.zero_add,Array.size_map,Array.size_range,Nat.one_mul,hcells.2,ne_eq,not_true,decide_false,Bool.false_or,gt_iff_lt,Nat.lt_irrefl]
  simp only [Bool.false_eq_true,if_false]
  congr 1
  have:=hlen ((Array.range (Rep.n α)).map (z.cells[· % z.cells.size]!)) u.cells (by simp [hcells.2])
  simpa using this
 refine jx ht hi hz hsize (by omega) (vs:=[(0,u)]) (by simp [hx]) hfill (hk _ _ ?_ (bg _ _) (by simp))
 refine ⟨some ⟨h.size,0,none⟩,1,rfl,(fun h=>by cases h),u.cells.toList,by simp [hcells.2],?_,?_⟩
 ·intro ad e j x hx
  cases e
  rw [aL rfl]
  simp only [ah,vw,Array.getElem?_push_size]
  simpa using hx
 ·intro i hi'
  simp only [List.length_cons,List.length_nil,Nat.zero_add,Nat.lt_one_iff] at hi'
  subst hi'
  have:(u.cells.toList.take (Rep.n α))=u.cells.toList:=by rw [List.take_of_length_le];simp [hcells.2]
  simpa [this] using hcells.1
theorem vH {P:Program} {t ty:TypeId} {bytes:Nat} {z:Value} {x y:Operand} {us:List (Nat × Value)} {k:IntKind} {n:Nat} {d:α} {K:Value→Heap→Prop} (hT:dA P t e (Rep.n α) bytes z) (hx:asg us x = .int k n) (hy:asg us y = .int k n)
  (hr:Rep.rd W z.cells.toList d) (hb:bytes*n≤140737488355328) (hb2:n≤140737488355328)
  (hk : ∀ v' h',OwnT W h' e v' (List.replicate n d)→gB h h' (.slice none 0 0) v'→(vw h).le (vw h')→v'.ownBlock=some h.size→K v' h'):step P (.makeSlice t x y) ty us h K:=by
 obtain ⟨ht,⟨i,hi,hz,hsize,hby⟩,hzs,hsz,hsmall⟩:=hT
 refine cB (cg fun w hw=>?_)
 subst hw
 have hrun:=run_make (P:=P) w t e i z ht hi hz k k (n:Int) (n:Int) (by omega) (Int.le_refl _) (by
  rw [hby]
  have:((bytes*n:Nat):Int)≤281474976710656:=by omega
  rwa [Int.natCast_mul] at this) (by omega)
 simp only [Int.toNat_natCast] at hrun
 refine ⟨.slice (some ⟨w.heap.size,0,none⟩) n n,w.alloc (.cells (madeCells z.cells (n*i.size)) e),?_,fN _ _,hk _ _ ?_ ⟨Kept.push _ _ _,.inr rfl⟩ (bg _ _) rfl⟩
 ·simp only [a6,execOp,hx,hy]
  simp [hrun]
 ·refine ⟨by simpa using hb2,((madeCells z.cells (n*Rep.n α)).toList.take (n*Rep.n α)),⟨by simp [size_madeCells],.inr ⟨w.heap.size,n,madeCells z.cells (n*Rep.n α),by simp,?_,by simp,by simp only [maxLen];omega,by simp [size_madeCells],by simp⟩⟩,?_⟩
  ·rw [hsize];exact heap_alloc_new w _
  ·intro j hj
   simp only [List.length_replicate] at hj
   have he:((((madeCells z.cells (n*Rep.n α)).toList.take (n*Rep.n α)).drop (j*Rep.n α)).take (Rep.n α))=z.cells.toList:=by
    have h1:j*Rep.n α+Rep.n α≤n*Rep.n α:=by rw [←Nat.succ_mul];exact Nat.mul_le_mul_right _ hj
    refine List.ext_getElem ?_ fun m hm1 hm2=>?_
    ·simp [size_madeCells,hzs];omega
    ·simp only [List.length_take,List.length_drop] at hm1
     simp only [List.getElem_take,List.getElem_drop,madeCells,Array.toList_map,List.getElem_map,Array.toList_range,List.getElem_range]
     have hm:m<z.cells.size:=by simpa using hm2
     have hmod:(j*Rep.n α+m) % z.cells.size=m:=by
      rw [hzs,Nat.mul_comm,Nat.mul_add_mod];exact Nat.mod_eq_of_lt (by omega)
     rw [hmod]
     simp [hm]
   rw [he]
   simpa using hr
theorem mL {P:Program} {t ty:TypeId} {x y:Operand} {us:List (Nat × Value)} {i:Nat} {u:Value} {d:α} {K:Value→Heap→Prop} (hsz:b6 P t=some (Rep.n α)) (hx:asg us x = .pointer (some ((slA v).add (i*Rep.n α)))) (hy:asg us y=u)
  (ho:OwnT W h e v l) (hi:i<l.length) (hr:Rd W u d) (hk : ∀ h',OwnT W h' e v (l.set i d)→gB h h' v v→K undef h'):step P (.store t x y) ty us h K:=by
 have hcells:Rep.rd W u.cells.toList d∧u.cells.size=Rep.n α:=by
  unfold Rd at hr
  split at hr
  ·obtain ⟨cs,rfl,h⟩:=hr
   exact ⟨h,by rw [←Rep.len h];rfl⟩
  ·rename_i ha
   have hone:=Rep.one (α:=α) (by simpa using ha)
   have hfl:=Rep.flat hr u (by simp)
   have:u.cells = #[u]:=by cases u<;>first | rfl | simp [Value.oneCell'] at hfl
   rw [this]
   exact ⟨by simpa using hr,by simp [hone]⟩
 obtain ⟨hbd,xs,⟨hxl,hown⟩,hel⟩:=ho
 refine cB (iP fun w hw=>?_)
 subst hw
 rcases hown with ⟨rfl,hn⟩ | ⟨g,cap,cur,rfl,hg,h1,h2,h3,h4⟩
 ·omega
 ·have hle:i*Rep.n α+Rep.n α≤l.length*Rep.n α:=by rw [←Nat.succ_mul];exact Nat.mul_le_mul_right _ hi
  have hcap:l.length*Rep.n α≤cap*Rep.n α:=Nat.mul_le_mul_right _ h1
  have hlen:u.cells.toList.length=Rep.n α:=by simpa using hcells.2
  have hrun:=run_storeCells_at P g (i*Rep.n α) e u.cells.toList 0 cur w hg (by simp only [Nat.add_zero];omega) (fun c hc=>Rep.flat hcells.1 c hc)
  have hadd:(slA (.slice (some ⟨g,0,none⟩) l.length cap)).add (i*Rep.n α)=⟨g,i*Rep.n α,none⟩:=by
   show (⟨g,0,none⟩:Addr).add _=_
   rw [aL rfl];simp
  have hszr:=run_sizeOf (P:=P) (w:=w) hsz
  obtain ⟨row,hrow⟩ : ∃ row:Array Value,row.toList=cur.toList.take (i*Rep.n α)++u.cells.toList++cur.toList.drop (i*Rep.n α+Rep.n α):=⟨(cur.toList.take (i*Rep.n α)++u.cells.toList++cur.toList.drop (i*Rep.n α+Rep.n α)).toArray,rfl⟩
  have hrun':Sem.run P (storeCells ⟨g,i*Rep.n α,none⟩ u.cells.toList) w = .ok () (w.setRow g row):=by
   rw [hrun];congr 2
   rw [←Array.toList_inj,hrow,hlen];rfl
  have hrsz:row.size=cap*Rep.n α:=by
   have:=congrArg List.length hrow
   simp only [Array.length_toList,List.length_append,List.length_take,List.length_drop,hcells.2] at this
   omega
  refine ⟨w.setRow g row,?_,Same.lE rfl rfl rfl (by simp) hg (by simp) (fun k _ hne=>setRow_other w g k _ (fun e=>hne e)),hk (w.setRow g row).heap ⟨by simpa using hbd,xs.take (i*Rep.n α)++u.cells.toList++xs.drop (i*Rep.n α+Rep.n α),⟨?_,.inr ⟨g,cap,row,by simp,setRow_heap w g cur row e _ hg,by simpa using h1,h2,?_,?_⟩⟩,?_⟩ ⟨⟨by simp,fun k hk hne=>setRow_other w g k _ (fun e=>hne (by simp [Value.ownBlock,e]))⟩,.inl rfl⟩⟩
  ·simp only [a6,execOp,hx,hy,hadd]
   simp [Instr.storeAt,Instr.sureAddr,storeVar,hszr,hcells.2,hrun']
  ·simp only [List.length_append,List.length_take,List.length_drop,hlen,List.length_set];omega
  ·exact hrsz
  ·simp only [List.length_set]
   rw [hrow,←h4,List.take_take,Nat.min_eq_left (by omega),List.append_assoc,List.append_assoc]
   have e1:(cur.toList.take (i*Rep.n α)).length=i*Rep.n α:=by simp;omega
   rw [List.take_append,e1,List.take_of_length_le (by omega)]
   congr 1
   rw [List.take_append,hlen,List.take_of_length_le (by omega)]
   congr 1
   rw [List.drop_take]
   congr 1
   omega
  ·intro j hj
   simp only [List.length_set] at hj
   have hjle:j*Rep.n α+Rep.n α≤l.length*Rep.n α:=by rw [←Nat.succ_mul];exact Nat.mul_le_mul_right _ hj
   have e1:(xs.take (i*Rep.n α)).length=i*Rep.n α:=by simp;omega
   by_cases hij:i=j
   ·subst hij
    rw [List.append_assoc,List.drop_append,e1,List.drop_eq_nil_of_le (by omega),List.nil_append,Nat.sub_self,List.drop_zero,List.take_append_of_le_length (by omega),List.take_of_length_le (by omega)]
    simpa using hcells.1
   ·have hset:(l.set i d)[j]'(by simpa using hj)=l[j]:=by simp [hij]
    rw [hset]
    have:((xs.take (i*Rep.n α)++u.cells.toList++xs.drop (i*Rep.n α+Rep.n α)).drop (j*Rep.n α)).take (Rep.n α)=(xs.drop (j*Rep.n α)).take (Rep.n α):=by
     rcases Nat.lt_or_ge j i with hlt | hge
     ·have h5:j*Rep.n α+Rep.n α≤i*Rep.n α:=by rw [←Nat.succ_mul];exact Nat.mul_le_mul_right _ hlt
      rw [List.append_assoc,List.drop_append_of_le_length (by omega),List.take_append_of_le_length (by simp;omega),List.drop_take,List.take_take,Nat.min_eq_left (by omega)]
     ·have h5:i*Rep.n α+Rep.n α≤j*Rep.n α:=by rw [←Nat.succ_mul];exact Nat.mul_le_mul_right _ (by omega)
      have e2:(xs.take (i*Rep.n α)++u.cells.toList).length=i*Rep.n α+Rep.n α:=by rw [List.length_append,e1,hlen]
      rw [List.drop_append,List.drop_eq_nil_of_le (by omega),List.nil_append,e2,List.drop_drop]
      congr 2
      omega
    rw [this]
    exact hel j hj
end
end Go.Lft
namespace Go.Lft
open Go
variable {po po2 po3:OP} {pp:PP}
def up {β:Type} (f:Nat→β→β):Nat→β→β
 | 0,x=>x
 | k+1,x=>f k (up f k x)
def Old (V:View) (h0:Heap) (W:View):Prop:=∀ b o,b<h0.size→W b=some o→V b=some o
theorem Old.refl (V:View) (h0:Heap):Old V h0 V:=fun _ _ _ h=>h
theorem Old.nothing (V:View) (h0:Heap):Old V h0 nothing:=fun _ _ _ h=>by cases h
theorem Old.grow {V W:View} {h0 h1 h2:Heap} (o:Old V h0 W) (hs:h0.size≤h1.size):Old V h0 (grow W h1 h2):=fun b x hb hx=>by
 unfold Lft.grow at hx;rw [if_pos (by omega)] at hx;exact o b x hb hx
theorem Old.le {V W:View} {h0 h:Heap} (o:Old V h0 W) (hw:W.le (vw h)):W.le (Lft.grow V h0 h):=fun b x hx=>by
 unfold Lft.grow
 split
 ·exact o b x (by assumption) hx
 ·exact hw b x hx
@[simp] theorem bE {H:View}:nothing.le H:=fun _ _ h=>by cases h
theorem yx (h h':Heap):fresh h h'=Lft.grow nothing h h':=by
 funext b;unfold fresh Lft.grow;rfl
section
variable {α:Type} [Rep α] {V W:View} {h0 h h':Heap} {e:TypeId} {v:Value} {l:List α}
theorem OwnT.lt (o:OwnT W h e v l) {b:Nat} (hb:v.ownBlock=some b):b<h.size:=by
 obtain ⟨_,xs,⟨_,hown⟩,_⟩:=o
 rcases hown with ⟨rfl,_⟩ | ⟨g,cap,cur,rfl,hg,_⟩
 ·simp [Value.ownBlock] at hb
 ·simp only [Value.ownBlock,Option.some.injEq] at hb
  subst hb
  exact (Array.getElem?_eq_some_iff.1 hg).1
theorem OwnT.now (o:OwnT W h e v l) (hw:W.le (vw h)):SlRd (vw h) v l:=o.rd hw fun _ _=>rfl
theorem OwnT.grown (o:OwnT W h e v l) (hw:W.le (vw h)) (ho:Old V h0 W) (ha:Av (vw h0) v):SlRd (Lft.grow V h0 h) v l:=by
 refine o.rd (ho.le hw) fun b hb=>?_
 have:=ha b hb
 simp only [vw] at this
 have hge:h0.size≤b:=by
  rcases Nat.lt_or_ge b h0.size with h | h
  ·simp [h] at this
  ·exact h
 simp only [Lft.grow,if_neg (Nat.not_lt.2 hge)]
theorem Av.grow (ha:Av W v) (hl : ∀ b,v.ownBlock=some b→b<h.size):Av (Lft.grow W h h') v:=fun b hb=>by
 unfold Lft.grow;rw [if_pos (hl b hb)];exact ha b hb
structure Mine (V:View) (h0 h:Heap) (W:View) (e:TypeId) (v:Value) (l:List α):Prop where
 old:(vw h0).le (vw h)
 wle:W.le (vw h)
 av:Av W v
 av0:Av (vw h0) v
 agree:Old V h0 W
 own:OwnT W h e v l
theorem Mine.start (hV:V.le (vw h)):Mine (α:=α) V h h V e (.slice none 0 0) []:=
 ⟨View.le_refl _,hV,Av.nil _ _ _,Av.nil _ _ _,Old.refl _ _,OwnT.nil ..⟩
theorem Mine.ext (m:Mine V h0 h W e v l) (k:(vw h).le (vw h')):Mine V h0 h' (Lft.grow W h h') e v l:=
 ⟨View.le_trans m.old k,iW (View.le_trans m.wle k),m.av.grow fun _ hb=>m.own.lt hb,m.av0,m.agree.grow (fw m.old),(m.own.ext k).mono (dU m.wle)⟩
theorem Mine.ext' (m:Mine V h0 h W e v l) (k:(vw h).le (vw h')):Mine V h0 h' W e v l:=
 ⟨View.le_trans m.old k,View.le_trans m.wle k,m.av,m.av0,m.agree,m.own.ext k⟩
theorem Mine.result (m:Mine V h0 h W e v l):SlRd (Lft.grow V h0 h) v l:=m.own.grown m.wle m.agree m.av0
theorem Mine.fresh (m:Mine nothing h0 h W e v l):SlRd (Lft.fresh h0 h) v l:=by rw [yx];exact m.result
theorem Mine.now (m:Mine V h0 h W e v l):SlRd (vw h) v l:=m.own.now m.wle
theorem Mine.jB {v':Value} {l':List α} (m:Mine V h0 h W e v l) (o:OwnT W h' e v' l') (k:gB h h' v v'):Mine V h0 h' W e v' l':=
 let ⟨a1,a2⟩:=k.view m.wle m.av
 let ⟨b1,b2⟩:=k.view m.old m.av0
 ⟨b1,a1,a2,b2,m.agree,o⟩
theorem Mine.push {P:Program} {t ty ty2:TypeId} {bytes:Nat} {z:Value} {x y y2:Operand} {us:List (Nat × Value)} {us2:Value→List (Nat × Value)} {u:Value} {d:α} {K:Value→Value→Heap→Prop}
  (m:Mine V h0 h W e v l) (hT:dA P t e (Rep.n α) bytes z) (hx:asg us x=u) (hr:Rd W u d) (hb:(l.length+1)*bytes≤140737488355328) (hb2:l.length+1≤140737488355328) (hy : ∀ u,asg (us2 u) y=v) (hy2 : ∀ u,asg (us2 u) y2=u)
  (hk : ∀ u v' h',Mine V h0 h' W e v' (l++[d])→K u v' h') :
  @step po P (.buildSlice t 1 #[(0,x)]) ty us h fun u h2=>@step po2 P (.call ⟨.builtin .append,#[y,y2],#[t,t]⟩) ty2 (us2 u) h2 fun v' h3=>K u v' h3:=by
 refine nj hT hx hr fun u h2 hs hle _=>?_
 have m2:=m.ext' hle
 exact eg hT (hy u) (hy2 u) m2.own hs hb hb2 fun v' h3 ho hm=>hk u v' h3 (m2.jB ho hm)
theorem Mine.made {P:Program} {t ty:TypeId} {bytes:Nat} {z:Value} {x y:Operand} {us:List (Nat × Value)} {k:IntKind} {n:Nat} {d:α} {K:Value→Heap→Prop} (hT:dA P t e (Rep.n α) bytes z) (hle:(vw h0).le (vw h)) (hW:W.le (vw h)) (ho:Old V h0 W)
  (hx:asg us x = .int k n) (hy:asg us y = .int k n) (hr:Rep.rd W z.cells.toList d) (hb:bytes*n≤140737488355328) (hb2:n≤140737488355328)
  (hk : ∀ v' h',Mine V h0 h' W e v' (List.replicate n d)→(vw h).le (vw h')→v'.ownBlock=some h.size→K v' h'):step P (.makeSlice t x y) ty us h K:=
 vH hT hx hy hr hb hb2 fun v' h' ow mv le hb=>
  hk v' h' ⟨View.le_trans hle le,View.le_trans hW le,fun b hb'=>by rw [hb] at hb';cases hb';exact View.da hW (Nat.le_refl _),fun b hb'=>by rw [hb] at hb';cases hb';exact View.da hle (Nat.le_refl _),ho,ow⟩ le hb
theorem Mine.put {P:Program} {t ty:TypeId} {x y:Operand} {us:List (Nat × Value)} {i:Nat} {u:Value} {d:α} {K:Value→Heap→Prop} (m:Mine V h0 h W e v l) (hsz:b6 P t=some (Rep.n α))
  (hx:asg us x = .pointer (some ((slA v).add (i*Rep.n α)))) (hy:asg us y=u) (hi:i<l.length) (hr:Rd W u d) (hk : ∀ h',Mine V h0 h' W e v (l.set i d)→K undef h'):step P (.store t x y) ty us h K:=
 mL hsz hx hy m.own hi hr fun h' ho hm=>hk h' (m.jB ho hm)
theorem Mine.put1 {P:Program} {t ty:TypeId} {x y:Operand} {us:List (Nat × Value)} {i:Nat} {u:Value} {d:α} {K:Value→Heap→Prop} (m:Mine V h0 h W e v l) (hsz:b6 P t=some (Rep.n α)) (hn:Rep.n α=1)
  (hx:asg us x = .pointer (some ((slA v).add i))) (hy:asg us y=u) (hi:i<l.length) (hr:Rd W u d) (hk : ∀ h',Mine V h0 h' W e v (l.set i d)→K undef h'):step P (.store t x y) ty us h K:=
 m.put hsz (i:=i) (by rw [hn,Nat.mul_one];exact hx) hy hi hr hk
end
theorem wS {β:Type} {f:Nat→List β→List β} {m:Nat} (hf : ∀ k x,(f k x).length≤x.length+m) (n:Nat) (x:List β):(up f n x).length≤x.length+n*m:=by
 induction n with
 | zero=>simp [up]
 | succ n ih=>
  have:=hf n (up f n x)
  rw [up,Nat.succ_mul];omega
def sift {β:Type} (p:Nat→Bool) (x:Nat→β) (n:Nat):List β:=up (fun b l=>if p b then l++[x b] else l) n []
theorem pq {β:Type} {p:Nat→Bool} {x:Nat→β} (n:Nat):(sift p x n).length≤n:=by
 have:=wS (f:=fun b l=>if p b then l++[x b] else l) (m:=1) (fun k x=>by split<;>simp) n []
 simpa [sift] using this
theorem kt {β:Type} {p:Nat→Bool} {x:Nat→β} {n:Nat} (h:p n=true):sift p x (n+1)=sift p x n++[x n]:=by rw [sift,up,if_pos h];rfl
theorem jf {β:Type} {p:Nat→Bool} {x:Nat→β} {n:Nat} (h:p n=false):sift p x (n+1)=sift p x n:=by rw [sift,up,if_neg (by simp [h])];rfl
def rows {β:Type} (x:Nat→β) (n:Nat):List β:=(List.range n).map x
theorem gL {β:Type} {x:Nat→β} {n:Nat}:rows x (n+1)=rows x n++[x n]:=by simp [rows,List.range_succ]
@[simp] theorem sS {β:Type} {x:Nat→β} {n:Nat}:(rows x n).length=n:=by simp [rows]
@[simp] theorem Cp {β:Type} {x:Nat→β}:rows x 0=[]:=rfl
@[simp] theorem Cb {β:Type} {p:Nat→Bool} {x:Nat→β}:sift p x 0=[]:=rfl
theorem jt {β:Type} {p:Nat→Bool} {x:Nat→β} {n:Nat}:sift p x n=((List.range n).filter p).map x:=by
 induction n with
 | zero=>rfl
 | succ n ih=>
  rw [List.range_succ,List.filter_append,List.map_append,←ih]
  cases h:p n with
  | true=>rw [kt h];simp [h]
  | false=>rw [jf h];simp [h]
theorem ie {β:Type} {x:Nat→β} {d:β} {n k:Nat} (hk:k<n):(rows x k++List.replicate (n-k) d).set k (x k)=rows x (k+1)++List.replicate (n-(k+1)) d:=by
 have e:n-k=(n-(k+1))+1:=by omega
 rw [List.set_append_right _ _ (by simp),sS,Nat.sub_self,e,List.replicate_succ,List.set_cons_zero,gL,List.append_assoc]
 rfl
theorem cm {β:Type} [Inhabited β] {x:Nat→β} {n i:Nat} (h:i<n):nth (rows x n) i=x i:=by
 rw [aj (by simpa using h)];simp [rows]
theorem uK {h h1 h2:Heap} (hle:(vw h).le (vw h1)):(fresh h1 h2).le (fresh h h2):=fun b o hb=>by
 have:=fw hle
 unfold fresh at hb ⊢
 split at hb
 ·cases hb
 ·rw [if_neg (by omega)];exact hb
theorem gg {P:Program} {t e size bytes:Nat} {z:Value} (ht:P.underlying t=some (.slice e)) (h:(P.info? e).map (fun i=>(i.zero,i.size,i.bytes))=some (some z,size,bytes)) (hz:z.cells.size=size) (hs:0<size∧size≤1000):dA P t e size bytes z:=by
 simp only [Option.map_eq_some_iff,Prod.mk.injEq] at h
 obtain ⟨i,h1,h2,h3,h4⟩:=h
 exact ⟨ht,⟨i,h1,h2,h3,h4⟩,hz,hs.1,hs.2⟩
theorem kY {H:View} {a:Int} (h0:-9223372036854775808≤a) (h1:a≤9223372036854775807):Rd H (.int .i64 a) a:=eF.2 ⟨rfl,h0,h1⟩
theorem Dr {H:View} {b:Bool}:Rd H (.bool b) b:=rh.2 rfl
end Go.Lft
namespace Go.Lft
open Go
variable {po:OP} {pp:PP}
theorem ff {ρ:Env} {ts:List Nat} {u:Nat}:look (aX ρ ts) u=if ts.contains u then none else look ρ u:=by
 induction ρ with
 | nil=>simp
 | cons p ρ ih=>
  obtain ⟨k,x⟩:=p
  rw [gS]
  by_cases hk:ts.contains k=true
  ·simp only [hk,if_true,ih,mO]
   split
   ·rfl
   ·rename_i h
    split
    ·rename_i e;subst e;exact absurd hk h
    ·rfl
  ·rw [if_neg hk,mO,mO,ih]
   by_cases h1:k=u
   ·subst h1;rw [if_pos rfl,if_pos rfl,if_neg hk]
   ·rw [if_neg h1,if_neg h1]
theorem kV {ρ ρ':Env} : ∀ {ks:List Nat},(∀ t∈ks,look ρ t=look ρ' t)→cW ks ρ=cW ks ρ'
 | [],_=>rfl
 | k::ks,h=>by
  have ih:cW ks ρ=cW ks ρ':=kV fun t ht=>h t (List.mem_cons_of_mem _ ht)
  simp only [cW,h k List.mem_cons_self,ih]
theorem jT {ρ:Env} {ts:List Nat} (h : ∀ p∈ρ,ts.contains p.1=false):aX ρ ts=ρ:=by
 induction ρ with
 | nil=>rfl
 | cons p ρ ih=>
  obtain ⟨k,x⟩:=p
  have h1:=h (k,x) List.mem_cons_self
  simp only at h1
  rw [gS,h1,if_neg (by simp),ih (fun p hp=>h p (List.mem_cons_of_mem _ hp))]
theorem lV {ρ:Env} {t:Nat} {v:Value} (h : ∀ p∈ρ,p.1≠t):aX (setE ρ t v) [t]=ρ:=by
 have hid:aX ρ [t]=ρ:=jT fun p hp=>by simpa using fun e=>h p hp e
 induction ρ with
 | nil=>simp [setE]
 | cons p ρ ih=>
  obtain ⟨k,x⟩:=p
  have hk:=h (k,x) List.mem_cons_self
  simp only at hk
  have hid2:aX ρ [t]=ρ:=jT fun p hp=>by simpa using fun e=>h p (List.mem_cons_of_mem _ hp) e
  simp only [setE,if_neg hk]
  split
  ·rw [gS,if_pos (by simp),hid]
  ·rw [gS,if_neg (by simpa using hk),ih (fun p hp=>h p (List.mem_cons_of_mem _ hp)) hid2]
theorem jE {X Y:Env→Heap→Prop} {R:Post}:fK X (fK Y R)=fK X R:=by
 funext e ρ h;cases e<;>rfl
abbrev forL (a i c:Nat) (ks ks2:List Nat) (bound:E) (body:LC):LC:=
 .loop (.seq (.seq (.reg false (.fin ks [(c,.bin (.cmp .lss) (.tmp i) bound)] [])) (.cond (.tmp c) [c] .skip (.exit a)))
  (.seq body (.reg false (.fin ks2 [(i,.bin (.arith .add) (.tmp i) (.con (.int .i64 1)))] []))))
def ql (kp ks ks2:List Nat) (c i:Nat):Bool:=kp.all fun t=>!ks.contains t&&t != c&&(t == i||!ks2.contains t)
theorem kM {kp:List Nat} {vs:List Value} {p:Nat × Value} (h:p∈kp.zip vs):p.1∈kp:=(List.of_mem_zip h).1
theorem Am {P:Program} {Q:Post} {ρ:Env} {h:Heap} {a i c:Nat} {ks ks2:List Nat} {bound:E} {body:LC} {σ:Type} (kp:List Nat) (vals:σ→Nat→List Value) (J:σ→Nat→Heap→Prop) (n:Nat) (s0:σ)
  (hok:ql kp ks ks2 c i=true) (hn:n≤9223372036854775806) (h0:cW kp ρ=kp.zip (vals s0 0)) (hj:J s0 0 h)
  (hi : ∀ s k,look (kp.zip (vals s k)) i=some (.int .i64 k))
  (hb : ∀ s k h,k≤n→J s k h→ev (look (kp.zip (vals s k))) (vw h) bound=some (.int .i64 n))
  (round : ∀ s k h,k<n→J s k h→∀ K:Env→Heap→Prop,(∀ s' ρ' h',look ρ' i=some (.int .i64 k)→cW kp (setE ρ' i (.int .i64 ((k:Int)+1)))=kp.zip (vals s' (k+1))→J s' (k+1) h'→K ρ' h')→body.wp P (fK K (gA a Q)) (kp.zip (vals s k)) h)
  (done : ∀ s h,J s n h→Q .normal (kp.zip (vals s n)) h):LC.wp P (forL a i c ks ks2 bound body) (gA a Q) ρ h:=by
 simp only [ql,List.all_eq_true,Bool.and_eq_true,Bool.not_eq_true',bne_iff_ne,Bool.or_eq_true,beq_iff_eq,ne_eq] at hok
 refine gX kp (fun m ρ h=>∃ s k,k≤n∧ρ=kp.zip (vals s k)∧m=n-k∧J s k h) n ⟨s0,0,by omega,h0,by omega,hj⟩ ?_
 rintro m ρ h ⟨s,k,hk,rfl,rfl,hJ⟩ K hK
 have hkill:aX (kp.zip (vals s k)) ks=kp.zip (vals s k):=jT fun p hp=>(hok p.1 (kM hp)).1.1
 have hne : ∀ p∈kp.zip (vals s k),p.1≠c:=fun p hp=>(hok p.1 (kM hp)).1.2
 have hk2 : ∀ v,aX (setE (kp.zip (vals s k)) c v) [c]=kp.zip (vals s k):=fun v=>lV hne
 have hlk : ∀ v,look (setE (kp.zip (vals s k)) c v) c=some v:=fun v=>by rw [b8,if_pos rfl]
 simp only [ry,kB,gI,ft,iy,kU,iD,nr,hi,hb s k h hk hJ,Option.bind_some,yg,gW,kG,true_and,bT,hkill,bI,jP,hlk,iV,hk2,oV,oz,lQ,lJ,if_true]
 refine ⟨fun hlt=>?_,fun hge=>?_⟩
 ·have hlt':k<n:=by omega
  rw [jE]
  refine round s k h hlt' hJ _ fun s' ρ' h' hl he hJ'=>?_
  simp only [kB,gI,ft,iy,kU,iD,nr,hl,kG,true_and,Option.bind_some,vc,Option.bind_some,uc,gW,bT,bI,true_and]
  rw [cw (by omega) (by omega)]
  refine hK (n-(k+1)) _ _ (by omega) ⟨s',k+1,by omega,?_,rfl,hJ'⟩
  rw [←he]
  refine kV fun t ht=>?_
  rw [b8,b8,ff]
  split
  ·rfl
  ·rename_i hti
   rcases (hok t ht).2 with e | e
   ·exact absurd e.symm hti
   ·rw [e];rfl
 ·have:k=n:=by omega
  subst this
  exact done s h hJ
abbrev forR (a i c:Nat) (ks ks2:List Nat) (bound:E) (body:LC):LC:=
 .loop (.seq (.reg false (.fin ks [(c,.bin (.cmp .lss) (.tmp i) bound)] [])) (.seq (.cond (.tmp c) [c] .skip (.exit a))
  (.seq body (.reg false (.fin ks2 [(i,.bin (.arith .add) (.tmp i) (.con (.int .i64 1)))] [])))))
theorem aA {P:Program} {Q:Post} {ρ:Env} {h:Heap} {a i c:Nat} {ks ks2:List Nat} {bound:E} {body:LC} {σ:Type} (kp:List Nat) (vals:σ→Nat→List Value) (J:σ→Nat→Heap→Prop) (n:Nat) (s0:σ)
  (hok:ql kp ks ks2 c i=true) (hn:n≤9223372036854775806) (h0:cW kp ρ=kp.zip (vals s0 0)) (hj:J s0 0 h)
  (hi : ∀ s k,look (kp.zip (vals s k)) i=some (.int .i64 k))
  (hb : ∀ s k h,k≤n→J s k h→ev (look (kp.zip (vals s k))) (vw h) bound=some (.int .i64 n))
  (round : ∀ s k h,k<n→J s k h→∀ K:Env→Heap→Prop,(∀ s' ρ' h',look ρ' i=some (.int .i64 k)→cW kp (setE ρ' i (.int .i64 ((k:Int)+1)))=kp.zip (vals s' (k+1))→J s' (k+1) h'→K ρ' h')→body.wp P (fK K (gA a Q)) (kp.zip (vals s k)) h)
  (done : ∀ s h,J s n h→Q .normal (kp.zip (vals s n)) h):LC.wp P (forR a i c ks ks2 bound body) (gA a Q) ρ h:=by
 simp only [ql,List.all_eq_true,Bool.and_eq_true,Bool.not_eq_true',bne_iff_ne,Bool.or_eq_true,beq_iff_eq,ne_eq] at hok
 refine gX kp (fun m ρ h=>∃ s k,k≤n∧ρ=kp.zip (vals s k)∧m=n-k∧J s k h) n ⟨s0,0,by omega,h0,by omega,hj⟩ ?_
 rintro m ρ h ⟨s,k,hk,rfl,rfl,hJ⟩ K hK
 have hkill:aX (kp.zip (vals s k)) ks=kp.zip (vals s k):=jT fun p hp=>(hok p.1 (kM hp)).1.1
 have hne : ∀ p∈kp.zip (vals s k),p.1≠c:=fun p hp=>(hok p.1 (kM hp)).1.2
 have hk2 : ∀ v,aX (setE (kp.zip (vals s k)) c v) [c]=kp.zip (vals s k):=fun v=>lV hne
 have hlk : ∀ v,look (setE (kp.zip (vals s k)) c v) c=some v:=fun v=>by rw [b8,if_pos rfl]
 simp only [ry,kB,gI,ft,iy,kU,iD,nr,hi,hb s k h hk hJ,Option.bind_some,yg,gW,kG,true_and,bT,hkill,bI,jP,hlk,iV,hk2,oV,oz,lQ,lJ,if_true]
 refine ⟨fun hlt=>?_,fun hge=>?_⟩
 ·have hlt':k<n:=by omega
  rw [jE]
  refine round s k h hlt' hJ _ fun s' ρ' h' hl he hJ'=>?_
  simp only [kB,gI,ft,iy,kU,iD,nr,hl,kG,true_and,Option.bind_some,vc,Option.bind_some,uc,gW,bT,bI,true_and]
  rw [cw (by omega) (by omega)]
  refine hK (n-(k+1)) _ _ (by omega) ⟨s',k+1,by omega,?_,rfl,hJ'⟩
  rw [←he]
  refine kV fun t ht=>?_
  rw [b8,b8,ff]
  split
  ·rfl
  ·rename_i hti
   rcases (hok t ht).2 with e | e
   ·exact absurd e.symm hti
   ·rw [e];rfl
 ·have:k=n:=by omega
  subst this
  exact done s h hJ
theorem eI {P:Program} {Q:Post} {ρ:Env} {h:Heap} {r:Reg} (H:View) (hH:H.le (vw h)) (hw:df P (some H) r (Q .normal) ρ h):LC.wp P (.reg true r) Q ρ h:=⟨H,View.oZ hH,fj (fun _ _=>View.oZ) hw⟩
end Go.Lft
namespace Go.Lft
open Go
variable {po po2 po3:OP} {pp:PP}
@[simp] theorem Ct {b o n:Nat}:(⟨b,o,none⟩:Addr).add n=⟨b,o+n,none⟩:=aL rfl n
@[simp] theorem Cr {H:View} {a:Addr}:Un.ev H .nilPtr (.pointer (some a))=some (.pointer (some a)):=rfl
@[simp] theorem Du {H:View} {a:Addr} {o:Nat}:Un.ev H (.fld o) (.pointer (some a))=some (.pointer (some (a.add o))):=rfl
@[simp] theorem CV {H:View} {k q:IntKind} {a:Int}:Un.ev H (.conv k) (.int q a)=some (.int k (k.wrap a)):=rfl
@[simp] theorem C3 {H:View} {o:Nat} {cs:Array Value}:Un.ev H (.part o) (.agg cs)=cs[o]?:=rfl
@[simp] theorem CO {H:View} {o n:Nat} {cs:Array Value}:Un.ev H (.parts o n) (.agg cs)=some (.agg (cs.extract o (o+n))):=rfl
@[simp] theorem Dq {H:View} {o:Nat} {cs:Array Value}:Un.ev H (.ext o) (.tuple cs)=cs[o]?:=rfl
def Bh:Value→Value→Option Value
 | .tuple vs,u=>some (.tuple (vs.push u))
 | _,_=>none
@[simp] theorem A7 {vs:Array Value} {u:Value}:Bh (.tuple vs) u=some (.tuple (vs.push u)):=rfl
@[simp] theorem Bs {σ:Nat→Option Value} {H:View} {x y:E}:ev σ H (.snoc x y)=(ev σ H x).bind fun v=>(ev σ H y).bind fun u=>Bh v u:=by
 simp only [ev]
 cases hx:ev σ H x with
 | none=>rfl
 | some v=>
  cases hy:ev σ H y with
  | none=>cases v<;>rfl
  | some u=>cases v<;>rfl
@[simp] theorem DE {H:View} {f:Nat} {vs:Array Value}:Un.ev H (.fn f) (.tuple vs)=some (.func (.func f) #[] vs):=rfl
@[simp] theorem Cj {cs:Array Value}:(Value.agg cs).cells=cs:=rfl
@[simp] theorem AX {a:Option Addr} {n c:Nat}:(Value.slice a n c).cells = #[.slice a n c]:=rfl
@[simp] theorem Cg {k:IntKind} {n:Int}:(Value.int k n).cells = #[.int k n]:=rfl
@[simp] theorem BQ {b:Bool}:(Value.bool b).cells = #[.bool b]:=rfl
@[simp] theorem zG {a:Option Addr}:(Value.pointer a).cells = #[.pointer a]:=rfl
def wL (P:Program) (t:TypeId):Option (List (Nat × Nat)):=
 match P.underlying t with
 | some (.struct fields)=>fields.toList.mapM fun f=>(b6 P f.type).map fun n=>(f.offset,n)
 | some (.array k e)=>(b6 P e).map fun n=>(List.range k).map fun i=>(i*n,n)
 | _=>none
section
variable {P:Program} {ty:TypeId} {us:List (Nat × Value)} {h:Heap} {K:Value→Heap→Prop}
theorem pW {f g:Nat→Option (Nat × Nat)} (hfg : ∀ i p,f i=some p→g i=some p) : ∀ {vs:List (Nat × Value)} {c cs:Array Value},Instr.fill f c vs=some cs→Instr.fill g c vs=some cs
 | [],c,cs,h=>h
 | (i,v)::vs,c,cs,h=>by
  simp only [Instr.fill] at h ⊢
  split at h
  ·cases h
  ·rename_i off size hi
   rw [hfg i _ hi]
   simp only
   split at h
   ·cases h
   ·rename_i hc
    rw [if_neg hc]
    exact pW hfg h
theorem run_places {w:World} : ∀ {fs:List Field} {ps:List (Nat × Nat)},(fs.mapM fun f=>(b6 P f.type).map fun n=>(f.offset,n))=some ps→
  (fs.mapM fun (f:Field)=>Prod.mk f.offset <$> sizeOf f.type).run P w=Result.ok ps w
 | [],ps,h=>by simp at h;subst h;simp
 | f::fs,ps,h=>by
  simp only [List.mapM_cons,Option.bind_eq_bind,Option.bind_eq_some_iff,Option.map_eq_some_iff] at h
  obtain ⟨p,⟨n,hn,rfl⟩,ps',h2,h3⟩:=h
  simp only [Option.pure_def,Option.some.injEq] at h3
  subst h3
  have ih:=run_places (w:=w) h2
  simp [List.mapM_cons,Sem.run_bind,run_sizeOf hn,ih]
theorem bc {t:TypeId} {ps:Array (Nat × Operand)} {vs:List (Nat × Value)} {z:Value} {places:List (Nat × Nat)} {cs:Array Value} (hz:(P.info? t).map (·.zero)=some (some z)) (hpl:wL P t=some places)
  (hp:ps.map (fun p=>(p.1,asg us p.2))=vs.toArray) (hf:Instr.fill (places[·]?) z.cells vs=some cs) (hk:K (.agg cs) h):step P (.build t ps) ty us h K:=by
 refine cB (cg fun w hw=>⟨.agg cs,w,?_,Same.refl _,by rw [hw];exact hk⟩)
 have hp':(ps.map fun x=>match x with | (i,x)=>(i,asg us x))=vs.toArray:=hp
 simp only [Option.map_eq_some_iff] at hz
 obtain ⟨i,hi,hz⟩:=hz
 simp only [a6,execOp,hp']
 unfold wL at hpl
 split at hpl
 ·rename_i fields hu
  have hr:=run_places (P:=P) (w:=w) hpl
  have hr2:(fields.mapM fun (f:Field)=>Prod.mk f.offset <$> sizeOf f.type).run P w=Result.ok places.toArray w:=by
   rw [Array.mapM_eq_mapM_toList]
   simp only [Sem.run_map]
   erw [hr];rfl
  have hf':Instr.fill (places.toArray[·]?) z.cells vs=some cs:=by simpa using hf
  simp [Instr.build,zeroValue,typeInfo,hi,hz,run_underlying hu,hr2,hf',hf]
 ·rename_i k e hu
  simp only [Option.map_eq_some_iff] at hpl
  obtain ⟨n,hn,rfl⟩:=hpl
  have hf':=pW (g:=fun i=>some (i*n,n)) (fun i p hp=>by
   simp only [List.getElem?_map,Option.map_eq_some_iff] at hp
   obtain ⟨j,hj,rfl⟩:=hp
   rcases Nat.lt_or_ge i k with hlt | hge
   ·rw [List.getElem?_range hlt] at hj;cases hj;rfl
   ·rw [List.getElem?_eq_none (by simpa using hge)] at hj;cases hj) hf
  simp [Instr.build,zeroValue,typeInfo,hi,hz,run_underlying hu,run_sizeOf hn,hf']
 ·cases hpl
theorem nY {t e:TypeId} {n size:Nat} {bytes:Nat} {z:Value} {ps:Array (Nat × Operand)} {vs:List (Nat × Value)} {cs:Array Value} (hT:dA P t e size bytes z) (hn:n*size≤16777216) (hp:ps.map (fun p=>(p.1,asg us p.2))=vs.toArray)
  (hf:Instr.fill (fun j=>some (j*size,size)) ((Array.range (n*size)).map (z.cells[· % z.cells.size]!)) vs=some cs) (hk:K (.slice (some ⟨h.size,0,none⟩) n n) (h.push (.cells cs e))):step P (.buildSlice t n ps) ty us h K:=by
 obtain ⟨ht,⟨i,hi,hz,hsize,hby⟩,_⟩:=hT
 exact jx ht hi hz hsize hn hp hf hk
theorem dw {t:TypeId} {z:Value} (hz:(P.info? t).map (·.zero)=some (some z)) (hk:K (.pointer (some ⟨h.size,0,none⟩)) (h.push (.cells z.cells t))):step P (.alloc t) ty us h K:=by
 simp only [Option.map_eq_some_iff] at hz
 obtain ⟨i,hi,hz⟩:=hz
 refine cB (cg fun w hw=>?_)
 subst hw
 refine ⟨_,w.alloc (.cells z.cells t),?_,fN _ _,hk⟩
 simp only [a6,execOp]
 simp [Instr.alloc,zeroValue,typeInfo,hi,hz,newVar,newRow]
theorem lG {t:TypeId} {x:Operand} {v:Value} (hx:asg us x=v) (hk:K (.pointer (some ⟨h.size,0,none⟩)) (h.push (.cells v.cells t))):step P (.box t x) ty us h K:=by
 refine cB (cg fun w hw=>?_)
 subst hw
 refine ⟨_,w.alloc (.cells v.cells t),?_,fN _ _,hk⟩
 simp only [a6,execOp]
 simp [Instr.box,hx,newVar,newRow]
theorem cJ {t e:TypeId} {n g o:Nat} {x y:Operand} {v:Value} {cur:Array Value} (hsz:b6 P t=some n) (hx:asg us x = .pointer (some ⟨g,o,none⟩)) (hy:asg us y=v) (hv:v.cells.size=n) (h1 : ∀ c∈v.cells.toList,c.oneCell'=true)
  (hg:h[g]? = some (.cells cur e (0,0))) (hfit:o+n≤cur.size)
  (hk : ∀ h':Heap,h'.size=h.size→(∃ row:Array Value,h'[g]? = some (.cells row e (0,0))∧row.toList=cur.toList.take o++v.cells.toList++cur.toList.drop (o+n))→(∀ k,k≠g→h'[k]? = h[k]?)→K undef h'):step P (.store t x y) ty us h K:=by
 refine cB (iP fun w hw=>?_)
 subst hw
 have hlen:v.cells.toList.length=n:=by simpa using hv
 have hrun:=run_storeCells_at P g o e v.cells.toList 0 cur w hg (by simp only [Nat.add_zero];omega) h1
 obtain ⟨row,hrow⟩ : ∃ row:Array Value,row.toList=cur.toList.take o++v.cells.toList++cur.toList.drop (o+n):=⟨(cur.toList.take o++v.cells.toList++cur.toList.drop (o+n)).toArray,rfl⟩
 have hrun':Sem.run P (storeCells ⟨g,o,none⟩ v.cells.toList) w = .ok () (w.setRow g row):=by
  rw [hrun];congr 2
  rw [←Array.toList_inj,hrow,hlen];rfl
 refine ⟨w.setRow g row,?_,Same.lE rfl rfl rfl (by simp) hg (by simp) (fun k _ hne=>setRow_other w g k _ (fun e=>hne e)),hk _ (by simp) ⟨row,setRow_heap w g cur row e _ hg,hrow⟩ fun k hne=>setRow_other w g k _ (fun e=>hne e)⟩
 simp only [a6,execOp,hx,hy]
 simp [Instr.storeAt,Instr.sureAddr,storeVar,run_sizeOf (P:=P) (w:=w) hsz,hv,hrun']
theorem mK {t ty2:TypeId} {z:Value} {x y:Operand} {us2:Value→List (Nat × Value)} {v:Value} {K:Value→Heap→Prop} (hz:(P.info? t).map (·.zero)=some (some z)) (hzc:z.cells.size=1) (hsz:b6 P t=some 1) (hv:v.cells = #[v]) (hone:v.oneCell'=true)
  (hx : ∀ p,asg (us2 p) x=p) (hy : ∀ p,asg (us2 p) y=v) (hk : ∀ h':Heap,(vw h).le (vw h')→h'.size=h.size+1→h'[h.size]? = some (.cells #[v] t (0,0))→K (.pointer (some ⟨h.size,0,none⟩)) h') :
  @step po P (.alloc t) ty us h fun p h2=>@step po2 P (.store t x y) ty2 (us2 p) h2 fun _ h3=>K p h3:=by
 refine dw hz ?_
 refine cJ (g:=h.size) (o:=0) (n:=1) (v:=v) (cur:=z.cells) (e:=t) hsz (hx _) (hy _) (by rw [hv];rfl) (by rw [hv];simpa using hone) (by simp) (by omega) fun h' hs ⟨row,hrow,he⟩ hoth=>?_
 have hrow2:row = #[v]:=by
  rw [←Array.toList_inj,he,hv]
  simp only [List.take_zero,List.nil_append,Nat.zero_add]
  rw [List.drop_eq_nil_of_le (by simp [hzc])];rfl
 rw [hrow2] at hrow
 refine hk h' (fun b o hb=>?_) (by rw [hs];simp) hrow
 have hlt:=View.lt (View.le_refl (vw h)) hb
 show h'[b]? = _
 rw [hoth b (by omega)]
 exact bg _ _ b o hb
theorem fA {f:FuncId} {t:Nat} {ops:List Operand} {T:Array TypeId} {caps:Array Value} (hf:asg us (.tmp t) = .func (.func f) #[] caps) {R:Value→Heap→Prop} (hfn:isFn P f=true)
  (hc:ay P f (ops.map (asg us)++caps.toList).toArray h R) (hk : ∀ v h',R v h'→K v h'):step P (.call ⟨.value (.tmp t),ops.toArray,T⟩) ty us h K:=by
 refine cB (oq (R:=R) (f:=f) (args:=(ops.map (asg us)++caps.toList).toArray) (fun w _=>?_) hc hk)
 unfold isFn at hfn
 cases hfn':P.funcs[f]? with
 | none=>simp [hfn'] at hfn
 | some fn=>
  simp only [hfn',Bool.and_eq_true,bne_iff_ne,ne_eq] at hfn
  obtain ⟨h1,h2⟩:=hfn
  simp [a6,execOp,resolve,Deferred.ofValue,hf,invoke,callFunc,program,Sem.run,hfn',h1,Option.isNone]
  cases hb:fn.body<;>simp [hb] at h2 ⊢
end
instance:Rep (Int × Int) where
 n:=2
 agg:=true
 rd:=fun _ cs d=>cs=[.int .i64 d.1,.int .i64 d.2]∧(-9223372036854775808≤d.1∧d.1≤9223372036854775807)∧-9223372036854775808≤d.2∧d.2≤9223372036854775807
 mono:=fun _ h=>h
 len:=fun h=>by rw [h.1];rfl
 one:=fun h=>by cases h
 flat:=fun h u hu=>by rw [h.1] at hu;simp at hu;rcases hu with rfl | rfl<;>rfl
 pos:=by decide
 cT:=fun h=>h
theorem qZ {H:View} {v:Value} {d:Int × Int}:Rd H v d↔v = .agg #[.int .i64 d.1,.int .i64 d.2]∧(-9223372036854775808≤d.1∧d.1≤9223372036854775807)∧-9223372036854775808≤d.2∧d.2≤9223372036854775807:=by
 simp only [Rd,Rep.agg,Rep.rd,if_true]
 constructor
 ·rintro ⟨cs,rfl,h1,h2⟩
  refine ⟨?_,h2⟩
  congr 1
  rw [←Array.toList_inj,h1]
 ·rintro ⟨rfl,h2⟩
  exact ⟨_,rfl,rfl,h2⟩
theorem SlRd.idxn {α:Type} [Rep α] {H:View} {v:Value} {l:List α} (h:SlRd H v l) {N:Nat} (hn:Rep.n α=N) {k:IntKind} {i:Int} (h0:0≤i) (h1:i<l.length):Bn.ev (.idx N) v (.int k i)=some (.pointer (some ((slA v).add (i.toNat*N)))):=by
 have:=h.idx (k:=k) h0 h1
 rw [hn] at this
 exact this
theorem SlRd.pair {H K:View} {v:Value} {l:List (Int × Int)} (h:SlRd H v l) (hk:H.le K) {i:Nat} (hi:i<l.length):Un.ev K (.ao 2) (.pointer (some ((slA v).add (i*2))))=some (.agg #[.int .i64 (nth l i).1,.int .i64 (nth l i).2]):=by
 obtain ⟨u,h1,h2⟩:=((h.at hi).mono hk).ao rfl
 rw [qZ] at h2
 rw [h2.1] at h1
 rw [aj hi];exact h1
end Go.Lft
namespace Go.Lft
open Go
variable {po po2 po3:OP} {pp:PP}
theorem uL {P:Program} {s:Sem Next} {l:Nat} {vs:List Value} {h:Heap} {R:Bool→Heap→Prop} {K:Value→Heap→Prop} (hs : ∀ w:World,w.heap=h→s.run P w=(Instr.yield l vs.toArray).run P w)
  (hy:tW P l vs h R) (hk : ∀ b h',R b h'→K (.bool b) h'):eh P s h K:=by
 intro w hw r o a K' Q' hK hQ
 obtain ⟨f,tmps,asg,body,h1,h2⟩:=hy w hw
 rw [hs w hw,h1]
 simp only [Oper.uponIn]
 have h3:RoundIn (Fw r) 0 P l f tmps asg body w _:=h2
 refine ⟨fun h=>by simp [Fw,Fence.wide] at h,h3.mono ?_⟩
 rintro e w' ⟨b,rfl,hR,hsame⟩
 exact hK _ w' (hk _ _ hR) hsame
theorem zw {P:Program} {t l:Nat} {ops:List Operand} {T:Array TypeId} {ty:TypeId} {us:List (Nat × Value)} {h:Heap} {K:Value→Heap→Prop} (hf:asg us (.tmp t) = .func (.yield l) #[] #[]) {R:Bool→Heap→Prop}
  (hy:tW P l (ops.map (asg us)) h R) (hk : ∀ b h',R b h'→K (.bool b) h'):step P (.call ⟨.value (.tmp t),ops.toArray,T⟩) ty us h K:=by
 refine cB (uL (l:=l) (vs:=ops.map (asg us)) (fun w _=>?_) hy hk)
 simp [a6,execOp,resolve,Deferred.ofValue,hf,invoke]
theorem oM {β:Type} {enc:β→List Value} {P:Program} {g:E} {ps:List Nat} {asg body:LC} {Q:Post} {ρ:Env} {h:Heap} {gf:Nat} {caps:List Value} {all:List β} {A:β→Env} (V W0:View) (I:Option Exit→Nat→View→Heap→Prop)
  (hg:ev (look ρ) (vw h) g=some (.func (.func gf) #[] caps.toArray)) (hf:isFn P gf=true) (hi:Iter P gf caps V (all.map enc)) (hl : ∀ x,(enc x).length=ps.length) (hV:V.le W0) (hI : ∀ e k,ja h.size (I e k)) (h0:I none 0 W0 h)
  (hasg : ∀ x h1,@LC.wp noPP P asg (fun e ρ1 h2=>e = .normal∧h2=h1∧ρ1=A x) (bT ρ (ps.zip (enc x))) h1)
  (round : ∀ k x W h1,(∀ b,b<h.size→W b=W0 b)→all[k]? = some x→I none k W h1→∀ K:Post,(∀ ρ2 h3,I none (k+1) W h3→K .normal ρ2 h3)→(∀ e ρ2 h3,e≠.normal→I (some e) (k+1) W h3→K e ρ2 h3)→@LC.wp noPP P body K (A x) h1)
  (done : ∀ W h1,(∀ b,b<h.size→W b=W0 b)→I none all.length W h1→Q .normal ρ h1)
  (left : ∀ e k W h1,(∀ b,b<h.size→W b=W0 b)→I (some e) k W h1→Q e ρ h1):LC.wp P (.rangef g ps asg body) Q ρ h:=by
 refine ⟨gf,caps,V,W0,all.map enc,I,fun k=>match all[k]? with | some x=>A x | none=>[],hg,hf,hi,fun vs hvs=>?_,hV,hI,h0,fun k vs W h1 ha hk hIk=>?_,fun W h1 a b=>done W h1 a (by simpa using b),fun e k W h1 _ _=>left e k W h1⟩
 ·obtain ⟨x,_,rfl⟩:=List.mem_map.1 hvs
  exact hl x
 ·rw [List.getElem?_map,Option.map_eq_some_iff] at hk
  obtain ⟨x,hk,rfl⟩:=hk
  simp only [hk]
  refine ⟨hasg x h1,round k x W h1 ha hk hIk _ (fun ρ2 h3 hh=>hh) fun e ρ2 h3 hne hh=>?_⟩
  cases e<;>first | exact absurd rfl hne | exact hh
theorem SlRd.drop {α:Type} [Rep α] {H:View} {v:Value} {l:List α} (h:SlRd H v l) {n:Nat} (hn:n≤l.length) {kd:IntKind} : ∃ u,Bn.ev (.lo (Rep.n α)) v (.int kd n)=some u∧SlRd H u (l.drop n):=by
 obtain ⟨a,cap,rfl,h1,h2,h3⟩:=h
 refine ⟨.slice (if cap=n then a else a.map (·.add (n*Rep.n α))) (l.length-n) (cap-n),by simp [Bn.ev,vL,vI,hn],if cap=n then a else a.map (·.add (n*Rep.n α)),cap-n,?_,?_,?_,?_⟩
 ·rw [List.length_drop]
 ·rw [List.length_drop];omega
 ·rw [List.length_drop];omega
 ·rcases h3 with rfl | ⟨ad,rfl,hs,hat⟩
  ·left;simp
  ·by_cases hc:cap=n
   ·left;simp;omega
   ·refine .inr ⟨ad.add (n*Rep.n α),by simp [hc],by rw [aL hs],fun i hi=>?_⟩
    rw [List.length_drop] at hi
    rw [List.getElem_drop]
    have:=hat (n+i) (by omega)
    rw [aL hs] at this ⊢
    rw [aL rfl]
    simpa [Nat.add_mul,Nat.add_assoc] using this
def but (v:Value) (h:Heap):View:=fun b=>if v.ownBlock=some b then none else h[b]?
theorem ya {v:Value} {h:Heap}:(but v h).le (vw h):=fun b o hb=>by
 unfold but at hb
 split at hb
 ·cases hb
 ·exact hb
theorem BT {v:Value} {h:Heap}:Av (but v h) v:=fun b hb=>by unfold but;rw [if_pos hb]
theorem tI {v:Value} {h h':Heap} (hle:(vw h).le (vw h')):(but v h).le (but v h'):=fun b o hb=>by
 unfold but at *
 split at hb
 ·cases hb
 ·rename_i hne;rw [if_neg hne];exact hle b o hb
theorem Bt {V:View} {v:Value} {h:Heap} (hV:V.le (vw h)) (ha:Av V v):V.le (but v h):=fun b o hb=>by
 unfold but
 split
 ·rename_i e;rw [ha b e] at hb;cases hb
 ·exact hV b o hb
theorem Mine.beside {α β:Type} [Rep α] [Rep β] {h0 h h':Heap} {e e1:TypeId} {v2 v1 v1':Value} {l2:List α} {l1':List β} {V:View} {W:View} (m2:Mine nothing h0 h nothing e v2 l2) (m1:Mine V h0 h' W e1 v1' l1') (mv:gB h h' v1 v1') (ne:v2.ownBlock=none∨v2.ownBlock≠v1.ownBlock):Mine nothing h0 h' nothing e v2 l2:=
 ⟨m1.old,fun _ _ h=>(by cases h),fun _ _=>rfl,m2.av0,Old.nothing _ _,m2.own.kept mv.kept ne⟩
theorem Mine.over {α:Type} [Rep α] {V:View} {h0 h:Heap} {e:TypeId} {v:Value} {l:List α} (m:Mine V h0 h nothing e v l):Mine (vw h0) h0 h (but v h) e v l:=
 ⟨m.old,ya,BT,m.av0,fun b o hb hx=>by
  have h1:=ya b o hx
  have h2:h0[b]? = some h0[b]:=Array.getElem?_eq_getElem hb
  have h3:h[b]? = some h0[b]:=m.old b _ h2
  have h4:h[b]? = some o:=h1
  rw [h3] at h4
  cases h4;exact h2,m.own.mono (fun _ _ h=>by cases h)⟩
theorem Mine.Cw {V W:View} {h0 h:Heap} {e:TypeId} {v:Value} {l:List Int} (m:Mine V h0 h W e v l):Mine nothing h0 h nothing e v l:=
 ⟨m.old,fun _ _ h=>(by cases h),fun _ _=>rfl,m.av0,Old.nothing _ _,m.own⟩
theorem BN {a:Addr} {n c m:Nat} {k:IntKind} {i:Int} (h0:0≤i) (h1:i<n):Bn.ev (.idx m) (.slice (some a) n c) (.int k i)=some (.pointer (some (a.add (i.toNat*m)))):=by
 simp [Bn.ev,vL,vI,h0,h1]
theorem Ax {a:Addr} {n c:Nat} {k:IntKind} {i:Int} (h0:0≤i) (h1:i<n):Bn.ev (.idx 1) (.slice (some a) n c) (.int k i)=some (.pointer (some (a.add i.toNat))):=by
 rw [BN h0 h1,Nat.mul_one]
theorem aY {H:View} {b o:Nat} {c:Array Value} {T:TypeId} {fz:Nat × Nat} {v:Value} (h:H b=some (.cells c T fz)) (hv:c[o]? = some v):ah H ⟨b,o,none⟩=some v:=by
 simp [ah,h,hv]
theorem SlRd.cells {α:Type} [Rep α] {H:View} {v:Value} {l:List α} (h:SlRd H v l):v.cells = #[v]∧v.oneCell'=true:=by
 obtain ⟨a,cap,rfl,_⟩:=h;exact ⟨rfl,rfl⟩
theorem jv.ext {h0 h h':Heap} (hs:jv h0.size h h') (hle:(vw h0).le (vw h)):(vw h0).le (vw h'):=fun b o hb=>by
 have hlt:=View.lt (View.le_refl (vw h0)) hb
 show h'[b]? = _
 rw [hs.same b (.inl hlt)];exact hle b o hb
theorem jv.fu {h0 h h':Heap} (hs:jv h0.size h h'):(fresh h0 h).cT.le (fresh h0 h'):=fun b o hb=>by
 have h1:=View.th _ _ hb
 have h2 : ∀ x,o≠.deferred x:=by
  intro x e
  subst e
  unfold View.cT at hb
  split at hb<;>cases hb
 unfold fresh at h1 ⊢
 split at h1
 ·cases h1
 ·rename_i hge
  rw [if_neg hge,hs.same b (.inr ?_)]
  ·exact h1
  ·rw [h1];intro e;exact h2 _ (Option.some.inj e)
theorem jv.rd {α:Type} [Rep α] {h0 h h':Heap} {v:Value} {l:List α} (hs:jv h0.size h h') (hr:SlRd (fresh h0 h) v l):SlRd (fresh h0 h') v l:=
 gE.1 ((gE.2 hr).cT.mono hs.fu)
theorem kI {W:View} {h h':Heap} {b:Nat} (hb:b<h.size):grow W h h' b=W b:=by unfold grow;rw [if_pos hb]
theorem ja.grown {n:Nat} {J:View→Heap→Prop} (hJ:ja n J) {W:View} {h h':Heap} (hj:J W h) (hn:n≤h.size) (hle:(vw h).le (vw h')):J (grow W h h') h':=
 hJ.move hj (fun b hb=>kI (by omega)) (iW (View.le_trans (hJ.le hj) hle)) (fun b hb hlt=>⟨(kE hle).block b hlt (by simp),by rw [kI hlt];exact hb⟩) (fw hle)
theorem yP {P:Program} {t ty e:TypeId} {bytes:Nat} {z:Value} {x y:Operand} {us:List (Nat × Value)} {h:Heap} {k:IntKind} {n:Nat} {K:Value→Heap→Prop} (hT:dA P t e 1 bytes z) (hx:asg us x = .int k n) (hy:asg us y = .int k n) (hz1:z.cells = #[z])
  (hb:bytes*n≤140737488355328) (hb2:n≤140737488355328) (hk:K (.slice (some ⟨h.size,0,none⟩) n n) (h.push (.cells (List.replicate n z).toArray e))):step P (.makeSlice t x y) ty us h K:=by
 obtain ⟨ht,⟨i,hi,hz,hsize,hby⟩,hzs,hsz,hsmall⟩:=hT
 refine cB (cg fun w hw=>?_)
 subst hw
 have hrun:=run_make (P:=P) w t e i z ht hi hz k k (n:Int) (n:Int) (by omega) (Int.le_refl _) (by
  rw [hby]
  have:((bytes*n:Nat):Int)≤281474976710656:=by omega
  rwa [Int.natCast_mul] at this) (by omega)
 simp only [Int.toNat_natCast,hsize,Nat.mul_one] at hrun
 have hm:madeCells z.cells n=(List.replicate n z).toArray:=by
  rw [hz1]
  apply Array.ext
  ·simp [madeCells]
  ·intro j h1 h2
   simp [madeCells,Nat.mod_one]
 rw [hm] at hrun
 refine ⟨_,w.alloc (.cells (List.replicate n z).toArray e),?_,fN _ _,hk⟩
 simp only [a6,execOp,hx,hy]
 simp [hrun]
theorem OwnT.same {α:Type} [Rep α] {W:View} {h h':Heap} {e:TypeId} {v:Value} {l:List α} (o:OwnT W h e v l) (hb : ∀ b,v.ownBlock=some b→h'[b]? = h[b]?):OwnT W h' e v l:=by
 obtain ⟨bd,xs,⟨h1,h2⟩,h3⟩:=o
 refine ⟨bd,xs,⟨h1,?_⟩,h3⟩
 rcases h2 with h2 | ⟨g,cap,cur,rfl,hg,h4⟩
 ·exact .inl h2
 ·exact .inr ⟨g,cap,cur,rfl,(hb g rfl).trans hg,h4⟩
structure Rw {α:Type} [Rep α] (W:View) (h:Heap) (ot e:TypeId) (g:Nat) (rv:List Value) (ls:List (List α)):Prop where
 wle:W.le (vw h)
 wg:W g=none
 blk:h[g]? = some (.cells rv.toArray ot (0,0))
 len:rv.length=ls.length
 own : ∀ i,i<ls.length→OwnT nothing h e (nth rv i) (nth ls i)
 av : ∀ i,i<ls.length→Av W (nth rv i)
 ng : ∀ i,i<ls.length→(nth rv i).ownBlock≠some g
 dj : ∀ i j,i<ls.length→j<ls.length→i≠j→(nth rv i).ownBlock=none∨(nth rv i).ownBlock≠(nth rv j).ownBlock
section
variable {α:Type} [Rep α] {W:View} {h h':Heap} {ot e:TypeId} {g:Nat} {rv:List Value} {ls:List (List α)}
theorem Rw.lt (r:Rw W h ot e g rv ls):g<h.size:=(Array.getElem?_eq_some_iff.1 r.blk).1
theorem aB {β:Type} [Inhabited β] {n i:Nat} {x:β} (hi:i<n):nth (List.replicate n x) i=x:=by rw [aj (by simpa using hi)];simp
theorem Rw.start {n:Nat} (hW:W.le (vw h)) (hg:W g=none) (hb:h[g]? = some (.cells (List.replicate n (.slice none 0 0)).toArray ot (0,0))):Rw (α:=α) W h ot e g (List.replicate n (.slice none 0 0)) (List.replicate n []):=
 ⟨hW,hg,hb,by simp,fun i hi=>by rw [aB (by simpa using hi),aB (by simpa using hi)];exact OwnT.nil ..,fun i hi=>by rw [aB (by simpa using hi)];exact Av.nil _ _ _,
  fun i hi=>by rw [aB (by simpa using hi)];simp [Value.ownBlock],fun i j hi hj _=>by rw [aB (by simpa using hi)];exact .inl rfl⟩
theorem Rw.move (r:Rw W h ot e g rv ls) {W':View} (h1:W'.le (vw h')) (h2 : ∀ b,W b=none→b<h.size→h'[b]? = h[b]?∧W' b=none):Rw W' h' ot e g rv ls:=
 {wle:=h1,wg:=(h2 g r.wg r.lt).2,blk:=(h2 g r.wg r.lt).1.trans r.blk,len:=r.len,ng:=r.ng,dj:=r.dj
  own:=fun i hi=>(r.own i hi).same fun b hb=>(h2 b (r.av i hi b hb) ((r.own i hi).lt hb)).1
  av:=fun i hi b hb=>(h2 b (r.av i hi b hb) ((r.own i hi).lt hb)).2 }
theorem Rw.ext (r:Rw W h ot e g rv ls) (hle:(vw h).le (vw h')):Rw W h' ot e g rv ls:=
 r.move (View.le_trans r.wle hle) fun b hb hlt=>⟨(kE hle).block b hlt (by simp),hb⟩
theorem az {β:Type} [Inhabited β] {l:List β} {i j:Nat} {x:β} (hj:j<l.length):nth (l.set i x) j=if i=j then x else nth l j:=by
 rw [aj (by simpa using hj),List.getElem_set]
 split
 ·rfl
 ·rw [aj hj]
theorem Rw.put {h2 h3:Heap} {i:Nat} {v':Value} {l':List α} (r:Rw W h ot e g rv ls) (hi:i<ls.length) (o:OwnT nothing h2 e v' l') (m:gB h h2 (nth rv i) v')
  (hb:h3[g]? = some (.cells (rv.set i v').toArray ot (0,0))) (hoth : ∀ k,k≠g→h3[k]? = h2[k]?) (hsz:h3.size=h2.size):Rw W h3 ot e g (rv.set i v') (ls.set i l'):=by
 obtain ⟨hw',ha'⟩:=m.view r.wle (r.av i hi)
 have hlt:=r.lt
 have ng':v'.ownBlock≠some g:=by
  rcases m.at_ with e | e
  ·rw [e];exact r.ng i hi
  ·rw [e];intro e2;cases e2;omega
 have hv' : ∀ j,j<ls.length→j≠i→(nth rv j).ownBlock=none∨(nth rv j).ownBlock≠v'.ownBlock:=by
  intro j hj hne
  rcases m.at_ with e | e
  ·rw [e];exact r.dj j i hj hi hne
  ·right;rw [e];intro e2;have:=(r.own j hj).lt e2;omega
 have rl:=r.len
 refine ⟨fun b x hb=>?_,r.wg,hb,by simp [rl],fun j hj=>?_,fun j hj=>?_,fun j hj=>?_,fun j k hj hk hne=>?_⟩
 ·have hne:b≠g:=fun e=>by rw [e,r.wg] at hb;cases hb
  show h3[b]? = _
  rw [hoth b hne];exact hw' b x hb
 ·rw [List.length_set] at hj
  rw [az (by omega),az hj]
  split
  ·exact o.same fun b hb=>hoth b (fun e=>ng' (by rw [hb,e]))
  ·rename_i hne
   refine ((r.own j hj).kept m.kept (r.dj j i hj hi (fun e=>hne e.symm))).same fun b hb=>hoth b (fun e=>r.ng j hj (by rw [hb,e]))
 ·rw [List.length_set] at hj
  rw [az (by omega)]
  split
  ·exact ha'
  ·exact r.av j hj
 ·rw [List.length_set] at hj
  rw [az (by omega)]
  split
  ·exact ng'
  ·exact r.ng j hj
 ·rw [List.length_set] at hj hk
  rw [az (by omega),az (by omega)]
  split
  ·rename_i e1
   rw [if_neg (by omega)]
   rcases hv' k hk (by omega) with e | e
   ·rcases hb2:v'.ownBlock with _ | b
    ·exact .inl rfl
    ·right;rw [e];simp
   ·exact .inr fun e2=>e e2.symm
  ·split
   ·rename_i e1 e2
    exact hv' j hj (by omega)
   ·exact r.dj j k hj hk hne
theorem Rw.rd (r:Rw W h ot e g rv ls) {X:View} (hg:X g=h[g]?) (hx : ∀ i b,i<ls.length→(nth rv i).ownBlock=some b→X b=h[b]?) (hb:ls.length≤140737488355328):SlRd X (.slice (some ⟨g,0,none⟩) ls.length ls.length) ls:=by
 refine ⟨some ⟨g,0,none⟩,ls.length,rfl,Nat.le_refl _,hb,.inr ⟨_,rfl,rfl,fun i hi=>?_⟩⟩
 rw [aL rfl]
 have hlen:=r.len
 refine ⟨[nth rv i],⟨rv.toArray,ot,(0,0),rfl,by rw [hg];exact r.blk,?_⟩,nth rv i,rfl,?_⟩
 ·rw [aj (by omega)]
  simp only [Nat.zero_add,show Rep.n (List α)=1 from rfl,Nat.mul_one,List.length_cons,List.length_nil]
  have hd:rv.drop i=rv[i]::rv.drop (i+1):=List.drop_eq_getElem_cons (by omega)
  show List.take (0+1) (List.drop i rv)=_
  rw [hd];rfl
 ·rw [←aj hi]
  exact (r.own i hi).rd (fun _ _ h=>by cases h) (hx i · hi)
theorem Rw.fresh {h0:Heap} (r:Rw W h ot e g rv ls) (h0W:(vw h0).le W) (hb:ls.length≤140737488355328):SlRd (Lft.fresh h0 h) (.slice (some ⟨g,0,none⟩) ls.length ls.length) ls:=by
 have key : ∀ b,W b=none→h0.size≤b:=by
  intro b hb
  rcases Nat.lt_or_ge b h0.size with hlt | hge
  ·have:=h0W b h0[b] (Array.getElem?_eq_getElem hlt)
   rw [hb] at this;cases this
  ·exact hge
 refine r.rd (by unfold Lft.fresh;rw [if_neg (Nat.not_lt.2 (key g r.wg))]) (fun i b hi hbb=>by unfold Lft.fresh;rw [if_neg (Nat.not_lt.2 (key b (r.av i hi b hbb)))]) hb
end
def skip (B:Nat) (h:Heap):View:=fun b=>if b=B then none else h[b]?
theorem a8 {B:Nat} {h:Heap}:(skip B h).le (vw h):=fun b o hb=>by
 unfold skip at hb
 split at hb
 ·cases hb
 ·exact hb
theorem xJ {B:Nat} {h:Heap}:skip B h B=none:=by simp [skip]
theorem fC {B b:Nat} {h:Heap} (hb:b≠B):skip B h b=h[b]?:=by unfold skip;rw [if_neg hb]
theorem Ai {V:View} {B:Nat} {h:Heap} (hV:V.le (vw h)) (hB:V B=none):V.le (skip B h):=fun b o hb=>by
 have hne:b≠B:=fun e=>by rw [e,hB] at hb;cases hb
 rw [fC hne];exact hV b o hb
structure Bx {α:Type} [Rep α] (W:View) (h:Heap) (B:Nat) (T e:TypeId) (v:Value) (l:List α):Prop where
 wle:W.le (vw h)
 wB:W B=none
 box:h[B]? = some (.cells #[v] T (0,0))
 av:Av W v
 nv:v.ownBlock≠some B
 own:OwnT nothing h e v l
theorem xA {α:Type} [Rep α] {W:View} {h:Heap} {e:TypeId} {v:Value} {l:List α} (o:OwnT W h e v l):v.cells = #[v]∧v.oneCell'=true:=by
 have:=o.len (K:=nothing)
 cases v<;>first | exact ⟨rfl,rfl⟩ | (simp [Un.ev,vL] at this)
section
variable {α:Type} [Rep α] {W:View} {h h':Heap} {B:Nat} {T e:TypeId} {v:Value} {l:List α}
theorem Bx.lt (b:Bx W h B T e v l):B<h.size:=(Array.getElem?_eq_some_iff.1 b.box).1
theorem Bx.move (r:Bx W h B T e v l) {W':View} (h1:W'.le (vw h')) (h2 : ∀ b,W b=none→b<h.size→h'[b]? = h[b]?∧W' b=none):Bx W' h' B T e v l:=
 {wle:=h1,wB:=(h2 B r.wB r.lt).2,box:=(h2 B r.wB r.lt).1.trans r.box,nv:=r.nv
  av:=fun b hb=>(h2 b (r.av b hb) (r.own.lt hb)).2
  own:=r.own.same fun b hb=>(h2 b (r.av b hb) (r.own.lt hb)).1 }
theorem Bx.ext (r:Bx W h B T e v l) (hle:(vw h).le (vw h')):Bx W h' B T e v l:=
 r.move (View.le_trans r.wle hle) fun b hb hlt=>⟨(kE hle).block b hlt (by simp),hb⟩
theorem Bx.cell (r:Bx W h B T e v l):ah (vw h) ⟨B,0,none⟩=some v:=by simp [ah,vw,r.box]
theorem Bx.start (hW:W.le (vw h)) (hB:W B=none) (hb:h[B]? = some (.cells #[.slice none 0 0] T (0,0))):Bx (α:=α) W h B T e (.slice none 0 0) []:=
 ⟨hW,hB,hb,Av.nil _ _ _,by simp [Value.ownBlock],OwnT.nil ..⟩
theorem Bx.uB {h1 h2:Heap} {v':Value} {l':List α} (k:Bx W h B T e v l) (o:OwnT nothing h1 e v' l') (m:gB h h1 v v') (hsz:h2.size=h1.size)
  (hB:h2[B]? = some (.cells #[v'] T (0,0))) (hoth : ∀ j,j≠B→h2[j]? = h1[j]?):Bx W h2 B T e v' l':=by
 obtain ⟨hw',ha'⟩:=m.view k.wle k.av
 have hlt:=k.lt
 have nl':v'.ownBlock≠some B:=by
  rcases m.at_ with e | e
  ·rw [e];exact k.nv
  ·rw [e];intro e2;cases e2;omega
 refine ⟨fun b x hb=>?_,k.wB,hB,ha',nl',o.same fun b hb=>hoth b (fun e=>nl' (by rw [hb,e]))⟩
 have hne:b≠B:=fun e=>by rw [e,k.wB] at hb;cases hb
 show h2[b]? = _
 rw [hoth b hne];exact hw' b x hb
theorem Bx.append {P:Program} {t ty ty3:TypeId} {bytes:Nat} {z:Value} {x y p q:Operand} {us:List (Nat × Value)} {us3:Value→List (Nat × Value)} {u:Value} {l2:List α} {K:Value→Heap→Prop} (k:Bx W h B T e v l)
  (hT:dA P t e (Rep.n α) bytes z) (hsz:b6 P T=some 1) (hx:asg us x=v) (hy:asg us y=u) (hs:SrcT (vw h) nothing u l2) (hb:(l.length+l2.length)*bytes≤140737488355328) (hb2:l.length+l2.length≤140737488355328)
  (hp : ∀ v',asg (us3 v') p = .pointer (some ⟨B,0,none⟩)) (hq : ∀ v',asg (us3 v') q=v') (hk : ∀ v' h',Bx W h' B T e v' (l++l2)→K v' h') :
  @step po P (.call ⟨.builtin .append,#[x,y],#[t,t]⟩) ty us h fun v' h2=>@step po2 P (.store T p q) ty3 (us3 v') h2 fun _ h3=>K v' h3:=by
 refine eg hT hx hy k.own hs hb hb2 fun v' h2 o2 m2=>?_
 have hB2:h2[B]? = some (.cells #[v] T (0,0)):=by rw [m2.kept.block B k.lt (fun e=>k.nv e.symm)];exact k.box
 obtain ⟨hcells,hone⟩:=xA o2
 refine cJ (g:=B) (o:=0) (n:=1) (v:=v') hsz (hp v') (hq v') (by rw [hcells];rfl) (by rw [hcells];simpa using hone) hB2 (by simp) fun h3 hsz3 ⟨row,hrow,he⟩ hoth=>hk v' h3 ?_
 have hrow2:row = #[v']:=by rw [←Array.toList_inj,he,hcells];rfl
 rw [hrow2] at hrow
 exact k.uB o2 m2 hsz3 hrow hoth
theorem Bx.push {P:Program} {t ty ty2 ty3:TypeId} {bytes:Nat} {z:Value} {x y y2 p q:Operand} {us:List (Nat × Value)} {us2:Value→List (Nat × Value)} {us3:Value→Value→List (Nat × Value)} {u:Value} {d:α} {K:Value→Value→Heap→Prop} (k:Bx W h B T e v l)
  (hT:dA P t e (Rep.n α) bytes z) (hsz:b6 P T=some 1) (hx:asg us x=u) (hr:Rd nothing u d) (hb:(l.length+1)*bytes≤140737488355328) (hb2:l.length+1≤140737488355328) (hy : ∀ u,asg (us2 u) y=v) (hy2 : ∀ u,asg (us2 u) y2=u)
  (hp : ∀ u v',asg (us3 u v') p = .pointer (some ⟨B,0,none⟩)) (hq : ∀ u v',asg (us3 u v') q=v') (hk : ∀ u v' h',Bx W h' B T e v' (l++[d])→K u v' h') :
  @step po P (.buildSlice t 1 #[(0,x)]) ty us h fun u h2=>@step po2 P (.call ⟨.builtin .append,#[y,y2],#[t,t]⟩) ty2 (us2 u) h2 fun v' h3=>@step po3 P (.store T p q) ty3 (us3 u v') h3 fun _ h4=>K u v' h4:=by
 refine nj hT hx hr fun u h2 hs hle _=>?_
 exact (k.ext hle).append hT hsz (hy u) (hy2 u) hs hb hb2 (hp u) (hq u) fun v' h' b=>hk u v' h' b
theorem Bx.fresh {h0:Heap} (k:Bx W h B T e v l) (h0W:(vw h0).le W):SlRd (Lft.fresh h0 h) v l:=
 k.own.fresh (fun _ _ h=>by cases h) fun b hb=>by
  cases hx:vw h0 b with
  | none=>rfl
  | some o=>have:=h0W _ _ hx;rw [k.av b hb] at this;cases this
end
end Go.Lft
namespace Go.Lft
open Go Go.MapKept
variable {po:OP} {pp:PP}
structure dO (d:TypeDesc) (h:Heap) (r:Nat) (f:Value→Option Value):Prop where
 ex : ∃ es clock,h[r]? = some (.map es clock)∧(∀ x∈es.toList,IsKey d x.key)∧Stamped es clock∧∀ k v,IsKey d k→((∃ x∈es.toList,x.key=k∧x.val=v)↔f k=some v)
theorem dO.lt {d:TypeDesc} {h:Heap} {r:Nat} {f:Value→Option Value} (m:dO d h r f):r<h.size:=by
 obtain ⟨es,c,h1,_⟩:=m.ex
 exact (Array.getElem?_eq_some_iff.1 h1).1
theorem dO.same {d:TypeDesc} {h h':Heap} {r:Nat} {f:Value→Option Value} (m:dO d h r f) (e:h'[r]? = h[r]?):dO d h' r f:=by
 obtain ⟨es,c,h1,h2⟩:=m.ex
 exact ⟨es,c,by rw [e];exact h1,h2⟩
theorem dO.ext {d:TypeDesc} {h h':Heap} {r:Nat} {f:Value→Option Value} (m:dO d h r f) (hle:(vw h).le (vw h')):dO d h' r f:=by
 obtain ⟨es,c,h1,h2⟩:=m.ex
 exact ⟨es,c,hle _ _ h1,h2⟩
theorem dO.none {d:TypeDesc} {h:Heap} {r:Nat} (hr:h[r]? = some (.map #[] 0)):dO d h r fun _=>none:=
 ⟨#[],0,hr,by simp,stamped_empty 0,by simp⟩
section
variable {P:Program} {ty:TypeId} {us:List (Nat × Value)} {h:Heap} {K:Value→Heap→Prop} {d:TypeDesc} {r:Nat} {f:Value→Option Value} {t k e:TypeId}
theorem lY (hk:K (.map (some h.size)) (h.push (.map #[] 0))):step P (.makeMap t .none) ty us h K:=by
 refine cB (cg fun w hw=>?_)
 subst hw
 refine ⟨_,w.alloc (.map #[] 0),?_,fN _ _,hk⟩
 simp only [a6,execOp]
 simp [Instr.makeMap,newObj]
 rfl
theorem uk {w:World} {u v:Value} (ht:P.underlying t=some (.map k e)) (hd:P.underlying k=some d) (hu:IsKey d u) (m:dO d w.heap r f) (g:Value→Option Value) (hg:g u=some v) (hg2 : ∀ j,j≠u→g j=f j) :
  ∃ o,(Instr.mapUpdate t (.map (some r)) u v).run P w = .ok () { w with heap:=w.heap.setIfInBounds r o }∧dO d (w.heap.setIfInBounds r o) r g:=by
 obtain ⟨es,c,h1,h2,h3,h4⟩:=m.ex
 rcases findNow_spec hu es.toList 0 h2 with ⟨g1,g2⟩ | ⟨j,x,g1,g2,g3⟩
 ·refine ⟨.map (es.push { key:=u,val:=v,born:=c }) (c+1),?_,_,_,(MapKept.heap_set h1).1,?_,stamped_push h3 g2,?_⟩
  ·simp [Instr.mapUpdate,run_underlying ht,MapKept.run_getObj_map h1,MapKept.run_checkKey hd hu,MapKept.run_findKey hd g1,MapKept.run_setObj_map _ h1,Result.andThen]
  ·intro x hx
   simp only [Array.toList_push,List.mem_append,List.mem_singleton] at hx
   rcases hx with hx | rfl
   ·exact h2 x hx
   ·exact hu
  ·intro q p hq
   constructor
   ·rintro ⟨x,hx,e1,e2⟩
    simp only [Array.toList_push,List.mem_append,List.mem_singleton] at hx
    rcases hx with hx | rfl
    ·rw [hg2 q (fun e=>g2 x hx (e1.trans e))]
     exact (h4 q p hq).1 ⟨x,hx,e1,e2⟩
    ·simp only at e1 e2;subst e1;subst e2;exact hg
   ·intro hp
    by_cases e:q=u
    ·subst e;rw [hg] at hp;cases hp
     exact ⟨{ key:=q,val:=v,born:=c },by simp,rfl,rfl⟩
    ·rw [hg2 q e] at hp
     obtain ⟨x,hx,e⟩:=(h4 q p hq).2 hp
     exact ⟨x,by simp [show x∈es from by simpa using hx],e⟩
 ·have hj:es[j]? = some x:=by simpa using g2
  have hmem:x∈es.toList:=List.mem_of_getElem? g2
  have hlt:j<es.size:=(Array.getElem?_eq_some_iff.1 hj).1
  have hkeyf : ∀ e',es[j]? = some e'→({ e' with key:=u,val:=v }:MapEntry).key=e'.key:=fun e' he'=>by rw [hj] at he';cases he';exact g3.symm
  have hst:Stamped (es.modify j (fun e'=>{ e' with key:=u,val:=v })) c:=stamped_modify h3 _ _ (fun _ _=>rfl) (fun e' _ he'=>hkeyf e' he')
  have hget : ∀ i y,(es.modify j (fun e'=>{ e' with key:=u,val:=v }))[i]? = some y↔(i=j∧y={ x with key:=u,val:=v })∨(i≠j∧es[i]? = some y):=by
   intro i y
   rw [Array.getElem?_modify]
   by_cases hij:i=j
   ·subst hij
    rw [if_pos rfl,hj]
    simp [eq_comm]
   ·rw [if_neg (Ne.symm hij)]
    simp [hij]
  have huniq : ∀ i y,es[i]? = some y→y.key=u→i=j:=by
   intro i y hy hk
   have hnd:=h3.2.2
   have e1:(es.toList.map (·.key))[i]? = some u:=by simp [hy,hk]
   have e2:(es.toList.map (·.key))[j]? = some u:=by simp [hj,g3]
   have hl1:=(List.getElem?_eq_some_iff.1 e1)
   have hl2:=(List.getElem?_eq_some_iff.1 e2)
   obtain ⟨l1,q1⟩:=hl1
   obtain ⟨l2,q2⟩:=hl2
   exact (List.getElem_inj hnd).1 (q1.trans q2.symm)
  refine ⟨.map (es.modify j (fun e'=>{ e' with key:=u,val:=v })) c,?_,_,_,(MapKept.heap_set h1).1,?_,hst,?_⟩
  ·simp [Instr.mapUpdate,run_underlying ht,MapKept.run_getObj_map h1,MapKept.run_checkKey hd hu,MapKept.run_findKey hd g1,hj,g3,MapKept.run_keyThatStays hu,MapKept.run_setObj_map _ h1,Result.andThen]
  ·intro y hy
   obtain ⟨i,hi⟩:=List.getElem?_of_mem hy
   have hi:(es.modify j (fun e'=>{ e' with key:=u,val:=v }))[i]? = some y:=by rw [Array.getElem?_toList] at hi;exact hi
   rcases (hget i y).1 hi with ⟨_,rfl⟩ | ⟨_,h5⟩
   ·exact hu
   ·exact h2 y (List.mem_of_getElem? (by simpa using h5))
  ·intro q p hq
   constructor
   ·rintro ⟨y,hy,e1,e2⟩
    obtain ⟨i,hi⟩:=List.getElem?_of_mem hy
    have hi:(es.modify j (fun e'=>{ e' with key:=u,val:=v }))[i]? = some y:=by rw [Array.getElem?_toList] at hi;exact hi
    rcases (hget i y).1 hi with ⟨_,rfl⟩ | ⟨h6,h5⟩
    ·simp only at e1 e2;subst e1;subst e2;exact hg
    ·rw [hg2 q (fun e=>h6 (huniq i y h5 (e1.trans e)))]
     exact (h4 q p hq).1 ⟨y,List.mem_of_getElem? (by simpa using h5),e1,e2⟩
   ·intro hp
    by_cases hqu:q=u
    ·subst hqu;rw [hg] at hp;cases hp
     refine ⟨{ x with key:=q,val:=v },List.mem_of_getElem? (i:=j) ?_,rfl,rfl⟩
     rw [Array.getElem?_toList]
     exact (hget j { x with key:=q,val:=v }).2 (.inl ⟨rfl,rfl⟩)
    ·rw [hg2 q hqu] at hp
     obtain ⟨y,hy,e1,e2⟩:=(h4 q p hq).2 hp
     obtain ⟨i,hi⟩:=List.getElem?_of_mem hy
     have hi':es[i]? = some y:=by simpa using hi
     refine ⟨y,List.mem_of_getElem? (i:=i) ?_,e1,e2⟩
     rw [Array.getElem?_toList]
     refine (hget i y).2 (.inr ⟨fun e=>?_,hi'⟩)
     ·subst e;rw [hj] at hi';cases hi';exact hqu (e1.symm.trans g3)
theorem qw {x y q:Operand} {u v:Value} {op:Op} (hop:op = .mapUpdate t x y q∨op = .insert t x y q) (ht:P.underlying t=some (.map k e)) (hd:P.underlying k=some d) (hx:asg us x = .map (some r)) (hy:asg us y=u) (hq:asg us q=v) (hu:IsKey d u) (m:dO d h r f)
  (g:Value→Option Value) (hg:g u=some v) (hg2 : ∀ j,j≠u→g j=f j) (hk : ∀ h':Heap,h'.size=h.size→(∀ b,b≠r→h'[b]? = h[b]?)→dO d h' r g→K undef h'):step P op ty us h K:=by
 refine cB (iP fun w hw=>?_)
 subst hw
 obtain ⟨o,h1,h2⟩:=uk (v:=v) ht hd hu m g hg hg2
 obtain ⟨es,c,h3,_⟩:=m.ex
 have hoth:=(MapKept.heap_set (o':=o) h3).2
 refine ⟨{ w with heap:=w.heap.setIfInBounds r o },?_,Same.lE rfl rfl rfl (by simp) h3 (by simp) (fun k _ hne=>hoth k hne),hk _ (by simp) hoth h2⟩
 rcases hop with rfl | rfl<;>simp only [a6,execOp,hx,hy,hq]<;>simp [h1]
end
def mapI (f:Int→Option Int):Value→Option Value
 | .int .i64 j=>(f j).map (.int .i64)
 | _=>none
@[simp] theorem CL {f:Int→Option Int} {j:Int}:mapI f (.int .i64 j)=(f j).map (.int .i64):=rfl
def mapB (s:Int→Bool):Value→Option Value
 | .int .i64 j=>if s j then some (.bool true) else none
 | _=>none
@[simp] theorem CB {s:Int→Bool} {j:Int}:mapB s (.int .i64 j)=if s j then some (.bool true) else none:=rfl
theorem ij {j:Int}:IsKey (.int .i64) (.int .i64 j):=rfl
@[simp] theorem Cl {s:Bool}:(if s=true then some (Value.bool true) else .none).getD (.bool false) = .bool s:=by cases s<;>rfl
end Go.Lft
namespace Go.Lft
open Go
variable {po:OP} {pp:PP}
theorem aa {P:Program} {x y:LC} {Q:Post} {ρ:Env} {h:Heap} (hx : ∀ z,z=y→LC.wp P x (fK (LC.wp P z Q) Q) ρ h):LC.wp P (.seq x y) Q ρ h:=hx y rfl
def iK {α:Type} [Rep α] (X:View):List Value→List α→Prop
 | [],[]=>True
 | v::vs,d::ds=>Rd X v d∧iK X vs ds
 | _,_=>False
theorem iK.len {α:Type} [Rep α] {X:View} : ∀ {vs:List Value} {ds:List α},iK X vs ds→vs.length=ds.length
 | [],[],_=>rfl
 | _::_,_::_,h=>by simp [iK.len h.2]
theorem iK.get {α:Type} [Rep α] {X:View} : ∀ {vs:List Value} {ds:List α},iK X vs ds→∀ (i:Nat) (h1:i<vs.length) (h2:i<ds.length),Rd X vs[i] ds[i]
 | _::_,_::_,h,0,_,_=>h.1
 | _::_,_::_,h,i+1,h1,h2=>h.2.get i _ _
theorem iK.mono {α:Type} [Rep α] {X Y:View} (hk:X.le Y) : ∀ {vs:List Value} {ds:List α},iK X vs ds→iK Y vs ds
 | [],[],_=>trivial
 | _::_,_::_,h=>⟨h.1.mono hk,h.2.mono hk⟩
theorem Rd.BY {α:Type} [Rep α] {X:View} {v:Value} {d:α} (ha:Rep.agg α=false) (h:Rd X v d):v.cells = #[v]:=by
 unfold Rd at h
 rw [if_neg (by simp [ha])] at h
 have hfl:=Rep.flat h v (by simp)
 cases v<;>first | rfl | simp [Value.oneCell'] at hfl
theorem tv : ∀ (vs:List Value) (k:Nat) (A:Array Value),(∀ v∈vs,v.cells = #[v])→k+vs.length=A.size→
  ∃ B,Instr.fill (fun j=>some (j*1,1)) A ((vs.zipIdx k).map fun p=>(p.2,p.1))=some B∧B.toList=A.toList.take k++vs
 | [],k,A,_,hk=>⟨A,rfl,by simp at hk;rw [List.take_of_length_le (by simp [hk])];simp⟩
 | v::vs,k,A,hv,hk=>by
  have hc:=hv v (List.mem_cons_self ..)
  obtain ⟨B,h1,h2⟩:=tv vs (k+1) (A.setIfInBounds k v) (fun u hu=>hv u (List.mem_cons_of_mem _ hu)) (by simp at hk ⊢;omega)
  refine ⟨B,?_,?_⟩
  ·simp only [List.zipIdx_cons,List.map_cons,Instr.fill,hc,Nat.mul_one]
   rw [if_neg (by simp at hk ⊢;omega)]
   simpa using h1
  ·rw [h2]
   have hkA:k<A.toList.length:=by simp at hk ⊢;omega
   rw [List.take_succ_eq_append_getElem (by simpa using hkA)]
   simp [List.take_set_of_le]
end Go.Lft
namespace Go.Lft
open Go
structure Cat (α β:Type) where
 a:α
 b:β
instance {α β:Type} [Rep α] [Rep β]:Rep (Cat α β) where
 n:=Rep.n α+Rep.n β
 agg:=true
 rd:=fun H cs d=>∃ c1 c2,cs=c1++c2∧Rep.rd H c1 d.a∧Rep.rd H c2 d.b
 mono:=fun hk ⟨c1,c2,h1,h2,h3⟩=>⟨c1,c2,h1,Rep.mono hk h2,Rep.mono hk h3⟩
 len:=fun ⟨c1,c2,h1,h2,h3⟩=>by rw [h1,List.length_append,Rep.len h2,Rep.len h3]
 one:=fun h=>by cases h
 flat:=fun ⟨c1,c2,h1,h2,h3⟩ u hu=>by
  rw [h1] at hu
  rcases List.mem_append.1 hu with hu | hu
  ·exact Rep.flat h2 u hu
  ·exact Rep.flat h3 u hu
 pos:=Nat.add_pos_left Rep.pos _
 cT:=fun ⟨c1,c2,h1,h2,h3⟩=>⟨c1,c2,h1,Rep.cT h2,Rep.cT h3⟩
abbrev Rep.via {α γ:Type} [Rep α] (f:γ→α):Rep γ where
 n:=Rep.n α
 agg:=Rep.agg α
 rd:=fun H cs d=>Rep.rd H cs (f d)
 mono:=fun hk h=>Rep.mono hk h
 len:=fun h=>Rep.len h
 one:=fun h=>Rep.one h
 flat:=fun h=>Rep.flat h
 pos:=Rep.pos
 cT:=fun h=>Rep.cT h
theorem At.int {H:View} {a:Addr} {d:Int} (h:At H a d):ah H a=some (.int .i64 d):=by
 obtain ⟨u,h1,h2⟩:=h.load rfl
 rw [(eF.1 h2).1] at h1
 exact h1
theorem At.list {α:Type} [Rep α] {H:View} {a:Addr} {l:List α} (h:At H a l) : ∃ v,ah H a=some v∧SlRd H v l:=by
 obtain ⟨u,h1,h2⟩:=h.load rfl
 exact ⟨u,h1,gE.1 h2⟩
theorem At.i32 {H:View} {a:Addr} {d:I32} (h:At H a d):ah H a=some (.int .i32 d.v):=by
 obtain ⟨u,h1,h2⟩:=h.load rfl
 rw [(Bo.1 h2).1] at h1
 exact h1
structure InD where
 frm:Int
 val:Int
 deriving Inhabited,DecidableEq
instance:Rep InD:=Rep.via fun d=>Cat.mk d.frm d.val
structure PhiD where
 dst:Int
 ins:List InD
 deriving Inhabited,DecidableEq
instance:Rep PhiD:=Rep.via fun d=>Cat.mk d.dst d.ins
structure InsD where
 op:Int
 dst:Int
 two:Int
 args:List Int
 imm:I32
 deriving Inhabited,DecidableEq
instance:Rep InsD:=Rep.via fun d=>Cat.mk d.op (Cat.mk d.dst (Cat.mk d.two (Cat.mk d.args d.imm)))
structure de where
 kind:Int
 args:List Int
 to:List Int
 imm:I32
 deriving Inhabited,DecidableEq
instance:Rep de:=Rep.via fun d=>Cat.mk d.kind (Cat.mk d.args (Cat.mk d.to d.imm))
structure BlkD where
 phis:List PhiD
 ins:List InsD
 term:de
 deriving Inhabited,DecidableEq
instance:Rep BlkD:=Rep.via fun d=>Cat.mk d.phis (Cat.mk d.ins d.term)
structure ae where
 params:Int
 blocks:List BlkD
 deriving Inhabited,DecidableEq
instance:Rep ae:=Rep.via fun d=>Cat.mk d.params d.blocks
end Go.Lft
namespace Go.Lft
open Go Go.MapKept
variable {po:OP} {pp:PP}
section
variable {P:Program} {ty:TypeId} {us:List (Nat × Value)} {h:Heap} {K:Value→Heap→Prop}
def isIface:TypeDesc→Bool
 | .interface _=>true
 | _=>false
theorem x3 {t:TypeId} {d:TypeDesc} {x:Operand} {v:Value} (hd:P.underlying t=some d) (hn:isIface d=false) (hx:asg us x=v) (hk:K (.iface t v) h):step P (.makeInterface t x) ty us h K:=by
 refine cB (cg fun w hw=>⟨.iface t v,w,?_,Same.refl _,by rw [hw];exact hk⟩)
 simp only [a6,execOp,hx]
 cases d<;>first | (simp [isIface] at hn;done) | (simp [Instr.makeInterface,run_underlying hd];done)
theorem yi {x:Operand} {t:TypeId} {v:Value} (hx:asg us x = .iface t v) (hk:po.op [{ v:=.iface t v,recovered:=false }] h):step P (.panic x) ty us h K:=by
 refine cB ?_
 intro w hw r o a K' Q' hK hQ
 have hr:(a6 (.panic x) ty us).run P w = .halt (.panic (.iface t v)) w:=by
  simp only [a6,execOp,hx]
  simp [Instr.panic,goPanic,Sem.run]
 rw [hr]
 simp only [Oper.uponIn]
 exact hQ _ w (by rw [hw];exact hk) (Same.refl _)
theorem xg {T xT:TypeId} {d:TypeDesc} {x:Operand} {v:Value} (hd:P.underlying T=some d) (hn:isIface d=false) (hx:asg us x = .iface T v) (hk:K (.tuple #[v,.bool true]) h):step P (.typeAssert x xT T true) ty us h K:=by
 refine cB (cg fun w hw=>⟨.tuple #[v,.bool true],w,?_,Same.refl _,by rw [hw];exact hk⟩)
 simp only [a6,execOp,hx]
 cases d<;>first | (simp [isIface] at hn;done) | (simp [Instr.typeAssert,run_underlying hd];done)
theorem hC {t k e:TypeId} {d:TypeDesc} {r:Nat} {f:Value→Option Value} {x y:Operand} {u z:Value} (ht:P.underlying t=some (.map k e)) (hd:P.underlying k=some d) (hz:(P.info? e).map (·.zero)=some (some z)) (hx:asg us x = .map (some r)) (hy:asg us y=u) (hu:IsKey d u) (m:dO d h r f)
  (hk:K (.tuple #[(f u).getD z,.bool (f u).isSome]) h):step P (.lookup t x y true) ty us h K:=by
 obtain ⟨es,c,h1,h2,h3,h4⟩:=m.ex
 simp only [Option.map_eq_some_iff] at hz
 obtain ⟨i,hi,hz⟩:=hz
 refine cB (cg fun w hw=>⟨_,w,?_,Same.refl _,by rw [hw];exact hk⟩)
 have hz':(zeroValue e).run P w = .ok z w:=by simp [zeroValue,typeInfo,hi,hz]
 rw [←hw] at h1
 simp only [a6,execOp,hx,hy]
 rcases MapKept.findNow_spec hu es.toList 0 h2 with ⟨g1,g2⟩ | ⟨j,x,g1,g2,g3⟩
 ·have hf:f u = .none:=by
   cases hfu:f u with
   | none=>rfl
   | some v=>obtain ⟨x,hx,e1,_⟩:=(h4 u v hu).2 hfu;exact absurd e1 (g2 x hx)
  simp [Instr.lookup,run_underlying ht,MapKept.run_getObj_map h1,MapKept.run_checkKey hd hu,MapKept.run_findKey hd g1,Result.andThen,hf,hz']
 ·have hf:f u=some x.val:=(h4 u x.val hu).1 ⟨x,List.mem_of_getElem? g2,g3,rfl⟩
  simp [Instr.lookup,run_underlying ht,MapKept.run_getObj_map h1,MapKept.run_checkKey hd hu,MapKept.run_findKey hd g1,Result.andThen,hf]
theorem uD {T:TypeId} {ms:Array (String × TypeId)} {w:World} {v:Value} {b:Bool} (hd:P.underlying T=some (.interface ms)) (hv:v = .nilIface∧b=true∨∃ t u,v = .iface t u∧b=false):(Op.equal T v .nilIface).run P w = .ok b w:=by
 have key : ∀ n,(Op.equalIn (n+1) T v .nilIface).run P w = .ok b w:=fun n=>by
  rcases hv with ⟨rfl,rfl⟩ | ⟨t,u,rfl,rfl⟩<;>simp [Op.equalIn,run_underlying hd]
 exact key 9999
theorem tT {T rt:TypeId} {ms:Array (String × TypeId)} {x:Operand} {v:Value} {b:Bool} (hd:P.underlying T=some (.interface ms)) (hx:asg us x=v) (hv:v = .nilIface∧b=true∨∃ t u,v = .iface t u∧b=false) (hk:K (.bool b) h) :
  step P (.binOp .eql T x (.const .nilIface) rt) ty us h K:=by
 refine cB (cg fun w hw=>⟨.bool b,w,?_,Same.refl _,by rw [hw];exact hk⟩)
 simp only [a6,execOp,hx,qz]
 have:=uD (w:=w) hd hv
 rcases hv with ⟨rfl,rfl⟩ | ⟨t,u,rfl,rfl⟩<;>simp [eqGuard,binOp,this]
end
end Go.Lft
namespace Go.Lft
open Go
def lK (P:Program) (g:FuncId) (args:Array Value) (u:FrameMode) (h:Heap) (S:FrameMode→Heap→Prop):Prop:=
 ∀ w:World,w.heap=h→CallsDIn (Fw none) 0 P g args u w fun e u' w'=>e = .returned (.tuple #[])∧S u' w'.heap∧Same w w'
theorem uE {P:Program} {fn:Func} {a:Act} {w:World} {R:Ending→World→Prop} {g:FuncId} {caps:Array Value} {S:FrameMode→Heap→Prop} {u:FrameMode} (hg:isFn P g=true)
  (hd:a.defers=[{ target:=.fn (.func g) caps,args:=#[] }]) (hu:u≠.run) (hc:lK P g caps u w.heap S)
  (hS : ∀ u' w',S u' w'.heap→Same w w'→settle u' = .returning∧∃ v,(results fn a.tmps).run P w' = .ok v w'∧R (.returned v) w'):LeavesIn (Fw none) 0 P fn a.tmps R a.defers u w:=by
 rw [hd]
 refine leavesIn_cons (f:=g) (args:=caps) hu (by simp [Fw,Fence.wide]) ?_ (fun _ _=>trivial) ((hc w rfl).mono ?_)
 ·unfold isFn at hg
  cases hfn':P.funcs[g]? with
  | none=>simp [hfn'] at hg
  | some fn'=>
   simp only [hfn',Bool.and_eq_true,bne_iff_ne,ne_eq] at hg
   obtain ⟨h1,h2⟩:=hg
   simp [invoke,callFunc,program,Sem.run,hfn',h1,Option.isNone]
   cases hb:fn'.body<;>simp [hb] at h2 ⊢
 ·rintro e u' w' ⟨rfl,h1,h2⟩
  obtain ⟨h3,v,h4,h5⟩:=hS u' w' h1 h2
  show LeavesIn (Fw none) 0 P fn a.tmps R [] (settle u') w'
  rw [h3]
  exact ⟨v,h4,h5⟩
def mG (ρ:Env):List Operand→Option (List Value)
 | []=>some []
 | .tmp t::l=>match look ρ t,mG ρ l with
  | some v,some vs=>some (v::vs)
  | _,_=>none
 | _::_=>none
theorem oU {ρ:Env} {a:Act} (hs:Sat ρ a) : ∀ {l:List Operand} {vs:List Value},mG ρ l=some vs→l.map a.eval=vs
 | [],vs,h=>by simp [mG] at h;subst h;rfl
 | .tmp t::l,vs,h=>by
  simp only [mG] at h
  split at h
  ·rename_i v vs' h1 h2
   simp only [Option.some.injEq] at h
   subst h
   have:=hs t v h1
   simp [Act.eval,this,oU hs h2]
  ·cases h
 | .const _::_,_,h=>by simp [mG] at h
 | .global _::_,_,h=>by simp [mG] at h
 | .func _::_,_,h=>by simp [mG] at h
theorem kW {P:Program} {f:FuncId} {fn:Func} {c0 c1:Code} {id:Nat} {o1 o2:Oper} {g t:Nat} {capops:Array Operand} {tys:Array TypeId} {live0 liveR0 live1 liveR1:List Nat} {L0 L1:LC} {res:List E}
  {args:List Value} {h:Heap} {R:Value→Heap→Prop} {Mid:Env→Heap→Prop} (hm:P.follows .mixedOrders=true) (hf:P.funcs[f]? = some fn)
  (hb:fn.body=some (.seq c0 (.seq (.region id #[o1,o2] false) c1)))
  (h1:o1.op = .makeFunc (.func g) #[] capops) (h1d:o1.dst=some t) (h1g:o1.guard=none) (h2:o2.op = .defer ⟨.value (.tmp t),#[],tys⟩) (h2d:o2.dst=none) (h2g:o2.guard=none) (ht:t<fn.ntmps) (hg:isFn P g=true)
  (hL0:c9 P fn.ntmps live0 liveR0 false c0=some L0) (hp0:L0.plain=true) (hL1:c9 P fn.ntmps live1 liveR1 false c1=some L1) (hp1:L1.plain=true) (hres:fn.results.toList.mapM (resE P)=some res)
  (hn:args.length≤fn.ntmps) (hw:@LC.wp noPP P L0 (fK Mid fun _ _ _=>False) (fM 0 args) h)
  (hmid : ∀ ρ hh,Mid ρ hh→∃ capv,mG ρ capops.toList=some capv∧∃ pp:PP,
   @LC.wp pp P L1 (fun e ρ2 h2=>(e = .normal∨e = .ret)∧∃ S,lK P g capv.toArray .returning h2 S∧∀ u' h3,S u' h3→settle u' = .returning∧∃ vs,evs (look ρ2) (vw h3) res=some vs∧R (pack vs) h3) (aX ρ [t]) hh∧
   ∀ ch ρ2 h2,pp.kp ch h2→pp.fx ρ2→∃ S,lK P g capv.toArray (.panicking ch) h2 S∧∀ u' h3,S u' h3→settle u' = .returning∧∃ vs,evs (look ρ2) (vw h3) res=some vs∧R (pack vs) h3) :
  ay P f args.toArray h R:=by
 intro w hwh
 subst hwh
 have hsat:Sat (fM 0 args) { tmps:=args.toArray++Array.replicate (fn.ntmps-args.toArray.size) undef,defers:=[] }:=by
  intro t v hl
  obtain ⟨_,h2⟩:=iY args 0 t v hl
  have:t<args.length:=by
   rcases Nat.lt_or_ge t args.length with h | h
   ·exact h
   ·simp [List.getElem?_eq_none h] at h2
  simp only [Nat.sub_zero] at h2
  simp only [Array.getElem?_append,List.size_toArray,this,if_true,List.getElem?_toArray]
  exact h2
 refine (callsIn_wide (n:=0)).1 (callsIn_of_wp_defers hf hb trivial (wpIn_seq (wpIn_mono (cc (r:=none) hm c0 hL0 (fun _=>rfl) hw hsat (by simp;omega)) ?_)))
 rintro e a1 w1 ⟨ρ1,s1,n1,⟨ms,hds,hms,_⟩,hq,hS1⟩
 rw [hms hp0] at hds
 have hds:a1.defers=[]:=hds
 have hq:=ko hq
 cases e with
 | normal=>
  obtain ⟨capv,hcap,pp,hwp,hpan⟩:=hmid ρ1 w1.heap hq
  have hev:=oU s1 hcap
  refine wpIn_seq (wpIn_region_list ?_)
  have wt1:Region.wanted o1 (yielded #[o1,o2] a1.tmps)=true:=by simp [Region.wanted,h1g]
  have hf1:(execOp a1.eval o1).run P w1 = .ok (.value (.func (.func g) #[] capv.toArray)) w1:=by
   simp only [execOp,h1]
   have:capops.map a1.eval=capv.toArray:=by
    rw [←hev,←Array.toList_inj];simp
   simp [this,Instr.makeFunc]
  have hput:a1.put o1.dst (.func (.func g) #[] capv.toArray)={ tmps:=a1.tmps.setIfInBounds t (.func (.func g) #[] capv.toArray),defers:=a1.defers }:=by rw [h1d];rfl
  have hget:(a1.tmps.setIfInBounds t (.func (.func g) #[] capv.toArray))[t]? = some (.func (.func g) #[] capv.toArray):=by
   rw [Array.getElem?_setIfInBounds_self];simp [n1,ht]
  simp only [wpListIn]
  rw [if_pos wt1]
  refine ⟨fun _ _=>trivial,?_⟩
  rw [Oper.semAt_eq _ _ _ (by intro c e;rw [h1] at e;cases e),hf1]
  simp only [Oper.uponIn,hput]
  have wt2:Region.wanted o2 (yielded #[o1,o2] (a1.tmps.setIfInBounds t (.func (.func g) #[] capv.toArray)))=true:=by simp [Region.wanted,h2g]
  rw [if_pos wt2]
  have hf2:(execOp (Act.eval { tmps:=a1.tmps.setIfInBounds t (.func (.func g) #[] capv.toArray),defers:=a1.defers }) o2).run P w1 = .ok (.defer { target:=.fn (.func g) capv.toArray,args:=#[] }) w1:=by
   simp only [execOp,h2]
   simp [resolve,Act.eval,hget,Deferred.ofValue]
  refine ⟨fun _ _=>trivial,?_⟩
  rw [show Fence.wide.round=none from rfl,Oper.semAt_none,hf2]
  simp only [Oper.uponIn,h2d,Act.put,hds]
  show c1.wpIn (Fw none) 0 P _ _ _
  have s2:Sat (aX ρ1 [t]) { tmps:=a1.tmps.setIfInBounds t (.func (.func g) #[] capv.toArray),defers:=[{ target:=.fn (.func g) capv.toArray,args:=#[] }] }:=by
   intro x v hl
   obtain ⟨e1,e2⟩:=gU _ _ _ _ hl
   have hne:t≠x:=fun e=>e1 (by simp [e])
   simp only [Array.getElem?_setIfInBounds_ne hne]
   exact s1 x v e2
  refine wpIn_mono (cc (pp:=pp) (r:=none) (a:={ tmps:=a1.tmps.setIfInBounds t (.func (.func g) #[] capv.toArray),defers:=[{ target:=.fn (.func g) capv.toArray,args:=#[] }] }) hm c1 hL1 (fun _=>rfl) hwp s2 (by simp [n1])) ?_
  rintro e a2 w2 ⟨ρ2,s3,n3,⟨ms2,hds2,hms2,_⟩,hq2,hS2⟩
  rw [hms2 hp1] at hds2
  have hds2:a2.defers=[{ target:=.fn (.func g) capv.toArray,args:=#[] }]:=hds2
  have fin : ∀ (u:FrameMode),u≠.run→(∃ S,lK P g capv.toArray u w2.heap S∧∀ u' h3,S u' h3→settle u' = .returning∧∃ vs,evs (look ρ2) (vw h3) res=some vs∧R (pack vs) h3)→
    LeavesIn (Fw none) 0 P fn a2.tmps (fun e w'=>∃ v,e = .returned v∧R v w'.heap∧Same w w') a2.defers u w2:=by
   rintro u hu ⟨S,hc,hS⟩
   refine uE hg hds2 hu hc fun u' w' hu' hsame=>?_
   obtain ⟨g1,vs,g2,g3⟩:=hS u' w'.heap hu'
   exact ⟨g1,pack vs,ir hres (kn (fun t v h=>s3 t v h) g2),pack vs,rfl,g3,(hS1.trans hS2).trans hsame⟩
  cases e with
  | normal=>exact fin .returning (by simp) hq2.2
  | ret=>exact fin .returning (by simp) hq2.2
  | panic ch=>exact fin (.panicking ch) (by simp) (hpan ch ρ2 w2.heap hq2.2 hq2.1)
  | exit i=>rcases hq2.1 with h | h<;>cases h
  | goto l=>rcases hq2.1 with h | h<;>cases h
  | outgrown=>rcases hq2.1 with h | h<;>cases h
 | _=>exact hq.elim
def fH:FrameMode→Value × FrameMode
 | .panicking ({ v,recovered:=false,goexit:=false }::older)=>(v,.panicking ({ v,recovered:=true }::older))
 | u=>(.nilIface,u)
theorem jZ {P:Program} {g:FuncId} {fn:Func} {c1:Code} {id t:Nat} {o:Oper} {tys:Array TypeId} {live liveR:List Nat} {L:LC} {args:List Value} {u:FrameMode} {h:Heap} {S:FrameMode→Heap→Prop} (hm:P.follows .mixedOrders=true)
  (hf:P.funcs[g]? = some fn) (hb:fn.body=some (.seq (.region id #[o] false) c1)) (ho:o.op = .call ⟨.builtin .recover,#[],tys⟩) (hod:o.dst=some t) (hog:o.guard=none) (ht:t<fn.ntmps)
  (hL:c9 P fn.ntmps live liveR false c1=some L) (hp:L.plain=true) (hr:fn.results = #[]) (hn:args.length≤fn.ntmps)
  (hw:@LC.wp noPP P L (fun e _ h'=>(e = .normal∨e = .ret)∧S (fH u).2 h') ((t,(fH u).1)::aX (fM 0 args) [t]) h):lK P g args.toArray u h S:=by
 intro w hwh
 subst hwh
 refine callsDIn_of_wpSIn hf hb trivial fun c₀ cs hu=>?_
 apply wpSIn_seq
 apply wpSIn_region
 have hsat:Sat (fM 0 args) { tmps:=args.toArray++Array.replicate (fn.ntmps-args.toArray.size) undef,defers:=[] }:=by
  intro t v hl
  obtain ⟨_,h2⟩:=iY args 0 t v hl
  have:t<args.length:=by
   rcases Nat.lt_or_ge t args.length with h | h
   ·exact h
   ·simp [List.getElem?_eq_none h] at h2
  simp only [Nat.sub_zero] at h2
  simp only [Array.getElem?_append,List.size_toArray,this,if_true,List.getElem?_toArray]
  exact h2
 have hsz:(args.toArray++Array.replicate (fn.ntmps-args.toArray.size) undef).size=fn.ntmps:=by simp;omega
 have hex : ∀ ρ,(execOp ρ o).run P w = .ok .recover w:=fun ρ=>by
  simp only [execOp,ho]
  simp [resolve,invoke,builtin]
 generalize args.toArray++Array.replicate (fn.ntmps-args.toArray.size) undef=tm at hsat hsz
 have hwant : ∀ tm',Region.wanted o (yielded #[o] tm')=true:=fun tm'=>by simp [Region.wanted,hog]
 have key : ∀ (v:Value) (c':Frame),(fH u).1=v→c'={ c₀ with mode:=(fH u).2 }→c1.wpSIn (Fw none) 0 P (bodyPostS P fn c₀ cs fun e u' w'=>e = .returned (.tuple #[])∧S u' w'.heap∧Same w w') { tmps:=tm.setIfInBounds t v,defers:=[] } (c'::cs) w:=by
  intro v c' hv hc'
  have s2:Sat ((t,(fH u).1)::aX (fM 0 args) [t]) { tmps:=tm.setIfInBounds t v,defers:=[] }:=by
   intro x y hl
   simp only [look] at hl
   split at hl
   ·rename_i e;subst e
    simp only [Option.some.injEq] at hl
    rw [←hl,hv,Array.getElem?_setIfInBounds_self];simp [hsz,ht]
   ·rename_i e
    obtain ⟨e1,e2⟩:=gU _ _ _ _ hl
    simp only [Array.getElem?_setIfInBounds_ne e]
    exact hsat x y e2
  refine wpSIn_of_wpIn rfl (wpIn_mono (cc (pp:=noPP) (r:=none) (a:={ tmps:=tm.setIfInBounds t v,defers:=[] }) hm c1 hL (fun _=>rfl) hw s2 (by simp [hsz])) ?_)
  rintro e a2 w2 ⟨ρ2,s3,n3,⟨ms2,hds2,hms2,_⟩,hq2,hS2⟩
  rw [hms2 hp] at hds2
  have hds2:a2.defers=[]:=hds2
  have hq2:=ko hq2
  have hres:(results fn a2.tmps).run P w2 = .ok (.tuple #[]) w2:=by simp [results,hr]
  have fin:a2.defers=[]∧∃ u',c'::cs={ c₀ with mode:=u' }::cs∧∃ v,(results fn a2.tmps).run P w2 = .ok v w2∧Ending.returned v = .returned (.tuple #[])∧S u' w2.heap∧Same w w2:=
   ⟨hds2,_,by rw [hc'],_,hres,rfl,hq2.2,hS2⟩
  cases e with
  | normal=>exact fin
  | ret=>exact fin
  | panic ch=>rcases hq2.1 with h | h<;>cases h
  | exit i=>rcases hq2.1 with h | h<;>cases h
  | goto l=>rcases hq2.1 with h | h<;>cases h
  | outgrown=>rcases hq2.1 with h | h<;>cases h
 have hr0:List.range (#[o]:Array Oper).size=[0]:=rfl
 rw [hr0]
 simp only [wpOpsSIn]
 have ho0:(#[o]:Array Oper)[0]? = some o:=rfl
 rw [ho0]
 simp only [hwant,if_true,hex]
 refine ⟨fun _ _=>trivial,?_⟩
 by_cases hcase : ∃ v older,u = .panicking ({ v,recovered:=false,goexit:=false }::older)
 ·obtain ⟨v,older,rfl⟩:=hcase
  have e:recoverD (c₀::cs)=some (v,{ c₀ with mode:=.panicking ({ v,recovered:=true }::older) }::cs):=by simp only [recoverD,hu]
  rw [e]
  simp only [hod]
  exact key v _ rfl rfl
 ·have e:recoverD (c₀::cs)=none:=by
   simp only [recoverD,hu]
   split
   ·exact absurd ⟨_,_,rfl⟩ hcase
   ·rfl
  have er:fH u=(.nilIface,u):=by
   unfold fH
   split
   ·exact absurd ⟨_,_,rfl⟩ hcase
   ·rfl
  rw [e]
  simp only [hod]
  exact key .nilIface c₀ (by rw [er]) (by rw [er,←hu])
end Go.Lft
namespace Go.Lft
open Go
variable {po po2:OP} {pp:PP}
structure Part (α β:Type) [Rep α] [Rep β] (o:Nat) (get:α→β) (set:α→β→α):Prop where
 fits:o+Rep.n β≤Rep.n α
 get : ∀ {H:View} {cs:List Value} {d:α},Rep.rd H cs d→Rep.rd H ((cs.drop o).take (Rep.n β)) (get d)
 set : ∀ {H:View} {cs us:List Value} {d:α} {x:β},Rep.rd H cs d→Rep.rd H us x→Rep.rd H (cs.take o++us++cs.drop (o+Rep.n β)) (set d x)
theorem Part.all {α:Type} [Rep α]:Part α α 0 (fun d=>d) (fun _ x=>x) where
 fits:=by simp
 get:=fun h=>by rw [List.drop_zero,List.take_of_length_le (by rw [Rep.len h];exact Nat.le_refl _)];exact h
 set:=fun h k=>by
  have:=Rep.len h
  rw [List.take_zero,List.nil_append,List.drop_eq_nil_of_le (by omega),List.append_nil];exact k
section
variable {α β γ:Type} [Rep α] [Rep β] [Rep γ] {o:Nat}
theorem Part.fst {g:α→γ} {s:α→γ→α} (p:Part α γ o g s):Part (Cat α β) γ o (fun d=>g d.a) (fun d x=>⟨s d.a x,d.b⟩) where
 fits:=Nat.le_trans p.fits (Nat.le_add_right _ _)
 get:=by
  rintro H cs d ⟨c1,c2,rfl,h1,h2⟩
  have l1:=Rep.len h1
  have f:=p.fits
  rw [List.drop_append_of_le_length (by omega),List.take_append_of_le_length (by simp;omega)]
  exact p.get h1
 set:=by
  rintro H cs us d x ⟨c1,c2,rfl,h1,h2⟩ k
  have l1:=Rep.len h1
  have f:=p.fits
  refine ⟨_,c2,?_,p.set h1 k,h2⟩
  rw [List.take_append_of_le_length (by omega),List.drop_append_of_le_length (by omega)]
  simp [List.append_assoc]
theorem Part.snd {g:β→γ} {s:β→γ→β} (p:Part β γ o g s):Part (Cat α β) γ (Rep.n α+o) (fun d=>g d.b) (fun d x=>⟨d.a,s d.b x⟩) where
 fits:=by
  have:=p.fits
  show Rep.n α+o+Rep.n γ≤Rep.n α+Rep.n β
  omega
 get:=by
  rintro H cs d ⟨c1,c2,rfl,h1,h2⟩
  have l1:=Rep.len h1
  rw [List.drop_append,List.drop_eq_nil_of_le (by omega),List.nil_append,show Rep.n α+o-c1.length=o by omega]
  exact p.get h2
 set:=by
  rintro H cs us d x ⟨c1,c2,rfl,h1,h2⟩ k
  have l1:=Rep.len h1
  refine ⟨c1,_,?_,h1,p.set h2 k⟩
  rw [List.take_append,List.take_of_length_le (by omega),show Rep.n α+o-c1.length=o by omega,List.drop_append,List.drop_eq_nil_of_le (by omega),List.nil_append,
   show Rep.n α+o+Rep.n γ-c1.length=o+Rep.n γ by omega]
  simp [List.append_assoc]
end
theorem Part.via {α β γ:Type} [ra:Rep α] [rb:Rep β] {f:γ→α} {o o':Nat} {g:α→β} {s:α→β→α} (p:Part α β o g s) {g':γ→β} {s':γ→β→γ} (hg : ∀ d,g' d=g (f d)) (hs : ∀ d x,f (s' d x)=s (f d) x) (ho:o=o':=by rfl):@Part γ β (Rep.via f) rb o' g' s':=by
 subst ho
 exact @Part.mk γ β (Rep.via f) rb o g' s' p.fits (fun {H cs d} h=>by rw [hg];exact p.get h) (fun {H cs us d x} h k=>by
  have:=p.set (show Rep.rd H cs (f d) from h) k
  rw [←hs] at this
  exact this)
theorem At.part {α β:Type} [Rep α] [Rep β] {o:Nat} {g:α→β} {s:α→β→α} (p:Part α β o g s) {H:View} {a:Addr} {d:α} (h:At H a d):At H (a.add o) (g d):=by
 obtain ⟨cs,h1,h2⟩:=h
 have l:=Rep.len h2
 exact ⟨_,tg h1 o (Rep.n β) (by rw [l];exact p.fits),p.get h2⟩
theorem Rd.parts {α β:Type} [Rep α] [Rep β] {o:Nat} {g:α→β} {s:α→β→α} (p:Part α β o g s) (ha:Rep.agg α=true) (hb:Rep.agg β=true) {H K:View} {v:Value} {d:α} (h:Rd H v d) : ∃ u,Un.ev K (.parts o (Rep.n β)) v=some u∧Rd H u (g d):=by
 unfold Rd at h
 rw [if_pos ha] at h
 obtain ⟨cs,rfl,h⟩:=h
 refine ⟨.agg (cs.extract o (o+Rep.n β)),by simp,?_⟩
 unfold Rd
 rw [if_pos hb]
 refine ⟨_,rfl,?_⟩
 have k:=p.get h
 rw [Array.toList_extract]
 simpa [List.extract_eq_take_drop] using k
theorem InD.nO:Part InD Int 0 InD.frm (fun d x=>{ d with frm:=x }):=(Part.fst Part.all).via (fun _=>rfl) fun _ _=>rfl
theorem InD.yo:Part InD Int 1 InD.val (fun d x=>{ d with val:=x }):=(Part.snd Part.all).via (fun _=>rfl) fun _ _=>rfl
theorem PhiD.jw:Part PhiD Int 0 PhiD.dst (fun d x=>{ d with dst:=x }):=(Part.fst Part.all).via (fun _=>rfl) fun _ _=>rfl
theorem PhiD.j6:Part PhiD (List InD) 1 PhiD.ins (fun d x=>{ d with ins:=x }):=(Part.snd Part.all).via (fun _=>rfl) fun _ _=>rfl
theorem InsD.Dp:Part InsD Int 0 InsD.op (fun d x=>{ d with op:=x }):=(Part.fst Part.all).via (fun _=>rfl) fun _ _=>rfl
theorem InsD.jw:Part InsD Int 1 InsD.dst (fun d x=>{ d with dst:=x }):=(Part.snd (Part.fst Part.all)).via (fun _=>rfl) fun _ _=>rfl
theorem InsD.qu:Part InsD Int 2 InsD.two (fun d x=>{ d with two:=x }):=(Part.snd (Part.snd (Part.fst Part.all))).via (fun _=>rfl) fun _ _=>rfl
theorem InsD.mP:Part InsD (List Int) 3 InsD.args (fun d x=>{ d with args:=x }):=(Part.snd (Part.snd (Part.snd (Part.fst Part.all)))).via (fun _=>rfl) fun _ _=>rfl
theorem de.y5:Part de Int 0 de.kind (fun d x=>{ d with kind:=x }):=(Part.fst Part.all).via (fun _=>rfl) fun _ _=>rfl
theorem de.mP:Part de (List Int) 1 de.args (fun d x=>{ d with args:=x }):=(Part.snd (Part.fst Part.all)).via (fun _=>rfl) fun _ _=>rfl
theorem de.Ar:Part de (List Int) 2 de.to (fun d x=>{ d with to:=x }):=(Part.snd (Part.snd (Part.fst Part.all))).via (fun _=>rfl) fun _ _=>rfl
theorem BlkD.qS:Part BlkD (List PhiD) 0 BlkD.phis (fun d x=>{ d with phis:=x }):=(Part.fst Part.all).via (fun _=>rfl) fun _ _=>rfl
theorem BlkD.j6:Part BlkD (List InsD) 1 BlkD.ins (fun d x=>{ d with ins:=x }):=(Part.snd (Part.fst Part.all)).via (fun _=>rfl) fun _ _=>rfl
theorem BlkD.nh:Part BlkD de 2 BlkD.term (fun d x=>{ d with term:=x }):=(Part.snd (Part.snd Part.all)).via (fun _=>rfl) fun _ _=>rfl
theorem ae.zp:Part ae Int 0 ae.params (fun d x=>{ d with params:=x }):=(Part.fst Part.all).via (fun _=>rfl) fun _ _=>rfl
theorem ae.x5:Part ae (List BlkD) 1 ae.blocks (fun d x=>{ d with blocks:=x }):=(Part.snd Part.all).via (fun _=>rfl) fun _ _=>rfl
def Sl {α:Type} [Rep α] (H:View) (a:Addr) (v:Value) (l:List α):Prop:=ah H a=some v∧SlRd H v l
theorem At.sl {α:Type} [Rep α] {H:View} {a:Addr} {l:List α} (h:At H a l) : ∃ v,Sl H a v l:=h.list
theorem Addr.z {b o:Nat} {n:Nat}:(⟨b,o,none⟩:Addr).add n=⟨b,o+n,none⟩:=aL rfl n
section
variable {α:Type} [Rep α] {P:Program} {ty:TypeId} {us:List (Nat × Value)} {h:Heap}
theorem ia {H:View} {v:Value} {d:α} (hr:Rd H v d):Rep.rd H v.cells.toList d∧v.cells.size=Rep.n α∧∀ c∈v.cells.toList,c.oneCell'=true:=by
 unfold Rd at hr
 split at hr
 ·obtain ⟨cs,rfl,h⟩:=hr
  exact ⟨h,by rw [←Rep.len h];rfl,fun c hc=>Rep.flat h c hc⟩
 ·rename_i ha
  have hone:=Rep.one (α:=α) (by simpa using ha)
  have hfl:=Rep.flat hr v (by simp)
  have:v.cells = #[v]:=by cases v<;>first | rfl | simp [Value.oneCell'] at hfl
  rw [this]
  exact ⟨by simpa using hr,by simp [hone],by simpa using hfl⟩
theorem rm {H:View} {b:Nat} {v:Value} {d:α} {t:TypeId} {fz:Nat × Nat} (hb:H b=some (.cells v.cells t fz)) (hr:Rd H v d):At H ⟨b,0,none⟩ d:=
 ⟨_,⟨v.cells,t,fz,rfl,hb,by simp;exact List.take_of_length_le (by simp)⟩,(ia hr).1⟩
theorem jj {t:TypeId} {x:Operand} {v:Value} {d:α} {K:Value→Heap→Prop} (hx:asg us x=v) (hv:Rd (vw h) v d)
  (hk : ∀ h':Heap,h'=h.push (.cells v.cells t)→(vw h).le (vw h')→h'.size=h.size+1→At (vw h') ⟨h.size,0,none⟩ d→K (.pointer (some ⟨h.size,0,none⟩)) h'):step P (.box t x) ty us h K:=
 lG hx (hk _ rfl (bg _ _) (by simp) (rm (t:=t) (fz:=(0,0)) (by simp [vw]) (hv.mono (bg _ _))))
theorem SlRd.whole {H K:View} {v:Value} {l:List α} (h:SlRd H v l) (ha:Rep.agg α=true) (hk:H.le K) {i:Nat} (hi:i<l.length) : ∃ u,Un.ev K (.ao (Rep.n α)) (.pointer (some ((slA v).add (i*Rep.n α))))=some u∧Rd K u l[i]:=
 ((h.at hi).mono hk).ao ha
end
theorem At.rng {H:View} {a:Addr} {d:Int} (h:At H a d):-9223372036854775808≤d∧d≤9223372036854775807:=by
 obtain ⟨u,h1,h2⟩:=h.load rfl
 exact (eF.1 h2).2
theorem At.bool {H:View} {a:Addr} {d:Bool} (h:At H a d):ah H a=some (.bool d):=by
 obtain ⟨u,h1,h2⟩:=h.load rfl
 rw [rh.1 h2] at h1
 exact h1
theorem dX {α:Type} [Rep α] {H:View}:SlRd H (.slice none 0 0) ([]:List α):=⟨none,0,rfl,by simp,by simp,.inl rfl⟩
theorem gH {α:Type} [Rep α] {P:Program} {t e n:Nat} {ty:TypeId} {bytes:Nat} {z:Value} {ps:Array (Nat × Operand)} {us:List (Nat × Value)} {vs:List Value} {ds:List α} {h:Heap} {K:Value→Heap→Prop} (ha:Rep.agg α=false) (hT:dA P t e 1 bytes z)
  (hp:ps.map (fun p=>(p.1,asg us p.2))=((vs.zipIdx 0).map fun p=>(p.2,p.1)).toArray) {X:View} (hr:iK X vs ds) (hX:X.le (vw h)) (hn:ds.length=n) (hb:n≤16777216)
  (hk : ∀ u h',(vw h).le (vw h')→h'.size=h.size+1→(∀ Y:View,X.le Y→Y h.size=h'[h.size]?→SlRd Y u ds)→u.ownBlock=some h.size→K u h'):step P (.buildSlice t n ps) ty us h K:=by
 have hl:=hr.len
 obtain ⟨B,h1,h2⟩:=tv vs 0 ((Array.range (n*1)).map (z.cells[· % z.cells.size]!)) (fun v hv=>by
  obtain ⟨i,hi,rfl⟩:=List.getElem_of_mem hv
  exact (hr.get i hi (by omega)).BY ha) (by simp;omega)
 have hB:B=vs.toArray:=by rw [←Array.toList_inj,h2];simp
 refine nY hT (by omega) hp h1 ?_
 have hle:=bg h (.cells B e)
 have hone:=Rep.one (α:=α) ha
 refine hk _ _ hle (by simp) (fun Y hY hYb=>⟨some ⟨h.size,0,none⟩,n,by rw [hn],by omega,by omega,.inr ⟨_,rfl,rfl,fun i hi=>?_⟩⟩) rfl
 rw [aL rfl,hone]
 refine ⟨[vs[i]],⟨B,e,(0,0),rfl,by rw [hYb];simp,?_⟩,?_⟩
 ·rw [hB]
  have hd:vs.drop i=vs[i]::vs.drop (i+1):=List.drop_eq_getElem_cons (by omega)
  simp only [Nat.zero_add,Nat.mul_one,List.length_cons,List.length_nil]
  show List.take (0+1) (List.drop i vs)=_
  rw [hd];rfl
 ·have:=(hr.get i (by omega) hi).mono hY
  unfold Rd at this
  rw [if_neg (by simp [ha])] at this
  exact this
def mapE {β:Type} (enc:β→Value) (f:Int→Option β):Value→Option Value
 | .int .i64 j=>(f j).map enc
 | _=>none
@[simp] theorem j7 {β:Type} {enc:β→Value} {f:Int→Option β} {j:Int}:mapE enc f (.int .i64 j)=(f j).map enc:=rfl
def putM {β:Type} (f:Int→Option β) (j:Int) (v:β):Int→Option β:=fun i=>if i=j then some v else f i
theorem mE {β:Type} {enc:β→Value} {f:Int→Option β} {j:Int} {v:β}:mapE enc (putM f j v) (.int .i64 j)=some (enc v)∧∀ u,u≠.int .i64 j→mapE enc (putM f j v) u=mapE enc f u:=by
 refine ⟨by simp [putM],fun u hu=>?_⟩
 cases u<;>try rfl
 rename_i k i
 cases k<;>try rfl
 have:i≠j:=fun e=>hu (by rw [e])
 simp [putM,this]
theorem qd {β:Type} {enc:β→Value}:mapE enc (fun _=>.none)=fun _=>.none:=by
 funext u;cases u<;>try rfl
 rename_i k i;cases k<;>rfl
theorem Kept.skip {h h':Heap} {r:Nat} (k:Kept h h' (some r)):(skip r h).le (Lft.skip r h'):=fun b o hb=>by
 unfold Lft.skip at hb ⊢
 split at hb
 ·cases hb
 ·rename_i hne
  rw [if_neg hne]
  have hlt:=(Array.getElem?_eq_some_iff.1 hb).1
  rw [k.block b hlt (by simpa using hne)];exact hb
theorem Kept.wH {h h':Heap} {r:Nat} (k:Kept h h' (some r)):(Lft.skip r h).le (vw h'):=View.le_trans k.skip a8
theorem Kept.of_le {h h':Heap} {b:Option Nat} (hle:(vw h).le (vw h')):Kept h h' b:=⟨fw hle,fun k hk _=>by
 have:=hle k h[k] (Array.getElem?_eq_getElem hk)
 rw [Array.getElem?_eq_getElem hk];exact this⟩
theorem Kept.upd {h h':Heap} {r:Nat} (hs:h'.size=h.size) (ho : ∀ b,b≠r→h'[b]? = h[b]?):Kept h h' (some r):=⟨by omega,fun k _ hk=>ho k (by simpa using hk)⟩
theorem iX {P:Program} {ty:TypeId} {us:List (Nat × Value)} {h:Heap} {t ty2:TypeId} {n:Nat} {z:Value} {x y:Operand} {us2:Value→List (Nat × Value)} {v:Value} {K:Value→Heap→Prop} (hz:(P.info? t).map (·.zero)=some (some z)) (hzc:z.cells.size=n) (hsz:b6 P t=some n) (hv:v.cells.size=n)
  (hone : ∀ c∈v.cells.toList,c.oneCell'=true) (hx : ∀ p,asg (us2 p) x=p) (hy : ∀ p,asg (us2 p) y=v) (hk : ∀ h':Heap,(vw h).le (vw h')→h'.size=h.size+1→h'[h.size]? = some (.cells v.cells t (0,0))→K (.pointer (some ⟨h.size,0,none⟩)) h') :
  @step po P (.alloc t) ty us h fun p h2=>@step po2 P (.store t x y) ty2 (us2 p) h2 fun _ h3=>K p h3:=by
 refine dw hz ?_
 refine cJ (g:=h.size) (o:=0) (n:=n) (v:=v) (cur:=z.cells) (e:=t) hsz (hx _) (hy _) hv hone (by simp) (by omega) fun h' hs ⟨row,hrow,he⟩ hoth=>?_
 have hrow2:row=v.cells:=by
  rw [←Array.toList_inj,he]
  simp only [List.take_zero,List.nil_append,Nat.zero_add]
  rw [List.drop_eq_nil_of_le (by simp [hzc]),List.append_nil]
 rw [hrow2] at hrow
 have hle:(vw h).le (vw h'):=fun b o hb=>by
  have hlt:=View.lt (View.le_refl (vw h)) hb
  show h'[b]? = _
  rw [hoth b (by omega)]
  exact bg _ _ b o hb
 exact hk h' hle (by rw [hs];simp) hrow
section
variable {σ α ε:Type} {f:σ→α→Except ε σ} {s s':σ} {l:List α} {k:Nat} {t:ε}
theorem uR [Inhabited α] (h:k<l.length) (hs:(l.take k).foldlM f s = .ok s'):(l.take (k+1)).foldlM f s=f s' (nth l k):=by
 rw [List.take_succ_eq_append_getElem h,List.foldlM_append,hs,aj h]
 show List.foldlM f s' [l[k]]=f s' l[k]
 rw [List.foldlM_cons]
 cases f s' l[k]<;>rfl
theorem xk (h:(l.take k).foldlM f s = .error t):l.foldlM f s = .error t:=by
 have e:l.foldlM f s=(l.take k++l.drop k).foldlM f s:=by rw [List.take_append_drop]
 rw [e,List.foldlM_append,h];rfl
end
def upE {σ ε:Type} (f:Nat→σ→Except ε σ):Nat→σ→Except ε σ
 | 0,s=>.ok s
 | k+1,s=>match upE f k s with
  | .ok s'=>f k s'
  | .error t=>.error t
theorem iS {σ ε:Type} {f:Nat→σ→Except ε σ} {k:Nat} {s s':σ} (h:upE f k s = .ok s'):upE f (k+1) s=f k s':=by simp only [upE,h]
theorem rB {σ ε:Type} {f:Nat→σ→Except ε σ} {s:σ} {t:ε} : ∀ {n k:Nat},k≤n→upE f k s = .error t→upE f n s = .error t
 | 0,k,hk,h=>by
  have:k=0:=by omega
  subst this;exact h
 | n+1,k,hk,h=>by
  rcases Nat.lt_or_ge n k with hlt | hge
  ·have:k=n+1:=by omega
   subst this;exact h
  ·simp only [upE,rB hge h]
theorem rD {σ ε:Type} {f:Nat→σ→Except ε σ} {k n:Nat} {s s':σ} {t:ε} (h:upE f k s = .ok s') (hk:k<n) (he:f k s' = .error t):upE f n s = .error t:=
 rB (k:=k+1) hk (by rw [iS h,he])
theorem eV {α:Type} [Rep α] {P:Program} {ty:TypeId} {us:List (Nat × Value)} {h:Heap} {t ty2:TypeId} {z:Value} {x y:Operand} {us2:Value→List (Nat × Value)} {v:Value} {d:α} {X:View} {K:Value→Heap→Prop} (hz:(P.info? t).map (·.zero)=some (some z)) (hzc:z.cells.size=Rep.n α) (hsz:b6 P t=some (Rep.n α)) (hv:Rd X v d)
  (hx : ∀ p,asg (us2 p) x=p) (hy : ∀ p,asg (us2 p) y=v) (hk : ∀ h':Heap,(vw h).le (vw h')→h'.size=h.size+1→(∀ Y:View,X.le Y→Y h.size=h'[h.size]?→At Y ⟨h.size,0,none⟩ d)→K (.pointer (some ⟨h.size,0,none⟩)) h') :
  @step po P (.alloc t) ty us h fun p h2=>@step po2 P (.store t x y) ty2 (us2 p) h2 fun _ h3=>K p h3:=by
 obtain ⟨c1,c2,c3⟩:=ia hv
 exact iX hz hzc hsz c2 c3 hx hy fun h' hle hs hb=>hk h' hle hs fun Y hY hYb=>rm (by rw [hYb];exact hb) (hv.mono hY)
theorem me {H:View} {B:Nat} {d:BlkD} (h:At H ⟨B,0,none⟩ d) : ∃ vp vi va vt,Sl H ⟨B,0,none⟩ vp d.phis∧Sl H ⟨B,1,none⟩ vi d.ins∧ah H ⟨B,2,none⟩=some (.int .i64 d.term.kind)∧Sl H ⟨B,3,none⟩ va d.term.args∧Sl H ⟨B,4,none⟩ vt d.term.to:=by
 obtain ⟨vp,h1⟩:=(h.part BlkD.qS).sl
 obtain ⟨vi,h2⟩:=(h.part BlkD.j6).sl
 have ht:=h.part BlkD.nh
 obtain ⟨va,h4⟩:=(ht.part de.mP).sl
 obtain ⟨vt,h5⟩:=(ht.part de.Ar).sl
 exact ⟨vp,vi,va,vt,by simpa using h1,by simpa using h2,by simpa using (ht.part de.y5).int,by simpa using h4,by simpa using h5⟩
theorem vv {H:View} {B:Nat} {d:PhiD} (h:At H ⟨B,0,none⟩ d):ah H ⟨B,0,none⟩=some (.int .i64 d.dst)∧∃ v,Sl H ⟨B,1,none⟩ v d.ins:=by
 obtain ⟨v,hv⟩:=(h.part PhiD.j6).sl
 exact ⟨by simpa using (h.part PhiD.jw).int,v,by simpa using hv⟩
theorem od {H:View} {B:Nat} {d:InsD} (h:At H ⟨B,0,none⟩ d):ah H ⟨B,0,none⟩=some (.int .i64 d.op)∧ah H ⟨B,1,none⟩=some (.int .i64 d.dst)∧ah H ⟨B,2,none⟩=some (.int .i64 d.two)∧∃ v,Sl H ⟨B,3,none⟩ v d.args:=by
 obtain ⟨v,hv⟩:=(h.part InsD.mP).sl
 exact ⟨by simpa using (h.part InsD.Dp).int,by simpa using (h.part InsD.jw).int,by simpa using (h.part InsD.qu).int,v,by simpa using hv⟩
theorem iE {H:View} {B:Nat} {d:ae} (h:At H ⟨B,0,none⟩ d):ah H ⟨B,0,none⟩=some (.int .i64 d.params)∧∃ v,Sl H ⟨B,1,none⟩ v d.blocks:=by
 obtain ⟨v,hv⟩:=(h.part ae.x5).sl
 exact ⟨by simpa using (h.part ae.zp).int,v,by simpa using hv⟩
theorem yW {H:View} {B:Nat} {d:InD} (h:At H ⟨B,0,none⟩ d):ah H ⟨B,0,none⟩=some (.int .i64 d.frm)∧ah H ⟨B,1,none⟩=some (.int .i64 d.val):=
 ⟨by simpa using (h.part InD.nO).int,by simpa using (h.part InD.yo).int⟩
theorem SlRd.wh {α:Type} [Rep α] [Inhabited α] {H:View} {v:Value} {l:List α} (h:SlRd H v l) (ha:Rep.agg α=true) {N:Nat} (hn:Rep.n α=N) {i:Nat} (hi:i<l.length) : ∃ u,(∀ K:View,H.le K→Un.ev K (.ao N) (.pointer (some ((slA v).add (i*N))))=some u)∧Rd H u (nth l i):=by
 subst hn
 obtain ⟨u,h1,h2⟩:=h.whole ha (View.le_refl H) hi
 refine ⟨u,fun K hk=>?_,by rw [aj hi];exact h2⟩
 have:=cA (ρ:=fun _=>none) (e:=.un (.ao (Rep.n α)) (.con (.pointer (some ((slA v).add (i*Rep.n α)))))) hk (v:=u) (by simpa using h1)
 simpa using this
instance:Inhabited BlkD:=⟨⟨[],[],⟨0,[],[],⟨0⟩⟩⟩⟩
theorem nm {P:Program} {ty:TypeId} {us:List (Nat × Value)} {h:Heap} {K:Value→Heap→Prop} {f:FuncId} {t:Nat} {ops:List Operand} {T:Array TypeId} {caps:Array Value} (hf:asg us (.tmp t) = .func (.func f) #[] caps) {R:Value→Heap→Prop} {Rp:List PanicEntry→Heap→Prop} (hfn:isFn P f=true)
  (hc:dF P f (ops.map (asg us)++caps.toList).toArray h R Rp) (hk : ∀ v h',R v h'→K v h') (hp : ∀ ch h',Rp ch h'→po.op ch h'):@step po P (.call ⟨.value (.tmp t),ops.toArray,T⟩) ty us h K:=by
 refine cB (po:=po) (nN (po:=po) (R:=R) (f:=f) (args:=(ops.map (asg us)++caps.toList).toArray) (fun w _=>?_) hc hk hp)
 unfold isFn at hfn
 cases hfn':P.funcs[f]? with
 | none=>simp [hfn'] at hfn
 | some fn=>
  simp only [hfn',Bool.and_eq_true,bne_iff_ne,ne_eq] at hfn
  obtain ⟨h1,h2⟩:=hfn
  simp [a6,execOp,resolve,Deferred.ofValue,hf,invoke,callFunc,program,Sem.run,hfn',h1,Option.isNone]
  cases hb:fn.body<;>simp [hb] at h2 ⊢
@[simp] theorem Ca {b:Bool} {v:Value}:gdv b undef v=undef:=rfl
@[simp] theorem Ce {b:Bool} {o:Option Value}:gdO b undef o=some undef:=rfl
end Go.Lft
namespace Go.Proofs.Ytbkdlhkoiagbbaa
open Go Go.Lft
theorem follows:Try.prog.follows .mixedOrders=true:=by kernel_rfl
abbrev T.int:Nat:=3
abbrev T.bool:Nat:=4
abbrev T.bV:Nat:=22
abbrev T.eA:Nat:=24
abbrev T.aH:Nat:=26
abbrev T.iQ:Nat:=29
abbrev T.bQ:Nat:=33
abbrev T.kv:Nat:=38
abbrev T.iH:Nat:=39
abbrev T.aD:Nat:=43
abbrev T.gm:Nat:=44
abbrev T.cH:Nat:=46
abbrev T.cK:Nat:=49
abbrev T.cd:Nat:=54
abbrev T.cL:Nat:=58
abbrev T.r7:Nat:=63
abbrev T.sE:Nat:=67
abbrev T.fZ:Nat:=73
abbrev T.gn:Nat:=76
abbrev T.jl:Nat:=77
abbrev T.tG:Nat:=94
abbrev T.dy:Nat:=96
abbrev T.ib:Nat:=99
abbrev T.dq:Nat:=100
abbrev T.eO:Nat:=102
abbrev T.bU:Nat:=123
abbrev T.cn:Nat:=125
abbrev T.sC:Nat:=129
theorem U.int:Try.prog.underlying T.int=some (.int .i64):=by kernel_rfl
theorem U.bV:Try.prog.underlying T.bV=some (.slice T.int):=by kernel_rfl
theorem El.bV:dA Try.prog T.bV T.int 1 8 (.int .i64 0):=gg (by kernel_rfl) (by kernel_rfl) rfl (by decide)
theorem El.eA:dA Try.prog T.eA T.aD 6 112 (.agg #[(.slice none 0 0),(.slice none 0 0),(.int .i64 0),(.slice none 0 0),(.slice none 0 0),(.int .i32 0)]):=gg (by kernel_rfl) (by kernel_rfl) rfl (by decide)
theorem El.bQ:dA Try.prog T.bQ T.bV 1 24 (.slice none 0 0):=gg (by kernel_rfl) (by kernel_rfl) rfl (by decide)
theorem El.kv:dA Try.prog T.kv T.cH 2 32 (.agg #[(.int .i64 0),(.slice none 0 0)]):=gg (by kernel_rfl) (by kernel_rfl) rfl (by decide)
theorem El.iH:dA Try.prog T.iH T.cd 5 56 (.agg #[(.int .i64 0),(.int .i64 0),(.int .i64 0),(.slice none 0 0),(.int .i32 0)]):=gg (by kernel_rfl) (by kernel_rfl) rfl (by decide)
theorem U.gm:Try.prog.underlying T.gm=some (.slice T.cK):=by kernel_rfl
theorem El.gm:dA Try.prog T.gm T.cK 2 16 (.agg #[(.int .i64 0),(.int .i64 0)]):=gg (by kernel_rfl) (by kernel_rfl) rfl (by decide)
theorem El.r7:dA Try.prog T.r7 T.bool 1 1 (.bool false):=gg (by kernel_rfl) (by kernel_rfl) rfl (by decide)
theorem El.fZ:dA Try.prog T.fZ T.jl 2 16 (.agg #[(.int .i64 0),(.int .i64 0)]):=gg (by kernel_rfl) (by kernel_rfl) rfl (by decide)
theorem U.gn:Try.prog.underlying T.gn=some (.map T.jl T.int):=by kernel_rfl
theorem U.jl:Try.prog.underlying T.jl=some (.array 2 T.int):=by kernel_rfl
theorem U.dq:Try.prog.underlying T.dq=some (.map T.int T.sC):=by kernel_rfl
theorem U.cn:Try.prog.underlying T.cn=some (.map T.int T.bU):=by kernel_rfl
end Go.Proofs.Ytbkdlhkoiagbbaa
namespace Go.Lft
open Go Go.ChangeShapes Go.WideShapes Go.RowKit
structure RT (P:Program) (t:TypeId) (α:Type) [Rep α]:Prop where
 cells : ∀ {H:Type} {enc:TypeId × Value→H} {W:World} {spare:Nat→Bool} {held:Bool} {fuel:Nat} {cs:List Value} {d:DataW H} {ps:List MemPlace},
  DataW.trod enc P W 0 spare held fuel t cs=some (d,ps)→(∀ b∈d.weights P t,b≤reachBytes)→∃ x:α,Rep.rd (vw W.heap) cs x
 val : ∀ {W:World} {r:Reach} {base:Nat} {v:Value},Value.okWide P W r base t v→if Rep.agg α then ∃ cs,v = .agg cs else v.cells = #[v]
theorem RT.arg {P:Program} {t:TypeId} {α:Type} [Rep α] (rt:RT P t α) {H:Type} {enc:TypeId × Value→H} {W:World} {spare:Nat→Bool} {held:Bool} {v:Value} {d:DataW H} {ps:List MemPlace} {r:Reach} {base:Nat}
  (h:DataW.Trod enc P W 0 spare held t v d ps) (hok:Value.okWide P W r base t v) (hw : ∀ b∈d.weights P t,b≤reachBytes) : ∃ x:α,Rd (vw W.heap) v x:=by
 obtain ⟨fuel,h⟩:=h
 obtain ⟨x,hx⟩:=rt.cells h hw
 have hv:=rt.val hok
 refine ⟨x,?_⟩
 unfold Rd
 split
 ·rename_i ha
  rw [if_pos ha] at hv
  obtain ⟨cs,rfl⟩:=hv
  exact ⟨cs,rfl,hx⟩
 ·rename_i ha
  rw [if_neg ha] at hv
  rw [hv] at hx
  exact hx
theorem wf_i64 {n:Int} (h:(Lit.int .i64 n).wf=true):-9223372036854775808≤n∧n≤9223372036854775807:=by
 simp only [Lit.wf,Bool.and_eq_true,decide_eq_true_eq] at h
 simpa [IntKind.min,IntKind.max,IntKind.signed,IntKind.bits] using h
section
variable {P:Program} {t e:TypeId} {H:Type} {enc:TypeId × Value→H} {W:World} {spare:Nat→Bool} {held:Bool} {fuel:Nat} {cs:List Value} {x:DataW H × List MemPlace}
theorem trod_int {k:IntKind} (ht:P.underlying t=some (.int k)) (h:DataW.trod enc P W 0 spare held fuel t cs=some x) : ∃ n,cs=[.int k n]∧(Lit.int k n).wf=true:=by
 cases fuel with
 | zero=>simp [DataW.trod] at h
 | succ n=>
  unfold DataW.trod at h
  rw [ht] at h
  split at h<;>simp_all
end
section
variable {P:Program} {t e:TypeId}
theorem BD (ht:P.underlying t=some (.int .i64)):RT P t Int where
 cells:=fun {H enc W spare held fuel cs d ps} h _=>by
  obtain ⟨n,rfl,hw⟩:=trod_int ht h
  exact ⟨n,rfl,wf_i64 hw⟩
 val:=fun {W r base v} h=>by
  simp only [Value.okWide,ht,Cell.okWide] at h
  cases v<;>simp [Cell.ok,ht] at h ⊢<;>first | rfl | simp [Rep.agg,Value.cells]
end
theorem zi {w w':World} (hs:Same w w') (hle:(vw w.heap).le (vw w'.heap)):Below w.heap.size w w':=
 ⟨hs.os,hs.tape,hs.output,hs.size,fun k hk=>by
  have:=hle k w.heap[k] (Array.getElem?_eq_getElem hk)
  rw [Array.getElem?_eq_getElem hk];exact this⟩
theorem lf {H:Type} {enc:TypeId × Value→H} {P:Program} {W W':World} (hl:laidOutB P=true) (hb:Below W.heap.size W W') : ∀ {ts:List TypeId} {vs:List Value} {ds:List (DataW H)} {ps:List MemPlace},
  (∀ t∈ts,P.readableRec t=true∧t<P.types.size)→DataW.TrodAll enc P W 0 (fun _=>true) true ts vs ds ps→(∀ x∈ps,x.block<W.heap.size)→DataW.TrodAll enc P W' 0 (fun b=>decide (b<W.heap.size)) true ts vs ds ps
 | [],vs,ds,ps,_,h,_=>by
  obtain ⟨rfl,rfl,rfl⟩:=trodAll_nil h
  rfl
 | t::ts,vs,ds,ps,hr,h,hlt=>by
  obtain ⟨v,vs',d,ds',p,q,rfl,rfl,rfl,h1,h2⟩:=trodAll_cons h
  obtain ⟨g1,g2⟩:=hr t (List.mem_cons_self ..)
  exact ⟨p,q,Below.trod hl g1 g2 h1 hb fun x hx=>hlt x (List.mem_append_left _ hx),lf hl hb (fun t ht=>hr t (List.mem_cons_of_mem _ ht)) h2 fun x hx=>hlt x (List.mem_append_right _ hx),rfl⟩
theorem x8 {H:Type} {enc:TypeId × Value→H} {P:Program} {fn:Func} {s:ChangeSpec} {W W':World} {args:Array Value} {ds gs:List (DataW H)} {before:List MemPlace} {fresh:Bool} {tb:TypeId} (hl:laidOutB P=true)
  (hr : ∀ t∈fn.params.toList,P.readableRec t=true∧t<P.types.size) (hW:DataW.Whole enc P fn.params.toList s.vars false W args.toList ds gs before) (hv:s.vars=[]) (hs:s.fn H (ds++gs)={ results:=[.lit (.bool true)],args:=ds })
  (hres:fn.resultTypes = #[tb]) (htb:P.underlying tb=some .bool) (hb:Below W.heap.size W W'):s.post enc P fn false fresh false false W args (.bool true) W':=by
 have hW0:=hW
 obtain ⟨p,q,hA,hV,rfl,_,_⟩:=hW
 rw [hv] at hV
 obtain ⟨rfl,rfl⟩:=trodVars_none hV
 have hlt : ∀ x∈p,x.block<W.heap.size:=fun x hx=>by simpa using hW0.lt x (List.mem_append_left _ hx)
 refine ⟨ds,[],p++[],[],p,[],hW0,?_,?_,?_,hb.frame _,fun h=>by cases h⟩
 ·rw [hs,hres]
  exact trodAll_mk1 (shut_bool htb true)
 ·rw [hs]
  exact lf hl hb hr hA hlt
 ·rw [hv,hs];rfl
theorem law1 {H:Type} {enc:TypeId × Value→H} {P:Program} {a:Assume} {C:Checked} {os:Os} {f:FuncId} {fn:Func} {s:ChangeSpec} {conds:List PathCond} {fresh:Bool} {tb t1:TypeId} {α:Type} [Rep α]
  (own:ownKnob C.prog.godebug=none) (started:os.Started) (noInit:C.prog.inits.idxOf? f=none) (hfn:C.prog.funcs[f]? = some fn) (hP:C.prog=P)
  (witness : ∃ (w:World) (tape:Tape) (i:Input),w.os=os∧(w.forCall tape i).Shaped C.prog∧i.vars=[]∧Input.okWide C.prog (w.forCall tape i) .any w.heap.size f i∧
   s.pre6 enc C.prog fn conds false (w.forCall tape i).memory i.args∧a.holds C.prog (lone (Frame.enter C.prog f i.args .normal) [] (w.forCall tape i)))
  (hl:laidOutB P=true) (hr : ∀ t∈fn.params.toList,P.readableRec t=true∧t<P.types.size) (hv:s.vars=[]) (hs : ∀ ds,ds.length=1→s.fn H ds={ results:=[.lit (.bool true)],args:=ds })
  (hres:fn.resultTypes = #[tb]) (htb:P.underlying tb=some .bool)
  (hp:fn.params = #[t1]) (r1:RT P t1 α)
  (hcall : ∀ (h:Heap) (v1:Value) (x1:α),Rd (vw h) v1 x1→ay P f #[v1] h (fun v h'=>v = .bool true∧(vw h).le (vw h'))) :
  ReturnsInHanded a C os f .any (s.pre6 enc C.prog fn conds false) (s.post enc C.prog fn false fresh false false):=by
 subst hP
 refine returnsInHanded_of_change_shaped own started noInit hfn witness ?_
 intro W base args ds gs before hval hW _ hwt _ _
 have hW0:=hW
 obtain ⟨p,q,hA,hV,_,_,_⟩:=hW
 rw [hv] at hV
 obtain ⟨hgs,_⟩:=trodVars_none hV
 rw [hp] at hA
 obtain ⟨v1,d1,hargs,hds,h1⟩:=trodAll_one hA
 have hlen:(ds++gs).length=1:=by rw [hds,hgs];rfl
 rw [hgs,hds,hp] at hwt
 simp only [List.append_nil,List.all_eq_true,decide_eq_true_eq] at hwt
 obtain ⟨x1,q1⟩:=r1.arg h1 (hval 0 t1 v1 (by rw [hp];rfl) (by rw [hargs];rfl)) (fun b hb=>hwt b (by simp [DataW.weightsEach,hb]))
 rw [hargs]
 refine (hcall W.heap v1 x1 q1 W rfl).mono ?_
 rintro e W' ⟨v,rfl,⟨rfl,hle⟩,hsame⟩
 rw [←hargs]
 have hgs':ds++gs=ds:=by rw [hgs,List.append_nil]
 exact ⟨_,rfl,x8 hl hr hW0 hv (by rw [hs _ hlen,hgs']) hres htb (zi hsame hle)⟩
end Go.Lft
namespace Go.Lft
open Go Go.ChangeShapes Go.WideShapes Go.RowKit
def FRd (P:Program) (l:List (Nat × TypeId)) (o:Nat) (α:Type) [Rep α]:Prop:=
 ∀ {H:Type} {enc:TypeId × Value→H} {W:World} {spare:Nat→Bool} {held:Bool} {n:Nat} {cs:List Value} {xs:List (DataW H × List MemPlace)},cs.length=o+Rep.n α→xs.length=l.length→
  (∀ (i:Nat) (p:Nat × TypeId),l[i]? = some p→DataW.trod enc P W 0 spare held n p.2 ((cs.drop p.1).take (P.cellsOf p.2))=xs[i]?)→
  (∀ b∈DataW.weightsEach P (l.map (·.2)) (xs.map (·.1)),b≤reachBytes)→∃ x:α,Rep.rd (vw W.heap) (cs.drop o) x
theorem FRd.one {P:Program} {t:TypeId} {o:Nat} {α:Type} [Rep α] (rt:RT P t α) (hc:P.cellsOf t=Rep.n α):FRd P [(o,t)] o α:=by
 intro H enc W spare held n cs xs hl hxl hf hw
 match xs,hxl with
 | [x],_=>
  have h0:=hf 0 (o,t) rfl
  rw [List.take_of_length_le (by simp;omega)] at h0
  exact rt.cells (d:=x.1) (ps:=x.2) h0 fun b hb=>hw b (by simp [DataW.weightsEach,hb])
theorem FRd.cons {P:Program} {t:TypeId} {o:Nat} {l:List (Nat × TypeId)} {α β:Type} [Rep α] [Rep β] (rt:RT P t α) (hc:P.cellsOf t=Rep.n α) (hr:FRd P l (o+Rep.n α) β):FRd P ((o,t)::l) o (Cat α β):=by
 intro H enc W spare held n cs xs hl hxl hf hw
 match xs,hxl with
 | x::xs,hxl=>
  have h0:=hf 0 (o,t) rfl
  have hl:cs.length=o+(Rep.n α+Rep.n β):=hl
  obtain ⟨a,ha⟩:=rt.cells (d:=x.1) (ps:=x.2) h0 fun b hb=>hw b (by simp [DataW.weightsEach,hb])
  obtain ⟨b,hb⟩:=hr (cs:=cs) (xs:=xs) (by omega) (by simpa using hxl) (fun i p hp=>by simpa using hf (i+1) p (by simpa using hp)) fun b hb=>hw b (by simp [DataW.weightsEach] at hb ⊢;exact .inr hb)
  refine ⟨⟨a,b⟩,_,_,?_,ha,hb⟩
  rw [hc,←List.drop_drop,List.take_append_drop]
end Go.Lft
namespace Go.Proofs.Ytbkdlhkoiagbbaa
open Go Go.Lft
theorem Try.own:ownKnob Try.prog.godebug=none:=by kernel_rfl
theorem Try.laidOut:laidOutB Try.prog=true:=by kernel_rfl
theorem rtI:RT Try.prog T.int Int:=BD (by kernel_rfl)
end Go.Proofs.Ytbkdlhkoiagbbaa
namespace Go.Lft
open Go
variable {po po2 po3:OP} {pp:PP}
structure Raw where
 v:Value
instance:Rep Raw where
 n:=1
 agg:=false
 rd:=fun _ cs d=>cs=[d.v]∧d.v.oneCell'=true
 mono:=fun _ h=>h
 len:=fun h=>by rw [h.1];rfl
 one:=fun _=>rfl
 flat:=fun h u hu=>by rw [h.1] at hu;simp at hu;subst hu;exact h.2
 pos:=Nat.one_pos
 cT:=fun h=>h
instance:Inhabited Raw:=⟨⟨.bool false⟩⟩
theorem tV {H:View} {v:Value} {d:Raw}:Rd H v d↔v=d.v∧d.v.oneCell'=true:=by simp [Rd,Rep.agg,Rep.rd]
theorem At.raw {H:View} {a:Addr} {d:Raw} (h:At H a d):ah H a=some d.v:=by
 obtain ⟨u,h1,h2⟩:=h.load rfl
 rw [(tV.1 h2).1] at h1
 exact h1
theorem vY {α β:Type} [Rep α] [Rep β] {off:Nat} {g:α→β} {s:α→β→α} (p:Part α β off g s) {P:Program} {W:View} {h:Heap} {e:TypeId} {v:Value} {l:List α} {t ty:TypeId} {x y:Operand} {us:List (Nat × Value)} {i:Nat} {u:Value} {d:β} {K:Value→Heap→Prop} (hsz:b6 P t=some (Rep.n β))
  (hx:asg us x = .pointer (some (((slA v).add (i*Rep.n α)).add off))) (hy:asg us y=u) (ho:OwnT W h e v l) (hi:i<l.length) (hr:Rd W u d) (hk : ∀ h',h'.size=h.size→OwnT W h' e v (l.set i (s l[i] d))→gB h h' v v→K undef h'):@step po P (.store t x y) ty us h K:=by
 obtain ⟨c1,c2,c3⟩:=ia hr
 obtain ⟨hbd,xs,⟨hxl,hown⟩,hel⟩:=ho
 have hf:=p.fits
 refine cB (po:=po) (iP fun w hw=>?_)
 subst hw
 rcases hown with ⟨rfl,hn⟩ | ⟨gb,cap,cur,rfl,hg,h1,h2,h3,h4⟩
 ·omega
 ·have hle:i*Rep.n α+Rep.n α≤l.length*Rep.n α:=by rw [←Nat.succ_mul];exact Nat.mul_le_mul_right _ hi
  have hcap:l.length*Rep.n α≤cap*Rep.n α:=Nat.mul_le_mul_right _ h1
  have hlen:u.cells.toList.length=Rep.n β:=by simpa using c2
  have hrun:=run_storeCells_at P gb (i*Rep.n α+off) e u.cells.toList 0 cur w hg (by simp only [Nat.add_zero];omega) c3
  have hadd:((slA (.slice (some ⟨gb,0,none⟩) l.length cap)).add (i*Rep.n α)).add off=⟨gb,i*Rep.n α+off,none⟩:=by
   show ((⟨gb,0,none⟩:Addr).add _).add _=_
   simp [Addr.z]
  have hszr:=run_sizeOf (P:=P) (w:=w) hsz
  obtain ⟨row,hrow⟩ : ∃ row:Array Value,row.toList=cur.toList.take (i*Rep.n α+off)++u.cells.toList++cur.toList.drop (i*Rep.n α+off+Rep.n β):=⟨(cur.toList.take (i*Rep.n α+off)++u.cells.toList++cur.toList.drop (i*Rep.n α+off+Rep.n β)).toArray,rfl⟩
  have hrun':Sem.run P (storeCells ⟨gb,i*Rep.n α+off,none⟩ u.cells.toList) w = .ok () (w.setRow gb row):=by
   rw [hrun];congr 2
   rw [←Array.toList_inj,hrow,hlen];rfl
  have hrsz:row.size=cap*Rep.n α:=by
   have:=congrArg List.length hrow
   simp only [Array.length_toList,List.length_append,List.length_take,List.length_drop,c2] at this
   omega
  refine ⟨w.setRow gb row,?_,Same.lE rfl rfl rfl (by simp) hg (by simp) (fun k _ hne=>setRow_other w gb k _ (fun e=>hne e)),hk (w.setRow gb row).heap (by simp) ⟨by simpa using hbd,xs.take (i*Rep.n α+off)++u.cells.toList++xs.drop (i*Rep.n α+off+Rep.n β),⟨?_,.inr ⟨gb,cap,row,by simp,setRow_heap w gb cur row e _ hg,by simpa using h1,h2,?_,?_⟩⟩,?_⟩ ⟨⟨by simp,fun k hk hne=>setRow_other w gb k _ (fun e=>hne (by simp [Value.ownBlock,e]))⟩,.inl rfl⟩⟩
  ·simp only [a6,execOp,hx,hy,hadd]
   simp [Instr.storeAt,Instr.sureAddr,storeVar,hszr,c2,hrun']
  ·simp only [List.length_append,List.length_take,List.length_drop,hlen,List.length_set];omega
  ·exact hrsz
  ·simp only [List.length_set]
   rw [hrow,←h4,List.take_take,Nat.min_eq_left (by omega),List.append_assoc,List.append_assoc]
   have e1:(cur.toList.take (i*Rep.n α+off)).length=i*Rep.n α+off:=by simp;omega
   rw [List.take_append,e1,List.take_of_length_le (by omega)]
   congr 1
   rw [List.take_append,hlen,List.take_of_length_le (by omega)]
   congr 1
   rw [List.drop_take]
   congr 1
   omega
  ·intro j hj
   simp only [List.length_set] at hj
   have hjle:j*Rep.n α+Rep.n α≤l.length*Rep.n α:=by rw [←Nat.succ_mul];exact Nat.mul_le_mul_right _ hj
   have e1:(xs.take (i*Rep.n α+off)).length=i*Rep.n α+off:=by simp;omega
   by_cases hij:i=j
   ·subst hij
    have hset:(l.set i (s l[i] d))[i]'(by simpa using hj)=s l[i] d:=by simp
    rw [hset]
    have:=p.set (hel i hj) c1
    have hcs:((xs.drop (i*Rep.n α)).take (Rep.n α)).length=Rep.n α:=by simp;omega
    have e3:((xs.take (i*Rep.n α+off)++u.cells.toList++xs.drop (i*Rep.n α+off+Rep.n β)).drop (i*Rep.n α)).take (Rep.n α)=((xs.drop (i*Rep.n α)).take (Rep.n α)).take off++u.cells.toList++((xs.drop (i*Rep.n α)).take (Rep.n α)).drop (off+Rep.n β):=by
     rw [List.append_assoc,List.drop_append_of_le_length (by omega),List.drop_take,Nat.add_sub_cancel_left,List.take_take,Nat.min_eq_left (by omega),List.append_assoc]
     have e4:((xs.drop (i*Rep.n α)).take off).length=off:=by simp;omega
     rw [List.take_append,e4,List.take_of_length_le (by omega)]
     congr 1
     rw [List.take_append,hlen,List.take_of_length_le (by omega)]
     congr 1
     rw [List.drop_take,List.drop_drop]
     rw [show i*Rep.n α+(off+Rep.n β)=i*Rep.n α+off+Rep.n β by omega,show Rep.n α-off-Rep.n β=Rep.n α-(off+Rep.n β) by omega]
    rw [e3];exact this
   ·have hset:(l.set i (s l[i] d))[j]'(by simpa using hj)=l[j]:=by simp [hij]
    rw [hset]
    have:((xs.take (i*Rep.n α+off)++u.cells.toList++xs.drop (i*Rep.n α+off+Rep.n β)).drop (j*Rep.n α)).take (Rep.n α)=(xs.drop (j*Rep.n α)).take (Rep.n α):=by
     rcases Nat.lt_or_ge j i with hlt | hge
     ·have h5:j*Rep.n α+Rep.n α≤i*Rep.n α:=by rw [←Nat.succ_mul];exact Nat.mul_le_mul_right _ hlt
      rw [List.append_assoc,List.drop_append_of_le_length (by omega),List.take_append_of_le_length (by simp;omega),List.drop_take,List.take_take,Nat.min_eq_left (by omega)]
     ·have h5:i*Rep.n α+Rep.n α≤j*Rep.n α:=by rw [←Nat.succ_mul];exact Nat.mul_le_mul_right _ (by omega)
      have e2:(xs.take (i*Rep.n α+off)++u.cells.toList).length=i*Rep.n α+off+Rep.n β:=by rw [List.length_append,e1,hlen]
      rw [List.drop_append,List.drop_eq_nil_of_le (by omega),List.nil_append,e2,List.drop_drop]
      congr 2
      omega
    rw [this]
    exact hel j hj
abbrev Key:=Nat × Nat
structure Item where
 α:Type
 rep:Rep α
 e:TypeId
 v:Value
 l:List α
abbrev Own:=Key→Option Item
def it {α:Type} [r:Rep α] (e:TypeId) (v:Value) (l:List α):Option Item:=some ⟨α,r,e,v,l⟩
def bx {α:Type} [r:Rep α] (e:TypeId) (B:Nat) (d:α):Option Item:=some ⟨α,r,e,.slice (some ⟨B,0,none⟩) 1 1,[d]⟩
def Own.upd (o:Own) (k:Key) (i:Option Item):Own:=fun j=>if j=k then i else o j
structure Owns (W:View) (h:Heap) (o:Own):Prop where
 wle:W.le (vw h)
 own : ∀ k i,o k=some i→@OwnT i.α i.rep W h i.e i.v i.l
 av : ∀ k i,o k=some i→Av W i.v
 dj : ∀ k k' i i' b,o k=some i→o k'=some i'→i.v.ownBlock=some b→i'.v.ownBlock=some b→k=k'
section
variable {W:View} {h h':Heap} {o:Own} {k:Key}
theorem Owns.congr {o':Own} (w:Owns W h o) (he : ∀ k,o' k=o k):Owns W h o':=by
 have:o'=o:=funext he
 rw [this];exact w
theorem Owns.start (hw:W.le (vw h)):Owns W h (fun _=>.none):=⟨hw,fun _ _ h=>(by cases h),fun _ _ h=>(by cases h),fun _ _ _ _ _ h=>(by cases h)⟩
theorem Owns.get {α:Type} [r:Rep α] {e:TypeId} {v:Value} {l:List α} (w:Owns W h o) (hk:o k=it e v l):OwnT W h e v l:=w.own k _ hk
theorem Owns.now {α:Type} [r:Rep α] {e:TypeId} {v:Value} {l:List α} (w:Owns W h o) (hk:o k=it e v l):SlRd (vw h) v l:=(w.get hk).now w.wle
theorem Owns.at {α:Type} [r:Rep α] {e:TypeId} {B:Nat} {d:α} (w:Owns W h o) (hk:o k=bx e B d):At (vw h) ⟨B,0,.none⟩ d:=by
 have:SlRd (vw h) (.slice (some ⟨B,0,.none⟩) 1 1) [d]:=w.now (k:=k) hk
 have:=this.at (i:=0) (by simp)
 simpa [slA] using this
theorem Owns.cells {α:Type} [r:Rep α] {e:TypeId} {v:Value} {l:List α} (w:Owns W h o) (hk:o k=it e v l):v.cells = #[v]∧v.oneCell'=true:=by
 have:=(w.get hk).len (K:=nothing)
 cases v<;>first | exact ⟨rfl,rfl⟩ | (simp [Un.ev,vL] at this)
theorem Owns.lt {i:Item} (w:Owns W h o) (hk:o k=some i) {b:Nat} (hb:i.v.ownBlock=some b):b<h.size:=@OwnT.lt i.α i.rep _ _ _ _ _ (w.own k i hk) _ hb
theorem Owns.ext' (w:Owns W h o) (hle:(vw h).le (vw h')):Owns W h' o:=
 ⟨View.le_trans w.wle hle,fun k i hk=>@OwnT.ext i.α i.rep _ _ _ _ _ _ (w.own k i hk) hle,w.av,w.dj⟩
theorem Owns.ext (w:Owns W h o) (hle:(vw h).le (vw h')):Owns (grow W h h') h' o:=
 ⟨iW (View.le_trans w.wle hle),fun k i hk=>@OwnT.mono i.α i.rep _ _ _ _ _ (@OwnT.ext i.α i.rep _ _ _ _ _ _ (w.own k i hk) hle) _ (dU w.wle),
  fun k i hk=>(w.av k i hk).grow fun b hb=>w.lt hk hb,w.dj⟩
theorem Owns.CS {W':View} (w:Owns W h o) (h1:W.le W') (h2:W'.le (vw h)) (h3 : ∀ k i b,o k=some i→i.v.ownBlock=some b→W' b = .none):Owns W' h o:=
 ⟨h2,fun k i hk=>@OwnT.mono i.α i.rep _ _ _ _ _ (w.own k i hk) _ h1,fun k i hk b hb=>h3 k i b hk hb,w.dj⟩
theorem Owns.sub {o':Own} (w:Owns W h o) (hs : ∀ k i,o' k=some i→o k=some i):Owns W h o':=
 ⟨w.wle,fun k i hk=>w.own k i (hs k i hk),fun k i hk=>w.av k i (hs k i hk),fun k k' i i' b hk hk'=>w.dj k k' i i' b (hs k i hk) (hs k' i' hk')⟩
theorem Owns.jB {i:Item} {β:Type} [rb:Rep β] {e2:TypeId} {v':Value} {l':List β} (w:Owns W h o) (hk:o k=some i) (o2:OwnT W h' e2 v' l') (m:gB h h' i.v v'):Owns W h' (o.upd k (it e2 v' l')):=by
 obtain ⟨w1,a1⟩:=m.view w.wle (w.av k i hk)
 have new : ∀ (y:Item) (q:Key) (b:Nat),o q=some y→y.v.ownBlock=some b→v'.ownBlock=some b→q=k:=fun y q b hq hb hv=>by
  rcases m.at_ with e | e
  ·exact w.dj q k y i b hq hk hb (e▸hv)
  ·rw [e] at hv
   simp only [Option.some.injEq] at hv
   have:=w.lt hq hb;omega
 refine ⟨w1,fun j x hj=>?_,fun j x hj=>?_,fun j j' x x' b hj hj' hb hb'=>?_⟩
 ·unfold Own.upd at hj
  split at hj
  ·cases hj;exact o2
  ·rename_i hjk
   refine @OwnT.kept x.α x.rep _ _ _ _ _ _ (w.own j x hj) _ m.kept ?_
   cases hx:x.v.ownBlock with
   | none=>exact .inl rfl
   | some b=>exact .inr fun e=>hjk (w.dj j k x i b hj hk hx e.symm)
 ·unfold Own.upd at hj
  split at hj
  ·cases hj;exact a1
  ·exact (m.view w.wle (w.av k i hk) |>.1:_) |> fun _=>w.av j x hj
 ·unfold Own.upd at hj hj'
  split at hj
  ·rename_i a
   cases hj
   split at hj'
   ·rename_i c;rw [a,c]
   ·rw [a];exact (new x' j' b hj' hb' hb).symm
  ·split at hj'
   ·rename_i c
    cases hj'
    rw [c];exact new x j b hj hb hb'
   ·exact w.dj j j' x x' b hj hj' hb hb'
theorem Owns.add {β:Type} [rb:Rep β] {e2:TypeId} {v':Value} {l':List β} (w:Owns W h o) (hk:o k = .none) (o2:OwnT W h' e2 v' l') (hle:(vw h).le (vw h')) (hb : ∀ b,v'.ownBlock=some b→h.size≤b):Owns W h' (o.upd k (it e2 v' l')):=by
 have w1:=w.ext' hle
 refine ⟨w1.wle,fun j x hj=>?_,fun j x hj=>?_,fun j j' x x' b hj hj' hb1 hb2=>?_⟩
 ·unfold Own.upd at hj
  split at hj
  ·cases hj;exact o2
  ·exact w1.own j x hj
 ·unfold Own.upd at hj
  split at hj
  ·cases hj;intro b hb';exact View.da w.wle (hb b hb')
  ·exact w.av j x hj
 ·unfold Own.upd at hj hj'
  split at hj
  ·rename_i a
   cases hj
   split at hj'
   ·rename_i c;rw [a,c]
   ·have:=w.lt hj' hb2;have:=hb b hb1;omega
  ·split at hj'
   ·cases hj'
    have:=w.lt hj hb1;have:=hb b hb2;omega
   ·exact w.dj j j' x x' b hj hj' hb1 hb2
theorem Own.ag {i:Option Item}:o.upd k i k=i:=by simp [Own.upd]
theorem Own.ab {i:Option Item} {j:Key} (hj:j≠k):o.upd k i j=o j:=by simp [Own.upd,hj]
theorem jN {β:Type} [Rep β] {B:Nat} {e:TypeId} {v:Value} {d:β} (hb:h[B]? = some (.cells v.cells e (0,0))) (hr:Rd W v d) (hn:Rep.n β≤1000):OwnT W h e (.slice (some ⟨B,0,.none⟩) 1 1) [d]:=by
 obtain ⟨c1,c2,c3⟩:=ia hr
 refine ⟨by simp,v.cells.toList,⟨by simp [c2],.inr ⟨B,1,v.cells,rfl,hb,Nat.le_refl _,by simp [maxLen],by omega,?_⟩⟩,fun i hi=>?_⟩
 ·rw [List.take_of_length_le];simp [c2]
 ·have:i=0:=by simpa using hi
  subst this
  simp only [Nat.zero_mul,List.drop_zero,List.getElem_cons_zero]
  rw [List.take_of_length_le (by simp [c2])];exact c1
section
variable {P:Program} {ty:TypeId} {us:List (Nat × Value)} {α:Type} [r:Rep α] {e:TypeId} {v:Value} {l:List α}
theorem Owns.eg {t:TypeId} {bytes:Nat} {z:Value} {x y:Operand} {u:Value} {l2:List α} {K:Value→Heap→Prop} (w:Owns W h o) (hk:o k=it e v l) (hT:dA P t e (Rep.n α) bytes z) (hx:asg us x=v) (hy:asg us y=u)
  (hs:SrcT (vw h) W u l2) (hb:(l.length+l2.length)*bytes≤140737488355328) (hb2:l.length+l2.length≤140737488355328)
  (hK : ∀ v' h',Owns W h' (o.upd k (it e v' (l++l2)))→gB h h' v v'→K v' h'):@step po P (.call ⟨.builtin .append,#[x,y],#[t,t]⟩) ty us h K:=
 Lft.eg hT hx hy (w.get hk) hs hb hb2 fun v' h' o2 m=>hK v' h' (w.jB hk o2 m) m
theorem Owns.kL {t ty2:TypeId} {bytes:Nat} {z:Value} {x y y2:Operand} {us2:Value→List (Nat × Value)} {u:Value} {d:α} {K:Value→Value→Heap→Prop} (w:Owns W h o) (hk:o k=it e v l) (hT:dA P t e (Rep.n α) bytes z) (hx:asg us x=u) (hr:Rd W u d)
  (hb:(l.length+1)*bytes≤140737488355328) (hb2:l.length+1≤140737488355328) (hy : ∀ u,asg (us2 u) y=v) (hy2 : ∀ u,asg (us2 u) y2=u)
  (hK : ∀ u v' h',Owns W h' (o.upd k (it e v' (l++[d])))→h.size≤h'.size→K u v' h') :
  @step po P (.buildSlice t 1 #[(0,x)]) ty us h fun u h2=>@step po2 P (.call ⟨.builtin .append,#[y,y2],#[t,t]⟩) ty2 (us2 u) h2 fun v' h3=>K u v' h3:=by
 refine nj (po:=po) hT hx hr fun u h2 hs hle hsz=>?_
 exact (w.ext' hle).eg hk hT (hy u) (hy2 u) hs hb hb2 fun v' h3 w3 m=>hK u v' h3 w3 (by have:=m.kept.size;omega)
theorem Owns.tX {t:TypeId} {x y:Operand} {i:Nat} {u:Value} {d:α} {K:Value→Heap→Prop} (w:Owns W h o) (hk:o k=it e v l) (hsz:b6 P t=some (Rep.n α)) (hx:asg us x = .pointer (some ((slA v).add (i*Rep.n α)))) (hy:asg us y=u) (hi:i<l.length) (hr:Rd W u d)
  (hK : ∀ h',Owns W h' (o.upd k (it e v (l.set i d)))→h'.size≥h.size→K undef h'):@step po P (.store t x y) ty us h K:=
 mL (po:=po) hsz hx hy (w.get hk) hi hr fun h' o2 m=>hK h' (w.jB hk o2 m) m.kept.size
theorem Owns.mc {β:Type} [Rep β] {off:Nat} {g:α→β} {s:α→β→α} (p:Part α β off g s) {t:TypeId} {x y:Operand} {i:Nat} {u:Value} {d:β} {K:Value→Heap→Prop} (w:Owns W h o) (hk:o k=it e v l) (hsz:b6 P t=some (Rep.n β)) (hx:asg us x = .pointer (some (((slA v).add (i*Rep.n α)).add off))) (hy:asg us y=u) (hi:i<l.length) (hr:Rd W u d)
  (hK : ∀ h',Owns W h' (o.upd k (it e v (l.set i (s l[i] d))))→h'.size=h.size→K undef h'):@step po P (.store t x y) ty us h K:=
 vY (po:=po) p hsz hx hy (w.get hk) hi hr fun h' hs o2 m=>hK h' (w.jB hk o2 m) hs
theorem Owns.gR {β:Type} [Rep β] {off:Nat} {g:α→β} {s:α→β→α} (p:Part α β off g s) {t:TypeId} {x y:Operand} {B:Nat} {D:α} {u:Value} {d:β} {K:Value→Heap→Prop} (w:Owns W h o) (hk:o k=bx e B D) (hsz:b6 P t=some (Rep.n β)) (hx:asg us x = .pointer (some ⟨B,off,.none⟩)) (hy:asg us y=u) (hr:Rd W u d)
  (hK : ∀ h',Owns W h' (o.upd k (bx e B (s D d)))→h'.size=h.size→K undef h'):@step po P (.store t x y) ty us h K:=
 w.mc (po:=po) (v:=.slice (some ⟨B,0,.none⟩) 1 1) (l:=[D]) (i:=0) p hk hsz (by rw [hx];simp [slA,Addr.z]) hy (by simp) hr fun h' w' hs=>hK h' w' hs
end
end
theorem zf {W:View} {h0 h1 h2 h3:Heap} (hs:h0.size≤h1.size) (hle:(vw h2).le (vw h3)):(fresh h1 h2).le (grow W h0 h3):=fun b o hb=>by
 unfold fresh at hb
 split at hb
 ·cases hb
 ·unfold grow;rw [if_neg (by omega)];exact hle b o hb
theorem iz {W:View} {h0 h1:Heap} {b:Nat} (hb:h0.size≤b):grow W h0 h1 b=h1[b]?:=by unfold grow;rw [if_neg (by omega)]
def View.plus (W:View) (v:Value) (h:Heap):View:=fun b=>if v.ownBlock=some b then h[b]? else W b
theorem iZ {W:View} {v:Value} {h:Heap} (ha:Av W v):W.le (W.plus v h):=fun b o hb=>by
 unfold View.plus
 split
 ·rename_i e;rw [ha b e] at hb;cases hb
 ·exact hb
theorem As {W:View} {v:Value} {h:Heap} (hw:W.le (vw h)):(W.plus v h).le (vw h):=fun b o hb=>by
 unfold View.plus at hb
 split at hb
 ·exact hb
 ·exact hw b o hb
theorem Owns.freeze {W:View} {h:Heap} {o:Own} {k:Key} {α:Type} [r:Rep α] {e:TypeId} {v:Value} {l:List α} (w:Owns W h o) (hk:o k=it e v l):Owns (W.plus v h) h (o.upd k .none)∧SlRd (W.plus v h) v l:=by
 have ha:Av W v:=w.av k _ hk
 constructor
 ·refine (w.sub (o':=o.upd k .none) fun j i hj=>?_).CS (iZ ha) (As w.wle) fun j i b hj hb=>?_
  ·unfold Own.upd at hj
   split at hj
   ·cases hj
   ·exact hj
  ·unfold Own.upd at hj
   split at hj
   ·cases hj
   ·rename_i hjk
    unfold View.plus
    rw [if_neg]
    ·exact w.av j i hj b hb
    ·intro e2;exact hjk (w.dj j k i _ b hj hk hb e2)
 ·refine (w.get hk).rd (iZ ha) fun b hb=>?_
  unfold View.plus;rw [if_pos hb]
theorem An {α:Type} [Rep α] {P:Program} {t e:TypeId} {bytes:Nat} {z:Value} {ty:TypeId} {us:List (Nat × Value)} {h:Heap} {K:Value→Heap→Prop} (hT:dA P t e (Rep.n α) bytes z)
  (hk : ∀ h',(vw h).le (vw h')→h'.size=h.size+1→(∀ W,OwnT (α:=α) W h' e (.slice (some ⟨h.size,0,none⟩) 0 0) [])→K (.slice (some ⟨h.size,0,none⟩) 0 0) h'):@step po P (.buildSlice t 0 #[]) ty us h K:=by
 refine nY (n:=0) (size:=Rep.n α) (vs:=[]) (cs:=#[]) hT (by omega) (by simp) (by simp only [Instr.fill,Nat.zero_mul];rw [show Array.range 0 = #[] by simp [Array.range_zero'],Array.map_empty]) (hk _ (bg _ _) (by simp) fun W=>⟨by simp,[],⟨by simp,.inr ⟨h.size,0,#[],rfl,by simp,Nat.le_refl _,by simp [maxLen],by simp,by simp⟩⟩,fun i hi=>by simp at hi⟩)
theorem Owns.atW {W:View} {h:Heap} {o:Own} {k:Key} {α:Type} [r:Rep α] {e:TypeId} {B:Nat} {d:α} (w:Owns W h o) (hk:o k=bx e B d) : ∃ cs,eX (vw h) ⟨B,0,none⟩ cs∧Rep.rd W cs d:=by
 obtain ⟨hb,xs,⟨hl,hown⟩,hel⟩:=w.get (k:=k) (v:=.slice (some ⟨B,0,none⟩) 1 1) (l:=[d]) hk
 have h0:=hel 0 (by simp)
 simp only [Nat.zero_mul,List.drop_zero,List.getElem_cons_zero,List.length_singleton,Nat.one_mul] at h0 hl
 rw [List.take_of_length_le (by omega)] at h0
 rcases hown with ⟨h1,_⟩ | ⟨g,cap,cur,h1,h2,h3,h4,h5,h6⟩
 ·cases h1
 ·simp only [Value.slice.injEq,Option.some.injEq,Addr.mk.injEq] at h1
  obtain ⟨⟨rfl,_⟩,_⟩:=h1
  refine ⟨xs,⟨cur,e,(0,0),rfl,h2,?_⟩,h0⟩
  rw [hl,List.drop_zero]
  simpa using h6
theorem Owns.xu {W:View} {h:Heap} {o:Own} {k:Key} {P:Program} {ty:TypeId} {us:List (Nat × Value)} {α β:Type} [r:Rep α] [Rep β] {e:TypeId} {off:Nat} {g:α→β} {s:α→β→α} (p:Part α β off g s) {t:TypeId} {x y:Operand} {B:Nat} {D:α} {u:Value} {d:β} {K:Value→Heap→Prop} (w:Owns W h o) (hk:o k=bx e B D) (hsz:b6 P t=some (Rep.n β)) (hx:asg us x = .pointer (some ⟨B,off,.none⟩)) (hy:asg us y=u) (hr:Rd W u d)
  (hK : ∀ h',Owns W h' (o.upd k (bx e B (s D d)))→(∀ X:View,X.le (vw h)→X B = .none→X.le (vw h'))→K undef h'):@step po P (.store t x y) ty us h K:=
 vY (po:=po) p (v:=.slice (some ⟨B,0,.none⟩) 1 1) (l:=[D]) (i:=0) hsz (by rw [hx];simp [slA,Addr.z]) hy (w.get (k:=k) (v:=.slice (some ⟨B,0,.none⟩) 1 1) (l:=[D]) hk) (by simp) hr fun h' hs o2 m=>hK h' (w.jB hk o2 m) fun X hX hB=>(m.view hX fun b hb=>by simp only [Value.ownBlock,Option.some.injEq] at hb;subst hb;exact hB).1
theorem uM {P:Program} {c:E} {kill:List Nat} {x y:LC} {Q:Post} {ρ:Env} {h:Heap} (hc:ev (look ρ) (vw h) c=some (.bool true)) (hx:x.wp P Q (aX ρ kill) h):LC.wp P (.cond c kill x y) Q ρ h:=by
 rw [jP,hc,ur];exact hx
theorem pa {P:Program} {c:E} {kill:List Nat} {x y:LC} {Q:Post} {ρ:Env} {h:Heap} (hc:ev (look ρ) (vw h) c=some (.bool false)) (hy:y.wp P Q (aX ρ kill) h):LC.wp P (.cond c kill x y) Q ρ h:=by
 rw [jP,hc,sg];exact hy
end Go.Lft
namespace Go.Lft
open Go
variable {po po2 po3:OP} {pp:PP}
structure RawN (n:Nat) where
 l:List Value
instance {n:Nat}:Rep (RawN n) where
 n:=n+1
 agg:=true
 rd:=fun _ cs d=>cs=d.l∧cs.length=n+1∧∀ u∈cs,u.oneCell'=true
 mono:=fun _ h=>h
 len:=fun h=>h.2.1
 one:=fun h=>by cases h
 flat:=fun h u hu=>h.2.2 u hu
 pos:=Nat.succ_pos _
 cT:=fun h=>h
theorem fU {n:Nat} {H:View} {l:List Value} (h1:l.length=n+1) (h2 : ∀ u∈l,u.oneCell'=true):Rd H (.agg l.toArray) (RawN.mk (n:=n) l):=by
 unfold Rd
 rw [if_pos (show Rep.agg (RawN n)=true from rfl)]
 exact ⟨_,rfl,rfl,h1,h2⟩
theorem RawN.p {n o:Nat} (ho:o≤n):Part (RawN n) Raw o (fun d=>⟨d.l.getD o undef⟩) (fun d x=>⟨d.l.set o x.v⟩) where
 fits:=by show o+1≤n+1;omega
 get:=by
  rintro H cs d ⟨rfl,h1,h2⟩
  have hlt:o<d.l.length:=by omega
  have e:(d.l.drop o).take (Rep.n Raw)=[d.l.getD o undef]:=by
   have:d.l.getD o undef=d.l[o]:=by simp [hlt]
   rw [this]
   show (d.l.drop o).take 1=_
   rw [List.drop_eq_getElem_cons hlt];rfl
  refine ⟨e,?_⟩
  have:d.l.getD o undef=d.l[o]:=by simp [hlt]
  show (d.l.getD o undef).oneCell'=true
  rw [this];exact h2 _ (List.getElem_mem hlt)
 set:=by
  rintro H cs us d x ⟨rfl,h1,h2⟩ ⟨rfl,h3⟩
  have hlt:o<d.l.length:=by omega
  have e:d.l.take o++[x.v]++d.l.drop (o+Rep.n Raw)=d.l.set o x.v:=by
   show d.l.take o++[x.v]++d.l.drop (o+1)=_
   rw [List.set_eq_take_append_cons_drop,if_pos hlt];simp
  refine ⟨e,by simp [e,h1],fun u hu=>?_⟩
  rw [e] at hu
  rcases List.mem_or_eq_of_mem_set hu with h | rfl
  ·exact h2 _ h
  ·exact h3
section
variable {W:View} {h:Heap} {o:Own} {k:Key}
theorem Owns.raw {n:Nat} {e:TypeId} {B:Nat} {l:List Value} (w:Owns W h o) (hk:o k=bx e B (RawN.mk (n:=n) l)) {i:Nat} (hi:i≤n):ah (vw h) ⟨B,i,none⟩=some (l.getD i undef):=by
 have:=((w.at hk).part (RawN.p hi)).raw
 simpa using this
theorem Owns.eR {n:Nat} {e:TypeId} {B:Nat} {l:List Value} (w:Owns W h o) (hk:o k=bx e B (RawN.mk (n:=n) l)):Un.ev (vw h) (.ao (n+1)) (.pointer (some ⟨B,0,none⟩))=some (.agg l.toArray):=by
 obtain ⟨cs,hcs,he,h1,h2⟩:=w.atW hk
 have he:cs=l:=he
 subst he
 have h1:cs.length=n+1:=h1
 have:=fG hcs (n+1) 0 #[] (by omega)
 simp only [Un.ev,vP,Option.bind_some]
 rw [this]
 simp [h1]
theorem Owns.rj {P:Program} {ty:TypeId} {us:List (Nat × Value)} {t ty2:TypeId} {n:Nat} {z:Value} {x y:Operand} {us2:Value→List (Nat × Value)} {l:List Value} {K:Value→Heap→Prop} (w:Owns W h o) (hk:o k=none) (hz:(P.info? t).map (·.zero)=some (some z)) (hzc:z.cells.size=n+1) (hsz:b6 P t=some (n+1)) (hl:l.length=n+1) (hn:n+1≤1000)
  (hone : ∀ c∈l,c.oneCell'=true) (hx : ∀ p,asg (us2 p) x=p) (hy : ∀ p,asg (us2 p) y = .agg l.toArray) (hK : ∀ h':Heap,(vw h).le (vw h')→Owns W h' (o.upd k (bx t h.size (RawN.mk (n:=n) l)))→K (.pointer (some ⟨h.size,0,none⟩)) h') :
  @step po P (.alloc t) ty us h fun p h2=>@step po2 P (.store t x y) ty2 (us2 p) h2 fun _ h3=>K p h3:=
 iX (v:=.agg l.toArray) hz hzc hsz (by simpa [Value.cells] using hl) (by simpa [Value.cells] using hone) hx hy fun h' hle hs hb=>hK h' hle
  (w.add hk (jN (d:=RawN.mk (n:=n) l) hb (fU hl hone) hn) hle fun b hb=>by simp only [Value.ownBlock,Option.some.injEq] at hb;omega)
theorem Owns.mB {P:Program} {ty:TypeId} {us:List (Nat × Value)} {t:TypeId} {n:Nat} {z:Value} {K:Value→Heap→Prop} (w:Owns W h o) (hk:o k=none) (hz:(P.info? t).map (·.zero)=some (some z)) (hzc:z.cells.size=n+1) (hn:n+1≤1000)
  (hone : ∀ c∈z.cells.toList,c.oneCell'=true) (hK : ∀ h':Heap,(vw h).le (vw h')→Owns W h' (o.upd k (bx t h.size (RawN.mk (n:=n) z.cells.toList)))→K (.pointer (some ⟨h.size,0,none⟩)) h') :
  @step po P (.alloc t) ty us h K:=by
 refine dw hz ?_
 have q1:=bg h (.cells z.cells t)
 have b2:(h.push (.cells z.cells t))[h.size]? = some (.cells z.cells t (0,0)):=by simp
 generalize h.push (.cells z.cells t)=h2 at q1 b2
 have hz2:(Value.agg z.cells).cells=z.cells:=rfl
 refine hK h2 q1 (w.add hk (jN (v:=.agg z.cells) (d:=RawN.mk (n:=n) z.cells.toList) (by rw [hz2];exact b2) ?_ hn) q1 fun b hb=>by simp only [Value.ownBlock,Option.some.injEq] at hb;omega)
 have:=fU (n:=n) (H:=W) (l:=z.cells.toList) (by simpa using hzc) hone
 simpa using this
theorem Owns.dV {P:Program} {ty:TypeId} {us:List (Nat × Value)} {n i:Nat} {e t:TypeId} {B:Nat} {l:List Value} {x y:Operand} {u:Value} {K:Value→Heap→Prop} (w:Owns W h o) (hk:o k=bx e B (RawN.mk (n:=n) l)) (hi:i≤n) (hsz:b6 P t=some 1) (hx:asg us x = .pointer (some ⟨B,i,none⟩)) (hy:asg us y=u) (hu:u.oneCell'=true)
  (hK : ∀ h',Owns W h' (o.upd k (bx e B (RawN.mk (n:=n) (l.set i u))))→(∀ X:View,X.le (vw h)→X B=none→X.le (vw h'))→K undef h'):@step po P (.store t x y) ty us h K:=
 w.xu (po:=po) (RawN.p hi) (d:=⟨u⟩) hk hsz hx hy (tV.2 ⟨rfl,hu⟩) hK
theorem Owns.sV {P:Program} {ty:TypeId} {us:List (Nat × Value)} {α:Type} [r:Rep α] {e:TypeId} {t:TypeId} {bytes:Nat} {z:Value} {K:Value→Heap→Prop} (w:Owns W h o) (hk:o k=none) (hT:dA P t e (Rep.n α) bytes z)
  (hK : ∀ v h',(vw h).le (vw h')→v.oneCell'=true→Owns W h' (o.upd k (it e v ([]:List α)))→(∀ X:View,X.le (vw h)→Av X v)→K v h'):@step po P (.buildSlice t 0 #[]) ty us h K:=
 An (α:=α) hT fun h' hle hs own=>hK _ h' hle rfl (w.add hk (own W) hle fun b hb=>by simp only [Value.ownBlock,Option.some.injEq] at hb;omega) fun X hX b hb=>by
  simp only [Value.ownBlock,Option.some.injEq] at hb;subst hb;exact View.da hX (Nat.le_refl _)
end
abbrev forC (a i c:Nat) (ks ks2:List Nat) (ce:E) (body:LC):LC:=
 .loop (.seq (.seq (.reg false (.fin ks [(c,ce)] [])) (.cond (.tmp c) [c] .skip (.exit a)))
  (.seq body (.reg false (.fin ks2 [(i,.bin (.arith .add) (.tmp i) (.con (.int .i64 1)))] []))))
end Go.Lft
namespace Go.Lft
open Go
variable {po po2 po3:OP} {pp:PP}
section
variable {W:View} {h:Heap} {o:Own} {k:Key}
theorem Owns.kJ {P:Program} {ty:TypeId} {us:List (Nat × Value)} {t ty2:TypeId} {α:Type} [Rep α] {n:Nat} {z u:Value} {d:α} {x y:Operand} {us2:Value→List (Nat × Value)} {K:Value→Heap→Prop} (w:Owns W h o) (hk:o k=none) (hr:Rd W u d) (hN:Rep.n α=n) (hz:(P.info? t).map (·.zero)=some (some z)) (hzc:z.cells.size=n) (hsz:b6 P t=some n) (hn:n≤1000)
  (hx : ∀ p,asg (us2 p) x=p) (hy : ∀ p,asg (us2 p) y=u) (hK : ∀ h':Heap,(vw h).le (vw h')→Owns W h' (o.upd k (bx t h.size d))→K (.pointer (some ⟨h.size,0,none⟩)) h') :
  @step po P (.alloc t) ty us h fun p h2=>@step po2 P (.store t x y) ty2 (us2 p) h2 fun _ h3=>K p h3:=by
 subst hN
 obtain ⟨c1,c2,c3⟩:=ia hr
 exact iX (v:=u) hz hzc hsz (by simpa using c2) c3 hx hy fun h' hle hs hb=>hK h' hle (w.add hk (jN (d:=d) hb hr hn) hle fun b hb=>by simp only [Value.ownBlock,Option.some.injEq] at hb;omega)
end
theorem yT {P:Program} {Q:Post} {ρ:Env} {h:Heap} {a i c:Nat} {ks ks2:List Nat} {ce:E} {body:LC} {σ:Type} (kp:List Nat) (vals:σ→Nat→List Value) (J:σ→Nat→Heap→Prop) (n:Nat) (d:Int) (s0:σ)
  (hok:ql kp ks ks2 c i=true) (hd:-9223372036854775808≤d) (hn:n+d≤9223372036854775806) (h0:cW kp ρ=kp.zip (vals s0 0)) (hj:J s0 0 h)
  (hi : ∀ s k,look (kp.zip (vals s k)) i=some (.int .i64 ((k:Int)+d)))
  (hb : ∀ s k h,k≤n→J s k h→ev (look (kp.zip (vals s k))) (vw h) ce=some (.bool (decide (k<n))))
  (round : ∀ s k h,k<n→J s k h→∀ K:Env→Heap→Prop,(∀ s' ρ' h',look ρ' i=some (.int .i64 ((k:Int)+d))→cW kp (setE ρ' i (.int .i64 (((k:Int)+d)+1)))=kp.zip (vals s' (k+1))→J s' (k+1) h'→K ρ' h')→body.wp P (fK K (gA a Q)) (kp.zip (vals s k)) h)
  (done : ∀ s h,J s n h→Q .normal (kp.zip (vals s n)) h):LC.wp P (forC a i c ks ks2 ce body) (gA a Q) ρ h:=by
 simp only [ql,List.all_eq_true,Bool.and_eq_true,Bool.not_eq_true',bne_iff_ne,Bool.or_eq_true,beq_iff_eq,ne_eq] at hok
 refine gX kp (fun m ρ h=>∃ s k,k≤n∧ρ=kp.zip (vals s k)∧m=n-k∧J s k h) n ⟨s0,0,by omega,h0,by omega,hj⟩ ?_
 rintro m ρ h ⟨s,k,hk,rfl,rfl,hJ⟩ K hK
 have hkill:aX (kp.zip (vals s k)) ks=kp.zip (vals s k):=jT fun p hp=>(hok p.1 (kM hp)).1.1
 have hne : ∀ p∈kp.zip (vals s k),p.1≠c:=fun p hp=>(hok p.1 (kM hp)).1.2
 have hk2 : ∀ v,aX (setE (kp.zip (vals s k)) c v) [c]=kp.zip (vals s k):=fun v=>lV hne
 have hlk : ∀ v,look (setE (kp.zip (vals s k)) c v) c=some v:=fun v=>by rw [b8,if_pos rfl]
 simp only [ry,kB,gI,ft,iy,kU,hb s k h hk hJ,Option.bind_some,gW,kG,true_and,bT,hkill,bI,jP,nr,hlk,iV,hk2,oV,oz,lQ,lJ,if_true]
 refine ⟨fun hlt=>?_,fun hge=>?_⟩
 ·have hlt':k<n:=by omega
  rw [jE]
  refine round s k h hlt' hJ _ fun s' ρ' h' hl he hJ'=>?_
  simp only [kB,gI,ft,iy,kU,iD,nr,hl,kG,true_and,Option.bind_some,vc,Option.bind_some,uc,gW,bT,bI,true_and]
  rw [cw (by omega) (by omega)]
  refine hK (n-(k+1)) _ _ (by omega) ⟨s',k+1,by omega,?_,rfl,hJ'⟩
  rw [←he]
  refine kV fun t ht=>?_
  rw [b8,b8,ff]
  split
  ·rfl
  ·rename_i hti
   rcases (hok t ht).2 with e | e
   ·exact absurd e.symm hti
   ·rw [e];rfl
 ·have:k=n:=by omega
  subst this
  exact done s h hJ
section
variable {po:OP}
theorem Owns.AN {P:Program} {W:View} {h:Heap} {o:Own} {ty:TypeId} {us:List (Nat × Value)} {α:Type} [Rep α] {t:TypeId} {x:Operand} {v:Value} {d:α} {K:Value→Heap→Prop} (w:Owns W h o) (hx:asg us x=v) (hv:Rd W v d)
  (hk : ∀ B h' W',W.le W'→Owns W' h' o→At W' ⟨B,0,none⟩ d→(vw h).le (vw h')→K (.pointer (some ⟨B,0,none⟩)) h'):step P (.box t x) ty us h K:=by
 refine jj hx (hv.mono w.wle) fun h1 hp hle hs _=>?_
 exact hk _ _ _ (dU w.wle) (w.ext hle) (rm (t:=t) (fz:=(0,0)) (by rw [iz (Nat.le_refl _),hp];simp) (hv.mono (dU w.wle))) hle
theorem Owns.n9 {P:Program} {W:View} {h:Heap} {o:Own} {k:Key} {ty:TypeId} {us:List (Nat × Value)} {n:Nat} {l:List Value} {t:TypeId} {x:Operand} {K:Value→Heap→Prop} (w:Owns W h o) (hk:o k=none) (hx:asg us x = .agg l.toArray) (hl:l.length=n+1) (hn:n+1≤1000) (hc : ∀ c∈l,c.oneCell'=true)
  (hK : ∀ B h',(vw h).le (vw h')→Owns W h' (o.upd k (bx t B (RawN.mk (n:=n) l)))→K (.pointer (some ⟨B,0,none⟩)) h'):step P (.box t x) ty us h K:=by
 refine lG hx ?_
 have hb1:(h.push (.cells (Value.agg l.toArray).cells t))[h.size]? = some (.cells (Value.agg l.toArray).cells t (0,0)):=by simp
 have hle1:=bg h (.cells (Value.agg l.toArray).cells t)
 generalize h.push (.cells (Value.agg l.toArray).cells t)=h1 at hb1 hle1
 exact hK _ _ hle1 (w.add (k:=k) hk (jN (W:=W) (d:=RawN.mk (n:=n) l) hb1 (fU hl hc) hn) hle1 (fun b hb=>by simp only [Value.ownBlock,Option.some.injEq] at hb;omega))
end
end Go.Lft
namespace Go.Lft
open Go
variable {po:OP}
theorem tA {P:Program} {ty t rt e:TypeId} {us:List (Nat × Value)} {h:Heap} {K:Value→Heap→Prop} {x y:Operand} {a:Option Addr} {n c:Nat} (hu:P.underlying t=some (.slice e)) (hx:asg us x = .slice a n c) (hy:asg us y = .slice none 0 0) (hk:K (.bool a.isNone) h):step P (.binOp .eql t x y rt) ty us h K:=by
 refine cB (cg fun w hw=>⟨_,w,?_,Same.refl _,by rw [hw];exact hk⟩)
 simp only [a6,execOp,hx,hy]
 have e1:(Op.equal t (.slice a n c) (.slice none 0 0)).run P w = .ok a.isNone w:=by
  show (Op.equalIn (9999+1) t _ _).run P w=_
  rw [Op.equalIn]
  cases a<;>simp [run_underlying hu]
 simp [eqGuard,binOp,e1]
end Go.Lft
namespace Go.Proofs.Ytbkdlhkoiagbbaa
open Go Go.Lft
abbrev Gr:=List (List Int)
def ek (g:Gr) (a b:Int):Bool:=decide (0≤a∧a<g.length∧0≤b∧b<g.length)&&(nth g a.toNat).contains b
def cV (g:Gr) (a:Int):List Int:=sift (fun b=>ek g a b) (fun b=>(b:Int)) g.length
def ez (g:Gr):Gr:=rows (fun b=>sift (fun a=>ek g a b) (fun a=>(a:Int)) g.length) g.length
def oa (gone:Int) (l:List Int) (i:Nat) (out:List Bool):List Bool:=out.set (nth l i).toNat (nth out (nth l i).toNat||decide (nth l i≠gone))
def outBlock (g:Gr) (gone:Int) (a:Nat) (out:List Bool):List Bool:=if nth out a then up (oa gone (cV g a)) (cV g a).length out else out
def iB (g:Gr) (gone:Int) (out:List Bool):List Bool:=up (outBlock g gone) g.length out
def iT (g:Gr) (gone:Int):List Bool:=
 if g.length=0∨gone=0 then List.replicate g.length false else up (fun _=>iB g gone) g.length ((List.replicate g.length false).set 0 true)
theorem qJ {β γ:Type} (m:β→γ) {f:Nat→β→β} (hf : ∀ k x,m (f k x)=m x) (n:Nat) (x:β):m (up f n x)=m x:=by
 induction n with
 | zero=>rfl
 | succ n ih=>rw [up,hf,ih]
def domC (g:Gr) (a b:Nat):Bool:=nth (iT g (-1)) a&&nth (iT g (-1)) b&&(decide ((a:Int)=(b:Int))||!nth (iT g a) b)
def j0 (l:List Int) (a:Int):Nat→Int→Bool
 | 0,_=>false
 | k+1,b=>if b=a then true else if b<0∨(l.length:Int)≤b then false else j0 l a k (nth l b.toNat)
def cE (l:List Int) (a b:Int):Bool:=decide (0≤a∧a<l.length∧0≤b∧b<l.length)&&j0 l a (l.length+1) b
def vx (p:Nat→Bool) (b:Nat) (s:Bool):Bool:=s&&p b
def nH (p:Nat→Bool) (n:Nat):Bool:=up (vx p) n true
theorem pI {p:Nat→Bool} {n:Nat}:nH p (n+1)=(nH p n&&p n):=rfl
def wz (g:Gr) (p:Gr) (a i:Nat):Bool:=decide ((1:Int)<(cV g a).length)&&decide ((1:Int)<(nth p (nth (cV g a) i).toNat).length)
def oe (g:Gr) (p:Gr) (a:Nat):List (Int × Int):=sift (wz g p a) (fun i=>((a:Int),nth (cV g a) i)) (cV g a).length
def gN (g:Gr):List (Int × Int):=up (fun a l=>l++oe g (ez g) a) g.length []
theorem ub {g:Gr}:(ez g).length=g.length:=by simp [ez]
def fo (nx:Int→List Int):Nat→Int→List Bool × List Int→List Bool × List Int
 | 0,_,s=>s
 | n+1,a,s=>
  let r:=up (fun i s=>if nth s.1 (nth (nx a) i).toNat then s else fo nx n (nth (nx a) i) s) (nx a).length (s.1.set a.toNat true,s.2)
  (r.1,r.2++[a])
def bn (nx:Int→List Int) (n:Nat) (a:Int) (i:Nat) (s:List Bool × List Int):List Bool × List Int:=if nth s.1 (nth (nx a) i).toNat then s else fo nx n (nth (nx a) i) s
theorem fQ {nx:Int→List Int} {n:Nat} {a:Int} {s:List Bool × List Int} :
  fo nx (n+1) a s=((up (bn nx n a) (nx a).length (s.1.set a.toNat true,s.2)).1,(up (bn nx n a) (nx a).length (s.1.set a.toNat true,s.2)).2++[a]):=rfl
def bM (t:List Bool):Nat:=t.count false
theorem eZ {t:List Bool} {i:Nat} (hi:i<t.length) (hf:nth t i=false):bM (t.set i true)+1=bM t:=by
 rw [aj hi] at hf
 unfold bM
 rw [List.count_set hi]
 have hp:0<t.count false:=List.count_pos_iff.2 (hf▸List.getElem_mem hi)
 simp [hf];omega
theorem pZ {t:List Bool} {i:Nat}:bM (t.set i true)≤bM t:=by
 rcases Nat.lt_or_ge i t.length with hi | hi
 ·unfold bM
  rw [List.count_set hi];simp
 ·rw [List.set_eq_of_length_le hi];exact Nat.le_refl _
theorem xZ {β:Type} (I:β→Prop) {f:Nat→β→β} (hf : ∀ k x,I x→I (f k x)) (n:Nat) (x:β) (hx:I x):I (up f n x):=by
 induction n with
 | zero=>exact hx
 | succ n ih=>rw [up];exact hf _ _ ih
theorem ka {nx:Int→List Int} {m c:Nat} : ∀ (n:Nat) (a:Int) (s:List Bool × List Int),s.1.length=m∧bM s.1≤c→(fo nx n a s).1.length=m∧bM (fo nx n a s).1≤c
 | 0,_,_,h=>h
 | n+1,a,s,h=>by
  rw [fQ]
  refine xZ (fun s:List Bool × List Int=>s.1.length=m∧bM s.1≤c) (fun k x hx=>?_) _ _ ⟨by simpa using h.1,Nat.le_trans pZ h.2⟩
  unfold bn;split
  ·exact hx
  ·exact ka n _ x hx
def gq (nx:Int→List Int) (n:Nat):List Int:=if n=0 then [] else (fo nx n 0 (List.replicate n false,[])).2.reverse
theorem gC {α:Type} [Rep α] {W:View} {h:Heap} {e:TypeId} {v:Value} {l:List α} (o:OwnT W h e v l):v.cells = #[v]∧v.oneCell'=true:=by
 have:=o.len (K:=nothing)
 cases v<;>first | exact ⟨rfl,rfl⟩ | (simp [Un.ev,vL] at this)
end Go.Proofs.Ytbkdlhkoiagbbaa
namespace Go.Proofs.Ytbkdlhkoiagbbaa
open Go Go.Lft
set_option maxRecDepth 100000
abbrev N.slices_Reverse_int:Nat:=65
abbrev N.slices_Sort_int:Nat:=66
abbrev N.slices_Compact_int:Nat:=67
abbrev N.bG:Nat:=5
def L.bG.l1:LC:=
 (.seq (.seq (.reg false (.fin [14,15,16] [(16,.bin (.cmp .lss) (.tmp 6) (.tmp 4))] [])) (.cond (.tmp 16) [16] .skip (.exit 0))) (.seq (.block 1 (.reg false (.loud [19,20] [(20,.un .load (.un (.fld 1) (.tmp 5)))] [] none [] false (.buildSlice 22 1 #[(0,.const (.int .i64 0))]) 22 (some 21) true (.loud [22,23,24] [] [(23,.bin (.arith .add) (.tmp 6) (.con (.int .i64 1))),(24,.tmp 4)] none [] false (.buildSlice 22 2 #[(0,.tmp 23),(1,.tmp 24)]) 22 (some 25) true (.loud [] [] [(21,.tmp 21),(25,.tmp 25)] none [] false (.build 41 #[(0,.const (.int .i64 2)),(1,.tmp 21),(2,.tmp 25)]) 41 (some 26) true (.loud [] [] [(26,.tmp 26)] none [] false (.build 43 #[(2,.tmp 26)]) 43 (some 27) true (.loud [] [] [(27,.tmp 27)] none [] false (.buildSlice 24 1 #[(0,.tmp 27)]) 24 (some 28) true (.loud [] [] [(20,.tmp 20),(28,.tmp 28)] none [] false (.call ⟨.builtin .append,#[.tmp 20,.tmp 28],#[24,24]⟩) 24 (some 29) true (.loud [30] [] [(30,.un (.fld 1) (.tmp 5)),(29,.tmp 29)] none [] false (.store 24 (.tmp 30) (.tmp 29)) 0 none false (.fin [] [] [])))))))))) (.reg false (.fin [17,18,6] [(6,.bin (.arith .add) (.tmp 6) (.con (.int .i64 1)))] []))))
def L.bG:LFn:=
⟨[.tmp 2],(.seq (.reg false (.fin [2] [(2,.con (.bool false))] [])) (.seq (.reg false (.loud [] [] [] none [] false (.call ⟨.value (.func 7),#[],#[]⟩) 4 (some 9) true (.fin [3] [(3,.tmp 9)] []))) (.seq (.reg false (.loud [10] [] [(10,.tmp 0)] none [] false (.call ⟨.value (.func 16),#[.tmp 10,.const (.int .i64 11)],#[3,3]⟩) 3 (some 11) true (.fin [12,4] [(4,.bin (.arith .add) (.con (.int .i64 250)) (.tmp 11))] []))) (.seq (.reg false (.loud [] [] [] none [] false (.build 26 #[(0,.const (.int .i64 1))]) 26 (some 13) true (.loud [] [] [] none [] false (.alloc 26) 0 (some 5) true (.loud [] [] [(5,.tmp 5),(13,.tmp 13)] none [] false (.store 26 (.tmp 5) (.tmp 13)) 0 none false (.fin [] [] []))))) (.seq (.seq (.reg false (.fin [6] [(6,.con (.int .i64 0))] [])) (.block 0 (.loop L.bG.l1))) (.seq (.reg false (.loud [31,32] [(32,.un .load (.un (.fld 1) (.tmp 5)))] [] none [] false (.build 41 #[(0,.const (.int .i64 4))]) 41 (some 33) true (.loud [] [] [(33,.tmp 33)] none [] false (.build 43 #[(2,.tmp 33)]) 43 (some 34) true (.loud [] [] [(34,.tmp 34)] none [] false (.buildSlice 24 1 #[(0,.tmp 34)]) 24 (some 35) true (.loud [] [] [(32,.tmp 32),(35,.tmp 35)] none [] false (.call ⟨.builtin .append,#[.tmp 32,.tmp 35],#[24,24]⟩) 24 (some 36) true (.loud [37] [] [(37,.un (.fld 1) (.tmp 5)),(36,.tmp 36)] none [] false (.store 24 (.tmp 37) (.tmp 36)) 0 none false (.fin [] [] []))))))) (.seq (.reg false (.loud [38,39,40,41,42] [(39,.un .load (.un (.fld 1) (.tmp 5))),(41,.bin (.arith .sub) (.tmp 4) (.con (.int .i64 1)))] [(42,.tmp 4)] none [] false (.buildSlice 22 1 #[(0,.tmp 42)]) 22 (some 43) true (.loud [] [] [(43,.tmp 43)] none [] false (.build 41 #[(0,.const (.int .i64 1)),(2,.tmp 43)]) 41 (some 44) true (.loud [45,46] [] [(46,.un (.fld 2) (.bin (.idx 6) (.tmp 39) (.tmp 41))),(44,.tmp 44)] none [] false (.store 41 (.tmp 46) (.tmp 44)) 0 none false (.fin [] [] []))))) (.seq (.reg false (.loud [48] [] [(48,.un (.ao 2) (.tmp 5))] none [] false (.call ⟨.value (.func 10),#[.tmp 48],#[26]⟩) 30 (some 49) true (.loud [47,50,51] [(50,.un (.ext 0) (.tmp 49)),(51,.un (.ext 1) (.tmp 49))] [] none [] false (.alloc 26) 0 (some 7) true (.loud [] [] [(7,.tmp 7),(50,.tmp 50)] none [] false (.store 26 (.tmp 7) (.tmp 50)) 0 none false (.fin [8] [(8,.tmp 51)] []))))) (.seq (.seq (.reg false (.fin [52,53,54,55,56,57] [(57,(.bin (.cmp .gtr) (.bin (.arith .sub) (.bin (.arith .add) (.bin (.arith .add) (.tmp 4) (.con (.int .i64 1))) (.tmp 4)) (.con (.int .i64 1))) (.con (.int .i64 512))))] [])) (.cond (.tmp 57) [57] (.seq (.reg false (.fin [58,59,60,61,62,63,64,65,66,67,68,2] [(2,(.ite (.ite (.tmp 3) (.bin (.cmp .eql) (.tmp 8) (.con (.int .i64 2))) (.con (.bool false))) (.bin (.cmp .eql) (.un .len (.un .load (.un (.fld 1) (.tmp 7)))) (.con (.int .i64 0))) (.con (.bool false))))] [])) .ret) .skip)) (.seq (.reg false (.fin [69,70,71,72,73,74,75,76,77,78,79,80,81,82,83,84,2] [(2,(.ite (.ite (.tmp 3) (.bin (.cmp .eql) (.tmp 8) (.con (.int .i64 0))) (.con (.bool false))) (.bin (.cmp .eql) (.un .len (.un .load (.un (.fld 1) (.tmp 7)))) (.bin (.arith .sub) (.bin (.arith .add) (.bin (.arith .add) (.tmp 4) (.con (.int .i64 1))) (.tmp 4)) (.con (.int .i64 1)))) (.con (.bool false))))] [])) .ret))))))))))⟩
theorem E.bG:aW Try.prog Try.f5=some L.bG:=by kernel_rfl
theorem F.bG:Try.prog.funcs[N.bG]? = some Try.f5:=Try.func5
abbrev N.dv:Nat:=7
def L.dv:LFn:=
⟨[.tmp 0],(.seq (.reg false (.fin [0] [(0,.con (.bool false))] [])) (.seq (.reg false (.loud [] [] [] none [] false (.call ⟨.value (.func 18),#[],#[]⟩) 26 (some 5) true (.loud [] [] [(5,.tmp 5)] none [] false (.call ⟨.value (.func 10),#[.tmp 5],#[26]⟩) 30 (some 6) true (.loud [4,7,8] [(7,.un (.ext 0) (.tmp 6)),(8,.un (.ext 1) (.tmp 6))] [] none [] false (.alloc 26) 0 (some 1) true (.loud [] [] [(1,.tmp 1),(7,.tmp 7)] none [] false (.store 26 (.tmp 1) (.tmp 7)) 0 none false (.fin [2] [(2,.tmp 8)] [])))))) (.seq (.seq (.reg false (.fin [9,10,11,12,13,14,15,16,17,18,19,20,21,22,23,24,25,26,27,28,29,30,31,32,33,34,35,36,37,38,39,40,41,42,43,44,45,46,47] [(47,(.ite (.ite (.ite (.ite (.bin (.cmp .neq) (.tmp 2) (.con (.int .i64 0))) (.con (.bool true)) (.bin (.cmp .neq) (.un .len (.un .load (.un (.fld 1) (.tmp 1)))) (.con (.int .i64 4)))) (.con (.bool true)) (.bin (.cmp .neq) (.un .len (.un .load (.un (.fld 2) (.un (.fld 2) (.bin (.idx 6) (.un .load (.un (.fld 1) (.tmp 1))) (.con (.int .i64 0))))))) (.con (.int .i64 2)))) (.con (.bool true)) (.bin (.cmp .neq) (.un .len (.un .load (.un (.fld 0) (.bin (.idx 6) (.un .load (.un (.fld 1) (.tmp 1))) (.con (.int .i64 2)))))) (.con (.int .i64 1)))) (.con (.bool true)) (.bin (.cmp .neq) (.un .len (.un .load (.un (.fld 1) (.bin (.idx 2) (.un .load (.un (.fld 0) (.bin (.idx 6) (.un .load (.un (.fld 1) (.tmp 1))) (.con (.int .i64 2))))) (.con (.int .i64 0)))))) (.con (.int .i64 2)))))] [])) (.cond (.tmp 47) [47] (.seq (.reg false (.fin [0] [(0,.con (.bool false))] [])) .ret) .skip)) (.seq (.reg false (.fin [48,49,50,51,52,53,54,55,3] [(3,(.un .load (.un (.fld 1) (.bin (.idx 2) (.un .load (.un (.fld 0) (.bin (.idx 6) (.un .load (.un (.fld 1) (.tmp 1))) (.con (.int .i64 2))))) (.con (.int .i64 0))))))] [])) (.seq (.reg false (.fin [56,57,58,59,60,61,62,63,64,65,66,67,68,69,70,71,72,73,74,75,76,77,78,79,80,81,82,83,84,85,86,87,0] [(0,(.ite (.ite (.ite (.bin (.cmp .eql) (.un .load (.bin (.idx 1) (.un .load (.un (.fld 2) (.un (.fld 2) (.bin (.idx 6) (.un .load (.un (.fld 1) (.tmp 1))) (.con (.int .i64 0)))))) (.con (.int .i64 1)))) (.con (.int .i64 3))) (.bin (.cmp .eql) (.un .load (.un (.fld 0) (.un (.fld 2) (.bin (.idx 6) (.un .load (.un (.fld 1) (.tmp 1))) (.con (.int .i64 3)))))) (.con (.int .i64 1))) (.con (.bool false))) (.bin (.cmp .eql) (.un .load (.un (.fld 0) (.bin (.idx 2) (.tmp 3) (.con (.int .i64 0))))) (.con (.int .i64 1))) (.con (.bool false))) (.bin (.cmp .eql) (.un .load (.un (.fld 0) (.bin (.idx 2) (.tmp 3) (.con (.int .i64 1))))) (.con (.int .i64 3))) (.con (.bool false))))] [])) .ret)))))⟩
theorem E.dv:aW Try.prog Try.f7=some L.dv:=by kernel_rfl
theorem F.dv:Try.prog.funcs[N.dv]? = some Try.f7:=Try.func7
end Go.Proofs.Ytbkdlhkoiagbbaa
namespace Go.Proofs.Ytbkdlhkoiagbbaa
open Go Go.Lft
set_option maxRecDepth 100000
abbrev N.aV:Nat:=10
def L.aV.l1:LC:=
 (.seq (.reg false (.fin [45] [(45,.bin (.cmp .lss) (.tmp 44) (.tmp 43))] [])) (.seq (.cond (.tmp 45) [45] .skip (.exit 0)) (.seq (.block 1 (.seq (.reg false (.loud [46,47] [(47,.un (.ao 6) (.bin (.idx 6) (.tmp 42) (.tmp 44)))] [] none [] false (.alloc 43) 0 (some 10) true (.loud [] [] [(10,.tmp 10),(47,.tmp 47)] none [] false (.store 43 (.tmp 10) (.tmp 47)) 0 none false (.fin [] [] [])))) (.reg false (.fin [48,49,50,51,52,53,54,55,56,57,8] [(8,(.bin (.arith .add) (.tmp 8) (.bin (.arith .add) (.bin (.arith .add) (.un .len (.un .load (.un (.fld 0) (.tmp 10)))) (.un .len (.un .load (.un (.fld 1) (.tmp 10))))) (.con (.int .i64 1)))))] [])))) (.reg false (.fin [58,44] [(44,.bin (.arith .add) (.tmp 44) (.con (.int .i64 1)))] [])))))
def L.aV.l2:LC:=
 (.seq (.reg false (.fin [77] [(77,.bin (.cmp .lss) (.tmp 76) (.tmp 75))] [])) (.seq (.cond (.tmp 77) [77] .skip (.exit 2)) (.seq (.block 3 (.seq (.reg false (.loud [78,79] [(79,.un (.ao 2) (.bin (.idx 2) (.tmp 74) (.tmp 76)))] [] none [] false (.alloc 77) 0 (some 14) true (.loud [] [] [(14,.tmp 14),(79,.tmp 79)] none [] false (.store 77 (.tmp 14) (.tmp 79)) 0 none false (.fin [] [] [])))) (.seq (.reg false (.loud [80,81,82,83,84] [] [(80,.tmp 12),(81,.un (.ao 2) (.tmp 14)),(84,.un .len (.un .load (.un (.fld 1) (.tmp 11))))] none [] false (.mapUpdate 76 (.tmp 80) (.tmp 81) (.tmp 84)) 0 none false (.fin [] [] []))) (.reg false (.loud [85,86,87,88] [(86,.un .load (.un (.fld 1) (.tmp 11)))] [(88,.un .load (.bin (.aidx 2 1) (.tmp 14) (.con (.int .i64 1))))] none [] false (.buildSlice 22 1 #[(0,.tmp 88)]) 22 (some 89) true (.loud [] [] [(89,.tmp 89)] none [] false (.build 41 #[(0,.const (.int .i64 1)),(2,.tmp 89)]) 41 (some 90) true (.loud [] [] [(90,.tmp 90)] none [] false (.build 43 #[(2,.tmp 90)]) 43 (some 91) true (.loud [] [] [(91,.tmp 91)] none [] false (.buildSlice 24 1 #[(0,.tmp 91)]) 24 (some 92) true (.loud [] [] [(86,.tmp 86),(92,.tmp 92)] none [] false (.call ⟨.builtin .append,#[.tmp 86,.tmp 92],#[24,24]⟩) 24 (some 93) true (.loud [94] [] [(94,.un (.fld 1) (.tmp 11)),(93,.tmp 93)] none [] false (.store 24 (.tmp 94) (.tmp 93)) 0 none false (.fin [] [] []))))))))))) (.reg false (.fin [95,76] [(76,.bin (.arith .add) (.tmp 76) (.con (.int .i64 1)))] [])))))
def L.aV.l4:LC:=
 (.seq (.reg false (.fin [113] [(113,.bin (.cmp .lss) (.tmp 112) (.tmp 111))] [])) (.seq (.cond (.tmp 113) [113] .skip (.exit 6)) (.seq (.block 7 (.seq (.reg false (.fin [114,115,116,17,18] [(17,.tmp 112),(18,.un .load (.bin (.idx 1) (.tmp 110) (.tmp 112)))] [])) (.seq (.reg false (.loud [118,119,120] [(118,.tmp 12)] [(119,.tmp 15),(120,.tmp 18)] none [] false (.build 77 #[(0,.tmp 119),(1,.tmp 120)]) 77 (some 121) true (.loud [] [] [(118,.tmp 118),(121,.tmp 121)] none [] false (.lookup 76 (.tmp 118) (.tmp 121) true) 79 (some 122) true (.fin [117,123,124,19,20] [(19,.un (.ext 0) (.tmp 122)),(20,.un (.ext 1) (.tmp 122))] [])))) (.seq (.reg false (.fin [125] [(125,.tmp 20)] [])) (.cond (.tmp 125) [125] (.reg false (.loud [126,127,128,129,130,131,132,133] [] [(133,(.bin (.idx 1) (.un .load (.un (.fld 2) (.un (.fld 2) (.un .nilPtr (.tmp 16))))) (.tmp 17))),(132,.tmp 19)] none [] false (.store 3 (.tmp 133) (.tmp 132)) 0 none false (.fin [] [] []))) .skip))))) (.reg false (.fin [134,112] [(112,.bin (.arith .add) (.tmp 112) (.con (.int .i64 1)))] [])))))
def L.aV.l6:LC:=
 (.seq (.reg false (.fin [148] [(148,.bin (.cmp .lss) (.tmp 147) (.tmp 146))] [])) (.seq (.cond (.tmp 148) [148] .skip (.exit 10)) (.seq (.block 11 (.seq (.reg false (.fin [149,23] [(23,.tmp 147)] [])) (.seq (.reg false (.loud [151,152,153,154,155,156,157,158] [(151,.tmp 12)] [(157,(.un .load (.un (.fld 0) (.bin (.idx 2) (.un .load (.un (.fld 1) (.tmp 22))) (.tmp 23))))),(158,.tmp 15)] none [] false (.build 77 #[(0,.tmp 157),(1,.tmp 158)]) 77 (some 159) true (.loud [] [] [(151,.tmp 151),(159,.tmp 159)] none [] false (.lookup 76 (.tmp 151) (.tmp 159) true) 79 (some 160) true (.fin [150,161,162,24,25] [(24,.un (.ext 0) (.tmp 160)),(25,.un (.ext 1) (.tmp 160))] [])))) (.seq (.reg false (.fin [163] [(163,.tmp 25)] [])) (.cond (.tmp 163) [163] (.reg false (.loud [164,165,166,167,168,169] [] [(169,(.un (.fld 0) (.bin (.idx 2) (.un .load (.un (.fld 1) (.tmp 22))) (.tmp 23)))),(167,.tmp 24)] none [] false (.store 3 (.tmp 169) (.tmp 167)) 0 none false (.fin [] [] []))) .skip))))) (.reg false (.fin [170,147] [(147,.bin (.arith .add) (.tmp 147) (.con (.int .i64 1)))] [])))))
def L.aV.l5:LC:=
 (.seq (.reg false (.fin [141] [(141,.bin (.cmp .lss) (.tmp 140) (.tmp 139))] [])) (.seq (.cond (.tmp 141) [141] .skip (.exit 8)) (.seq (.block 9 (.seq (.reg false (.loud [142,143] [(143,.un (.ao 2) (.bin (.idx 2) (.tmp 138) (.tmp 140)))] [] none [] false (.alloc 46) 0 (some 22) true (.loud [] [] [(22,.tmp 22),(143,.tmp 143)] none [] false (.store 46 (.tmp 22) (.tmp 143)) 0 none false (.fin [] [] [])))) (.seq (.seq (.reg false (.fin [144,145,146,147] [(146,.un .len (.un .load (.un (.fld 1) (.tmp 22)))),(147,.con (.int .i64 0))] [])) (.block 10 (.loop L.aV.l6))) (.reg false (.loud [171,172] [] [(172,.un .load (.un (.fld 1) (.tmp 22)))] none [] false (.call ⟨.value (.func 33),#[.tmp 172,.func 34],#[44,81]⟩) 0 (some 173) false (.fin [] [] [])))))) (.reg false (.fin [174,140] [(140,.bin (.arith .add) (.tmp 140) (.con (.int .i64 1)))] [])))))
def L.aV.l3:LC:=
 (.seq (.reg false (.fin [100] [(100,.bin (.cmp .lss) (.tmp 99) (.tmp 98))] [])) (.seq (.cond (.tmp 100) [100] .skip (.exit 4)) (.seq (.block 5 (.seq (.reg false (.fin [101,15] [(15,.tmp 99)] [])) (.seq (.reg false (.fin [102,103,104,105,16] [(16,.bin (.idx 6) (.un .load (.un (.fld 1) (.tmp 11))) (.tmp 15))] [])) (.seq (.seq (.reg false (.fin [106,107,108,109,110,111,112] [(110,(.un .load (.un (.fld 2) (.un (.fld 2) (.un .nilPtr (.tmp 16)))))),(111,(.un .len (.un .load (.un (.fld 2) (.un (.fld 2) (.un .nilPtr (.tmp 16))))))),(112,.con (.int .i64 0))] [])) (.block 6 (.loop L.aV.l4))) (.seq (.reg false (.fin [135,136,137,138,139,140] [(138,.un .load (.un (.fld 0) (.un .nilPtr (.tmp 16)))),(139,(.un .len (.un .load (.un (.fld 0) (.un .nilPtr (.tmp 16)))))),(140,.con (.int .i64 0))] [])) (.block 8 (.loop L.aV.l5))))))) (.reg false (.fin [175,99] [(99,.bin (.arith .add) (.tmp 99) (.con (.int .i64 1)))] [])))))
def L.aV:LFn:=
⟨[.un (.ao 2) (.tmp 2),.tmp 3],(.seq (.reg false (.loud [] [] [(0,.tmp 0)] none [] false (.box 26 (.tmp 0)) 0 (some 1) true (.loud [] [] [] none [] false (.alloc 26) 0 (some 2) true (.fin [3] [(3,.con (.int .i64 0))] [])))) (.seq (.reg false (.loud [27] [] [(27,.un (.ao 2) (.tmp 1))] none [] false (.call ⟨.value (.func 30),#[.tmp 27],#[26]⟩) 71 (some 28) true (.fin [26,29,30,31,4,5,6] [(4,.un (.ext 0) (.tmp 28))] [.un (.ext 2) (.tmp 28),.un (.ext 1) (.tmp 28)]))) (.seq (.seq (.reg false (.fin [32,33] [(33,.bin (.cmp .neq) (.tmp 4) (.con (.int .i64 0)))] [])) (.cond (.tmp 33) [33] (.seq (.reg false (.loud [] [] [] none [] false (.build 26 #[]) 26 (some 34) true (.loud [35] [(35,.tmp 4)] [(2,.tmp 2),(34,.tmp 34)] none [] false (.store 26 (.tmp 2) (.tmp 34)) 0 none false (.fin [3] [(3,.tmp 35)] [])))) .ret) .skip)) (.seq (.reg false (.loud [36] [] [(36,.un (.ao 2) (.tmp 1))] none [] false (.call ⟨.value (.func 12),#[.tmp 36],#[26]⟩) 33 (some 37) true (.loud [] [] [(37,.tmp 37)] none [] false (.call ⟨.value (.func 31),#[.tmp 37],#[33]⟩) 73 (some 38) true (.fin [7] [(7,.tmp 38)] [])))) (.seq (.reg false (.fin [39,40,8] [(8,.un .len (.tmp 7))] [])) (.seq (.seq (.reg false (.fin [41,42,43,44] [(42,.un .load (.un (.fld 1) (.tmp 1))),(43,.un .len (.un .load (.un (.fld 1) (.tmp 1)))),(44,.con (.int .i64 0))] [])) (.block 0 (.loop L.aV.l1))) (.seq (.seq (.reg false (.fin [59,60,61,62,63,64,65,66,67,68,69] [(69,(.ite (.bin (.cmp .gtr) (.bin (.arith .add) (.un .len (.un .load (.un (.fld 1) (.tmp 1)))) (.un .len (.tmp 7))) (.con (.int .i64 512))) (.con (.bool true)) (.bin (.cmp .gtr) (.tmp 8) (.con (.int .i64 4096)))))] [])) (.cond (.tmp 69) [69] (.seq (.reg false (.loud [] [] [] none [] false (.build 26 #[]) 26 (some 70) true (.loud [] [] [(2,.tmp 2),(70,.tmp 70)] none [] false (.store 26 (.tmp 2) (.tmp 70)) 0 none false (.fin [3] [(3,.con (.int .i64 2))] [])))) .ret) .skip)) (.seq (.reg false (.loud [71] [] [(71,.un (.ao 2) (.tmp 1))] none [] false (.call ⟨.value (.func 32),#[.tmp 71],#[26]⟩) 26 (some 72) true (.loud [] [] [] none [] false (.alloc 26) 0 (some 11) true (.loud [] [] [(11,.tmp 11),(72,.tmp 72)] none [] false (.store 26 (.tmp 11) (.tmp 72)) 0 none false (.fin [] [] []))))) (.seq (.reg false (.loud [] [] [] none [] false (.makeMap 76 none) 76 (some 73) true (.fin [12] [(12,.tmp 73)] []))) (.seq (.seq (.reg false (.fin [74,75,76] [(74,.tmp 7),(75,.un .len (.tmp 7)),(76,.con (.int .i64 0))] [])) (.block 2 (.loop L.aV.l2))) (.seq (.seq (.reg false (.fin [96,97,98,99] [(98,.un .len (.un .load (.un (.fld 1) (.tmp 1)))),(99,.con (.int .i64 0))] [])) (.block 4 (.loop L.aV.l3))) (.seq (.reg false (.loud [176] [] [(2,.tmp 2),(176,.un (.ao 2) (.tmp 11))] none [] false (.store 26 (.tmp 2) (.tmp 176)) 0 none false (.fin [3] [(3,.con (.int .i64 0))] []))) .ret))))))))))))⟩
theorem E.aV:aW Try.prog Try.f10=some L.aV:=by kernel_rfl
theorem F.aV:Try.prog.funcs[N.aV]? = some Try.f10:=Try.func10
abbrev N.a7:Nat:=11
def L.a7.l1:LC:=
 (.seq (.reg false (.fin [27] [(27,.bin (.cmp .lss) (.tmp 26) (.tmp 25))] [])) (.seq (.cond (.tmp 27) [27] .skip (.exit 0)) (.seq (.block 1 (.seq (.reg false (.fin [28,6] [(6,.tmp 26)] [])) (.reg false (.loud [29,30,31,32,33] [(31,.tmp 5),(32,.tmp 6)] [(33,.bin (.idx 1) (.tmp 4) (.tmp 6))] none [] false (.store 3 (.tmp 33) (.const (.int .i64 (-1)))) 0 none false (.loud [34] [] [(34,.bin (.idx 1) (.tmp 31) (.tmp 32))] none [] false (.store 3 (.tmp 34) (.const (.int .i64 (-1)))) 0 none false (.fin [] [] [])))))) (.reg false (.fin [35,26] [(26,.bin (.arith .add) (.tmp 26) (.con (.int .i64 1)))] [])))))
def L.a7.l2:LC:=
 (.seq (.reg false (.fin [39] [(39,.bin (.cmp .lss) (.tmp 38) (.tmp 37))] [])) (.seq (.cond (.tmp 39) [39] .skip (.exit 2)) (.seq (.block 3 (.seq (.reg false (.fin [40,41,42,7,8] [(7,.tmp 38),(8,.un .load (.bin (.idx 1) (.tmp 36) (.tmp 38)))] [])) (.reg false (.loud [43,44,45,46] [] [(46,.bin (.idx 1) (.tmp 4) (.tmp 8)),(45,.tmp 7)] none [] false (.store 3 (.tmp 46) (.tmp 45)) 0 none false (.fin [] [] []))))) (.reg false (.fin [47,38] [(38,.bin (.arith .add) (.tmp 38) (.con (.int .i64 1)))] [])))))
def L.a7.l5:LC:=
 (.seq (.reg false (.fin [67] [(67,.bin (.cmp .lss) (.tmp 66) (.tmp 65))] [])) (.seq (.cond (.tmp 67) [67] .skip (.exit 8)) (.seq (.block 9 (.seq (.reg false (.fin [68,69,15] [(15,.un .load (.bin (.idx 1) (.tmp 64) (.tmp 66)))] [])) (.seq (.seq (.reg false (.fin [70,71,72,73,74,75,76,77,78,79,80,81,82,83,84,85] [(85,(.ite (.bin (.cmp .lss) (.un .load (.bin (.idx 1) (.tmp 4) (.tmp 15))) (.con (.int .i64 0))) (.con (.bool true)) (.ite (.bin (.cmp .neq) (.tmp 15) (.con (.int .i64 0))) (.bin (.cmp .lss) (.un .load (.bin (.idx 1) (.tmp 5) (.tmp 15))) (.con (.int .i64 0))) (.con (.bool false)))))] [(.gd (.gd (.bin (.cmp .lss) (.un .load (.bin (.idx 1) (.tmp 4) (.tmp 15))) (.con (.int .i64 0))) false (.bin (.cmp .neq) (.tmp 15) (.con (.int .i64 0)))) true (.bin (.cmp .lss) (.un .load (.bin (.idx 1) (.tmp 5) (.tmp 15))) (.con (.int .i64 0))))])) (.cond (.tmp 85) [85] (.exit 9) .skip)) (.seq (.seq (.reg false (.fin [86,87] [(87,.bin (.cmp .lss) (.tmp 13) (.con (.int .i64 0)))] [])) (.cond (.tmp 87) [87] (.seq (.reg false (.fin [88,13] [(13,.tmp 15)] [])) (.exit 9)) .skip)) (.reg false (.loud [89,90,91,92] [] [(89,.tmp 5),(90,.tmp 4),(91,.tmp 13),(92,.tmp 15)] none [] false (.call ⟨.value (.func 37),#[.tmp 89,.tmp 90,.tmp 91,.tmp 92],#[22,22,3,3]⟩) 3 (some 93) true (.fin [13] [(13,.tmp 93)] []))))))) (.reg false (.fin [94,66] [(66,.bin (.arith .add) (.tmp 66) (.con (.int .i64 1)))] [])))))
def L.a7.l4:LC:=
 (.seq (.reg false (.fin [58] [(58,.bin (.cmp .lss) (.tmp 57) (.tmp 56))] [])) (.seq (.cond (.tmp 58) [58] .skip (.exit 6)) (.seq (.block 7 (.seq (.reg false (.fin [59,60,12] [(12,.un .load (.bin (.idx 1) (.tmp 55) (.tmp 57)))] [])) (.seq (.reg false (.fin [13] [(13,.con (.int .i64 (-1)))] [])) (.seq (.seq (.reg false (.fin [61,62,63,64,65,66] [(64,.un .load (.bin (.idx 1) (.tmp 9) (.tmp 12))),(65,.un .len (.un .load (.bin (.idx 1) (.tmp 9) (.tmp 12)))),(66,.con (.int .i64 0))] [])) (.block 8 (.loop L.a7.l5))) (.seq (.reg false (.fin [95,96,97,98,99,100] [(100,.bin (.cmp .neq) (.un .load (.bin (.idx 1) (.tmp 5) (.tmp 12))) (.tmp 13))] [])) (.cond (.tmp 100) [100] (.reg false (.loud [101,102,103,104] [] [(104,.bin (.idx 1) (.tmp 5) (.tmp 12)),(103,.tmp 13)] none [] false (.store 3 (.tmp 104) (.tmp 103)) 0 none false (.fin [10] [(10,.con (.bool true))] []))) .skip)))))) (.reg false (.fin [105,57] [(57,.bin (.arith .add) (.tmp 57) (.con (.int .i64 1)))] [])))))
def L.a7.l3:LC:=
 (.seq (.seq (.reg false (.fin [50] [(50,.tmp 10)] [])) (.cond (.tmp 50) [50] .skip (.exit 4))) (.block 5 (.seq (.reg false (.fin [10] [(10,.con (.bool false))] [])) (.seq (.reg false (.fin [51,52,53,54,55,56,57] [(55,.bin (.lo 1) (.tmp 3) (.bin .min (.con (.int .i64 1)) (.un .len (.tmp 3)))),(56,(.un .len (.bin (.lo 1) (.tmp 3) (.bin .min (.con (.int .i64 1)) (.un .len (.tmp 3)))))),(57,.con (.int .i64 0))] [])) (.block 6 (.loop L.a7.l4))))))
def L.a7:LFn:=
⟨[.tmp 2],(.seq (.reg false (.fin [2] [(2,.con (.slice none 0 0))] [])) (.seq (.reg false (.loud [16] [] [(16,.tmp 0)] none [] false (.call ⟨.value (.func 35),#[.tmp 16],#[33]⟩) 22 (some 17) true (.fin [3] [(3,.tmp 17)] []))) (.seq (.reg false (.loud [18,19] [] [(19,.un .len (.tmp 0)),(19,.un .len (.tmp 0))] none [] false (.makeSlice 22 (.tmp 19) (.tmp 19)) 22 (some 20) true (.fin [4] [(4,.tmp 20)] []))) (.seq (.reg false (.loud [21,22] [] [(22,.un .len (.tmp 0)),(22,.un .len (.tmp 0))] none [] false (.makeSlice 22 (.tmp 22) (.tmp 22)) 22 (some 23) true (.fin [5] [(5,.tmp 23)] []))) (.seq (.seq (.reg false (.fin [24,25,26] [(25,.un .len (.tmp 0)),(26,.con (.int .i64 0))] [])) (.block 0 (.loop L.a7.l1))) (.seq (.seq (.reg false (.fin [36,37,38] [(36,.tmp 3),(37,.un .len (.tmp 3)),(38,.con (.int .i64 0))] [])) (.block 2 (.loop L.a7.l2))) (.seq (.reg false (.loud [48] [] [(48,.tmp 0)] none [] false (.call ⟨.value (.func 36),#[.tmp 48],#[33]⟩) 33 (some 49) true (.fin [9] [(9,.tmp 49)] []))) (.seq (.seq (.reg false (.fin [10] [(10,.con (.bool true))] [])) (.block 4 (.loop L.a7.l3))) (.seq (.reg false (.fin [106,2] [(2,.tmp 5)] [])) .ret)))))))))⟩
theorem E.a7:aW Try.prog Try.f11=some L.a7:=by kernel_rfl
theorem F.a7:Try.prog.funcs[N.a7]? = some Try.f11:=Try.func11
abbrev N.eH:Nat:=12
def L.eH.l1:LC:=
 (.seq (.reg false (.fin [14] [(14,.bin (.cmp .lss) (.tmp 13) (.tmp 12))] [])) (.seq (.cond (.tmp 14) [14] .skip (.exit 0)) (.seq (.block 1 (.seq (.reg false (.loud [15,16,17] [(15,.tmp 13),(17,.un (.ao 6) (.bin (.idx 6) (.tmp 11) (.tmp 13)))] [] none [] false (.alloc 43) 0 (some 5) true (.loud [4] [(4,.tmp 15)] [(5,.tmp 5),(17,.tmp 17)] none [] false (.store 43 (.tmp 5) (.tmp 17)) 0 none false (.fin [] [] [])))) (.reg false (.loud [18,19,20,21,22,23,24,25] [(18,.tmp 3),(19,.tmp 4)] [(22,.un .load (.un (.fld 2) (.un (.fld 2) (.tmp 5)))),(25,.un .len (.un .load (.un (.fld 1) (.tmp 1))))] none [] false (.call ⟨.value (.func 38),#[.tmp 22,.tmp 25],#[22,3]⟩) 22 (some 26) true (.loud [27] [] [(27,.bin (.idx 1) (.tmp 18) (.tmp 19)),(26,.tmp 26)] none [] false (.store 22 (.tmp 27) (.tmp 26)) 0 none false (.fin [] [] [])))))) (.reg false (.fin [28,13] [(13,.bin (.arith .add) (.tmp 13) (.con (.int .i64 1)))] [])))))
def L.eH:LFn:=
⟨[.tmp 2],(.seq (.reg false (.loud [] [] [(0,.tmp 0)] none [] false (.box 26 (.tmp 0)) 0 (some 1) true (.fin [2] [(2,.con (.slice none 0 0))] []))) (.seq (.reg false (.loud [6,7,8] [] [(8,.un .len (.un .load (.un (.fld 1) (.tmp 1)))),(8,.un .len (.un .load (.un (.fld 1) (.tmp 1))))] none [] false (.makeSlice 33 (.tmp 8) (.tmp 8)) 33 (some 9) true (.fin [3] [(3,.tmp 9)] []))) (.seq (.seq (.reg false (.fin [10,11,12,13] [(11,.un .load (.un (.fld 1) (.tmp 1))),(12,.un .len (.un .load (.un (.fld 1) (.tmp 1)))),(13,.con (.int .i64 0))] [])) (.block 0 (.loop L.eH.l1))) (.seq (.reg false (.fin [29,2] [(2,.tmp 3)] [])) .ret))))⟩
theorem E.eH:aW Try.prog Try.f12=some L.eH:=by kernel_rfl
theorem F.eH:Try.prog.funcs[N.eH]? = some Try.f12:=Try.func12
abbrev N.bF:Nat:=13
def L.bF.l1:LC:=
 (.seq (.reg false (.fin [23] [(23,.bin (.cmp .lss) (.tmp 22) (.tmp 21))] [])) (.seq (.cond (.tmp 23) [23] .skip (.exit 0)) (.seq (.block 1 (.seq (.seq (.reg false (.fin [24,25,26] [(26,.bin (.cmp .eql) (.tmp 1) (.tmp 2))] [])) (.cond (.tmp 26) [26] (.seq (.reg false (.fin [6] [(6,.con (.bool true))] [])) .ret) .skip)) (.seq (.seq (.reg false (.loud [27,28] [] [(27,.tmp 7),(28,.tmp 2)] none [] false (.call ⟨.value (.tmp 27),#[.tmp 28],#[3]⟩) 4 (some 29) true (.fin [30] [(30,.un .not (.tmp 29))] []))) (.cond (.tmp 30) [30] (.seq (.reg false (.fin [6] [(6,.con (.bool false))] [])) .ret) .skip)) (.reg false (.fin [31,32,33,34,2] [(2,.un .load (.bin (.idx 1) (.un .load (.tmp 3)) (.tmp 2)))] []))))) (.reg false (.fin [35,22] [(22,.bin (.arith .add) (.tmp 22) (.con (.int .i64 1)))] [])))))
def L.bF:LFn:=
⟨[.tmp 6],(.seq (.reg false (.loud [] [] [(0,.tmp 0)] none [] false (.box 22 (.tmp 0)) 0 (some 3) true (.fin [6] [(6,.con (.bool false))] []))) (.seq (.reg false (.fin [8,7] [(7,.un (.fn 39) (.snoc (.con (.tuple #[])) (.tmp 3)))] [])) (.seq (.seq (.reg false (.loud [9,10] [] [(9,.tmp 7),(10,.tmp 1)] none [] false (.call ⟨.value (.tmp 9),#[.tmp 10],#[3]⟩) 4 (some 11) true (.loud [12,13,14,15] [(13,.un .not (.tmp 11))] [(14,.gd (.un .not (.tmp 11)) false (.tmp 7)),(15,.gd (.un .not (.tmp 11)) false (.tmp 2))] (some ((.un .not (.tmp 11)),false)) [] false (.call ⟨.value (.tmp 14),#[.tmp 15],#[3]⟩) 4 (some 16) true (.fin [17,18] [(18,.ite (.tmp 13) (.con (.bool true)) (.un .not (.tmp 16)))] [])))) (.cond (.tmp 18) [18] (.seq (.reg false (.fin [6] [(6,.con (.bool false))] [])) .ret) .skip)) (.seq (.seq (.reg false (.fin [19,20,21,22] [(21,.bin (.arith .add) (.un .len (.un .load (.tmp 3))) (.con (.int .i64 1))),(22,.con (.int .i64 0))] [])) (.block 0 (.loop L.bF.l1))) (.seq (.reg false (.fin [6] [(6,.con (.bool false))] [])) .ret)))))⟩
theorem E.bF:aW Try.prog Try.f13=some L.bF:=by kernel_rfl
theorem F.bF:Try.prog.funcs[N.bF]? = some Try.f13:=Try.func13
abbrev N.dW:Nat:=16
def L.dW:LFn:=
⟨[.tmp 4],(.seq (.reg false (.fin [4] [(4,.con (.int .i64 0))] [])) (.seq (.reg false (.fin [5,6,7,8,9,10,11,4] [(4,.bin (.div .rem) (.bin (.arith .add) (.bin (.div .rem) (.tmp 0) (.tmp 1)) (.tmp 1)) (.tmp 1))] [])) .ret))⟩
theorem E.dW:aW Try.prog Try.f16=some L.dW:=by kernel_rfl
theorem F.dW:Try.prog.funcs[N.dW]? = some Try.f16:=Try.func16
abbrev N.cI:Nat:=18
def L.cI:LFn:=
⟨[.un (.ao 2) (.tmp 0)],(.seq (.reg false (.loud [] [] [] none [] false (.alloc 26) 0 (some 0) true (.fin [] [] []))) (.seq (.reg false (.loud [] [] [] none [] false (.buildSlice 22 1 #[(0,.const (.int .i64 0))]) 22 (some 1) true (.loud [] [] [] none [] false (.buildSlice 22 2 #[(0,.const (.int .i64 1)),(1,.const (.int .i64 2))]) 22 (some 2) true (.loud [] [] [(1,.tmp 1),(2,.tmp 2)] none [] false (.build 41 #[(0,.const (.int .i64 2)),(1,.tmp 1),(2,.tmp 2)]) 41 (some 3) true (.loud [] [] [(3,.tmp 3)] none [] false (.build 43 #[(2,.tmp 3)]) 43 (some 4) true (.loud [] [] [] none [] false (.buildSlice 22 1 #[(0,.const (.int .i64 2))]) 22 (some 5) true (.loud [] [] [(5,.tmp 5)] none [] false (.build 41 #[(0,.const (.int .i64 1)),(2,.tmp 5)]) 41 (some 6) true (.loud [] [] [(6,.tmp 6)] none [] false (.build 43 #[(2,.tmp 6)]) 43 (some 7) true (.loud [] [] [] none [] false (.build 49 #[(0,.const (.int .i64 0)),(1,.const (.int .i64 0))]) 49 (some 8) true (.loud [] [] [] none [] false (.build 49 #[(0,.const (.int .i64 1)),(1,.const (.int .i64 0))]) 49 (some 9) true (.loud [] [] [(8,.tmp 8),(9,.tmp 9)] none [] false (.buildSlice 44 2 #[(0,.tmp 8),(1,.tmp 9)]) 44 (some 10) true (.loud [] [] [(10,.tmp 10)] none [] false (.build 46 #[(0,.const (.int .i64 1)),(1,.tmp 10)]) 46 (some 11) true (.loud [] [] [(11,.tmp 11)] none [] false (.buildSlice 38 1 #[(0,.tmp 11)]) 38 (some 12) true (.loud [] [] [] none [] false (.buildSlice 22 1 #[(0,.const (.int .i64 1))]) 22 (some 13) true (.loud [] [] [(13,.tmp 13)] none [] false (.build 41 #[(0,.const (.int .i64 4)),(1,.tmp 13)]) 41 (some 14) true (.loud [] [] [(12,.tmp 12),(14,.tmp 14)] none [] false (.build 43 #[(0,.tmp 12),(2,.tmp 14)]) 43 (some 15) true (.loud [] [] [(4,.tmp 4),(7,.tmp 7),(15,.tmp 15)] none [] false (.buildSlice 24 3 #[(0,.tmp 4),(1,.tmp 7),(2,.tmp 15)]) 24 (some 16) true (.loud [] [] [(16,.tmp 16)] none [] false (.build 26 #[(0,.const (.int .i64 1)),(1,.tmp 16)]) 26 (some 17) true (.loud [] [] [(0,.tmp 0),(17,.tmp 17)] none [] false (.store 26 (.tmp 0) (.tmp 17)) 0 none false (.fin [] [] [])))))))))))))))))))) .ret))⟩
theorem E.cI:aW Try.prog Try.f18=some L.cI:=by kernel_rfl
theorem F.cI:Try.prog.funcs[N.cI]? = some Try.f18:=Try.func18
abbrev N.bz:Nat:=19
def L.bz:LFn:=
⟨[.tmp 4],(.seq (.reg false (.fin [4] [(4,.con (.int .i64 0))] [])) (.seq (.reg false (.fin [5] [(5,.con (.int .i64 0))] [])) (.seq (.seq (.reg true (.fin [6,7,8,9,10,11,12,13,14,15] [(15,(.bin (.cmp .lss) (.un .load (.un (.fld 1) (.un .nilPtr (.tmp 0)))) (.un .len (.un .load (.un (.fld 0) (.un .nilPtr (.tmp 0)))))))] [])) (.cond (.tmp 15) [15] (.reg true (.fin [16,17,18,19,20,21,22,23,24,25,5] [(5,(.un .load (.bin (.idx 1) (.un .load (.un (.fld 0) (.un .nilPtr (.tmp 0)))) (.un .load (.un (.fld 1) (.un .nilPtr (.tmp 0)))))))] [])) .skip)) (.seq (.reg false (.loud [26,27,28,29,30,31,32,33] [] [(33,.un (.fld 1) (.un .nilPtr (.tmp 0))),(31,(.bin (.arith .add) (.un .load (.un (.fld 1) (.un .nilPtr (.tmp 0)))) (.con (.int .i64 1))))] none [] false (.store 3 (.tmp 33) (.tmp 31)) 0 none false (.fin [] [] []))) (.seq (.reg false (.fin [34,35,36,37,38,39,40,4] [(4,.bin (.div .rem) (.bin (.arith .add) (.bin (.div .rem) (.tmp 5) (.tmp 1)) (.tmp 1)) (.tmp 1))] [])) .ret)))))⟩
theorem E.bz:aW Try.prog Try.f19=some L.bz:=by kernel_rfl
theorem F.bz:Try.prog.funcs[N.bz]? = some Try.f19:=Try.func19
abbrev N.bA:Nat:=22
def L.bA:LFn:=
⟨[.tmp 2],(.seq (.reg false (.fin [2] [(2,.con (.int .i64 0))] [])) (.seq (.reg false (.loud [3,4,5,6,7,8,9,10] [] [(10,.un (.fld 4) (.un .nilPtr (.tmp 0))),(8,(.bin (.arith .add) (.un .load (.un (.fld 4) (.un .nilPtr (.tmp 0)))) (.con (.int .i64 1))))] none [] false (.store 3 (.tmp 10) (.tmp 8)) 0 none false (.fin [] [] []))) (.seq (.reg false (.fin [11,12,13,14,15,2] [(2,(.bin (.arith .sub) (.un .load (.un (.fld 4) (.un .nilPtr (.tmp 0)))) (.con (.int .i64 1))))] [])) .ret)))⟩
theorem E.bA:aW Try.prog Try.f22=some L.bA:=by kernel_rfl
theorem F.bA:Try.prog.funcs[N.bA]? = some Try.f22:=Try.func22
abbrev N.di:Nat:=24
def L.di:LFn:=
⟨[.tmp 2],(.seq (.reg false (.loud [] [] [(0,.tmp 0)] none [] false (.box 54 (.tmp 0)) 0 (some 1) true (.fin [2] [(2,.con (.slice none 0 0))] []))) (.seq (.seq (.reg false (.fin [3,4] [(4,.un .load (.un (.fld 0) (.tmp 1)))] [])) (.block 0 (.seq (.reg false (.fin [6,5] [(5,.bin (.cmp .eql) (.tmp 4) (.con (.int .i64 16)))] [])) (.cond (.tmp 5) [5] (.seq (.reg false (.fin [2] [(2,.con (.slice none 0 0))] [])) .ret) (.seq (.reg false (.fin [8,7] [(7,.bin (.cmp .eql) (.tmp 4) (.con (.int .i64 18)))] [])) (.cond (.tmp 7) [7] (.seq (.reg false (.loud [9,10,11,12] [] [(10,.un .load (.un (.fld 1) (.tmp 1))),(12,.un .load (.un (.fld 2) (.tmp 1)))] none [] false (.buildSlice 22 2 #[(0,.tmp 10),(1,.tmp 12)]) 22 (some 13) true (.fin [2] [(2,.tmp 13)] []))) .ret) .skip)))))) (.seq (.reg false (.loud [14,15] [] [(15,.un .load (.un (.fld 1) (.tmp 1)))] none [] false (.buildSlice 22 1 #[(0,.tmp 15)]) 22 (some 16) true (.fin [2] [(2,.tmp 16)] []))) .ret)))⟩
theorem E.di:aW Try.prog Try.f24=some L.di:=by kernel_rfl
theorem F.di:Try.prog.funcs[N.di]? = some Try.f24:=Try.func24
end Go.Proofs.Ytbkdlhkoiagbbaa
namespace Go.Proofs.Ytbkdlhkoiagbbaa
open Go Go.Lft
set_option maxRecDepth 100000
abbrev N.aZ:Nat:=28
def L.aZ:LFn:=
⟨[.tmp 6],(.seq (.reg false (.fin [6] [(6,.con (.int .i64 0))] [])) (.seq (.reg false (.loud [8] [] [(8,.tmp 0)] none [] false (.call ⟨.value (.func 22),#[.tmp 8],#[56]⟩) 3 (some 9) true (.fin [7] [(7,.tmp 9)] []))) (.seq (.reg false (.loud [10,11,12,13] [(10,.tmp 0),(11,.tmp 1)] [(12,.tmp 7),(13,.tmp 2)] none [] false (.build 54 #[(0,.const (.int .i64 1)),(1,.tmp 12),(4,.tmp 13)]) 54 (some 14) true (.loud [] [] [(10,.tmp 10),(11,.tmp 11),(14,.tmp 14)] none [] false (.call ⟨.value (.func 44),#[.tmp 10,.tmp 11,.tmp 14],#[56,3,54]⟩) 0 (some 15) false (.fin [] [] [])))) (.seq (.reg false (.fin [16,6] [(6,.tmp 7)] [])) .ret))))⟩
theorem E.aZ:aW Try.prog Try.f28=some L.aZ:=by kernel_rfl
theorem F.aZ:Try.prog.funcs[N.aZ]? = some Try.f28:=Try.func28
abbrev N.dz:Nat:=30
def R.dz:List E:=[.un .load (.tmp 2),.un .load (.tmp 3),.un .load (.tmp 4)]

def L.fW:LC:=
 (.reg false (.loud [] [] [(0,.tmp 0)] none [] false (.box 26 (.tmp 0)) 0 (some 1) true (.loud [] [] [] none [] false (.alloc 29) 0 (some 2) true (.loud [] [] [] none [] false (.alloc 3) 0 (some 3) true (.loud [] [] [] none [] false (.alloc 3) 0 (some 4) true (.fin [] [] []))))))
theorem E.fW:c9 Try.prog Try.f30.ntmps (gQ Try.f30) (x6 Try.f30) false (qP Try.f30)=some L.fW:=by kernel_rfl
def L.dZ.l1:LC:=
 (.seq (.reg false (.fin [26] [(26,.bin (.cmp .lss) (.tmp 25) (.tmp 24))] [])) (.seq (.cond (.tmp 26) [26] .skip (.exit 0)) (.seq (.block 1 (.seq (.reg false (.loud [27,28] [(28,.un (.ao 6) (.bin (.idx 6) (.tmp 23) (.tmp 25)))] [] none [] false (.alloc 43) 0 (some 7) true (.loud [] [] [(7,.tmp 7),(28,.tmp 28)] none [] false (.store 43 (.tmp 7) (.tmp 28)) 0 none false (.fin [] [] [])))) (.reg false (.fin [29,30,31,32,33,34,35,36,37,5] [(5,(.bin (.arith .add) (.tmp 5) (.bin (.arith .add) (.un .len (.un .load (.un (.fld 0) (.tmp 7)))) (.un .len (.un .load (.un (.fld 1) (.tmp 7)))))))] [])))) (.reg false (.fin [38,25] [(25,.bin (.arith .add) (.tmp 25) (.con (.int .i64 1)))] [])))))
def L.dZ:LC:=
 (.seq (.reg false (.loud [10,11] [] [(11,.un .load (.un (.fld 0) (.tmp 1)))] none [] false (.call ⟨.value (.func 49),#[.tmp 11,.const (.int .i64 0),.const (.int .i64 4)],#[3,3,3]⟩) 4 (some 12) true (.loud [] [] [(12,.tmp 12)] none [] false (.call ⟨.value (.func 48),#[.tmp 12,.const (.int .i64 1),.const (.int .i64 0),.const (.int .i64 0)],#[4,29,3,3]⟩) 0 (some 13) false (.fin [] [] [])))) (.seq (.reg false (.loud [14,15,16,17] [] [(17,(.bin (.cmp .gtr) (.un .len (.un .load (.un (.fld 1) (.tmp 1)))) (.con (.int .i64 0))))] none [] false (.call ⟨.value (.func 48),#[.tmp 17,.const (.int .i64 14),.const (.int .i64 0),.const (.int .i64 0)],#[4,29,3,3]⟩) 0 (some 18) false (.fin [] [] []))) (.seq (.reg false (.fin [19,20,21,5] [(5,.un .len (.un .load (.un (.fld 1) (.tmp 1))))] [])) (.seq (.seq (.reg false (.fin [22,23,24,25] [(23,.un .load (.un (.fld 1) (.tmp 1))),(24,.un .len (.un .load (.un (.fld 1) (.tmp 1)))),(25,.con (.int .i64 0))] [])) (.block 0 (.loop L.dZ.l1))) (.seq (.reg false (.loud [39,40,41,42,43,44,45,46] [] [(46,(.ite (.bin (.cmp .leq) (.un .len (.un .load (.un (.fld 1) (.tmp 1)))) (.con (.int .i64 512))) (.bin (.cmp .leq) (.tmp 5) (.con (.int .i64 4096))) (.con (.bool false))))] none [] false (.call ⟨.value (.func 48),#[.tmp 46,.const (.int .i64 2),.const (.int .i64 0),.const (.int .i64 0)],#[4,29,3,3]⟩) 0 (some 47) false (.fin [] [] []))) (.seq (.reg false (.loud [48] [(48,.un (.ao 2) (.tmp 1))] [] none [] false (.makeMap 100 none) 100 (some 49) true (.loud [] [] [(48,.tmp 48),(49,.tmp 49)] none [] false (.build 102 #[(0,.tmp 48),(1,.tmp 49)]) 102 (some 50) true (.loud [] [] [(50,.tmp 50)] none [] false (.box 102 (.tmp 50)) 99 (some 51) true (.fin [8] [(8,.tmp 51)] []))))) (.seq (.reg false (.loud [52] [] [(52,.tmp 8)] none [] false (.call ⟨.value (.func 50),#[.tmp 52],#[99]⟩) 0 (some 53) false (.fin [] [] []))) (.seq (.reg false (.loud [54] [] [(54,.tmp 8)] none [] false (.call ⟨.value (.func 51),#[.tmp 54],#[99]⟩) 0 (some 55) false (.fin [] [] []))) (.seq (.reg false (.loud [] [] [(2,.tmp 2)] none [] false (.store 29 (.tmp 2) (.const (.int .i64 0))) 0 none false (.loud [] [] [(3,.tmp 3)] none [] false (.store 3 (.tmp 3) (.const (.int .i64 0))) 0 none false (.loud [] [] [(4,.tmp 4)] none [] false (.store 3 (.tmp 4) (.const (.int .i64 0))) 0 none false (.fin [] [] []))))) .ret)))))))))
theorem E.dZ:c9 Try.prog Try.f30.ntmps (gQ Try.f30) (x6 Try.f30) false (yN Try.f30)=some L.dZ:=by kernel_rfl
theorem R.pK:Try.f30.results.toList.mapM (resE Try.prog)=some R.dz:=by kernel_rfl
theorem F.dz:Try.prog.funcs[N.dz]? = some Try.f30:=Try.func30
theorem B.dz:Try.f30.body=some (.seq (qP Try.f30) (.seq (.region (Be (Bb Try.f30)) #[A9 Try.f30 0,A9 Try.f30 1] false) (yN Try.f30))):=by kernel_rfl
abbrev N.cj:Nat:=31
def L.cj:LFn:=
⟨[.tmp 2],(.seq (.reg false (.fin [2] [(2,.con (.slice none 0 0))] [])) (.seq (.reg false (.loud [8] [] [(8,.tmp 0)] none [] false (.call ⟨.value (.func 52),#[.tmp 8],#[33]⟩) 33 (some 9) true (.loud [10] [] [(10,.tmp 0)] none [] false (.call ⟨.value (.func 36),#[.tmp 10],#[33]⟩) 33 (some 11) true (.loud [] [] [] none [] false (.alloc 33) 0 (some 3) true (.loud [] [] [] none [] false (.alloc 33) 0 (some 4) true (.loud [] [] [(3,.tmp 3),(9,.tmp 9)] none [] false (.store 33 (.tmp 3) (.tmp 9)) 0 none false (.loud [] [] [(4,.tmp 4),(11,.tmp 11)] none [] false (.store 33 (.tmp 4) (.tmp 11)) 0 none false (.fin [] [] [])))))))) (.seq (.reg false (.loud [] [] [] none [] false (.alloc 73) 0 (some 5) true (.fin [] [] []))) (.seq (.seq (.reg false (.loud [12] [] [(12,.tmp 0)] none [] false (.call ⟨.value (.func 53),#[.tmp 12],#[33]⟩) 104 (some 13) true (.fin [] [] []))) (.block 0 (.rangef (.tmp 13) [14,15] (.seq (.reg false (.fin [6] [(6,.tmp 14)] [])) (.reg false (.fin [7] [(7,.tmp 15)] []))) (.block 1 (.seq (.reg false (.fin [16,17,18,19,20,21,22,23,24,25,26,27,28,29] [(29,(.ite (.bin (.cmp .gtr) (.un .len (.un .load (.bin (.idx 1) (.un .load (.tmp 3)) (.tmp 6)))) (.con (.int .i64 1))) (.bin (.cmp .gtr) (.un .len (.un .load (.bin (.idx 1) (.un .load (.tmp 4)) (.tmp 7)))) (.con (.int .i64 1))) (.con (.bool false))))] [])) (.cond (.tmp 29) [29] (.reg false (.loud [30,31,32] [(30,.un .load (.tmp 5))] [(31,.tmp 6),(32,.tmp 7)] none [] false (.build 77 #[(0,.tmp 31),(1,.tmp 32)]) 77 (some 33) true (.loud [] [] [(33,.tmp 33)] none [] false (.buildSlice 73 1 #[(0,.tmp 33)]) 73 (some 34) true (.loud [] [] [(30,.tmp 30),(34,.tmp 34)] none [] false (.call ⟨.builtin .append,#[.tmp 30,.tmp 34],#[73,73]⟩) 73 (some 35) true (.loud [] [] [(5,.tmp 5),(35,.tmp 35)] none [] false (.store 73 (.tmp 5) (.tmp 35)) 0 none false (.fin [] [] [])))))) .skip)))))) (.seq (.reg false (.fin [36,2] [(2,.un .load (.tmp 5))] [])) .ret)))))⟩
theorem E.cj:aW Try.prog Try.f31=some L.cj:=by kernel_rfl
theorem F.cj:Try.prog.funcs[N.cj]? = some Try.f31:=Try.func31
abbrev N.eM:Nat:=32
def L.eM:LFn:=
⟨[.un (.ao 2) (.tmp 2)],(.seq (.reg false (.loud [] [] [(0,.tmp 0)] none [] false (.box 26 (.tmp 0)) 0 (some 1) true (.loud [] [] [] none [] false (.alloc 26) 0 (some 2) true (.fin [] [] [])))) (.seq (.reg false (.loud [3,4] [] [(4,.un .load (.un (.fld 1) (.tmp 1)))] none [] false (.call ⟨.value (.func 54),#[.tmp 4,.func 55],#[24,112]⟩) 24 (some 5) true (.loud [6] [] [(6,.un (.fld 1) (.tmp 1)),(5,.tmp 5)] none [] false (.store 24 (.tmp 6) (.tmp 5)) 0 none false (.fin [] [] [])))) (.seq (.reg false (.loud [7] [] [(2,.tmp 2),(7,.un (.ao 2) (.tmp 1))] none [] false (.store 26 (.tmp 2) (.tmp 7)) 0 none false (.fin [] [] []))) .ret)))⟩
theorem E.eM:aW Try.prog Try.f32=some L.eM:=by kernel_rfl
theorem F.eM:Try.prog.funcs[N.eM]? = some Try.f32:=Try.func32
abbrev N.bD:Nat:=33
def L.bD:LFn:=
⟨[],(.seq (.reg false (.fin [5,6,4] [(4,.un .len (.tmp 0))] [])) (.reg false (.loud [7,8,9,10] [(7,.tmp 0),(8,.tmp 4)] [(10,.un (.conv .u64) (.tmp 4))] none [] false (.call ⟨.value (.func 63),#[.tmp 10],#[115]⟩) 3 (some 11) true (.loud [12] [] [(7,.tmp 7),(8,.tmp 8),(11,.tmp 11),(12,.tmp 1)] none [] false (.call ⟨.value (.func 62),#[.tmp 7,.const (.int .i64 0),.tmp 8,.tmp 11,.tmp 12],#[44,3,3,3,81]⟩) 0 (some 13) false (.fin [] [] [])))))⟩
theorem E.bD:aW Try.prog Try.f33=some L.bD:=by kernel_rfl
theorem F.bD:Try.prog.funcs[N.bD]? = some Try.f33:=Try.func33
abbrev N.aR:Nat:=34
def L.aR:LFn:=
⟨[.tmp 4],(.seq (.reg false (.loud [] [] [(0,.tmp 0)] none [] false (.box 49 (.tmp 0)) 0 (some 2) true (.loud [] [] [(1,.tmp 1)] none [] false (.box 49 (.tmp 1)) 0 (some 3) true (.fin [4] [(4,.con (.int .i64 0))] [])))) (.seq (.reg false (.fin [5,6,7,8,9,4] [(4,.bin (.arith .sub) (.un .load (.un (.fld 0) (.tmp 2))) (.un .load (.un (.fld 0) (.tmp 3))))] [])) .ret))⟩
theorem E.aR:aW Try.prog Try.f34=some L.aR:=by kernel_rfl
theorem F.aR:Try.prog.funcs[N.aR]? = some Try.f34:=Try.func34
abbrev N.dp:Nat:=35
def L.dp:LFn:=
⟨[.tmp 2],(.seq (.reg false (.fin [2] [(2,.con (.slice none 0 0))] [])) (.seq (.seq (.reg false (.fin [7,8,9] [(9,.bin (.cmp .eql) (.un .len (.tmp 0)) (.con (.int .i64 0)))] [])) (.cond (.tmp 9) [9] (.seq (.reg false (.fin [2] [(2,.con (.slice none 0 0))] [])) .ret) .skip)) (.seq (.reg false (.loud [10] [] [(10,.tmp 0)] none [] false (.call ⟨.value (.func 52),#[.tmp 10],#[33]⟩) 33 (some 11) true (.loud [] [] [] none [] false (.alloc 33) 0 (some 3) true (.loud [] [] [(3,.tmp 3),(11,.tmp 11)] none [] false (.store 33 (.tmp 3) (.tmp 11)) 0 none false (.fin [] [] []))))) (.seq (.reg false (.loud [12,13] [] [(13,.un .len (.tmp 0)),(13,.un .len (.tmp 0))] none [] false (.makeSlice 63 (.tmp 13) (.tmp 13)) 63 (some 14) true (.loud [] [] [] none [] false (.alloc 63) 0 (some 4) true (.loud [] [] [(4,.tmp 4),(14,.tmp 14)] none [] false (.store 63 (.tmp 4) (.tmp 14)) 0 none false (.fin [] [] []))))) (.seq (.reg false (.loud [] [] [] none [] false (.alloc 22) 0 (some 5) true (.fin [] [] []))) (.seq (.reg false (.loud [] [] [] none [] false (.alloc 67) 0 (some 6) true (.fin [] [] []))) (.seq (.reg false (.loud [15] [] [(6,.tmp 6),(15,(.un (.fn 64) (.snoc (.snoc (.snoc (.snoc (.con (.tuple #[])) (.tmp 4)) (.tmp 3)) (.tmp 6)) (.tmp 5))))] none [] false (.store 67 (.tmp 6) (.tmp 15)) 0 none false (.fin [] [] []))) (.seq (.reg false (.loud [16] [] [(16,.un .load (.tmp 6))] none [] false (.call ⟨.value (.tmp 16),#[.const (.int .i64 0)],#[3]⟩) 0 (some 17) false (.fin [] [] []))) (.seq (.reg false (.loud [18] [] [(18,.un .load (.tmp 5))] none [] false (.call ⟨.value (.func 65),#[.tmp 18],#[22]⟩) 0 (some 19) false (.fin [] [] []))) (.seq (.reg false (.fin [20,2] [(2,.un .load (.tmp 5))] [])) .ret))))))))))⟩
theorem E.dp:aW Try.prog Try.f35=some L.dp:=by kernel_rfl
theorem F.dp:Try.prog.funcs[N.dp]? = some Try.f35:=Try.func35
abbrev N.dt:Nat:=36
def L.dt:LFn:=
⟨[.tmp 2],(.seq (.reg false (.fin [2] [(2,.con (.slice none 0 0))] [])) (.seq (.reg false (.loud [6,7] [] [(7,.un .len (.tmp 0)),(7,.un .len (.tmp 0))] none [] false (.makeSlice 33 (.tmp 7) (.tmp 7)) 33 (some 8) true (.loud [] [] [] none [] false (.alloc 33) 0 (some 3) true (.loud [] [] [(3,.tmp 3),(8,.tmp 8)] none [] false (.store 33 (.tmp 3) (.tmp 8)) 0 none false (.fin [] [] []))))) (.seq (.seq (.reg false (.loud [9] [] [(9,.tmp 0)] none [] false (.call ⟨.value (.func 53),#[.tmp 9],#[33]⟩) 104 (some 10) true (.fin [] [] []))) (.block 0 (.rangef (.tmp 10) [11,12] (.seq (.reg false (.fin [4] [(4,.tmp 11)] [])) (.reg false (.fin [5] [(5,.tmp 12)] []))) (.block 1 (.reg true (.loud [13,14,15,16,17,18,19] [(13,.un .load (.tmp 3)),(14,.tmp 5),(18,.un .load (.bin (.idx 1) (.un .load (.tmp 3)) (.tmp 5)))] [(19,.tmp 4)] none [] false (.buildSlice 22 1 #[(0,.tmp 19)]) 22 (some 20) true (.loud [] [] [(18,.tmp 18),(20,.tmp 20)] none [] false (.call ⟨.builtin .append,#[.tmp 18,.tmp 20],#[22,22]⟩) 22 (some 21) true (.loud [22] [] [(22,.bin (.idx 1) (.tmp 13) (.tmp 14)),(21,.tmp 21)] none [] true (.store 22 (.tmp 22) (.tmp 21)) 0 none false (.fin [] [] []))))))))) (.seq (.reg false (.fin [23,2] [(2,.un .load (.tmp 3))] [])) .ret))))⟩
theorem E.dt:aW Try.prog Try.f36=some L.dt:=by kernel_rfl
theorem F.dt:Try.prog.funcs[N.dt]? = some Try.f36:=Try.func36
abbrev N.bZ:Nat:=37
def L.bZ.l1:LC:=
 (.block 1 (.block 2 (.seq (.reg true (.fin [10,11,12,13,14,15,16,17,18,9] [(9,.bin (.cmp .gtr) (.un .load (.bin (.idx 1) (.tmp 1) (.tmp 2))) (.un .load (.bin (.idx 1) (.tmp 1) (.tmp 3))))] [])) (.cond (.tmp 9) [9] (.reg false (.fin [19,20,21,22,2] [(2,.un .load (.bin (.idx 1) (.tmp 0) (.tmp 2)))] [])) (.seq (.reg true (.fin [24,25,26,27,28,29,30,31,32,23] [(23,.bin (.cmp .gtr) (.un .load (.bin (.idx 1) (.tmp 1) (.tmp 3))) (.un .load (.bin (.idx 1) (.tmp 1) (.tmp 2))))] [])) (.cond (.tmp 23) [23] (.reg false (.fin [33,34,35,36,3] [(3,.un .load (.bin (.idx 1) (.tmp 0) (.tmp 3)))] [])) (.exit 0)))))))
def L.bZ:LFn:=
⟨[.tmp 8],(.seq (.reg false (.fin [8] [(8,.con (.int .i64 0))] [])) (.seq .skip (.seq (.block 0 (.loop L.bZ.l1)) (.seq (.reg false (.fin [37,8] [(8,.tmp 2)] [])) .ret))))⟩
theorem E.bZ:aW Try.prog Try.f37=some L.bZ:=by kernel_rfl
theorem F.bZ:Try.prog.funcs[N.bZ]? = some Try.f37:=Try.func37
abbrev N.dc:Nat:=38
def L.dc.l1:LC:=
 (.seq (.reg false (.fin [11] [(11,.bin (.cmp .lss) (.tmp 10) (.tmp 9))] [])) (.seq (.cond (.tmp 11) [11] .skip (.exit 0)) (.seq (.block 1 (.seq (.reg false (.fin [12,13,7] [(7,.un .load (.bin (.idx 1) (.tmp 8) (.tmp 10)))] [])) (.seq (.reg false (.fin [14,15,16,17,18,19,20] [(20,.ite (.bin (.cmp .geq) (.tmp 7) (.con (.int .i64 0))) (.bin (.cmp .lss) (.tmp 7) (.tmp 1)) (.con (.bool false)))] [])) (.cond (.tmp 20) [20] (.reg false (.loud [21,22] [(21,.tmp 5)] [(22,.tmp 7)] none [] false (.buildSlice 22 1 #[(0,.tmp 22)]) 22 (some 23) true (.loud [] [] [(21,.tmp 21),(23,.tmp 23)] none [] false (.call ⟨.builtin .append,#[.tmp 21,.tmp 23],#[22,22]⟩) 22 (some 24) true (.fin [5] [(5,.tmp 24)] [])))) .skip)))) (.reg false (.fin [25,10] [(10,.bin (.arith .add) (.tmp 10) (.con (.int .i64 1)))] [])))))
def L.dc:LFn:=
⟨[.tmp 4],(.seq (.reg false (.fin [4] [(4,.con (.slice none 0 0))] [])) (.seq (.reg false (.fin [5] [(5,.con (.slice none 0 0))] [])) (.seq (.seq (.reg false (.fin [8,9,10] [(8,.tmp 0),(9,.un .len (.tmp 0)),(10,.con (.int .i64 0))] [])) (.block 0 (.loop L.dc.l1))) (.seq (.reg false (.loud [26] [] [(26,.tmp 5)] none [] false (.call ⟨.value (.func 66),#[.tmp 26],#[22]⟩) 0 (some 27) false (.fin [] [] []))) (.seq (.reg false (.loud [28] [] [(28,.tmp 5)] none [] false (.call ⟨.value (.func 67),#[.tmp 28],#[22]⟩) 22 (some 29) true (.fin [4] [(4,.tmp 29)] []))) .ret)))))⟩
theorem E.dc:aW Try.prog Try.f38=some L.dc:=by kernel_rfl
theorem F.dc:Try.prog.funcs[N.dc]? = some Try.f38:=Try.func38
abbrev N.bC:Nat:=39
def L.bC:LFn:=
⟨[.tmp 3],(.seq (.reg false (.fin [3] [(3,.con (.bool false))] [])) (.seq (.reg false (.fin [4,5,6,7,8,9,10,11,3] [(3,(.ite (.bin (.cmp .geq) (.tmp 0) (.con (.int .i64 0))) (.bin (.cmp .lss) (.tmp 0) (.un .len (.un .load (.tmp 1)))) (.con (.bool false))))] [])) .ret))⟩
theorem E.bC:aW Try.prog Try.f39=some L.bC:=by kernel_rfl
theorem F.bC:Try.prog.funcs[N.bC]? = some Try.f39:=Try.func39
abbrev N.bY:Nat:=44
def L.bY:LFn:=
⟨[],(.seq (.reg false (.loud [] [] [(2,.tmp 2)] none [] false (.box 54 (.tmp 2)) 0 (some 5) true (.fin [] [] []))) (.seq (.reg true (.loud [7,8,9,10,11,12,13,14,15,16,17,18,19,20,21,22] [(11,(.un .load (.un (.fld 1) (.un (.fld 2) (.un .nilPtr (.tmp 0)))))),(12,.tmp 1),(21,(.un .load (.un (.fld 1) (.bin (.idx 6) (.un .load (.un (.fld 1) (.un (.fld 2) (.un .nilPtr (.tmp 0))))) (.tmp 1)))))] [(22,.un (.ao 5) (.tmp 5))] none [] false (.buildSlice 39 1 #[(0,.tmp 22)]) 39 (some 23) true (.loud [] [] [(21,.tmp 21),(23,.tmp 23)] none [] false (.call ⟨.builtin .append,#[.tmp 21,.tmp 23],#[39,39]⟩) 39 (some 24) true (.loud [25,26] [] [(26,.un (.fld 1) (.bin (.idx 6) (.tmp 11) (.tmp 12))),(24,.tmp 24)] none [] true (.store 39 (.tmp 26) (.tmp 24)) 0 none false (.fin [] [] []))))) (.seq (.reg false (.loud [27] [] [(27,.un (.ao 5) (.tmp 5))] none [] false (.call ⟨.value (.func 24),#[.tmp 27],#[54]⟩) 22 (some 28) true (.fin [6] [(6,.tmp 28)] []))) (.reg false (.loud [29,30,31,32,33,34] [(29,.tmp 0)] [(33,.un .load (.un (.fld 5) (.un .nilPtr (.tmp 0)))),(34,.tmp 6)] none [] false (.call ⟨.builtin .append,#[.tmp 33,.tmp 34],#[22,22]⟩) 22 (some 35) true (.loud [36,37] [] [(37,.un (.fld 5) (.un .nilPtr (.tmp 29))),(35,.tmp 35)] none [] false (.store 22 (.tmp 37) (.tmp 35)) 0 none false (.fin [] [] [])))))))⟩
theorem E.bY:aW Try.prog Try.f44=some L.bY:=by kernel_rfl
theorem F.bY:Try.prog.funcs[N.bY]? = some Try.f44:=Try.func44
end Go.Proofs.Ytbkdlhkoiagbbaa
