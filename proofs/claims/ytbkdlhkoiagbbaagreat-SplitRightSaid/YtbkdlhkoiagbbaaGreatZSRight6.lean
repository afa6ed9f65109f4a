/- A part of the proof: Nc, Da, Db, Dd, Ea, Ec, Ed, Ee, Tk, Ti, Tl, Tm, Tn, Ef, Eg, Ei, Eh, Ej, Ek, Ya, Yb, El, Ye, Yd, Eb. -/
import Derived.Test.YtbkdlhkoiagbbaaGreatZSRight5
set_option linter.unusedSimpArgs false
set_option linter.unusedVariables false
namespace Go.Lft
open Go
variable {po:OP}
end Go.Lft
namespace Go.Proofs.YtbkdlhkoiagbbaaGreat
open Go Go.Lft
structure TB (c:Nat) (x:BlkD):Prop where
 phis:x.phis.length≤c
 ins:x.ins.length≤c
 args:x.term.args.length≤c
 to:x.term.to.length≤c
 pin : ∀ p∈x.phis,p.ins.length≤c∧p.dst≤4000
 iar : ∀ i∈x.ins,i.args.length≤c∧i.dst≤4000∧i.two≤4000
structure TF (c:Nat) (f:ah):Prop where
 len:f.blocks.length≤1000
 blk : ∀ x∈f.blocks,TB c x
theorem TB.mono {c d:Nat} {x:BlkD} (t:TB c x) (h:c≤d):TB d x:=⟨Nat.le_trans t.phis h,Nat.le_trans t.ins h,Nat.le_trans t.args h,Nat.le_trans t.to h,fun p hp=>⟨Nat.le_trans (t.pin p hp).1 h,(t.pin p hp).2⟩,fun i hi=>⟨Nat.le_trans (t.iar i hi).1 h,(t.iar i hi).2⟩⟩
theorem TF.mono {c d:Nat} {f:ah} (t:TF c f) (h:c≤d):TF d f:=⟨t.len,fun x hx=>(t.blk x hx).mono h⟩
structure Tu (R F X:Nat) (i10:Own) (c:Nat) (W0:View) (vbk:Value) (bl:List BlkD) (W:View) (o:Own) (ps:Int) (vp vi va vt:Value) (kd im:Int) (lp:List PhiD) (li:List InsD) (la lt:List Int):Prop where
 le:W0.le W
 res:o (8,0)=bx T.aI R (RawN.mk (n:=1) [.int .i64 0,.slice none 0 0])
 fn:o (8,1)=bx T.aI F (RawN.mk (n:=1) [.int .i64 ps,vbk])
 blk:o (3,0)=it T.aX vbk bl
 box:o (3,1)=bx T.aX X (RawN.mk (n:=5) [vp,vi,.int .i64 kd,va,vt,.int .i32 im])
 ins:o (3,2)=it T.dm vi li
 phis:o (3,3)=it T.dB vp lp
 free:o (4,0)=none
 fr : ∀ k:Key,10≤k.1→o k=i10 k
 ra:SlRd W va la
 rt:SlRd W vt lt
 ips:I64 ps
 ikd:I64 kd
 iim:-2147483648≤im∧im≤2147483647
 tb:TB c ⟨lp,li,⟨kd,la,lt,⟨im⟩⟩⟩
def TuE (R F X:Nat) (i10:Own) (c:Nat) (W0:View) (vbk:Value) (bl:List BlkD) (h:Heap):Prop:=∃ W o ps vp vi va vt kd im lp li la lt,Tu R F X i10 c W0 vbk bl W o ps vp vi va vt kd im lp li la lt∧Owns W h o
theorem TuE.mono {R F X:Nat} {i10:Own} {c d:Nat} {W0:View} {vbk:Value} {bl:List BlkD} {h:Heap} (t:TuE R F X i10 c W0 vbk bl h) (hd:c≤d):TuE R F X i10 d W0 vbk bl h:=by
 obtain ⟨W,o,ps,vp,vi,va,vt,kd,im,lp,li,la,lt,t,w⟩:=t
 exact ⟨W,o,ps,vp,vi,va,vt,kd,im,lp,li,la,lt,⟨t.le,t.res,t.fn,t.blk,t.box,t.ins,t.phis,t.free,t.fr,t.ra,t.rt,t.ips,t.ikd,t.iim,t.tb.mono hd⟩,w⟩
section
variable {R F X c:Nat} {i10:Own} {W0 W:View} {vbk:Value} {bl:List BlkD} {h:Heap} {o:Own} {ps:Int} {vp vi va vt:Value} {kd im:Int} {lp:List PhiD} {li:List InsD} {la lt:List Int}
variable {po:OP} {ty t2:TypeId} {us:List (Nat × Value)} {x y:Operand} {K:Value→Heap→Prop}
end
theorem EK {H:View} {u:Value} {d:BlkD} (h:Rd H u d) : ∃ vp vi va vt,u = .agg #[vp,vi,.int .i64 d.term.kind,va,vt,.int .i32 d.term.imm.v]∧SlRd H vp d.phis∧SlRd H vi d.ins∧SlRd H va d.term.args∧SlRd H vt d.term.to∧I64 d.term.kind∧-2147483648≤d.term.imm.v∧d.term.imm.v≤2147483647:=by
 obtain ⟨cs,rfl,c1,r1,e1,⟨vp,rfl,h1⟩,c2,r2,e2,⟨vi,rfl,h2⟩,c3,r3,e3,⟨rfl,h3⟩,c4,r4,e4,⟨va,rfl,h4⟩,c5,r5,e5,⟨vt,rfl,h5⟩,h6,h7⟩:=h
 subst e5 e4 e3 e2
 have he:cs.toList=[vp,vi,.int .i64 d.term.kind,va,vt,.int .i32 d.term.imm.v]:=by rw [e1,h6];rfl
 refine ⟨vp,vi,va,vt,?_,h1,h2,h4,h5,h3,h7⟩
 rw [←Array.toList_inj.1 (he.trans rfl:cs.toList = #[vp,vi,Value.int .i64 d.term.kind,va,vt,.int .i32 d.term.imm.v].toList)]
theorem Owns.elW {W:View} {h:Heap} {o:Own} {k:Key} {α:Type} [r:Rep α] {e:TypeId} {v:Value} {l:List α} (w:Owns W h o) (hk:o k=it e v l) {i:Nat} (hi:i<l.length) : ∃ cs,gE (vw h) ((slA v).add (i*Rep.n α)) cs∧cs.length=Rep.n α∧Rep.rd W cs l[i]:=by
 obtain ⟨hb,xs,⟨hl,hown⟩,hel⟩:=w.get hk
 have h0:=hel i hi
 have hle:i*Rep.n α+Rep.n α≤l.length*Rep.n α:=by rw [←Nat.succ_mul];exact Nat.mul_le_mul_right _ hi
 have hcl:((xs.drop (i*Rep.n α)).take (Rep.n α)).length=Rep.n α:=by simp;omega
 rcases hown with ⟨rfl,hn⟩ | ⟨g,cap,cur,rfl,h2,h3,h4,h5,h6⟩
 ·omega
 ·have hadd:(slA (.slice (some ⟨g,0,none⟩) l.length cap)).add (i*Rep.n α)=⟨g,i*Rep.n α,none⟩:=by
   show (⟨g,0,none⟩:Addr).add _=_
   simp [Addr.z]
  rw [hadd]
  refine ⟨_,⟨cur,e,(0,0),rfl,h2,?_⟩,hcl,h0⟩
  rw [hcl,←h6,List.drop_take,List.take_take,Nat.min_eq_left (by omega)]
theorem Owns.ldW {W:View} {h:Heap} {o:Own} {k:Key} {α:Type} [r:Rep α] {e:TypeId} {v:Value} {l:List α} (w:Owns W h o) (hk:o k=it e v l) (ha:Rep.agg α=true) {N:Nat} (hn:Rep.n α=N) {i:Nat} (hi:i<l.length) : ∃ u,Un.ev (vw h) (.au N) (.pointer (some ((slA v).add (i*N))))=some u∧Rd W u l[i]:=by
 subst hn
 obtain ⟨cs,h1,h2,h3⟩:=Owns.elW w hk hi
 have:=fZ h1 cs.length 0 #[] (by omega)
 refine ⟨.agg cs.toArray,?_,?_⟩
 ·simp only [Un.ev,vP,Option.bind_some]
  rw [h2] at this
  rw [this]
  simp
 ·unfold Rd
  rw [if_pos ha]
  exact ⟨_,rfl,by simpa using h3⟩
end Go.Proofs.YtbkdlhkoiagbbaaGreat
namespace Go.Proofs.YtbkdlhkoiagbbaaGreat
open Go Go.Lft
def pr:Nat→Nat→Nat
 | 0,i=>2*i+1
 | b+1,i=>2*pr b i
theorem zq : ∀ {b c i j:Nat},pr b i=pr c j→b=c∧i=j
 | 0,0,i,j,h=>⟨rfl,by unfold pr at h;omega⟩
 | 0,c+1,i,j,h=>by unfold pr at h;omega
 | b+1,0,i,j,h=>by unfold pr at h;omega
 | b+1,c+1,i,j,h=>by
  have h:2*pr b i=2*pr c j:=h
  have:=zq (show pr b i=pr c j by omega)
  exact ⟨by omega,this.2⟩
theorem yB {b c i j:Nat}:pr b i=pr c j↔b=c∧i=j:=⟨zq,fun h=>by rw [h.1,h.2]⟩
structure PhO where
 dst:Int
 ins:Raw
instance:Rep PhO:=Rep.via fun d=>Cat.mk d.dst d.ins
instance:Inhabited PhO:=⟨⟨0,default⟩⟩
theorem PhO.km:Part PhO Int 0 PhO.dst (fun d x=>{ d with dst:=x }):=(Part.fst Part.all).via (fun _=>rfl) fun _ _=>rfl
structure InO where
 op:Int
 dst:Int
 two:Int
 args:Raw
 imm:I32
instance:Rep InO:=Rep.via fun d=>Cat.mk d.op (Cat.mk d.dst (Cat.mk d.two (Cat.mk d.args d.imm)))
instance:Inhabited InO:=⟨⟨0,0,0,default,default⟩⟩
theorem InO.km:Part InO Int 1 InO.dst (fun d x=>{ d with dst:=x }):=(Part.snd (Part.fst Part.all)).via (fun _=>rfl) fun _ _=>rfl
theorem InO.uQ:Part InO Int 2 InO.two (fun d x=>{ d with two:=x }):=(Part.snd (Part.snd (Part.fst Part.all))).via (fun _=>rfl) fun _ _=>rfl
theorem InO.pj:Part InO Raw 3 InO.args (fun d x=>{ d with args:=x }):=(Part.snd (Part.snd (Part.snd (Part.fst Part.all)))).via (fun _=>rfl) fun _ _=>rfl
structure TmO where
 kind:Int
 args:Raw
 to:Raw
 imm:I32
instance:Rep TmO:=Rep.via fun d=>Cat.mk d.kind (Cat.mk d.args (Cat.mk d.to d.imm))
instance:Inhabited TmO:=⟨⟨0,default,default,default⟩⟩
theorem TmO.pj:Part TmO Raw 1 TmO.args (fun d x=>{ d with args:=x }):=(Part.snd (Part.fst Part.all)).via (fun _=>rfl) fun _ _=>rfl
theorem TmO.Af:Part TmO Raw 2 TmO.to (fun d x=>{ d with to:=x }):=(Part.snd (Part.snd (Part.fst Part.all))).via (fun _=>rfl) fun _ _=>rfl
structure BkO where
 phis:Raw
 ins:Raw
 term:TmO
instance:Rep BkO:=Rep.via fun d=>Cat.mk d.phis (Cat.mk d.ins d.term)
instance:Inhabited BkO:=⟨⟨default,default,default⟩⟩
theorem BkO.ko:Part BkO Raw 0 BkO.phis (fun d x=>{ d with phis:=x }):=(Part.fst Part.all).via (fun _=>rfl) fun _ _=>rfl
theorem BkO.lj:Part BkO TmO 2 BkO.term (fun d x=>{ d with term:=x }):=(Part.snd (Part.snd Part.all)).via (fun _=>rfl) fun _ _=>rfl
section
variable {H:View} {cs:List Value}
theorem FB {d:PhO} {l:List InD} (h:Rep.rd H cs d) (hl:SlRd H d.ins.v l):Rep.rd H cs (PhiD.mk d.dst l):=by
 obtain ⟨c1,r1,e1,h1,h2,_⟩:=h
 have h2:r1=[d.ins.v]:=h2
 exact ⟨c1,r1,e1,h1,d.ins.v,h2,hl⟩
theorem FN {d:InO} {l:List Int} (h:Rep.rd H cs d) (hl:SlRd H d.args.v l):Rep.rd H cs (InsD.mk d.op d.dst d.two l d.imm):=by
 obtain ⟨c1,r1,e1,h1,c2,r2,e2,h2,c3,r3,e3,h3,c4,r4,e4,⟨h4,_⟩,h5⟩:=h
 have h4:c4=[d.args.v]:=h4
 exact ⟨c1,r1,e1,h1,c2,r2,e2,h2,c3,r3,e3,h3,c4,r4,e4,⟨d.args.v,h4,hl⟩,h5⟩
theorem Fu {d:BkO} {p:List PhiD} {i:List InsD} {a t:List Int} (h:Rep.rd H cs d) (hp:SlRd H d.phis.v p) (hi:SlRd H d.ins.v i) (ha:SlRd H d.term.args.v a) (ht:SlRd H d.term.to.v t):Rep.rd H cs (BlkD.mk p i ⟨d.term.kind,a,t,d.term.imm⟩):=by
 obtain ⟨c1,r1,e1,⟨h1,_⟩,c2,r2,e2,⟨h2,_⟩,c3,r3,e3,h3,c4,r4,e4,⟨h4,_⟩,c5,r5,e5,⟨h5,_⟩,h6⟩:=h
 have h1:c1=[d.phis.v]:=h1
 have h2:c2=[d.ins.v]:=h2
 have h4:c4=[d.term.args.v]:=h4
 have h5:c5=[d.term.to.v]:=h5
 exact ⟨c1,r1,e1,⟨d.phis.v,h1,hp⟩,c2,r2,e2,⟨d.ins.v,h2,hi⟩,c3,r3,e3,h3,c4,r4,e4,⟨d.term.args.v,h4,ha⟩,c5,r5,e5,⟨d.term.to.v,h5,ht⟩,h6⟩
end
structure Bv where
 p:Value
 i:Value
 a:Value
 t:Value
 pin:Nat→Value
 iar:Nat→Value
def phO (V:Bv) (d:BlkD) (i:Nat):PhO:=⟨(nth d.phis i).dst,⟨V.pin i⟩⟩
def inO (V:Bv) (d:BlkD) (i:Nat):InO:=⟨(nth d.ins i).op,(nth d.ins i).dst,(nth d.ins i).two,⟨V.iar i⟩,(nth d.ins i).imm⟩
def tmO (V:Bv) (d:BlkD):TmO:=⟨d.term.kind,⟨V.a⟩,⟨V.t⟩,d.term.imm⟩
def bkO (V:Bv) (d:BlkD):BkO:=⟨⟨V.p⟩,⟨V.i⟩,tmO V d⟩
structure BO (K:Nat) (o:Own) (b:Nat) (V:Bv) (d:BlkD):Prop where
 phis:o (K+1,b)=it T.dB V.p (rows (phO V d) d.phis.length)
 ins:o (K+2,b)=it T.dm V.i (rows (inO V d) d.ins.length)
 args:o (K+3,b)=it T.int V.a d.term.args
 to:o (K+4,b)=it T.int V.t d.term.to
 pin : ∀ i,i<d.phis.length→o (K+5,pr b i)=it T.dq (V.pin i) (nth d.phis i).ins
 iar : ∀ i,i<d.ins.length→o (K+6,pr b i)=it T.int (V.iar i) (nth d.ins i).args
structure FnO (K:Nat) (o:Own) (vb:Value) (V:Nat→Bv) (f:ah):Prop where
 blk:o (K,0)=it T.aX vb (rows (fun b=>bkO (V b) (nth f.blocks b)) f.blocks.length)
 bo : ∀ b,b<f.blocks.length→BO K o b (V b) (nth f.blocks b)
def OfB (K b:Nat) (k:Key):Prop:=(k.2=b∧K+1≤k.1∧k.1≤K+4)∨∃ i,k.2=pr b i∧(k.1=K+5∨k.1=K+6)
section
variable {K:Nat} {o o':Own} {b c:Nat} {V:Bv} {d:BlkD}
theorem BO.congr (w:BO K o b V d) (h : ∀ k,OfB K b k→o' k=o k):BO K o' b V d:=
 ⟨(h _ (.inl ⟨rfl,by simp,by simp⟩)).trans w.phis,(h _ (.inl ⟨rfl,by simp,by simp⟩)).trans w.ins,(h _ (.inl ⟨rfl,by simp,by simp⟩)).trans w.args,(h _ (.inl ⟨rfl,by simp,by simp⟩)).trans w.to,
  fun i hi=>(h _ (.inr ⟨i,rfl,.inl rfl⟩)).trans (w.pin i hi),fun i hi=>(h _ (.inr ⟨i,rfl,.inr rfl⟩)).trans (w.iar i hi)⟩
theorem wD (hbc:b≠c) {k:Key} (h:OfB K b k):¬OfB K c k:=by
 intro g
 rcases h with ⟨h1,h2,h3⟩ | ⟨i,h1,h2⟩<;>rcases g with ⟨g1,g2,g3⟩ | ⟨j,g1,g2⟩
 ·omega
 ·omega
 ·omega
 ·exact hbc (zq (h1.symm.trans g1)).1
theorem gZ {k:Key} (h:OfB K b k):K+1≤k.1∧k.1≤K+6:=by
 rcases h with ⟨h1,h2,h3⟩ | ⟨i,h1,h2⟩<;>omega
theorem BO.ab (w:BO K o b V d) {k:Key} {x:Option Lft.Item} (h:¬OfB K b k):BO K (o.upd k x) b V d:=
 w.congr fun q hq=>Own.ab (by rintro rfl;exact h hq)
end
section
variable {H:View} {vb:Value} {V:Nat→Bv} {f:ah}
theorem Aw {V:Bv} {d:BlkD} (h0:SlRd H V.p (rows (phO V d) d.phis.length)) (h1 : ∀ i,i<d.phis.length→SlRd H (V.pin i) (nth d.phis i).ins):SlRd H V.p d.phis:=by
 refine nY h0 rfl (by simp) fun i g1 g2 cs hr=>?_
 have e:(rows (phO V d) d.phis.length)[i]=phO V d i:=by simp [rows]
 rw [e] at hr
 have:=FB hr (h1 i g2)
 rw [←ak g2]
 exact this
theorem C5 {V:Bv} {d:BlkD} (h0:SlRd H V.i (rows (inO V d) d.ins.length)) (h1 : ∀ i,i<d.ins.length→SlRd H (V.iar i) (nth d.ins i).args):SlRd H V.i d.ins:=by
 refine nY h0 rfl (by simp) fun i g1 g2 cs hr=>?_
 have e:(rows (inO V d) d.ins.length)[i]=inO V d i:=by simp [rows]
 rw [e] at hr
 have:=FN hr (h1 i g2)
 rw [←ak g2]
 exact this
theorem AL (h0:SlRd H vb (rows (fun b=>bkO (V b) (nth f.blocks b)) f.blocks.length)) (hp : ∀ b,b<f.blocks.length→SlRd H (V b).p (nth f.blocks b).phis) (hi : ∀ b,b<f.blocks.length→SlRd H (V b).i (nth f.blocks b).ins)
  (ha : ∀ b,b<f.blocks.length→SlRd H (V b).a (nth f.blocks b).term.args) (ht : ∀ b,b<f.blocks.length→SlRd H (V b).t (nth f.blocks b).term.to):SlRd H vb f.blocks:=by
 refine nY h0 rfl (by simp) fun b g1 g2 cs hr=>?_
 have e:(rows (fun b=>bkO (V b) (nth f.blocks b)) f.blocks.length)[b]=bkO (V b) (nth f.blocks b):=by simp [rows]
 rw [e] at hr
 have:=Fu hr (hp b g2) (hi b g2) (ha b g2) (ht b g2)
 rw [←ak g2]
 exact this
end
section
variable {W:View} {h:Heap} {K:Nat} {o o':Own} {vb:Value} {V:Nat→Bv} {f:ah} {b:Nat}
theorem FnO.rd (w:Owns W h o) (g:FnO K o vb V f):SlRd (vw h) vb f.blocks:=
 AL (w.now g.blk) (fun b hb=>Aw (w.now (g.bo b hb).phis) fun i hi=>w.now ((g.bo b hb).pin i hi)) (fun b hb=>C5 (w.now (g.bo b hb).ins) fun i hi=>w.now ((g.bo b hb).iar i hi)) (fun b hb=>w.now (g.bo b hb).args) fun b hb=>w.now (g.bo b hb).to
theorem FnO.rdF (w:Owns W h o) (g:FnO K o vb V f) (hp:I64 f.params):Rd (vw h) (.agg #[.int .i64 f.params,vb]) f:=
 ⟨_,rfl,[.int .i64 f.params],[vb],rfl,⟨rfl,hp⟩,vb,rfl,g.rd w⟩
theorem FnO.congr (g:FnO K o vb V f) (h : ∀ k:Key,K≤k.1→k.1≤K+6→o' k=o k):FnO K o' vb V f:=
 ⟨(h _ (Nat.le_refl _) (by simp)).trans g.blk,fun b hb=>(g.bo b hb).congr fun k hk=>by have:=gZ hk;exact h k (by omega) (by omega)⟩
theorem FnO.upd (g:FnO K o vb V f) {k:Key} {x:Option Lft.Item} (h:k.1<K∨K+6<k.1):FnO K (o.upd k x) vb V f:=
 g.congr fun q h1 h2=>Own.ab (by rintro rfl;omega)
def aT (f:ah) (b:Nat) (d:BlkD):ah:=⟨f.params,f.blocks.set b d⟩
theorem jr {d:BlkD}:(aT f b d).blocks.length=f.blocks.length:=List.length_set
theorem pg {d:BlkD} (hb:b<f.blocks.length) (c:Nat):nth (aT f b d).blocks c=if b=c then d else nth f.blocks c:=by
 unfold aT
 dsimp only
 rcases Nat.lt_or_ge c f.blocks.length with h | h
 ·exact aJ h
 ·rw [aU (by rw [List.length_set];exact h),aU h,if_neg (by omega)]
theorem xJ (hb:b<f.blocks.length):aT f b (nth f.blocks b)=f:=by
 unfold aT
 rw [ak hb,List.set_getElem_self hb]
theorem xk {d e:BlkD}:aT (aT f b d) b e=aT f b e:=by
 unfold aT;rw [List.set_set]
theorem FnO.setB (g:FnO K o vb V f) (hb:b<f.blocks.length) {d:BlkD} (h0:o' (K,0)=o (K,0)) (ho : ∀ k,K+1≤k.1→k.1≤K+6→¬OfB K b k→o' k=o k) (hk:tmO (V b) d=tmO (V b) (nth f.blocks b)) (hd:BO K o' b (V b) d):FnO K o' vb V (aT f b d):=by
 have hn:=fun c=>pg (d:=d) hb c
 refine ⟨?_,fun c hc=>?_⟩
 ·rw [h0,g.blk,jr]
  congr 1
  refine List.map_congr_left fun c _=>?_
  rw [hn]
  split
  ·rename_i e;subst e;unfold bkO;rw [hk]
  ·rfl
 ·rw [jr] at hc
  rw [hn]
  split
  ·rename_i e;subst e;exact hd
  ·rename_i e
   exact (g.bo c hc).congr fun k hk=>by have:=gZ hk;exact ho k (by omega) (by omega) (wD (fun q=>e q.symm) hk)
theorem FnO.freeze (g:FnO K o vb V f) (w:Owns W h o) : ∃ W',W.le W'∧Owns W' h (fun k=>if K≤k.1∧k.1≤K+6 then .none else o k)∧SlRd W' vb f.blocks:=by
 obtain ⟨W',hW,w',s⟩:=Owns.qy w fun k=>decide (K≤k.1∧k.1≤K+6)
 refine ⟨W',hW,w'.congr fun k=>?_,?_⟩
 ·by_cases e:K≤k.1∧k.1≤K+6
  ·rw [if_pos e,if_pos (decide_eq_true e)]
  ·rw [if_neg e,if_neg (by rw [decide_eq_false e];exact Bool.false_ne_true)]
 ·refine AL (s (by simp) g.blk) (fun b hb=>Aw (s (by simp) (g.bo b hb).phis) fun i hi=>s (by simp) ((g.bo b hb).pin i hi)) (fun b hb=>C5 (s (by simp) (g.bo b hb).ins) fun i hi=>s (by simp) ((g.bo b hb).iar i hi)) (fun b hb=>s (by simp) (g.bo b hb).args) fun b hb=>s (by simp) (g.bo b hb).to
end
theorem gm {β:Type} {x:Nat→β} {n i:Nat} (h:i<(rows x n).length):(rows x n)[i]=x i:=by simp [rows]
theorem kt {β:Type} {x y:Nat→β} {n i:Nat} {z:β} (hi:i<n) (hz:z=y i) (h : ∀ j,j<n→j≠i→x j=y j):(rows x n).set i z=rows y n:=by
 refine List.ext_getElem (by simp) fun j g1 g2=>?_
 have hj:j<n:=by simpa using g2
 rw [List.getElem_set,gm,gm]
 split
 ·rename_i e;subst e;exact hz
 ·rename_i e;exact h j hj fun q=>e q.symm
def fB (d:BlkD) (i:Nat) (p:PhiD):BlkD:={ d with phis:=d.phis.set i p }
def pD (d:BlkD) (i:Nat) (x:InsD):BlkD:={ d with ins:=d.ins.set i x }
def fR (d:BlkD) (l:List Int):BlkD:={ d with term:={ d.term with to:=l } }
section
variable {K:Nat} {o o':Own} {b i:Nat} {V:Bv} {d:BlkD}
theorem BO.Gb (w:BO K o b V d) (hi:i<d.phis.length) {l:List InD} (ho : ∀ k,o' k=o.upd (K+5,pr b i) (it T.dq (V.pin i) l) k):BO K o' b V (fB d i ⟨(nth d.phis i).dst,l⟩):=by
 have hl:(fB d i ⟨(nth d.phis i).dst,l⟩).phis.length=d.phis.length:=List.length_set
 have hn:=fun j (hj:j<d.phis.length)=>aJ (l:=d.phis) (i:=i) (j:=j) (x:=⟨(nth d.phis i).dst,l⟩) hj
 refine ⟨?_,?_,?_,?_,fun j hj=>?_,fun j hj=>?_⟩
 ·rw [ho,Own.ab (by simp),w.phis,hl]
  congr 1
  refine List.map_congr_left fun j hj=>?_
  unfold phO fB;dsimp only;rw [hn j (List.mem_range.1 hj)]
  split
  ·rename_i e;subst e;rfl
  ·rfl
 ·rw [ho,Own.ab (by simp)];exact w.ins
 ·rw [ho,Own.ab (by simp)];exact w.args
 ·rw [ho,Own.ab (by simp)];exact w.to
 ·rw [hl] at hj
  rw [ho]
  unfold fB;dsimp only;rw [hn j hj]
  split
  ·rename_i e;subst e;rw [Own.ag]
  ·rename_i e
   rw [Own.ab (by simp [yB];exact fun q=>e q.symm),w.pin j hj]
 ·rw [ho,Own.ab (by simp)];exact w.iar j hj
theorem BO.H0 (w:BO K o b V d) (hi:i<d.ins.length) {op dst two:Int} {imm:I32} {x:InO} (hx:x=⟨op,dst,two,⟨V.iar i⟩,imm⟩) (ho : ∀ k,o' k=o.upd (K+2,b) (it T.dm V.i ((rows (inO V d) d.ins.length).set i x)) k):BO K o' b V (pD d i ⟨op,dst,two,(nth d.ins i).args,imm⟩):=by
 have hl:(pD d i ⟨op,dst,two,(nth d.ins i).args,imm⟩).ins.length=d.ins.length:=List.length_set
 have hn:=fun j (hj:j<d.ins.length)=>aJ (l:=d.ins) (i:=i) (j:=j) (x:=⟨op,dst,two,(nth d.ins i).args,imm⟩) hj
 refine ⟨?_,?_,?_,?_,fun j hj=>?_,fun j hj=>?_⟩
 ·rw [ho,Own.ab (by simp)];exact w.phis
 ·rw [ho,Own.ag,hl,kt (y:=inO V (pD d i ⟨op,dst,two,(nth d.ins i).args,imm⟩)) hi]
  ·rw [hx];unfold inO pD;dsimp only;rw [hn i hi,if_pos rfl]
  ·intro j hj hne;unfold inO pD;dsimp only;rw [hn j hj,if_neg (fun e=>hne e.symm)]
 ·rw [ho,Own.ab (by simp)];exact w.args
 ·rw [ho,Own.ab (by simp)];exact w.to
 ·rw [ho,Own.ab (by simp)];exact w.pin j hj
 ·rw [hl] at hj
  rw [ho,Own.ab (by simp),w.iar j hj]
  unfold pD;dsimp only;rw [hn j hj]
  split
  ·rename_i e;subst e;rfl
  ·rfl
theorem BO.Ih (w:BO K o b V d) {l:List Int} (ho : ∀ k,o' k=o.upd (K+4,b) (it T.int V.t l) k):BO K o' b V (fR d l):=
 ⟨by rw [ho,Own.ab (by simp)];exact w.phis,by rw [ho,Own.ab (by simp)];exact w.ins,by rw [ho,Own.ab (by simp)];exact w.args,by rw [ho,Own.ag];rfl,fun j hj=>by rw [ho,Own.ab (by simp)];exact w.pin j hj,fun j hj=>by rw [ho,Own.ab (by simp)];exact w.iar j hj⟩
end
section
variable {K:Nat} {o o':Own} {vb:Value} {V:Nat→Bv} {f:ah} {b i:Nat}
theorem FnO.wr (g:FnO K o vb V f) (hb:b<f.blocks.length) {k:Key} {x:Option Lft.Item} (hk:OfB K b k) (ho : ∀ q,o' q=o.upd k x q) {d:BlkD} (ht:tmO (V b) d=tmO (V b) (nth f.blocks b)) (hd:BO K o' b (V b) d):FnO K o' vb V (aT f b d):=
 g.setB hb (by rw [ho,Own.ab (by rintro rfl;have:=gZ hk;simp at this;omega)]) (fun q _ _ h=>by rw [ho,Own.ab (by rintro rfl;exact h hk)]) ht hd
end
end Go.Proofs.YtbkdlhkoiagbbaaGreat
namespace Go.Proofs.YtbkdlhkoiagbbaaGreat
open Go Go.Lft
def phR (pin:Nat→Value) (l:List PhiD) (i:Nat):PhO:=⟨(nth l i).dst,⟨pin i⟩⟩
def inR (iar:Nat→Value) (l:List InsD) (i:Nat):InO:=⟨(nth l i).op,(nth l i).dst,(nth l i).two,⟨iar i⟩,(nth l i).imm⟩
structure PhsO (K:Nat) (o:Own) (b:Nat) (v:Value) (pin:Nat→Value) (l:List PhiD):Prop where
 row:o (K+1,b)=it T.dB v (rows (phR pin l) l.length)
 pin : ∀ i,i<l.length→o (K+5,pr b i)=it T.dq (pin i) (nth l i).ins
structure InsO (K:Nat) (o:Own) (b:Nat) (v:Value) (iar:Nat→Value) (l:List InsD):Prop where
 row:o (K+2,b)=it T.dm v (rows (inR iar l) l.length)
 iar : ∀ i,i<l.length→o (K+6,pr b i)=it T.int (iar i) (nth l i).args
theorem AA {α:Type} [Inhabited α] {l:List α} {x:α} {i:Nat}:nth (l++[x]) i=if i<l.length then nth l i else if i=l.length then x else default:=by
 split
 ·rename_i h
  rw [ak (l:=l++[x]) (i:=i) (by simp;omega),ak h,List.getElem_append_left h]
 ·split
  ·rename_i h h2
   subst h2
   rw [ak (l:=l++[x]) (i:=l.length) (by simp),List.getElem_append_right (Nat.le_refl _)];simp
  ·exact aU (by simp;omega)
theorem nR {α:Type} [Inhabited α] {l:List α} {x:α}:nth (l++[x]) l.length=x:=by rw [AA,if_neg (Nat.lt_irrefl _),if_pos rfl]
theorem ou {α:Type} [Inhabited α] {l:List α} {x:α} {i:Nat} (h:i<l.length):nth (l++[x]) i=nth l i:=by rw [AA,if_pos h]
theorem pG {β:Type} {x y:Nat→β} {n:Nat} (h : ∀ i,i<n→x i=y i):rows x n=rows y n:=List.map_congr_left fun i hi=>h i (List.mem_range.1 hi)
section
variable {K b:Nat} {o o':Own} {v v':Value} {pin iar:Nat→Value}
theorem PhsO.push {l:List PhiD} {p:PhiD} {u:Value} (w:PhsO K o b v pin l) (h1:o' (K+1,b)=it T.dB v' (rows (phR pin l) l.length++[⟨p.dst,⟨u⟩⟩])) (h2:o' (K+5,pr b l.length)=it T.dq u p.ins) (h3 : ∀ i,i<l.length→o' (K+5,pr b i)=o (K+5,pr b i)):PhsO K o' b v' (fun i=>if i=l.length then u else pin i) (l++[p]):=by
 refine ⟨?_,fun i hi=>?_⟩
 ·rw [h1,List.length_append,List.length_singleton,eW]
  congr 1
  congr 1
  ·refine pG fun i hi=>?_
   unfold phR
   dsimp only
   rw [ou hi,if_neg (by omega)]
  ·unfold phR
   dsimp only
   rw [nR,if_pos rfl]
 ·rw [List.length_append,List.length_singleton] at hi
  rcases Nat.lt_or_ge i l.length with h | h
  ·rw [h3 i h,if_neg (by omega),ou h];exact w.pin i h
  ·have e:i=l.length:=by omega
   subst e
   rw [h2,if_pos rfl,nR]
theorem InsO.push {l:List InsD} {p:InsD} {u:Value} (w:InsO K o b v iar l) (h1:o' (K+2,b)=it T.dm v' (rows (inR iar l) l.length++[⟨p.op,p.dst,p.two,⟨u⟩,p.imm⟩])) (h2:o' (K+6,pr b l.length)=it T.int u p.args) (h3 : ∀ i,i<l.length→o' (K+6,pr b i)=o (K+6,pr b i)):InsO K o' b v' (fun i=>if i=l.length then u else iar i) (l++[p]):=by
 refine ⟨?_,fun i hi=>?_⟩
 ·rw [h1,List.length_append,List.length_singleton,eW]
  congr 1
  congr 1
  ·refine pG fun i hi=>?_
   unfold inR
   dsimp only
   rw [ou hi,if_neg (by omega)]
  ·unfold inR
   dsimp only
   rw [nR,if_pos rfl]
 ·rw [List.length_append,List.length_singleton] at hi
  rcases Nat.lt_or_ge i l.length with h | h
  ·rw [h3 i h,if_neg (by omega),ou h];exact w.iar i h
  ·have e:i=l.length:=by omega
   subst e
   rw [h2,if_pos rfl,nR]
theorem PhsO.congr {l:List PhiD} (w:PhsO K o b v pin l) (h : ∀ k,OfB K b k→o' k=o k):PhsO K o' b v pin l:=
 ⟨(h _ (.inl ⟨rfl,by simp,by simp⟩)).trans w.row,fun i hi=>(h _ (.inr ⟨i,rfl,.inl rfl⟩)).trans (w.pin i hi)⟩
theorem InsO.congr {l:List InsD} (w:InsO K o b v iar l) (h : ∀ k,OfB K b k→o' k=o k):InsO K o' b v iar l:=
 ⟨(h _ (.inl ⟨rfl,by simp,by simp⟩)).trans w.row,fun i hi=>(h _ (.inr ⟨i,rfl,.inr rfl⟩)).trans (w.iar i hi)⟩
theorem BO.of {p:List PhiD} {i:List InsD} {t:dQ} {va vt vp vi:Value} (wp:PhsO K o b vp pin p) (wi:InsO K o b vi iar i) (ha:o (K+3,b)=it T.int va t.args) (ht:o (K+4,b)=it T.int vt t.to):BO K o b ⟨vp,vi,va,vt,pin,iar⟩ ⟨p,i,t⟩:=
 ⟨wp.row,wi.row,ha,ht,wp.pin,wi.iar⟩
end
theorem FnO.push {K:Nat} {o o':Own} {vb vb':Value} {V:Nat→Bv} {Vn:Bv} {ps:Int} {l:List BlkD} {d:BlkD} {x:BkO} (g:FnO K o vb V ⟨ps,l⟩) (hx:x=bkO Vn d) (h1:o' (K,0)=it T.aX vb' (rows (fun b=>bkO (V b) (nth l b)) l.length++[x])) (h2 : ∀ b,b<l.length→∀ k,OfB K b k→o' k=o k) (h3:BO K o' l.length Vn d):FnO K o' vb' (fun b=>if b=l.length then Vn else V b) ⟨ps,l++[d]⟩:=by
 refine ⟨?_,fun b hb=>?_⟩
 ·dsimp only
  rw [h1,List.length_append,List.length_singleton,eW]
  congr 1
  congr 1
  ·refine pG fun i hi=>?_
   rw [ou hi,if_neg (by omega)]
  ·rw [nR,if_pos rfl,hx]
 ·have hb:b<(l++[d]).length:=hb
  rw [List.length_append,List.length_singleton] at hb
  dsimp only
  rcases Nat.lt_or_ge b l.length with h | h
  ·rw [if_neg (by omega),ou h]
   exact (g.bo b h).congr (h2 b h)
  ·have e:b=l.length:=by omega
   subst e
   rw [if_pos rfl,nR];exact h3
theorem Owns.A0 {po:OP} {P:Program} {W:View} {h:Heap} {o:Own} {k:Key} {ty:TypeId} {us:List (Nat × Value)} {α:Type} [r:Rep α] {e:TypeId} {v:Value} {t:TypeId} {bytes:Nat} {z:Value} {x y:Operand} {u:Value} {l2:List α} {K:Value→Heap→Prop} (w:Owns W h o) (hk:o k=it e v ([]:List α)) (hT:et P t e (Rep.n α) bytes z) (hx:asg us x=v) (hy:asg us y=u)
  (hs:SlRd W u l2) (hb:l2.length*bytes≤140737488355328)
  (hK : ∀ v' h',Owns W h' (o.upd k (it e v' l2))→v'.oneCell'=true→(∀ X:View,X.le (vw h)→Av X v→X.le (vw h'))→K v' h'):@Lft.step po P (.call ⟨.builtin .append,#[x,y],#[t,t]⟩) ty us h K:=
 w.dR (k:=k) (l:=([]:List α)) (l2:=l2) hk hT hx hy (hs.src w.wle) (by simpa using hb) (by have:=hs.bound;simpa using this) fun v' h' w' m=>by
  exact hK v' h' w' ((w'.cells (k:=k) Own.ag).2) fun X hX hA=>(m.view hX hA).1
theorem ofB1 {K b:Nat}:OfB K b (K+1,b):=.inl ⟨rfl,by simp,by simp⟩
theorem ofB2 {K b:Nat}:OfB K b (K+2,b):=.inl ⟨rfl,by simp,by simp⟩
theorem ofB3 {K b:Nat}:OfB K b (K+3,b):=.inl ⟨rfl,by simp,by simp⟩
theorem ofB4 {K b:Nat}:OfB K b (K+4,b):=.inl ⟨rfl,by simp,by simp⟩
theorem ofB5 {K b i:Nat}:OfB K b (K+5,pr b i):=.inr ⟨i,rfl,.inl rfl⟩
theorem ofB6 {K b i:Nat}:OfB K b (K+6,pr b i):=.inr ⟨i,rfl,.inr rfl⟩
theorem GG {H:View} {d:Int} {v:Value} (h1:I64 d) (h2:v.oneCell'=true):Rd H (.agg #[.int .i64 d,v]) (PhO.mk d ⟨v⟩):=⟨_,rfl,[.int .i64 d],[v],rfl,⟨rfl,h1⟩,rfl,h2⟩
theorem Hl {H:View} {op d two:Int} {imm:I32} {v:Value} (h:I64 op∧I64 d∧I64 two∧-2147483648≤imm.v∧imm.v≤2147483647) (h2:v.oneCell'=true):Rd H (.agg #[.int .i64 op,.int .i64 d,.int .i64 two,v,.int .i32 imm.v]) (InO.mk op d two ⟨v⟩ imm):=
 ⟨_,rfl,[.int .i64 op],_,rfl,⟨rfl,h.1⟩,[.int .i64 d],_,rfl,⟨rfl,h.2.1⟩,[.int .i64 two],_,rfl,⟨rfl,h.2.2.1⟩,[v],_,rfl,⟨rfl,h2⟩,rfl,h.2.2.2⟩
theorem DB {H:View} {vp vi va vt:Value} {kd:Int} {imm:I32} (h1:vp.oneCell'=true) (h2:vi.oneCell'=true) (h3:va.oneCell'=true) (h4:vt.oneCell'=true) (h5:I64 kd) (h6:-2147483648≤imm.v∧imm.v≤2147483647):Rd H (.agg #[vp,vi,.int .i64 kd,va,vt,.int .i32 imm.v]) (BkO.mk ⟨vp⟩ ⟨vi⟩ ⟨kd,⟨va⟩,⟨vt⟩,imm⟩):=
 ⟨_,rfl,[vp],_,rfl,⟨rfl,h1⟩,[vi],_,rfl,⟨rfl,h2⟩,[.int .i64 kd],_,rfl,⟨rfl,h5⟩,[va],_,rfl,⟨rfl,h3⟩,[vt],_,rfl,⟨rfl,h4⟩,rfl,h6⟩
end Go.Proofs.YtbkdlhkoiagbbaaGreat
namespace Go.Proofs.YtbkdlhkoiagbbaaGreat
open Go Go.Lft
structure Wt (W:View) (h:Heap) (K:Nat) (ob:Own) (vb:Value) (V:Nat→Bv) (f:ah):Prop where
 ex : ∃ o,Owns W h o∧FnO K o vb V f∧∀ k:Key,(k.1<K∨K+6<k.1)→o k=ob k
section
variable {W:View} {h:Heap} {K:Nat} {ob:Own} {vb:Value} {V:Nat→Bv} {f:ah}
theorem Wt.wle (w:Wt W h K ob vb V f):W.le (vw h):=let ⟨_,w,_⟩:=w.ex;w.wle
theorem Wt.blks (w:Wt W h K ob vb V f):SlRd (vw h) vb f.blocks:=let ⟨_,w,g,_⟩:=w.ex;g.rd w
theorem Wt.raw (w:Wt W h K ob vb V f) {k:Key} (hk:k.1<K∨K+6<k.1) {n:Nat} {e:TypeId} {B:Nat} {l:List Value} (hb:ob k=bx e B (RawN.mk (n:=n) l)) {i:Nat} (hi:i≤n):an (vw h) ⟨B,i,none⟩=some (l.getD i undef):=
 let ⟨o,w,g,r⟩:=w.ex
 w.raw (k:=k) ((r k hk).trans hb) hi
theorem Wt.gD (w:Wt W h K ob vb V f) {k:Key} (hk:k.1<K∨K+6<k.1) {n:Nat} {e:TypeId} {B:Nat} {l:List Value} (hb:ob k=bx e B (RawN.mk (n:=n) l)):Un.ev (vw h) (.au (n+1)) (.pointer (some ⟨B,0,none⟩))=some (.agg l.toArray):=
 let ⟨o,w,g,r⟩:=w.ex
 w.gD (k:=k) ((r k hk).trans hb)
theorem FnO.cur {o:Own} {b:Nat} {d:BlkD} (g:FnO K o vb V (aT f b d)) (hb:b<f.blocks.length):BO K o b (V b) d:=by
 have:=g.bo b (by rw [jr];exact hb)
 rw [pg hb,if_pos rfl] at this
 exact this
theorem Wt.blk (w:Wt W h K ob vb V f) {b:Nat} (hb:b<f.blocks.length):Un.ev (vw h) (.au 6) (.pointer (some ((slA vb).add (b*6))))=some (.agg #[(V b).p,(V b).i,.int .i64 (nth f.blocks b).term.kind,(V b).a,(V b).t,.int .i32 (nth f.blocks b).term.imm.v])∧(V b).p.oneCell'=true∧(V b).i.oneCell'=true∧(V b).a.oneCell'=true∧(V b).t.oneCell'=true:=by
 obtain ⟨o,w,g,r⟩:=w.ex
 have hl:b<(rows (fun b=>bkO (V b) (nth f.blocks b)) f.blocks.length).length:=by simpa using hb
 obtain ⟨u,hu,hr⟩:=Owns.ldW w g.blk rfl (N:=6) rfl hl
 rw [gm hl] at hr
 obtain ⟨cs,rfl,c1,r1,e1,⟨q1,o1⟩,c2,r2,e2,⟨q2,o2⟩,c3,r3,e3,⟨q3,_⟩,c4,r4,e4,⟨q4,o4⟩,c5,r5,e5,⟨q5,o5⟩,q6,_⟩:=hr
 have q1:c1=[(V b).p]:=q1
 have q2:c2=[(V b).i]:=q2
 have q3:c3=[.int .i64 (nth f.blocks b).term.kind]:=q3
 have q4:c4=[(V b).a]:=q4
 have q5:c5=[(V b).t]:=q5
 have q6:r5=[.int .i32 (nth f.blocks b).term.imm.v]:=q6
 have he:cs.toList = #[(V b).p,(V b).i,Value.int .i64 (nth f.blocks b).term.kind,(V b).a,(V b).t,.int .i32 (nth f.blocks b).term.imm.v].toList:=by rw [e1,e2,e3,e4,e5,q1,q2,q3,q4,q5,q6];rfl
 exact ⟨by rw [hu,Array.toList_inj.1 he],o1,o2,o4,o5⟩
section
variable {b i:Nat} {d:BlkD}
theorem Wt.phN (w:Wt W h K ob vb V (aT f b d)) (hb:b<f.blocks.length):SlRd (vw h) (V b).p (rows (phO (V b) d) d.phis.length):=let ⟨_,w,g,_⟩:=w.ex;w.now (g.cur hb).phis
theorem Wt.inN (w:Wt W h K ob vb V (aT f b d)) (hb:b<f.blocks.length):SlRd (vw h) (V b).i (rows (inO (V b) d) d.ins.length):=let ⟨_,w,g,_⟩:=w.ex;w.now (g.cur hb).ins
theorem Wt.args (w:Wt W h K ob vb V (aT f b d)) (hb:b<f.blocks.length):SlRd (vw h) (V b).a d.term.args:=let ⟨_,w,g,_⟩:=w.ex;w.now (g.cur hb).args
theorem Wt.to (w:Wt W h K ob vb V (aT f b d)) (hb:b<f.blocks.length):SlRd (vw h) (V b).t d.term.to:=let ⟨_,w,g,_⟩:=w.ex;w.now (g.cur hb).to
theorem Wt.pin (w:Wt W h K ob vb V (aT f b d)) (hb:b<f.blocks.length) (hi:i<d.phis.length):SlRd (vw h) ((V b).pin i) (nth d.phis i).ins:=let ⟨_,w,g,_⟩:=w.ex;w.now ((g.cur hb).pin i hi)
theorem Wt.iar (w:Wt W h K ob vb V (aT f b d)) (hb:b<f.blocks.length) (hi:i<d.ins.length):SlRd (vw h) ((V b).iar i) (nth d.ins i).args:=let ⟨_,w,g,_⟩:=w.ex;w.now ((g.cur hb).iar i hi)
theorem Wt.ins (w:Wt W h K ob vb V (aT f b d)) (hb:b<f.blocks.length) (hi:i<d.ins.length):an (vw h) (((slA (V b).i).add (i*5)).add 1)=some (.int .i64 (nth d.ins i).dst)∧an (vw h) (((slA (V b).i).add (i*5)).add 2)=some (.int .i64 (nth d.ins i).two)∧an (vw h) (((slA (V b).i).add (i*5)).add 3)=some ((V b).iar i)∧I64 (nth d.ins i).dst∧I64 (nth d.ins i).two:=by
 have hl:i<(rows (inO (V b) d) d.ins.length).length:=by simpa using hi
 have a:=(w.inN hb).at hl
 rw [gm hl] at a
 exact ⟨(a.part InO.km).int,(a.part InO.uQ).int,(a.part InO.pj).raw,(a.part InO.km).rng,(a.part InO.uQ).rng⟩
theorem Wt.wr {h':Heap} {o:Own} (g:FnO K o vb V (aT f b d)) (r : ∀ k:Key,(k.1<K∨K+6<k.1)→o k=ob k) (hb:b<f.blocks.length) {k:Key} {x:Option Lft.Item} {d':BlkD} (w:Owns W h' (o.upd k x)) (hk:OfB K b k) (ht:tmO (V b) d'=tmO (V b) d) (hd:BO K (o.upd k x) b (V b) d'):Wt W h' K ob vb V (aT f b d'):=by
 refine ⟨_,w,?_,fun q hq=>?_⟩
 ·have:=g.wr (by rw [jr];exact hb) hk (fun _=>rfl) (by rw [pg hb,if_pos rfl];exact ht) hd
  rw [xk] at this
  exact this
 ·have:=gZ hk
  rw [Own.ab (by rintro rfl;omega)];exact r q hq
variable {po:OP} {P:Program} {ty t:TypeId} {us:List (Nat × Value)} {x y:Operand} {Kc:Value→Heap→Prop} {v:Int}
theorem Wt.pf (w:Wt W h K ob vb V (aT f b d)) (hb:b<f.blocks.length) (hi:i<d.phis.length) {k:Nat} (hk:k<(nth d.phis i).ins.length) (hsz:cY P t=some 1) (hx:asg us x = .pointer (some (((slA ((V b).pin i)).add (k*2)).add 0))) (hy:asg us y = .int .i64 v) (hv:I64 v)
  (hK : ∀ h',Wt W h' K ob vb V (aT f b (fB d i ⟨(nth d.phis i).dst,(nth d.phis i).ins.set k ⟨v,(nth (nth d.phis i).ins k).val⟩⟩))→Kc undef h'):@Lft.step po P (.store t x y) ty us h Kc:=by
 obtain ⟨o,w,g,r⟩:=w.ex
 refine w.kQ (k:=(K+5,pr b i)) (α:=InD) InD.rn (v:=(V b).pin i) (l:=(nth d.phis i).ins) (i:=k) (d:=v) ((g.cur hb).pin i hi) hsz hx hy hk (dN.2 ⟨rfl,hv⟩) fun h' w' _=>hK h' ?_
 refine Wt.wr g r hb w' ofB5 rfl ((g.cur hb).Gb hi fun _=>?_)
 rw [ak hk]
theorem Wt.id (w:Wt W h K ob vb V (aT f b d)) (hb:b<f.blocks.length) (hi:i<d.ins.length) (hsz:cY P t=some 1) (hx:asg us x = .pointer (some (((slA (V b).i).add (i*5)).add 1))) (hy:asg us y = .int .i64 v) (hv:I64 v)
  (hK : ∀ h',Wt W h' K ob vb V (aT f b (pD d i { nth d.ins i with dst:=v }))→Kc undef h'):@Lft.step po P (.store t x y) ty us h Kc:=by
 obtain ⟨o,w,g,r⟩:=w.ex
 have hl:i<(rows (inO (V b) d) d.ins.length).length:=by simpa using hi
 refine w.kQ (k:=(K+2,b)) (α:=InO) InO.km (v:=(V b).i) (l:=rows (inO (V b) d) d.ins.length) (i:=i) (d:=v) (g.cur hb).ins hsz hx hy hl (dN.2 ⟨rfl,hv⟩) fun h' w' _=>hK h' ?_
 exact Wt.wr g r hb w' ofB2 rfl ((g.cur hb).H0 hi (op:=(nth d.ins i).op) (dst:=v) (two:=(nth d.ins i).two) (imm:=(nth d.ins i).imm) (by rw [gm hl];rfl) fun _=>rfl)
theorem Wt.tt (w:Wt W h K ob vb V (aT f b d)) (hb:b<f.blocks.length) {k:Nat} (hk:k<d.term.to.length) (hsz:cY P t=some 1) (hx:asg us x = .pointer (some ((slA (V b).t).add k))) (hy:asg us y = .int .i64 v) (hv:I64 v)
  (hK : ∀ h',Wt W h' K ob vb V (aT f b (fR d (d.term.to.set k v)))→Kc undef h'):@Lft.step po P (.store t x y) ty us h Kc:=by
 obtain ⟨o,w,g,r⟩:=w.ex
 refine w.pt (k:=(K+4,b)) (α:=Int) (v:=(V b).t) (l:=d.term.to) (i:=k) (d:=v) (g.cur hb).to hsz (by rw [hx];rw [show k*Rep.n Int=k from Nat.mul_one k]) hy hk (dN.2 ⟨rfl,hv⟩) fun h' w' _=>hK h' ?_
 exact Wt.wr g r hb w' ofB4 rfl ((g.cur hb).Ih fun _=>rfl)
end
end
section
variable {W:View} {h:Heap} {K:Nat} {ob:Own} {vb:Value} {V:Nat→Bv} {f:ah} {b i:Nat} {d:BlkD}
theorem Wt.ixP (w:Wt W h K ob vb V (aT f b d)) (hb:b<f.blocks.length) (hi:i<d.phis.length):Bn.ev (.idx 2) (V b).p (.int .i64 i)=some (.pointer (some ((slA (V b).p).add (i*2)))):=
 (w.phN hb).idxn (N:=2) rfl (Int.natCast_nonneg _) (by simp;omega)
theorem Wt.ixT (w:Wt W h K ob vb V (aT f b d)) (hb:b<f.blocks.length) {k:Nat} (hk:k<d.term.to.length):Bn.ev (.idx 1) (V b).t (.int .i64 k)=some (.pointer (some ((slA (V b).t).add k)))∧an (vw h) ((slA (V b).t).add k)=some (.int .i64 (nth d.term.to k))∧I64 (nth d.term.to k):=
 ⟨(w.to hb).idx1 rfl (Int.natCast_nonneg _) (by omega),(w.to hb).int (View.le_refl _) hk,by have:=((w.to hb).at hk).rng;rw [ak hk];exact this⟩
theorem Wt.ixN (w:Wt W h K ob vb V (aT f b d)) (hb:b<f.blocks.length) (hi:i<d.phis.length) {k:Nat} (hk:k<(nth d.phis i).ins.length):Bn.ev (.idx 2) ((V b).pin i) (.int .i64 k)=some (.pointer (some ((slA ((V b).pin i)).add (k*2))))∧an (vw h) (((slA ((V b).pin i)).add (k*2)).add 0)=some (.int .i64 (nth (nth d.phis i).ins k).frm)∧an (vw h) (((slA ((V b).pin i)).add (k*2)).add 1)=some (.int .i64 (nth (nth d.phis i).ins k).val)∧I64 (nth (nth d.phis i).ins k).frm∧I64 (nth (nth d.phis i).ins k).val:=by
 have a:=(w.pin hb hi).at hk
 rw [←ak hk] at a
 exact ⟨(w.pin hb hi).idxn (N:=2) rfl (Int.natCast_nonneg _) (by omega),(a.part InD.rn).int,(a.part InD.xC).int,(a.part InD.rn).rng,(a.part InD.xC).rng⟩
end
section
variable {W:View} {h:Heap} {K:Nat} {ob:Own} {vb:Value} {V:Nat→Bv} {f:ah} {b i:Nat} {d:BlkD}
theorem Wt.drop {k:Key} {x:Option Lft.Item} (w:Wt W h K (ob.upd k x) vb V f) (hk:ob k=none) (hf:k.1<K∨K+6<k.1):Wt W h K ob vb V f:=by
 obtain ⟨o,w,g,r⟩:=w.ex
 refine ⟨fun q=>if q=k then none else o q,w.sub fun q i hq=>?_,g.congr fun q h1 h2=>if_neg (by rintro rfl;omega),fun q hq=>?_⟩
 ·split at hq
  ·cases hq
  ·exact hq
 ·by_cases e:q=k
  ·exact (if_pos e).trans (by rw [e];exact hk.symm)
  ·exact (if_neg e).trans (by rw [r q hq,Own.ab e])
end
def fC {α:Type} [Inhabited α] (g:α→α) (l:List α) (k:Nat):List α:=rows (fun i=>if i<k then g (nth l i) else nth l i) l.length
section
variable {α:Type} [Inhabited α] {g:α→α} {l:List α} {k:Nat}
theorem ke:(fC g l k).length=l.length:=by simp [fC]
theorem pM:fC g l 0=l:=by
 unfold fC
 refine List.ext_getElem (by simp) fun i h1 h2=>?_
 rw [gm,if_neg (Nat.not_lt_zero _),ak h2]
theorem qK:fC g l l.length=l.map g:=by
 unfold fC
 refine List.ext_getElem (by simp) fun i h1 h2=>?_
 have hi:i<l.length:=by simpa using h2
 rw [gm,if_pos hi,ak hi,List.getElem_map]
theorem Bj {i:Nat} (hi:i<l.length):nth (fC g l k) i=if i<k then g (nth l i) else nth l i:=by unfold fC;exact df hi
theorem oq (hk:k<l.length):nth (fC g l k) k=nth l k:=by rw [Bj hk,if_neg (Nat.lt_irrefl _)]
theorem pb (hk:k<l.length):(fC g l k).set k (g (nth l k))=fC g l (k+1):=by
 unfold fC
 refine kt hk (by rw [if_pos (Nat.lt_succ_self k)]) fun j hj hne=>?_
 by_cases h:j<k
 ·rw [if_pos h,if_pos (by omega)]
 ·rw [if_neg h,if_neg (by omega)]
end
end Go.Proofs.YtbkdlhkoiagbbaaGreat
namespace Go.Proofs.YtbkdlhkoiagbbaaGreat
open Go Go.Lft
theorem vf {α:Type} [Rep α] {n:Nat} (k:Key) {v:Value} {l:List α} {h:Heap} {W:View} {o:Own} (w:Owns W h o) (hk:o k=none) (hv:SlRd W v l) :
  ∃ a m c,v = .slice a m c∧(a=none→l=[]):=by
 obtain ⟨a,cap,rfl,h1,h2,h3⟩:=hv
 exact ⟨_,_,_,rfl,fun e=>by
  subst e
  rcases h3 with h3 | ⟨ad,h3,_⟩
  ·first | exact h3 | exact List.eq_nil_of_length_eq_zero (by simpa using h3)
  ·cases h3⟩
theorem Owns.past {W:View} {h:Heap} {cur o':Own} (w:Owns W h cur) {P:Key→Prop} (he : ∀ k,¬P k→cur k=o' k) (hn : ∀ k,P k→o' k=none):Owns W h o':=w.sub fun k i hk=>by
 by_cases p:P k
 ·rw [hn k p] at hk;cases hk
 ·rw [he k p];exact hk
theorem zW (k:Key) {v:Value} {l:List InD} {h:Heap} {W:View} {o:Own} (w:Owns W h o) (hk:o k=none) (hv:SlRd W v l) (hb:l.length≤1000000) :
  aD Tryz.prog N.dg #[v] h (fun u h'=>Owns W h' (o.upd k (it T.dq u l))∧u.oneCell'=true∧(vw h).le (vw h')):=by
 refine ao (args:=[v]) follows F.dg E.dg (Nat.le_of_ble_eq_true (by kernel_rfl)) fun K hK=>?_
 dsimp only [L.dg]
 obtain ⟨a,m,c,rfl,hn⟩:=vf (n:=0) k w hk hv
 refine aa fun z hz=>?_
 simp
 rw [hz];clear hz z
 refine aa fun z hz=>?_
 refine aa fun y hy=>?_
 simp
 refine xF U.iD rfl rfl ?_
 rw [hy];clear hy y
 by_cases ha:a=none
 ·have hl:=hn ha
  subst ha
  subst hl
  simp
  refine hK _ _ ⟨Owns.nils w fun q i hq=>?_,rfl,View.le_refl _⟩
  by_cases e:q=k
  ·subst e;rw [Own.ag] at hq;cases hq;exact .inr ⟨rfl,OwnT.nil (α:=InD) _ h T.dq⟩
  ·rw [Own.ab e] at hq;exact .inl hq
 ·have hi:a.isNone=false:=by cases a<;>simp at ha ⊢
  simp [hi]
  rw [hz];clear hz z
  refine aa fun z hz=>?_
  simp
  refine w.iS (k:=k) (α:=InD) hk El.iD fun v1 h1 hle1 hv1 w1 av1=>?_
  refine Owns.A0 w1 (k:=k) (α:=InD) (v:=v1) (u:=.slice a m c) (l2:=l) Own.ag El.iD (by simp) (by simp) hv (by omega) fun v2 h2 w2 hv2 m2=>?_
  rw [hz];clear hz z
  simp
  refine hK _ _ ⟨w2.congr fun q=>?_,hv2,m2 _ hle1 (av1 _ (View.le_refl _))⟩
  unfold Own.upd;split<;>rfl
theorem nB (k:Key) {v:Value} {l:List Int} {h:Heap} {W:View} {o:Own} (w:Owns W h o) (hk:o k=none) (hv:SlRd W v l) (hb:l.length≤1000000) :
  aD Tryz.prog N.cZ #[v] h (fun u h'=>Owns W h' (o.upd k (it T.int u l))∧u.oneCell'=true∧(vw h).le (vw h')):=by
 refine ao (args:=[v]) follows F.cZ E.cZ (Nat.le_of_ble_eq_true (by kernel_rfl)) fun K hK=>?_
 dsimp only [L.cZ]
 obtain ⟨a,m,c,rfl,hn⟩:=vf (n:=0) k w hk hv
 refine aa fun z hz=>?_
 simp
 rw [hz];clear hz z
 refine aa fun z hz=>?_
 refine aa fun y hy=>?_
 simp
 refine xF U.a8 rfl rfl ?_
 rw [hy];clear hy y
 by_cases ha:a=none
 ·have hl:=hn ha
  subst ha
  subst hl
  simp
  refine hK _ _ ⟨Owns.nils w fun q i hq=>?_,rfl,View.le_refl _⟩
  by_cases e:q=k
  ·subst e;rw [Own.ag] at hq;cases hq;exact .inr ⟨rfl,OwnT.nil (α:=Int) _ h T.int⟩
  ·rw [Own.ab e] at hq;exact .inl hq
 ·have hi:a.isNone=false:=by cases a<;>simp at ha ⊢
  simp [hi]
  rw [hz];clear hz z
  refine aa fun z hz=>?_
  simp
  refine w.iS (k:=k) (α:=Int) hk El.a8 fun v1 h1 hle1 hv1 w1 av1=>?_
  refine Owns.A0 w1 (k:=k) (α:=Int) (v:=v1) (u:=.slice a m c) (l2:=l) Own.ag El.a8 (by simp) (by simp) hv (by omega) fun v2 h2 w2 hv2 m2=>?_
  rw [hz];clear hz z
  simp
  refine hK _ _ ⟨w2.congr fun q=>?_,hv2,m2 _ hle1 (av1 _ (View.le_refl _))⟩
  unfold Own.upd;split<;>rfl
theorem Bo (K:Nat) (k:Key) {p:PhiD} {u:Value} {h:Heap} {W:View} {o:Own} (w:Owns W h o) (hk:o k=none) (hkK:k.1≠K+8) (ht : ∀ i,10≤i→o (K+8,i)=none) (hr:Rd W u p) (hb:p.ins.length≤1000000) :
  aD Tryz.prog N.cT #[u] h (fun r h'=>∃ v,r = .agg #[.int .i64 p.dst,v]∧v.oneCell'=true∧I64 p.dst∧Owns W h' (o.upd k (it T.dq v p.ins))):=by
 refine ao (args:=[u]) follows F.cT E.cT (Nat.le_of_ble_eq_true (by kernel_rfl)) fun Kc hK=>?_
 dsimp only [L.cT]
 obtain ⟨vi,rfl,hd,si⟩:=FU hr
 have k1:k≠(K+8,10):=by rintro rfl;exact hkK rfl
 have k2:k≠(K+8,11):=by rintro rfl;exact hkK rfl
 refine aa fun z hz=>?_
 simp
 refine w.rR (k:=(K+8,10)) (n:=1) (l:=[.int .i64 p.dst,vi]) (ht 10 (by decide)) rfl rfl (by decide) (gz si.cells.2) fun B h1 hle1 w1=>?_
 refine w1.og (k:=(K+8,11)) (n:=1) (z:=.agg #[.int .i64 0,.slice none 0 0]) ((Own.ab (by simp)).trans (ht 11 (by decide))) (by kernel_rfl) rfl (by decide) (by simp [Value.cells,Value.oneCell']) fun h2 q2 w2=>?_
 generalize h1.size=R at w2
 have c1:an (vw h2) ⟨B,1,none⟩=some vi:=w2.raw (k:=(K+8,10)) (e:=T.dB) (n:=1) (by rw [Own.ab (by simp),Own.ag]) (i:=1) (by decide)
 rw [hz];clear hz z
 refine aa fun z hz=>?_
 simp [c1]
 refine af (by kernel_rfl) (zW k w2 (by rw [Own.ab k2,Own.ab k1];exact hk) si hb) ?_
 rintro v h3 ⟨w3,hv,_⟩
 refine w3.cG (k:=(K+8,10)) (n:=1) (i:=1) (e:=T.dB) (B:=B) (l:=[.int .i64 p.dst,vi]) (by rw [Own.ab k1.symm,Own.ab (by simp),Own.ag]) (by decide) (by kernel_rfl) rfl rfl hv fun h4 w4 _=>?_
 rw [hz];clear hz z
 refine aa fun z hz=>?_
 have c2:Un.ev (vw h4) (.au 2) (.pointer (some ⟨B,0,none⟩))=some (.agg #[.int .i64 p.dst,v]):=w4.gD (k:=(K+8,10)) (n:=1) Own.ag
 simp [c2]
 refine w4.jQ (k:=(K+8,11)) (e:=T.dB) (B:=R) (D:=RawN.mk (n:=1) [.int .i64 0,.slice none 0 0]) Part.all (d:=RawN.mk (n:=1) [.int .i64 p.dst,v]) (by rw [Own.ab (by simp),Own.ab k2.symm,Own.ag];rfl) (by kernel_rfl) rfl rfl (iG rfl (gz hv)) fun h5 w5 _=>?_
 have c3:Un.ev (vw h5) (.au 2) (.pointer (some ⟨R,0,none⟩))=some (.agg #[.int .i64 p.dst,v]):=w5.gD (k:=(K+8,11)) (n:=1) Own.ag
 rw [hz];clear hz z
 simp [c3]
 refine hK _ _ ⟨v,rfl,hv,hd,Owns.past w5 (P:=fun q=>q=(K+8,10)∨q=(K+8,11)) (fun q hq=>?_) fun q hq=>?_⟩
 ·have e1:q≠(K+8,10):=fun e=>hq (.inl e)
  have e2:q≠(K+8,11):=fun e=>hq (.inr e)
  rw [Own.ab e2,Own.ab e1]
  unfold Own.upd
  split
  ·rfl
  ·rfl
 ·rcases hq with rfl | rfl
  ·rw [Own.ab k1.symm];exact ht 10 (by decide)
  ·rw [Own.ab k2.symm];exact ht 11 (by decide)
theorem Bs (K:Nat) (k:Key) {p:InsD} {u:Value} {h:Heap} {W:View} {o:Own} (w:Owns W h o) (hk:o k=none) (hkK:k.1≠K+8) (ht : ∀ i,10≤i→o (K+8,i)=none) (hr:Rd W u p) (hb:p.args.length≤1000000) :
  aD Tryz.prog N.cU #[u] h (fun r h'=>∃ v,r = .agg #[.int .i64 p.op,.int .i64 p.dst,.int .i64 p.two,v,.int .i32 p.imm.v]∧v.oneCell'=true∧(I64 p.op∧I64 p.dst∧I64 p.two∧-2147483648≤p.imm.v∧p.imm.v≤2147483647)∧Owns W h' (o.upd k (it T.int v p.args))):=by
 refine ao (args:=[u]) follows F.cU E.cU (Nat.le_of_ble_eq_true (by kernel_rfl)) fun Kc hK=>?_
 dsimp only [L.cU]
 obtain ⟨vi,rfl,hd,si⟩:=A5 hr
 have k1:k≠(K+8,10):=by rintro rfl;exact hkK rfl
 have k2:k≠(K+8,11):=by rintro rfl;exact hkK rfl
 have five : ∀ {v:Value},v.oneCell'=true→∀ c∈[Value.int .i64 p.op,.int .i64 p.dst,.int .i64 p.two,v,.int .i32 p.imm.v],c.oneCell'=true:=fun hv c hc=>by
  simp only [List.mem_cons,List.not_mem_nil,or_false] at hc
  rcases hc with rfl | rfl | rfl | rfl | rfl<;>first | rfl | exact hv
 refine aa fun z hz=>?_
 simp
 refine w.rR (k:=(K+8,10)) (n:=4) (l:=[.int .i64 p.op,.int .i64 p.dst,.int .i64 p.two,vi,.int .i32 p.imm.v]) (ht 10 (by decide)) rfl rfl (by decide) (five si.cells.2) fun B h1 hle1 w1=>?_
 refine w1.og (k:=(K+8,11)) (n:=4) (z:=.agg #[.int .i64 0,.int .i64 0,.int .i64 0,.slice none 0 0,.int .i32 0]) ((Own.ab (by simp)).trans (ht 11 (by decide))) (by kernel_rfl) rfl (by decide) (by simp [Value.cells,Value.oneCell']) fun h2 q2 w2=>?_
 generalize h1.size=R at w2
 have c1:an (vw h2) ⟨B,3,none⟩=some vi:=w2.raw (k:=(K+8,10)) (e:=T.dm) (n:=4) (by rw [Own.ab (by simp),Own.ag]) (i:=3) (by decide)
 rw [hz];clear hz z
 refine aa fun z hz=>?_
 simp [c1]
 refine af (by kernel_rfl) (nB k w2 (by rw [Own.ab k2,Own.ab k1];exact hk) si hb) ?_
 rintro v h3 ⟨w3,hv,_⟩
 refine w3.cG (k:=(K+8,10)) (n:=4) (i:=3) (e:=T.dm) (B:=B) (l:=[.int .i64 p.op,.int .i64 p.dst,.int .i64 p.two,vi,.int .i32 p.imm.v]) (by rw [Own.ab k1.symm,Own.ab (by simp),Own.ag]) (by decide) (by kernel_rfl) rfl rfl hv fun h4 w4 _=>?_
 rw [hz];clear hz z
 refine aa fun z hz=>?_
 have c2:Un.ev (vw h4) (.au 5) (.pointer (some ⟨B,0,none⟩))=some (.agg #[.int .i64 p.op,.int .i64 p.dst,.int .i64 p.two,v,.int .i32 p.imm.v]):=w4.gD (k:=(K+8,10)) (n:=4) Own.ag
 simp [c2]
 refine w4.jQ (k:=(K+8,11)) (e:=T.dm) (B:=R) (D:=RawN.mk (n:=4) [.int .i64 0,.int .i64 0,.int .i64 0,.slice none 0 0,.int .i32 0]) Part.all (d:=RawN.mk (n:=4) [.int .i64 p.op,.int .i64 p.dst,.int .i64 p.two,v,.int .i32 p.imm.v]) (by rw [Own.ab (by simp),Own.ab k2.symm,Own.ag];rfl) (by kernel_rfl) rfl rfl (iG rfl (five hv)) fun h5 w5 _=>?_
 have c3:Un.ev (vw h5) (.au 5) (.pointer (some ⟨R,0,none⟩))=some (.agg #[.int .i64 p.op,.int .i64 p.dst,.int .i64 p.two,v,.int .i32 p.imm.v]):=w5.gD (k:=(K+8,11)) (n:=4) Own.ag
 rw [hz];clear hz z
 simp [c3]
 refine hK _ _ ⟨v,rfl,hv,hd,Owns.past w5 (P:=fun q=>q=(K+8,10)∨q=(K+8,11)) (fun q hq=>?_) fun q hq=>?_⟩
 ·have e1:q≠(K+8,10):=fun e=>hq (.inl e)
  have e2:q≠(K+8,11):=fun e=>hq (.inr e)
  rw [Own.ab e2,Own.ab e1]
  unfold Own.upd
  split
  ·rfl
  ·rfl
 ·rcases hq with rfl | rfl
  ·rw [Own.ab k1.symm];exact ht 10 (by decide)
  ·rw [Own.ab k2.symm];exact ht 11 (by decide)
end Go.Proofs.YtbkdlhkoiagbbaaGreat
namespace Go.Proofs.YtbkdlhkoiagbbaaGreat
open Go Go.Lft
structure CpP (K b:Nat) (o o':Own) (u:Value) (pin:Nat→Value) (l:List PhiD):Prop where
 phs:PhsO K o' b u pin l
 fr : ∀ k,k≠(K+1,b)→(∀ i,k≠(K+5,pr b i))→o' k=o k
 fp : ∀ i,l.length≤i→o' (K+5,pr b i)=none
structure CpI (K b:Nat) (o o':Own) (u:Value) (iar:Nat→Value) (l:List InsD):Prop where
 ins:InsO K o' b u iar l
 fr : ∀ k,k≠(K+2,b)→(∀ i,k≠(K+6,pr b i))→o' k=o k
 fi : ∀ i,l.length≤i→o' (K+6,pr b i)=none
section
variable {K b:Nat} {o o' o2:Own} {u u' v:Value} {pin iar:Nat→Value}
theorem CpP.push {l:List PhiD} {p:PhiD} (c:CpP K b o o' u pin l) (ho : ∀ k,o2 k=((o'.upd (K+5,pr b l.length) (it T.dq v p.ins)).upd (K+1,b) (it T.dB u' (rows (phR pin l) l.length++[⟨p.dst,⟨v⟩⟩]))) k):CpP K b o o2 u' (fun i=>if i=l.length then v else pin i) (l++[p]):=by
 refine ⟨c.phs.push ?_ ?_ fun i hi=>?_,fun k h1 h2=>?_,fun i hi=>?_⟩
 ·rw [ho,Own.ag]
 ·rw [ho,Own.ab (by simp),Own.ag]
 ·rw [ho,Own.ab (by simp),Own.ab (by simp [yB];omega)]
 ·rw [ho,Own.ab h1,Own.ab (h2 _)];exact c.fr k h1 h2
 ·rw [List.length_append,List.length_singleton] at hi
  rw [ho,Own.ab (by simp),Own.ab (by simp [yB];omega)];exact c.fp i (by omega)
theorem CpI.push {l:List InsD} {p:InsD} (c:CpI K b o o' u iar l) (ho : ∀ k,o2 k=((o'.upd (K+6,pr b l.length) (it T.int v p.args)).upd (K+2,b) (it T.dm u' (rows (inR iar l) l.length++[⟨p.op,p.dst,p.two,⟨v⟩,p.imm⟩]))) k):CpI K b o o2 u' (fun i=>if i=l.length then v else iar i) (l++[p]):=by
 refine ⟨c.ins.push ?_ ?_ fun i hi=>?_,fun k h1 h2=>?_,fun i hi=>?_⟩
 ·rw [ho,Own.ag]
 ·rw [ho,Own.ab (by simp),Own.ag]
 ·rw [ho,Own.ab (by simp),Own.ab (by simp [yB];omega)]
 ·rw [ho,Own.ab h1,Own.ab (h2 _)];exact c.fr k h1 h2
 ·rw [List.length_append,List.length_singleton] at hi
  rw [ho,Own.ab (by simp),Own.ab (by simp [yB];omega)];exact c.fi i (by omega)
end
theorem sK {α:Type} [Inhabited α] {l:List α} {k:Nat} (h:k<l.length):l.take (k+1)=l.take k++[nth l k]:=by
 rw [List.take_succ_eq_append_getElem h,ak h]
theorem wN (K b:Nat) {l:List PhiD} {v:Value} {h:Heap} {W:View} {o:Own} (w:Owns W h o) (hn : ∀ k,OfB K b k→o k=none) (ht : ∀ k:Key,k.1=K+8→o k=none) (hs:SlRd W v l) (hl:l.length≤10000) (hp : ∀ i,i<l.length→(nth l i).ins.length≤10000) :
  aD Tryz.prog N.cj #[v,.func (.func N.cT) #[] #[]] h (fun u h'=>∃ o' pin,Owns W h' o'∧CpP K b o o' u pin l):=by
 refine ao (args:=[v,.func (.func N.cT) #[] #[]]) follows F.cj E.cj (Nat.le_of_ble_eq_true (by kernel_rfl)) fun Kc hK=>?_
 dsimp only [L.cj]
 refine aa fun z hz=>?_
 simp
 rw [hz];clear hz z
 refine aa fun z hz=>?_
 simp
 rw [hz];clear hz z
 refine aa fun z hz=>?_
 have s0:=hs.mono w.wle
 simp [s0.len]
 have w1:=Owns.nils w (o':=o.upd (K+1,b) (it T.dB (.slice none 0 0) ([]:List PhO))) (fun q i hq=>by
  by_cases e:q=(K+1,b)
  ·subst e;rw [Own.ag] at hq;cases hq;exact .inr ⟨rfl,OwnT.nil (α:=PhO) _ h T.dB⟩
  ·rw [Own.ab e] at hq;exact .inl hq)
 have c1:CpP K b o (o.upd (K+1,b) (it T.dB (.slice none 0 0) ([]:List PhO))) (.slice none 0 0) (fun _=>.slice none 0 0) (l.take 0):=
  ⟨⟨Own.ag,fun i hi=>absurd hi (Nat.not_lt_zero _)⟩,fun k h1 _=>Own.ab h1,fun i _=>(Own.ab (by simp)).trans (hn _ ofB5)⟩
 refine aV [1,5,8,9,10] (fun (u:Value) k=>[.func (.func N.cT) #[] #[],u,v,.int .i64 l.length,.int .i64 k]) (fun u k h2=>∃ o' pin,Owns W h2 o'∧CpP K b o o' u pin (l.take k)) l.length (.slice none 0 0)
  rfl (by omega) rfl ⟨_,_,w1,c1⟩ (fun _ _=>rfl) (fun u k h2 hk _=>by simp) ?_ ?_
 ·rintro u k h2 hk ⟨o2,pin,w2,c2⟩ K2 hK2
  have hlk:(l.take k).length=k:=by rw [List.length_take];omega
  have s2:=hs.mono w2.wle
  have ht2 : ∀ q:Key,q.1=K+8→o2 q=none:=fun q hq=>by
   rw [c2.fr q (by rintro rfl;simp at hq) (fun i=>by rintro rfl;simp at hq)];exact ht q hq
  obtain ⟨ux,hux,rux⟩:=hs.wh rfl (N:=2) rfl hk
  refine aa fun y hy=>?_
  simp (disch:=omega) [s2.idxn (N:=2) rfl,hux _ w2.wle]
  refine w2.ox (k:=(K+8,1)) (α:=PhiD) (n:=2) (ht2 _ rfl) rux rfl (z:=.agg #[.int .i64 0,.slice none 0 0]) (by kernel_rfl) rfl (by kernel_rfl) (by decide) (fun _=>by simp) (fun _=>by simp) fun h3 q3 w3=>?_
  generalize h2.size=X at w3
  obtain ⟨uy,huy,ruy⟩:=Owns.ldW w3 (k:=(K+8,1)) (v:=.slice (some ⟨X,0,none⟩) 1 1) (l:=[nth l k]) Own.ag rfl (N:=2) rfl (i:=0) (by simp)
  have huy:Un.ev (vw h3) (.au 2) (.pointer (some ⟨X,0,none⟩))=some uy:=by simpa [slA] using huy
  have ruy:Rd W uy (nth l k):=ruy
  rw [hy];clear hy y
  simp [huy]
  refine iV (ops:=[.tmp 16]) rfl (by kernel_rfl) (Bo K (K+5,pr b k) w3 ((Own.ab (by simp)).trans (c2.fp k (by omega))) (by simp) (fun i hi=>(Own.ab (by simp;omega)).trans (ht2 _ rfl)) ruy (by have:=hp k hk;omega)) ?_
  rintro _ h4 ⟨vn,rfl,hvn,hd,w4⟩
  refine w4.gM (k:=(K+1,b)) (α:=PhO) (v:=u) (l:=rows (phR pin (l.take k)) (l.take k).length) (d:=⟨(nth l k).dst,⟨vn⟩⟩) (by rw [Own.ab (by simp),Own.ab (by simp)];exact c2.phs.row) El.ka rfl (GG hd hvn) (by simp;omega) (by simp;omega) (fun _=>rfl) (fun _=>rfl) fun u5 v5 h5 w5 _=>?_
  refine hK2 v5 _ _ rfl rfl ⟨_,_,Owns.past w5 (o':=(o2.upd (K+5,pr b (l.take k).length) (it T.dq vn (nth l k).ins)).upd (K+1,b) (it T.dB v5 (rows (phR pin (l.take k)) (l.take k).length++[⟨(nth l k).dst,⟨vn⟩⟩]))) (P:=fun q=>q=(K+8,1)) (fun q hq=>?_) fun q hq=>?_,by rw [sK hk];exact c2.push fun _=>rfl⟩
  ·rw [hlk]
   by_cases e1:q=(K+1,b)
   ·subst e1;rw [Own.ag,Own.ag]
   rw [Own.ab e1,Own.ab e1]
   by_cases e2:q=(K+5,pr b k)
   ·subst e2;rw [Own.ag,Own.ag]
   rw [Own.ab e2,Own.ab e2,Own.ab hq]
  ·subst hq
   rw [Own.ab (by simp),Own.ab (by simp)];exact ht2 _ rfl
 ·rintro u h2 ⟨o2,pin,w2,c2⟩
  rw [List.take_length] at c2
  rw [bH,hz];clear hz z
  simp
  exact hK _ _ ⟨o2,pin,w2,c2⟩
theorem xe (K b:Nat) {l:List InsD} {v:Value} {h:Heap} {W:View} {o:Own} (w:Owns W h o) (hn : ∀ i,o (K+6,pr b i)=none) (ht : ∀ k:Key,k.1=K+8→o k=none) (hs:SlRd W v l) (hl:l.length≤10000) (hp : ∀ i,i<l.length→(nth l i).args.length≤10000) :
  aD Tryz.prog N.b6 #[v,.func (.func N.cU) #[] #[]] h (fun u h'=>∃ o' iar,Owns W h' o'∧CpI K b o o' u iar l):=by
 refine ao (args:=[v,.func (.func N.cU) #[] #[]]) follows F.b6 E.b6 (Nat.le_of_ble_eq_true (by kernel_rfl)) fun Kc hK=>?_
 dsimp only [L.b6]
 refine aa fun z hz=>?_
 simp
 rw [hz];clear hz z
 refine aa fun z hz=>?_
 simp
 rw [hz];clear hz z
 refine aa fun z hz=>?_
 have s0:=hs.mono w.wle
 simp [s0.len]
 have w1:=Owns.nils w (o':=o.upd (K+2,b) (it T.dm (.slice none 0 0) ([]:List InO))) (fun q i hq=>by
  by_cases e:q=(K+2,b)
  ·subst e;rw [Own.ag] at hq;cases hq;exact .inr ⟨rfl,OwnT.nil (α:=InO) _ h T.dm⟩
  ·rw [Own.ab e] at hq;exact .inl hq)
 have c1:CpI K b o (o.upd (K+2,b) (it T.dm (.slice none 0 0) ([]:List InO))) (.slice none 0 0) (fun _=>.slice none 0 0) (l.take 0):=
  ⟨⟨Own.ag,fun i hi=>absurd hi (Nat.not_lt_zero _)⟩,fun k h1 _=>Own.ab h1,fun i _=>(Own.ab (by simp)).trans (hn i)⟩
 refine aV [1,5,8,9,10] (fun (u:Value) k=>[.func (.func N.cU) #[] #[],u,v,.int .i64 l.length,.int .i64 k]) (fun u k h2=>∃ o' iar,Owns W h2 o'∧CpI K b o o' u iar (l.take k)) l.length (.slice none 0 0)
  rfl (by omega) rfl ⟨_,_,w1,c1⟩ (fun _ _=>rfl) (fun u k h2 hk _=>by simp) ?_ ?_
 ·rintro u k h2 hk ⟨o2,iar,w2,c2⟩ K2 hK2
  have hlk:(l.take k).length=k:=by rw [List.length_take];omega
  have s2:=hs.mono w2.wle
  have ht2 : ∀ q:Key,q.1=K+8→o2 q=none:=fun q hq=>by
   rw [c2.fr q (by rintro rfl;simp at hq) (fun i=>by rintro rfl;simp at hq)];exact ht q hq
  obtain ⟨ux,hux,rux⟩:=hs.wh rfl (N:=5) rfl hk
  refine aa fun y hy=>?_
  simp (disch:=omega) [s2.idxn (N:=5) rfl,hux _ w2.wle]
  refine w2.ox (k:=(K+8,1)) (α:=InsD) (n:=5) (ht2 _ rfl) rux rfl (z:=.agg #[.int .i64 0,.int .i64 0,.int .i64 0,.slice none 0 0,.int .i32 0]) (by kernel_rfl) rfl (by kernel_rfl) (by decide) (fun _=>by simp) (fun _=>by simp) fun h3 q3 w3=>?_
  generalize h2.size=X at w3
  obtain ⟨uy,huy,ruy⟩:=Owns.ldW w3 (k:=(K+8,1)) (v:=.slice (some ⟨X,0,none⟩) 1 1) (l:=[nth l k]) Own.ag rfl (N:=5) rfl (i:=0) (by simp)
  have huy:Un.ev (vw h3) (.au 5) (.pointer (some ⟨X,0,none⟩))=some uy:=by simpa [slA] using huy
  have ruy:Rd W uy (nth l k):=ruy
  rw [hy];clear hy y
  simp [huy]
  refine iV (ops:=[.tmp 16]) rfl (by kernel_rfl) (Bs K (K+6,pr b k) w3 ((Own.ab (by simp)).trans (c2.fi k (by omega))) (by simp) (fun i hi=>(Own.ab (by simp;omega)).trans (ht2 _ rfl)) ruy (by have:=hp k hk;omega)) ?_
  rintro _ h4 ⟨vn,rfl,hvn,hd,w4⟩
  refine w4.gM (k:=(K+2,b)) (α:=InO) (v:=u) (l:=rows (inR iar (l.take k)) (l.take k).length) (d:=⟨(nth l k).op,(nth l k).dst,(nth l k).two,⟨vn⟩,(nth l k).imm⟩) (by rw [Own.ab (by simp),Own.ab (by simp)];exact c2.ins.row) El.lL rfl (Hl hd hvn) (by simp;omega) (by simp;omega) (fun _=>rfl) (fun _=>rfl) fun u5 v5 h5 w5 _=>?_
  refine hK2 v5 _ _ rfl rfl ⟨_,_,Owns.past w5 (o':=(o2.upd (K+6,pr b (l.take k).length) (it T.int vn (nth l k).args)).upd (K+2,b) (it T.dm v5 (rows (inR iar (l.take k)) (l.take k).length++[⟨(nth l k).op,(nth l k).dst,(nth l k).two,⟨vn⟩,(nth l k).imm⟩]))) (P:=fun q=>q=(K+8,1)) (fun q hq=>?_) fun q hq=>?_,by rw [sK hk];exact c2.push fun _=>rfl⟩
  ·rw [hlk]
   by_cases e1:q=(K+2,b)
   ·subst e1;rw [Own.ag,Own.ag]
   rw [Own.ab e1,Own.ab e1]
   by_cases e2:q=(K+6,pr b k)
   ·subst e2;rw [Own.ag,Own.ag]
   rw [Own.ab e2,Own.ab e2,Own.ab hq]
  ·subst hq
   rw [Own.ab (by simp),Own.ab (by simp)];exact ht2 _ rfl
 ·rintro u h2 ⟨o2,iar,w2,c2⟩
  rw [List.take_length] at c2
  rw [bH,hz];clear hz z
  simp
  exact hK _ _ ⟨o2,iar,w2,c2⟩
end Go.Proofs.YtbkdlhkoiagbbaaGreat
namespace Go.Proofs.YtbkdlhkoiagbbaaGreat
open Go Go.Lft
theorem uH {a b c d:Value} {k i:Int} (ha:a.oneCell'=true) (hb:b.oneCell'=true) (hc:c.oneCell'=true) (hd:d.oneCell'=true) : ∀ x∈[a,b,Value.int .i64 k,c,d,.int .i32 i],x.oneCell'=true:=by
 intro x hx
 simp only [List.mem_cons,List.not_mem_nil,or_false] at hx
 rcases hx with rfl | rfl | rfl | rfl | rfl | rfl<;>first | rfl | assumption
theorem Cx (K b:Nat) {x:BlkD} {u:Value} {h:Heap} {W:View} {o:Own} (w:Owns W h o) (hn : ∀ k,OfB K b k→o k=none) (ht : ∀ k:Key,k.1=K+8→o k=none) (h9 : ∀ i,10≤i→o (K+9,i)=none) (hr:Rd W u x) (sm:SmB x) :
  aD Tryz.prog N.dM #[u] h (fun r h'=>∃ o' V,r = .agg #[V.p,V.i,.int .i64 x.term.kind,V.a,V.t,.int .i32 x.term.imm.v]∧V.p.oneCell'=true∧V.i.oneCell'=true∧V.a.oneCell'=true∧V.t.oneCell'=true∧I64 x.term.kind∧(-2147483648≤x.term.imm.v∧x.term.imm.v≤2147483647)∧Owns W h' o'∧BO K o' b V x∧∀ k,¬OfB K b k→o' k=o k):=by
 refine ao (args:=[u]) follows F.dM E.dM (Nat.le_of_ble_eq_true (by kernel_rfl)) fun Kc hK=>?_
 dsimp only [L.dM]
 obtain ⟨vp,vi,va,vt,rfl,sp,si,sa,st,ik,im⟩:=EK hr
 have far : ∀ {k:Key} {i:Nat},OfB K b k→k≠(K+9,i):=fun h e=>by have:=gZ h;rw [e] at this;simp at this
 refine aa fun z hz=>?_
 simp
 refine w.rR (k:=(K+9,10)) (n:=5) (l:=[vp,vi,.int .i64 x.term.kind,va,vt,.int .i32 x.term.imm.v]) (h9 10 (by decide)) rfl rfl (by decide) (uH sp.cells.2 si.cells.2 sa.cells.2 st.cells.2) fun B h1 hle1 w1=>?_
 refine w1.og (k:=(K+9,11)) (n:=5) (z:=.agg #[.slice none 0 0,.slice none 0 0,.int .i64 0,.slice none 0 0,.slice none 0 0,.int .i32 0]) ((Own.ab (by simp)).trans (h9 11 (by decide))) (by kernel_rfl) rfl (by decide) (by simp [Value.cells,Value.oneCell']) fun h2 q2 w2=>?_
 generalize h1.size=R at w2
 obtain ⟨o2,ho2⟩ : ∃ o2,o2=(o.upd (K+9,10) (bx T.aX B (RawN.mk (n:=5) [vp,vi,.int .i64 x.term.kind,va,vt,.int .i32 x.term.imm.v]))).upd (K+9,11) (bx T.aX R (RawN.mk (n:=5) [.slice none 0 0,.slice none 0 0,.int .i64 0,.slice none 0 0,.slice none 0 0,.int .i32 0])):=⟨_,rfl⟩
 have w2:Owns W h2 o2:=by rw [ho2];exact w2
 have bB:o2 (K+9,10)=bx T.aX B (RawN.mk (n:=5) [vp,vi,.int .i64 x.term.kind,va,vt,.int .i32 x.term.imm.v]):=by rw [ho2,Own.ab (by simp),Own.ag]
 have bR:o2 (K+9,11)=bx T.aX R (RawN.mk (n:=5) [.slice none 0 0,.slice none 0 0,.int .i64 0,.slice none 0 0,.slice none 0 0,.int .i32 0]):=by rw [ho2,Own.ag]
 have bO : ∀ k,k≠(K+9,10)→k≠(K+9,11)→o2 k=o k:=fun k e1 e2=>by rw [ho2,Own.ab e2,Own.ab e1]
 clear ho2 w1
 have c0:an (vw h2) ⟨B,0,none⟩=some vp:=w2.raw (k:=(K+9,10)) (n:=5) bB (i:=0) (by decide)
 rw [hz];clear hz z
 refine aa fun z hz=>?_
 simp [c0]
 refine af (by kernel_rfl) (wN K b w2 (fun k hk=>by rw [bO k (far hk) (far hk)];exact hn k hk) (fun k hk=>by rw [bO k (by rintro rfl;simp at hk) (by rintro rfl;simp at hk)];exact ht k hk) sp sm.phis sm.phi) ?_
 rintro u3 h3 ⟨o3,pin,w3,cp⟩
 have hu3:=(w3.cells cp.phs.row).2
 have n1 : ∀ i,(K+9,i)≠(K+1,b):=fun i=>by simp
 have n5 : ∀ i j,(K+9,i)≠(K+5,pr b j):=fun i j=>by simp
 refine w3.cG (k:=(K+9,10)) (n:=5) (i:=0) (e:=T.aX) (B:=B) (l:=[vp,vi,.int .i64 x.term.kind,va,vt,.int .i32 x.term.imm.v]) (by rw [cp.fr _ (n1 _) (n5 _)];exact bB) (by decide) (by kernel_rfl) rfl rfl hu3 fun h4 w4 _=>?_
 have c1:an (vw h4) ⟨B,1,none⟩=some vi:=w4.raw (k:=(K+9,10)) (n:=5) Own.ag (i:=1) (by decide)
 rw [hz];clear hz z
 refine aa fun z hz=>?_
 simp [c1]
 refine af (by kernel_rfl) (xe K b w4 (fun i=>by rw [Own.ab (by simp),cp.fr _ (by simp) (fun j=>by simp),bO _ (by simp) (by simp)];exact hn _ ofB6) (fun k hk=>by rw [Own.ab (by rintro rfl;simp at hk),cp.fr _ (by rintro rfl;simp at hk) (fun i=>by rintro rfl;simp at hk),bO _ (by rintro rfl;simp at hk) (by rintro rfl;simp at hk)];exact ht k hk) si sm.ins sm.inn) ?_
 rintro u5 h5 ⟨o5,iar,w5,ci⟩
 have hu5:=(w5.cells ci.ins.row).2
 have n2 : ∀ i,(K+9,i)≠(K+2,b):=fun i=>by simp
 have n6 : ∀ i j,(K+9,i)≠(K+6,pr b j):=fun i j=>by simp
 refine w5.cG (k:=(K+9,10)) (n:=5) (i:=1) (e:=T.aX) (B:=B) (l:=[u3,vi,.int .i64 x.term.kind,va,vt,.int .i32 x.term.imm.v]) (by rw [ci.fr _ (n2 _) (n6 _),Own.ag];rfl) (by decide) (by kernel_rfl) rfl rfl hu5 fun h6 w6 _=>?_
 have c3:an (vw h6) ⟨B,3,none⟩=some va:=w6.raw (k:=(K+9,10)) (n:=5) Own.ag (i:=3) (by decide)
 have c4:an (vw h6) ⟨B,4,none⟩=some vt:=w6.raw (k:=(K+9,10)) (n:=5) Own.ag (i:=4) (by decide)
 have e3:o5 (K+3,b)=none:=by rw [ci.fr _ (by simp) (fun j=>by simp),Own.ab (by simp),cp.fr _ (by simp) (fun j=>by simp),bO _ (by simp) (by simp)];exact hn _ ofB3
 have e4:o5 (K+4,b)=none:=by rw [ci.fr _ (by simp) (fun j=>by simp),Own.ab (by simp),cp.fr _ (by simp) (fun j=>by simp),bO _ (by simp) (by simp)];exact hn _ ofB4
 have hR5:o5 (K+9,11)=bx T.aX R (RawN.mk (n:=5) [.slice none 0 0,.slice none 0 0,.int .i64 0,.slice none 0 0,.slice none 0 0,.int .i32 0]):=by rw [ci.fr _ (n2 _) (n6 _),Own.ab (by simp),cp.fr _ (n1 _) (n5 _)];exact bR
 rw [hz];clear hz z
 refine aa fun z hz=>?_
 refine cM (vw h6) (View.le_refl _) ?_
 simp [c3,c4]
 refine af (by kernel_rfl) (nB (K+3,b) w6 (by rw [Own.ab (by simp)];exact e3) sa (by have:=sm.args;omega)) ?_
 rintro ua h7 ⟨w7,hua,hle7⟩
 refine ⟨hle7,?_⟩
 refine af (by kernel_rfl) (nB (K+4,b) w7 (by rw [Own.ab (by simp),Own.ab (by simp)];exact e4) st (by have:=sm.to;omega)) ?_
 rintro ut h8 ⟨w8,hut,hle8⟩
 refine w8.cG (k:=(K+9,10)) (n:=5) (i:=3) (e:=T.aX) (B:=B) (l:=[u3,u5,.int .i64 x.term.kind,va,vt,.int .i32 x.term.imm.v]) (by rw [Own.ab (by simp),Own.ab (by simp),Own.ag];rfl) (by decide) (by kernel_rfl) rfl rfl hua fun h9' w9 _=>?_
 refine w9.cG (k:=(K+9,10)) (n:=5) (i:=4) (e:=T.aX) (B:=B) (l:=[u3,u5,.int .i64 x.term.kind,ua,vt,.int .i32 x.term.imm.v]) (by rw [Own.ag];rfl) (by decide) (by kernel_rfl) rfl rfl hut fun h10 w10 _=>?_
 have c6:Un.ev (vw h10) (.au 6) (.pointer (some ⟨B,0,none⟩))=some (.agg #[u3,u5,.int .i64 x.term.kind,ua,ut,.int .i32 x.term.imm.v]):=w10.gD (k:=(K+9,10)) (n:=5) Own.ag
 rw [hz];clear hz z
 refine aa fun z hz=>?_
 simp [c6]
 refine w10.jQ (k:=(K+9,11)) (e:=T.aX) (B:=R) (D:=RawN.mk (n:=5) [.slice none 0 0,.slice none 0 0,.int .i64 0,.slice none 0 0,.slice none 0 0,.int .i32 0]) Part.all (d:=RawN.mk (n:=5) [u3,u5,.int .i64 x.term.kind,ua,ut,.int .i32 x.term.imm.v]) (by rw [Own.ab (by simp),Own.ab (by simp),Own.ab (by simp),Own.ab (by simp),Own.ab (by simp)];exact hR5) (by kernel_rfl) rfl rfl (iG rfl (uH hu3 hu5 hua hut)) fun h11 w11 _=>?_
 have c7:Un.ev (vw h11) (.au 6) (.pointer (some ⟨R,0,none⟩))=some (.agg #[u3,u5,.int .i64 x.term.kind,ua,ut,.int .i32 x.term.imm.v]):=w11.gD (k:=(K+9,11)) (n:=5) Own.ag
 rw [hz];clear hz z
 simp [c7]
 obtain ⟨oF,f1,f2,f3,f4⟩ : ∃ oF:Own,(∀ k,(k=(K+9,10)∨k=(K+9,11))→oF k=none)∧oF (K+3,b)=it T.int ua x.term.args∧oF (K+4,b)=it T.int ut x.term.to∧∀ k,¬(k=(K+9,10)∨k=(K+9,11))→k≠(K+3,b)→k≠(K+4,b)→oF k=o5 k:=
  ⟨fun k=>if k=(K+9,10)∨k=(K+9,11) then none else if k=(K+3,b) then it T.int ua x.term.args else if k=(K+4,b) then it T.int ut x.term.to else o5 k,
   fun k hk=>if_pos hk,(if_neg (by simp)).trans (if_pos rfl),(if_neg (by simp)).trans ((if_neg (by simp)).trans (if_pos rfl)),fun k h1 h2 h3=>(if_neg h1).trans ((if_neg h2).trans (if_neg h3))⟩
 have nf : ∀ {k},OfB K b k→¬(k=(K+9,10)∨k=(K+9,11)):=fun h e=>by rcases e with e | e<;>exact far h e
 refine hK _ _ ⟨oF,⟨u3,u5,ua,ut,pin,iar⟩,rfl,hu3,hu5,hua,hut,ik,im,Owns.past w11 (P:=fun k=>k=(K+9,10)∨k=(K+9,11)) (fun k hk=>?_) f1,?_,fun k hk=>?_⟩
 ·have h1:k≠(K+9,10):=fun e=>hk (.inl e)
  have h2:k≠(K+9,11):=fun e=>hk (.inr e)
  rw [Own.ab h2,Own.ab h1,Own.ab h1]
  by_cases e4:k=(K+4,b)
  ·subst e4;rw [Own.ag,f3]
  rw [Own.ab e4]
  by_cases e3:k=(K+3,b)
  ·subst e3;rw [Own.ag,f2]
  rw [Own.ab e3,Own.ab h1,f4 k hk e3 e4]
 ·refine BO.of (p:=x.phis) (i:=x.ins) (t:=x.term) ⟨?_,fun i hi=>?_⟩ ⟨?_,fun i hi=>?_⟩ f2 f3
  ·rw [f4 _ (nf ofB1) (by simp) (by simp),ci.fr _ (by simp) (fun j=>by simp),Own.ab (by simp)];exact cp.phs.row
  ·rw [f4 _ (nf ofB5) (by simp) (by simp),ci.fr _ (by simp) (fun j=>by simp),Own.ab (by simp)];exact cp.phs.pin i hi
  ·rw [f4 _ (nf ofB2) (by simp) (by simp)];exact ci.ins.row
  ·rw [f4 _ (nf ofB6) (by simp) (by simp)];exact ci.ins.iar i hi
 ·by_cases e:k=(K+9,10)∨k=(K+9,11)
  ·rw [f1 k e]
   rcases e with rfl | rfl
   ·exact (h9 10 (by decide)).symm
   ·exact (h9 11 (by decide)).symm
  ·rw [f4 k e (by rintro rfl;exact hk ofB3) (by rintro rfl;exact hk ofB4),ci.fr k (by rintro rfl;exact hk ofB2) (fun j=>by rintro rfl;exact hk ofB6),Own.ab (fun q=>e (.inl q)),cp.fr k (by rintro rfl;exact hk ofB1) (fun j=>by rintro rfl;exact hk ofB5),bO k (fun q=>e (.inl q)) (fun q=>e (.inr q))]
end Go.Proofs.YtbkdlhkoiagbbaaGreat
namespace Go.Proofs.YtbkdlhkoiagbbaaGreat
open Go Go.Lft
structure CpB (K:Nat) (o o':Own) (u:Value) (V:Nat→Bv) (ps:Int) (l:List BlkD):Prop where
 fno:FnO K o' u V ⟨ps,l⟩
 fr : ∀ k:Key,(k.1<K∨K+6<k.1)→o' k=o k
 free : ∀ b,l.length≤b→∀ k,OfB K b k→o' k=none
theorem wC (K:Nat) (ps:Int) {l:List BlkD} {v:Value} {h:Heap} {W:View} {o:Own} (w:Owns W h o) (hn : ∀ k:Key,K≤k.1→k.1≤K+6→o k=none) (ht : ∀ k:Key,k.1=K+8→o k=none) (h9 : ∀ k:Key,k.1=K+9→o k=none) (hs:SlRd W v l) (hl:l.length≤10000) (hp : ∀ i,i<l.length→SmB (nth l i)) :
  aD Tryz.prog N.bF #[v,.func (.func N.dM) #[] #[]] h (fun u h'=>∃ o' V,Owns W h' o'∧CpB K o o' u V ps l):=by
 refine ao (args:=[v,.func (.func N.dM) #[] #[]]) follows F.bF E.bF (Nat.le_of_ble_eq_true (by kernel_rfl)) fun Kc hK=>?_
 dsimp only [L.bF]
 refine aa fun z hz=>?_
 simp
 rw [hz];clear hz z
 refine aa fun z hz=>?_
 simp
 rw [hz];clear hz z
 refine aa fun z hz=>?_
 have s0:=hs.mono w.wle
 simp [s0.len]
 have w1:=Owns.nils w (o':=o.upd (K,0) (it T.aX (.slice none 0 0) ([]:List BkO))) (fun q i hq=>by
  by_cases e:q=(K,0)
  ·subst e;rw [Own.ag] at hq;cases hq;exact .inr ⟨rfl,OwnT.nil (α:=BkO) _ h T.aX⟩
  ·rw [Own.ab e] at hq;exact .inl hq)
 have c1:CpB K o (o.upd (K,0) (it T.aX (.slice none 0 0) ([]:List BkO))) (.slice none 0 0) (fun _=>⟨.slice none 0 0,.slice none 0 0,.slice none 0 0,.slice none 0 0,fun _=>.slice none 0 0,fun _=>.slice none 0 0⟩) ps (l.take 0):=
  ⟨⟨Own.ag,fun b hb=>absurd hb (Nat.not_lt_zero _)⟩,fun k hk=>Own.ab (by rintro rfl;dsimp only at hk;omega),fun b _ k hk=>by have:=gZ hk;rw [Own.ab (by rintro rfl;simp at this;omega)];exact hn k (by omega) (by omega)⟩
 refine aV [1,5,8,9,10] (fun (u:Value) k=>[.func (.func N.dM) #[] #[],u,v,.int .i64 l.length,.int .i64 k]) (fun u k h2=>∃ o' V,Owns W h2 o'∧CpB K o o' u V ps (l.take k)) l.length (.slice none 0 0)
  rfl (by omega) rfl ⟨_,_,w1,c1⟩ (fun _ _=>rfl) (fun u k h2 hk _=>by simp) ?_ ?_
 ·rintro u k h2 hk ⟨o2,V,w2,c2⟩ K2 hK2
  have hlk:(l.take k).length=k:=by rw [List.length_take];omega
  have s2:=hs.mono w2.wle
  have ht2 : ∀ q:Key,q.1=K+8→o2 q=none:=fun q hq=>by rw [c2.fr q (by omega)];exact ht q hq
  have h92 : ∀ q:Key,q.1=K+9→o2 q=none:=fun q hq=>by rw [c2.fr q (by omega)];exact h9 q hq
  obtain ⟨ux,hux,rux⟩:=hs.wh rfl (N:=6) rfl hk
  refine aa fun y hy=>?_
  simp (disch:=omega) [s2.idxn (N:=6) rfl,hux _ w2.wle]
  refine w2.ox (k:=(K+9,1)) (α:=BlkD) (n:=6) (h92 _ rfl) rux rfl (z:=.agg #[.slice none 0 0,.slice none 0 0,.int .i64 0,.slice none 0 0,.slice none 0 0,.int .i32 0]) (by kernel_rfl) rfl (by kernel_rfl) (by decide) (fun _=>by simp) (fun _=>by simp) fun h3 q3 w3=>?_
  generalize h2.size=X at w3
  obtain ⟨uy,huy,ruy⟩:=Owns.ldW w3 (k:=(K+9,1)) (v:=.slice (some ⟨X,0,none⟩) 1 1) (l:=[nth l k]) Own.ag rfl (N:=6) rfl (i:=0) (by simp)
  have huy:Un.ev (vw h3) (.au 6) (.pointer (some ⟨X,0,none⟩))=some uy:=by simpa [slA] using huy
  have ruy:Rd W uy (nth l k):=ruy
  have hne : ∀ q:Key,OfB K k q→q≠(K+9,1):=fun q hq e=>by have:=gZ hq;rw [e] at this;simp at this
  rw [hy];clear hy y
  simp [huy]
  refine iV (ops:=[.tmp 16]) rfl (by kernel_rfl) (Cx K k w3 (fun q hq=>by rw [Own.ab (hne q hq)];exact c2.free k (by omega) q hq) (fun q hq=>by rw [Own.ab (by rintro rfl;simp at hq)];exact ht2 q hq) (fun i hi=>by rw [Own.ab (by simp;omega)];exact h92 _ rfl) ruy (hp k hk)) ?_
  rintro _ h4 ⟨o4,Vn,rfl,g1,g2,g3,g4,ik,im,w4,bo,fr4⟩
  have nK:¬OfB K k (K,0):=fun h=>by have:=gZ h;simp at this;omega
  refine w4.gM (k:=(K,0)) (α:=BkO) (v:=u) (l:=rows (fun b=>bkO (V b) (nth (l.take k) b)) (l.take k).length) (d:=bkO Vn (nth l k)) (by rw [fr4 _ nK,Own.ab (by simp)];exact c2.fno.blk) El.iO rfl (DB g1 g2 g3 g4 ik im) (by simp;omega) (by simp;omega) (fun _=>rfl) (fun _=>rfl) fun u5 v5 h5 w5 _=>?_
  refine hK2 v5 _ _ rfl rfl ⟨fun q=>if q=(K+9,1) then none else (o4.upd (K,0) (it T.aX v5 (rows (fun b=>bkO (V b) (nth (l.take k) b)) (l.take k).length++[bkO Vn (nth l k)]))) q,fun b=>if b=(l.take k).length then Vn else V b,w5.sub fun q i hq=>?_,?_⟩
  ·split at hq
   ·cases hq
   ·exact hq
  ·obtain ⟨oF,hoF⟩ : ∃ oF:Own,oF=fun q=>if q=(K+9,1) then none else (o4.upd (K,0) (it T.aX v5 (rows (fun b=>bkO (V b) (nth (l.take k) b)) (l.take k).length++[bkO Vn (nth l k)]))) q:=⟨_,rfl⟩
   rw [←hoF]
   have f1 : ∀ q,q≠(K+9,1)→oF q=(o4.upd (K,0) (it T.aX v5 (rows (fun b=>bkO (V b) (nth (l.take k) b)) (l.take k).length++[bkO Vn (nth l k)]))) q:=fun q hq=>by rw [hoF];exact if_neg hq
   have f2:oF (K+9,1)=none:=by rw [hoF];exact if_pos rfl
   have far : ∀ q,q≠(K+9,1)→q≠(K,0)→¬OfB K k q→oF q=o2 q:=fun q h1 h2 h3=>by rw [f1 q h1,Own.ab h2,fr4 q h3,Own.ab h1]
   have nb : ∀ {b:Nat} {q:Key},OfB K b q→q≠(K+9,1)∧q≠(K,0):=fun h=>by
    have:=gZ h
    exact ⟨by rintro rfl;simp at this,by rintro rfl;simp at this;omega⟩
   rw [sK hk]
   refine ⟨c2.fno.push (Vn:=Vn) (d:=nth l k) (x:=bkO Vn (nth l k)) rfl ?_ (fun b hb q hq=>?_) ?_,fun q hq=>?_,fun b hb q hq=>?_⟩
   ·rw [f1 _ (by simp),Own.ag]
   ·exact far q (nb hq).1 (nb hq).2 (wD (by omega) hq)
   ·rw [hlk]
    exact bo.congr fun q hq=>by rw [f1 q (nb hq).1,Own.ab (nb hq).2]
   ·by_cases e:q=(K+9,1)
    ·rw [e,f2];exact (h9 _ rfl).symm
    ·rw [far q e (by rintro rfl;dsimp only at hq;omega) (fun h=>by have:=gZ h;omega)];exact c2.fr q hq
   ·rw [List.length_append,List.length_singleton] at hb
    rw [far q (nb hq).1 (nb hq).2 (wD (by omega) hq)];exact c2.free b (by omega) q hq
 ·rintro u h2 ⟨o2,V,w2,c2⟩
  rw [List.take_length] at c2
  rw [bH,hz];clear hz z
  simp
  exact hK _ _ ⟨o2,V,w2,c2⟩
theorem GS (K:Nat) {f:ah} {v:Value} {h:Heap} {W:View} {o:Own} (w:Owns W h o) (hn : ∀ k:Key,K≤k.1→k.1≤K+9→o k=none) (hr:Rd W v f) (sm:SmF f) :
  aD Tryz.prog N.gY #[v] h (fun r h'=>∃ o' vb V,r = .agg #[.int .i64 f.params,vb]∧I64 f.params∧Owns W h' o'∧FnO K o' vb V f∧(∀ k:Key,(k.1<K∨K+6<k.1)→o' k=o k)∧∀ b,f.blocks.length≤b→∀ k,OfB K b k→o' k=none):=by
 refine ao (args:=[v]) follows F.gY E.gY (Nat.le_of_ble_eq_true (by kernel_rfl)) fun Kc hK=>?_
 dsimp only [L.gY]
 obtain ⟨vb,rfl,ip,sb⟩:=qb hr
 refine aa fun z hz=>?_
 simp
 refine w.rR (k:=(K+7,0)) (n:=1) (l:=[.int .i64 f.params,vb]) (hn _ (by simp) (by simp)) rfl rfl (by decide) (gz sb.cells.2) fun B h1 hle1 w1=>?_
 refine w1.og (k:=(K+7,1)) (n:=1) (z:=.agg #[.int .i64 0,.slice none 0 0]) ((Own.ab (by simp)).trans (hn _ (by simp) (by simp))) (by kernel_rfl) rfl (by decide) (by simp [Value.cells,Value.oneCell']) fun h2 q2 w2=>?_
 generalize h1.size=R at w2
 have c1:an (vw h2) ⟨B,1,none⟩=some vb:=w2.raw (k:=(K+7,0)) (e:=T.aI) (n:=1) (by rw [Own.ab (by simp),Own.ag]) (i:=1) (by decide)
 rw [hz];clear hz z
 refine aa fun z hz=>?_
 simp [c1]
 refine af (by kernel_rfl) (wC K f.params w2 (fun k h1 h2=>by rw [Own.ab (by rintro rfl;simp at h2),Own.ab (by rintro rfl;simp at h2)];exact hn k h1 (by omega)) (fun k hk=>by rw [Own.ab (by rintro rfl;simp at hk),Own.ab (by rintro rfl;simp at hk)];exact hn k (by omega) (by omega)) (fun k hk=>by rw [Own.ab (by rintro rfl;simp at hk),Own.ab (by rintro rfl;simp at hk)];exact hn k (by omega) (by omega)) sb sm.len sm.blk) ?_
 rintro u3 h3 ⟨o3,V,w3,c3⟩
 have hu3:=(w3.cells c3.fno.blk).2
 refine w3.cG (k:=(K+7,0)) (n:=1) (i:=1) (e:=T.aI) (B:=B) (l:=[.int .i64 f.params,vb]) (by rw [c3.fr _ (by simp),Own.ab (by simp),Own.ag]) (by decide) (by kernel_rfl) rfl rfl hu3 fun h4 w4 _=>?_
 have c2:Un.ev (vw h4) (.au 2) (.pointer (some ⟨B,0,none⟩))=some (.agg #[.int .i64 f.params,u3]):=w4.gD (k:=(K+7,0)) (n:=1) Own.ag
 rw [hz];clear hz z
 refine aa fun z hz=>?_
 simp [c2]
 refine w4.jQ (k:=(K+7,1)) (e:=T.aI) (B:=R) (D:=RawN.mk (n:=1) [.int .i64 0,.slice none 0 0]) Part.all (d:=RawN.mk (n:=1) [.int .i64 f.params,u3]) (by rw [Own.ab (by simp),c3.fr _ (by simp),Own.ag];rfl) (by kernel_rfl) rfl rfl (iG rfl (gz hu3)) fun h5 w5 _=>?_
 have c3':Un.ev (vw h5) (.au 2) (.pointer (some ⟨R,0,none⟩))=some (.agg #[.int .i64 f.params,u3]):=w5.gD (k:=(K+7,1)) (n:=1) Own.ag
 rw [hz];clear hz z
 simp [c3']
 have hf:(⟨f.params,f.blocks⟩:ah)=f:=rfl
 refine hK _ _ ⟨fun q=>if q.1=K+7 then none else o3 q,u3,V,rfl,ip,w5.sub fun q i hq=>?_,c3.fno.congr fun q h1 h2=>if_neg (by omega),fun q hq=>?_,fun b hb q hq=>?_⟩
 ·split at hq
  ·cases hq
  ·rename_i e
   rw [Own.ab (by rintro rfl;exact e rfl),Own.ab (by rintro rfl;exact e rfl)];exact hq
 ·by_cases e:q.1=K+7
  ·exact (if_pos e).trans (hn q (by omega) (by omega)).symm
  ·refine (if_neg e).trans ?_
   rw [c3.fr q hq,Own.ab (by rintro rfl;exact e rfl),Own.ab (by rintro rfl;exact e rfl)]
 ·have:=gZ hq
  refine (if_neg (by omega)).trans (c3.free b hb q hq)
end Go.Proofs.YtbkdlhkoiagbbaaGreat
namespace Go.Proofs.YtbkdlhkoiagbbaaGreat
open Go Go.Lft
section
variable {f:ah} {b i:Nat}
theorem y6:jk f (phiT f b i)=false:=by
 refine decide_eq_false ?_
 show ¬(-1-(i:Int)=((fS f (phiT f b i)).ins.length:Nat))
 omega
theorem yE (hi:i<(nth f.blocks b).ins.length):jk f (insT f b i)=false:=by
 refine decide_eq_false ?_
 show ¬((i:Int)=((nth f.blocks ((b:Nat):Int).toNat).ins.length:Nat))
 rw [Int.toNat_natCast]
 omega
theorem yc:jk f (endT f b)=true:=by
 refine decide_eq_true ?_
 show (((nth f.blocks b).ins.length:Nat):Int)=((nth f.blocks ((b:Nat):Int).toNat).ins.length:Nat)
 rw [Int.toNat_natCast]
theorem FK:lO f (phiT f b i)=false:=by
 have h:decide (0≤(phiT f b i).place)=false:=decide_eq_false (by show ¬(0:Int)≤-1-(i:Int);omega)
 unfold lO
 rw [h];rfl
theorem vV (hi:i<(nth f.blocks b).ins.length):lO f (insT f b i)=true∧tu f (insT f b i)=nth (nth f.blocks b).ins i:=by
 refine ⟨(Bool.and_eq_true _ _).mpr ⟨decide_eq_true (Int.natCast_nonneg _),decide_eq_true ?_⟩,?_⟩
 ·show (i:Int)<((nth f.blocks ((b:Nat):Int).toNat).ins.length:Nat)
  rw [Int.toNat_natCast];omega
 ·show nth (nth f.blocks ((b:Nat):Int).toNat).ins ((i:Nat):Int).toNat=_
  rw [Int.toNat_natCast,Int.toNat_natCast]
theorem ED:lO f (endT f b)=false:=by
 have h:decide ((endT f b).place<((fS f (endT f b)).ins.length:Nat))=false:=decide_eq_false (by show ¬(((nth f.blocks b).ins.length:Nat):Int)<((nth f.blocks ((b:Nat):Int).toNat).ins.length:Nat);rw [Int.toNat_natCast];omega)
 unfold lO
 rw [h]
 exact Bool.and_false _
theorem wH:fS f (endT f b)=nth f.blocks b:=by
 show nth f.blocks ((b:Nat):Int).toNat=_
 rw [Int.toNat_natCast]
theorem yd (h : ∀ n∈(phiT f b i).mks,f.params≤n∧n≤8191):mA f (phiT f b i):=
 ⟨fun c=>(by rw [FK] at c;cases c),fun c=>(by rw [y6] at c;cases c),h,fun c=>(by rw [y6] at c;cases c)⟩
theorem yH (hi:i<(nth f.blocks b).ins.length) (ho:kP (nth (nth f.blocks b).ins i)=false) (h : ∀ n∈(insT f b i).mks,f.params≤n∧n≤8191):mA f (insT f b i):=
 ⟨fun _=>(by rw [(vV hi).2];exact ho),fun c=>(by rw [yE hi] at c;cases c),h,fun c=>(by rw [yE hi] at c;cases c)⟩
theorem pV (ht:jm (nth f.blocks b).term=true) (h : ∀ n∈(nth f.blocks b).term.to,1≤n∧n<f.blocks.length):mA f (endT f b):=
 ⟨fun c=>(by rw [ED] at c;cases c),fun _=>(by rw [wH];exact ht),fun n hn=>(by cases hn),fun _=>(by rw [wH];exact h)⟩
theorem jg.phiG (m:jg f) (hb:b<f.blocks.length) (hi:i<(nth f.blocks b).phis.length):mA f (phiT f b i):=m.good _ (bz.2 ⟨b,hb,bP.2 (.inl ⟨i,hi,rfl⟩)⟩)
theorem jg.insG (m:jg f) (hb:b<f.blocks.length) (hi:i<(nth f.blocks b).ins.length):mA f (insT f b i)∧kP (nth (nth f.blocks b).ins i)=false:=by
 have g:=m.good _ (bz.2 ⟨b,hb,bP.2 (.inr (.inl ⟨i,hi,rfl⟩))⟩)
 exact ⟨g,by have:=g.op (vV hi).1;rwa [(vV hi).2] at this⟩
theorem jg.endG (m:jg f) (hb:b<f.blocks.length):jm (nth f.blocks b).term=true∧∀ n∈(nth f.blocks b).term.to,1≤n∧n<f.blocks.length:=by
 have g:=m.good _ (bz.2 ⟨b,hb,bP.2 (.inr (.inr rfl))⟩)
 have h1:=g.term yc
 have h2:=g.to yc
 rw [wH] at h1 h2
 exact ⟨h1,h2⟩
end
def newT (N n i:Nat):dQ:=if i+1<n then ⟨1,[],[((N+i+1:Nat):Int)],⟨0⟩⟩ else ⟨5,[],[],⟨7⟩⟩
def newB (N n i:Nat):BlkD:=⟨[],[],newT N n i⟩
structure Mo (f g:ah) (n:Nat):Prop where
 params:g.params=f.params
 len:g.blocks.length=f.blocks.length+n
 phis : ∀ c,c<f.blocks.length→(nth g.blocks c).phis=(nth f.blocks c).phis
 ins : ∀ c,c<f.blocks.length→(nth g.blocks c).ins=(nth f.blocks c).ins
 term : ∀ c,c<f.blocks.length→(nth g.blocks c).term=(nth f.blocks c).term∨((nth f.blocks c).term.to=[]∧(nth g.blocks c).term=⟨1,[],[(f.blocks.length:Int)],⟨0⟩⟩)
 new : ∀ i,i<n→nth g.blocks (f.blocks.length+i)=newB f.blocks.length n i
section
variable {f g:ah} {n:Nat}
theorem Mo.phiT (m:Mo f g n) {c:Nat} (hc:c<f.blocks.length) (i:Nat):phiT g c i=phiT f c i:=by unfold Go.Proofs.YtbkdlhkoiagbbaaGreat.phiT;rw [m.phis c hc]
theorem Mo.insT (m:Mo f g n) {c:Nat} (hc:c<f.blocks.length) (i:Nat):insT g c i=insT f c i:=by unfold Go.Proofs.YtbkdlhkoiagbbaaGreat.insT;rw [m.ins c hc]
theorem Mo.good (m:Mo f g n) (mb:jg f) (hn:1≤n) : ∀ t∈aG g,mA g t:=by
 intro t ht
 obtain ⟨c,hc,hm⟩:=bz.1 ht
 rw [m.len] at hc
 rcases Nat.lt_or_ge c f.blocks.length with h | h
 ·rcases bP.1 hm with ⟨i,hi,rfl⟩ | ⟨i,hi,rfl⟩ | rfl
  ·rw [m.phis c h] at hi
   refine yd fun k hk=>?_
   rw [m.phiT h] at hk
   rw [m.params];exact (mb.phiG h hi).mks k hk
  ·refine yH hi ?_ fun k hk=>?_
   ·rw [m.ins c h] at hi ⊢;exact (mb.insG h hi).2
   ·rw [m.ins c h] at hi
    rw [m.insT h] at hk
    rw [m.params];exact (mb.insG h hi).1.mks k hk
  ·obtain ⟨e1,e2⟩:=mb.endG h
   refine pV ?_ fun k hk=>?_
   ·rcases m.term c h with e | ⟨_,e⟩
    ·rw [e];exact e1
    ·rw [e];rfl
   ·rw [m.len]
    rcases m.term c h with e | ⟨_,e⟩
    ·rw [e] at hk;have:=e2 k hk;omega
    ·rw [e] at hk
     have:=List.mem_singleton.1 hk
     have:=mb.blocks.1
     omega
 ·obtain ⟨i,rfl⟩ : ∃ i,c=f.blocks.length+i:=⟨c-f.blocks.length,by omega⟩
  have hi:i<n:=by omega
  have e:=m.new i hi
  rcases bP.1 hm with ⟨j,hj,rfl⟩ | ⟨j,hj,rfl⟩ | rfl
  ·rw [e] at hj;exact absurd hj (Nat.not_lt_zero _)
  ·rw [e] at hj;exact absurd hj (Nat.not_lt_zero _)
  ·refine pV ?_ fun k hk=>?_
   ·rw [e];unfold newB newT;dsimp only;split<;>rfl
   ·rw [e] at hk
    unfold newB newT at hk
    dsimp only at hk
    split at hk
    ·have:=List.mem_singleton.1 hk
     rw [m.len];omega
    ·cases hk
theorem EM {N n i:Nat} {k:Int} (h:k∈(newT N n i).to):k=((N+i+1:Nat):Int):=by
 unfold newT at h
 split at h
 ·exact List.mem_singleton.1 h
 ·cases h
theorem Mo.yT (m:Mo f g n) {a:Int} {c:Nat} (h:Re (ofG g.blocks) a c):c<f.blocks.length→Re (ofG f.blocks) a c:=by
 induction h with
 | root h0 h1=>exact fun hc=>.root (by rw [dJ];exact hc) h1
 | @step x c hx he hne ih=>
  intro hc
  obtain ⟨hr,hm⟩:=bT.1 he
  rw [Int.toNat_natCast] at hm
  rw [m.len] at hr
  rcases Nat.lt_or_ge x f.blocks.length with h | h
  ·rcases m.term x h with e | ⟨_,e⟩
   ·rw [e] at hm
    exact .step (ih h) (bT.2 ⟨⟨by omega,by omega,by omega,by omega⟩,by rw [Int.toNat_natCast];exact hm⟩) hne
   ·rw [e] at hm
    have:=List.mem_singleton.1 hm
    omega
  ·obtain ⟨i,rfl⟩ : ∃ i,x=f.blocks.length+i:=⟨x-f.blocks.length,by omega⟩
   rw [m.new i (by omega)] at hm
   have:=EM hm
   omega
theorem Mo.pE (m:Mo f g n) {v:Int} {c:Nat} {p:Int} (hc:c<f.blocks.length) (h:ft f v c p):ft g v c p:=by
 rcases h with h | ⟨t,ht,hv,h⟩
 ·exact .inl (by rw [m.params];exact h)
 ·refine .inr ⟨t,?_,hv,?_⟩
  ·obtain ⟨d,hd,hm⟩:=bz.1 ht
   refine bz.2 ⟨d,by rw [m.len];omega,bP.2 ?_⟩
   rcases bP.1 hm with ⟨i,hi,rfl⟩ | ⟨i,hi,rfl⟩ | rfl
   ·exact .inl ⟨i,by rw [m.phis d hd];exact hi,(m.phiT hd i).symm⟩
   ·exact .inr (.inl ⟨i,by rw [m.ins d hd];exact hi,(m.insT hd i).symm⟩)
   ·cases hv
  ·rcases h with h | ⟨h1,h2⟩
   ·exact .inl h
   ·refine .inr ⟨h1,fun h=>h2 (m.yT h ?_)⟩
    rw [Int.toNat_natCast];exact hc
end
end Go.Proofs.YtbkdlhkoiagbbaaGreat
namespace Go.Proofs.YtbkdlhkoiagbbaaGreat
open Go Go.Lft
structure Wy (f:ah) (P:Int→Prop) (frm:Int) (b:Nat):Prop where
 lt:b<f.blocks.length
 way:(frm=-1∧b=0)∨(P frm∧0≤frm∧frm<f.blocks.length∧(b:Int)∈(nth f.blocks frm.toNat).term.to∧∀ c:Int,¬P c→Re (ofG f.blocks) c frm.toNat)
def Sa (f:ah) (P:Int→Prop) (v:Int):Prop:=(0≤v∧v<f.params)∨∃ t∈aG f,v∈t.mks∧P t.blk
def Sb (f:ah) (P:Int→Prop) (b:Nat) (k:Int) (v:Int):Prop:=Sa f P v∨∃ t∈aG f,v∈t.mks∧t.blk=b∧(t.place<0∨t.place<k)
section
variable {f:ah} {P:Int→Prop} {frm:Int} {b:Nat}
theorem Wy.re (w:Wy f P frm b) {c:Int} (hc:¬P c) (hb:(b:Int)≠c):Re (ofG f.blocks) c b:=by
 have hl:=w.lt
 rcases w.way with ⟨_,rfl⟩ | ⟨h1,h2,h3,h4,h5⟩
 ·exact .root (by rw [dJ];exact hl) (fun e=>hb (by rw [e];rfl))
 ·refine .step (h5 c hc) ?_ hb
  rw [bT]
  rw [Int.toNat_of_nonneg h2]
  exact ⟨⟨h2,h3,by omega,by omega⟩,h4⟩
theorem Sa.rng (m:jg f) {v:Int} (h:Sa f P v):0≤v∧v<8192:=by
 have:=m.params
 rcases h with h | ⟨t,ht,hv,_⟩
 ·omega
 ·have:=(m.good t ht).mks v hv;omega
theorem ft.rng (m:jg f) {v b p:Int} (h:ft f v b p):0≤v∧v<8192:=by
 have:=m.params
 rcases h with h | ⟨t,ht,hv,_⟩
 ·omega
 ·have:=(m.good t ht).mks v hv;omega
theorem Wy.pE (w:Wy f P frm b) {v p:Int} (h:ft f v b p):Sb f P b p v:=by
 rcases h with c | ⟨t,ht,hv,g⟩
 ·exact .inl (.inl c)
 rcases g with ⟨g1,g2⟩ | ⟨g1,g2⟩
 ·exact .inr ⟨t,ht,hv,g1,g2⟩
 ·exact .inl (.inr ⟨t,ht,hv,Classical.byContradiction fun hn=>g2 (w.re hn (fun e=>g1 e.symm))⟩)
theorem Wy.term (m:jg f) (w:Wy f P frm b) {v:Int} (hv:v∈(nth f.blocks b).term.args):Sb f P b ((nth f.blocks b).ins.length:Nat) v∧0≤v∧v<8192:=by
 have h:=m.takes (endT f b) (bz.2 ⟨b,w.lt,bP.2 (.inr (.inr rfl))⟩) (Int.natCast_nonneg _) v hv
 exact ⟨w.pE h,h.rng m⟩
theorem Wy.dst (m:jg f) (w:Wy f P frm b) {i:Nat} (hi:i<(nth f.blocks b).phis.length):0≤(nth (nth f.blocks b).phis i).dst∧(nth (nth f.blocks b).phis i).dst<8192:=by
 have h:=(m.good (phiT f b i) (bz.2 ⟨b,w.lt,bP.2 (.inl ⟨i,hi,rfl⟩)⟩)).mks _ (List.mem_singleton.2 rfl)
 have:=m.params
 omega
end
end Go.Proofs.YtbkdlhkoiagbbaaGreat
namespace Go.Proofs.YtbkdlhkoiagbbaaGreat
open Go Go.Lft
section
variable {f:ah} {g:Int→Int} {b i:Nat}
end
theorem xW {f:ah}:topS f=(gI (aG f)).foldl mo (xh f.params):=by
 unfold topS gI
 generalize xh f.params=t
 generalize aG f=l
 induction l generalizing t with
 | nil=>rfl
 | cons a l ih=>rw [List.foldl_cons,List.flatMap_cons,List.foldl_append];exact ih _
end Go.Proofs.YtbkdlhkoiagbbaaGreat
namespace Go.Proofs.YtbkdlhkoiagbbaaGreat
open Go Go.Lft
def xA (S:Int→Int) (x:InD):InD:=⟨S x.frm,x.val⟩
structure Mv (s:Nat→Nat) (S:Int→Int) (f g:ah):Prop where
 inv : ∀ c,s (s c)=c
 invS : ∀ x,S (S x)=x
 nat : ∀ c:Nat,S c=s c
 lt : ∀ c,c<f.blocks.length→s c<f.blocks.length
 params:g.params=f.params
 len:g.blocks.length=f.blocks.length
 phn : ∀ c,c<f.blocks.length→(nth g.blocks (s c)).phis.length=(nth f.blocks c).phis.length
 dst : ∀ c i,c<f.blocks.length→i<(nth f.blocks c).phis.length→(nth (nth g.blocks (s c)).phis i).dst=(nth (nth f.blocks c).phis i).dst
 ph : ∀ c i,c<f.blocks.length→i<(nth f.blocks c).phis.length→(nth (nth g.blocks (s c)).phis i).ins.Perm ((nth (nth f.blocks c).phis i).ins.map (xA S))
 ins : ∀ c,c<f.blocks.length→(nth g.blocks (s c)).ins=(nth f.blocks c).ins
 kind : ∀ c,c<f.blocks.length→(nth g.blocks (s c)).term.kind=(nth f.blocks c).term.kind
 args : ∀ c,c<f.blocks.length→(nth g.blocks (s c)).term.args=(nth f.blocks c).term.args
 to : ∀ c,c<f.blocks.length→(nth g.blocks (s c)).term.to=(nth f.blocks c).term.to.map S
section
variable {s:Nat→Nat} {S:Int→Int} {f g:ah}
theorem Mv.symm (m:Mv s S f g):Mv s S g f where
 inv:=m.inv
 invS:=m.invS
 nat:=m.nat
 lt:=fun c h=>by rw [m.len] at h ⊢;exact m.lt c h
 params:=m.params.symm
 len:=m.len.symm
 phn:=fun c h=>by rw [m.len] at h;have:=m.phn (s c) (m.lt c h);rw [m.inv] at this;exact this.symm
 dst:=fun c i h hi=>by
  rw [m.len] at h
  have h1:=m.phn (s c) (m.lt c h)
  rw [m.inv] at h1
  have:=m.dst (s c) i (m.lt c h) (by omega)
  rw [m.inv] at this;exact this.symm
 ph:=fun c i h hi=>by
  rw [m.len] at h
  have h1:=m.phn (s c) (m.lt c h)
  rw [m.inv] at h1
  have:=(m.ph (s c) i (m.lt c h) (by omega)).map (xA S)
  rw [m.inv,List.map_map] at this
  have e:xA S∘xA S=id:=funext fun x=>by unfold xA;simp [m.invS]
  rw [e,List.map_id] at this
  exact this.symm
 ins:=fun c h=>by rw [m.len] at h;have:=m.ins (s c) (m.lt c h);rw [m.inv] at this;exact this.symm
 kind:=fun c h=>by rw [m.len] at h;have:=m.kind (s c) (m.lt c h);rw [m.inv] at this;exact this.symm
 args:=fun c h=>by rw [m.len] at h;have:=m.args (s c) (m.lt c h);rw [m.inv] at this;exact this.symm
 to:=fun c h=>by
  rw [m.len] at h
  have:=m.to (s c) (m.lt c h)
  rw [m.inv] at this
  rw [this,List.map_map]
  have e:S∘S=id:=funext fun x=>m.invS x
  rw [e,List.map_id]
theorem Mv.range (m:Mv s S f g):(List.range f.blocks.length).Perm ((List.range f.blocks.length).map s):=by
 have hinj : ∀ a b,s a=s b→a=b:=fun a b h=>by rw [←m.inv a,←m.inv b,h]
 refine (List.perm_ext_iff_of_nodup List.nodup_range ?_).2 fun a=>?_
 ·exact List.pairwise_map.2 (List.nodup_range.imp fun hne e=>hne (hinj _ _ e))
 ·rw [List.mem_range,List.mem_map]
  constructor
  ·exact fun h=>⟨s a,List.mem_range.2 (m.lt a h),m.inv a⟩
  ·rintro ⟨b,hb,rfl⟩
   exact m.lt b (List.mem_range.1 hb)
theorem nN {α β:Type} {x y:α→List β} : ∀ {l:List α},(∀ a∈l,(x a).Perm (y a))→(l.flatMap x).Perm (l.flatMap y)
 | [],_=>.refl _
 | a::l,h=>by
  rw [List.flatMap_cons,List.flatMap_cons]
  exact (h a (List.mem_cons_self ..)).append (nN fun b hb=>h b (List.mem_cons_of_mem _ hb))
theorem Mv.flat (m:Mv s S f g) {β:Type} {x y:Nat→List β} (h : ∀ c,c<f.blocks.length→(y (s c)).Perm (x c)):((List.range g.blocks.length).flatMap y).Perm ((List.range f.blocks.length).flatMap x):=by
 rw [m.len]
 refine (List.Perm.flatMap_right y m.range).trans ?_
 rw [List.flatMap_map]
 exact nN fun c hc=>h c (List.mem_range.1 hc)
theorem lB {β:Type} {x:Th→List β} {f:ah} : ∀ {n:Nat},(thTo f n).flatMap x=(List.range n).flatMap fun b=>(thB f b).flatMap x
 | 0=>rfl
 | n+1=>by rw [eH,List.flatMap_append,lB,List.range_succ,List.flatMap_append,List.flatMap_singleton]
def D0 (l:List Th):List Int:=l.flatMap Th.tks
theorem Mv.thB (m:Mv s S f g) {x:Th→List Int} {c:Nat} (hc:c<f.blocks.length) (hp : ∀ i,i<(nth f.blocks c).phis.length→(x (phiT g (s c) i)).Perm (x (phiT f c i))) (hi : ∀ i,i<(nth f.blocks c).ins.length→(x (insT g (s c) i)).Perm (x (insT f c i))) (he:(x (endT g (s c))).Perm (x (endT f c))) :
  ((Go.Proofs.YtbkdlhkoiagbbaaGreat.thB g (s c)).flatMap x).Perm ((Go.Proofs.YtbkdlhkoiagbbaaGreat.thB f c).flatMap x):=by
 unfold Go.Proofs.YtbkdlhkoiagbbaaGreat.thB
 rw [m.phn c hc,m.ins c hc]
 simp only [List.flatMap_append,List.flatMap_singleton]
 unfold rows
 rw [List.flatMap_map,List.flatMap_map,List.flatMap_map,List.flatMap_map]
 exact ((nN fun i h=>hp i (List.mem_range.1 h)).append (nN fun i h=>hi i (List.mem_range.1 h))).append he
theorem Mv.mks (m:Mv s S f g):(gI (aG g)).Perm (gI (aG f)):=by
 unfold gI aG
 rw [lB,lB]
 refine m.flat fun c hc=>m.thB hc (fun i hi=>?_) (fun i hi=>?_) (.refl _)
 ·show [(nth (nth g.blocks (s c)).phis i).dst].Perm [(nth (nth f.blocks c).phis i).dst]
  rw [m.dst c i hc hi]
 ·show (aY (nth (nth g.blocks (s c)).ins i)).Perm (aY (nth (nth f.blocks c).ins i))
  rw [m.ins c hc]
theorem Mv.phv (m:Mv s S f g) {c i:Nat} (hc:c<f.blocks.length) (hi:i<(nth f.blocks c).phis.length):(phiT g (s c) i).tks.Perm (phiT f c i).tks:=by
 have:=(m.ph c i hc hi).map InD.val
 rw [List.map_map] at this
 exact this
theorem Mv.tks (m:Mv s S f g):(D0 (aG g)).Perm (D0 (aG f)):=by
 unfold D0 aG
 rw [lB,lB]
 refine m.flat fun c hc=>m.thB hc (fun i hi=>m.phv hc hi) (fun i hi=>?_) ?_
 ·show ((nth (nth g.blocks (s c)).ins i).args).Perm ((nth (nth f.blocks c).ins i).args)
  rw [m.ins c hc]
 ·show ((nth g.blocks (s c)).term.args).Perm ((nth f.blocks c).term.args)
  rw [m.args c hc]
theorem v8 {t a b:Int}:mo (mo t a) b=mo (mo t b) a:=by
 unfold mo
 cases bw a 0 8191<;>cases bw b 0 8191<;>simp<;>(repeat' split)<;>omega
theorem Mv.top (m:Mv s S f g):topS g=topS f:=by
 rw [xW,xW,m.params]
 exact m.mks.foldl_eq' (fun _ _ _ _ _=>v8) _
structure Cm (S:Int→Int) (f g:ah) (t t':Th):Prop where
 mem:t'∈aG g
 blk:t'.blk=S t.blk
 place:t'.place=t.place
 mks:t'.mks=t.mks
 tks:t'.tks.Perm t.tks
 ins:0≤t.place→tu g t'=tu f t
theorem Mv.come (m:Mv s S f g) {t:Th} (ht:t∈aG f) : ∃ t',Cm S f g t t':=by
 obtain ⟨c,hc,h⟩:=bz.1 ht
 have hlt:s c<g.blocks.length:=by rw [m.len];exact m.lt c hc
 rcases bP.1 h with ⟨i,hi,rfl⟩ | ⟨i,hi,rfl⟩ | rfl
 ·exact ⟨phiT g (s c) i,bz.2 ⟨s c,hlt,bP.2 (.inl ⟨i,by rw [m.phn c hc];exact hi,rfl⟩)⟩,(m.nat c).symm,rfl,by show [_]=[_];rw [m.dst c i hc hi],m.phv hc hi,fun h=>absurd h (by show ¬(0:Int)≤-1-(i:Int);omega)⟩
 ·refine ⟨insT g (s c) i,bz.2 ⟨s c,hlt,bP.2 (.inr (.inl ⟨i,by rw [m.ins c hc];exact hi,rfl⟩))⟩,(m.nat c).symm,rfl,by show aY _=aY _;rw [m.ins c hc],by show List.Perm (nth (nth g.blocks (s c)).ins i).args _;rw [m.ins c hc];exact .refl _,fun _=>?_⟩
  show nth (nth g.blocks ((s c:Nat):Int).toNat).ins ((i:Nat):Int).toNat=nth (nth f.blocks ((c:Nat):Int).toNat).ins ((i:Nat):Int).toNat
  rw [Int.toNat_natCast,Int.toNat_natCast,Int.toNat_natCast,m.ins c hc]
 ·refine ⟨endT g (s c),bz.2 ⟨s c,hlt,bP.2 (.inr (.inr rfl))⟩,(m.nat c).symm,by show (((nth g.blocks (s c)).ins.length:Nat):Int)=_;rw [m.ins c hc];rfl,rfl,by show List.Perm (nth g.blocks (s c)).term.args _;rw [m.args c hc];exact .refl _,fun _=>?_⟩
  show nth (nth g.blocks ((s c:Nat):Int).toNat).ins (((nth g.blocks (s c)).ins.length:Nat):Int).toNat=nth (nth f.blocks ((c:Nat):Int).toNat).ins (((nth f.blocks c).ins.length:Nat):Int).toNat
  rw [Int.toNat_natCast,Int.toNat_natCast,m.ins c hc];rfl
theorem Mv.rng (m:Mv s S f g) {x:Int} (h:0≤x∧x<f.blocks.length):S x=((s x.toNat:Nat):Int)∧0≤S x∧S x<f.blocks.length:=by
 have e:=m.nat x.toNat
 rw [show ((x.toNat:Nat):Int)=x by omega] at e
 have:=m.lt x.toNat (by omega)
 exact ⟨e,by omega,by omega⟩
theorem Mv.re (m:Mv s S f g) (h0:s 0=0) {a:Int} {c:Nat} (h:Re (ofG f.blocks) a c):Re (ofG g.blocks) (S a) (s c):=by
 have hS0:S 0=0:=by have:=m.nat 0;rw [h0] at this;exact this
 have hinj : ∀ x y,S x=S y→x=y:=fun x y e=>by rw [←m.invS x,←m.invS y,e]
 induction h with
 | root h hne=>
  rw [h0]
  exact .root (by rw [dJ,m.len];rw [dJ] at h;exact h) fun e=>hne (hinj _ _ (e.trans hS0.symm))
 | @step x c hx he hne ih=>
  obtain ⟨hr,hm⟩:=bT.1 he
  rw [Int.toNat_natCast] at hm
  refine .step ih (bT.2 ⟨?_,?_⟩) fun e=>hne (hinj _ _ ((m.nat c).trans e))
  ·have h1:=m.lt x (by omega)
   have h2:=m.lt c (by omega)
   rw [m.len];omega
  ·rw [Int.toNat_natCast,m.to x (by omega),←m.nat c]
   exact List.mem_map_of_mem hm
theorem Mv.pE (m:Mv s S f g) (h0:s 0=0) {v c p:Int} (hc:0≤c∧c<f.blocks.length) (h:ft f v c p):ft g v (S c) p:=by
 have hinj : ∀ x y,S x=S y→x=y:=fun x y e=>by rw [←m.invS x,←m.invS y,e]
 rcases h with h | ⟨t,ht,hv,h⟩
 ·exact .inl (by rw [m.params];exact h)
 ·obtain ⟨t',ct⟩:=m.come ht
  refine .inr ⟨t',ct.mem,by rw [ct.mks];exact hv,?_⟩
  rw [ct.blk,ct.place]
  rcases h with ⟨rfl,h⟩ | ⟨h1,h2⟩
  ·exact .inl ⟨rfl,h⟩
  ·refine .inr ⟨fun e=>h1 (hinj _ _ e),fun r=>h2 ?_⟩
   have:=m.symm.re h0 r
   rw [m.invS,(m.rng hc).1,Int.toNat_natCast,m.inv] at this
   exact this
def iK (l:List InD):Prop:=l.Pairwise fun x y=>x.frm≤y.frm
theorem CG : ∀ {n:Nat},(List.range n).Pairwise (· < ·):=List.pairwise_lt_range
theorem tC {f:ah} {c:Int}:(aw f c).Pairwise (· < ·):=by
 unfold aw
 rw [jx]
 refine List.pairwise_map.2 (List.Pairwise.filter _ (CG.imp fun h=>by omega))
end
end Go.Proofs.YtbkdlhkoiagbbaaGreat
namespace Go.Proofs.YtbkdlhkoiagbbaaGreat
open Go Go.Lft
structure Way (A B:List InD) (x:InD):Prop where
 ris:iK (A++B)
 gt : ∀ y∈B,x.frm<y.frm
theorem Way.done {A B:List InD} {x:InD} (w:Way A B x) (h : ∀ y,A.getLast? = some y→y.frm≤x.frm):iK (A++x::B):=by
 obtain ⟨r,g⟩:=w
 have ra:=List.pairwise_append.1 r
 refine List.pairwise_append.2 ⟨ra.1,List.pairwise_cons.2 ⟨fun y hy=>Int.le_of_lt (g y hy),ra.2.1⟩,fun y hy z hz=>?_⟩
 rcases List.mem_cons.1 hz with rfl | hz
 ·rcases A.eq_nil_or_concat with e | ⟨A',l,e⟩
  ·subst e;cases hy
  ·rw [List.concat_eq_append] at e
   subst e
   have hl:=h l (by simp)
   rcases List.mem_append.1 hy with hy | hy
   ·have:=(List.pairwise_append.1 ra.1).2.2 y hy l (List.mem_singleton.2 rfl)
    omega
   ·rw [List.mem_singleton.1 hy];exact hl
 ·exact ra.2.2 y hy z hz
theorem Way.step {A B:List InD} {x y:InD} (w:Way (A++[y]) B x) (h:x.frm<y.frm):Way A (y::B) x:=
 ⟨by have:=w.ris;rw [List.append_assoc] at this;exact this,fun z hz=>by
  rcases List.mem_cons.1 hz with rfl | hz
  ·exact h
  ·exact w.gt z hz⟩
theorem Way.start {A:List InD} {x:InD} (r:iK A):Way A [] x:=⟨by rw [List.append_nil];exact r,fun y hy=>by cases hy⟩
section
variable {K:Nat} {s:Nat→Nat}
end
end Go.Proofs.YtbkdlhkoiagbbaaGreat
namespace Go.Proofs.YtbkdlhkoiagbbaaGreat
open Go Go.Lft
theorem G5 {p q:InD} {up uq:Value} {h:Heap} (hp:Rd (vw h) up p) (hq:Rd (vw h) uq q):aD Tryz.prog N.bI #[up,uq] h (fun u h'=>u = .int .i64 (IntKind.i64.wrap (p.frm-q.frm))∧(vw h).le (vw h')):=by
 refine ao (args:=[up,uq]) follows F.bI E.bI (Nat.le_of_ble_eq_true (by kernel_rfl)) fun K hK=>?_
 dsimp only [L.bI]
 refine aa fun z hz=>?_
 simp
 refine iU rfl hp fun h1 e1 hle1 hs1 hat1=>?_
 refine iU rfl (hq.mono hle1) fun h2 e2 hle2 hs2 hat2=>?_
 have c1:an (vw h2) ⟨h.size,0,none⟩=some (.int .i64 p.frm):=ae hle2 (hat1.part InD.rn).int
 have c2:an (vw h2) ⟨h1.size,0,none⟩=some (.int .i64 q.frm):=(hat2.part InD.rn).int
 rw [hz];clear hz z
 simp [c1,c2]
 exact hK _ _ ⟨rfl,View.le_trans hle1 hle2⟩
theorem zS (k:Key) {l:List InD} {v:Value} {h:Heap} {W:View} {o:Own} (w:Owns W h o) (hk:o k=it T.dq v l) (hl:l.length≤12) (hr : ∀ x∈l,0≤x.frm∧x.frm≤100000) :
  aD Tryz.prog N.ax #[v,.int .i64 0,.int .i64 l.length,.func (.func N.bI) #[] #[]] h (fun _ h'=>∃ l',l'.Perm l∧iK l'∧Owns W h' (o.upd k (it T.dq v l'))):=by
 refine ao (args:=[v,.int .i64 0,.int .i64 l.length,.func (.func N.bI) #[] #[]]) follows F.ax E.ax (Nat.le_of_ble_eq_true (by kernel_rfl)) fun Kc hK=>?_
 dsimp only [L.ax]
 refine aa fun z hz=>?_
 simp
 rw [hz];clear hz z
 have w0:Owns W h (o.upd k (it T.dq v (l.take 1++l.drop (0+1)))):=w.congr fun q=>by
  rw [Nat.zero_add,List.take_append_drop]
  unfold Own.upd
  split
  ·rename_i e;rw [e,hk]
  ·rfl
 have r0:iK (l.take 1):=by
  match l with
  | []=>exact .nil
  | x::_=>exact List.pairwise_singleton _ _
 refine yi [0,1,2,3,8] (fun (_:Unit) j=>[v,.int .i64 0,.int .i64 l.length,.func (.func N.bI) #[] #[],.int .i64 ((j:Int)+1)]) (fun _ j h1=>∃ R,Owns W h1 (o.upd k (it T.dq v (R++l.drop (j+1))))∧R.Perm (l.take (j+1))∧iK R) (l.length-1) 1 ()
  rfl (by omega) (by omega) rfl ⟨_,w0,.refl _,r0⟩ (fun _ _=>rfl) (fun _ j h1 hj _=>?_) ?_ ?_
 ·have e:decide ((j:Int)+1<l.length)=decide (j<l.length-1):=by rw [Bool.eq_iff_iff,decide_eq_true_eq,decide_eq_true_eq];omega
  rw [←e]
  simp
 ·rintro _ i h1 hi ⟨R,w1,hp1,hr1⟩ K4 hK4
  have hk1:i+1<l.length:=by omega
  have hkR:R.length=i+1:=by rw [hp1.length_eq,List.length_take];omega
  obtain ⟨x0,hx0⟩ : ∃ x0,x0=l[i+1]:=⟨_,rfl⟩
  have hx0m:x0∈l:=by rw [hx0];exact List.getElem_mem hk1
  have hdrop:l.drop (i+1)=x0::l.drop (i+1+1):=by rw [hx0];exact List.drop_eq_getElem_cons hk1
  have htake:l.take (i+1+1)=l.take (i+1)++[x0]:=by rw [hx0];exact List.take_succ_eq_append_getElem hk1
  obtain ⟨rest,hrest⟩ : ∃ rest,rest=l.drop (i+1+1):=⟨_,rfl⟩
  rw [←hrest] at hdrop
  rw [hdrop] at w1
  refine aa fun q hq=>?_
  simp
  rw [hq];clear hq q
  simp only [aK]
  refine gR [0,1,2,3,8,9] (fun m ρ h2=>∃ A B,m=A.length∧ρ=[(0,v),(1,.int .i64 0),(2,.int .i64 l.length),(3,.func (.func N.bI) #[] #[]),(8,.int .i64 ((i:Int)+1)),(9,.int .i64 (A.length:Nat))]∧
   Owns W h2 (o.upd k (it T.dq v (A++x0::(B++rest))))∧Way A B x0∧(A++B).Perm (l.take (i+1))) (i+1) ⟨R,[],hkR.symm,by rw [hkR];rfl,w1,.start hr1,by rw [List.append_nil];exact hp1⟩ ?_
  rintro m ρ h2 ⟨A,B,rfl,rfl,w2,wy,hpm⟩ K5 hK5
  have hAB:A.length+B.length=i+1:=by have:=hpm.length_eq;rw [List.length_append,List.length_take] at this;omega
  have hfin:iK (A++x0::B)→∀ {h3:Heap},Owns W h3 (o.upd k (it T.dq v (A++x0::(B++rest))))→∃ R',Owns W h3 (o.upd k (it T.dq v (R'++l.drop (i+1+1))))∧R'.Perm (l.take (i+1+1))∧iK R':=fun hr h3 w3=>⟨A++x0::B,by rw [←hrest,List.append_assoc,List.cons_append];exact w3,by
   rw [htake]
   exact List.perm_middle.trans ((List.Perm.cons _ hpm).trans (List.perm_append_comm (l₁:=[x0]))),hr⟩
  refine aa fun q hq=>?_
  refine aa fun p hp=>?_
  rcases A.eq_nil_or_concat with e | ⟨A',y',e⟩
  ·subst e
   refine cM (vw h2) (View.le_refl _) ?_
   simp
   rw [hp];clear hp p
   refine aW (by simp) ?_
   simp
   exact hK4 () _ _ rfl (by simp [bm]) (hfin (wy.done fun y hy=>by cases hy) w2)
  ·rw [List.concat_eq_append] at e
   subst e
   have hLl:((A'++[y'])++x0::(B++rest))=A'++y'::x0::(B++rest):=by simp
   have hlenj:(A'++[y']).length=A'.length+1:=by simp
   have w2:Owns W h2 (o.upd k (it T.dq v (A'++y'::x0::(B++rest)))):=by rw [←hLl];exact w2
   have hfin:iK ((A'++[y'])++x0::B)→∀ {h3:Heap},Owns W h3 (o.upd k (it T.dq v (A'++y'::x0::(B++rest))))→∃ R',Owns W h3 (o.upd k (it T.dq v (R'++l.drop (i+1+1))))∧R'.Perm (l.take (i+1+1))∧iK R':=fun hr h3 w3=>hfin hr (by rw [hLl];exact w3)
   have hym:y'∈l:=List.mem_of_mem_take (hpm.mem_iff.1 (by simp))
   have i1:A'.length<(A'++y'::x0::(B++rest)).length:=by simp
   have i2:A'.length+1<(A'++y'::x0::(B++rest)).length:=by simp
   have en1:(A'++y'::x0::(B++rest))[A'.length]=y':=by rw [List.getElem_append_right (Nat.le_refl _)];simp
   have en2:(A'++y'::x0::(B++rest))[A'.length+1]=x0:=by rw [List.getElem_append_right (by omega)];simp
   have s2:=w2.now Own.ag
   have y1:Bn.ev (.idx 2) v (.int .i64 (A'.length:Nat))=some (.pointer (some ((slA v).add (A'.length*2)))):=s2.idxn (N:=2) rfl (Int.natCast_nonneg _) (by omega)
   have z1:Bn.ev (.idx 2) v (.int .i64 ((A'.length+1:Nat):Int))=some (.pointer (some ((slA v).add ((A'.length+1)*2)))):=s2.idxn (N:=2) rfl (Int.natCast_nonneg _) (by omega)
   obtain ⟨uy,huy,ruy⟩:=Owns.ldW w2 Own.ag rfl (N:=2) rfl i1
   obtain ⟨uj,huj,ruj⟩:=Owns.ldW w2 Own.ag rfl (N:=2) rfl i2
   rw [en1] at ruy
   rw [en2] at ruj
   rw [hlenj] at hAB hK5 ⊢
   have set1:(A'++y'::x0::(B++rest)).set (A'.length+1) y'=A'++y'::y'::(B++rest):=by
    rw [List.set_append_right _ _ (by omega)];simp
   have set2:(A'++y'::y'::(B++rest)).set A'.length x0=A'++x0::y'::(B++rest):=by
    rw [List.set_append_right _ _ (Nat.le_refl _)];simp
   have i3:A'.length<(A'++y'::y'::(B++rest)).length:=by simp
   obtain ⟨j,hj⟩ : ∃ j,j=A'.length+1:=⟨_,rfl⟩
   rw [←hj] at z1 huj i2 hAB set1 hK5 ⊢
   have hw:IntKind.i64.wrap ((j:Int)-1)=(A'.length:Int):=by rw [b8 (by omega) (by omega)];omega
   have hj0:0<j:=by omega
   have hjl:A'.length<j:=by omega
   clear hj en1 en2
   have f1:=hr _ hx0m
   have f2:=hr _ hym
   refine cM (vw h2) (View.le_refl _) ?_
   simp [hw,hj0,y1,z1,huy,huj]
   refine iV (ops:=[.tmp 26,.tmp 31]) rfl (by kernel_rfl) (G5 (ruj.mono w2.wle) (ruy.mono w2.wle)) ?_
   rintro _ h3 ⟨rfl,hle3⟩
   have ew:IntKind.i64.wrap (x0.frm-y'.frm)=x0.frm-y'.frm:=b8 (by omega) (by omega)
   rw [ew]
   refine ⟨hle3,?_⟩
   have w3:=w2.ext' hle3
   by_cases hgt:x0.frm<y'.frm
   ·have hlt:x0.frm-y'.frm<0:=by omega
    simp [hj0,hlt]
    rw [hp];clear hp p
    refine a7 (by simp) ?_
    simp
    rw [hq];clear hq q
    refine aa fun q hq=>?_
    simp only [aK]
    have huy3:Un.ev (vw h3) (.au 2) (.pointer (some ((slA v).add (A'.length*2))))=some uy:=by
     have:=dd (ρ:=fun _=>none) (e:=.un (.au 2) (.con (.pointer (some ((slA v).add (A'.length*2)))))) hle3 (by simpa using huy)
     simpa using this
    have huj3:Un.ev (vw h3) (.au 2) (.pointer (some ((slA v).add (j*2))))=some uj:=by
     have:=dd (ρ:=fun _=>none) (e:=.un (.au 2) (.con (.pointer (some ((slA v).add (j*2)))))) hle3 (by simpa using huj)
     simpa using this
    refine cM (vw h3) (View.le_refl _) ?_
    simp [hw,y1,z1,huy3,huj3]
    refine w3.pt (k:=k) (α:=InD) (v:=v) (l:=A'++y'::x0::(B++rest)) (i:=j) (d:=y') Own.ag (by kernel_rfl) rfl rfl i2 ruy fun h4 w4 _=>?_
    rw [set1] at w4
    refine w4.pt (k:=k) (α:=InD) (v:=v) (l:=A'++y'::y'::(B++rest)) (i:=A'.length) (d:=x0) Own.ag (by kernel_rfl) rfl rfl i3 ruj fun h5 w5 _=>?_
    rw [set2] at w5
    rw [hq];clear hq q
    simp [hw]
    refine hK5 A'.length _ _ hjl ⟨A',y'::B,rfl,by simp [bm,hw],w5.congr fun q=>?_,wy.step hgt,?_⟩
    ·rw [List.cons_append];unfold Own.upd;split<;>rfl
    ·rw [List.append_assoc] at hpm;exact hpm
   ·have hlt:¬x0.frm-y'.frm<0:=by omega
    simp [hj0,hlt]
    rw [hp];clear hp p
    refine aW (by simp) ?_
    simp
    exact hK4 () _ _ rfl (by simp [bm]) (hfin (wy.done fun y hy=>by
     simp at hy
     subst hy;omega) w3)
 ·rintro _ h1 ⟨R,w1,hp1,hr1⟩
  have e1:l.drop (l.length-1+1)=[]:=List.drop_of_length_le (by omega)
  have e2:l.take (l.length-1+1)=l:=List.take_of_length_le (by omega)
  rw [e1,List.append_nil] at w1
  rw [e2] at hp1
  simp
  exact hK _ _ ⟨R,hp1,hr1,w1⟩
theorem GV (k:Key) {l:List InD} {v:Value} {lim:Int} {h:Heap} {W:View} {o:Own} (w:Owns W h o) (hk:o k=it T.dq v l) (hl:l.length≤12) (hr : ∀ x∈l,0≤x.frm∧x.frm≤100000) :
  aD Tryz.prog N.aP #[v,.int .i64 0,.int .i64 l.length,.int .i64 lim,.func (.func N.bI) #[] #[]] h (fun _ h'=>∃ l',l'.Perm l∧iK l'∧Owns W h' (o.upd k (it T.dq v l'))):=by
 refine ao (args:=[v,.int .i64 0,.int .i64 l.length,.int .i64 lim,.func (.func N.bI) #[] #[]]) follows F.aP E.aP (Nat.le_of_ble_eq_true (by kernel_rfl)) fun Kc hK=>?_
 dsimp only [L.aP]
 refine aa fun z hz=>?_
 simp
 rw [hz];clear hz z
 refine aa fun z hz=>?_
 simp
 rw [hz];clear hz z
 simp only [aK]
 refine gR [0,1,2,3,4,10,11] (fun m ρ h2=>h2=h∧ρ=[(0,v),(1,.int .i64 0),(2,.int .i64 l.length),(3,.int .i64 lim),(4,.func (.func N.bI) #[] #[]),(10,.bool true),(11,.bool true)]) 0 ⟨rfl,rfl⟩ ?_
 rintro m ρ h2 ⟨rfl,rfl⟩ K2 hK2
 dsimp only [L.aP.l1]
 simp only [aK]
 refine aa fun z hz=>?_
 have ew:IntKind.i64.wrap ((l.length:Int)-0)=l.length:=by rw [b8 (by omega) (by omega)];omega
 simp [ew]
 rw [hz];clear hz z
 refine aa fun z hz=>?_
 have h12:(l.length:Int)≤12:=by omega
 have ew2:IntKind.i64.wrap (l.length:Int)=l.length:=b8 (by omega) (by omega)
 simp [ew2,hl,h12]
 refine af (by kernel_rfl) (zS k w hk hl hr) ?_
 rintro _ h3 hx
 exact hK _ _ hx
theorem G0 {n:Nat} {h:Heap} (hn:n≤1000000):aD Tryz.prog N.uo #[.int .u64 n] h (fun u h'=>(∃ i:Int,u = .int .i64 i)∧h'=h):=by
 rintro w rfl
 refine (Tryz.bits_Len (n:Int) w (by omega) (by omega)).mono ?_
 rintro e w' ⟨rfl,rfl⟩
 exact ⟨_,rfl,⟨⟨_,rfl⟩,rfl⟩,Same.refl _⟩
theorem yI (k:Key) {l:List InD} {v:Value} {h:Heap} {W:View} {o:Own} (w:Owns W h o) (hk:o k=it T.dq v l) (hl:l.length≤12) (hr : ∀ x∈l,0≤x.frm∧x.frm≤100000) :
  aD Tryz.prog N.cA #[v,.func (.func N.bI) #[] #[]] h (fun _ h'=>∃ l',l'.Perm l∧iK l'∧Owns W h' (o.upd k (it T.dq v l'))):=by
 refine ao (args:=[v,.func (.func N.bI) #[] #[]]) follows F.cA E.cA (Nat.le_of_ble_eq_true (by kernel_rfl)) fun Kc hK=>?_
 dsimp only [L.cA]
 have s:=w.now hk
 refine aa fun z hz=>?_
 simp [s.len]
 rw [hz];clear hz z
 have ew:IntKind.u64.wrap (l.length:Int)=l.length:=by rw [IntKind.wrap_u64];omega
 simp [ew]
 refine af (by kernel_rfl) (G0 (by omega)) ?_
 rintro _ h2 ⟨⟨i,rfl⟩,rfl⟩
 refine af (by kernel_rfl) (GV k w hk hl hr) ?_
 rintro _ h3 hx
 exact hK _ _ hx
end Go.Proofs.YtbkdlhkoiagbbaaGreat
namespace Go.Proofs.YtbkdlhkoiagbbaaGreat
open Go Go.Lft
def putE (E:List (Int × Int)) (n:Nat) (a b:Int):Option Int:=if (a,b)∈E then some ((n:Int)+E.idxOf (a,b)) else none
theorem DI {n:Nat} {a b:Int}:putE [] n a b=none:=by simp [putE]
theorem BF {E:List (Int × Int)} {x:Int × Int} {n:Nat} (hx:x∉E) (a b:Int):putE (E++[x]) n a b=if a=x.1∧b=x.2 then some ((n:Int)+E.length) else putE E n a b:=by
 have he:a=x.1∧b=x.2↔(a,b)=x:=by cases x;simp
 unfold putE
 by_cases h:(a,b)=x
 ·rw [if_pos (he.2 h),h,if_pos (by simp),List.idxOf_append,if_neg hx]
  simp
 ·rw [if_neg (fun e=>h (he.1 e))]
  by_cases h2:(a,b)∈E
  ·rw [if_pos (by simp [h2]),if_pos h2,List.idxOf_append,if_pos h2]
  ·rw [if_neg (by simp [h2,h]),if_neg h2]
theorem jK {E:List (Int × Int)} {n:Nat} {a b x:Int} (h:putE E n a b=some x):(n:Int)≤x∧x<n+E.length∧(a,b)∈E:=by
 unfold putE at h
 split at h
 ·rename_i hm
  have:=List.idxOf_lt_length_iff.2 hm
  cases h;exact ⟨by omega,by omega,hm⟩
 ·cases h
def toE (E:List (Int × Int)) (n:Nat) (a t:Int):Int:=(putE E n a t).getD t
def frmE (E:List (Int × Int)) (n:Nat) (b:Int) (x:InD):InD:=⟨(putE E n x.frm b).getD x.frm,x.val⟩
def srt (l:List InD):List InD:=l.mergeSort fun x y=>decide (x.frm≤y.frm)
theorem na {l:List InD}:(srt l).Perm l:=List.mergeSort_perm _ _
theorem s7 {l:List InD}:iK (srt l):=by
 have:=List.pairwise_mergeSort (le:=fun x y:InD=>decide (x.frm≤y.frm)) (fun a b c h1 h2=>by simp at *;omega) (fun a b=>by simp;omega) l
 exact this.imp fun h=>by simpa using h
theorem tK {l l':List InD} (hp:l'.Perm l) (hr:iK l') (hn:(l.map (·.frm)).Nodup):l'=srt l:=by
 refine List.Perm.eq_of_pairwise (le:=fun x y:InD=>x.frm≤y.frm) (fun a b ha hb h1 h2=>?_) hr s7 (hp.trans na.symm)
 have ha:=hp.subset ha
 have hb:=na.subset hb
 obtain ⟨i,hi,rfl⟩:=List.getElem_of_mem ha
 obtain ⟨j,hj,rfl⟩:=List.getElem_of_mem hb
 have:i=j:=(List.getElem_inj (xs:=l.map (·.frm)) (h₀:=by simpa using hi) (h₁:=by simpa using hj) hn).1 (by simp;omega)
 subst this;rfl
def phE (E:List (Int × Int)) (n:Nat) (a:Int) (p:PhiD):PhiD:=⟨p.dst,srt (p.ins.map (frmE E n a))⟩
def tmE (E:List (Int × Int)) (n:Nat) (a:Int) (t:dQ):dQ:={ t with to:=t.to.map (toE E n a) }
def blE (E:List (Int × Int)) (n:Nat) (a:Int) (d:BlkD):BlkD:=⟨d.phis.map (phE E n a),d.ins,tmE E n a d.term⟩
def fJ (b:Int):BlkD:=⟨[],[],⟨1,[],[b],⟨0⟩⟩⟩
def onE (E:List (Int × Int)) (f:ah):ah:=⟨f.params,rows (fun a=>blE E f.blocks.length a (nth f.blocks a)) f.blocks.length++E.map fun e=>fJ e.2⟩
def dI (f:ah):List (Int × Int):=fN (ofG f.blocks)
def dO (f:ah):ah:=onE (dI f) f
def AO (f:ah):Prop:=∀ b,b<f.blocks.length→∀ i,i<(nth f.blocks b).phis.length→(nth (nth f.blocks b).phis i).ins.length≤12∧((nth (nth f.blocks b).phis i).ins.map (·.frm)).Nodup∧∀ x∈(nth (nth f.blocks b).phis i).ins,0≤x.frm∧x.frm<f.blocks.length
theorem tU {E:List (Int × Int)} {n:Nat} {b:Int} {l:List InD} (h1:(l.map (·.frm)).Nodup) (h2 : ∀ x∈l,0≤x.frm∧x.frm<n):((l.map (frmE E n b)).map (·.frm)).Nodup:=by
 rw [List.map_map]
 rw [List.Nodup,List.pairwise_map] at h1 ⊢
 refine List.Pairwise.imp_of_mem (fun {x y} hx hy h e=>h ?_) h1
 simp only [Function.comp,frmE] at e
 have gx:=h2 x hx
 have gy:=h2 y hy
 cases px:putE E n x.frm b with
 | none=>
  cases py:putE E n y.frm b with
  | none=>rw [px,py] at e;exact e
  | some q=>rw [px,py] at e;have:=jK py;simp only [Option.getD_none,Option.getD_some] at e;omega
 | some p=>
  cases py:putE E n y.frm b with
  | none=>rw [px,py] at e;have:=jK px;simp only [Option.getD_none,Option.getD_some] at e;omega
  | some q=>
   rw [px,py] at e
   simp only [Option.getD_some] at e
   subst e
   unfold putE at px py
   split at px
   ·rename_i m1
    split at py
    ·rename_i m2
     have l1:=List.idxOf_lt_length_iff.2 m1
     have l2:=List.idxOf_lt_length_iff.2 m2
     have e2:E.idxOf (x.frm,b)=E.idxOf (y.frm,b):=by
      have a1:=Option.some.inj px;have a2:=Option.some.inj py;omega
     have q1:=List.getElem_idxOf l1
     have q2:=List.getElem_idxOf l2
     have:(x.frm,b)=(y.frm,b):=by rw [←q1,←q2];congr 1
     exact (Prod.mk.inj this).1
    ·cases py
   ·cases px
theorem tw:Tw Tryz.prog T.kh T.int:=⟨U.kh,U.int,by kernel_rfl⟩
section
variable {H:View} {a b c:Value}
@[simp] theorem I4:Un.ev H (.ext 0) (.tuple #[a,b])=some a:=rfl
@[simp] theorem IZ:Un.ev H (.ext 1) (.tuple #[a,b])=some b:=rfl
@[simp] theorem I3:Un.ev H (.ext 0) (.tuple #[a,b,c])=some a:=rfl
@[simp] theorem I2:Un.ev H (.ext 1) (.tuple #[a,b,c])=some b:=rfl
@[simp] theorem I1:Un.ev H (.ext 2) (.tuple #[a,b,c])=some c:=rfl
end
end Go.Proofs.YtbkdlhkoiagbbaaGreat
namespace Go.Proofs.YtbkdlhkoiagbbaaGreat
open Go Go.Lft
section
variable {W:View} {h:Heap} {K:Nat} {ob:Own} {vb:Value} {V:Nat→Bv} {f:ah} {b:Nat} {d:BlkD}
theorem Wt.DN (w:Wt W h K ob vb V (aT f b d)) (hb:b<f.blocks.length):an (vw h) (((slA vb).add (b*6)).add 0)=some (V b).p∧an (vw h) ((((slA vb).add (b*6)).add 2).add 2)=some (V b).t:=by
 obtain ⟨o,w,g,r⟩:=w.ex
 have hl:b<(rows (fun c=>bkO (V c) (nth (aT f b d).blocks c)) (aT f b d).blocks.length).length:=by simpa [jr] using hb
 have a:=(w.now g.blk).at hl
 rw [gm hl] at a
 exact ⟨(a.part BkO.ko).raw,((a.part BkO.lj).part TmO.Af).raw⟩
end
theorem Em {α:Type} [Inhabited α] {l m:List α} {i:Nat} (h:i<l.length):nth (l++m) i=nth l i:=by
 rw [ak (show i<(l++m).length by rw [List.length_append];omega),ak h,List.getElem_append_left h]
theorem tP {d:BlkD} {i:Nat} {p q:PhiD}:fB (fB d i p) i q=fB d i q:=by unfold fB;dsimp only;rw [List.set_set]
theorem Wt.phLd {W:View} {h:Heap} {K:Nat} {ob:Own} {vb:Value} {V:Nat→Bv} {f:ah} {b i:Nat} {d:BlkD} (w:Wt W h K ob vb V (aT f b d)) (hb:b<f.blocks.length) (hi:i<d.phis.length) :
  Un.ev (vw h) (.au 2) (.pointer (some ((slA (V b).p).add (i*2))))=some (.agg #[.int .i64 (nth d.phis i).dst,(V b).pin i])∧((V b).pin i).oneCell'=true∧I64 (nth d.phis i).dst:=by
 obtain ⟨o,w,g,r⟩:=w.ex
 have hl:i<(rows (phO (V b) d) d.phis.length).length:=by simpa using hi
 obtain ⟨u,hu,hr⟩:=Owns.ldW w (g.cur hb).phis rfl (N:=2) rfl hl
 rw [gm hl] at hr
 obtain ⟨cs,rfl,c1,r1,e1,⟨q1,o1⟩,q2,o2⟩:=hr
 have q1:c1=[.int .i64 (nth d.phis i).dst]:=q1
 have q2:r1=[(V b).pin i]:=q2
 have he:cs.toList = #[Value.int .i64 (nth d.phis i).dst,(V b).pin i].toList:=by rw [e1,q1,q2];rfl
 exact ⟨by rw [hu,Array.toList_inj.1 he],o2,o1⟩
def spTo (ed:List (Int × Int)) (f:ah) (k:Nat):ah:=⟨f.params,rows (fun a=>if a<k then blE ed f.blocks.length a (nth f.blocks a) else nth f.blocks a) f.blocks.length++ed.map fun e=>fJ e.2⟩
section
variable {ed:List (Int × Int)} {f:ah} {k:Nat}
theorem xu:(spTo ed f k).blocks.length=f.blocks.length+ed.length:=by simp [spTo]
theorem CM (hk:k<f.blocks.length):aT (spTo ed f k) k (nth f.blocks k)=spTo ed f k:=by
 have:nth (spTo ed f k).blocks k=nth f.blocks k:=by
  unfold spTo;dsimp only
  rw [Em (by simpa using hk),df hk,if_neg (Nat.lt_irrefl _)]
 rw [←this]
 exact xJ (by rw [xu];omega)
theorem B9 (hk:k<f.blocks.length):aT (spTo ed f k) k (blE ed f.blocks.length k (nth f.blocks k))=spTo ed f (k+1):=by
 unfold aT spTo
 dsimp only
 rw [List.set_append_left _ _ (by simpa using hk),kt (y:=fun a=>if a<k+1 then blE ed f.blocks.length a (nth f.blocks a) else nth f.blocks a) hk (by rw [if_pos (Nat.lt_succ_self k)])]
 intro j hj hne
 by_cases h:j<k
 ·rw [if_pos h,if_pos (by omega)]
 ·rw [if_neg h,if_neg (by omega)]
theorem Cc:spTo ed f 0=⟨f.params,f.blocks++ed.map fun e=>fJ e.2⟩:=by
 unfold spTo
 congr 2
 refine List.ext_getElem (by simp) fun i h1 h2=>?_
 rw [gm,if_neg (Nat.not_lt_zero _),ak h2]
theorem CO:spTo ed f f.blocks.length=onE ed f:=by
 unfold spTo onE
 congr 2
 refine List.ext_getElem (by simp) fun i h1 h2=>?_
 rw [gm,gm,if_pos (by simpa using h1)]
end
def d4 (ed:List (Int × Int)) (n:Nat) (a:Int) (x:BlkD) (i:Nat):BlkD:=fR x (fC (toE ed n a) x.term.to i)
def d5 (ed:List (Int × Int)) (n:Nat) (a:Int) (x:BlkD) (i:Nat):BlkD:=⟨fC (phE ed n a) x.phis i,x.ins,tmE ed n a x.term⟩
section
variable {ed:List (Int × Int)} {n:Nat} {a:Int} {x:BlkD} {i:Nat}
theorem Fi:d4 ed n a x 0=x:=by unfold d4;rw [pM];rfl
theorem GA:d4 ed n a x x.term.to.length=d5 ed n a x 0:=by unfold d4 d5;rw [qK,pM];rfl
theorem GQ:d5 ed n a x x.phis.length=blE ed n a x:=by unfold d5 blE;rw [qK]
end
section
variable {H:View}
theorem Dr (K:Nat) {f:ah} {ed:List (Int × Int)} {W:View} {ob:Own} {vb:Value} {V:Nat→Bv} {h:Heap} {B R D r:Nat} {es:Array MapEntry} {ck:Nat} {Q:Post} {ρ:Env}
  (sm:SmF f) (hin:AO f) (hlen:f.blocks.length+ed.length≤512) (cb : ∃ v,an W ⟨B,1,none⟩=some v∧SlRd W v f.blocks)
  (hD:ob (K+10,0)=bx T.aI D (RawN.mk (n:=1) [.int .i64 f.params,vb])) (hX:ob (K+11,2)=none) (hr:W r=some (.map es ck)) (m0:Map2 h r fun a b=>(putE ed f.blocks.length a b).map (.int .i64))
  (t0:Wt W h K ob vb V (spTo ed f 0)) (hρ:bm [1,2,11,12,98,99] ρ=[(1,.pointer (some ⟨B,0,none⟩)),(2,.pointer (some ⟨R,0,none⟩)),(11,.pointer (some ⟨D,0,none⟩)),(12,.map (some r)),(98,.int .i64 f.blocks.length),(99,.int .i64 0)])
  (done : ∀ h',Wt W h' K ob vb V (onE ed f)→Q .normal [(1,.pointer (some ⟨B,0,none⟩)),(2,.pointer (some ⟨R,0,none⟩)),(11,.pointer (some ⟨D,0,none⟩)),(12,.map (some r)),(98,.int .i64 f.blocks.length),(99,.int .i64 f.blocks.length)] h') :
  LC.wp Tryz.prog (.loop L.bQ.l3) (eo 4 Q) ρ h:=by
 have mp : ∀ {h':Heap},W.le (vw h')→Map2 h' r fun a b=>(putE ed f.blocks.length a b).map (.int .i64):=fun {h'} hle=>m0.same (by
  have e1:h'[r]? = some (.map es ck):=hle r _ hr
  have e2:h[r]? = some (.map es ck):=t0.wle r _ hr
  rw [e1,e2])
 have hl:=sm.len
 refine aV [1,2,11,12,98,99] (fun (_:Unit) k=>[.pointer (some ⟨B,0,none⟩),.pointer (some ⟨R,0,none⟩),.pointer (some ⟨D,0,none⟩),.map (some r),.int .i64 f.blocks.length,.int .i64 k])
  (fun _ k h1=>Wt W h1 K ob vb V (spTo ed f k)) f.blocks.length ()
  rfl (by omega) hρ t0 (fun _ _=>rfl) (fun _ k h2 hk _=>by simp) ?_ ?_
 ·rintro _ k h1 hk t1 K2 hK2
  have hb:k<(spTo ed f k).blocks.length:=by rw [xu];omega
  rw [←CM hk] at t1
  have hsb:=sm.blk k hk
  have hik:=hin k hk
  generalize hx:nth f.blocks k=x at t1 hsb hik
  have c1:an (vw h1) ⟨D,1,none⟩=some vb:=t1.raw (k:=(K+10,0)) (by simp) hD (i:=1) (by decide)
  have sB:=t1.blks
  have hkl:k<(aT (spTo ed f k) k x).blocks.length:=by rw [jr];exact hb
  obtain ⟨cp,ct⟩:=t1.DN hb
  refine aa fun y hy=>?_
  simp
  rw [hy];clear hy y
  refine aa fun y hy=>?_
  simp (disch:=omega) [c1,sB.idxn (N:=6) rfl]
  rw [hy];clear hy y
  refine aa fun y hy=>?_
  have t1:Wt W h1 K ob vb V (aT (spTo ed f k) k (d4 ed f.blocks.length k x 0)):=by rw [Fi];exact t1
  have hto:=hsb.to
  have hl0:(d4 ed f.blocks.length k x 0).term.to.length=x.term.to.length:=ke
  simp [ct,(t1.to hb).len,hl0]
  refine aV [1,2,11,12,15,16,98,99,110,111,112] (fun (_:Unit) i=>[.pointer (some ⟨B,0,none⟩),.pointer (some ⟨R,0,none⟩),.pointer (some ⟨D,0,none⟩),.map (some r),.int .i64 k,.pointer (some ((slA vb).add (k*6))),.int .i64 f.blocks.length,.int .i64 k,(V k).t,.int .i64 x.term.to.length,.int .i64 i])
   (fun _ i h2=>Wt W h2 K ob vb V (aT (spTo ed f k) k (d4 ed f.blocks.length k x i))) x.term.to.length ()
   rfl (by omega) rfl t1 (fun _ _=>rfl) (fun _ i h2 hk _=>by simp) ?_ ?_
  ·rintro _ i h2 hi t2 K3 hK3
   have hi2:i<(d4 ed f.blocks.length k x i).term.to.length:=by show i<(fC _ _ _).length;rw [ke];exact hi
   obtain ⟨g1,g2,g3⟩:=t2.ixT hb hi2
   have e2:nth (d4 ed f.blocks.length k x i).term.to i=nth x.term.to i:=oq hi
   rw [e2] at g2 g3
   refine aa fun y2 hy2=>?_
   simp [g1,g2]
   rw [hy2];clear hy2 y2
   refine aa fun y2 hy2=>?_
   simp
   refine aR (z:=.agg #[.int .i64 0,.int .i64 0]) (places:=[(0,1),(1,1)]) (vs:=[(0,.int .i64 k),(1,.int .i64 (nth x.term.to i))]) (cs:=#[.int .i64 k,.int .i64 (nth x.term.to i)]) (by kernel_rfl) (by kernel_rfl) (by simp) rfl ?_
   refine yu (a:=k) (b:=nth x.term.to i) (z:=.int .i64 0) tw U.jO (by kernel_rfl) rfl rfl (mp t2.wle) ?_
   have hset:(d4 ed f.blocks.length k x i).term.to.set i (toE ed f.blocks.length k (nth x.term.to i))=(d4 ed f.blocks.length k x (i+1)).term.to:=pb hi
   cases hp:putE ed f.blocks.length k (nth x.term.to i) with
   | none=>
    simp
    rw [hy2];clear hy2 y2
    simp
    refine hK3 () _ _ rfl rfl ?_
    have e3:toE ed f.blocks.length k (nth x.term.to i)=nth x.term.to i:=by unfold toE;rw [hp];rfl
    have e4:d4 ed f.blocks.length k x (i+1)=d4 ed f.blocks.length k x i:=by
     have:(d4 ed f.blocks.length k x (i+1)).term.to=(d4 ed f.blocks.length k x i).term.to:=by
      rw [←hset,e3,←e2,ak hi2,List.set_getElem_self]
     unfold d4 fR at this ⊢
     dsimp only at this
     rw [this]
    rw [e4];exact t2
   | some q=>
    simp
    rw [hy2];clear hy2 y2
    have ct2:=(t2.DN hb).2
    simp [ct2,g1]
    have hq:=jK hp
    refine t2.tt hb hi2 (by kernel_rfl) rfl rfl (v:=q) (by constructor<;>omega) fun h3 t3=>?_
    refine hK3 () _ _ rfl rfl ?_
    have e3:toE ed f.blocks.length k (nth x.term.to i)=q:=by unfold toE;rw [hp];rfl
    rw [e3] at hset
    rw [hset] at t3
    exact t3
  ·rintro _ h2 t2
   rw [GA] at t2
   rw [bH,hy];clear hy y
   have cp2:=(t2.DN hb).1
   have hph:=hsb.phis
   have hl5 : ∀ i,(d5 ed f.blocks.length k x i).phis.length=x.phis.length:=fun i=>ke
   have s2:=t2.phN hb
   have sl2:Un.ev (vw h2) .len (V k).p=some (.int .i64 x.phis.length):=by
    have:=s2.len (K:=vw h2)
    simpa [hl5] using this
   refine aa fun y hy=>?_
   simp [cp2,sl2]
   rw [hy];clear hy y
   refine aV [1,2,11,12,15,98,99,138,139,140] (fun (_:Unit) i=>[.pointer (some ⟨B,0,none⟩),.pointer (some ⟨R,0,none⟩),.pointer (some ⟨D,0,none⟩),.map (some r),.int .i64 k,.int .i64 f.blocks.length,.int .i64 k,(V k).p,.int .i64 x.phis.length,.int .i64 i])
    (fun _ i h2=>Wt W h2 K ob vb V (aT (spTo ed f k) k (d5 ed f.blocks.length k x i))) x.phis.length ()
    rfl (by omega) rfl t2 (fun _ _=>rfl) (fun _ i h2 hk _=>by simp) ?_ ?_
   ·rintro _ i h3 hi t3 K3 hK3
    have hi3:i<(d5 ed f.blocks.length k x i).phis.length:=by rw [hl5];exact hi
    have ix:=t3.ixP hb hi3
    have e3:nth (d5 ed f.blocks.length k x i).phis i=nth x.phis i:=oq hi
    have lds:=t3.phLd hb hi3
    rw [e3] at lds
    refine aa fun y2 hy2=>?_
    simp [ix,lds.1]
    obtain ⟨o3,w3,g3,r3⟩:=t3.ex
    refine w3.xo (k:=(K+11,2)) (n:=1) (l:=[.int .i64 (nth x.phis i).dst,(V k).pin i]) ((r3 _ (by simp)).trans hX) (z:=.agg #[.int .i64 0,.slice none 0 0]) (by kernel_rfl) rfl (by kernel_rfl) rfl (by decide) (gz lds.2.1) (fun _=>by simp) (fun _=>by simp) fun h4 q4 w4=>?_
    generalize h3.size=X at w4
    obtain ⟨oc,hoc⟩ : ∃ oc,oc=ob.upd (K+11,2) (bx T.dB X (RawN.mk (n:=1) [.int .i64 (nth x.phis i).dst,(V k).pin i])):=⟨_,rfl⟩
    have kX:oc (K+11,2)=bx T.dB X (RawN.mk (n:=1) [.int .i64 (nth x.phis i).dst,(V k).pin i]):=by rw [hoc,Own.ag]
    have es5:fB (d5 ed f.blocks.length k x i) i ⟨(nth x.phis i).dst,fC (frmE ed f.blocks.length k) (nth x.phis i).ins 0⟩=d5 ed f.blocks.length k x i:=by
     rw [pM]
     have:(⟨(nth x.phis i).dst,(nth x.phis i).ins⟩:PhiD)=nth (d5 ed f.blocks.length k x i).phis i:=by rw [e3]
     rw [this];unfold fB
     rw [ak hi3,List.set_getElem_self]
    have t4:Wt W h4 K oc vb V (aT (spTo ed f k) k (fB (d5 ed f.blocks.length k x i) i ⟨(nth x.phis i).dst,fC (frmE ed f.blocks.length k) (nth x.phis i).ins 0⟩)):=by
     rw [es5]
     refine ⟨_,w4,g3.upd (by simp),fun q hq=>?_⟩
     rw [hoc];unfold Own.upd;split
     ·rfl
     ·exact r3 q hq
    have hs8 : ∀ l:List InD,nth (fB (d5 ed f.blocks.length k x i) i ⟨(nth x.phis i).dst,l⟩).phis i=⟨(nth x.phis i).dst,l⟩:=fun l=>by unfold fB;dsimp only;rw [aJ hi3,if_pos rfl]
    have hn8 : ∀ l:List InD,i<(fB (d5 ed f.blocks.length k x i) i ⟨(nth x.phis i).dst,l⟩).phis.length:=fun l=>by show i<(List.set _ _ _).length;rw [List.length_set];exact hi3
    have cX : ∀ {h':Heap} {d:BlkD},Wt W h' K oc vb V (aT (spTo ed f k) k d)→an (vw h') ⟨X,1,none⟩=some ((V k).pin i):=fun t=>t.raw (k:=(K+11,2)) (by simp) kX (i:=1) (by decide)
    obtain ⟨i12,ind,irg⟩:=hik i hi
    clear w3 g3 r3 w4 t3
    rw [hy2];clear hy2 y2
    refine aa fun y2 hy2=>?_
    have s4:=(t4.pin hb (hn8 _)).len (K:=vw h4)
    rw [hs8] at s4
    have hl4:(fC (frmE ed f.blocks.length k) (nth x.phis i).ins 0).length=(nth x.phis i).ins.length:=ke
    simp [cX t4,s4,hl4]
    refine aV [1,2,11,12,15,22,98,99,138,139,140,146,147] (fun (_:Unit) j=>[.pointer (some ⟨B,0,none⟩),.pointer (some ⟨R,0,none⟩),.pointer (some ⟨D,0,none⟩),.map (some r),.int .i64 k,.pointer (some ⟨X,0,none⟩),.int .i64 f.blocks.length,.int .i64 k,(V k).p,.int .i64 x.phis.length,.int .i64 i,.int .i64 (nth x.phis i).ins.length,.int .i64 j])
     (fun _ j h5=>Wt W h5 K oc vb V (aT (spTo ed f k) k (fB (d5 ed f.blocks.length k x i) i ⟨(nth x.phis i).dst,fC (frmE ed f.blocks.length k) (nth x.phis i).ins j⟩))) (nth x.phis i).ins.length ()
     rfl (by omega) rfl t4 (fun _ _=>rfl) (fun _ j h5 hk _=>by simp) ?_ ?_
    ·rintro _ j h5 hj t5 K4 hK4
     have hj5:j<(nth (fB (d5 ed f.blocks.length k x i) i ⟨(nth x.phis i).dst,fC (frmE ed f.blocks.length k) (nth x.phis i).ins j⟩).phis i).ins.length:=by rw [hs8];show j<(fC _ _ _).length;rw [ke];exact hj
     obtain ⟨g1,g2,g3,g4,g5⟩:=t5.ixN hb (hn8 _) hj5
     have ej:nth (nth (fB (d5 ed f.blocks.length k x i) i ⟨(nth x.phis i).dst,fC (frmE ed f.blocks.length k) (nth x.phis i).ins j⟩).phis i).ins j=nth (nth x.phis i).ins j:=by rw [hs8];exact oq hj
     rw [ej] at g2 g3 g4 g5
     have hset:(fC (frmE ed f.blocks.length k) (nth x.phis i).ins j).set j (frmE ed f.blocks.length k (nth (nth x.phis i).ins j))=fC (frmE ed f.blocks.length k) (nth x.phis i).ins (j+1):=pb hj
     refine aa fun y3 hy3=>?_
     simp
     rw [hy3];clear hy3 y3
     refine aa fun y3 hy3=>?_
     simp [cX t5,g1,g2]
     refine aR (z:=.agg #[.int .i64 0,.int .i64 0]) (places:=[(0,1),(1,1)]) (vs:=[(0,.int .i64 (nth (nth x.phis i).ins j).frm),(1,.int .i64 k)]) (cs:=#[.int .i64 (nth (nth x.phis i).ins j).frm,.int .i64 k]) (by kernel_rfl) (by kernel_rfl) (by simp) rfl ?_
     refine yu (a:=(nth (nth x.phis i).ins j).frm) (b:=k) (z:=.int .i64 0) tw U.jO (by kernel_rfl) rfl rfl (mp t5.wle) ?_
     cases hp:putE ed f.blocks.length (nth (nth x.phis i).ins j).frm k with
     | none=>
      simp
      rw [hy3];clear hy3 y3
      simp
      refine hK4 () _ _ rfl rfl ?_
      have e6:frmE ed f.blocks.length k (nth (nth x.phis i).ins j)=nth (nth x.phis i).ins j:=by unfold frmE;rw [hp];rfl
      have e7:fC (frmE ed f.blocks.length k) (nth x.phis i).ins (j+1)=fC (frmE ed f.blocks.length k) (nth x.phis i).ins j:=by
       rw [←hset,e6]
       have hjm:j<(fC (frmE ed f.blocks.length k) (nth x.phis i).ins j).length:=by rw [ke];exact hj
       have e8:nth (nth x.phis i).ins j=nth (fC (frmE ed f.blocks.length k) (nth x.phis i).ins j) j:=(oq hj).symm
       rw [e8,ak hjm,List.set_getElem_self]
      rw [e7];exact t5
     | some q=>
      simp
      rw [hy3];clear hy3 y3
      simp [cX t5,g1]
      have hq:=jK hp
      refine t5.pf hb (hn8 _) hj5 (by kernel_rfl) rfl rfl (v:=q) (by constructor<;>omega) fun h6 t6=>?_
      refine hK4 () _ _ rfl rfl ?_
      have e6:frmE ed f.blocks.length k (nth (nth x.phis i).ins j)=⟨q,(nth (nth x.phis i).ins j).val⟩:=by unfold frmE;rw [hp];rfl
      rw [e6] at hset
      rw [ej,tP,hs8] at t6
      rw [←hset]
      exact t6
    ·rintro _ h5 t5
     rw [qK] at t5
     rw [bH,hy2];clear hy2 y2
     simp [cX t5]
     obtain ⟨o5,w5,g5,r5⟩:=t5.ex
     have hpin:=(g5.cur hb).pin i (hn8 _)
     rw [hs8] at hpin
     refine af (by kernel_rfl) (yI (K+5,pr k i) w5 hpin (by rw [List.length_map];exact i12) (fun z hz=>by
      obtain ⟨z0,hz0,rfl⟩:=List.mem_map.1 hz
      have h1:=irg z0 hz0
      unfold frmE
      dsimp only
      cases hp:putE ed f.blocks.length z0.frm k with
      | none=>simp only [Option.getD_none];omega
      | some q=>have:=jK hp;simp only [Option.getD_some];omega)) ?_
     rintro _ h6 ⟨l',hperm,hris,w6⟩
     have hl':=tK hperm hris (tU ind irg)
     subst hl'
     have bo5:=(g5.cur hb).Gb (o':=o5.upd (K+5,pr k i) (it T.dq ((V k).pin i) (srt ((nth x.phis i).ins.map (frmE ed f.blocks.length k))))) (l:=srt ((nth x.phis i).ins.map (frmE ed f.blocks.length k))) (hn8 _) fun _=>rfl
     rw [hs8,tP] at bo5
     have t6:=Wt.wr (d':=fB (d5 ed f.blocks.length k x i) i (phE ed f.blocks.length k (nth x.phis i))) g5 r5 hb w6 ofB5 rfl bo5
     rw [hoc] at t6
     refine hK3 () _ _ rfl rfl ?_
     have e9:fB (d5 ed f.blocks.length k x i) i (phE ed f.blocks.length k (nth x.phis i))=d5 ed f.blocks.length k x (i+1):=by
      unfold fB d5
      rw [←pb hi]
     rw [←e9]
     exact t6.drop hX (by simp)
   ·rintro _ h3 t3
    rw [GQ,←hx,B9 hk] at t3
    exact hK2 () _ _ rfl rfl t3
 ·rintro _ h1 t1
  rw [CO] at t1
  exact done h1 t1
end
end Go.Proofs.YtbkdlhkoiagbbaaGreat
namespace Go.Proofs.YtbkdlhkoiagbbaaGreat
open Go Go.Lft
def cntT (f:ah):Nat→Nat
 | 0=>0
 | k+1=>cntT f k+((nth f.blocks k).phis.length+(nth f.blocks k).ins.length+1)
theorem AD {f:ah} (sm:SmF f) : ∀ k,k≤f.blocks.length→cntT f k≤2000001*k
 | 0,_=>by simp [cntT]
 | k+1,hk=>by
  have h1:=AD sm k (by omega)
  have h2:=(sm.blk k (by omega)).phis
  have h3:=(sm.blk k (by omega)).ins
  unfold cntT;omega
def pZ (f:ah):Bool:=decide (512<f.blocks.length+(dI f).length)||decide (4096<(dI f).length+cntT f f.blocks.length)
def iH (f:ah):Int:=if (kF f).1≠0 then (kF f).1 else if pZ f then 2 else 0
theorem Owns.FV {po:OP} {P:Program} {W:View} {h:Heap} {o:Own} {k:Key} {t e ty:TypeId} {us:List (Nat × Value)} {x:Operand} {d:Int} {K:Value→Heap→Prop} (w:Owns W h o) (hk:o k=none) (hT:et P t e 1 8 (.int .i64 0)) (hx:asg us x = .int .i64 d) (hd:I64 d)
  (hK : ∀ u h',(vw h).le (vw h')→Owns W h' (o.upd k (it e u [d]))→u.oneCell'=true→K u h'):@Lft.step po P (.buildSlice t 1 #[(0,x)]) ty us h K:=by
 refine rV (vs:=[(0,.int .i64 d)]) (cs:=#[.int .i64 d]) hT (by omega) (by simp [hx]) (by
  have e1:Array.map (fun x=>(Value.int .i64 0).cells[x % (Value.int .i64 0).cells.size]!) (Array.range (1*1)) = #[.int .i64 0]:=by
   simp [Array.range,Value.cells];rfl
  rw [e1];rfl) ?_
 have hle:=bN h (.cells #[.int .i64 d] e)
 have hb:(h.push (.cells #[.int .i64 d] e))[h.size]? = some (.cells #[.int .i64 d] e (0,0)):=by simp
 generalize h.push (.cells #[.int .i64 d] e)=h1 at hle hb
 exact hK _ _ hle (w.add hk (kL (W:=W) (v:=.int .i64 d) (d:=d) hb (dN.2 ⟨rfl,hd⟩) (by decide)) hle fun b hb=>by simp only [Value.ownBlock,Option.some.injEq] at hb;omega) rfl
theorem xf {α:Type} [Inhabited α] {l:List α} {k:Nat} (h:l.Nodup) (hk:k<l.length):nth l k∉l.take k:=by
 intro hm
 obtain ⟨i,hi,e⟩:=List.getElem_of_mem hm
 rw [List.getElem_take,ak hk] at e
 have:=(List.getElem_inj h).1 e
 simp at hi;omega
theorem Fj {n sz:Nat} {a:Addr} {k:IntKind} {i:Int} (h0:0≤i) (h1:i<n):Bn.ev (.aidx n sz) (.pointer (some a)) (.int k i)=some (.pointer (some (a.add (i.toNat*sz)))):=by simp [Bn.ev,vP,vI,h0,h1]
structure PutI (K:Nat) (f:ah) (ed:List (Int × Int)) (S:View) (r D:Nat) (ob:Own) (k:Nat) (h:Heap) (W:View) (o:Own) (vb:Value) (V:Nat→Bv):Prop where
 le:S.le W
 row : ∃ es c,W r=some (.map es c)
 w:Owns W h o
 fno:FnO K o vb V ⟨f.params,f.blocks++(ed.take k).map fun e=>fJ e.2⟩
 box:o (K+10,0)=bx T.aI D (RawN.mk (n:=1) [.int .i64 f.params,vb])
 fr : ∀ q:Key,(q.1<K∨K+6<q.1)→q≠(K+10,0)→o q=ob q
 free : ∀ b,f.blocks.length+k≤b→∀ q,OfB K b q→o q=none
 map:Map2 h r fun a b=>(putE (ed.take k) f.blocks.length a b).map (.int .i64)
theorem pU (K:Nat) {f:ah} {v:Value} {h:Heap} {W:View} {o0:Own} (w0:Owns W h o0) (ho0 : ∀ k:Key,K≤k.1→k.1≤K+13→o0 k=none) (hv:Rd W v f) (sm:SmF f) (hi:(kF f).1=0→AO f) :
    aD Tryz.prog N.bQ #[v] h (fun u h'=>∃ W',W.le W'∧
      ((iH f≠0∧u = .tuple #[.agg #[.int .i64 0,.slice none 0 0],.int .i64 (iH f)]∧Owns W' h' o0)∨
       (iH f=0∧∃ o' vb V,u = .tuple #[.agg #[.int .i64 f.params,vb],.int .i64 0]∧I64 f.params∧Owns W' h' o'∧FnO K o' vb V (dO f)∧∀ k:Key,(k.1<K∨K+6<k.1)→o' k=o0 k))):=by
  refine ao (args:=[v]) follows F.bQ E.bQ (Nat.le_of_ble_eq_true (by kernel_rfl)) fun Kc hK=>?_
  dsimp only [L.bQ]
  refine aa fun z hz=>?_
  simp
  refine Owns.FD w0 (d:=f) rfl hv fun B h1 W1 hW1 w1 hat hle1=>?_
  obtain ⟨cp,vb0,cb0⟩:=iy hat
  obtain ⟨uf,huf,rf⟩:=hat.au rfl
  have huf:Un.ev W1 (.au 2) (.pointer (some ⟨B,0,none⟩))=some uf:=huf
  have hufm : ∀ {H:View},W1.le H→Un.ev H (.au 2) (.pointer (some ⟨B,0,none⟩))=some uf:=fun hH=>by
    have:=dd (ρ:=fun _=>none) (e:=.un (.au 2) (.con (.pointer (some ⟨B,0,none⟩)))) hH (by simpa using huf)
    simpa using this
  refine w1.og (k:=(K+10,1)) (n:=1) (z:=.agg #[.int .i64 0,.slice none 0 0]) (ho0 _ (by simp) (by simp)) (by kernel_rfl) rfl (by decide) (by simp [Value.cells,Value.oneCell']) fun h2 q2 w2=>?_
  generalize h1.size=R at w2
  rw [hz];clear hz z
  refine aa fun z hz=>?_
  simp [hufm w2.wle]
  refine af (by kernel_rfl) (AX (rf.mono w2.wle) sm) ?_
  rintro _ h3 ⟨rfl,hle3⟩
  have w3:Owns W1 h3 (o0.upd (K+10,1) (bx T.aI R (RawN.mk (n:=1) [.int .i64 0,.slice none 0 0]))):=w2.ext' hle3
  have hw1 : ∀ k:Key,k≠(K+10,1)→(o0.upd (K+10,1) (bx T.aI R (RawN.mk (n:=1) [.int .i64 0,.slice none 0 0]))) k=o0 k:=fun k hk=>Own.ab hk
  simp
  rw [hz];clear hz z
  refine aa fun z hz=>?_
  obtain ⟨e,he⟩ : ∃ e,e=(kF f).1:=⟨_,rfl⟩
  have kR:(o0.upd (K+10,1) (bx T.aI R (RawN.mk (n:=1) [.int .i64 0,.slice none 0 0]))) (K+10,1)=bx T.aI R (RawN.mk (n:=1) [.int .i64 0,.slice none 0 0]):=Own.ag
  generalize o0.upd (K+10,1) (bx T.aI R (RawN.mk (n:=1) [.int .i64 0,.slice none 0 0]))=o1 at w3 hw1 kR
  simp [←he]
  refine ⟨fun e0=>?_,fun e0=>?_⟩
  rotate_left
  · refine aR (z:=.agg #[.int .i64 0,.slice none 0 0]) (places:=[(0,1),(1,1)]) (vs:=[]) (cs:=#[.int .i64 0,.slice none 0 0]) (by kernel_rfl) (by kernel_rfl) (by simp) (by rfl) ?_
    refine w3.jQ (k:=(K+10,1)) (e:=T.aI) (B:=R) Part.all (d:=RawN.mk (n:=1) [.int .i64 0,.slice none 0 0]) kR (by kernel_rfl) rfl rfl (iG rfl (gz rfl)) fun h4 w4 _=>?_
    have c4:Un.ev (vw h4) (.au 2) (.pointer (some ⟨R,0,none⟩))=some (.agg #[.int .i64 0,.slice none 0 0]):=w4.gD (k:=(K+10,1)) (n:=1) Own.ag
    simp [c4]
    have hs:iH f=e:=by unfold iH;rw [←he,if_pos e0]
    refine hK _ _ ⟨W1,?_,.inl ⟨by rw [hs];exact e0,by rw [hs],w4.sub fun q i hq=>?_⟩⟩
    · exact hW1
    · have hne:q≠(K+10,1):=by rintro rfl;rw [ho0 _ (by simp) (by simp)] at hq;cases hq
      rw [Own.ab hne,hw1 q hne];exact hq
  · have rf3:=rf.mono w3.wle
    obtain ⟨vb1,rfl,ip,sb1⟩:=qb rf
    have hin:=hi (he.symm.trans e0)
    rw [hz];clear hz z
    refine aa fun z hz=>?_
    simp [hufm w3.wle]
    refine af (by kernel_rfl) (pI (sb1.mono w3.wle) (Nat.le_trans sm.len (by decide)) fun i hi=>Nat.le_trans (sm.blk i hi).to (by decide)) ?_
    rintro ug h4 ⟨hle4,sg4⟩
    have sm4:Sm (ofG f.blocks):=zP (Nat.le_trans sm.len (by decide)) fun i hi=>Nat.le_trans (sm.blk i hi).to (by decide)
    refine af (by kernel_rfl) (rq (sg4.mono (eY _ _)) sm4) ?_
    rintro ue h5 ⟨hle5,se5⟩
    rw [hz];clear hz z
    have se5:SlRd (fresh h4 h5) ue (dI f):=se5
    generalize hE:dI f=ed at se5
    refine aa fun z hz=>?_
    simp [se5.len]
    rw [hz];clear hz z
    refine aa fun z hz=>?_
    have w5:=(w3.ext' hle4).ext hle5
    have hW5:W1.le (grow W1 h4 h5):=cu (View.le_trans w3.wle hle4)
    have eE:=se5.mono (eR W1 h4 h5)
    have sbm:=sb1.mono hW5
    have cp5:=ae hW5 cp
    have cb5:=ae hW5 cb0.1
    have sb5:=cb0.2.mono hW5
    have uf5 : ∀ {H:View},(grow W1 h4 h5).le H→Un.ev H (.au 2) (.pointer (some ⟨B,0,none⟩))=some (.agg #[.int .i64 f.params,vb1]):=fun hH=>hufm (View.le_trans hW5 hH)
    obtain ⟨W5,hW5e⟩ : ∃ W5,W5=grow W1 h4 h5:=⟨_,rfl⟩
    rw [←hW5e] at w5 hW5 eE sbm cp5 cb5 sb5 uf5
    clear hW5e
    have nX : ∀ i,o1 (K+11,i)=none:=fun i=>(hw1 _ (by simp)).trans (ho0 _ (by simp) (by simp))
    have cl:=fun k hk=>AD sm k hk
    have hl:=sm.len
    have hEl:ed.length≤1000000000000:=by rw [←hE];exact Nat.le_trans (List.length_filter_le _ _) (oU sm4)
    simp [ae w5.wle cb5,(sb5.mono w5.wle).len]
    refine aV [1,2,7,8,42,43,44] (fun (_:Unit) k=>[.pointer (some ⟨B,0,none⟩),.pointer (some ⟨R,0,none⟩),ue,.int .i64 ((ed.length+cntT f k:Nat):Int),vb0,.int .i64 f.blocks.length,.int .i64 k]) (fun _ k h6=>Owns W5 h6 o1) f.blocks.length ()
      rfl (by omega) rfl w5 (fun _ _=>rfl) (fun _ k h2 hk _=>by simp) ?_ ?_
    · rintro _ k h6 hk w6 K2 hK2
      obtain ⟨ux,hux,rux⟩:=sb5.wh rfl (N:=6) rfl hk
      have s6:=sb5.mono w6.wle
      refine aa fun y hy=>?_
      simp (disch:=omega) [s6.idxn (N:=6) rfl,hux _ w6.wle]
      refine w6.ox (k:=(K+11,0)) (α:=BlkD) (n:=6) (nX 0) rux rfl (z:=.agg #[.slice none 0 0,.slice none 0 0,.int .i64 0,.slice none 0 0,.slice none 0 0,.int .i32 0]) (by kernel_rfl) rfl (by kernel_rfl) (by decide) (fun _=>by simp) (fun _=>by simp) fun h7 q7 w7=>?_
      generalize h6.size=X at w7
      have hat7:=w7.at (k:=(K+11,0)) (d:=nth f.blocks k) (e:=T.aX) (B:=X) Own.ag
      obtain ⟨vp,vi,va,vt,gp,gi,_,_,_⟩:=mw hat7
      have hsb:=sm.blk k hk
      have b1:=hsb.phis
      have b2:=hsb.ins
      have b3:=cl k (by omega)
      rw [hy];clear hy y
      simp [gp.1,gp.2.len,gi.1,gi.2.len]
      rw [b8 (a:=((nth f.blocks k).phis.length:Int)+(nth f.blocks k).ins.length) (by omega) (by omega),b8 (a:=((nth f.blocks k).phis.length:Int)+(nth f.blocks k).ins.length+1) (by omega) (by omega),b8 (by omega) (by omega)]
      refine hK2 () _ _ rfl ?_ (w7.sub fun q i hq=>?_)
      · have ec:((ed.length+cntT f (k+1):Nat):Int)=(ed.length:Int)+cntT f k+((nth f.blocks k).phis.length+(nth f.blocks k).ins.length+1):=by
          show ((ed.length+(cntT f k+((nth f.blocks k).phis.length+(nth f.blocks k).ins.length+1)):Nat):Int)=_
          omega
        rw [ec]
        rfl
      · rw [Own.ab (by rintro rfl;rw [nX] at hq;cases hq)];exact hq
    · rintro _ h6 w6
      rw [bH,hz];clear hz z
      refine aa fun z hz=>?_
      simp [ae w6.wle cb5,(sb5.mono w6.wle).len,(eE.mono w6.wle).len]
      rw [b8 (by omega) (by omega)]
      obtain ⟨mb,hmb⟩ : ∃ mb,mb=(decide (512<(f.blocks.length:Int)+ed.length)||decide (4096<(ed.length:Int)+cntT f f.blocks.length)):=⟨_,rfl⟩
      have hmany:pZ f=mb:=by
        rw [hmb];unfold pZ;rw [hE]
        congr 1<;>exact decide_eq_decide.2 (by omega)
      rw [←hmb]
      cases mb with
      | true=>
        simp
        refine aR (z:=.agg #[.int .i64 0,.slice none 0 0]) (places:=[(0,1),(1,1)]) (vs:=[]) (cs:=#[.int .i64 0,.slice none 0 0]) (by kernel_rfl) (by kernel_rfl) (by simp) (by rfl) ?_
        refine w6.jQ (k:=(K+10,1)) (e:=T.aI) (B:=R) Part.all (d:=RawN.mk (n:=1) [.int .i64 0,.slice none 0 0]) kR (by kernel_rfl) rfl rfl (iG rfl (gz rfl)) fun h4 w4 _=>?_
        have c4:Un.ev (vw h4) (.au 2) (.pointer (some ⟨R,0,none⟩))=some (.agg #[.int .i64 0,.slice none 0 0]):=w4.gD (k:=(K+10,1)) (n:=1) Own.ag
        simp [c4]
        have hs:iH f=2:=by unfold iH;rw [←he,if_neg (by omega),hmany];rfl
        refine hK _ _ ⟨W5,?_,.inl ⟨by rw [hs];decide,by rw [hs],w4.sub fun q i hq=>?_⟩⟩
        · exact View.le_trans hW1 hW5
        · have hne:q≠(K+10,1):=by rintro rfl;rw [ho0 _ (by simp) (by simp)] at hq;cases hq
          rw [Own.ab hne,hw1 q hne];exact hq
      | false=>
        simp
        have hs0:iH f=0:=by unfold iH;rw [←he,if_neg (by omega),hmany];rfl
        have l512:f.blocks.length+ed.length≤512:=by
          have:=Bool.or_eq_false_iff.1 hmb.symm
          have:=of_decide_eq_false this.1;omega
        have w6:Owns W5 h6 o1:=w6
        rw [hz];clear hz z
        refine aa fun z hz=>?_
        simp [uf5 w6.wle]
        refine af (by kernel_rfl) (GS K w6 (fun k h1 h2=>(hw1 k (by rintro rfl;simp at h2)).trans (ho0 k h1 (by omega))) (rf.mono hW5) sm) ?_
        rintro _ h7 ⟨o7,vb,V,rfl,_,w7,g7,fr7,free7⟩
        have o7n : ∀ q:Key,K≤q.1→q.1≤K+13→(K+6<q.1)→q≠(K+10,1)→o7 q=none:=fun q h1 h2 h3 h4=>(fr7 q (.inr h3)).trans ((hw1 q h4).trans (ho0 q h1 h2))
        refine w7.xo (k:=(K+10,0)) (n:=1) (l:=[.int .i64 f.params,vb]) (o7n _ (by simp) (by simp) (by simp) (by simp)) (z:=.agg #[.int .i64 0,.slice none 0 0]) (by kernel_rfl) rfl (by kernel_rfl) rfl (by decide) (gz (w7.cells g7.blk).2) (fun _=>by simp) (fun _=>by simp) fun h8 q8 w8=>?_
        generalize h7.size=D at w8
        rw [hz];clear hz z
        refine aa fun z hz=>?_
        simp
        refine oP ?_
        have q9:=bN h8 (.map #[] 0)
        have m9:Map2 (h8.push (.map #[] 0)) h8.size (fun _ _=>none):=Map2.none (by simp)
        have w9:=w8.ext q9
        have r9:grow W5 h8 (h8.push (.map #[] 0)) h8.size=some (.map #[] 0):=by rw [iC (Nat.le_refl _)];simp
        generalize h8.push (.map #[] 0)=h9 at q9 m9 w9 r9
        have hr5:W5 h8.size=none:=View.db w8.wle (Nat.le_refl _)
        generalize h8.size=r at m9 r9 hr5
        have hW9:W5.le (grow W5 h8 h9):=cu w8.wle
        generalize grow W5 h8 h9=W9 at w9 r9 hW9
        rw [hz];clear hz z
        refine aa fun z hz=>?_
        have eS:SlRd W5 ue ed:=eE
        have hnd:ed.Nodup:=by rw [←hE];exact mI
        have w9:Owns W9 h9 (o7.upd (K+10,0) (bx T.aI D (RawN.mk (n:=1) [.int .i64 f.params,vb]))):=w9
        obtain ⟨o8,ho8⟩ : ∃ o8,o8=o7.upd (K+10,0) (bx T.aI D (RawN.mk (n:=1) [.int .i64 f.params,vb])):=⟨_,rfl⟩
        have kD:o8 (K+10,0)=bx T.aI D (RawN.mk (n:=1) [.int .i64 f.params,vb]):=by rw [ho8];exact Own.ag
        have kX : ∀ i,o8 (K+11,i)=none:=fun i=>by rw [ho8,Own.ab (by simp)];exact o7n _ (by simp) (by simp) (by simp) (by simp)
        have p0:PutI K f ed W5 r D o8 0 h9 W9 o8 vb V:=
          ⟨hW9,⟨_,_,r9⟩,by rw [ho8];exact w9,by rw [ho8];simpa using g7.upd (by simp),kD,fun _ _ _=>rfl,fun b hb q hq=>by rw [ho8,Own.ab (by rintro rfl;have:=gZ hq;simp at this)];exact free7 b (by omega) q hq,by simpa [DI] using m9⟩
        simp [(eS.mono (View.le_trans hW9 w9.wle)).len]
        refine aV [1,2,11,12,74,75,76] (fun (_:Unit) k=>[.pointer (some ⟨B,0,none⟩),.pointer (some ⟨R,0,none⟩),.pointer (some ⟨D,0,none⟩),.map (some r),ue,.int .i64 ed.length,.int .i64 k]) (fun _ k h6=>∃ W' o' vb' V',PutI K f ed W5 r D o8 k h6 W' o' vb' V') ed.length ()
          rfl (by omega) rfl ⟨_,_,_,_,p0⟩ (fun _ _=>rfl) (fun _ k h2 hk _=>by simp) ?_ ?_
        · rintro _ k h10 hk ⟨W',o',vb',V',pk⟩ K2 hK2
          have hnk:nth ed k∉ed.take k:=xf hnd hk
          have hI:I64 (nth ed k).1∧I64 (nth ed k).2:=by
            obtain ⟨u,_,h2⟩:=eS.wh rfl (N:=2) rfl hk
            exact (rT.1 h2).2
          have s10:=eS.mono (View.le_trans pk.le pk.w.wle)
          have hex:=eS.pair (View.le_trans pk.le pk.w.wle) hk
          generalize hn:nth ed k=e1 at hnk hI hex
          obtain ⟨ea,eb⟩:=e1
          refine aa fun y hy=>?_
          simp (disch:=omega) [s10.idxn (N:=2) rfl,hex]
          refine pk.w.xo (k:=(K+11,1)) (n:=1) (l:=[.int .i64 ea,.int .i64 eb]) ((pk.fr _ (by simp) (by simp)).trans (kX 1)) (z:=.agg #[.int .i64 0,.int .i64 0]) (by kernel_rfl) rfl (by kernel_rfl) rfl (by decide) (gz rfl) (fun _=>by simp) (fun _=>by simp) fun h11 q11 w11=>?_
          generalize h10.size=X at w11
          have c0:Un.ev (vw h11) (.au 2) (.pointer (some ⟨X,0,none⟩))=some (.agg #[.int .i64 ea,.int .i64 eb]):=w11.gD (k:=(K+11,1)) (n:=1) Own.ag
          have c1:an (vw h11) ⟨D,1,none⟩=some vb':=w11.raw (k:=(K+10,0)) (e:=T.aI) (n:=1) (by rw [Own.ab (by simp)];exact pk.box) (i:=1) (by decide)
          have g11:FnO K (o'.upd (K+11,1) (bx T.kh X (RawN.mk (n:=1) [.int .i64 ea,.int .i64 eb]))) vb' V' ⟨f.params,f.blocks++(ed.take k).map fun e=>fJ e.2⟩:=pk.fno.upd (by simp)
          have hlk:(ed.take k).length=k:=by rw [List.length_take];omega
          have s11:=g11.rd w11
          have hl11:(f.blocks++(ed.take k).map fun e=>fJ e.2).length=f.blocks.length+k:=by rw [List.length_append,List.length_map,hlk]
          have hmk:min k ed.length=k:=by omega
          rw [hy];clear hy y
          refine aa fun y hy=>?_
          simp [c0,c1,s11.len,hmk]
          refine Ft tw U.jO rfl rfl rfl (pk.map.ext q11) (a:=ea) (b:=eb) (by
            have:putE (ed.take k) f.blocks.length ea eb=none:=by unfold putE;rw [if_neg hnk]
            rw [this];rfl) fun h12 hs12 ho12 m12=>?_
          obtain ⟨es,ck,hrow⟩:=pk.row
          obtain ⟨es',ck',hr',_⟩:=m12.ex
          have w12:=w11.turn hrow (fun _ _ _=>Obj.noConfusion) hr' hs12 ho12
          have le12:W5.le (W'.set r (.map es' ck')):=fun b x hb=>by
            unfold View.set
            split
            · rename_i e;subst e;rw [hr5] at hb;cases hb
            · exact pk.le _ _ hb
          rw [hy];clear hy y
          have d0:an (vw h12) ⟨X,1,none⟩=some (.int .i64 eb):=w12.raw (k:=(K+11,1)) (n:=1) Own.ag (i:=1) (by decide)
          have d1:an (vw h12) ⟨D,1,none⟩=some vb':=w12.raw (k:=(K+10,0)) (e:=T.aI) (n:=1) (by rw [Own.ab (by simp)];exact pk.box) (i:=1) (by decide)
          simp (disch:=omega) [Fj,d0,d1]
          have fk : ∀ q,OfB K (f.blocks.length+k) q→o' q=none:=pk.free _ (Nat.le_refl _)
          refine Owns.FV (k:=(K+4,f.blocks.length+k)) (d:=eb) w12 (by rw [Own.ab (by simp)];exact fk _ (.inl ⟨rfl,by simp,by simp⟩)) El.a8 rfl hI.2 fun u h13 q13 w13 hu=>?_
          refine aR (z:=.agg #[.int .i64 0,.slice none 0 0,.slice none 0 0,.int .i32 0]) (places:=[(0,1),(1,1),(2,1),(3,1)]) (vs:=[(0,.int .i64 1),(2,u)]) (cs:=#[.int .i64 1,.slice none 0 0,u,.int .i32 0]) (by kernel_rfl) (by kernel_rfl) (by simp) (by cases u<;>first | rfl | cases hu) ?_
          refine aR (z:=.agg #[.slice none 0 0,.slice none 0 0,.int .i64 0,.slice none 0 0,.slice none 0 0,.int .i32 0]) (places:=[(0,1),(1,1),(2,4)]) (vs:=[(2,.agg #[.int .i64 1,.slice none 0 0,u,.int .i32 0])]) (cs:=#[.slice none 0 0,.slice none 0 0,.int .i64 1,.slice none 0 0,u,.int .i32 0]) (by kernel_rfl) (by kernel_rfl) (by simp) (by rfl) ?_
          obtain ⟨Vn,hVn⟩ : ∃ Vn:Bv,Vn=⟨.slice none 0 0,.slice none 0 0,.slice none 0 0,u,fun _=>.slice none 0 0,fun _=>.slice none 0 0⟩:=⟨_,rfl⟩
          refine w13.gM (k:=(K,0)) (α:=BkO) (v:=vb') (d:=bkO Vn (fJ eb)) (by rw [Own.ab (by simp),Own.ab (by simp)];exact pk.fno.blk) El.iO rfl (by rw [hVn];exact DB rfl rfl rfl hu ⟨by decide,by decide⟩ ⟨by decide,by decide⟩) (by simp;omega) (by simp;omega) (fun _=>rfl) (fun _=>rfl) fun u5 v5 h14 w14 _=>?_
          have hv5:=(w14.cells (k:=(K,0)) Own.ag).2
          refine w14.cG (k:=(K+10,0)) (n:=1) (i:=1) (e:=T.aI) (B:=D) (l:=[.int .i64 f.params,vb']) (by rw [Own.ab (by simp),Own.ab (by simp),Own.ab (by simp)];exact pk.box) (by decide) (by kernel_rfl) rfl rfl hv5 fun h15 w15 _=>?_
          obtain ⟨O,hO⟩ : ∃ O:Own,O=(((o'.upd (K+11,1) (bx T.kh X (RawN.mk (n:=1) [.int .i64 ea,.int .i64 eb]))).upd (K+4,f.blocks.length+k) (it T.int u [eb])).upd (K,0) (it T.aX v5 (rows (fun b=>bkO (V' b) (nth (f.blocks++(ed.take k).map fun e=>fJ e.2) b)) (f.blocks++(ed.take k).map fun e=>fJ e.2).length++[bkO Vn (fJ eb)]))).upd (K+10,0) (bx T.aI D (RawN.mk (n:=1) [.int .i64 f.params,v5])):=⟨_,rfl⟩
          have w15:Owns (W'.set r (.map es' ck')) h15 O:=by rw [hO];exact w15
          have O0:O (K,0)=it T.aX v5 (rows (fun b=>bkO (V' b) (nth (f.blocks++(ed.take k).map fun e=>fJ e.2) b)) (f.blocks++(ed.take k).map fun e=>fJ e.2).length++[bkO Vn (fJ eb)]):=by rw [hO,Own.ab (by simp),Own.ag]
          have O10:O (K+10,0)=bx T.aI D (RawN.mk (n:=1) [.int .i64 f.params,v5]):=by rw [hO,Own.ag]
          have O4:O (K+4,f.blocks.length+k)=it T.int u [eb]:=by rw [hO,Own.ab (by simp),Own.ab (by simp),Own.ag]
          have Of : ∀ q,q≠(K+11,1)→q≠(K+4,f.blocks.length+k)→q≠(K,0)→q≠(K+10,0)→O q=o' q:=fun q h1 h2 h3 h4=>by rw [hO,Own.ab h4,Own.ab h3,Own.ab h2,Own.ab h1]
          clear hO
          obtain ⟨oF,hoF⟩ : ∃ oF:Own,oF=fun q=>if q=(K+11,1) then none else if q=(K+1,f.blocks.length+k) then it T.dB (.slice none 0 0) ([]:List PhO) else if q=(K+2,f.blocks.length+k) then it T.dm (.slice none 0 0) ([]:List InO) else if q=(K+3,f.blocks.length+k) then it T.int (.slice none 0 0) ([]:List Int) else O q:=⟨_,rfl⟩
          have F1:oF (K+1,f.blocks.length+k)=it T.dB (.slice none 0 0) ([]:List PhO):=by rw [hoF];simp
          have F2:oF (K+2,f.blocks.length+k)=it T.dm (.slice none 0 0) ([]:List InO):=by rw [hoF];simp
          have F3:oF (K+3,f.blocks.length+k)=it T.int (.slice none 0 0) ([]:List Int):=by rw [hoF];simp
          have F11:oF (K+11,1)=none:=by rw [hoF];simp
          have Ff : ∀ q,q≠(K+11,1)→q≠(K+1,f.blocks.length+k)→q≠(K+2,f.blocks.length+k)→q≠(K+3,f.blocks.length+k)→oF q=O q:=fun q h1 h2 h3 h4=>by rw [hoF];simp only [h1,h2,h3,h4,if_false]
          have wF:Owns (W'.set r (.map es' ck')) h15 oF:=Owns.nils w15 fun q i hq=>by
            by_cases e1:q=(K+11,1)
            · rw [e1,F11] at hq;cases hq
            by_cases e2:q=(K+1,f.blocks.length+k)
            · rw [e2,F1] at hq;cases hq;exact .inr ⟨rfl,OwnT.nil (α:=PhO) _ h15 T.dB⟩
            by_cases e3:q=(K+2,f.blocks.length+k)
            · rw [e3,F2] at hq;cases hq;exact .inr ⟨rfl,OwnT.nil (α:=InO) _ h15 T.dm⟩
            by_cases e4:q=(K+3,f.blocks.length+k)
            · rw [e4,F3] at hq;cases hq;exact .inr ⟨rfl,OwnT.nil (α:=Int) _ h15 T.int⟩
            rw [Ff q e1 e2 e3 e4] at hq;exact .inl hq
          clear hoF
          have nb : ∀ {b:Nat} {q:Key},b≠f.blocks.length+k→OfB K b q→oF q=o' q:=fun {b q} hb h=>by
            have h1:=gZ h
            have h2:=wD hb h
            have n4:q≠(K+4,f.blocks.length+k):=by rintro rfl;exact h2 (.inl ⟨rfl,by simp,by simp⟩)
            have n1:q≠(K+1,f.blocks.length+k):=by rintro rfl;exact h2 (.inl ⟨rfl,by simp,by simp⟩)
            have n2:q≠(K+2,f.blocks.length+k):=by rintro rfl;exact h2 (.inl ⟨rfl,by simp,by simp⟩)
            have n3:q≠(K+3,f.blocks.length+k):=by rintro rfl;exact h2 (.inl ⟨rfl,by simp,by simp⟩)
            have n11:q≠(K+11,1):=by rintro rfl;simp at h1
            have n0:q≠(K,0):=by rintro rfl;simp at h1;omega
            have n10:q≠(K+10,0):=by rintro rfl;simp at h1
            rw [Ff q n11 n1 n2 n3,Of q n11 n4 n0 n10]
          have etk:ed.take (k+1)=ed.take k++[(ea,eb)]:=by
            rw [List.take_succ_eq_append_getElem hk,←ak hk,hn]
          have ebl:f.blocks++(ed.take (k+1)).map (fun e=>fJ e.2)=(f.blocks++(ed.take k).map fun e=>fJ e.2)++[fJ eb]:=by
            rw [etk,List.map_append,List.append_assoc];rfl
          have bo:BO K oF (f.blocks.length+k) Vn (fJ eb):=by
            rw [hVn]
            exact ⟨F1,F2,F3,by rw [Ff _ (by simp) (by simp) (by simp) (by simp)];exact O4,fun i hi=>absurd hi (Nat.not_lt_zero _),fun i hi=>absurd hi (Nat.not_lt_zero _)⟩
          refine hK2 () _ _ rfl rfl ⟨_,oF,v5,fun b=>if b=(f.blocks++(ed.take k).map fun e=>fJ e.2).length then Vn else V' b,le12,⟨es',ck',by unfold View.set;rw [if_pos rfl]⟩,wF,?_,?_,fun q hq hq2=>?_,fun b hb q hq=>?_,?_⟩
          · rw [ebl]
            refine pk.fno.push (Vn:=Vn) (x:=bkO Vn (fJ eb)) rfl ?_ (fun b hb q hq=>?_) ?_
            · rw [Ff _ (by simp) (by simp) (by simp) (by simp)];exact O0
            · rw [hl11] at hb;exact nb (by omega) hq
            · rw [hl11];exact bo
          · rw [Ff _ (by simp) (by simp) (by simp) (by simp)];exact O10
          · by_cases e:q=(K+11,1)
            · rw [e,F11];exact (kX 1).symm
            · rw [Ff q e (by rintro rfl;dsimp only at hq;omega) (by rintro rfl;dsimp only at hq;omega) (by rintro rfl;dsimp only at hq;omega),Of q e (by rintro rfl;dsimp only at hq;omega) (by rintro rfl;dsimp only at hq;omega) hq2]
              exact pk.fr q hq hq2
          · rw [nb (by omega) hq];exact pk.free b (by omega) q hq
          · have m15:Map2 h15 r _:=m12.same (by
              have:=wF.wle r (.map es' ck') (by unfold View.set;rw [if_pos rfl])
              have:h15[r]? = some (.map es' ck'):=this
              rw [this,hr'])
            have ef:(fun a b=>(putE (ed.take (k+1)) f.blocks.length a b).map (Value.int .i64))=fun c d=>if c=ea∧d=eb then some (.int .i64 ((f.blocks.length:Int)+k)) else (putE (ed.take k) f.blocks.length c d).map (.int .i64):=by
              funext c d
              rw [etk,BF hnk,hlk]
              dsimp only
              split<;>rfl
            rw [ef];exact m15
        · rintro _ h10 ⟨W',o',vb',V',pk⟩
          rw [bH,hz];clear hz z
          refine aa fun z hz=>?_
          have hatS:At W5 ⟨B,0,none⟩ f:=hat.mono hW5
          obtain ⟨_,vbS,cbS⟩:=iy hatS
          have cbW:=ae pk.le cbS.1
          have sbW:=cbS.2.mono pk.le
          simp [ae pk.w.wle cbW,(sbW.mono pk.w.wle).len]
          obtain ⟨es,ck,hrow⟩:=pk.row
          have fn0:=pk.fno
          have mp0:=pk.map
          rw [List.take_length] at fn0 mp0
          refine Dr K (B:=B) (R:=R) (D:=D) (r:=r) (ed:=ed) sm hin l512 ⟨vbS,cbW,sbW⟩ pk.box ((pk.fr _ (by simp) (by simp)).trans (kX 2)) hrow mp0 (by rw [Cc];exact ⟨o',pk.w,fn0,fun _ _=>rfl⟩) rfl fun h11 t11=>?_
          rw [bH,hz];clear hz z
          have cD:=t11.gD (k:=(K+10,0)) (by simp) pk.box
          have cD:Un.ev (vw h11) (.au 2) (.pointer (some ⟨D,0,none⟩))=some (.agg #[.int .i64 f.params,vb']):=cD
          simp [cD]
          obtain ⟨o11,w11,g11,r11⟩:=t11.ex
          have kR11:o11 (K+10,1)=bx T.aI R (RawN.mk (n:=1) [.int .i64 0,.slice none 0 0]):=by
            rw [r11 _ (by simp),pk.fr _ (by simp) (by simp),ho8,Own.ab (by simp),fr7 _ (by simp)];exact kR
          refine w11.jQ (k:=(K+10,1)) (e:=T.aI) (B:=R) Part.all (d:=RawN.mk (n:=1) [.int .i64 f.params,vb']) kR11 (by kernel_rfl) rfl rfl (iG rfl (gz (w11.cells g11.blk).2)) fun h12 w12 _=>?_
          have c12:Un.ev (vw h12) (.au 2) (.pointer (some ⟨R,0,none⟩))=some (.agg #[.int .i64 f.params,vb']):=w12.gD (k:=(K+10,1)) (n:=1) Own.ag
          simp [c12]
          refine hK _ _ ⟨W',?_,.inr ⟨hs0,fun q=>if q=(K+10,0)∨q=(K+10,1) then none else o11 q,vb',V',rfl,ip,w12.sub fun q i hq=>?_,?_,fun q hq=>?_⟩⟩
          · exact View.le_trans hW1 (View.le_trans hW5 pk.le)
          · split at hq
            · cases hq
            · rename_i e
              rw [Own.ab (fun g=>e (.inr g))];exact hq
          · have hsp:dO f=onE ed f:=by unfold dO;rw [hE]
            rw [hsp]
            exact g11.congr fun q h1 h2=>if_neg (by rintro (rfl | rfl)<;>simp at h2)
          · by_cases e:q=(K+10,0)∨q=(K+10,1)
            · refine (if_pos e).trans ?_
              rcases e with rfl | rfl<;>exact (ho0 _ (by simp) (by simp)).symm
            · refine (if_neg e).trans ?_
              rw [r11 q hq,pk.fr q hq (fun g=>e (.inl g)),ho8,Own.ab (fun g=>e (.inl g)),fr7 q hq,hw1 q (fun g=>e (.inr g))]
end Go.Proofs.YtbkdlhkoiagbbaaGreat
namespace Go.Proofs.YtbkdlhkoiagbbaaGreat
open Go Go.Lft
def exF:ah:=⟨1,[⟨[],[],⟨2,[0],[1,2],⟨0⟩⟩⟩,⟨[],[],⟨1,[],[2],⟨0⟩⟩⟩,⟨[⟨1,[⟨0,0⟩,⟨1,0⟩]⟩],[],⟨4,[1],[],⟨0⟩⟩⟩]⟩
def exG:ah:=⟨1,[⟨[],[],⟨2,[0],[1,3],⟨0⟩⟩⟩,⟨[],[],⟨1,[],[2],⟨0⟩⟩⟩,⟨[⟨1,[⟨1,0⟩,⟨3,0⟩]⟩],[],⟨4,[1],[],⟨0⟩⟩⟩,⟨[],[],⟨1,[],[2],⟨0⟩⟩⟩]⟩
section
variable {g g':Gr}
theorem tE (hl:g.length=g'.length) (h : ∀ a b,cW g a b=cW g' a b):iN g=iN g':=by
 have h1:cQ g=cQ g':=by
  funext a;unfold cQ;rw [hl];congr 1;funext b;rw [h]
 have h2:dC g=dC g':=by
  unfold dC;rw [hl];congr 1;funext b;congr 1;funext a;rw [h]
 unfold iN jZ rL
 rw [h1,h2,hl]
end
theorem Dy {f:ah}:dI f=iN (f.blocks.map (·.term.to)):=by
 unfold dI
 rw [ru]
 refine tE (by rw [dJ,List.length_map]) fun a b=>?_
 rw [Bool.eq_iff_iff,bT,dU,List.length_map]
 constructor
 ·rintro ⟨h,m⟩
  refine ⟨h,?_⟩
  rw [ak (by rw [List.length_map];omega),List.getElem_map,←ak (by omega)];exact m
 ·rintro ⟨h,m⟩
  refine ⟨h,?_⟩
  rw [ak (by rw [List.length_map];omega),List.getElem_map,←ak (by omega)] at m;exact m
theorem Aq:dI exF=[(0,2)]:=by rw [Dy];kernel_rfl
theorem Hp:srt [⟨3,0⟩,⟨1,0⟩]=[⟨1,0⟩,⟨3,0⟩]:=
 (tK (List.Perm.swap _ _ _) (by simp [iK]) (by decide)).symm
theorem CD:dO exF=exG:=by
 unfold dO
 rw [Aq]
 have:onE [(0,2)] exF=⟨1,[⟨[],[],⟨2,[0],[1,3],⟨0⟩⟩⟩,⟨[],[],⟨1,[],[2],⟨0⟩⟩⟩,⟨[⟨1,srt [⟨3,0⟩,⟨1,0⟩]⟩],[],⟨4,[1],[],⟨0⟩⟩⟩,⟨[],[],⟨1,[],[2],⟨0⟩⟩⟩]⟩:=by rfl
 rw [this,Hp];rfl
theorem E5:(kF exF).1=0:=by rw [vQ];kernel_rfl
theorem Iy:iH exF=0:=by
 unfold iH pZ
 rw [E5,Aq]
 rfl
theorem HX:SmF exF:=by
 refine ⟨by decide,fun i hi=>?_⟩
 have hi:i<3:=hi
 rcases i with _ | _ | _ | i
 ·exact ⟨by decide,by decide,by decide,by decide,fun j hj=>absurd hj (Nat.not_lt_zero _),fun j hj=>absurd hj (Nat.not_lt_zero _)⟩
 ·exact ⟨by decide,by decide,by decide,by decide,fun j hj=>absurd hj (Nat.not_lt_zero _),fun j hj=>absurd hj (Nat.not_lt_zero _)⟩
 ·refine ⟨by decide,by decide,by decide,by decide,fun j hj=>?_,fun j hj=>absurd hj (Nat.not_lt_zero _)⟩
  have hj:j<1:=hj
  have:j=0:=by omega
  subst this;decide
 ·omega
theorem H5:AO exF:=by
 intro b hb i hi
 have hb:b<3:=hb
 rcases b with _ | _ | _ | b
 ·exact absurd hi (Nat.not_lt_zero _)
 ·exact absurd hi (Nat.not_lt_zero _)
 ·have hi:i<1:=hi
  have:i=0:=by omega
  subst this
  exact ⟨by decide,by decide,by decide⟩
 ·omega
theorem kJ {h0 h h':Heap} (hle:(vw h).le (vw h')):(fresh h0 h).le (fresh h0 h'):=fun b o hb=>by
 unfold fresh at hb ⊢
 split at hb
 ·cases hb
 ·rename_i e;rw [if_neg e];exact hle b o hb
theorem xS {h0 h:Heap} {b:Nat} (hb:h0.size≤b):fresh h0 h b=h[b]?:=by unfold fresh;rw [if_neg (by omega)]
theorem An {po:OP} {n:Nat} {ty:TypeId} {ps:Array (Nat × Operand)} {us:List (Nat × Value)} {vs:List Value} {ds:List Int} {h0 h:Heap} {K:Value→Heap→Prop} (hs:h0.size≤h.size) (hp:ps.map (fun p=>(p.1,asg us p.2))=((vs.zipIdx 0).map fun p=>(p.2,p.1)).toArray) (hr:kV nothing vs ds) (hn:ds.length=n) (hb:n≤1000)
  (hk : ∀ u h',(vw h).le (vw h')→h0.size≤h'.size→SlRd (fresh h0 h') u ds→K u h'):@Lft.step po Tryz.prog (.buildSlice T.a8 n ps) ty us h K:=
 kU (α:=Int) rfl El.a8 hp hr cS hn (by omega) fun u h' hle hsz hY _=>hk u h' hle (by omega) (hY _ cS (xS hs))
theorem Ex {po:OP} {α:Type} [Rep α] {t e bytes n:Nat} {z:Value} {ty:TypeId} {ps:Array (Nat × Operand)} {us:List (Nat × Value)} {vs:List Value} {ds:List α} {h0 h:Heap} {K:Value→Heap→Prop} (hs:h0.size≤h.size) (hT:et Tryz.prog t e (Rep.n α) bytes z) (hp:ps.map (fun p=>(p.1,asg us p.2))=((vs.zipIdx 0).map fun p=>(p.2,p.1)).toArray) (hr:kV (fresh h0 h) vs ds) (hn:ds.length=n) (hb:n*Rep.n α≤16777216) (hb2:n≤1000)
  (hk : ∀ u h',(vw h).le (vw h')→h0.size≤h'.size→SlRd (fresh h0 h') u ds→K u h'):@Lft.step po Tryz.prog (.buildSlice t n ps) ty us h K:=
 ET hT hp hr hn hb (by omega) fun u h' hle hsz hY _=>hk u h' hle (by omega) (hY _ (kJ hle) (xS hs))
theorem zt {h:Heap}:aD Tryz.prog N.dX #[] h (fun u h'=>(vw h).le (vw h')∧Rd (vw h') u exF):=by
 refine ao (args:=[]) follows F.dX E.dX (Nat.le_of_ble_eq_true (by kernel_rfl)) fun Kc hK=>?_
 dsimp only [L.dX]
 refine aa fun z hz=>?_
 simp
 refine fg (z:=.agg #[.int .i64 0,.slice none 0 0]) (by kernel_rfl) ?_
 have q1:=bN h (.cells (Value.agg #[.int .i64 0,.slice none 0 0]).cells T.aI)
 have b1:(h.push (.cells (Value.agg #[.int .i64 0,.slice none 0 0]).cells T.aI))[h.size]? = some (.cells (Value.agg #[.int .i64 0,.slice none 0 0]).cells T.aI (0,0)):=by simp
 have z1:h.size<(h.push (.cells (Value.agg #[.int .i64 0,.slice none 0 0]).cells T.aI)).size:=by simp
 generalize h.push (.cells (Value.agg #[.int .i64 0,.slice none 0 0]).cells T.aI)=h1 at q1 b1 z1
 rw [hz];clear hz z
 refine aa fun z hz=>?_
 simp
 refine An (Nat.le_refl h1.size) (vs:=[.int .i64 0]) (ds:=[0]) (by simp) ⟨mJ (by decide) (by decide),trivial⟩ rfl (by decide) fun u1 h2 q2 z2 s1=>?_
 obtain ⟨as1,cs1,es1,_⟩:=id s1
 subst es1
 refine An z2 (vs:=[.int .i64 1,.int .i64 2]) (ds:=[1,2]) (by simp) ⟨mJ (by decide) (by decide),mJ (by decide) (by decide),trivial⟩ rfl (by decide) fun u2 h3 q3 z3 s2=>?_
 obtain ⟨as2,cs2,es2,_⟩:=id s2
 subst es2
 refine aR (z:=.agg #[.int .i64 0,.slice none 0 0,.slice none 0 0,.int .i32 0]) (places:=[(0,1),(1,1),(2,1),(3,1)]) (vs:=[(0,.int .i64 2),(1,.slice as1 1 cs1),(2,.slice as2 2 cs2)]) (cs:=#[.int .i64 2,.slice as1 1 cs1,.slice as2 2 cs2,.int .i32 0]) (by kernel_rfl) (by kernel_rfl) (by simp) (by rfl) ?_
 refine aR (z:=.agg #[.slice none 0 0,.slice none 0 0,.int .i64 0,.slice none 0 0,.slice none 0 0,.int .i32 0]) (places:=[(0,1),(1,1),(2,4)]) (vs:=[(2,.agg #[.int .i64 2,.slice as1 1 cs1,.slice as2 2 cs2,.int .i32 0])]) (cs:=#[.slice none 0 0,.slice none 0 0,.int .i64 2,.slice as1 1 cs1,.slice as2 2 cs2,.int .i32 0]) (by kernel_rfl) (by kernel_rfl) (by simp) (by rfl) ?_
 refine An z3 (vs:=[.int .i64 2]) (ds:=[2]) (by simp) ⟨mJ (by decide) (by decide),trivial⟩ rfl (by decide) fun u5 h4 q4 z4 s5=>?_
 obtain ⟨as5,cs5,es5,_⟩:=id s5
 subst es5
 refine aR (z:=.agg #[.int .i64 0,.slice none 0 0,.slice none 0 0,.int .i32 0]) (places:=[(0,1),(1,1),(2,1),(3,1)]) (vs:=[(0,.int .i64 1),(2,.slice as5 1 cs5)]) (cs:=#[.int .i64 1,.slice none 0 0,.slice as5 1 cs5,.int .i32 0]) (by kernel_rfl) (by kernel_rfl) (by simp) (by rfl) ?_
 refine aR (z:=.agg #[.slice none 0 0,.slice none 0 0,.int .i64 0,.slice none 0 0,.slice none 0 0,.int .i32 0]) (places:=[(0,1),(1,1),(2,4)]) (vs:=[(2,.agg #[.int .i64 1,.slice none 0 0,.slice as5 1 cs5,.int .i32 0])]) (cs:=#[.slice none 0 0,.slice none 0 0,.int .i64 1,.slice none 0 0,.slice as5 1 cs5,.int .i32 0]) (by kernel_rfl) (by kernel_rfl) (by simp) (by rfl) ?_
 refine aR (z:=.agg #[.int .i64 0,.int .i64 0]) (places:=[(0,1),(1,1)]) (vs:=[(0,.int .i64 0),(1,.int .i64 0)]) (cs:=#[.int .i64 0,.int .i64 0]) (by kernel_rfl) (by kernel_rfl) (by simp) rfl ?_
 refine aR (z:=.agg #[.int .i64 0,.int .i64 0]) (places:=[(0,1),(1,1)]) (vs:=[(0,.int .i64 1),(1,.int .i64 0)]) (cs:=#[.int .i64 1,.int .i64 0]) (by kernel_rfl) (by kernel_rfl) (by simp) rfl ?_
 have rin : ∀ k:Int,I64 k→Rd (fresh h1 h4) (.agg #[.int .i64 k,.int .i64 0]) (InD.mk k 0):=fun k hk=>⟨_,rfl,[.int .i64 k],_,rfl,⟨rfl,hk⟩,rfl,⟨(by decide:(-9223372036854775808:Int)≤0),(by decide:(0:Int)≤9223372036854775807)⟩⟩
 refine Ex (α:=InD) z4 (vs:=[.agg #[.int .i64 0,.int .i64 0],.agg #[.int .i64 1,.int .i64 0]]) (ds:=[⟨0,0⟩,⟨1,0⟩]) El.iD (by simp) ⟨rin 0 ⟨by decide,by decide⟩,rin 1 ⟨by decide,by decide⟩,trivial⟩ rfl (by decide) (by decide) fun u10 h5 q5 z5 s10=>?_
 obtain ⟨as10,cs10,es10,_⟩:=id s10
 subst es10
 refine aR (z:=.agg #[.int .i64 0,.slice none 0 0]) (places:=[(0,1),(1,1)]) (vs:=[(0,.int .i64 1),(1,.slice as10 2 cs10)]) (cs:=#[.int .i64 1,.slice as10 2 cs10]) (by kernel_rfl) (by kernel_rfl) (by simp) rfl ?_
 refine Ex (α:=PhiD) z5 (vs:=[.agg #[.int .i64 1,.slice as10 2 cs10]]) (ds:=[⟨1,[⟨0,0⟩,⟨1,0⟩]⟩]) El.ka (by simp) ⟨xX ⟨by decide,by decide⟩ s10,trivial⟩ rfl (by decide) (by decide) fun u12 h6 q6 z6 s12=>?_
 obtain ⟨as12,cs12,es12,_⟩:=id s12
 subst es12
 refine An z6 (vs:=[.int .i64 1]) (ds:=[1]) (by simp) ⟨mJ (by decide) (by decide),trivial⟩ rfl (by decide) fun u13 h7 q7 z7 s13=>?_
 obtain ⟨as13,cs13,es13,_⟩:=id s13
 subst es13
 refine aR (z:=.agg #[.int .i64 0,.slice none 0 0,.slice none 0 0,.int .i32 0]) (places:=[(0,1),(1,1),(2,1),(3,1)]) (vs:=[(0,.int .i64 4),(1,.slice as13 1 cs13)]) (cs:=#[.int .i64 4,.slice as13 1 cs13,.slice none 0 0,.int .i32 0]) (by kernel_rfl) (by kernel_rfl) (by simp) (by rfl) ?_
 refine aR (z:=.agg #[.slice none 0 0,.slice none 0 0,.int .i64 0,.slice none 0 0,.slice none 0 0,.int .i32 0]) (places:=[(0,1),(1,1),(2,4)]) (vs:=[(0,.slice as12 1 cs12),(2,.agg #[.int .i64 4,.slice as13 1 cs13,.slice none 0 0,.int .i32 0])]) (cs:=#[.slice as12 1 cs12,.slice none 0 0,.int .i64 4,.slice as13 1 cs13,.slice none 0 0,.int .i32 0]) (by kernel_rfl) (by kernel_rfl) (by simp) (by rfl) ?_
 have l2:=View.le_trans q3 (View.le_trans q4 (View.le_trans q5 (View.le_trans q6 q7)))
 have l3:=View.le_trans q4 (View.le_trans q5 (View.le_trans q6 q7))
 have l4:=View.le_trans q5 (View.le_trans q6 q7)
 refine Ex (α:=BlkD) z7 (vs:=[.agg #[.slice none 0 0,.slice none 0 0,.int .i64 2,.slice as1 1 cs1,.slice as2 2 cs2,.int .i32 0],.agg #[.slice none 0 0,.slice none 0 0,.int .i64 1,.slice none 0 0,.slice as5 1 cs5,.int .i32 0],.agg #[.slice as12 1 cs12,.slice none 0 0,.int .i64 4,.slice as13 1 cs13,.slice none 0 0,.int .i32 0]]) (ds:=exF.blocks) El.iO (by simp)
  ⟨sG gh gh (s1.mono (kJ l2)) (s2.mono (kJ l3)) ⟨by decide,by decide⟩ ⟨by decide,by decide⟩,sG gh gh gh (s5.mono (kJ l4)) ⟨by decide,by decide⟩ ⟨by decide,by decide⟩,sG (s12.mono (kJ q7)) gh s13 gh ⟨by decide,by decide⟩ ⟨by decide,by decide⟩,trivial⟩ (by rfl) (by decide) (by decide) fun u16 h8 q8 z8 s16=>?_
 have l1:=View.le_trans q2 (View.le_trans l2 q8)
 obtain ⟨as16,cs16,es16,_⟩:=id s16
 have es16:u16 = .slice as16 3 cs16:=es16
 subst es16
 refine aR (z:=.agg #[.int .i64 0,.slice none 0 0]) (places:=[(0,1),(1,1)]) (vs:=[(0,.int .i64 1),(1,.slice as16 3 cs16)]) (cs:=#[.int .i64 1,.slice as16 3 cs16]) (by kernel_rfl) (by kernel_rfl) (by simp) rfl ?_
 refine ee (g:=h.size) (o:=0) (n:=2) (v:=.agg #[.int .i64 1,.slice as16 3 cs16]) (cur:=(Value.agg #[.int .i64 0,.slice none 0 0]).cells) (e:=T.aI) (by kernel_rfl) rfl rfl rfl (by simp [Value.cells,Value.oneCell']) (l1 _ _ b1) (by decide) fun h9 hs9 ⟨row,hrow,he⟩ ho9=>?_
 have hrow2:row=(Value.agg #[.int .i64 1,.slice as16 3 cs16]).cells:=by
  rw [←Array.toList_inj,he];simp [Value.cells]
 subst hrow2
 have hf9:(fresh h1 h8).le (vw h9):=fun b o hb=>by
  unfold fresh at hb
  split at hb
  ·cases hb
  ·rename_i e
   show h9[b]? = _
   rw [ho9 b (by omega)];exact hb
 have s9:=s16.mono hf9
 have at9:At (vw h9) ⟨h.size,0,none⟩ exF:=td (v:=.agg #[.int .i64 1,.slice as16 3 cs16]) (t:=T.aI) (fz:=(0,0)) hrow ⟨_,rfl,[.int .i64 1],[_],rfl,⟨rfl,by decide,by decide⟩,_,rfl,s9⟩
 obtain ⟨u,hu,hr⟩:=at9.au rfl
 have hu:Un.ev (vw h9) (.au 2) (.pointer (some ⟨h.size,0,none⟩))=some u:=hu
 rw [hz];clear hz z
 simp [hu]
 refine hK _ _ ⟨fun b o hb=>?_,hr⟩
 have hb':h[b]? = some o:=hb
 have hlt:=(Array.getElem?_eq_some_iff.1 hb').1
 show h9[b]? = _
 rw [ho9 b (by omega)]
 exact l1 _ _ (q1 _ _ hb)
end Go.Proofs.YtbkdlhkoiagbbaaGreat
namespace Go.Proofs.YtbkdlhkoiagbbaaGreat
open Go Go.Lft
theorem BK {h:Heap}:aD Tryz.prog N.fe #[] h (fun u h'=>u = .bool true∧(vw h).le (vw h')):=by
 refine ao (args:=[]) follows F.fe E.fe (Nat.le_of_ble_eq_true (by kernel_rfl)) fun Kc hK=>?_
 dsimp only [L.fe]
 refine aa fun z hz=>?_
 simp
 rw [hz];clear hz z
 refine aa fun z hz=>?_
 simp
 refine af (by kernel_rfl) zt ?_
 rintro fv h1 ⟨q1,r1⟩
 refine af (by kernel_rfl) (pU 0 (Owns.start (View.le_refl (vw h1))) (fun _ _ _=>rfl) r1 HX fun _=>H5) ?_
 rintro u h2 ⟨W2,hW2,⟨hne,_⟩ | ⟨_,o2,vb,V,rfl,ip,w2,g2,_⟩⟩
 ·exact absurd Iy hne
 rw [CD] at g2
 have hp:exG.params=1:=rfl
 have rG:Rd (vw h2) (.agg #[.int .i64 1,vb]) exG:=g2.rdF w2 ip
 have hep:exF.params=1:=rfl
 simp [hep]
 refine gL (α:=ah) (d:=exG) (X:=vw h2) (z:=.agg #[.int .i64 0,.slice none 0 0]) (v:=.agg #[.int .i64 1,vb]) (by kernel_rfl) rfl (by kernel_rfl) rG (fun _=>by simp) (fun _=>by simp) fun h3 q3 _ hY=>?_
 have at3:=hY (vw h3) q3 rfl
 generalize h2.size=B at at3
 obtain ⟨_,vb',cb,sb⟩:=iy at3
 have sb:SlRd (vw h3) vb' exG.blocks:=sb
 have l4:exG.blocks.length=4:=rfl
 obtain ⟨v0,c0,s0⟩:=(((sb.at (i:=0) (by decide)).part BlkD.lj).part dQ.Af).sl
 obtain ⟨v2,c2,s2⟩:=((sb.at (i:=2) (by decide)).part BlkD.ko).sl
 have k3:=(((sb.at (i:=3) (by decide)).part BlkD.lj).part dQ.wI).int
 have s0:SlRd (vw h3) v0 ([1,3]:List Int):=s0
 have s2:SlRd (vw h3) v2 ([⟨1,[⟨1,0⟩,⟨3,0⟩]⟩]:List PhiD):=s2
 obtain ⟨v5,c5,s5⟩:=((s2.at (i:=0) (by decide)).part PhiD.lE).sl
 have s5:SlRd (vw h3) v5 ([⟨1,0⟩,⟨3,0⟩]:List InD):=s5
 have a1:=(s0.at (i:=1) (by decide)).int
 have f0:=((s5.at (i:=0) (by decide)).part InD.rn).int
 have f1:=((s5.at (i:=1) (by decide)).part InD.rn).int
 have k3:an (vw h3) ((((slA vb').add (3*6)).add 2).add 0)=some (.int .i64 1):=k3
 have n6 : ∀ i:Nat,i<4→Bn.ev (.idx 6) vb' (.int .i64 i)=some (.pointer (some ((slA vb').add (i*6)))):=fun i hi=>by
  have:=sb.idxn (N:=6) rfl (k:=.i64) (i:=i) (by omega) (by rw [l4];omega)
  simpa using this
 have n60:Bn.ev (.idx 6) vb' (.int .i64 0)=some (.pointer (some ((slA vb').add (0*6)))):=n6 0 (by decide)
 have n62:Bn.ev (.idx 6) vb' (.int .i64 2)=some (.pointer (some ((slA vb').add (2*6)))):=n6 2 (by decide)
 have n63:Bn.ev (.idx 6) vb' (.int .i64 3)=some (.pointer (some ((slA vb').add (3*6)))):=n6 3 (by decide)
 have n2:Bn.ev (.idx 2) v2 (.int .i64 0)=some (.pointer (some ((slA v2).add (0*2)))):=s2.idxn (N:=2) rfl (k:=.i64) (i:=0) (by decide) (by decide)
 have m0:Bn.ev (.idx 2) v5 (.int .i64 0)=some (.pointer (some ((slA v5).add (0*2)))):=s5.idxn (N:=2) rfl (k:=.i64) (i:=0) (by decide) (by decide)
 have m1:Bn.ev (.idx 2) v5 (.int .i64 1)=some (.pointer (some ((slA v5).add (1*2)))):=s5.idxn (N:=2) rfl (k:=.i64) (i:=1) (by decide) (by decide)
 have t1:Bn.ev (.idx 1) v0 (.int .i64 1)=some (.pointer (some ((slA v0).add (1*1)))):=s0.idxn (N:=1) rfl (k:=.i64) (i:=1) (by decide) (by decide)
 rw [hz];clear hz z
 refine aa fun z hz=>?_
 have c0:an (vw h3) ((((slA vb').add 0).add 2).add 2)=some v0:=c0
 have c2:an (vw h3) (((slA vb').add 12).add 0)=some v2:=c2
 have k3:an (vw h3) ((((slA vb').add 18).add 2).add 0)=some (.int .i64 1):=k3
 have c5:an (vw h3) (((slA v2).add 0).add 1)=some v5:=c5
 have a1:an (vw h3) ((slA v0).add 1)=some (.int .i64 3):=a1
 have f0:an (vw h3) (((slA v5).add 0).add 0)=some (.int .i64 1):=f0
 have f1:an (vw h3) (((slA v5).add 2).add 0)=some (.int .i64 3):=f1
 have l0:=s0.len (K:=vw h3)
 have l2:=s2.len (K:=vw h3)
 have l5:=s5.len (K:=vw h3)
 simp only [Nat.zero_mul,Nat.one_mul,Nat.reduceMul,List.length_cons,List.length_nil,Nat.zero_add,Nat.reduceAdd,Int.natCast_zero,Int.cast_ofNat_Int] at n60 n62 n63 n2 m0 m1 t1 l0 l2 l5
 simp [cb,sb.len,l4,n60,n62,n63,n2,m0,m1,t1,c0,c2,c5,k3,a1,f0,f1,l0,l2,l5]
 rw [hz];clear hz z
 refine aa fun z hz=>?_
 simp [cb,n60,n62,n63,n2,m0,m1,t1,c0,c2,c5,k3,a1,f0,f1]
 rw [hz];clear hz z
 simp [cb,n60,n62,n63,n2,m0,m1,t1,c0,c2,c5,k3,a1,f0,f1]
 refine hK _ _ ⟨rfl,?_⟩
 exact View.le_trans q1 (View.le_trans hW2 (View.le_trans w2.wle q3))
end Go.Proofs.YtbkdlhkoiagbbaaGreat
namespace Go.Proofs.YtbkdlhkoiagbbaaGreat
open Go Go.Lft
theorem Cv {α:Type} [Inhabited α] {l m:List α} {i:Nat} (h:i<l.length):nth (l++m) i=nth l i:=by
 rw [ak (show i<(l++m).length by rw [List.length_append];omega),ak h,List.getElem_append_left h]
section
variable {f:ah} {ed:List (Int × Int)}
theorem de:(onE ed f).blocks.length=f.blocks.length+ed.length:=by simp [onE]
theorem nZ {a:Nat} (ha:a<f.blocks.length):nth (onE ed f).blocks a=blE ed f.blocks.length a (nth f.blocks a):=by
 unfold onE
 dsimp only
 rw [Cv (by simpa using ha),df ha]
theorem jB {k:Nat} (hk:k<ed.length):nth (onE ed f).blocks (f.blocks.length+k)=fJ (nth ed k).2:=by
 unfold onE
 dsimp only
 rw [ak (by simp;omega),List.getElem_append_right (by simp),ak hk]
 simp
structure dV (f:ah) (ed:List (Int × Int)):Prop where
 hto : ∀ a,a<f.blocks.length→∀ t∈(nth f.blocks a).term.to,0≤t∧t<f.blocks.length
 hed : ∀ e∈ed,cW (ofG f.blocks) e.1 e.2=true
 hnd:ed.Nodup
theorem dV.rng (w:dV f ed) {k:Nat} (hk:k<ed.length):(0≤(nth ed k).1∧(nth ed k).1<f.blocks.length)∧0≤(nth ed k).2∧(nth ed k).2<f.blocks.length:=by
 have h:=w.hed _ (bu hk)
 rw [bT] at h
 omega
theorem wz (w:dV f ed) {k:Nat} (hk:k<ed.length):putE ed f.blocks.length (nth ed k).1 (nth ed k).2=some ((f.blocks.length:Int)+k):=by
 unfold putE
 have hm:((nth ed k).1,(nth ed k).2)∈ed:=bu hk
 rw [if_pos hm]
 congr 2
 have:((nth ed k).1,(nth ed k).2)=ed[k]:=ak hk
 rw [this,List.Nodup.idxOf_getElem w.hnd]
theorem lr (w:dV f ed) {a b:Nat} (ha:a<f.blocks.length) (hb:b<f.blocks.length):cW (ofG (onE ed f).blocks) a b=true↔cW (ofG f.blocks) a b=true∧((a:Int),(b:Int))∉ed:=by
 rw [bT,bT,de,Int.toNat_natCast,nZ ha]
 show _∧(b:Int)∈((nth f.blocks a).term.to.map (toE ed f.blocks.length a))↔_
 rw [List.mem_map]
 constructor
 ·rintro ⟨_,t,ht,e⟩
  unfold toE at e
  cases hp:putE ed f.blocks.length a t with
  | none=>
   rw [hp] at e
   simp only [Option.getD_none] at e
   subst e
   refine ⟨⟨by omega,ht⟩,fun hm=>?_⟩
   unfold putE at hp
   rw [if_pos hm] at hp;cases hp
  | some q=>
   rw [hp] at e
   have:=jK hp
   simp only [Option.getD_some] at e
   omega
 ·rintro ⟨⟨_,ht⟩,hn⟩
  refine ⟨by omega,b,ht,?_⟩
  unfold toE putE
  rw [if_neg hn];rfl
theorem rW (w:dV f ed) {a k:Nat} (ha:a<f.blocks.length) (hk:k<ed.length):cW (ofG (onE ed f).blocks) a ((f.blocks.length+k:Nat):Int)=true↔(nth ed k).1=a:=by
 rw [bT,de,Int.toNat_natCast,nZ ha]
 show _∧((f.blocks.length+k:Nat):Int)∈((nth f.blocks a).term.to.map (toE ed f.blocks.length a))↔_
 rw [List.mem_map]
 have hr:=w.rng hk
 have hpk:=wz w hk
 constructor
 ·rintro ⟨_,t,ht,e⟩
  unfold toE at e
  cases hp:putE ed f.blocks.length a t with
  | none=>
   rw [hp] at e
   have:=w.hto a ha t ht
   simp only [Option.getD_none] at e
   omega
  | some q=>
   rw [hp] at e
   simp only [Option.getD_some] at e
   unfold putE at hp
   split at hp
   ·rename_i hm
    have hlt:=List.idxOf_lt_length_iff.2 hm
    have hq:=Option.some.inj hp
    have hk2:ed.idxOf ((a:Int),t)=k:=by omega
    have:=List.getElem_idxOf hlt
    rw [ak hk]
    have e2:ed[k]=((a:Int),t):=by rw [←this];congr 1;exact hk2.symm
    rw [e2]
   ·cases hp
 ·intro e
  have hm:=w.hed _ (bu hk)
  rw [bT] at hm
  refine ⟨by omega,(nth ed k).2,?_,?_⟩
  ·have:=hm.2;rw [e,Int.toNat_natCast] at this;exact this
  ·unfold toE;rw [←e,hpk];simp
theorem kC (w:dV f ed) {k:Nat} {b:Int} (hk:k<ed.length):cW (ofG (onE ed f).blocks) ((f.blocks.length+k:Nat):Int) b=true↔(nth ed k).2=b:=by
 rw [bT,de,Int.toNat_natCast,jB hk]
 have hr:=w.rng hk
 show _∧b∈[(nth ed k).2]↔_
 rw [List.mem_singleton]
 constructor
 ·rintro ⟨_,e⟩;exact e.symm
 ·intro e;exact ⟨by omega,e.symm⟩
theorem yT (w:dV f ed) {wo:Int} (hwo:wo<f.blocks.length) {b:Nat} (h:Re (ofG f.blocks) wo b):Re (ofG (onE ed f).blocks) wo b:=by
 induction h with
 | root h1 h2=>exact .root (by rw [dJ,de];rw [dJ] at h1;omega) h2
 | @step a b ha he hb ih=>
  have hr:=(bT.1 he).1
  have la:a<f.blocks.length:=by omega
  have lb:b<f.blocks.length:=by omega
  by_cases hm:((a:Int),(b:Int))∈ed
  ·obtain ⟨k,hk,e⟩:=List.getElem_of_mem hm
   have e1:(nth ed k).1=a:=by rw [ak hk,e]
   have e2:(nth ed k).2=b:=by rw [ak hk,e]
   have s1:Re (ofG (onE ed f).blocks) wo (f.blocks.length+k):=.step ih ((rW w la hk).2 e1) (by omega)
   exact .step s1 ((kC w hk).2 e2) hb
  ·exact .step ih ((lr w la lb).2 ⟨he,hm⟩) hb
theorem AY (w:dV f ed) {wo:Int} {x:Nat} (h:Re (ofG (onE ed f).blocks) wo x):(x<f.blocks.length→Re (ofG f.blocks) wo x)∧∀ k,k<ed.length→x=f.blocks.length+k→Re (ofG f.blocks) wo (nth ed k).1.toNat:=by
 induction h with
 | root h1 h2=>
  refine ⟨fun hx=>.root (by rw [dJ];exact hx) h2,fun k hk e=>?_⟩
  have:=w.rng hk;omega
 | @step a b ha he hb ih=>
  have hr:=(bT.1 he).1
  rw [de] at hr
  rcases Nat.lt_or_ge a f.blocks.length with la | la
  ·refine ⟨fun lb=>?_,fun k hk e=>?_⟩
   ·exact .step (ih.1 la) ((lr w la lb).1 he).1 hb
   ·subst e
    have:=(rW w la hk).1 he
    rw [this];exact ih.1 la
  ·obtain ⟨k',rfl⟩ : ∃ k',a=f.blocks.length+k':=⟨a-f.blocks.length,by omega⟩
   have hk':k'<ed.length:=by omega
   have e2:=(kC w hk').1 he
   have hr':=w.rng hk'
   refine ⟨fun lb=>?_,fun k hk e=>by omega⟩
   have hre:=ih.2 k' hk' rfl
   have hee:=w.hed _ (bu hk')
   refine .step hre (?_:cW (ofG f.blocks) _ _=true) hb
   rw [←e2,Int.toNat_of_nonneg hr'.1.1]
   exact hee
theorem Fh (w:dV f ed) {wo:Int} (hwo:wo<f.blocks.length) {b:Nat} (hb:b<f.blocks.length):Re (ofG (onE ed f).blocks) wo b↔Re (ofG f.blocks) wo b:=
 ⟨fun h=>(AY w h).1 hb,yT w hwo⟩
end
end Go.Proofs.YtbkdlhkoiagbbaaGreat
namespace Go.Proofs.YtbkdlhkoiagbbaaGreat
open Go Go.Lft
theorem tG {f:ah} {p i:Nat} (h : ∀ j,j<f.blocks.length→(nth f.blocks j).phis.length≤p∧(nth f.blocks j).ins.length≤i) : ∀ k,k≤f.blocks.length→cntT f k≤(p+i+1)*k
 | 0,_=>by simp [cntT]
 | k+1,hk=>by
  have ih:=tG h k (by omega)
  have:=h k (by omega)
  show cntT f k+_≤_
  rw [Nat.mul_succ];omega
theorem xD {f:ah}:(dI f).length≤f.blocks.length*f.blocks.length:=by
 unfold dI fN
 refine Nat.le_trans (List.length_filter_le _ _) ?_
 rw [lC,dJ]
 refine uU fun a _=>?_
 have:=qB (g:=ofG f.blocks) (a:=a)
 rw [dJ] at this;exact this
section
variable {s:List Int}
theorem Bm:cntT (gS s) (gS s).blocks.length≤2385:=by
 obtain ⟨d,p3,p0,hph⟩:=AN (s:=s)
 obtain ⟨n1,n2⟩:=eh (s:=s)
 have hlen:=d.gt.len
 have hins:=d.ins
 have hB:(gS s).blocks=(fT s).blocks:=rfl
 have:=tG (f:=gS s) (p:=3) (i:=261) (fun j hj=>⟨p3 j,by rw [hB] at hj ⊢;exact hins j (by omega)⟩) _ (Nat.le_refl _)
 rw [hB,hlen] at this
 rw [hB,hlen]
 omega
theorem Hg:iH (gS s)=0:=by
 unfold iH
 rw [zw yy,if_neg (by simp)]
 have h1:=Bm (s:=s)
 have h2:=yV (s:=s)
 have h3:=xD (f:=gS s)
 have h4:(gS s).blocks.length*(gS s).blocks.length≤9*9:=Nat.mul_le_mul h2.2 h2.2
 have:pZ (gS s)=false:=by
  unfold pZ
  rw [decide_eq_false (by omega),decide_eq_false (by omega)];rfl
 rw [this];rfl
end
theorem G8 {f:ah} (m:jg f) (hn:f.blocks.length≤12):AO f:=by
 intro b hb i hi
 have h:=(m.phi b i hb hi).2.1
 have hl:(nth (nth f.blocks b).phis i).ins.length=(aw f b).length:=by rw [←h,List.length_map]
 refine ⟨?_,?_,fun x hx=>?_⟩
 ·rw [hl]
  exact Nat.le_trans (fG _) hn
 ·rw [h]
  exact nw.imp fun h=>by omega
 ·have:x.frm∈aw f b:=by rw [←h];exact List.mem_map_of_mem hx
  exact (qj.1 this).1
theorem zZ {f:ah} (m:jg f):dV f (dI f) where
 hto a ha t ht:=by have:=(m.endG ha).2 t ht;omega
 hed e he:=(lk.1 he).1
 hnd:=mI
theorem Ee {f:ah} {ed:List (Int × Int)} (sm:SmF f) (he:f.blocks.length+ed.length≤10000):SmF (onE ed f):=by
 refine ⟨by rw [de];exact he,fun i hi=>?_⟩
 rw [de] at hi
 rcases Nat.lt_or_ge i f.blocks.length with h | h
 ·rw [nZ h]
  have q:=sm.blk i h
  refine ⟨by show (List.map _ _).length≤_;rw [List.length_map];exact q.phis,q.ins,q.args,by show (List.map _ _).length≤_;rw [List.length_map];exact q.to,fun j hj=>?_,q.inn⟩
  have hj:j<(nth f.blocks i).phis.length:=by simpa [blE] using hj
  show (nth ((nth f.blocks i).phis.map (phE ed f.blocks.length i)) j).ins.length≤_
  rw [ak (by rw [List.length_map];exact hj),List.getElem_map]
  show (srt _).length≤_
  rw [na.length_eq,List.length_map,←ak hj]
  exact q.phi j hj
 ·obtain ⟨k,rfl⟩ : ∃ k,i=f.blocks.length+k:=⟨i-f.blocks.length,by omega⟩
  rw [jB (by omega)]
  exact ⟨Nat.zero_le _,Nat.zero_le _,Nat.zero_le _,by show 1≤_;decide,fun j hj=>absurd hj (Nat.not_lt_zero _),fun j hj=>absurd hj (Nat.not_lt_zero _)⟩
end Go.Proofs.YtbkdlhkoiagbbaaGreat
namespace Go.Proofs.YtbkdlhkoiagbbaaGreat
open Go Go.Lft
theorem CC {s:List Int} {v:Value} {h:Heap} (hs:SlRd (vw h) v s):aD Tryz.prog N.fV #[v] h (fun u h'=>h'=h∧SlRd (vw h) u (s.take 400)):=by
 refine ao (args:=[v]) follows F.fV E.fV (Nat.le_of_ble_eq_true (by kernel_rfl)) fun Kc hK=>?_
 dsimp only [L.fV]
 have hb:=hs.bound
 simp [hs.len]
 refine ⟨fun h1=>?_,fun h1=>?_⟩
 ·obtain ⟨u,h2,h3⟩:=hs.take (n:=400) (by omega) (kd:=.i64)
  have h2:Bn.ev .hi v (.int .i64 400)=some u:=h2
  simp [h2]
  exact hK _ _ ⟨rfl,h3⟩
 ·refine hK _ _ ⟨rfl,?_⟩
  rw [List.take_of_length_le (by omega)];exact hs
end Go.Proofs.YtbkdlhkoiagbbaaGreat
namespace Go.Proofs.YtbkdlhkoiagbbaaGreat
open Go Go.Lft
section
variable {f:ah} {ed:List (Int × Int)}
theorem lZ {f:ah} {b x:Int} (hb:0≤b∧b<f.blocks.length):x∈aw f b↔cW (ofG f.blocks) x b=true:=by
 rw [qj,bT]
 constructor
 ·rintro ⟨h1,h2⟩;exact ⟨by omega,h2⟩
 ·rintro ⟨h1,h2⟩;exact ⟨by omega,h2⟩
theorem jL {a:Nat} (ha:a<f.blocks.length):(nth (onE ed f).blocks a).phis=(nth f.blocks a).phis.map (phE ed f.blocks.length a):=by rw [nZ ha];rfl
theorem ji {a:Nat} (ha:a<f.blocks.length):(nth (onE ed f).blocks a).ins=(nth f.blocks a).ins:=by rw [nZ ha];rfl
theorem nA {a:Nat} (ha:a<f.blocks.length):(nth (onE ed f).blocks a).term=tmE ed f.blocks.length a (nth f.blocks a).term:=by rw [nZ ha];rfl
theorem sk {a i:Nat} (ha:a<f.blocks.length) (hi:i<(nth f.blocks a).phis.length):nth (nth (onE ed f).blocks a).phis i=phE ed f.blocks.length a (nth (nth f.blocks a).phis i):=by
 rw [jL ha,ak (by rw [List.length_map];exact hi),List.getElem_map,ak hi]
structure Ce (f g:ah) (t t':Th):Prop where
 mem:t'∈aG g
 blk:t'.blk=t.blk
 place:t'.place=t.place
 mks:t'.mks=t.mks
 tks:t'.tks.Perm t.tks
theorem xw {n:Nat} {a:Int} {p:PhiD}:((phE ed n a p).ins.map InD.val).Perm (p.ins.map InD.val):=by
 have:=(na (l:=p.ins.map (frmE ed n a))).map InD.val
 rw [List.map_map] at this
 exact this
theorem wu {a i:Nat} (ha:a<f.blocks.length) (hi:i<(nth f.blocks a).phis.length):(phiT (onE ed f) a i).mks=(phiT f a i).mks:=by
 show [(nth (nth (onE ed f).blocks a).phis i).dst]=[(nth (nth f.blocks a).phis i).dst]
 rw [sk ha hi];rfl
theorem mK {a i:Nat} (ha:a<f.blocks.length):insT (onE ed f) a i=insT f a i:=by unfold insT;rw [ji ha]
theorem lK {a:Nat} (ha:a<f.blocks.length):endT (onE ed f) a=endT f a:=by unfold endT;rw [ji ha,nA ha];rfl
theorem Ay {k:Nat} (hk:k<ed.length):endT (onE ed f) (f.blocks.length+k)=⟨((f.blocks.length+k:Nat):Int),0,[],[]⟩:=by unfold endT;rw [jB hk];rfl
theorem Gj {t:Th} (ht:t∈aG f) : ∃ t',Ce f (onE ed f) t t':=by
 obtain ⟨c,hc,h⟩:=bz.1 ht
 have hlt:c<(onE ed f).blocks.length:=by rw [de];omega
 rcases bP.1 h with ⟨i,hi,rfl⟩ | ⟨i,hi,rfl⟩ | rfl
 ·refine ⟨phiT (onE ed f) c i,bz.2 ⟨c,hlt,bP.2 (.inl ⟨i,by rw [jL hc,List.length_map];exact hi,rfl⟩)⟩,rfl,rfl,wu hc hi,?_⟩
  show ((nth (nth (onE ed f).blocks c).phis i).ins.map InD.val).Perm _
  rw [sk hc hi];exact xw
 ·exact ⟨insT (onE ed f) c i,bz.2 ⟨c,hlt,bP.2 (.inr (.inl ⟨i,by rw [ji hc];exact hi,rfl⟩))⟩,rfl,rfl,by rw [mK hc],by rw [mK hc]⟩
 ·exact ⟨endT (onE ed f) c,bz.2 ⟨c,hlt,bP.2 (.inr (.inr rfl))⟩,by rw [lK hc],by rw [lK hc],by rw [lK hc],by rw [lK hc]⟩
theorem E1 {t':Th} (ht:t'∈aG (onE ed f)):(∃ t∈aG f,Ce f (onE ed f) t t')∨∃ k,k<ed.length∧t'=⟨((f.blocks.length+k:Nat):Int),0,[],[]⟩:=by
 obtain ⟨c,hc,h⟩:=bz.1 ht
 rw [de] at hc
 rcases Nat.lt_or_ge c f.blocks.length with l | l
 ·rcases bP.1 h with ⟨i,hi,rfl⟩ | ⟨i,hi,rfl⟩ | rfl
  ·rw [jL l,List.length_map] at hi
   refine .inl ⟨phiT f c i,bz.2 ⟨c,l,bP.2 (.inl ⟨i,hi,rfl⟩)⟩,ht,rfl,rfl,wu l hi,?_⟩
   show ((nth (nth (onE ed f).blocks c).phis i).ins.map InD.val).Perm _
   rw [sk l hi];exact xw
  ·rw [ji l] at hi
   rw [mK l] at ht ⊢
   exact .inl ⟨insT f c i,bz.2 ⟨c,l,bP.2 (.inr (.inl ⟨i,hi,rfl⟩))⟩,ht,rfl,rfl,rfl,.refl _⟩
  ·rw [lK l] at ht ⊢
   exact .inl ⟨endT f c,bz.2 ⟨c,l,bP.2 (.inr (.inr rfl))⟩,ht,rfl,rfl,rfl,.refl _⟩
 ·obtain ⟨k,rfl⟩ : ∃ k,c=f.blocks.length+k:=⟨c-f.blocks.length,by omega⟩
  have hk:k<ed.length:=by omega
  refine .inr ⟨k,hk,?_⟩
  rcases bP.1 h with ⟨i,hi,rfl⟩ | ⟨i,hi,rfl⟩ | rfl
  ·rw [jB hk] at hi;exact absurd hi (Nat.not_lt_zero _)
  ·rw [jB hk] at hi;exact absurd hi (Nat.not_lt_zero _)
  ·exact Ay hk
theorem pL {α β:Type} {x y:α→List β} : ∀ {l:List α},(∀ a∈l,x a=y a)→l.flatMap x=l.flatMap y
 | [],_=>rfl
 | a::l,h=>by rw [List.flatMap_cons,List.flatMap_cons,h a (List.mem_cons_self ..),pL fun b hb=>h b (List.mem_cons_of_mem _ hb)]
theorem BN {c:Nat} (hc:c<f.blocks.length):(thB (onE ed f) c).flatMap Th.mks=(thB f c).flatMap Th.mks:=by
 unfold thB
 rw [jL hc,ji hc,List.length_map]
 simp only [List.flatMap_append,List.flatMap_singleton]
 unfold rows
 rw [List.flatMap_map,List.flatMap_map,List.flatMap_map,List.flatMap_map,pL (x:=fun i=>(phiT (onE ed f) c i).mks) (y:=fun i=>(phiT f c i).mks) fun i h=>wu hc (List.mem_range.1 h),pL (x:=fun i=>(insT (onE ed f) c i).mks) (y:=fun i=>(insT f c i).mks) fun i h=>by rw [mK hc],lK hc]
theorem AW : ∀ {n:Nat},n≤f.blocks.length→(thTo (onE ed f) n).flatMap Th.mks=(thTo f n).flatMap Th.mks
 | 0,_=>rfl
 | n+1,h=>by rw [eH,eH,List.flatMap_append,List.flatMap_append,AW (by omega),BN (by omega)]
theorem AE : ∀ {k:Nat},k≤ed.length→(thTo (onE ed f) (f.blocks.length+k)).flatMap Th.mks=(thTo f f.blocks.length).flatMap Th.mks
 | 0,_=>AW (Nat.le_refl _)
 | k+1,h=>by
  have e:thB (onE ed f) (f.blocks.length+k)=[endT (onE ed f) (f.blocks.length+k)]:=by
   unfold thB;rw [jB (by omega)];rfl
  rw [←Nat.add_assoc,eH,List.flatMap_append,AE (by omega),e,Ay (by omega)]
  simp
theorem Fp:gI (aG (onE ed f))=gI (aG f):=by
 unfold gI aG
 rw [de,AE (Nat.le_refl _)]
theorem As : ∀ {n:Nat},n≤f.blocks.length→jd (onE ed f) n=jd f n+ed.length
 | 0,_=>de
 | n+1,h=>by
  show jd (onE ed f) n+_+_=jd f n+_+_+_
  rw [As (by omega),jL (by omega),ji (by omega),List.length_map];omega
theorem AV : ∀ {k:Nat},k≤ed.length→jd (onE ed f) (f.blocks.length+k)=jd f f.blocks.length+ed.length
 | 0,_=>As (Nat.le_refl _)
 | k+1,h=>by
  show jd (onE ed f) (f.blocks.length+k)+(nth (onE ed f).blocks (f.blocks.length+k)).phis.length+(nth (onE ed f).blocks (f.blocks.length+k)).ins.length=_
  rw [AV (by omega),jB (by omega)];rfl
theorem dV.pE (w:dV f ed) {v c p:Int} (hc:0≤c∧c<f.blocks.length) (h:ft f v c p):ft (onE ed f) v c p:=by
 rcases h with h | ⟨t,ht,hv,h⟩
 ·exact .inl h
 ·obtain ⟨t',ct⟩:=Gj (ed:=ed) ht
  have hat:=mT ht
  refine .inr ⟨t',ct.mem,by rw [ct.mks];exact hv,?_⟩
  rw [ct.blk,ct.place]
  rcases h with h | ⟨h1,h2⟩
  ·exact .inl h
  ·exact .inr ⟨h1,fun r=>h2 ((Fh w hat.2 (by omega)).1 r)⟩
theorem dV.FJ (w:dV f ed) {v p q:Int} {k:Nat} (hk:k<ed.length) (h:ft f v (nth ed k).1 p):ft (onE ed f) v ((f.blocks.length+k:Nat):Int) q:=by
 have hr:=w.rng hk
 rcases h with h | ⟨t,ht,hv,h⟩
 ·exact .inl h
 ·obtain ⟨t',ct⟩:=Gj (ed:=ed) ht
  have hat:=mT ht
  refine .inr ⟨t',ct.mem,by rw [ct.mks];exact hv,?_⟩
  rw [ct.blk,ct.place]
  refine .inr ⟨by omega,fun r=>?_⟩
  rw [Int.toNat_natCast] at r
  have r2:=(AY w r).2 k hk rfl
  rcases h with ⟨h1,_⟩ | ⟨_,h2⟩
  ·have:=r2.ne
   omega
  ·exact h2 r2
theorem dV.may (w:dV f ed) (mb:jg f) (hn:f.blocks.length+ed.length≤512) (hc:jd f f.blocks.length+ed.length≤4096):jg (onE ed f):=by
 have hb0:=mb.blocks.1
 have hto1 : ∀ k,k<ed.length→1≤(nth ed k).2:=fun k hk=>by
  have h:=w.hed _ (bu hk)
  rw [bT] at h
  have:=(mb.endG (b:=(nth ed k).1.toNat) (by omega)).2 _ h.2
  omega
 refine ⟨mb.params,by rw [de];omega,by rw [de,AV (Nat.le_refl _)];exact hc,fun t ht=>?_,by rw [Fp];exact mb.nodup,fun b hb=>?_,fun t ht hp v hv=>?_,fun b i hb hi=>?_⟩
 ·obtain ⟨c,hc,h⟩:=bz.1 ht
  rw [de] at hc
  rcases Nat.lt_or_ge c f.blocks.length with l | l
  ·rcases bP.1 h with ⟨i,hi,rfl⟩ | ⟨i,hi,rfl⟩ | rfl
   ·rw [jL l,List.length_map] at hi
    refine yd fun n hn=>?_
    rw [wu l hi] at hn
    exact (mb.phiG l hi).mks n hn
   ·rw [ji l] at hi
    have gd:=mb.insG l hi
    refine yH (by rw [ji l];exact hi) (by rw [ji l];exact gd.2) fun n hn=>?_
    rw [mK l] at hn
    exact gd.1.mks n hn
   ·have gd:=mb.endG l
    refine pV ?_ fun n hn=>?_
    ·rw [nA l]
     have:=gd.1
     unfold jm at this ⊢
     unfold tmE
     dsimp only
     rw [List.length_map];exact this
    ·rw [nA l] at hn
     obtain ⟨t,ht,rfl⟩:=List.mem_map.1 hn
     have:=gd.2 t ht
     rw [de]
     unfold toE
     cases hp:putE ed f.blocks.length c t with
     | none=>rw [Option.getD_none];omega
     | some q=>have:=jK hp;rw [Option.getD_some];omega
  ·obtain ⟨k,rfl⟩ : ∃ k,c=f.blocks.length+k:=⟨c-f.blocks.length,by omega⟩
   have hk:k<ed.length:=by omega
   have hb:=jB (f:=f) hk
   rcases bP.1 h with ⟨i,hi,rfl⟩ | ⟨i,hi,rfl⟩ | rfl
   ·rw [hb] at hi;exact absurd hi (Nat.not_lt_zero _)
   ·rw [hb] at hi;exact absurd hi (Nat.not_lt_zero _)
   ·refine pV (by rw [hb];rfl) fun n hn=>?_
    rw [hb] at hn
    obtain rfl:=List.mem_singleton.1 hn
    have:=w.rng hk
    have:=hto1 k hk
    rw [de];omega
 ·rw [de] at hb
  rcases Nat.lt_or_ge b f.blocks.length with l | l
  ·exact yT w (by omega) (mb.way b l)
  ·obtain ⟨k,rfl⟩ : ∃ k,b=f.blocks.length+k:=⟨b-f.blocks.length,by omega⟩
   have hk:k<ed.length:=by omega
   have hr:=w.rng hk
   have h1:=yT w (wo:=-1) (by omega) (mb.way (nth ed k).1.toNat (by omega))
   exact .step h1 ((rW w (by omega) hk).2 (by omega)) (by omega)
 ·rcases E1 ht with ⟨t0,ht0,ce⟩ | ⟨k,hk,rfl⟩
  ·have:=mb.takes t0 ht0 (by rw [←ce.place];exact hp) v (ce.tks.mem_iff.1 hv)
   rw [ce.blk,ce.place]
   exact w.pE (mT ht0) this
  ·cases hv
 ·rw [de] at hb
  rcases Nat.lt_or_ge b f.blocks.length with l | l
  ·rw [jL l,List.length_map] at hi
   rw [sk l hi]
   obtain ⟨k1,k2,k3⟩:=mb.phi b i l hi
   generalize nth (nth f.blocks b).phis i=p at k2 k3
   have hfr : ∀ x∈p.ins,0≤x.frm∧x.frm<f.blocks.length:=fun x hx=>by
    have:x.frm∈aw f b:=by rw [←k2];exact List.mem_map_of_mem hx
    exact (qj.1 this).1
   have hnd0:(p.ins.map InD.frm).Nodup:=by rw [k2];exact tC.imp fun h=>Int.ne_of_lt h
   have hnd:=tU (E:=ed) (n:=f.blocks.length) (b:=b) hnd0 hfr
   have hpm:=na (l:=p.ins.map (frmE ed f.blocks.length b))
   refine ⟨k1,?_,fun q hq=>?_⟩
   ·refine List.Perm.eq_of_pairwise (le:=fun a b:Int=>a≤b) (fun a b _ _ h1 h2=>by omega) (List.pairwise_map.2 s7) (tC.imp fun h=>Int.le_of_lt h) ((hpm.map InD.frm).trans ?_)
    refine (List.perm_ext_iff_of_nodup hnd (tC.imp fun h=>Int.ne_of_lt h)).2 fun x=>?_
    rw [lZ (by rw [de];omega),List.map_map,List.mem_map]
    constructor
    ·rintro ⟨y,hy,rfl⟩
     have ye:cW (ofG f.blocks) y.frm b=true:=(lZ (by omega)).1 (by rw [←k2];exact List.mem_map_of_mem hy)
     have yr:=hfr y hy
     show cW _ ((putE ed f.blocks.length y.frm b).getD y.frm) b=true
     by_cases hm:(y.frm,(b:Int))∈ed
     ·obtain ⟨k,hk,e⟩:=List.getElem_of_mem hm
      have e1:nth ed k=(y.frm,(b:Int)):=by rw [ak hk,e]
      have:=wz w hk
      rw [e1] at this
      rw [this,Option.getD_some]
      exact (kC w hk).2 (by rw [e1])
     ·have:putE ed f.blocks.length y.frm b=none:=by unfold putE;rw [if_neg hm]
      rw [this,Option.getD_none]
      have h:=(lr w (a:=y.frm.toNat) (b:=b) (by omega) l).2
      rw [Int.toNat_of_nonneg yr.1] at h
      exact h ⟨ye,hm⟩
    ·intro he
     have hr:=(bT.1 he).1
     rw [de] at hr
     obtain ⟨z,rfl⟩:=Int.eq_ofNat_of_zero_le hr.1
     rcases Nat.lt_or_ge z f.blocks.length with lz | lz
     ·obtain ⟨h1,h2⟩:=(lr w lz l).1 he
      have:=(lZ (f:=f) (b:=b) (by omega)).2 h1
      rw [←k2] at this
      obtain ⟨y,hy,e⟩:=List.mem_map.1 this
      refine ⟨y,hy,?_⟩
      show (putE ed f.blocks.length y.frm b).getD y.frm=_
      have:putE ed f.blocks.length y.frm b=none:=by unfold putE;rw [e,if_neg h2]
      rw [this,Option.getD_none,e]
     ·obtain ⟨k,rfl⟩ : ∃ k,z=f.blocks.length+k:=⟨z-f.blocks.length,by omega⟩
      have hk:k<ed.length:=by omega
      have e2:=(kC w hk).1 he
      have h1:=w.hed _ (bu hk)
      rw [e2] at h1
      have:=(lZ (f:=f) (b:=b) (by omega)).2 h1
      rw [←k2] at this
      obtain ⟨y,hy,e⟩:=List.mem_map.1 this
      refine ⟨y,hy,?_⟩
      show (putE ed f.blocks.length y.frm b).getD y.frm=_
      have:=wz w hk
      rw [e2] at this
      rw [e,this,Option.getD_some];omega
   ·obtain ⟨x,hx,rfl⟩:=List.mem_map.1 (hpm.mem_iff.1 hq)
    have hs:=k3 x hx
    have hxr:=hfr x hx
    show ft _ x.val ((putE ed f.blocks.length x.frm b).getD x.frm) _
    cases hp:putE ed f.blocks.length x.frm b with
    | none=>
     rw [Option.getD_none]
     have e:nE (onE ed f) ((frmE ed f.blocks.length b x).frm)=nE f x.frm:=by
      unfold frmE
      dsimp only
      rw [hp,Option.getD_none]
      unfold nE
      rw [ji (by omega)]
     rw [e]
     exact w.pE hxr hs
    | some q=>
     rw [Option.getD_some]
     have h:=jK hp
     obtain ⟨k,hk⟩ : ∃ k:Nat,q=((f.blocks.length+k:Nat):Int):=⟨(q-f.blocks.length).toNat,by omega⟩
     subst hk
     have hkl:k<ed.length:=by omega
     unfold putE at hp
     rw [if_pos h.2.2] at hp
     have hq2:=Option.some.inj hp
     have hlt:=List.idxOf_lt_length_iff.2 h.2.2
     have e1:k=ed.idxOf (x.frm,(b:Int)):=by omega
     have e2:(nth ed k).1=x.frm:=by
      rw [ak hkl]
      have:=List.getElem_idxOf hlt
      subst e1
      rw [this]
     exact w.FJ hkl (by rw [e2];exact hs)
  ·obtain ⟨k,rfl⟩ : ∃ k,b=f.blocks.length+k:=⟨b-f.blocks.length,by omega⟩
   rw [jB (by omega)] at hi
   exact absurd hi (Nat.not_lt_zero _)
end
end Go.Proofs.YtbkdlhkoiagbbaaGreat
namespace Go.Proofs.YtbkdlhkoiagbbaaGreat
open Go Go.Lft
section
variable {n:Nat}
theorem Dz {l:List Int} (hs:l.Pairwise (· < ·)) {x y:Int} (hx:x∈l) (hy:y∈l) (h:x≠y):1<l.length:=by
 match l,hs with
 | [],_=>cases hx
 | [z],_=>
  rw [List.mem_singleton] at hx hy
  exact absurd (hx.trans hy.symm) h
 | _::_::_,_=>simp
theorem Dk {l:List Int} (hs:l.Pairwise (· < ·)) {z:Int} (h : ∀ x∈l,x=z):¬1<l.length:=by
 match l,hs with
 | [],_=>simp
 | [_],_=>simp
 | a::b::l,hs=>
  have h1:=h a (by simp)
  have h2:=h b (by simp)
  have:=(List.pairwise_cons.1 hs).1 b (by simp)
  omega
theorem mc {g:Gr} {b x:Int} (hb:0≤b∧b<g.length):x∈nth (dC g) b.toNat↔cW g x b=true:=by
 rw [dC,df (by omega),jJ]
 constructor
 ·rintro ⟨a,_,h,rfl⟩
  rw [Int.toNat_of_nonneg hb.1] at h;exact h
 ·intro h
  have hr:=(dU.1 h).1
  exact ⟨x.toNat,by omega,by rw [Int.toNat_of_nonneg hr.1,Int.toNat_of_nonneg hb.1];exact h,Int.toNat_of_nonneg hr.1⟩
theorem lh {g:Gr} {b:Nat} (hb:b<g.length):(nth (dC g) b).Pairwise (· < ·):=by
 rw [dC,df hb];exact nw
end
end Go.Proofs.YtbkdlhkoiagbbaaGreat
namespace Go.Proofs.YtbkdlhkoiagbbaaGreat
open Go Go.Lft
theorem Al {g:Gr} {a b:Int} {vg:Value} {h:Heap} (hg:SlRd (vw h) vg g) :
  aD Tryz.prog N.dG #[vg,.int .i64 a,.int .i64 b] h (fun v h'=>v = .bool (cW g a b)∧h'=h):=by
 refine ao (args:=[vg,.int .i64 a,.int .i64 b]) follows F.dG E.dG (Nat.le_of_ble_eq_true (by kernel_rfl)) fun K hK=>?_
 have bg:=hg.bound
 by_cases hin:0≤a∧a<g.length∧0≤b∧b<g.length
 ·obtain ⟨h1,h2,h3,h4⟩:=hin
  obtain ⟨i,rfl⟩:=Int.eq_ofNat_of_zero_le h1
  obtain ⟨rv,hrv⟩:=hg.rows
  obtain ⟨hc,hr⟩:=hrv i (by omega)
  have br:=hr.bound
  have hspec:cW g i b=(nth g i).contains b:=by simp [cW,h2,h3,h4]
  rw [hspec] at hK
  simp (disch:=omega) [L.dG,hg.len,Int.not_lt.2 h1,Int.not_le.2 h2,Int.not_lt.2 h3,Int.not_le.2 h4]
  refine gR [0,1,2,6,7] (fun n ρ h'=>∃ k:Nat,k≤(nth g i).length∧ρ=[(0,vg),(1,.int .i64 i),(2,.int .i64 b),(6,.bool false),(7,.int .i64 k)]∧h'=h∧n=(nth g i).length-k∧∀ j,j<k→nth (nth g i) j≠b) (nth g i).length ⟨0,by omega,rfl,rfl,rfl,by intro j hj;omega⟩ ?_
  rintro n ρ h' ⟨k,hk,rfl,rfl,rfl,hpre⟩ K2 hK2
  by_cases hlt:k<(nth g i).length
  ·simp (disch:=omega) [L.dG.l1,hg.len,hg.idx1 rfl,hc _ (View.le_refl _),hr.len,hlt,hr.idx1 rfl,hr.int (View.le_refl _)]
   refine ⟨fun he=>hK _ _ ⟨?_,rfl⟩,fun he=>hK2 _ _ _ ?_ ⟨k+1,hlt,rfl,rfl,rfl,fun j hj=>?_⟩⟩
   ·subst he;simpa using bu hlt
   ·omega
   ·rcases Nat.lt_or_ge j k with h | h
    ·exact hpre j h
    ·have:j=k:=by omega
     subst this;exact he
  ·simp (disch:=omega) [L.dG.l1,hg.len,hg.idx1 rfl,hc _ (View.le_refl _),hr.len,hlt]
   refine hK _ _ ⟨?_,rfl⟩
   have:k=(nth g i).length:=by omega
   subst this
   simp only [Value.bool.injEq]
   refine (Bool.eq_false_iff.2 fun hm=>?_).symm
   simp only [List.contains_iff_mem] at hm
   obtain ⟨j,hj,e⟩:=List.getElem_of_mem hm
   exact hpre j hj (by rw [ak hj];exact e)
 ·have hspec:cW g a b=false:=by simp [cW];omega
  rw [hspec] at hK
  have hc:(((a<0∨(g.length:Int)≤a)∨b<0)∨(g.length:Int)≤b):=by omega
  have hd:(decide (a<0)||decide ((g.length:Int)≤a)||decide (b<0)||decide ((g.length:Int)≤b))=true:=by simpa [or_assoc] using hc
  simp (disch:=omega) [L.dG,hg.len,hd]
  exact hK _ _ ⟨rfl,rfl⟩
theorem FI {g:Gr} {a:Int} {vg:Value} {h:Heap} (hg:SlRd (vw h) vg g) (hs:g.length≤1000000) :
  aD Tryz.prog N.eL #[vg,.int .i64 a] h (fun v h'=>(vw h).le (vw h')∧SlRd (fresh h h') v (cQ g a)):=by
 refine ao (args:=[vg,.int .i64 a]) follows F.eL E.eL (Nat.le_of_ble_eq_true (by kernel_rfl)) fun K hK=>?_
 simp [L.eL]
 refine bZ [0,1,5,6] (fun (v:Value) k=>[vg,.int .i64 a,v,.int .i64 k]) (fun v k h1=>Mine nothing h h1 nothing 3 v (sift (fun b=>cW g a b) (fun b=>(b:Int)) k)) g.length (.slice none 0 0)
  rfl (by omega) rfl (Mine.start (fun _ _ h=>by cases h)) (fun _ _=>rfl) (fun v k h1 hk m=>by simp [hg.len]) ?_ ?_
 ·intro v k h1 hlt m K2 hK2
  simp
  refine af (by kernel_rfl) (Al (hg.mono m.old)) ?_
  rintro _ _ ⟨rfl,rfl⟩
  simp [dT]
  refine ⟨fun he=>?_,fun he=>hK2 v _ _ rfl rfl (by rw [fY he];exact m)⟩
  have:=fG (p:=fun b=>cW g a b) (x:=fun b=>(b:Int)) k
  refine m.push El.a8 (by simp<;>rfl) (mJ (by omega) (by omega)) (by omega) (by omega) (fun _=>by simp) (fun _=>by simp) fun u v' h3 m'=>hK2 v' _ _ rfl rfl (by rw [gX he];exact m')
 ·intro v h1 m
  simp
  exact hK _ _ ⟨m.old,m.fresh⟩
theorem By {g:Gr} {vg:Value} {h:Heap} (hg:SlRd (vw h) vg g) (hs:g.length≤1000000) :
  aD Tryz.prog N.dz #[vg] h (fun v h'=>(vw h).le (vw h')∧SlRd (fresh h h') v (dC g)):=by
 refine ao (args:=[vg]) follows F.dz E.dz (Nat.le_of_ble_eq_true (by kernel_rfl)) fun K hK=>?_
 simp [L.dz]
 refine bZ [0,3,4] (fun (s:Value × View) k=>[vg,s.1,.int .i64 k]) (fun s k h1=>Mine nothing h h1 s.2 T.a8 s.1 (rows (fun b=>sift (fun a=>cW g a b) (fun a=>(a:Int)) g.length) k)) g.length (.slice none 0 0,nothing)
  rfl (by omega) rfl (Mine.start (fun _ _ h=>by cases h)) (fun _ _=>rfl) (fun v k h1 hk m=>by simp [hg.len]) ?_ ?_
 ·rintro ⟨v,W⟩ b h1 hlt m K2 hK2
  simp
  refine bZ [0,3,4,5,6] (fun (r:Value) a=>[vg,v,.int .i64 b,r,.int .i64 a]) (fun r a h2=>Mine nothing h1 h2 nothing 3 r (sift (fun a=>cW g a b) (fun a=>(a:Int)) a)) g.length (.slice none 0 0)
   rfl (by omega) rfl (Mine.start (fun _ _ h=>by cases h)) (fun _ _=>rfl) (fun v k h1 hk m=>by simp [hg.len]) ?_ ?_
  ·intro r a h2 hlt2 m2 K3 hK3
   simp
   refine af (by kernel_rfl) (Al (hg.mono (View.le_trans m.old m2.old))) ?_
   rintro _ _ ⟨rfl,rfl⟩
   simp [dT]
   refine ⟨fun he=>?_,fun he=>hK3 r _ _ rfl rfl (by rw [fY he];exact m2)⟩
   have:=fG (p:=fun a=>cW g a b) (x:=fun b=>(b:Int)) a
   refine m2.push El.a8 (by simp<;>rfl) (mJ (by omega) (by omega)) (by omega) (by omega) (fun _=>by simp) (fun _=>by simp) fun u v' h3 m'=>hK3 v' _ _ rfl rfl (by rw [gX he];exact m')
  ·intro r h2 m2
   simp
   have mm:=m.ext m2.old
   refine mm.push El.cJ (by simp<;>rfl) (gl.2 (m2.fresh.mono (eR _ _ _))) (by simp;omega) (by simp;omega) (fun _=>by simp) (fun _=>by simp) fun u v' h3 m'=>hK2 (v',_) _ _ rfl rfl (by rw [eW];exact m')
 ·rintro ⟨v,W⟩ h1 m
  simp
  exact hK _ _ ⟨m.old,m.fresh⟩
theorem tM {g:Gr} {vg:Value} {h:Heap} (hg:SlRd (vw h) vg g) (hs:g.length≤1000) :
  aD Tryz.prog N.cg #[vg] h (fun v h'=>(vw h).le (vw h')∧SlRd (fresh h h') v (iN g)):=by
 refine ao (args:=[vg]) follows F.cg E.cg (Nat.le_of_ble_eq_true (by kernel_rfl)) fun K hK=>?_
 simp [L.cg]
 refine af (by kernel_rfl) (By hg (by omega)) ?_
 rintro vp h1 ⟨hle1,hp⟩
 have hp:=hp.mono (eY _ _)
 have hg:=hg.mono hle1
 have hlp:=sL (g:=g)
 have hup : ∀ k,(up (fun a l=>l++jZ g (dC g) a) k []).length≤k*g.length:=fun k=>by
  have:=uI (f:=fun a (l:List (Int × Int))=>l++jZ g (dC g) a) (m:=g.length) (fun k x=>by
   have h1:(jZ g (dC g) k).length≤(cQ g k).length:=fG _
   have h2:=qB (g:=g) (a:=k)
   simp only [List.length_append];omega) k []
  simpa using this
 refine bZ [0,3,4,5] (fun (v:Value) k=>[vg,vp,v,.int .i64 k]) (fun v k h2=>∃ W,Mine nothing h1 h2 W T.kh v (up (fun a l=>l++jZ g (dC g) a) k [])) g.length (.slice none 0 0)
  rfl (by omega) rfl ⟨_,Mine.start (fun _ _ h=>by cases h)⟩ (fun _ _=>rfl) (fun v k h1 hk m=>by simp [hg.len]) ?_ ?_
 ·rintro v a h2 hlta ⟨W,m⟩ K2 hK2
  simp
  refine af (by kernel_rfl) (FI (hg.mono m.old) (by omega)) ?_
  rintro r h3 ⟨hle3,hr⟩
  have hr3:=hr.mono (eR W _ _)
  have br:=hr.bound
  have m3:=m.ext hle3
  refine bZ [0,3,4,5,6,7] (fun (v:Value) i=>[vg,vp,v,.int .i64 a,r,.int .i64 i]) (fun v i h4=>Mine nothing h1 h4 (grow W h2 h3) T.kh v (up (fun a l=>l++jZ g (dC g) a) a []++sift (rL g (dC g) a) (fun i=>((a:Int),nth (cQ g a) i)) i)) (cQ g a).length v
   rfl (by omega) rfl (by simpa using m3) (fun _ _=>rfl) (fun v k h1 hk m=>by simp [hr.len]) ?_ ?_
  ·intro v i h4 hlti m4 K3 hK3
   obtain ⟨e0,e1⟩:=BV hlti
   have hp4:=hp.mono m4.old
   obtain ⟨rp,hrp⟩:=hp4.rows
   obtain ⟨cp,rp'⟩:=hrp (nth (cQ g a) i).toNat (by omega)
   have hr4:=hr3.mono m4.wle
   simp (disch:=omega) [hr.len,hr4.idx1 rfl,hr4.int (View.le_refl _),hp4.idx1 rfl,cp _ (View.le_refl _),rp'.len,dT,-Bool.and_eq_true,-Bool.and_eq_false_imp]
   have hl1:=hup a
   have hl2:=fG (p:=rL g (dC g) a) (x:=fun i=>((a:Int),nth (cQ g a) i)) i
   have hl3:=qB (g:=g) (a:=a)
   have hl4:a*g.length≤1000*g.length:=Nat.mul_le_mul_right _ (by omega)
   refine ⟨fun he=>?_,fun he=>hK3 v _ _ rfl rfl (by rw [fY (show rL g (dC g) a i=false from he)];exact m4)⟩
   refine aR (z:=.agg #[.int .i64 0,.int .i64 0]) (places:=[(0,1),(1,1)]) (vs:=[(0,.int .i64 a),(1,.int .i64 (nth (cQ g a) i))]) (cs:=#[.int .i64 a,.int .i64 (nth (cQ g a) i)]) (by kernel_rfl) (by kernel_rfl) (by simp) rfl ?_
   refine m4.push (d:=((a:Int),nth (cQ g a) i)) El.iX (by simp<;>rfl) (rT.2 ⟨rfl,⟨by omega,by omega⟩,by omega,by omega⟩) (by simp;omega) (by simp;omega) (fun _=>by simp) (fun _=>by simp) fun u v' h3 m'=>hK3 v' _ _ rfl rfl (by rw [gX (show rL g (dC g) a i=true from he),←List.append_assoc];exact m')
  ·intro v h4 m4
   simp
   exact hK2 v _ _ rfl rfl ⟨_,m4⟩
 ·rintro v h2 ⟨W,m⟩
  simp
  exact hK _ _ ⟨View.le_trans hle1 m.old,m.fresh.mono (mg hle1)⟩
end Go.Proofs.YtbkdlhkoiagbbaaGreat
