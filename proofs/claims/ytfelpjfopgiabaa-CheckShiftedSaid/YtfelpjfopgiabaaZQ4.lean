/- A part of the proof: Ra, Ma, Sa, Sb, Rb, Rc, Rd, Rf, Rg, Rh, Sc, Sd, Se, Ta, Tb, Tc, Td, Sg, Mb, Mc, Md, Me, Mf, Mg, Mh. -/
import Derived.Test.YtfelpjfopgiabaaZQ3
set_option linter.unusedSimpArgs false
set_option linter.unusedVariables false
namespace Go.Proofs.Ytfelpjfopgiabaa
open Go Go.Lft
theorem mS {d:InsD} {v:Value} {h:Heap} (hd:Rd (vw h) v d):aG Try.prog N.eH #[v] h (fun u h'=>(vw h).le (vw h')∧SlRd (fresh h h') u (aN d)∧(d.op=16→u = .slice none 0 0)):=by
 refine ay (args:=[v]) follows F.eH E.eH (Nat.le_of_ble_eq_true (by kernel_rfl)) fun K hK=>?_
 simp [L.eH]
 refine eJ rfl hd fun h1 _ hle1 hsz1 hat=>?_
 obtain ⟨c0,c1,c2,va,ca⟩:=nr hat
 have r1:=(hat.part InsD.iK).rng
 have r2:=(hat.part InsD.te).rng
 simp [c0]
 refine ⟨fun e1=>hK _ _ ⟨hle1,by simpa [aN,e1] using dM,fun _=>rfl⟩,fun e1=>⟨fun e2=>?_,fun e2=>?_⟩⟩
 ·simp [c1,c2]
  refine fX (X:=nothing) (ds:=[d.dst,d.two]) (vs:=[.int .i64 d.dst,.int .i64 d.two]) rfl El.aP (by simp) ⟨cn.2 ⟨rfl,r1⟩,cn.2 ⟨rfl,r2⟩,trivial⟩ aZ rfl (by omega) fun u h2 hle2 hsz2 hu _=>?_
  exact hK _ _ ⟨View.le_trans hle1 hle2,by simpa [aN,e2] using hu _ aZ (by unfold fresh;rw [if_neg (by omega)]),fun e=>absurd e e1⟩
 ·simp [c1]
  refine fX (X:=nothing) (ds:=[d.dst]) (vs:=[.int .i64 d.dst]) rfl El.aP (by simp) ⟨cn.2 ⟨rfl,r1⟩,trivial⟩ aZ rfl (by omega) fun u h2 hle2 hsz2 hu _=>?_
  exact hK _ _ ⟨View.le_trans hle1 hle2,by simpa [aN,e1,e2] using hu _ aZ (by unfold fresh;rw [if_neg (by omega)]),fun e=>absurd e e1⟩
def oR (op n:Int):Bool:=if op=1 then decide (n=0) else if op=15 then decide (n=1) else if op=17 then decide (n≤4) else decide (n=2)
def jw (t:dc):Bool:=
 if t.kind=1 then decide ((t.args.length:Int)=0)&&decide ((t.to.length:Int)=1)
 else if t.kind=2 then decide ((t.args.length:Int)=1)&&decide ((t.to.length:Int)=2)
 else if t.kind=3 then decide ((t.args.length:Int)=1)&&decide ((2:Int)≤t.to.length)&&decide ((t.to.length:Int)≤65)
 else if t.kind=4 then decide ((t.args.length:Int)≤1)&&decide ((t.to.length:Int)=0)
 else if t.kind=5 then decide ((t.args.length:Int)=0)&&decide ((t.to.length:Int)=0) else false
def az (f:ak) (b:Int):List Int:=sift (fun a=>decide (b∈(nth f.blocks a).term.to)) (fun a=>(a:Int)) f.blocks.length
theorem wm {H:View} {v:Value} {l:List BlkD} (h:SlRd H v l) {i:Nat} (hi:i<l.length) : ∃ u,Sl H ((((slA v).add (i*6)).add 2).add 2) u (nth l i).term.to:=by
 rw [aq hi]
 exact ((((h.at hi).part BlkD.pE).part dc.Eb)).sl
theorem qj {f:ak} {b:Int} {v:Value} {h:Heap} (hv:Rd (vw h) v f) (hn:f.blocks.length≤1000000) :
  aG Try.prog N.df #[v,.int .i64 b] h (fun u h'=>(vw h).le (vw h')∧SlRd (fresh h h') u (az f b)):=by
 refine ay (args:=[v,.int .i64 b]) follows F.df E.df (Nat.le_of_ble_eq_true (by kernel_rfl)) fun K hK=>?_
 dsimp only [L.df]
 refine aa fun z hz=>?_
 simp
 refine eJ rfl hv fun h1 _ hle1 hsz1 hat=>?_
 obtain ⟨_,vb,cb⟩:=gq hat
 generalize h.size=B at cb
 rw [hz];clear hz z
 refine aa fun z hz=>?_
 simp
 refine qS (α:=Int) El.aP fun h2 hle2 hsz2 own2=>?_
 have m0:=Mine.empty (V:=nothing) (W:=nothing) (View.le_refl (vw h1)) hle2 aZ (Old.nothing _ _) own2
 generalize Value.slice (some ⟨h1.size,0,none⟩) 0 0=v0 at m0
 have cb2:=cb.2
 have cc2:=cb.1
 rw [hz];clear hz z
 refine aa fun z hz=>?_
 simp
 refine cB [1,2,5,6] (fun (r:Value) k=>[.int .i64 b,.pointer (some ⟨B,0,none⟩),r,.int .i64 k]) (fun r k h3=>Mine nothing h1 h3 nothing T.int r (sift (fun a=>decide (b∈(nth f.blocks a).term.to)) (fun a=>(a:Int)) k)) f.blocks.length v0
  rfl (by omega) rfl m0 (fun _ _=>rfl) (fun v k h3 hk m=>by simp [ah m.old cc2,(cb2.mono m.old).len]) ?_ ?_
 ·rintro r k h3 hlt m K2 hK2
  have hle3:=m.old
  have cb3:=cb2.mono hle3
  obtain ⟨w,hw⟩:=wm cb3 hlt
  have hwb:=hw.2.bound
  have hsl:=kW (p:=fun a=>decide (b∈(nth f.blocks a).term.to)) (x:=fun a=>(a:Int)) k
  refine aa fun y hy=>?_
  simp (disch:=omega) [ah hle3 cc2,cb3.idxn (N:=6) rfl,hw.1]
  rw [hy];clear hy y
  simp
  refine cB [1,2,5,6,7,8] (fun (_:Unit) j=>[.int .i64 b,.pointer (some ⟨B,0,none⟩),r,.int .i64 k,w,.int .i64 j]) (fun _ j h4=>h4=h3∧∀ i,i<j→nth (nth f.blocks k).term.to i≠b) (nth f.blocks k).term.to.length ()
   rfl (by omega) rfl ⟨rfl,fun i hi=>by omega⟩ (fun _ _=>rfl) (fun v j h4 hk m=>by simp [hw.2.len]) ?_ ?_
  ·rintro _ j h3 hltj ⟨rfl,hpre⟩ K3 hK3
   simp (disch:=omega) [hw.2.idx1 rfl,hw.2.int (View.le_refl _)]
   refine ⟨fun e=>?_,fun e=>hK3 () _ _ rfl rfl ⟨rfl,fun i hi=>?_⟩⟩
   ·have hmem:b∈(nth f.blocks k).term.to:=e▸bS hltj
    refine m.push (d:=(k:Int)) El.aP (by simp<;>rfl) (jQ (by omega) (by omega)) (by omega) (by omega) (fun _=>by simp) (fun _=>by simp) fun u v' h5 m'=>?_
    exact hK2 v' _ _ rfl rfl (by rw [lu (by simpa using hmem)];exact m')
   ·rcases Nat.lt_or_ge i j with h | h
    ·exact hpre i h
    ·have:i=j:=by omega
     subst this;exact e
  ·rintro _ h3 ⟨rfl,hpre⟩
   have hmem:¬b∈(nth f.blocks k).term.to:=fun hm=>by
    obtain ⟨i,hi,e⟩:=List.getElem_of_mem hm
    exact hpre i hi (by rw [aq hi];exact e)
   simp
   exact hK2 r _ _ rfl rfl (by rw [km (by simpa using hmem)];exact m)
 ·rintro r h3 m
  simp
  rw [hz];clear hz z
  simp
  exact hK _ _ ⟨View.le_trans hle1 m.old,m.fresh.mono (rR hle1)⟩
end Go.Proofs.Ytfelpjfopgiabaa
namespace Go.Proofs.Ytfelpjfopgiabaa
open Go Go.Lft
def mkL (vs:Value) (at_:Nat) (ps:Int) (vb:Value) (nx:Int) (vl:Value):List Value:=[vs,.int .i64 at_,.int .i64 ps,vb,.int .i64 nx,vl]
def rawV (s:List Int) (at_:Nat):Int:=if at_<s.length then nth s at_ else 0
def aB (s:List Int) (at_:Nat) (n:Int):Int:=((rawV s at_).tmod n+n).tmod n
theorem aY {s:List Int} {at_:Nat} {n:Int} (hn:0<n):0≤aB s at_ n∧aB s at_ n<n:=by
 have b1:=Int.lt_tmod_of_pos (rawV s at_) hn
 exact ⟨Int.tmod_nonneg _ (by omega),Int.tmod_lt_of_pos _ hn⟩
theorem Dt {W:View} {h:Heap} {o:Own} {M at_:Nat} {vs vb vl:Value} {ps nx n:Int} {s:List Int} (w:Owns W h o) (hk:o (0,0)=bx T.aK M (RawN.mk (n:=5) (mkL vs at_ ps vb nx vl))) (hs:SlRd W vs s) (h1:at_≤1000000000) (hn:0<n) (hn2:n≤1000000000) :
  aG Try.prog N.bP #[.pointer (some ⟨M,0,none⟩),.int .i64 n] h (fun u h'=>u = .int .i64 (aB s at_ n)∧Owns W h' (o.upd (0,0) (bx T.aK M (RawN.mk (n:=5) (mkL vs (at_+1) ps vb nx vl))))):=by
 refine ay (args:=[.pointer (some ⟨M,0,none⟩),.int .i64 n]) follows F.bP E.bP (Nat.le_of_ble_eq_true (by kernel_rfl)) fun K hK=>?_
 have c0:an (vw h) ⟨M,0,none⟩=some vs:=w.raw hk (i:=0) (by decide)
 have c1:an (vw h) ⟨M,1,none⟩=some (.int .i64 at_):=w.raw hk (i:=1) (by decide)
 dsimp only [L.bP]
 refine aa fun z hz=>?_
 simp
 rw [hz];clear hz z
 refine aa fun z hz=>?_
 simp
 rw [hz];clear hz z
 refine aa fun z hz=>?_
 have hsl : ∀ {Q:View},Un.ev Q .len vs=some (.int .i64 s.length):=fun {Q}=>hs.len
 refine pq (fun ρ h2=>h2=h∧I64 (rawV s at_)∧ρ=[(0,.pointer (some ⟨M,0,none⟩)),(1,.int .i64 n),(4,.int .i64 0),(5,.int .i64 (rawV s at_))]) ?_ ?_
 ·intro K2 hK2
  by_cases c:at_<s.length
  ·have hs2:=hs.mono w.wle
   have hr:=hs.range (i:=at_) c
   have e:rawV s at_=nth s at_:=if_pos c
   rw [e] at hK2
   simp (disch:=omega) [c0,c1,hsl,c,hs2.idx1 rfl,hs2.int (View.le_refl _)]
   exact hK2 _ _ ⟨rfl,hr,rfl⟩
  ·have e:rawV s at_=0:=if_neg c
   rw [e] at hK2
   simp [c0,c1,hsl,c]
   exact hK2 _ _ ⟨rfl,⟨by decide,by decide⟩,rfl⟩
 ·rintro _ h2 ⟨rfl,hx,rfl⟩
  rw [hz];clear hz z
  refine aa fun z hz=>?_
  simp (disch:=omega) [c1]
  refine w.bs (k:=(0,0)) (n:=5) (i:=1) (e:=T.aK) (B:=M) (l:=mkL vs at_ ps vb nx vl) hk (by decide) (by kernel_rfl) rfl rfl rfl fun h3 w3 _=>?_
  rw [hz];clear hz z
  have b1:=Int.lt_tmod_of_pos (rawV s at_) hn
  have b2:=Int.tmod_lt_of_pos (rawV s at_) hn
  have hw:IntKind.i64.wrap ((rawV s at_).tmod n+n)=(rawV s at_).tmod n+n:=cf (by omega) (by omega)
  have hne:¬n=0:=by omega
  simp [hw,hne]
  refine hK _ _ ⟨rfl,w3.congr fun q=>?_⟩
  rfl
theorem wE {W:View} {h:Heap} {o:Own} {M at_:Nat} {vs vb vl:Value} {ps nx:Int} (w:Owns W h o) (hk:o (0,0)=bx T.aK M (RawN.mk (n:=5) (mkL vs at_ ps vb nx vl))) (h0:0≤nx) (h1:nx≤1000000000) :
  aG Try.prog N.bH #[.pointer (some ⟨M,0,none⟩)] h (fun u h'=>u = .int .i64 nx∧Owns W h' (o.upd (0,0) (bx T.aK M (RawN.mk (n:=5) (mkL vs at_ ps vb (nx+1) vl))))∧∀ X:View,X.le (vw h)→X M=none→X.le (vw h')):=by
 refine ay (args:=[.pointer (some ⟨M,0,none⟩)]) follows F.bH E.bH (Nat.le_of_ble_eq_true (by kernel_rfl)) fun K hK=>?_
 have c4:an (vw h) ⟨M,4,none⟩=some (.int .i64 nx):=w.raw hk (i:=4) (by decide)
 dsimp only [L.bH]
 refine aa fun z hz=>?_
 simp
 rw [hz];clear hz z
 refine aa fun z hz=>?_
 simp (disch:=omega) [c4]
 refine w.bs (k:=(0,0)) (n:=5) (i:=4) (e:=T.aK) (B:=M) (l:=mkL vs at_ ps vb nx vl) hk (by decide) (by kernel_rfl) rfl rfl rfl fun h3 w3 hx3=>?_
 have w3:Owns W h3 (o.upd (0,0) (bx T.aK M (RawN.mk (n:=5) (mkL vs at_ ps vb (nx+1) vl)))):=w3
 have c5:an (vw h3) ⟨M,4,none⟩=some (.int .i64 (nx+1)):=w3.raw Own.ag (i:=4) (by decide)
 rw [hz];clear hz z
 simp (disch:=omega) [c5]
 exact hK _ _ ⟨by congr 1,w3,hx3⟩
end Go.Proofs.Ytfelpjfopgiabaa
namespace Go.Proofs.Ytfelpjfopgiabaa
open Go Go.Lft
def fewP (x:PhiD):PhiD:={ x with ins:=x.ins.take 6 }
def fewI (x:InsD):InsD:={ x with args:=x.args.take 6 }
def fewB (x:BlkD):BlkD:=⟨(x.phis.take 8).map fewP,(x.ins.take 40).map fewI,{ x.term with args:=x.term.args.take 6,to:=x.term.to.take 70 }⟩
def fewS (f:ak):ak:=⟨f.params,(f.blocks.take 9).map fewB⟩
structure Few where
 r:Nat
 rl:List Value
 out:Option (Nat × List Value):=none
 outL:Option (Value × List BlkD):=none
 y:Option (Nat × List Value):=none
 yP:Option (Value × List PhiD):=none
 yI:Option (Value × List InsD):=none
 o:Own:=fun _=>none
def cV (s:Few):Own:=fun k=>
 if k=(0,0) then s.out.bind fun x=>bx T.aE x.1 (RawN.mk (n:=1) x.2)
 else if k=(0,1) then s.outL.bind fun x=>it T.ao x.1 x.2
 else if k=(1,0) then s.y.bind fun x=>bx T.ao x.1 (RawN.mk (n:=5) x.2)
 else if k=(1,1) then s.yP.bind fun x=>it T.cj x.1 x.2
 else if k=(1,2) then s.yI.bind fun x=>it T.aW x.1 x.2
 else if k=(5,0) then bx T.aE s.r (RawN.mk (n:=1) s.rl)
 else if k.1<10 then none
 else s.o k
section
variable (s:Few) (q:Key)
theorem FJ {B:Nat} {l:List Value}:cV { s with out:=some (B,l) } q=(cV s).upd (0,0) (bx T.aE B (RawN.mk (n:=1) l)) q:=by
 by_cases hq:q=(0,0)
 ·subst hq;rfl
 ·unfold cV Own.upd
  simp only [hq,if_false]
theorem Ev {v:Value} {l:List BlkD}:cV { s with outL:=some (v,l) } q=(cV s).upd (0,1) (it T.ao v l) q:=by
 by_cases hq:q=(0,1)
 ·subst hq;rfl
 ·unfold cV Own.upd
  simp only [hq,if_false]
theorem Dg {B:Nat} {l:List Value}:cV { s with y:=some (B,l) } q=(cV s).upd (1,0) (bx T.ao B (RawN.mk (n:=5) l)) q:=by
 by_cases hq:q=(1,0)
 ·subst hq;rfl
 ·unfold cV Own.upd
  simp only [hq,if_false]
theorem EV {v:Value} {l:List PhiD}:cV { s with yP:=some (v,l) } q=(cV s).upd (1,1) (it T.cj v l) q:=by
 by_cases hq:q=(1,1)
 ·subst hq;rfl
 ·unfold cV Own.upd
  simp only [hq,if_false]
theorem E8 {v:Value} {l:List InsD}:cV { s with yI:=some (v,l) } q=(cV s).upd (1,2) (it T.aW v l) q:=by
 by_cases hq:q=(1,2)
 ·subst hq;rfl
 ·unfold cV Own.upd
  simp only [hq,if_false]
end
theorem HR {s:Few} {k:Key} (h:¬k.1<10):cV s k=s.o k:=by
 unfold cV
 rw [if_neg (by rintro rfl;exact h (by decide)),if_neg (by rintro rfl;exact h (by decide)),if_neg (by rintro rfl;exact h (by decide)),if_neg (by rintro rfl;exact h (by decide)),if_neg (by rintro rfl;exact h (by decide)),if_neg (by rintro rfl;exact h (by decide)),if_neg h]
end Go.Proofs.Ytfelpjfopgiabaa
namespace Go.Proofs.Ytfelpjfopgiabaa
open Go Go.Lft
theorem rS {H:View} {u:Value} {d:dc} (h:Rd H u d) : ∃ va vt,u = .agg #[.int .i64 d.kind,va,vt,.int .i32 d.imm.v]∧SlRd H va d.args∧SlRd H vt d.to:=by
 obtain ⟨cs,rfl,c1,r1,e1,⟨rfl,h1⟩,c2,r2,e2,⟨va,rfl,h2⟩,c3,r3,e3,⟨vt,rfl,h3⟩,h4,h5⟩:=h
 subst e3 e2
 have he:cs.toList=[.int .i64 d.kind,va,vt,.int .i32 d.imm.v]:=by rw [e1,h4];rfl
 refine ⟨va,vt,?_,h2,h3⟩
 rw [←Array.toList_inj.1 (he.trans rfl:cs.toList = #[Value.int .i64 d.kind,va,vt,.int .i32 d.imm.v].toList)]
theorem zK {H:View} {u:Value} {d:PhiD} (h:Rd H u d) : ∃ vi,u = .agg #[.int .i64 d.dst,vi]∧I64 d.dst∧SlRd H vi d.ins:=by
 obtain ⟨cs,rfl,c1,r1,e1,⟨rfl,hd⟩,vi,h2,h3⟩:=h
 exact ⟨vi,by rw [←Array.toList_inj.1 ((by rw [e1,h2];rfl):cs.toList = #[Value.int .i64 d.dst,vi].toList)],hd,h3⟩
theorem qV {H:View} {u:Value} {d:InsD} (h:Rd H u d) : ∃ va,u = .agg #[.int .i64 d.op,.int .i64 d.dst,.int .i64 d.two,va,.int .i32 d.imm.v]∧(I64 d.op∧I64 d.dst∧I64 d.two∧-2147483648≤d.imm.v∧d.imm.v≤2147483647)∧SlRd H va d.args:=by
 obtain ⟨cs,rfl,c1,r1,e1,⟨rfl,h1⟩,c2,r2,e2,⟨rfl,h2⟩,c3,r3,e3,⟨rfl,h3⟩,c4,r4,e4,⟨va,rfl,h4⟩,h5,h6⟩:=h
 subst e4 e3 e2
 exact ⟨va,by rw [←Array.toList_inj.1 ((by rw [e1,h5];rfl):cs.toList = #[Value.int .i64 d.op,.int .i64 d.dst,.int .i64 d.two,va,.int .i32 d.imm.v].toList)],⟨h1,h2,h3,h6⟩,h4⟩
theorem sA {H:View} {d:Int} {v:Value} {l:List InD} (h1:I64 d) (h2:SlRd H v l):Rd H (.agg #[.int .i64 d,v]) (PhiD.mk d l):=⟨_,rfl,[.int .i64 d],[v],rfl,⟨rfl,h1⟩,v,rfl,h2⟩
theorem ju {H:View} {op d two:Int} {imm:I32} {v:Value} {l:List Int} (h:I64 op∧I64 d∧I64 two∧-2147483648≤imm.v∧imm.v≤2147483647) (h2:SlRd H v l):Rd H (.agg #[.int .i64 op,.int .i64 d,.int .i64 two,v,.int .i32 imm.v]) (InsD.mk op d two l imm):=
 ⟨_,rfl,[.int .i64 op],_,rfl,⟨rfl,h.1⟩,[.int .i64 d],_,rfl,⟨rfl,h.2.1⟩,[.int .i64 two],_,rfl,⟨rfl,h.2.2.1⟩,[v],_,rfl,⟨v,rfl,h2⟩,rfl,h.2.2.2⟩
theorem sF {H:View} {vp vi va vt:Value} {p:List PhiD} {i:List InsD} {a t:List Int} {kd:Int} {imm:I32} (h1:SlRd H vp p) (h2:SlRd H vi i) (h3:SlRd H va a) (h4:SlRd H vt t) (h5:I64 kd) (h6:-2147483648≤imm.v∧imm.v≤2147483647):Rd H (.agg #[vp,vi,.int .i64 kd,va,vt,.int .i32 imm.v]) (BlkD.mk p i ⟨kd,a,t,imm⟩):=
 ⟨_,rfl,[vp],_,rfl,⟨vp,rfl,h1⟩,[vi],_,rfl,⟨vi,rfl,h2⟩,[.int .i64 kd],_,rfl,⟨rfl,h5⟩,[va],_,rfl,⟨va,rfl,h3⟩,[vt],_,rfl,⟨vt,rfl,h4⟩,rfl,h6⟩
theorem kz {α:Type} {l:List α} {n:Nat}:l.take (min l.length n)=l.take n:=by
 rcases Nat.le_total l.length n with h | h
 ·rw [Nat.min_eq_left h,List.take_of_length_le (Nat.le_refl _),List.take_of_length_le h]
 ·rw [Nat.min_eq_right h]
theorem iH {α:Type} [Rep α] {H:View} {v:Value} {l:List α} (h:SlRd H v l) (n:Nat) (m:Int) (hm:m=n) : ∃ u,Bn.ev .hi v (.int .i64 (if m<(l.length:Int) then m else l.length))=some u∧SlRd H u (l.take n):=by
 subst hm
 obtain ⟨u,h1,h2⟩:=h.take (n:=min l.length n) (by omega) (kd:=.i64)
 rw [kz] at h2
 refine ⟨u,?_,h2⟩
 rw [show (if (n:Int)<(l.length:Int) then (n:Int) else l.length)=((min l.length n:Nat):Int) by split<;>omega]
 exact h1
theorem kS {α β:Type} [Inhabited α] {f:α→β} {l:List α} {k:Nat} (h:k<l.length):(l.take (k+1)).map f=(l.take k).map f++[f (nth l k)]:=by
 rw [List.take_succ_eq_append_getElem h,List.map_append,aq h];rfl
theorem FQ {s:Few} {X:Option Lft.Item} {v:Value} {l:List PhiD} {B:Nat} {c:List Value} {W:View} {h:Heap} (w:Owns W h ((((cV s).upd (2,0) X).upd (1,1) (it T.cj v l)).upd (1,0) (bx T.ao B (RawN.mk (n:=5) c)))):Owns W h (cV { s with y:=some (B,c),yP:=some (v,l) }):=w.sub fun q i hq=>by
 have hne:q≠(2,0):=by rintro rfl;cases hq
 have e:cV { s with y:=some (B,c),yP:=some (v,l) } q=((cV s).upd (1,1) (it T.cj v l)).upd (1,0) (bx T.ao B (RawN.mk (n:=5) c)) q:=by
  rw [show cV { s with y:=some (B,c),yP:=some (v,l) } q=_ from Dg { s with yP:=some (v,l) } q]
  unfold Own.upd
  split
  ·rfl
  ·exact EV s q
 rw [e] at hq
 rw [←hq]
 simp only [Own.upd,hne,if_false]
theorem FK {s:Few} {X:Option Lft.Item} {v:Value} {l:List InsD} {B:Nat} {c:List Value} {W:View} {h:Heap} (w:Owns W h ((((cV s).upd (2,0) X).upd (1,2) (it T.aW v l)).upd (1,0) (bx T.ao B (RawN.mk (n:=5) c)))):Owns W h (cV { s with y:=some (B,c),yI:=some (v,l) }):=w.sub fun q i hq=>by
 have hne:q≠(2,0):=by rintro rfl;cases hq
 have e:cV { s with y:=some (B,c),yI:=some (v,l) } q=((cV s).upd (1,2) (it T.aW v l)).upd (1,0) (bx T.ao B (RawN.mk (n:=5) c)) q:=by
  rw [show cV { s with y:=some (B,c),yI:=some (v,l) } q=_ from Dg { s with yI:=some (v,l) } q]
  unfold Own.upd
  split
  ·rfl
  ·exact E8 s q
 rw [e] at hq
 rw [←hq]
 simp only [Own.upd,hne,if_false]
theorem EI {s:Few} {Y:Nat × List Value} {a:Value × List PhiD} {b:Value × List InsD} (hP:s.yP=none) (hI:s.yI=none) (q:Key):cV { s with y:=some Y } q=((cV { s with y:=some Y,yP:=some a,yI:=some b }).upd (1,1) none).upd (1,2) none q:=by
 obtain ⟨r,rl,o,ol,y,yp,yi,oo⟩:=s
 simp only at hP hI
 subst hP hI
 unfold cV Own.upd
 by_cases h1:q=(1,1)
 ·subst h1;rfl
 by_cases h2:q=(1,2)
 ·subst h2;rfl
 simp only [h1,h2,if_false]
theorem DT {s:Few} {Y:Nat × List Value} {v:Value} {l:List BlkD} {B:Nat} {c:List Value} {W:View} {h:Heap} (hP:s.yP=none) (hI:s.yI=none) (w:Owns W h (((cV { s with y:=some Y }).upd (0,1) (it T.ao v l)).upd (0,0) (bx T.aE B (RawN.mk (n:=1) c)))):Owns W h (cV { r:=s.r,rl:=s.rl,o:=s.o,out:=some (B,c),outL:=some (v,l) }):=w.sub fun q i hq=>by
 obtain ⟨r,rl,o,ol,y,yp,yi,oo⟩:=s
 simp only at hP hI
 subst hP hI
 rw [←hq]
 have h3:q≠(1,0):=by rintro rfl;cases hq
 unfold cV Own.upd
 by_cases h1:q=(0,0)
 ·subst h1;rfl
 by_cases h2:q=(0,1)
 ·subst h2;rfl
 simp only [h1,h2,h3,if_false]
theorem Em {f:ak} {v:Value} {h:Heap} {W:View} {o0:Own} (w0:Owns W h o0) (ho0 : ∀ k:Key,k.1<10→o0 k=none) (hv:Rd W v f) :
  aG Try.prog N.cO #[v] h (fun u h'=>∃ W',W.le W'∧Owns W' h' o0∧Rd W' u (fewS f)):=by
 refine ay (args:=[v]) follows F.cO E.cO (Nat.le_of_ble_eq_true (by kernel_rfl)) fun K hK=>?_
 dsimp only [L.cO]
 refine aa fun z hz=>?_
 simp
 refine eJ rfl (hv.mono w0.wle) fun h1 hp1 hle1 hs1 _=>?_
 have w1:=w0.ext hle1
 have hW1:=aX (h':=h1) w0.wle
 have hat:At (grow W h h1) ⟨h.size,0,none⟩ f:=mT (t:=T.aE) (fz:=(0,0)) (by rw [cQ (Nat.le_refl _),hp1];simp) (hv.mono hW1)
 generalize grow W h h1=V1 at w1 hW1 hat
 obtain ⟨cp,vb,cb⟩:=gq hat
 generalize h.size=B at cp cb
 have cpr:=(hat.part ak.rq).rng
 have nb:=cb.2.bound
 refine w1.jj (k:=(5,0)) (n:=1) (z:=.agg #[.int .i64 0,.slice none 0 0]) (ho0 _ (by decide)) (by kernel_rfl) rfl (by decide) (by simp [Value.cells,Value.oneCell']) fun h2 q2 w2=>?_
 generalize h1.size=R at w2
 have w2:Owns V1 h2 (cV { r:=R,o:=o0,rl:=[.int .i64 0,.slice none 0 0] }):=w2.congr fun q=>by
  unfold cV Own.upd
  repeat' split
  all_goals first | rfl | simp_all
 rw [hz];clear hz z
 refine aa fun z hz=>?_
 simp [ah w2.wle cp]
 refine aL (z:=.agg #[.int .i64 0,.slice none 0 0]) (places:=[(0,1),(1,1)]) (vs:=[(0,.int .i64 f.params)]) (cs:=#[.int .i64 f.params,.slice none 0 0]) (by kernel_rfl) (by kernel_rfl) (by simp) (by rfl) ?_
 refine w2.gZ (k:=(0,0)) (n:=1) (l:=[.int .i64 f.params,.slice none 0 0]) rfl (z:=.agg #[.int .i64 0,.slice none 0 0]) (by kernel_rfl) rfl (by kernel_rfl) rfl (by decide) (by simp [Value.oneCell']) (fun _=>by simp) (fun _=>by simp) fun h3 q3 w3=>?_
 generalize h2.size=D at w3
 have w3:=w3.congr fun q=>FJ _ q
 have w3:=(w3.add (k:=(0,1)) rfl (OwnT.nil (α:=BlkD) _ h3 T.ao) (View.le_refl _) (fun b hb=>by simp [Value.ownBlock] at hb)).congr fun q=>Ev _ q
 rw [hz];clear hz z
 refine aa fun z hz=>?_
 simp
 obtain ⟨n,hn⟩ : ∃ n:Nat,n=min f.blocks.length 9:=⟨_,rfl⟩
 have hn1 : ∀ k:Nat,(decide (k<f.blocks.length)&&decide ((k:Int)<9))=decide (k<n):=fun k=>by rw [Bool.eq_iff_iff];simp only [Bool.and_eq_true,decide_eq_true_eq];omega
 refine j0 [1,2,3,4] (fun (_:Unit) k=>[.pointer (some ⟨B,0,none⟩),.pointer (some ⟨R,0,none⟩),.pointer (some ⟨D,0,none⟩),.int .i64 k])
  (fun _ k h4=>∃ W vo,V1.le W∧vo.oneCell'=true∧Owns W h4 (cV { r:=R,o:=o0,rl:=[.int .i64 0,.slice none 0 0],out:=some (D,[.int .i64 f.params,vo]),outL:=some (vo,(f.blocks.take k).map fewB) })) n ()
  rfl (by omega) rfl ⟨V1,.slice none 0 0,View.le_refl _,rfl,w3⟩ (fun _ _=>rfl) (fun v k h4 hk ⟨W,vo,q1,_,q2⟩=>by simp [ah (View.le_trans q1 q2.wle) cb.1,(cb.2.mono (View.le_trans q1 q2.wle)).len,hn1]) ?_ ?_
 ·rintro _ k h4 hltk ⟨W4,vo,hW4,hvo,w4⟩ K2 hK2
  have hkl:k<f.blocks.length:=by omega
  have cb4:=cb.2.mono hW4
  have cc4:=ah hW4 cb.1
  obtain ⟨ux,hux,huxr⟩:=cb4.wh rfl (N:=6) rfl hkl
  have htk:=kS (f:=fewB) hkl
  generalize nth f.blocks k=x at huxr htk
  have hlo:((f.blocks.take k).map fewB).length≤9:=by simp;omega
  generalize (f.blocks.take k).map fewB=out at w4 htk hlo
  refine aa fun y hy=>?_
  simp (disch:=omega) [ah w4.wle cc4,(cb4.mono w4.wle).idxn (N:=6) rfl,hux _ w4.wle]
  refine dU (X:=W4) (z:=.agg #[.slice none 0 0,.slice none 0 0,.int .i64 0,.slice none 0 0,.slice none 0 0,.int .i32 0]) (by kernel_rfl) rfl (by kernel_rfl) huxr (fun _=>by simp) (fun _=>by simp) fun h5 hle5 hs5 hat5=>?_
  have w5:=w4.ext hle5
  have hat5:=hat5 (grow W4 h4 h5) (aX w4.wle) (cQ (Nat.le_refl _))
  have hW5:=View.le_trans hW4 (aX (h':=h5) w4.wle)
  generalize grow W4 h4 h5=W5 at w5 hat5 hW5
  generalize h4.size=D5 at hat5
  obtain ⟨vp,vi,va,vt,bp,bi,bk,ba,bt⟩:=kC hat5
  have hterm:=hat5.part BlkD.pE
  obtain ⟨uT,huT,huTr⟩:=hterm.al rfl
  obtain ⟨va',vt',rfl,ta,tt⟩:=rS huTr
  have tk:=(hterm.part dc.wu).rng
  have ti:-2147483648≤x.term.imm.v∧x.term.imm.v≤2147483647:=by
   obtain ⟨cs,_,c1,r1,_,_,c2,r2,_,_,c3,r3,_,_,_,h6⟩:=hterm
   exact h6
  have huT:Un.ev W5 (.al 4) (.pointer (some ⟨D5,2,none⟩))=some (.agg #[.int .i64 x.term.kind,va',vt',.int .i32 x.term.imm.v]):=by
   have h2:Un.ev W5 (.al 4) (.pointer (some ((⟨D5,0,none⟩:Addr).add 2)))=_:=huT
   rwa [xw] at h2
  have huT6:Un.ev (vw h5) (.al 4) (.pointer (some ⟨D5,2,none⟩))=some (.agg #[.int .i64 x.term.kind,va',vt',.int .i32 x.term.imm.v]):=by
   have:=cw (ρ:=fun _=>none) (e:=.un (.al 4) (.con (.pointer (some ⟨D5,2,none⟩)))) w5.wle (by simpa using huT)
   simpa using this
  rw [hy];clear hy y
  refine aa fun y hy=>?_
  simp [huT6]
  refine aL (z:=.agg #[.slice none 0 0,.slice none 0 0,.int .i64 0,.slice none 0 0,.slice none 0 0,.int .i32 0]) (places:=[(0,1),(1,1),(2,4)]) (vs:=[(2,.agg #[.int .i64 x.term.kind,va',vt',.int .i32 x.term.imm.v])]) (cs:=#[.slice none 0 0,.slice none 0 0,.int .i64 x.term.kind,va',vt',.int .i32 x.term.imm.v]) (by kernel_rfl) (by kernel_rfl) (by simp) (by rfl) ?_
  refine w5.gZ (k:=(1,0)) (n:=5) (l:=[.slice none 0 0,.slice none 0 0,.int .i64 x.term.kind,va',vt',.int .i32 x.term.imm.v]) rfl (z:=.agg #[.slice none 0 0,.slice none 0 0,.int .i64 0,.slice none 0 0,.slice none 0 0,.int .i32 0]) (by kernel_rfl) rfl (by kernel_rfl) rfl (by decide) (by intro c hc;simp only [List.mem_cons,List.not_mem_nil,or_false] at hc;rcases hc with rfl | rfl | rfl | rfl | rfl | rfl<;>first | rfl | exact ta.cells.2 | exact tt.cells.2) (fun _=>by simp) (fun _=>by simp) fun h6 q6 w6=>?_
  generalize h5.size=D6 at w6
  have w6:=w6.congr fun q=>Dg _ q
  have w6:=(w6.add (k:=(1,1)) rfl (OwnT.nil (α:=PhiD) _ h6 T.cj) (View.le_refl _) (fun b hb=>by simp [Value.ownBlock] at hb)).congr fun q=>EV _ q
  have w6:=(w6.add (k:=(1,2)) rfl (OwnT.nil (α:=InsD) _ h6 T.aW) (View.le_refl _) (fun b hb=>by simp [Value.ownBlock] at hb)).congr fun q=>E8 _ q
  rw [hy];clear hy y
  refine aa fun y hy=>?_
  simp
  obtain ⟨S,hS⟩ : ∃ S:Few,S={ r:=R,o:=o0,rl:=[.int .i64 0,.slice none 0 0],out:=some (D,[.int .i64 f.params,vo]),outL:=some (vo,out) }:=⟨_,rfl⟩
  have w6:Owns W5 h6 (cV { S with y:=some (D6,[.slice none 0 0,.slice none 0 0,.int .i64 x.term.kind,va',vt',.int .i32 x.term.imm.v]),yP:=some (.slice none 0 0,(x.phis.take 0).map fewP),yI:=some (.slice none 0 0,[]) }):=by rw [hS];exact w6
  clear w5 w4
  have np:=bp.2.bound
  obtain ⟨n6,hn6⟩ : ∃ n6:Nat,n6=min x.phis.length 8:=⟨_,rfl⟩
  have hc6 : ∀ k:Nat,(decide (k<x.phis.length)&&decide ((k:Int)<8))=decide (k<n6):=fun k=>by rw [Bool.eq_iff_iff];simp only [Bool.and_eq_true,decide_eq_true_eq];omega
  refine j0 [1,2,3,4,5,6,7] (fun (_:Unit) j=>[.pointer (some ⟨B,0,none⟩),.pointer (some ⟨R,0,none⟩),.pointer (some ⟨D,0,none⟩),.int .i64 k,.pointer (some ⟨D5,0,none⟩),.pointer (some ⟨D6,0,none⟩),.int .i64 j])
   (fun _ j h7=>∃ W vq,W5.le W∧vq.oneCell'=true∧Owns W h7 (cV { S with y:=some (D6,[vq,.slice none 0 0,.int .i64 x.term.kind,va',vt',.int .i32 x.term.imm.v]),yP:=some (vq,(x.phis.take j).map fewP),yI:=some (.slice none 0 0,[]) })) n6 ()
   rfl (by omega) rfl ⟨W5,.slice none 0 0,View.le_refl _,rfl,w6⟩ (fun _ _=>rfl) (fun v k h7 hk ⟨W,vo,q1,_,q2⟩=>by simp [ah (View.le_trans q1 q2.wle) bp.1,(bp.2.mono (View.le_trans q1 q2.wle)).len,hc6]) ?_ ?_
  ·rintro _ j h7 hltj ⟨W7,vq,hW7,hvq,w7⟩ K3 hK3
   have hjl:j<x.phis.length:=by omega
   have bp7:=bp.2.mono hW7
   have bc7:=ah hW7 bp.1
   obtain ⟨ux,hux,huxr⟩:=bp7.wh rfl (N:=2) rfl hjl
   have htk:=kS (f:=fewP) hjl
   have hl7:((x.phis.take j).map fewP).length≤8:=by simp;omega
   generalize nth x.phis j=p at huxr htk
   generalize (x.phis.take j).map fewP=outp at w7 htk hl7
   refine aa fun q hq=>?_
   simp (disch:=omega) [ah w7.wle bc7,(bp7.mono w7.wle).idxn (N:=2) rfl,hux _ w7.wle]
   obtain ⟨vin,rfl,hd,h3⟩:=zK huxr
   refine w7.gZ (k:=(2,0)) (n:=1) (l:=[.int .i64 p.dst,vin]) rfl (z:=.agg #[.int .i64 0,.slice none 0 0]) (by kernel_rfl) rfl (by kernel_rfl) rfl (by decide) (by intro c hc;simp only [List.mem_cons,List.not_mem_nil,or_false] at hc;rcases hc with rfl | rfl<;>first | rfl | exact h3.cells.2) (fun _=>by simp) (fun _=>by simp) fun h8 q8 w8=>?_
   generalize h7.size=D8 at w8
   rw [hq];clear hq q
   refine aa fun q hq=>?_
   simp
   refine w8.cz (k:=(2,1)) (α:=InD) rfl El.cA fun v9 h9 hle9 hv9 w9 av9=>?_
   have c9:=w9.raw (k:=(2,0)) (e:=T.cj) (B:=D8) (l:=[.int .i64 p.dst,vin]) (n:=1) rfl (i:=1) (by decide)
   obtain ⟨uf,huf,hufr⟩:=iH h3 6 6 rfl
   simp [c9,h3.len,huf]
   refine w9.pz (k:=(2,1)) (α:=InD) (v:=v9) (u:=uf) (l2:=p.ins.take 6) rfl El.cA (by simp) (by simp) hufr (by simp;omega) fun v10 h10 W10 w10 hW10 s10 _=>?_
   have hv10:=s10.cells.2
   refine w10.bs (k:=(2,0)) (n:=1) (i:=1) (e:=T.cj) (B:=D8) (l:=[.int .i64 p.dst,vin]) rfl (by decide) (by kernel_rfl) rfl rfl hv10 fun h11 w11 _=>?_
   have w11:=w11.congr (o':=(cV { S with y:=some (D6,[vq,.slice none 0 0,.int .i64 x.term.kind,va',vt',.int .i32 x.term.imm.v]),yP:=some (vq,outp),yI:=some (.slice none 0 0,[]) }).upd (2,0) (bx T.cj D8 (RawN.mk (n:=1) [.int .i64 p.dst,v10]))) fun q=>by
    unfold Own.upd;split<;>rfl
   rw [hq];clear hq q
   have c11:=w11.raw (k:=(1,0)) (e:=T.ao) (B:=D6) (l:=[vq,.slice none 0 0,.int .i64 x.term.kind,va',vt',.int .i32 x.term.imm.v]) (n:=5) rfl (i:=0) (by decide)
   have c12:=w11.dz (k:=(2,0)) (e:=T.cj) (B:=D8) (l:=[.int .i64 p.dst,v10]) (n:=1) rfl
   simp [c11,c12]
   refine w11.dL (k:=(1,1)) (α:=PhiD) (d:=fewP p) rfl El.gG rfl (sA hd s10) (by simp;omega) (by simp;omega) (fun _=>rfl) (fun _=>rfl) fun u13 v13 h13 w13 _=>?_
   have hv13:=(w13.cells (k:=(1,1)) Own.ag).2
   refine w13.bs (k:=(1,0)) (n:=5) (i:=0) (e:=T.ao) (B:=D6) (l:=[vq,.slice none 0 0,.int .i64 x.term.kind,va',vt',.int .i32 x.term.imm.v]) rfl (by decide) (by kernel_rfl) rfl rfl hv13 fun h14 w14 _=>?_
   exact hK3 () _ _ rfl rfl ⟨W10,v13,View.le_trans hW7 hW10,hv13,by rw [htk];exact FQ w14⟩
  ·rintro _ h7 ⟨W7,vq,hW7,hvq,w7⟩
   simp
   rw [hy];clear hy y
   refine aa fun y hy=>?_
   simp
   have hlP:((x.phis.take n6).map fewP)=(x.phis.take 8).map fewP:=by rw [hn6,kz]
   rw [hlP] at w7
   generalize hPs:(x.phis.take 8).map fewP=ps at w7
   clear hlP
   have bi7:=bi.2.mono hW7
   have w7:Owns W7 h7 (cV { S with y:=some (D6,[vq,.slice none 0 0,.int .i64 x.term.kind,va',vt',.int .i32 x.term.imm.v]),yP:=some (vq,ps),yI:=some (.slice none 0 0,(x.ins.take 0).map fewI) }):=w7
   have ni:=bi.2.bound
   obtain ⟨n8,hn8⟩ : ∃ n8:Nat,n8=min x.ins.length 40:=⟨_,rfl⟩
   have hc8 : ∀ k:Nat,(decide (k<x.ins.length)&&decide ((k:Int)<40))=decide (k<n8):=fun k=>by rw [Bool.eq_iff_iff];simp only [Bool.and_eq_true,decide_eq_true_eq];omega
   refine j0 [1,2,3,4,5,6,9] (fun (_:Unit) j=>[.pointer (some ⟨B,0,none⟩),.pointer (some ⟨R,0,none⟩),.pointer (some ⟨D,0,none⟩),.int .i64 k,.pointer (some ⟨D5,0,none⟩),.pointer (some ⟨D6,0,none⟩),.int .i64 j])
    (fun _ j h8=>∃ W vr,W7.le W∧vr.oneCell'=true∧Owns W h8 (cV { S with y:=some (D6,[vq,vr,.int .i64 x.term.kind,va',vt',.int .i32 x.term.imm.v]),yP:=some (vq,ps),yI:=some (vr,(x.ins.take j).map fewI) })) n8 ()
    rfl (by omega) rfl ⟨W7,.slice none 0 0,View.le_refl _,rfl,w7⟩ (fun _ _=>rfl) (fun v k h8 hk ⟨W,vo,q1,_,q2⟩=>by simp [ah (View.le_trans hW7 (View.le_trans q1 q2.wle)) bi.1,(bi.2.mono (View.le_trans hW7 (View.le_trans q1 q2.wle))).len,hc8]) ?_ ?_
   ·rintro _ j h8 hltj ⟨W8,vr,hW8,hvr,w8⟩ K3 hK3
    have hjl:j<x.ins.length:=by omega
    have bp8:=bi7.mono hW8
    have bc8:=ah (View.le_trans hW7 hW8) bi.1
    obtain ⟨ux,hux,huxr⟩:=bp8.wh rfl (N:=5) rfl hjl
    have htk:=kS (f:=fewI) hjl
    have hl8:((x.ins.take j).map fewI).length≤40:=by simp;omega
    generalize nth x.ins j=p at huxr htk
    generalize (x.ins.take j).map fewI=outi at w8 htk hl8
    refine aa fun q hq=>?_
    simp (disch:=omega) [ah w8.wle bc8,(bp8.mono w8.wle).idxn (N:=5) rfl,hux _ w8.wle]
    obtain ⟨vin,rfl,hd,h3⟩:=qV huxr
    refine w8.gZ (k:=(2,0)) (n:=4) (l:=[.int .i64 p.op,.int .i64 p.dst,.int .i64 p.two,vin,.int .i32 p.imm.v]) rfl (z:=.agg #[.int .i64 0,.int .i64 0,.int .i64 0,.slice none 0 0,.int .i32 0]) (by kernel_rfl) rfl (by kernel_rfl) rfl (by decide) (by intro c hc;simp only [List.mem_cons,List.not_mem_nil,or_false] at hc;rcases hc with rfl | rfl | rfl | rfl | rfl<;>first | rfl | exact h3.cells.2) (fun _=>by simp) (fun _=>by simp) fun h9 q9 w9=>?_
    generalize h8.size=D8 at w9
    rw [hq];clear hq q
    refine aa fun q hq=>?_
    simp
    refine w9.cz (k:=(2,1)) (α:=Int) rfl El.aP fun v10 h10 hle10 hv10 w10 av10=>?_
    have c10:=w10.raw (k:=(2,0)) (e:=T.aW) (B:=D8) (l:=[.int .i64 p.op,.int .i64 p.dst,.int .i64 p.two,vin,.int .i32 p.imm.v]) (n:=4) rfl (i:=3) (by decide)
    obtain ⟨uf,huf,hufr⟩:=iH h3 6 6 rfl
    simp [c10,h3.len,huf]
    refine w10.pz (k:=(2,1)) (α:=Int) (v:=v10) (u:=uf) (l2:=p.args.take 6) rfl El.aP (by simp) (by simp) hufr (by simp;omega) fun v11 h11 W11 w11 hW11 s11 _=>?_
    have hv11:=s11.cells.2
    refine w11.bs (k:=(2,0)) (n:=4) (i:=3) (e:=T.aW) (B:=D8) (l:=[.int .i64 p.op,.int .i64 p.dst,.int .i64 p.two,vin,.int .i32 p.imm.v]) rfl (by decide) (by kernel_rfl) rfl rfl hv11 fun h12 w12 _=>?_
    have w12:=w12.congr (o':=(cV { S with y:=some (D6,[vq,vr,.int .i64 x.term.kind,va',vt',.int .i32 x.term.imm.v]),yP:=some (vq,ps),yI:=some (vr,outi) }).upd (2,0) (bx T.aW D8 (RawN.mk (n:=4) [.int .i64 p.op,.int .i64 p.dst,.int .i64 p.two,v11,.int .i32 p.imm.v]))) fun q=>by
     unfold Own.upd;split<;>rfl
    rw [hq];clear hq q
    have c12:=w12.raw (k:=(1,0)) (e:=T.ao) (B:=D6) (l:=[vq,vr,.int .i64 x.term.kind,va',vt',.int .i32 x.term.imm.v]) (n:=5) rfl (i:=1) (by decide)
    have c13:=w12.dz (k:=(2,0)) (e:=T.aW) (B:=D8) (l:=[.int .i64 p.op,.int .i64 p.dst,.int .i64 p.two,v11,.int .i32 p.imm.v]) (n:=4) rfl
    simp [c12,c13]
    refine w12.dL (k:=(1,2)) (α:=InsD) (d:=fewI p) rfl El.eA rfl (ju hd s11) (by simp;omega) (by simp;omega) (fun _=>rfl) (fun _=>rfl) fun u13 v13 h13 w13 _=>?_
    have hv13:=(w13.cells (k:=(1,2)) Own.ag).2
    refine w13.bs (k:=(1,0)) (n:=5) (i:=1) (e:=T.ao) (B:=D6) (l:=[vq,vr,.int .i64 x.term.kind,va',vt',.int .i32 x.term.imm.v]) rfl (by decide) (by kernel_rfl) rfl rfl hv13 fun h14 w14 _=>?_
    exact hK3 () _ _ rfl rfl ⟨W11,v13,View.le_trans hW8 hW11,hv13,by rw [htk];exact FK w14⟩
   ·rintro _ h8 ⟨W8,vr,hW8,hvr,w8⟩
    simp
    rw [hy];clear hy y
    refine aa fun y hy=>?_
    have hlI:((x.ins.take n8).map fewI)=(x.ins.take 40).map fewI:=by rw [hn8,kz]
    rw [hlI] at w8
    generalize hIs:(x.ins.take 40).map fewI=is at w8
    simp
    refine w8.cz (k:=(2,1)) (α:=Int) rfl El.aP fun v9 h9 hle9 hv9 w9 av9=>?_
    have hW8':=View.le_trans hW7 hW8
    have ca:=ah (View.le_trans hW8' w9.wle) ba.1
    obtain ⟨uf,huf,hufr⟩:=iH (ba.2.mono hW8') 6 6 rfl
    simp [ca,ba.2.len,huf]
    refine w9.pz (k:=(2,1)) (α:=Int) (v:=v9) (u:=uf) (l2:=x.term.args.take 6) rfl El.aP (by simp) (by simp) hufr (by simp;omega) fun v10 h10 W10 w10 hW10 s10 _=>?_
    refine w10.bs (k:=(1,0)) (n:=5) (i:=3) (e:=T.ao) (B:=D6) (l:=[vq,vr,.int .i64 x.term.kind,va',vt',.int .i32 x.term.imm.v]) rfl (by decide) (by kernel_rfl) rfl rfl s10.cells.2 fun h11 w11 _=>?_
    have w11:Owns W10 h11 (cV { S with y:=some (D6,[vq,vr,.int .i64 x.term.kind,v10,vt',.int .i32 x.term.imm.v]),yP:=some (vq,ps),yI:=some (vr,is) }):=w11.congr fun q=>Dg { S with y:=some (D6,[vq,vr,.int .i64 x.term.kind,va',vt',.int .i32 x.term.imm.v]),yP:=some (vq,ps),yI:=some (vr,is) } q
    have hW10':=View.le_trans hW8' hW10
    rw [hy];clear hy y
    refine aa fun y hy=>?_
    simp
    refine w11.cz (k:=(2,1)) (α:=Int) rfl El.aP fun v12 h12 hle12 hv12 w12 av12=>?_
    have ct:=ah (View.le_trans hW10' w12.wle) bt.1
    obtain ⟨ug,hug,hugr⟩:=iH (bt.2.mono hW10') 70 70 rfl
    simp [ct,bt.2.len,hug]
    refine w12.pz (k:=(2,1)) (α:=Int) (v:=v12) (u:=ug) (l2:=x.term.to.take 70) rfl El.aP (by simp) (by simp) hugr (by simp;omega) fun v13 h13 W13 w13 hW13 s13 _=>?_
    refine w13.bs (k:=(1,0)) (n:=5) (i:=4) (e:=T.ao) (B:=D6) (l:=[vq,vr,.int .i64 x.term.kind,v10,vt',.int .i32 x.term.imm.v]) rfl (by decide) (by kernel_rfl) rfl rfl s13.cells.2 fun h14 w14 _=>?_
    have w14:Owns W13 h14 (cV { S with y:=some (D6,[vq,vr,.int .i64 x.term.kind,v10,v13,.int .i32 x.term.imm.v]),yP:=some (vq,ps),yI:=some (vr,is) }):=w14.congr fun q=>Dg { S with y:=some (D6,[vq,vr,.int .i64 x.term.kind,v10,vt',.int .i32 x.term.imm.v]),yP:=some (vq,ps),yI:=some (vr,is) } q
    rw [hy];clear hy y
    have av1:Av W13 vq:=w14.av (1,1) _ rfl
    obtain ⟨w15,sp⟩:=w14.freeze (k:=(1,1)) (v:=vq) (l:=ps) rfl
    have hW15:=dm (h:=h14) av1
    have av2:Av (W13.plus vq h14) vr:=w15.av (1,2) _ rfl
    obtain ⟨w16,si⟩:=w15.freeze (k:=(1,2)) (v:=vr) (l:=is) rfl
    have hW16:=dm (h:=h14) av2
    have sp:=sp.mono hW16
    have s10:=s10.mono (View.le_trans hW13 (View.le_trans hW15 hW16))
    have s13:=s13.mono (View.le_trans hW15 hW16)
    have hW16':=View.le_trans hW10' (View.le_trans hW13 (View.le_trans hW15 hW16))
    have w16:Owns ((W13.plus vq h14).plus vr h14) h14 (cV { S with y:=some (D6,[vq,vr,.int .i64 x.term.kind,v10,v13,.int .i32 x.term.imm.v]) }):=w16.congr fun q=>EI (by rw [hS]) (by rw [hS]) q
    generalize (W13.plus vq h14).plus vr h14=W16 at w16 sp si s10 s13 hW16'
    clear w14 w15 w13 w12 w11 w10 w9 hW16 hW15 av1 av2
    have c1:an (vw h14) ⟨D,1,none⟩=some vo:=w16.raw (k:=(0,0)) (e:=T.aE) (B:=D) (l:=[.int .i64 f.params,vo]) (n:=1) (by rw [hS];rfl) (i:=1) (by decide)
    have c2:=w16.dz (k:=(1,0)) (e:=T.ao) (B:=D6) (l:=[vq,vr,.int .i64 x.term.kind,v10,v13,.int .i32 x.term.imm.v]) (n:=5) rfl
    simp [c1,c2]
    refine w16.dL (k:=(0,1)) (α:=BlkD) (v:=vo) (l:=out) (d:=fewB x) (by rw [hS];rfl) El.fB rfl (by rw [fewB,hPs,hIs];exact sF sp si s10 s13 tk ti) (by omega) (by omega) (fun _=>rfl) (fun _=>rfl) fun u17 v17 h17 w17 _=>?_
    have hv17:=(w17.cells (k:=(0,1)) Own.ag).2
    refine w17.bs (k:=(0,0)) (n:=1) (i:=1) (e:=T.aE) (B:=D) (l:=[.int .i64 f.params,vo]) (by rw [hS];rfl) (by decide) (by kernel_rfl) rfl rfl hv17 fun h18 w18 _=>?_
    refine hK2 () _ _ rfl rfl ⟨W16,v17,View.le_trans hW5 hW16',hv17,by rw [htk,show o0=S.o by rw [hS],show R=S.r by rw [hS],show ([.int .i64 0,.slice none 0 0]:List Value)=S.rl by rw [hS]];exact DT (by rw [hS]) (by rw [hS]) w18⟩
 ·rintro _ h4 ⟨W4,vo,hW4,hvo,w4⟩
  have hlP:((f.blocks.take n).map fewB)=(fewS f).blocks:=by rw [hn,kz];rfl
  rw [hlP] at w4
  simp
  rw [hz];clear hz z
  have c1:=w4.dz (k:=(0,0)) (e:=T.aE) (B:=D) (l:=[.int .i64 f.params,vo]) (n:=1) rfl
  simp [c1]
  refine w4.fj (k:=(5,0)) (e:=T.aE) (B:=R) (D:=RawN.mk (n:=1) [.int .i64 0,.slice none 0 0]) Part.all (d:=RawN.mk (n:=1) [.int .i64 f.params,vo]) rfl (by kernel_rfl) rfl rfl (e9 rfl (by intro c hc;simp only [List.mem_cons,List.not_mem_nil,or_false] at hc;rcases hc with rfl | rfl<;>first | rfl | exact hvo)) fun h5 w5 _=>?_
  have c2:=w5.dz (k:=(5,0)) (e:=T.aE) (B:=R) (l:=[.int .i64 f.params,vo]) (n:=1) Own.ag
  simp [c2]
  have a6:=dm (h:=h5) (w5.av (0,1) _ rfl)
  obtain ⟨w6,s6⟩:=w5.freeze (k:=(0,1)) (v:=vo) (l:=(fewS f).blocks) rfl
  refine hK _ _ ⟨_,View.le_trans hW1 (View.le_trans hW4 a6),w6.sub fun k i hk=>?_,_,rfl,[.int .i64 f.params],[vo],rfl,⟨rfl,cpr⟩,vo,rfl,s6⟩
  have hk10:¬k.1<10:=fun hlt=>by rw [ho0 k hlt] at hk;cases hk
  rw [Own.ab (by rintro rfl;exact hk10 (by decide)),Own.ab (by rintro rfl;exact hk10 (by decide)),HR hk10]
  exact hk
end Go.Proofs.Ytfelpjfopgiabaa
namespace Go.Proofs.Ytfelpjfopgiabaa
open Go Go.Lft
abbrev RSt:=List Bool × List Int
def iA (wo:Int) (to:List Int) (k:Nat) (s:RSt):RSt:=
 if (0≤nth to k∧nth to k<s.1.length)∧nth s.1 (nth to k).toNat=false∧nth to k≠wo then (s.1.set (nth to k).toNat true,s.2++[nth to k]) else s
def tq (f:ak) (wo:Int) (i:Nat) (s:RSt):RSt:=up (iA wo (nth f.blocks (nth s.2 i).toNat).term.to) (nth f.blocks (nth s.2 i).toNat).term.to.length s
def rchS (f:ak) (wo:Int):Nat→Nat→RSt→RSt
 | 0,_,s=>s
 | n+1,i,s=>if i<s.2.length then rchS f wo n (i+1) (tq f wo i s) else s
def rch0 (f:ak) (wo:Int):RSt:=if wo≠0∧0<f.blocks.length then ((List.replicate f.blocks.length false).set 0 true,[0]) else (List.replicate f.blocks.length false,[])
def dF (f:ak) (wo:Int):List Bool:=(rchS f wo (f.blocks.length+1) 0 (rch0 f wo)).1
structure ROk (n:Nat) (s:RSt):Prop where
 len:s.1.length=n
 cnt:s.2.length+cR s.1≤n
 rng : ∀ x∈s.2,0≤x∧x<n
theorem ya {n:Nat} {wo:Int} {to:List Int} {k:Nat} {s:RSt} (h:ROk n s):ROk n (iA wo to k s):=by
 unfold iA
 split
 ·rename_i hc
  have hf:=gX (t:=s.1) (i:=(nth to k).toNat) (by omega) hc.2.1
  refine ⟨by simpa using h.len,?_,fun x hx=>?_⟩
  ·have:=h.cnt
   simp only [List.length_append,List.length_singleton];omega
  ·rcases List.mem_append.1 hx with hx | hx
   ·exact h.rng x hx
   ·rw [List.mem_singleton.1 hx,←h.len];exact hc.1
 ·exact h
theorem sv {n:Nat} {wo:Int} {to:List Int} {s:RSt} (h:ROk n s) (m:Nat):ROk n (up (iA wo to) m s):=qe (ROk n) (fun k x hx=>ya hx) m s h
theorem uV {f:ak} {wo:Int}:ROk f.blocks.length (rch0 f wo):=by
 unfold rch0
 have hfa:cR (List.replicate f.blocks.length false)=f.blocks.length:=by simp [cR]
 split
 ·rename_i hc
  have hf:=gX (t:=List.replicate f.blocks.length false) (i:=0) (by simpa using hc.2) (by rw [aq (by simpa using hc.2)];simp)
  exact ⟨by simp,by simp only [List.length_singleton];omega,fun x hx=>by rw [List.mem_singleton.1 hx];omega⟩
 ·exact ⟨by simp,by simp only [List.length_nil];omega,fun x hx=>by cases hx⟩
theorem zr {f:ak} {wo:Int} : ∀ {m i:Nat} {s:RSt},ROk f.blocks.length s→ROk f.blocks.length (rchS f wo m i s)
 | 0,_,_,h=>h
 | m+1,i,s,h=>by
  rw [rchS]
  split
  ·exact zr (sv h _)
  ·exact h
theorem pg {f:ak} {wo:Int}:(dF f wo).length=f.blocks.length:=(zr uV).len
def oD (vo vq:Value) (s:RSt):Own:=fun k=>if k=(0,0) then it T.bool vo s.1 else if k=(0,1) then it T.int vq s.2 else none
theorem rD {f:ak} {wo:Int} {v:Value} {h:Heap} (hv:Rd (vw h) v f) (hn:f.blocks.length≤1000000) :
  aG Try.prog N.cm #[v,.int .i64 wo] h (fun u h'=>(vw h).le (vw h')∧SlRd (fresh h h') u (dF f wo)):=by
 refine ay (args:=[v,.int .i64 wo]) follows F.cm E.cm (Nat.le_of_ble_eq_true (by kernel_rfl)) fun K hK=>?_
 dsimp only [L.cm]
 refine aa fun z hz=>?_
 simp
 refine eJ rfl hv fun h1 _ hle1 hsz1 hat=>?_
 obtain ⟨_,vb,cb⟩:=gq hat
 generalize h.size=B at cb
 rw [hz];clear hz z
 refine aa fun z hz=>?_
 simp [cb.1,cb.2.len]
 refine lD (α:=Bool) (W:=vw h1) (k:=.i64) (n:=f.blocks.length) (d:=false) El.lz (by simp) (by simp) rfl (by omega) (by omega) fun vo h2 o2 m2 hle2 hb2=>?_
 have w2:=(Owns.start (h:=h1) (View.le_refl (vw h1))).add (k:=(0,0)) rfl o2 hle2 (fun b hb=>by rw [hb2] at hb;cases hb;exact Nat.le_refl _)
 rw [hz];clear hz z
 refine aa fun z hz=>?_
 simp
 refine qS (α:=Int) El.aP fun h3 hle3 hsz3 own3=>?_
 have w3:=w2.add (k:=(0,1)) rfl (own3 _) hle3 (fun b hb=>by simp only [Value.ownBlock,Option.some.injEq] at hb;omega)
 have w3:Owns (vw h1) h3 (oD vo (.slice (some ⟨h2.size,0,none⟩) 0 0) (List.replicate f.blocks.length false,[])):=w3.congr fun q=>by
  unfold oD Own.upd
  repeat' split
  all_goals first | rfl | simp_all
 generalize Value.slice (some ⟨h2.size,0,none⟩) 0 0=vq at w3
 rw [hz];clear hz z
 refine aa fun z hz=>?_
 have cc3:=ah w3.wle cb.1
 have cb3:=cb.2.mono w3.wle
 have fin : ∀ (h4:Heap) (vq:Value) (tl:Env),Owns (vw h1) h4 (oD vo vq (rch0 f wo))→@LC.wp noPP Try.prog z (@dJ [.tmp 4] K) ([(0,v),(1,.int .i64 wo),(2,.pointer (some ⟨B,0,none⟩)),(4,.slice none 0 0),(5,vo),(6,vq)]++tl) h4:=by
  intro h4 vq tl w4
  rw [hz];clear hz z
  refine aa fun z hz=>?_
  simp
  refine jv [1,2,5,6,7] (fun m ρ h5=>∃ (i:Nat) (s:RSt) (vq:Value),i≤f.blocks.length∧m=f.blocks.length+1-i∧ρ=[(1,.int .i64 wo),(2,.pointer (some ⟨B,0,none⟩)),(5,vo),(6,vq),(7,.int .i64 i)]∧Owns (vw h1) h5 (oD vo vq s)∧ROk f.blocks.length s∧
   (rchS f wo m i s).1=dF f wo) (f.blocks.length+1) ⟨0,_,vq,by omega,rfl,by simp [bz,ae],w4,uV,rfl⟩ ?_
  rintro m ρ h5 ⟨i,s,vq5,hi,rfl,rfl,w5,hok,hfin⟩ K2 hK2
  have no:=w5.now (k:=(0,0)) (v:=vo) (l:=s.1) rfl
  have nq:=w5.now (k:=(0,1)) (v:=vq5) (l:=s.2) rfl
  have hcnt:=hok.cnt
  by_cases hlt:i<s.2.length
  ·have hm:f.blocks.length+1-i=(f.blocks.length-i)+1:=by omega
   rw [hm,rchS,if_pos hlt] at hfin
   obtain ⟨r0,r1⟩:=hok.rng _ (bS hlt)
   have cb5:=cb.2.mono w5.wle
   obtain ⟨w,hw⟩:=wm cb5 (i:=(nth s.2 i).toNat) (by omega)
   obtain ⟨w',hw'⟩:=wm cb.2 (i:=(nth s.2 i).toNat) (by omega)
   have eww:w'=w:=Option.some.inj ((ah w5.wle hw'.1).symm.trans hw.1)
   rw [eww] at hw'
   have hwb:=hw.2.bound
   have hrow:tq f wo i s=up (iA wo (nth f.blocks (nth s.2 i).toNat).term.to) (nth f.blocks (nth s.2 i).toNat).term.to.length s:=rfl
   rw [hrow] at hfin
   generalize hto:(nth f.blocks (nth s.2 i).toNat).term.to=to at hw hw' hwb hfin
   refine aa fun y hy=>?_
   simp (disch:=omega) [nq.len,hlt]
   rw [hy];clear hy y
   refine aa fun y hy=>?_
   refine aa fun x hx=>?_
   simp (disch:=omega) [ah w5.wle cb.1,cb5.idxn (N:=6) rfl,nq.idx1 rfl,nq.int (View.le_refl _),hw.1]
   rw [hx];clear hx x
   simp
   refine cB [1,2,5,6,7,8,9] (fun (q:Value) j=>[.int .i64 wo,.pointer (some ⟨B,0,none⟩),vo,q,.int .i64 i,w,.int .i64 j]) (fun q j h6=>Owns (vw h1) h6 (oD vo q (up (iA wo to) j s))) to.length vq5
    rfl (by omega) rfl w5 (fun _ _=>rfl) (fun v j h4 hk m=>by simp [hw.2.len]) ?_ ?_
   ·rintro q j h6 hltj w6 K3 hK3
    have hst:up (iA wo to) (j+1) s=iA wo to j (up (iA wo to) j s):=rfl
    have hok6:=sv (wo:=wo) (to:=to) hok j
    generalize up (iA wo to) j s=s6 at w6 hst hok6
    have no6:=w6.now (k:=(0,0)) (v:=vo) (l:=s6.1) rfl
    have nq6:=w6.now (k:=(0,1)) (v:=q) (l:=s6.2) rfl
    have hcnt6:=hok6.cnt
    have hlen6:=hok6.len
    have hr6:=hw'.2.mono w6.wle
    have hrng:=hw'.2.range hltj
    rw [iA] at hst
    by_cases c1:0≤nth to j∧nth to j<s6.1.length
    ·have c1a:=c1.1
     have c1b:=c1.2
     cases c2:nth s6.1 (nth to j).toNat with
     | true=>
      rw [if_neg (by rw [c2];simp)] at hst
      simp (disch:=omega) [hr6.idx1 rfl,hr6.int (View.le_refl _),no6.len,no6.idx1 rfl,no6.bool (View.le_refl _),c1a,c1b,c2]
      exact hK3 q _ _ rfl rfl (by rw [hst];exact w6)
     | false=>
      by_cases c3:nth to j=wo
      ·rw [if_neg (by simp [c3])] at hst
       rw [c3] at c1a c1b c2
       simp (disch:=omega) [hr6.idx1 rfl,hr6.int (View.le_refl _),no6.len,no6.idx1 rfl,no6.bool (View.le_refl _),c1a,c1b,c2,c3]
       exact hK3 q _ _ rfl rfl (by rw [hst];exact w6)
      ·rw [if_pos ⟨c1,c2,c3⟩] at hst
       refine aa fun x hx=>?_
       simp (disch:=omega) [hr6.idx1 rfl,hr6.int (View.le_refl _),no6.len,no6.idx1 rfl,no6.bool (View.le_refl _),c1a,c1b,c2,c3]
       rw [hx];clear hx x
       simp (disch:=omega) [hr6.idx1 rfl,hr6.int (View.le_refl _),no6.idx1 rfl]
       refine w6.jX (k:=(0,0)) (α:=Bool) (l:=s6.1) (v:=vo) (i:=(nth to j).toNat) (d:=true) rfl (by kernel_rfl) (by simp [show Rep.n Bool=1 from rfl]) (by simp<;>rfl) (by omega) Fh fun h7 w7 hs7=>?_
       have hr7:=hw'.2.mono w7.wle
       simp (disch:=omega) [hr7.idx1 rfl,hr7.int (View.le_refl _)]
       refine w7.dL (k:=(0,1)) (α:=Int) (v:=q) (l:=s6.2) (d:=nth to j) rfl El.aP (by simp<;>rfl) (jQ hrng.1 hrng.2) (by omega) (by omega) (fun _=>by simp) (fun _=>by simp) fun u q8 h8 w8 hs8=>?_
       refine hK3 q8 _ _ rfl rfl ?_
       rw [hst]
       refine w8.congr fun q=>?_
       unfold oD Own.upd
       repeat' split
       all_goals first | rfl | simp_all
    ·rw [if_neg (fun e=>c1 e.1)] at hst
     by_cases c1a:0≤nth to j
     ·have c1b:¬nth to j<s6.1.length:=fun e=>c1 ⟨c1a,e⟩
      simp (disch:=omega) [hr6.idx1 rfl,hr6.int (View.le_refl _),no6.len,c1a,c1b]
      exact hK3 q _ _ rfl rfl (by rw [hst];exact w6)
     ·simp (disch:=omega) [hr6.idx1 rfl,hr6.int (View.le_refl _),no6.len,c1a]
      exact hK3 q _ _ rfl rfl (by rw [hst];exact w6)
   ·rintro q h6 w6
    simp
    rw [hy];clear hy y
    simp (disch:=omega)
    exact hK2 (f.blocks.length+1-(i+1)) _ _ (by omega) ⟨i+1,_,q,by omega,rfl,by simp [bz],w6,sv hok _,by rw [show f.blocks.length+1-(i+1)=f.blocks.length-i by omega];exact hfin⟩
  ·have hlt':¬(i:Int)<s.2.length:=by omega
   simp (disch:=omega) [L.cm.l1,nq.len,hlt]
   rw [hz];clear hz z
   simp
   have hs1:s.1=dF f wo:=by
    rw [←hfin]
    cases f.blocks.length+1-i with
    | zero=>rfl
    | succ m=>rw [rchS,if_neg hlt]
   have ow:=w5.get (k:=(0,0)) (v:=vo) (l:=s.1) rfl
   refine hK _ _ ⟨View.le_trans hle1 w5.wle,?_⟩
   rw [←hs1]
   have ow':OwnT nothing h5 T.bool vo s.1:=ow
   refine ow'.fresh (fun _ _ h=>by cases h) fun b hb=>?_
   rw [hb2] at hb;cases hb
   exact View.de (View.le_refl _) (by omega)
 by_cases c1:wo=0
 ·have hr0:rch0 f wo=(List.replicate f.blocks.length false,[]):=by rw [rch0,if_neg (fun e=>e.1 c1)]
  rw [hr0] at fin
  simp [cc3,cb3.len,c1]
  rw [c1] at fin
  exact fin _ _ _ w3
 ·by_cases c2:0<f.blocks.length
  ·have hr0:rch0 f wo=((List.replicate f.blocks.length false).set 0 true,[0]):=by rw [rch0,if_pos ⟨c1,c2⟩]
   rw [hr0] at fin
   have no:=w3.now (k:=(0,0)) (v:=vo) (l:=List.replicate f.blocks.length false) rfl
   refine aa fun y hy=>?_
   simp (disch:=omega) [cc3,cb3.len,c1,c2]
   rw [hy];clear hy y
   have i0:Bn.ev (.idx 1) vo (.int .i64 0)=some (.pointer (some ((slA vo).add 0))):=no.idx1 rfl (by omega) (by simpa using c2)
   simp (disch:=omega) [i0]
   refine w3.jX (k:=(0,0)) (α:=Bool) (l:=List.replicate f.blocks.length false) (v:=vo) (i:=0) (d:=true) rfl (by kernel_rfl) (by simp [show Rep.n Bool=1 from rfl]) (by simp<;>rfl) (by simpa using c2) Fh fun h4 w4 hs4=>?_
   refine w4.dL (k:=(0,1)) (α:=Int) (v:=vq) (l:=[]) (d:=0) rfl El.aP (by simp<;>rfl) (jQ (by omega) (by omega)) (by simp) (by simp) (fun _=>by simp) (fun _=>by simp) fun u q5 h5 w5 hs5=>?_
   refine fin _ _ _ (w5.congr fun q=>?_)
   unfold oD Own.upd
   repeat' split
   all_goals first | rfl | simp_all
  ·have hr0:rch0 f wo=(List.replicate f.blocks.length false,[]):=by rw [rch0,if_neg (fun e=>c2 e.2)]
   rw [hr0] at fin
   simp [cc3,cb3.len,c1,c2]
   exact fin _ _ _ w3
end Go.Proofs.Ytfelpjfopgiabaa
namespace Go.Proofs.Ytfelpjfopgiabaa
open Go Go.Lft
instance:Rep Th:=Rep.via fun d=>Cat.mk d.blk (Cat.mk d.place (Cat.mk d.mks d.tks))
theorem Th.Fc:Part Th Int 0 Th.blk (fun d x=>{ d with blk:=x }):=(Part.fst Part.all).via (fun _=>rfl) fun _ _=>rfl
theorem Th.Hj:Part Th (List Int) 2 Th.mks (fun d x=>{ d with mks:=x }):=(Part.snd (Part.snd (Part.fst Part.all))).via (fun _=>rfl) fun _ _=>rfl
structure ThR where
 blk:Int
 place:Int
 mks:List Int
 tks:Raw
instance:Rep ThR:=Rep.via fun d=>Cat.mk d.blk (Cat.mk d.place (Cat.mk d.mks d.tks))
theorem ThR.E3:Part ThR Raw 3 ThR.tks (fun d x=>{ d with tks:=x }):=(Part.snd (Part.snd (Part.snd Part.all))).via (fun _=>rfl) fun _ _=>rfl
theorem Bs {H:View} {a b:Int} {u q:Value} {m t:List Int} (ha:I64 a) (hb:I64 b) (hm:SlRd H u m) (ht:SlRd H q t):Rd H (.agg #[.int .i64 a,.int .i64 b,u,q]) (Th.mk a b m t):=
 ⟨_,rfl,[.int .i64 a],[.int .i64 b,u,q],rfl,⟨rfl,ha⟩,[.int .i64 b],[u,q],rfl,⟨rfl,hb⟩,[u],[q],rfl,⟨u,rfl,hm⟩,⟨q,rfl,ht⟩⟩
theorem FN {H:View} {a b:Int} {u q:Value} {m:List Int} (ha:I64 a) (hb:I64 b) (hm:SlRd H u m) (hq:q.oneCell'=true):Rd H (.agg #[.int .i64 a,.int .i64 b,u,q]) (ThR.mk a b m ⟨q⟩):=
 ⟨_,rfl,[.int .i64 a],[.int .i64 b,u,q],rfl,⟨rfl,ha⟩,[.int .i64 b],[u,q],rfl,⟨rfl,hb⟩,[u],[q],rfl,⟨u,rfl,hm⟩,⟨rfl,hq⟩⟩
theorem Ao {H:View} {cs:List Value} {d:ThR} (h:Rep.rd H cs d) : ∃ u,cs=[.int .i64 d.blk,.int .i64 d.place,u,d.tks.v]∧I64 d.blk∧I64 d.place∧SlRd H u d.mks:=by
 obtain ⟨c1,r1,rfl,⟨rfl,h1⟩,c2,r2,rfl,⟨rfl,h2⟩,c3,r3,rfl,⟨u,rfl,h3⟩,rfl,_⟩:=h
 exact ⟨u,rfl,h1,h2,h3⟩
def me (vo:Value) (l:List Th):Own:=fun k=>if k=(0,0) then it T.dY vo l else none
def qM (vo:Value) (l:List Th) (D:Nat) (d:ThR) (q:Value) (t:List Int):Own:=fun k=>if k=(0,0) then it T.dY vo l else if k=(1,0) then bx T.dY D d else if k=(1,1) then it T.int q t else none
structure ThS (V:View) (h0:Heap) (vo:Value) (l:List Th) (W:View) (h:Heap):Prop where
 own:Owns W h (me vo l)
 old:Old V h0 W
 le:(vw h0).le (vw h)
 av:Av (vw h0) vo
theorem ThS.ext {V:View} {h0:Heap} {vo:Value} {l:List Th} {W:View} {h h':Heap} (k:ThS V h0 vo l W h) (hle:(vw h).le (vw h')):ThS V h0 vo l (grow W h h') h':=
 ⟨k.own.ext hle,k.old.grow (du k.le),View.le_trans k.le hle,k.av⟩
theorem Dn {po:OP} {ty:TypeId} {us:List (Nat × Value)} {h:Heap} {K:Value→Heap→Prop} {x y z w:Operand} {a b:Int} {u q:Value} (hx:asg us x = .int .i64 a) (hy:asg us y = .int .i64 b) (hz:asg us z=u) (hw:asg us w=q) (hu:u.cells = #[u]) (hq:q.cells = #[q]) (hk:K (.agg #[.int .i64 a,.int .i64 b,u,q]) h) :
  Lft.step Try.prog (.build T.dY #[(0,x),(1,y),(2,z),(3,w)]) ty us h K:=
 aL (z:=.agg #[.int .i64 0,.int .i64 0,.slice none 0 0,.slice none 0 0]) (places:=[(0,1),(1,1),(2,1),(3,1)]) (vs:=[(0,.int .i64 a),(1,.int .i64 b),(2,u),(3,q)]) (cs:=#[.int .i64 a,.int .i64 b,u,q]) (by kernel_rfl) (by kernel_rfl) (by simp [hx,hy,hz,hw])
  (by simp [Instr.fill,hu,hq]) hk
theorem Bb {po:OP} {ty:TypeId} {us:List (Nat × Value)} {h:Heap} {K:Value→Heap→Prop} {x y z:Operand} {a b:Int} {u:Value} (hx:asg us x = .int .i64 a) (hy:asg us y = .int .i64 b) (hz:asg us z=u) (hu:u.cells = #[u]) (hk:K (.agg #[.int .i64 a,.int .i64 b,u,.slice none 0 0]) h) :
  Lft.step Try.prog (.build T.dY #[(0,x),(1,y),(2,z)]) ty us h K:=
 aL (z:=.agg #[.int .i64 0,.int .i64 0,.slice none 0 0,.slice none 0 0]) (places:=[(0,1),(1,1),(2,1),(3,1)]) (vs:=[(0,.int .i64 a),(1,.int .i64 b),(2,u)]) (cs:=#[.int .i64 a,.int .i64 b,u,.slice none 0 0]) (by kernel_rfl) (by kernel_rfl) (by simp [hx,hy,hz])
  (by simp [Instr.fill,hu]) hk
theorem A5 {po:OP} {ty:TypeId} {us:List (Nat × Value)} {h:Heap} {K:Value→Heap→Prop} {x y w:Operand} {a b:Int} {q:Value} (hx:asg us x = .int .i64 a) (hy:asg us y = .int .i64 b) (hw:asg us w=q) (hq:q.cells = #[q]) (hk:K (.agg #[.int .i64 a,.int .i64 b,.slice none 0 0,q]) h) :
  Lft.step Try.prog (.build T.dY #[(0,x),(1,y),(3,w)]) ty us h K:=
 aL (z:=.agg #[.int .i64 0,.int .i64 0,.slice none 0 0,.slice none 0 0]) (places:=[(0,1),(1,1),(2,1),(3,1)]) (vs:=[(0,.int .i64 a),(1,.int .i64 b),(3,q)]) (cs:=#[.int .i64 a,.int .i64 b,.slice none 0 0,q]) (by kernel_rfl) (by kernel_rfl) (by simp [hx,hy,hw])
  (by simp [Instr.fill,hq]) hk
theorem vV {f:ak} {v:Value} {V:View} {h:Heap} (hv:Rd V v f) (hV:V.le (vw h)) (hsm:SmF f) :
  aG Try.prog N.bQ #[v] h (fun u h'=>(vw h).le (vw h')∧SlRd (grow V h h') u (ar f)):=by
 refine ay (args:=[v]) follows F.bQ E.bQ (Nat.le_of_ble_eq_true (by kernel_rfl)) fun K hK=>?_
 have hn:=hsm.len
 dsimp only [L.bQ]
 refine aa fun z hz=>?_
 simp
 refine jY (v:=v) rfl ?_
 have hle1:=bM h (.cells v.cells T.aE)
 have hat1:At (grow V h (h.push (.cells v.cells T.aE))) ⟨h.size,0,none⟩ f:=mT (t:=T.aE) (fz:=(0,0)) (by rw [cQ (Nat.le_refl _)];simp) (hv.mono (aX hV))
 have hs1:(h.push (.cells v.cells T.aE)).size=h.size+1:=by simp
 generalize h.push (.cells v.cells T.aE)=h1 at hle1 hat1 hs1
 have hW1:(grow V h h1).le (vw h1):=jN (View.le_trans hV hle1)
 have old1:Old V h (grow V h h1):=(Old.refl V h).grow (Nat.le_refl _)
 obtain ⟨_,vb,cb⟩:=gq hat1
 generalize grow V h h1=W1 at cb hW1 old1
 generalize h.size=B at cb
 rw [hz];clear hz z
 refine aa fun z hz=>?_
 simp
 refine qS (α:=Th) El.fN fun h2 hle2 hsz2 own2=>?_
 have t2:ThS V h (.slice (some ⟨h1.size,0,none⟩) 0 0) [] W1 h2:=⟨((Owns.start hW1).add (k:=(0,0)) rfl (own2 _) hle2 (fun b hb=>by simp only [Value.ownBlock,Option.some.injEq] at hb;omega)).congr fun q=>by
   unfold me Own.upd
   repeat' split
   all_goals first | rfl | simp_all,old1,View.le_trans hle1 hle2,fun b hb=>by cases hb;exact View.de (View.le_refl _) (by show h.size≤h1.size;omega)⟩
 generalize Value.slice (some ⟨h1.size,0,none⟩) 0 0=v0 at t2
 rw [hz];clear hz z
 refine aa fun z hz=>?_
 simp
 refine cB [1,3,4] (fun (r:Value) b=>[.pointer (some ⟨B,0,none⟩),r,.int .i64 b]) (fun r b h3=>∃ W,W1.le W∧ThS V h r (thTo f b) W h3) f.blocks.length v0
  rfl (by omega) rfl ⟨W1,View.le_refl _,t2⟩ (fun _ _=>rfl) (fun v k h3 hk ⟨W,q1,q2⟩=>by simp [ah (View.le_trans q1 q2.own.wle) cb.1,(cb.2.mono (View.le_trans q1 q2.own.wle)).len]) ?_ ?_
 ·rintro r b h3 hltb ⟨W3,hW3,t3⟩ K2 hK2
  have hl3:=sO hsm (n:=b) (by omega)
  have cb3:=cb.2.mono (View.le_trans hW3 t3.own.wle)
  have cc3:=ah (View.le_trans hW3 t3.own.wle) cb.1
  obtain ⟨u,hu,hur⟩:=(cb.2.mono hW3).wh rfl (N:=6) rfl hltb
  have sb:=hsm.blk b hltb
  refine aa fun y hy=>?_
  simp (disch:=omega) [cc3,cb3.idxn (N:=6) rfl,hu _ t3.own.wle]
  refine dU (X:=W3) (z:=.agg #[.slice none 0 0,.slice none 0 0,.int .i64 0,.slice none 0 0,.slice none 0 0,.int .i32 0]) (by kernel_rfl) rfl (by kernel_rfl) hur (fun _=>by simp) (fun _=>by simp) fun h4 hle4 hsz4 hat4=>?_
  have t4:=t3.ext hle4
  have hat4':=hat4 (grow W3 h3 h4) (aX t3.own.wle) (cQ (Nat.le_refl _))
  obtain ⟨vp,vi,va,vt,bp,bi,bk,ba,bt⟩:=kC hat4'
  have hW4:=View.le_trans hW3 (aX (h':=h4) t3.own.wle)
  generalize grow W3 h3 h4=W4 at t4 bp bi bk ba bt hW4
  generalize h3.size=D at bp bi bk ba bt
  rw [hy];clear hy y
  refine aa fun y hy=>?_
  simp
  have sp:=sb.phis
  refine cB [1,3,4,5,6] (fun (r:Value) i=>[.pointer (some ⟨B,0,none⟩),r,.int .i64 b,.pointer (some ⟨D,0,none⟩),.int .i64 i]) (fun r i h5=>∃ W,W4.le W∧ThS V h r (thTo f b++rows (phiT f b) i) W h5) (nth f.blocks b).phis.length r
   rfl (by omega) rfl ⟨W4,View.le_refl _,by simpa using t4⟩ (fun _ _=>rfl) (fun v k h3 hk ⟨W,q1,q2⟩=>by simp [ah (View.le_trans q1 q2.own.wle) bp.1,(bp.2.mono (View.le_trans q1 q2.own.wle)).len]) ?_ ?_
  ·rintro r i h5 hlti ⟨W5,hW5,t5⟩ K3 hK3
   have bp5:=bp.2.mono hW5
   have bph:=bp5.mono t5.own.wle
   have cph:=ah (View.le_trans hW5 t5.own.wle) bp.1
   have hap:=(bp5.at hlti)
   rw [←aq hlti] at hap
   have hdst:an W5 (((slA vp).add (i*2)).add 0)=some (.int .i64 (nth (nth f.blocks b).phis i).dst):=(hap.part PhiD.iK).int
   have hdr:=(hap.part PhiD.iK).rng
   obtain ⟨vq,hvq⟩:=(hap.part PhiD.kD).sl
   have hvq1:an W5 (((slA vp).add (i*2)).add 1)=some vq:=hvq.1
   have hvq2:=hvq.2
   have hpl:=sb.phi i hlti
   have hpt:phiT f b i=⟨b,-1-i,[(nth (nth f.blocks b).phis i).dst],(nth (nth f.blocks b).phis i).ins.map InD.val⟩:=rfl
   generalize nth (nth f.blocks b).phis i=x at hdst hdr hvq2 hpl hpt
   refine aa fun q hq=>?_
   simp (disch:=omega) [cph,bph.idxn (N:=2) rfl,ah t5.own.wle hdst]
   refine fX (X:=nothing) (ds:=[x.dst]) (vs:=[.int .i64 x.dst]) rfl El.aP (by simp) ⟨cn.2 ⟨rfl,hdr⟩,trivial⟩ aZ rfl (by omega) fun u6 h6 hle6 hsz6 hu6 hub6=>?_
   have hu6n:=hu6 (vw h6) aZ rfl
   refine Bb rfl rfl rfl hu6n.cells.1 ?_
   simp
   refine ir (n:=4) (v:=.agg #[.int .i64 b,.int .i64 (-1-i),u6,.slice none 0 0]) (z:=.agg #[.int .i64 0,.int .i64 0,.slice none 0 0,.slice none 0 0]) (by kernel_rfl) rfl (by kernel_rfl) rfl (by intro c hc;simp at hc;rcases hc with rfl | rfl | rfl | rfl<;>first | rfl | exact hu6n.cells.2) (fun _=>by simp) (fun _=>by simp) fun h7 hle7 hsz7 hb7=>?_
   have w6:=t5.own.ext hle6
   have w7:=(w6.add (k:=(1,0)) rfl (jy (h:=h7) (d:=ThR.mk b (-1-i) [x.dst] ⟨.slice none 0 0⟩) hb7 (FN ⟨by omega,by omega⟩ ⟨by omega,by omega⟩ (hu6 _ aZ (cQ (Nat.le_refl _))) rfl) (by decide)) hle7 (fun b hb=>by simp only [Value.ownBlock,Option.some.injEq] at hb;omega)).add (k:=(1,1)) rfl (OwnT.nil (α:=Int) _ h7 T.int) (View.le_refl _) (fun b hb=>by simp [Value.ownBlock] at hb)
   have w7:Owns (grow W5 h5 h6) h7 (qM r (thTo f b++rows (phiT f b) i) h6.size (ThR.mk b (-1-i) [x.dst] ⟨.slice none 0 0⟩) (.slice none 0 0) []):=w7.congr fun q=>by
    unfold qM me Own.upd
    repeat' split
    all_goals first | rfl | simp_all
   have hW7:=View.le_trans hW5 (aX (h':=h6) t5.own.wle)
   have old7:=t5.old.grow (h1:=h5) (h2:=h6) (du t5.le)
   have hle07:=View.le_trans t5.le (View.le_trans hle6 hle7)
   have hvq7:=hvq2.mono (aX (h':=h6) t5.own.wle)
   have cvq7:=ah (aX (h':=h6) t5.own.wle) hvq1
   generalize grow W5 h5 h6=W7 at w7 hW7 old7 hvq7 cvq7
   have hD7:h.size≤h6.size:=Nat.le_trans (du t5.le) (du hle6)
   generalize h6.size=D7 at w7 hD7
   rw [hq];clear hq q
   refine aa fun q hq=>?_
   simp
   refine cB [1,3,4,5,6,7,8] (fun (q:Value) j=>[.pointer (some ⟨B,0,none⟩),r,.int .i64 b,.pointer (some ⟨D,0,none⟩),.int .i64 i,.pointer (some ⟨D7,0,none⟩),.int .i64 j])
    (fun q j h8=>Owns W7 h8 (qM r (thTo f b++rows (phiT f b) i) D7 (ThR.mk b (-1-i) [x.dst] ⟨q⟩) q ((x.ins.map InD.val).take j))∧(vw h).le (vw h8)∧Av (vw h) q) x.ins.length (.slice none 0 0)
    rfl (by omega) rfl ⟨w7,hle07,Av.nil _ _ _⟩ (fun _ _=>rfl) (fun v k h8 hk ⟨w8,q2⟩=>by
     have bp8:=(bp.2.mono hW7).mono w8.wle
     simp (disch:=omega) [ah (View.le_trans hW7 w8.wle) bp.1,bp8.idxn (N:=2) rfl,ah w8.wle cvq7,(hvq7.mono w8.wle).len]) ?_ ?_
   ·rintro q8 j h8 hltj ⟨w8,hle08,av8⟩ K4 hK4
    have bp8:=(bp.2.mono hW7).mono w8.wle
    have hv8:=hvq7.mono w8.wle
    have hai:=(hvq7.at hltj)
    rw [←aq hltj] at hai
    have hval:an W7 (((slA vq).add (j*2)).add 1)=some (.int .i64 (nth x.ins j).val):=(hai.part InD.qy).int
    have hvr:=(hai.part InD.qy).rng
    have hl8:((x.ins.map InD.val).take j).length=j:=by simp;omega
    have htk:(x.ins.map InD.val).take (j+1)=(x.ins.map InD.val).take j++[(nth x.ins j).val]:=by
     rw [List.take_add_one,List.getElem?_map,List.getElem?_eq_getElem hltj,aq hltj];rfl
    have hq8:an (vw h8) ⟨D7,3,none⟩=some q8:=by
     have:=((w8.at (k:=(1,0)) (e:=T.dY) (B:=D7) (d:=ThR.mk b (-1-i) [x.dst] ⟨q8⟩) rfl).part ThR.E3).raw
     simpa using this
    refine bO (vw h8) (View.le_refl _) ?_
    simp (disch:=omega) [hq8,ah (View.le_trans hW7 w8.wle) bp.1,bp8.idxn (N:=2) rfl,ah w8.wle cvq7,hv8.idxn (N:=2) rfl,ah w8.wle hval]
    refine j9 (α:=Int) (W:=W7) El.aP rfl (cn.2 ⟨rfl,hvr⟩) fun u9 h9 hs9 hle9 hsz9=>⟨hle9,?_⟩
    refine (w8.ext' hle9).bu (k:=(1,1)) (α:=Int) (v:=q8) (l:=(x.ins.map InD.val).take j) rfl El.aP rfl rfl hs9 (by simp;omega) (by simp;omega) fun q10 h10 w10 m10=>?_
    have hc10:=w10.cells (k:=(1,1)) (Own.ag)
    obtain ⟨hX10,av10⟩:=m10.view (View.le_trans hle08 hle9) av8
    refine w10.tF (k:=(1,0)) (e:=T.dY) (B:=D7) (D:=ThR.mk b (-1-i) [x.dst] ⟨q8⟩) ThR.E3 (d:=⟨q10⟩) rfl (by kernel_rfl) rfl rfl (kP.2 ⟨rfl,hc10.2⟩) fun h11 w11 hX11=>?_
    refine hK4 q10 _ _ rfl rfl ⟨w11.congr fun p=>?_,hX11 _ hX10 (View.de (View.le_refl _) hD7),av10⟩
    rw [htk]
    unfold qM Own.upd
    repeat' split
    all_goals first | rfl | simp_all
   ·rintro q8 h8 ⟨w8,hle08,av8⟩
    rw [List.take_of_length_le (by simp)] at w8
    simp
    rw [hq];clear hq q
    obtain ⟨cs,hcs,hrd⟩:=w8.atW (k:=(1,0)) (e:=T.dY) (B:=D7) (d:=ThR.mk b (-1-i) [x.dst] ⟨q8⟩) rfl
    obtain ⟨u9,rfl,i1,i2,hu9⟩:=Ao hrd
    obtain ⟨w9,hq9⟩:=w8.freeze (k:=(1,1)) (v:=q8) (l:=x.ins.map InD.val) rfl
    have hpl9:W7.le (W7.plus q8 h8):=dm (w8.av (1,1) _ rfl)
    have hload:Un.ev (vw h8) (.al 4) (.pointer (some ⟨D7,0,none⟩))=some (.agg #[.int .i64 b,.int .i64 (-1-i),u9,q8]):=by
     have:=fC hcs 4 0 #[] (by rfl)
     simp [Un.ev,vP,this]
    have hold9:Old V h (W7.plus q8 h8):=fun c o hc hco=>by
     unfold View.plus at hco
     split at hco
     ·rename_i e
      have:=av8 c e
      simp only [vw] at this
      rw [Array.getElem?_eq_getElem hc] at this;cases this
     ·exact old7 c o hc hco
    have w9:Owns (W7.plus q8 h8) h8 (me r (thTo f b++rows (phiT f b) i)):=w9.sub fun p x hp=>by
     unfold me at hp
     split at hp
     ·rename_i e;subst e;exact hp
     ·cases hp
    have hlr:(thTo f b++rows (phiT f b) i).length=(thTo f b).length+i:=by simp
    simp [hload]
    refine w9.rT (k:=(0,0)) (α:=Th) (v:=r) (l:=thTo f b++rows (phiT f b) i) (d:=phiT f b i) rfl El.fN rfl (by rw [hpt];exact Bs i1 i2 (hu9.mono hpl9) hq9) (by omega) (by omega) (fun _=>rfl) (fun _=>rfl) fun u10 r10 h10 w10 hX10=>?_
    obtain ⟨g1,g2⟩:=hX10 _ hle08 t5.av
    refine hK3 r10 _ _ rfl rfl ⟨W7.plus q8 h8,View.le_trans hW7 hpl9,⟨w10.congr fun p=>?_,hold9,g1,g2⟩⟩
    rw [dy,←List.append_assoc]
    unfold me Own.upd
    repeat' split
    all_goals first | rfl | simp_all
  ·rintro r h5 ⟨W5,hW5,t5⟩
   simp
   rw [hy];clear hy y
   refine aa fun y hy=>?_
   simp
   have si:=sb.ins
   refine cB [1,3,4,5,9] (fun (r:Value) i=>[.pointer (some ⟨B,0,none⟩),r,.int .i64 b,.pointer (some ⟨D,0,none⟩),.int .i64 i]) (fun r i h6=>∃ W,W4.le W∧ThS V h r (thTo f b++rows (phiT f b) (nth f.blocks b).phis.length++rows (insT f b) i) W h6) (nth f.blocks b).ins.length r
    rfl (by omega) rfl ⟨W5,hW5,by simpa using t5⟩ (fun _ _=>rfl) (fun v k h3 hk ⟨W,q1,q2⟩=>by simp [ah (View.le_trans q1 q2.own.wle) bi.1,(bi.2.mono (View.le_trans q1 q2.own.wle)).len]) ?_ ?_
   ·rintro r i h6 hlti ⟨W6,hW6,t6⟩ K3 hK3
    have bi6:=bi.2.mono hW6
    have bih:=bi6.mono t6.own.wle
    have cih:=ah (View.le_trans hW6 t6.own.wle) bi.1
    obtain ⟨ux,hux,huxr⟩:=bi6.wh rfl (N:=5) rfl hlti
    have hap:=(bi6.at hlti)
    rw [←aq hlti] at hap
    obtain ⟨vq,hvq⟩:=(hap.part InsD.ox).sl
    have hvq1:an W6 (((slA vi).add (i*5)).add 3)=some vq:=hvq.1
    have hvq2:=hvq.2
    have hpt:insT f b i=⟨b,i,aN (nth (nth f.blocks b).ins i),(nth (nth f.blocks b).ins i).args⟩:=rfl
    generalize nth (nth f.blocks b).ins i=x at hvq2 huxr hpt
    have hlr:(thTo f b++rows (phiT f b) (nth f.blocks b).phis.length++rows (insT f b) i).length=(thTo f b).length+(nth f.blocks b).phis.length+i:=by simp;omega
    refine bO (vw h6) (View.le_refl _) ?_
    simp (disch:=omega) [cih,bih.idxn (N:=5) rfl,hux _ t6.own.wle,ah t6.own.wle hvq1]
    refine aj (by kernel_rfl) (mS (huxr.mono t6.own.wle)) ?_
    rintro u7 h7 ⟨hle7,hu7,_⟩
    refine ⟨hle7,?_⟩
    have t7:=t6.ext hle7
    have hu7':=hu7.mono (gY W6 h6 h7)
    have hvq7:=hvq2.mono (aX (h':=h7) t6.own.wle)
    refine Dn rfl rfl rfl rfl hu7.cells.1 hvq2.cells.1 ?_
    simp
    refine t7.own.rT (k:=(0,0)) (α:=Th) (v:=r) (l:=thTo f b++rows (phiT f b) (nth f.blocks b).phis.length++rows (insT f b) i) (d:=insT f b i) rfl El.fN rfl (by rw [hpt];exact Bs ⟨by omega,by omega⟩ ⟨by omega,by omega⟩ hu7' hvq7) (by omega) (by omega) (fun _=>rfl) (fun _=>rfl) fun u10 r10 h10 w10 hX10=>?_
    obtain ⟨g1,g2⟩:=hX10 _ t7.le t7.av
    refine hK3 r10 _ _ rfl rfl ⟨_,View.le_trans hW6 (aX (h':=h7) t6.own.wle),⟨w10.congr fun p=>?_,t7.old,g1,g2⟩⟩
    rw [dy,←List.append_assoc]
    unfold me Own.upd
    repeat' split
    all_goals first | rfl | simp_all
   ·rintro r h6 ⟨W6,hW6,t6⟩
    simp
    rw [hy];clear hy y
    have hW6h:=View.le_trans hW6 t6.own.wle
    have bih:=bi.2.mono hW6h
    have cih:=ah hW6h bi.1
    have hlr:(thTo f b++rows (phiT f b) (nth f.blocks b).phis.length++rows (insT f b) (nth f.blocks b).ins.length).length=(thTo f b).length+(nth f.blocks b).phis.length+(nth f.blocks b).ins.length:=by simp;omega
    simp [cih,bih.len,ah hW6h ba.1]
    refine A5 rfl rfl rfl (ba.2.cells.1) ?_
    simp
    refine t6.own.rT (k:=(0,0)) (α:=Th) (v:=r) (l:=thTo f b++rows (phiT f b) (nth f.blocks b).phis.length++rows (insT f b) (nth f.blocks b).ins.length) (d:=endT f b) rfl El.fN rfl (Bs ⟨by omega,by omega⟩ ⟨by omega,by omega⟩ dM (ba.2.mono hW6)) (by omega) (by omega) (fun _=>rfl) (fun _=>rfl) fun u10 r10 h10 w10 hX10=>?_
    obtain ⟨g1,g2⟩:=hX10 _ t6.le t6.av
    refine hK2 r10 _ _ rfl rfl ⟨_,View.le_trans hW4 hW6,⟨w10.congr fun p=>?_,t6.old,g1,g2⟩⟩
    have e:thTo f (b+1)=thTo f b++rows (phiT f b) (nth f.blocks b).phis.length++rows (insT f b) (nth f.blocks b).ins.length++[endT f b]:=by
     rw [ez,thB];simp [List.append_assoc]
    rw [e]
    unfold me Own.upd
    repeat' split
    all_goals first | rfl | simp_all
 ·rintro r h3 ⟨W3,hW3,t3⟩
  simp
  rw [hz];clear hz z
  simp
  exact hK _ _ ⟨t3.le,(t3.own.get (k:=(0,0)) (v:=r) (l:=thTo f f.blocks.length) rfl).rd (t3.old.le t3.own.wle) fun b hb=>by
   have:=t3.av b hb
   rw [cQ]
   rcases Nat.lt_or_ge b h.size with hlt | hge
   ·simp [vw,hlt] at this
   ·exact hge⟩
end Go.Proofs.Ytfelpjfopgiabaa
namespace Go.Proofs.Ytfelpjfopgiabaa
open Go Go.Lft
structure GotD where
 e:Int
 b:Int
 p:Int
instance:Rep GotD:=Rep.via fun d=>Cat.mk d.e (Cat.mk d.b d.p)
abbrev BL:=List Bool
def nk (t:Th) (j:Nat) (m:BL):Except Tr BL:=if nth m (nth t.mks j).toNat then .error (12,t.blk,t.place) else .ok (m.set (nth t.mks j).toNat true)
def fK (f:ak) (t:Th):BlkD:=nth f.blocks t.blk.toNat
def xQ (f:ak) (t:Th):InsD:=nth (fK f t).ins t.place.toNat
def lg (f:ak) (t:Th):Bool:=decide (0≤t.place)&&decide (t.place<(fK f t).ins.length)
def jF (f:ak) (t:Th):Bool:=decide (t.place=(fK f t).ins.length)
def kf (s:InsD):Bool:=decide (s.op<1)||decide (18<s.op)||!oR s.op s.args.length
def kM (f:ak) (n:Int):Bool:=decide (n<f.params)||decide (8191<n)
def sK (f:ak) (n:Int):Bool:=decide (n<1)||decide ((f.blocks.length:Int)≤n)
def kB (f:ak) (t:Th):Except Tr BL→Except Tr BL
 | .error e=>.error e
 | .ok m'=>if jF f t&&(fK f t).term.to.any (sK f) then .error (14,t.blk,t.place) else .ok m'
def eZ (f:ak) (t:Th) (m:BL):Except Tr BL:=
 if lg f t&&kf (xQ f t) then .error (10,t.blk,t.place)
 else if jF f t&&!jw (fK f t).term then .error (10,t.blk,t.place)
 else if t.mks.any (kM f) then .error (11,t.blk,t.place)
 else kB f t (upE (nk t) t.mks.length m)
def je (f:ak):Except Tr BL:=upE (fun i m=>eZ f (nth (ar f) i) m) (ar f).length (List.replicate 8192 false)
def rY {α:Type}:Except Tr α→Tr | .ok _=>(0,0,0) | .error t=>t
end Go.Proofs.Ytfelpjfopgiabaa
namespace Go.Proofs.Ytfelpjfopgiabaa
open Go Go.Lft
def noTh:Th:=⟨-1,0,[],[]⟩
def eB (t:Th) (l:List Th) (n:Int):List Th:=if 0≤n∧n<8192 then l.set n.toNat t else l
def ou (l:List Th) (t:Th):List Th:=t.mks.foldl (eB t) l
def ve (ts:List Th):List Th:=ts.foldl ou (List.replicate 8192 noTh)
theorem lB {t:Th} {l:List Th} {n:Int}:(eB t l n).length=l.length:=by unfold eB;split<;>simp
theorem yH {t:Th} {l:List Th}:(ou l t).length=l.length:=hE (f:=eB t) (fun x:List Th=>x.length=l.length) (fun _ _ h=>lB.trans h) _ _ rfl
theorem y0 {ts:List Th}:(ve ts).length=8192:=hE (f:=ou) (fun x:List Th=>x.length=8192) (fun _ _ h=>yH.trans h) _ _ (List.length_replicate ..)
end Go.Proofs.Ytfelpjfopgiabaa
namespace Go.Proofs.Ytfelpjfopgiabaa
open Go Go.Lft
def fE (f:ak) (made:List Th) (away:List BL) (v blk place:Int):Bool:=
 if 0≤v∧v<f.params then true
 else if (v<0∨8191<v)∨(nth made v.toNat).blk<0 then false
 else if (nth made v.toNat).blk=blk then decide ((nth made v.toNat).place<0)||decide ((nth made v.toNat).place<place)
 else !nth (nth away (nth made v.toNat).blk.toNat) blk.toNat
end Go.Proofs.Ytfelpjfopgiabaa
namespace Go.Proofs.Ytfelpjfopgiabaa
open Go Go.Lft
def nM (f:ak) (t:Th):PhiD:=nth (fK f t).phis (-1-t.place).toNat
def nW (f:ak) (b:Int):Int:=((nth f.blocks b.toNat).ins.length:Nat)
def nP (f:ak) (t:Th):Bool:=decide (0<t.blk)&&decide ((nM f t).ins.map InD.frm=az f t.blk)
def stT (f:ak) (made:List Th) (away:List BL) (t:Th) (x:Int):Bool:=!fE f made away x t.blk t.place
def stP (f:ak) (made:List Th) (away:List BL) (p:InD):Bool:=!fE f made away p.val p.frm (nW f p.frm)
def fG (f:ak) (made:List Th) (away:List BL) (t:Th):Except Tr Unit:=
 if 0≤t.place then (if t.tks.any (stT f made away t) then .error (13,t.blk,t.place) else .ok ())
 else if !nP f t then .error (16,t.blk,t.place)
 else if (nM f t).ins.any (stP f made away) then .error (13,t.blk,t.place)
 else .ok ()
def fW (f:ak):List Th:=ve (ar f)
def fv (f:ak):List BL:=rows (fun b=>dF f b) f.blocks.length
def lZ (f:ak):Nat→Nat
 | 0=>f.blocks.length
 | n+1=>lZ f n+(nth f.blocks n).phis.length+(nth f.blocks n).ins.length
def wayE (f:ak):Except Tr Unit:=upE (fun b _=>if nth (dF f (-1)) b=true then .ok () else .error (15,b,0)) f.blocks.length ()
def tJ (f:ak):Except Tr Unit:=upE (fun i _=>fG f (fW f) (fv f) (nth (ar f) i)) (ar f).length ()
def Hc:Except Tr Unit→Except Tr Unit→Except Tr Unit
 | .ok _,y=>y
 | .error e,_=>.error e
def pb (f:ak):Tr:=
 if f.params<0∨4<f.params then (1,0,0)
 else if f.blocks.length=0 then (14,0,0)
 else if 512<f.blocks.length∨4096<lZ f f.blocks.length then (2,0,0)
 else if (rY (je f)).1≠0 then rY (je f)
 else rY (Hc (wayE f) (tJ f))
theorem nz {σ ε:Type} {f:Nat→σ→Except ε σ} {s:σ} {t:ε} : ∀ {n:Nat},upE f n s = .error t→∃ k s',k<n∧upE f k s = .ok s'∧f k s' = .error t
 | n+1,h=>by
  simp only [upE] at h
  split at h
  ·rename_i s' hs
   exact ⟨n,s',Nat.lt_succ_self n,hs,h⟩
  ·rename_i t' ht
   cases h
   obtain ⟨k,s',h1,h2⟩:=nz ht
   exact ⟨k,s',Nat.lt_succ_of_lt h1,h2⟩
theorem qC {f:ak} {t:Th} {m:BL} {e:Tr} (h:eZ f t m = .error e):(10≤e.1∧e.1≤14)∧e.2.1=t.blk∧e.2.2=t.place:=by
 unfold eZ at h
 split at h
 ·cases h;simp
 ·split at h
  ·cases h;simp
  ·split at h
   ·cases h;simp
   ·unfold kB at h
    split at h
    ·rename_i e' he
     cases h
     obtain ⟨k,s',_,_,h3⟩:=nz he
     unfold nk at h3
     split at h3
     ·cases h3;simp
     ·cases h3
    ·split at h
     ·cases h;simp
     ·cases h
theorem Bi {n:Int} (hn:0≤n) {ts:List Th} (h : ∀ t∈ts,t.blk<n) {i:Nat} (hi:i<8192):(nth (ve ts) i).blk<n:=by
 have key : ∀ (ts:List Th),(∀ t∈ts,t.blk<n)→∀ l:List Th,(∀ x∈l,x.blk<n)→∀ x∈ts.foldl ou l,x.blk<n:=by
  intro ts
  induction ts with
  | nil=>exact fun _ l hl=>hl
  | cons t ts ih=>
   intro ht l hl
   refine ih (fun x hx=>ht x (List.mem_cons_of_mem _ hx)) _ ?_
   refine hE (f:=eB t) (fun l:List Th=>∀ x∈l,x.blk<n) (fun l a hl x hx=>?_) _ _ hl
   unfold eB at hx
   split at hx
   ·rcases List.mem_or_eq_of_mem_set hx with h | rfl
    ·exact hl x h
    ·exact ht _ List.mem_cons_self
   ·exact hl x hx
 refine key ts h _ (fun x hx=>?_) _ (bS (by show i<(ve ts).length;rw [y0];exact hi))
 rw [(List.mem_replicate.1 hx).2];show (-1:Int)<n;omega
end Go.Proofs.Ytfelpjfopgiabaa
namespace Go.Proofs.Ytfelpjfopgiabaa
open Go Go.Lft
theorem qO {α:Type} [Rep α] {cs:Array Value} {e B:Nat} {ds:List α} {H:View} (hH:H B=some (.cells cs e (0,0))) (hb:ds.length≤1000) (hel : ∀ i (hi:i<ds.length),Rep.rd H ((cs.toList.drop (i*Rep.n α)).take (Rep.n α)) ds[i]) :
  SlRd H (.slice (some ⟨B,0,none⟩) ds.length ds.length) ds:=
 ⟨some ⟨B,0,none⟩,ds.length,rfl,Nat.le_refl _,by omega,.inr ⟨_,rfl,rfl,fun i hi=>by
  rw [bg rfl]
  refine ⟨_,⟨cs,e,(0,0),rfl,hH,?_⟩,hel i hi⟩
  have:=Rep.len (hel i hi)
  rw [this];simp⟩⟩
def oneF (p:Int) (l:List InsD) (t:dc):ak:=⟨p,[⟨[],l,t⟩]⟩
theorem we {p:Int} {l:List InsD} {t:dc} {vi vt:Value} {h:Heap} (hp:I64 p) (hi:SlRd (vw h) vi l) (ht:Rd (vw h) vt t) :
  aG Try.prog N.gB #[.int .i64 p,vi,vt] h (fun u h'=>(vw h).le (vw h')∧Rd (vw h') u (oneF p l t)):=by
 refine ay (args:=[.int .i64 p,vi,vt]) follows F.gB E.gB (Nat.le_of_ble_eq_true (by kernel_rfl)) fun K hK=>?_
 dsimp only [L.gB]
 refine aa fun z hz=>?_
 simp
 refine eJ rfl ht fun h1 _ hle1 hs1 hat=>?_
 obtain ⟨uT,huT,huTr⟩:=hat.al rfl
 obtain ⟨va',vt',rfl,ta,tt⟩:=rS huTr
 have tk:=(hat.part dc.wu).rng
 have ti:-2147483648≤t.imm.v∧t.imm.v≤2147483647:=by
  obtain ⟨cs,_,c1,r1,_,_,c2,r2,_,_,c3,r3,_,_,_,h6⟩:=hat
  exact h6
 have huT:Un.ev (vw h1) (.al 4) (.pointer (some ⟨h.size,0,none⟩))=some (.agg #[.int .i64 t.kind,va',vt',.int .i32 t.imm.v]):=huT
 generalize h.size=B at huT
 refine (Owns.start (h:=h1) (View.le_refl (vw h1))).jj (k:=(5,0)) (n:=1) (z:=.agg #[.int .i64 0,.slice none 0 0]) rfl (by kernel_rfl) rfl (by decide) (by simp [Value.cells,Value.oneCell']) fun h2 q2 w2=>?_
 generalize h1.size=R at w2
 have huT2:Un.ev (vw h2) (.al 4) (.pointer (some ⟨B,0,none⟩))=some (.agg #[.int .i64 t.kind,va',vt',.int .i32 t.imm.v]):=by
  have:=cw (ρ:=fun _=>none) (e:=.un (.al 4) (.con (.pointer (some ⟨B,0,none⟩)))) q2 (by simpa using huT)
  simpa using this
 rw [hz];clear hz z
 simp [huT2]
 refine aL (z:=.agg #[.slice none 0 0,.slice none 0 0,.int .i64 0,.slice none 0 0,.slice none 0 0,.int .i32 0]) (places:=[(0,1),(1,1),(2,4)]) (vs:=[(1,vi),(2,.agg #[.int .i64 t.kind,va',vt',.int .i32 t.imm.v])]) (cs:=#[.slice none 0 0,vi,.int .i64 t.kind,va',vt',.int .i32 t.imm.v]) (by kernel_rfl) (by kernel_rfl) (by simp) (by simp [Instr.fill,hi.cells.1]) ?_
 have hblk:Rd (vw h1) (.agg #[.slice none 0 0,vi,.int .i64 t.kind,va',vt',.int .i32 t.imm.v]) (BlkD.mk [] l t):=sF dM (hi.mono hle1) ta tt tk ti
 refine lK (n:=1) (size:=6) (vs:=[(0,.agg #[.slice none 0 0,vi,.int .i64 t.kind,va',vt',.int .i32 t.imm.v])]) (cs:=#[.slice none 0 0,vi,.int .i64 t.kind,va',vt',.int .i32 t.imm.v]) El.fB (by decide) (by simp) (by simp [Instr.fill,Value.cells,Array.range_zero',Array.range_succ]) ?_
 have q3:=bM h2 (.cells #[.slice none 0 0,vi,.int .i64 t.kind,va',vt',.int .i32 t.imm.v] T.ao)
 have b3:(h2.push (.cells #[.slice none 0 0,vi,.int .i64 t.kind,va',vt',.int .i32 t.imm.v] T.ao))[h2.size]? = some (.cells #[.slice none 0 0,vi,.int .i64 t.kind,va',vt',.int .i32 t.imm.v] T.ao (0,0)):=by simp
 generalize h2.push (.cells #[.slice none 0 0,vi,.int .i64 t.kind,va',vt',.int .i32 t.imm.v] T.ao)=h3 at q3 b3
 have w3:=w2.ext' q3
 have hsl:SlRd (grow (vw h1) h2 h3) (.slice (some ⟨h2.size,0,none⟩) 1 1) [BlkD.mk [] l t]:=qO (ds:=[BlkD.mk [] l t]) (by rw [cQ (Nat.le_refl _)];exact b3) (by simp) fun i hi2=>by
  have:i=0:=by simpa using hi2
  subst this
  exact (gh (hblk.mono (aX w2.wle))).1
 have w3:=w2.ext q3
 have hle3:=aX (h':=h3) w2.wle
 generalize grow (vw h1) h2 h3=W3 at w3 hsl hle3
 generalize Value.slice (some ⟨h2.size,0,none⟩) 1 1=vs at hsl
 refine aL (z:=.agg #[.int .i64 0,.slice none 0 0]) (places:=[(0,1),(1,1)]) (vs:=[(0,.int .i64 p),(1,vs)]) (cs:=#[.int .i64 p,vs]) (by kernel_rfl) (by kernel_rfl) (by simp) (by simp [Instr.fill,hsl.cells.1]) ?_
 refine w3.fj (k:=(5,0)) (e:=T.aE) (B:=R) (D:=RawN.mk (n:=1) [.int .i64 0,.slice none 0 0]) Part.all (d:=RawN.mk (n:=1) [.int .i64 p,vs]) Own.ag (by kernel_rfl) rfl rfl (e9 rfl (by intro c hc;simp only [List.mem_cons,List.not_mem_nil,or_false] at hc;rcases hc with rfl | rfl<;>first | rfl | exact hsl.cells.2)) fun h5 w5 _=>?_
 have c2:=w5.dz (k:=(5,0)) (e:=T.aE) (B:=R) (l:=[.int .i64 p,vs]) (n:=1) Own.ag
 simp [c2]
 exact hK _ _ ⟨View.le_trans hle1 (View.le_trans hle3 w5.wle),_,rfl,[.int .i64 p],[vs],rfl,⟨rfl,hp⟩,vs,rfl,hsl.mono w5.wle⟩
end Go.Proofs.Ytfelpjfopgiabaa
namespace Go.Proofs.Ytfelpjfopgiabaa
open Go Go.Lft
def sh1:ak:=oneF 0 [⟨1,0,0,[],⟨1⟩⟩] ⟨4,[0],[],⟨0⟩⟩
def sh2:ak:=oneF 0 [] ⟨4,[0],[],⟨0⟩⟩
def sh3:ak:=oneF 1 [⟨2,1,0,[0,2],⟨0⟩⟩,⟨1,2,0,[],⟨0⟩⟩] ⟨5,[],[],⟨0⟩⟩
def sh4:ak:=oneF 1 [⟨1,1,0,[],⟨0⟩⟩,⟨2,2,0,[0,1],⟨0⟩⟩] ⟨4,[2],[],⟨0⟩⟩
theorem GL:gI sh1=(0,0,0):=by kernel_rfl
theorem GO:gI sh2=(13,0,0):=by kernel_rfl
theorem GN:gI sh3=(13,0,0):=by kernel_rfl
theorem He:gI sh4=(0,0,0):=by kernel_rfl
theorem GW:gI ⟨0,[]⟩=(14,0,0):=by kernel_rfl
theorem top4:topS sh4=3:=by kernel_rfl
theorem G1:Ae sh4=[1,1,1]:=by kernel_rfl
theorem F4:gA sh4 1=true:=by kernel_rfl
theorem Gb:gA sh4 2=true:=by kernel_rfl
theorem Fu:gA sh4 0=false:=by kernel_rfl
theorem wj {p:Int} {l:List InsD} {t:dc} (h1:l.length≤10000) (h2:t.args.length≤10000) (h3:t.to.length≤10000) (h4 : ∀ x∈l,x.args.length≤10000):SmF (oneF p l t) where
 len:=by simp [oneF]
 blk:=fun i hi=>by
  have:i=0:=by simpa [oneF] using hi
  subst this
  exact ⟨by simp [oneF,nth],by simpa [oneF,nth] using h1,by simpa [oneF,nth] using h2,by simpa [oneF,nth] using h3,fun i hi=>by simp [oneF,nth] at hi,fun i hi=>h4 _ (bS hi)⟩
end Go.Proofs.Ytfelpjfopgiabaa
namespace Go.Proofs.Ytfelpjfopgiabaa
open Go Go.Lft
theorem qW {H:View} {va vt:Value} {a t:List Int} {kd:Int} {imm:I32} (h3:SlRd H va a) (h4:SlRd H vt t) (h5:I64 kd) (h6:-2147483648≤imm.v∧imm.v≤2147483647):Rd H (.agg #[.int .i64 kd,va,vt,.int .i32 imm.v]) (dc.mk kd a t imm):=
 ⟨_,rfl,[.int .i64 kd],_,rfl,⟨rfl,h5⟩,[va],_,rfl,⟨va,rfl,h3⟩,[vt],_,rfl,⟨vt,rfl,h4⟩,rfl,h6⟩
theorem Co {h:Heap}:aG Try.prog N.eE #[] h (fun u h'=>u = .bool true∧(vw h).le (vw h')):=by
 refine ay (args:=[]) follows F.eE E.eE (Nat.le_of_ble_eq_true (by kernel_rfl)) fun K hK=>?_
 dsimp only [L.eE]
 refine aa fun z hz=>?_
 simp
 rw [hz];clear hz z
 refine aa fun z hz=>?_
 simp
 refine aL (z:=.agg #[.int .i64 0,.int .i64 0,.int .i64 0,.slice none 0 0,.int .i32 0]) (places:=[(0,1),(1,1),(2,1),(3,1),(4,1)]) (vs:=[(0,.int .i64 1),(4,.int .i32 1)]) (cs:=#[.int .i64 1,.int .i64 0,.int .i64 0,.slice none 0 0,.int .i32 1]) (by kernel_rfl) (by kernel_rfl) (by simp) (by rfl) ?_
 refine lK (n:=1) (size:=5) (vs:=[(0,.agg #[.int .i64 1,.int .i64 0,.int .i64 0,.slice none 0 0,.int .i32 1])]) (cs:=#[.int .i64 1,.int .i64 0,.int .i64 0,.slice none 0 0,.int .i32 1]) El.eA (by decide) (by simp) (by simp [Instr.fill,Value.cells,Array.range_zero',Array.range_succ]) ?_
 have q1:=bM h (.cells #[.int .i64 1,.int .i64 0,.int .i64 0,.slice none 0 0,.int .i32 1] T.aW)
 have b1:(h.push (.cells #[.int .i64 1,.int .i64 0,.int .i64 0,.slice none 0 0,.int .i32 1] T.aW))[h.size]? = some (.cells #[.int .i64 1,.int .i64 0,.int .i64 0,.slice none 0 0,.int .i32 1] T.aW (0,0)):=by simp
 generalize h.push (.cells #[.int .i64 1,.int .i64 0,.int .i64 0,.slice none 0 0,.int .i32 1] T.aW)=h1 at q1 b1
 have s1:SlRd (vw h1) (.slice (some ⟨h.size,0,none⟩) 1 1) [InsD.mk 1 0 0 [] ⟨1⟩]:=qO (ds:=[InsD.mk 1 0 0 [] ⟨1⟩]) b1 (by simp) fun i hi2=>by
  have:i=0:=by simpa using hi2
  subst this
  exact (gh (ju (H:=vw h1) (imm:=⟨1⟩) ⟨⟨by decide,by decide⟩,⟨by decide,by decide⟩,⟨by decide,by decide⟩,by decide,by decide⟩ dM)).1
 generalize Value.slice (some ⟨h.size,0,none⟩) 1 1=v1 at s1
 refine fX (α:=Int) (X:=nothing) (ds:=[0]) (vs:=[.int .i64 0]) rfl El.aP (by simp) ⟨jQ (by decide) (by decide),trivial⟩ aZ rfl (by omega) fun v2 h2 q2 _ s2 _=>?_
 have s2:=s2 (vw h2) aZ rfl
 refine aL (z:=.agg #[.int .i64 0,.slice none 0 0,.slice none 0 0,.int .i32 0]) (places:=[(0,1),(1,1),(2,1),(3,1)]) (vs:=[(0,.int .i64 4),(1,v2)]) (cs:=#[.int .i64 4,v2,.slice none 0 0,.int .i32 0]) (by kernel_rfl) (by kernel_rfl) (by simp) (by simp [Instr.fill,s2.cells.1]) ?_
 refine aj (by kernel_rfl) (we (p:=0) (l:=[⟨1,0,0,[],⟨1⟩⟩]) (t:=⟨4,[0],[],⟨0⟩⟩) ⟨by decide,by decide⟩ (s1.mono q2) (qW s2 dM ⟨by decide,by decide⟩ ⟨by decide,by decide⟩)) ?_
 rintro v3 h3 ⟨q3,r3⟩
 refine aj (by kernel_rfl) (qK r3 (wj (by decide) (by decide) (by decide) (by decide))) ?_
 rintro _ h4 ⟨rfl,q4⟩
 rw [show gI (oneF 0 [⟨1,0,0,[],⟨1⟩⟩] ⟨4,[0],[],⟨0⟩⟩)=(0,0,0) from GL]
 have k4:(vw h).le (vw h4):=View.le_trans q1 (View.le_trans q2 (View.le_trans q3 q4))
 clear s1 s2 r3 q1 q2 q3 q4 b1
 simp
 rw [hz];clear hz z
 refine aa fun z hz=>?_
 simp
 refine fX (α:=Int) (X:=nothing) (ds:=[0]) (vs:=[.int .i64 0]) rfl El.aP (by simp) ⟨jQ (by decide) (by decide),trivial⟩ aZ rfl (by omega) fun v2 h5 q5 _ s2 _=>?_
 have s2:=s2 (vw h5) aZ rfl
 refine aL (z:=.agg #[.int .i64 0,.slice none 0 0,.slice none 0 0,.int .i32 0]) (places:=[(0,1),(1,1),(2,1),(3,1)]) (vs:=[(0,.int .i64 4),(1,v2)]) (cs:=#[.int .i64 4,v2,.slice none 0 0,.int .i32 0]) (by kernel_rfl) (by kernel_rfl) (by simp) (by simp [Instr.fill,s2.cells.1]) ?_
 refine aj (by kernel_rfl) (we (p:=0) (l:=[]) (t:=⟨4,[0],[],⟨0⟩⟩) ⟨by decide,by decide⟩ dM (qW s2 dM ⟨by decide,by decide⟩ ⟨by decide,by decide⟩)) ?_
 rintro v3 h6 ⟨q6,r3⟩
 refine aj (by kernel_rfl) (qK r3 (wj (by decide) (by decide) (by decide) (by decide))) ?_
 rintro _ h7 ⟨rfl,q7⟩
 rw [show gI (oneF 0 [] ⟨4,[0],[],⟨0⟩⟩)=(13,0,0) from GO]
 have k7:(vw h).le (vw h7):=View.le_trans k4 (View.le_trans q5 (View.le_trans q6 q7))
 clear s2 r3 q5 q6 q7 k4
 simp
 rw [hz];clear hz z
 refine aa fun z hz=>?_
 simp
 refine fX (α:=Int) (X:=nothing) (ds:=[0,2]) (vs:=[.int .i64 0,.int .i64 2]) rfl El.aP (by simp) ⟨jQ (by decide) (by decide),jQ (by decide) (by decide),trivial⟩ aZ rfl (by omega) fun v2 h8 q8 _ s2 _=>?_
 have s2:=s2 (vw h8) aZ rfl
 refine aL (z:=.agg #[.int .i64 0,.int .i64 0,.int .i64 0,.slice none 0 0,.int .i32 0]) (places:=[(0,1),(1,1),(2,1),(3,1),(4,1)]) (vs:=[(0,.int .i64 2),(1,.int .i64 1),(3,v2)]) (cs:=#[.int .i64 2,.int .i64 1,.int .i64 0,v2,.int .i32 0]) (by kernel_rfl) (by kernel_rfl) (by simp) (by simp [Instr.fill,s2.cells.1]) ?_
 refine aL (z:=.agg #[.int .i64 0,.int .i64 0,.int .i64 0,.slice none 0 0,.int .i32 0]) (places:=[(0,1),(1,1),(2,1),(3,1),(4,1)]) (vs:=[(0,.int .i64 1),(1,.int .i64 2)]) (cs:=#[.int .i64 1,.int .i64 2,.int .i64 0,.slice none 0 0,.int .i32 0]) (by kernel_rfl) (by kernel_rfl) (by simp) (by rfl) ?_
 refine lK (n:=2) (size:=5) (vs:=[(0,.agg #[.int .i64 2,.int .i64 1,.int .i64 0,v2,.int .i32 0]),(1,.agg #[.int .i64 1,.int .i64 2,.int .i64 0,.slice none 0 0,.int .i32 0])]) (cs:=#[.int .i64 2,.int .i64 1,.int .i64 0,v2,.int .i32 0,.int .i64 1,.int .i64 2,.int .i64 0,.slice none 0 0,.int .i32 0]) El.eA (by decide) (by simp) (by simp [Instr.fill,Value.cells,Array.range_zero',Array.range_succ]) ?_
 have q9:=bM h8 (.cells #[.int .i64 2,.int .i64 1,.int .i64 0,v2,.int .i32 0,.int .i64 1,.int .i64 2,.int .i64 0,.slice none 0 0,.int .i32 0] T.aW)
 have b9:(h8.push (.cells #[.int .i64 2,.int .i64 1,.int .i64 0,v2,.int .i32 0,.int .i64 1,.int .i64 2,.int .i64 0,.slice none 0 0,.int .i32 0] T.aW))[h8.size]? = some (.cells #[.int .i64 2,.int .i64 1,.int .i64 0,v2,.int .i32 0,.int .i64 1,.int .i64 2,.int .i64 0,.slice none 0 0,.int .i32 0] T.aW (0,0)):=by simp
 generalize h8.push (.cells #[.int .i64 2,.int .i64 1,.int .i64 0,v2,.int .i32 0,.int .i64 1,.int .i64 2,.int .i64 0,.slice none 0 0,.int .i32 0] T.aW)=h9 at q9 b9
 have s9:SlRd (vw h9) (.slice (some ⟨h8.size,0,none⟩) 2 2) [InsD.mk 2 1 0 [0,2] ⟨0⟩,InsD.mk 1 2 0 [] ⟨0⟩]:=qO (ds:=[InsD.mk 2 1 0 [0,2] ⟨0⟩,InsD.mk 1 2 0 [] ⟨0⟩]) b9 (by simp) fun i hi2=>by
  have:i=0∨i=1:=by simp at hi2;omega
  rcases this with rfl | rfl
  ·exact (gh (ju (H:=vw h9) (imm:=⟨0⟩) ⟨⟨by decide,by decide⟩,⟨by decide,by decide⟩,⟨by decide,by decide⟩,by decide,by decide⟩ (s2.mono q9))).1
  ·exact (gh (ju (H:=vw h9) (imm:=⟨0⟩) ⟨⟨by decide,by decide⟩,⟨by decide,by decide⟩,⟨by decide,by decide⟩,by decide,by decide⟩ dM)).1
 generalize Value.slice (some ⟨h8.size,0,none⟩) 2 2=v4 at s9
 refine aL (z:=.agg #[.int .i64 0,.slice none 0 0,.slice none 0 0,.int .i32 0]) (places:=[(0,1),(1,1),(2,1),(3,1)]) (vs:=[(0,.int .i64 5)]) (cs:=#[.int .i64 5,.slice none 0 0,.slice none 0 0,.int .i32 0]) (by kernel_rfl) (by kernel_rfl) (by simp) (by rfl) ?_
 refine aj (by kernel_rfl) (we (p:=1) (l:=[⟨2,1,0,[0,2],⟨0⟩⟩,⟨1,2,0,[],⟨0⟩⟩]) (t:=⟨5,[],[],⟨0⟩⟩) ⟨by decide,by decide⟩ s9 (qW dM dM ⟨by decide,by decide⟩ ⟨by decide,by decide⟩)) ?_
 rintro v3 h10 ⟨q10,r3⟩
 refine aj (by kernel_rfl) (qK r3 (wj (by decide) (by decide) (by decide) (by decide))) ?_
 rintro _ h11 ⟨rfl,q11⟩
 rw [show gI (oneF 1 [⟨2,1,0,[0,2],⟨0⟩⟩,⟨1,2,0,[],⟨0⟩⟩] ⟨5,[],[],⟨0⟩⟩)=(13,0,0) from GN]
 have k11:(vw h).le (vw h11):=View.le_trans k7 (View.le_trans q8 (View.le_trans q9 (View.le_trans q10 q11)))
 clear s2 r3 s9 b9 q8 q9 q10 q11 k7
 simp
 rw [hz];clear hz z
 refine aa fun z hz=>?_
 simp
 refine aL (z:=.agg #[.int .i64 0,.int .i64 0,.int .i64 0,.slice none 0 0,.int .i32 0]) (places:=[(0,1),(1,1),(2,1),(3,1),(4,1)]) (vs:=[(0,.int .i64 1),(1,.int .i64 1)]) (cs:=#[.int .i64 1,.int .i64 1,.int .i64 0,.slice none 0 0,.int .i32 0]) (by kernel_rfl) (by kernel_rfl) (by simp) (by rfl) ?_
 refine fX (α:=Int) (X:=nothing) (ds:=[0,1]) (vs:=[.int .i64 0,.int .i64 1]) rfl El.aP (by simp) ⟨jQ (by decide) (by decide),jQ (by decide) (by decide),trivial⟩ aZ rfl (by omega) fun v2 h8 q8 _ s2 _=>?_
 have s2:=s2 (vw h8) aZ rfl
 refine aL (z:=.agg #[.int .i64 0,.int .i64 0,.int .i64 0,.slice none 0 0,.int .i32 0]) (places:=[(0,1),(1,1),(2,1),(3,1),(4,1)]) (vs:=[(0,.int .i64 2),(1,.int .i64 2),(3,v2)]) (cs:=#[.int .i64 2,.int .i64 2,.int .i64 0,v2,.int .i32 0]) (by kernel_rfl) (by kernel_rfl) (by simp) (by simp [Instr.fill,s2.cells.1]) ?_
 refine lK (n:=2) (size:=5) (vs:=[(0,.agg #[.int .i64 1,.int .i64 1,.int .i64 0,.slice none 0 0,.int .i32 0]),(1,.agg #[.int .i64 2,.int .i64 2,.int .i64 0,v2,.int .i32 0])]) (cs:=#[.int .i64 1,.int .i64 1,.int .i64 0,.slice none 0 0,.int .i32 0,.int .i64 2,.int .i64 2,.int .i64 0,v2,.int .i32 0]) El.eA (by decide) (by simp) (by simp [Instr.fill,Value.cells,Array.range_zero',Array.range_succ]) ?_
 have q9:=bM h8 (.cells #[.int .i64 1,.int .i64 1,.int .i64 0,.slice none 0 0,.int .i32 0,.int .i64 2,.int .i64 2,.int .i64 0,v2,.int .i32 0] T.aW)
 have b9:(h8.push (.cells #[.int .i64 1,.int .i64 1,.int .i64 0,.slice none 0 0,.int .i32 0,.int .i64 2,.int .i64 2,.int .i64 0,v2,.int .i32 0] T.aW))[h8.size]? = some (.cells #[.int .i64 1,.int .i64 1,.int .i64 0,.slice none 0 0,.int .i32 0,.int .i64 2,.int .i64 2,.int .i64 0,v2,.int .i32 0] T.aW (0,0)):=by simp
 generalize h8.push (.cells #[.int .i64 1,.int .i64 1,.int .i64 0,.slice none 0 0,.int .i32 0,.int .i64 2,.int .i64 2,.int .i64 0,v2,.int .i32 0] T.aW)=h9 at q9 b9
 have s9:SlRd (vw h9) (.slice (some ⟨h8.size,0,none⟩) 2 2) [InsD.mk 1 1 0 [] ⟨0⟩,InsD.mk 2 2 0 [0,1] ⟨0⟩]:=qO (ds:=[InsD.mk 1 1 0 [] ⟨0⟩,InsD.mk 2 2 0 [0,1] ⟨0⟩]) b9 (by simp) fun i hi2=>by
  have:i=0∨i=1:=by simp at hi2;omega
  rcases this with rfl | rfl
  ·exact (gh (ju (H:=vw h9) (imm:=⟨0⟩) ⟨⟨by decide,by decide⟩,⟨by decide,by decide⟩,⟨by decide,by decide⟩,by decide,by decide⟩ dM)).1
  ·exact (gh (ju (H:=vw h9) (imm:=⟨0⟩) ⟨⟨by decide,by decide⟩,⟨by decide,by decide⟩,⟨by decide,by decide⟩,by decide,by decide⟩ (s2.mono q9))).1
 generalize Value.slice (some ⟨h8.size,0,none⟩) 2 2=v4 at s9
 refine fX (α:=Int) (X:=nothing) (ds:=[2]) (vs:=[.int .i64 2]) rfl El.aP (by simp) ⟨jQ (by decide) (by decide),trivial⟩ aZ rfl (by omega) fun v5 h10 q10 _ s10 _=>?_
 have s10:=s10 (vw h10) aZ rfl
 refine aL (z:=.agg #[.int .i64 0,.slice none 0 0,.slice none 0 0,.int .i32 0]) (places:=[(0,1),(1,1),(2,1),(3,1)]) (vs:=[(0,.int .i64 4),(1,v5)]) (cs:=#[.int .i64 4,v5,.slice none 0 0,.int .i32 0]) (by kernel_rfl) (by kernel_rfl) (by simp) (by simp [Instr.fill,s10.cells.1]) ?_
 refine aj (by kernel_rfl) (we (p:=1) (l:=[⟨1,1,0,[],⟨0⟩⟩,⟨2,2,0,[0,1],⟨0⟩⟩]) (t:=⟨4,[2],[],⟨0⟩⟩) ⟨by decide,by decide⟩ (s9.mono q10) (qW s10 dM ⟨by decide,by decide⟩ ⟨by decide,by decide⟩)) ?_
 rintro v3 h12 ⟨q12,r3⟩
 have hsm:SmF sh4:=wj (by decide) (by decide) (by decide) (by decide)
 have r3:Rd (vw h12) v3 sh4:=r3
 have k12:(vw h).le (vw h12):=View.le_trans k11 (View.le_trans q8 (View.le_trans q9 (View.le_trans q10 q12)))
 clear s2 s9 b9 q8 q9 q10 q12 k11
 refine dU (X:=vw h12) (z:=.agg #[.int .i64 0,.slice none 0 0]) (by kernel_rfl) rfl (by kernel_rfl) r3 (fun _=>by simp) (fun _=>by simp) fun h13 hle13 hs13 hat13=>?_
 have hat13:=hat13 (vw h13) hle13 rfl
 obtain ⟨u,hu,hur⟩:=hat13.al rfl
 have hu:Un.ev (vw h13) (.al 2) (.pointer (some ⟨h12.size,0,none⟩))=some u:=hu
 generalize h12.size=B at hu
 have huv : ∀ {h':Heap},(vw h13).le (vw h')→Un.ev (vw h') (.al 2) (.pointer (some ⟨B,0,none⟩))=some u:=fun q=>by
  have:=cw (ρ:=fun _=>none) (e:=.un (.al 2) (.con (.pointer (some ⟨B,0,none⟩)))) q (v:=u) (by simpa using hu)
  simpa using this
 have k13:=View.le_trans k12 hle13
 clear r3 hat13 k12 hle13
 rw [hz];clear hz z
 refine aa fun z hz=>?_
 refine pq (fun ρ h14=>∃ vu tl,(vw h13).le (vw h14)∧SlRd (vw h14) vu ([1,1,1]:List Int)∧ρ=[(0,.bool false),(1,.int .i64 0),(2,.int .i64 0),(3,.int .i64 0),(4,.int .i64 13),(5,.int .i64 0),(6,.int .i64 0),(7,.int .i64 13),(9,.int .i64 0),(10,.pointer (some ⟨B,0,none⟩)),(11,vu)]++tl) ?_ ?_
 ·intro K2 hK2
  simp [hu]
  refine aj (by kernel_rfl) (Da hur hsm) ?_
  rintro vu h14 ⟨hle14,su⟩
  have su:=su.mono (iL h13 h14)
  rw [G1] at su
  exact hK2 _ _ ⟨vu,_,hle14,su,rfl⟩
 ·rintro ρ h14 ⟨vu,tl,q14,su,rfl⟩
  rw [hz];clear hz z
  refine aa fun z hz=>?_
  simp [huv q14,ae,af]
  refine aj (by kernel_rfl) (oS (hur.mono q14) hsm) ?_
  rintro _ h15 ⟨rfl,hle15⟩
  have q15:=View.le_trans q14 hle15
  rw [show gI sh4=(0,0,0) from He]
  have sl : ∀ {K:View},Un.ev K .len vu=some (.int .i64 3):=fun {K}=>su.len
  have se : ∀ {h':Heap},(vw h14).le (vw h')→an (vw h') ((slA vu).add 1)=some (.int .i64 1):=fun q=>by
   have:=(su.mono q).int (i:=1) (View.le_refl _) (by decide)
   simpa [nth] using this
  simp [huv q15,ae,af]
  refine aj (by kernel_rfl) (vW (hur.mono q15) hsm) ?_
  rintro _ h16 ⟨rfl,hle16⟩
  have q16:=View.le_trans q15 hle16
  rw [top4]
  have ix:Bn.ev (.idx 1) vu (.int .i64 1)=some (.pointer (some ((slA vu).add 1))):=by
   have:=su.idx1 rfl (k:=.i64) (i:=1) (by decide) (by decide)
   simpa using this
  simp [huv q16,sl,ix,se (View.le_trans hle15 hle16),ae,af]
  refine aj (by kernel_rfl) (jB (val:=1) (hur.mono q16) hsm ⟨by decide,by decide⟩) ?_
  rintro _ h17 ⟨rfl,hle17⟩
  have q17:=View.le_trans q16 hle17
  rw [F4]
  simp [huv q17,ae,af]
  refine aj (by kernel_rfl) (jB (val:=2) (hur.mono q17) hsm ⟨by decide,by decide⟩) ?_
  rintro _ h18 ⟨rfl,hle18⟩
  have q18:=View.le_trans q17 hle18
  rw [Gb]
  simp [huv q18,ae,af]
  refine aj (by kernel_rfl) (jB (val:=0) (hur.mono q18) hsm ⟨by decide,by decide⟩) ?_
  rintro _ h19 ⟨rfl,hle19⟩
  have q19:=View.le_trans q18 hle19
  rw [Fu]
  simp [ae,af]
  refine aL (z:=.agg #[.int .i64 0,.slice none 0 0]) (places:=[(0,1),(1,1)]) (vs:=[]) (cs:=#[.int .i64 0,.slice none 0 0]) (by kernel_rfl) (by kernel_rfl) (by simp) (by rfl) ?_
  have r5:Rd (vw h19) (.agg #[.int .i64 0,.slice none 0 0]) (ak.mk 0 []):=⟨_,rfl,[.int .i64 0],[.slice none 0 0],rfl,⟨rfl,by decide,by decide⟩,_,rfl,dM⟩
  refine aj (by kernel_rfl) (oS r5 ⟨by simp,fun i hi=>by simp at hi⟩) ?_
  rintro _ h20 ⟨rfl,hle20⟩
  rw [GW]
  simp [ae,af]
  rw [hz];clear hz z
  simp [ae,af]
  exact hK _ _ ⟨rfl,View.le_trans k13 (View.le_trans q19 hle20)⟩
end Go.Proofs.Ytfelpjfopgiabaa
namespace Go.Proofs.Ytfelpjfopgiabaa
open Go Go.Lft
theorem iJ {l:List BlkD}:(ofG l).length=l.length:=by simp [ofG]
theorem iE {l:List BlkD} {a b:Int}:kY (ofG l) a b=true↔(0≤a∧a<l.length∧0≤b∧b<l.length)∧b∈(nth l a.toNat).term.to:=by
 rw [gx,iJ]
 constructor
 ·rintro ⟨h,hm⟩
  rw [ofG,eh (by omega),qd] at hm
  exact ⟨h,hm.1⟩
 ·rintro ⟨h,hm⟩
  refine ⟨h,?_⟩
  rw [ofG,eh (by omega),qd]
  exact ⟨hm,h.2.2.1,h.2.2.2⟩
structure Rb (f:ak) (wo:Int) (s:RSt):Prop where
 ok:ROk f.blocks.length s
 seen : ∀ b:Nat,b<f.blocks.length→(nth s.1 b=true↔(b:Int)∈s.2)
 sound : ∀ x∈s.2,Re (ofG f.blocks) wo x.toNat
theorem GU {f:ak} {wo a:Int} {k:Nat} {s:RSt} (h:Rb f wo s) (h0:0≤a) (h1:a<f.blocks.length) (ha:Re (ofG f.blocks) wo a.toNat) (hk:k<(nth f.blocks a.toNat).term.to.length) :
  Rb f wo (iA wo (nth f.blocks a.toNat).term.to k s)∧s.2 <+: (iA wo (nth f.blocks a.toNat).term.to k s).2∧
   (0≤nth (nth f.blocks a.toNat).term.to k→nth (nth f.blocks a.toNat).term.to k<f.blocks.length→nth (nth f.blocks a.toNat).term.to k≠wo→nth (nth f.blocks a.toNat).term.to k∈(iA wo (nth f.blocks a.toNat).term.to k s).2):=by
 have hok:=ya (wo:=wo) (to:=(nth f.blocks a.toNat).term.to) (k:=k) h.ok
 have hm:=bS hk
 unfold iA at hok ⊢
 generalize hto:(nth f.blocks a.toNat).term.to=to at hm hok ⊢
 split
 ·rename_i hc
  rw [if_pos hc] at hok
  obtain ⟨⟨c1,c2⟩,c3,c4⟩:=hc
  rw [h.ok.len] at c2
  have hb:((nth to k).toNat:Int)=nth to k:=Int.toNat_of_nonneg c1
  refine ⟨⟨hok,fun b hb=>?_,fun x hx=>?_⟩,List.prefix_append _ _,fun _ _ _=>List.mem_append_right _ (List.mem_singleton.2 rfl)⟩
  ·rw [List.mem_append,List.mem_singleton]
   by_cases he:b=(nth to k).toNat
   ·subst he
    rw [aJ (by rw [h.ok.len];omega),if_pos rfl]
    exact ⟨fun _=>.inr (Int.toNat_of_nonneg c1),fun _=>rfl⟩
   ·rw [aJ (by rw [h.ok.len];exact hb),if_neg (fun e=>he e.symm),h.seen b hb]
    exact ⟨.inl,fun e=>e.resolve_right (by omega)⟩
  ·rcases List.mem_append.1 hx with hx | hx
   ·exact h.sound x hx
   ·rw [List.mem_singleton.1 hx]
    refine .step ha ?_ (by rw [hb];exact c4)
    rw [iE,hb]
    exact ⟨⟨by omega,by omega,c1,c2⟩,by rw [Int.toNat_natCast,hto];exact hm⟩
 ·rename_i hc
  rw [if_neg hc] at hok
  refine ⟨h,List.prefix_refl _,fun c1 c2 c4=>?_⟩
  have hb:((nth to k).toNat:Int)=nth to k:=Int.toNat_of_nonneg c1
  rw [←hb,←h.seen _ (by omega)]
  cases e:nth s.1 (nth to k).toNat with
  | true=>rfl
  | false=>exact absurd ⟨⟨c1,by rw [h.ok.len];exact c2⟩,e,c4⟩ hc
theorem CJ {f:ak} {wo a:Int} {s:RSt} (h:Rb f wo s) (h0:0≤a) (h1:a<f.blocks.length) (ha:Re (ofG f.blocks) wo a.toNat) : ∀ m,m≤(nth f.blocks a.toNat).term.to.length→
  Rb f wo (up (iA wo (nth f.blocks a.toNat).term.to) m s)∧s.2 <+: (up (iA wo (nth f.blocks a.toNat).term.to) m s).2∧
   ∀ k,k<m→0≤nth (nth f.blocks a.toNat).term.to k→nth (nth f.blocks a.toNat).term.to k<f.blocks.length→nth (nth f.blocks a.toNat).term.to k≠wo→nth (nth f.blocks a.toNat).term.to k∈(up (iA wo (nth f.blocks a.toNat).term.to) m s).2
 | 0,_=>⟨h,List.prefix_refl _,fun k hk=>by omega⟩
 | m+1,hm=>by
  obtain ⟨i1,i2,i3⟩:=CJ h h0 h1 ha m (by omega)
  obtain ⟨j1,j2,j3⟩:=GU (k:=m) i1 h0 h1 ha (by omega)
  rw [up]
  refine ⟨j1,i2.trans j2,fun k hk c1 c2 c3=>?_⟩
  rcases Nat.lt_or_ge k m with hlt | hge
  ·exact j2.subset (i3 k hlt c1 c2 c3)
  ·have:k=m:=by omega
   subst this;exact j3 c1 c2 c3
structure Rc (f:ak) (wo:Int) (i:Nat) (s:RSt):Prop where
 b:Rb f wo s
 root:wo≠0→0<f.blocks.length→(0:Int)∈s.2
 done : ∀ j,j<i→j<s.2.length→∀ b:Nat,kY (ofG f.blocks) (nth s.2 j) b=true→(b:Int)≠wo→(b:Int)∈s.2
theorem zN {α:Type} [Inhabited α] {a b:List α} (h:a <+: b) {i:Nat} (hi:i<a.length):nth b i=nth a i:=by
 obtain ⟨t,rfl⟩:=h
 rw [aq (by simp;omega),aq hi,List.getElem_append_left hi]
theorem Es {f:ak} {wo:Int} {i:Nat} {s:RSt} (h:Rc f wo i s) (hi:i<s.2.length):Rc f wo (i+1) (tq f wo i s)∧s.2 <+: (tq f wo i s).2:=by
 have hm:=bS hi
 obtain ⟨h0,h1⟩:=h.b.ok.rng _ hm
 have hre:=h.b.sound _ hm
 obtain ⟨i1,i2,i3⟩:=CJ h.b h0 h1 hre _ (Nat.le_refl _)
 have he:tq f wo i s=up (iA wo (nth f.blocks (nth s.2 i).toNat).term.to) (nth f.blocks (nth s.2 i).toNat).term.to.length s:=rfl
 rw [←he] at i1 i2 i3
 refine ⟨⟨i1,fun a b=>i2.subset (h.root a b),fun j hj hjl b hb hne=>?_⟩,i2⟩
 rcases Nat.lt_or_ge j i with hlt | hge
 ·rw [zN i2 (by omega)] at hb
  exact i2.subset (h.done j hlt (by omega) b hb hne)
 ·have:j=i:=by omega
  subst this
  rw [zN i2 hi,iE] at hb
  obtain ⟨⟨_,_,q1,q2⟩,hmem⟩:=hb
  obtain ⟨k,hk,e⟩:=List.getElem_of_mem hmem
  rw [←aq hk] at e
  rw [←e]
  exact i3 k hk (by omega) (by omega) (by rw [e];exact hne)
theorem BA {f:ak} {wo:Int} : ∀ {m i:Nat} {s:RSt},Rc f wo i s→f.blocks.length<i+m→∃ k,Rc f wo k (rchS f wo m i s)∧(rchS f wo m i s).2.length≤k
 | 0,i,s,h,hm=>⟨i,h,by have:=h.b.ok.cnt;rw [rchS];omega⟩
 | m+1,i,s,h,hm=>by
  rw [rchS]
  split
  ·rename_i hi
   exact BA (Es h hi).1 (by omega)
  ·rename_i hi
   exact ⟨i,h,by omega⟩
theorem D2 {f:ak} {wo:Int}:Rc f wo 0 (rch0 f wo):=by
 have hok:=uV (f:=f) (wo:=wo)
 unfold rch0 at hok ⊢
 split
 ·rename_i hc
  rw [if_pos hc] at hok
  refine ⟨⟨hok,fun b hb=>?_,fun x hx=>?_⟩,fun _ _=>List.mem_singleton.2 rfl,fun j hj=>by omega⟩
  ·rw [aJ (by simpa using hb),List.mem_singleton]
   split
   ·rename_i e;subst e;simp
   ·rename_i e
    rw [aq (by simpa using hb)]
    simp;omega
  ·rw [List.mem_singleton.1 hx]
   exact .root (by rw [iJ];exact hc.2) hc.1
 ·rename_i hc
  rw [if_neg hc] at hok
  refine ⟨⟨hok,fun b hb=>?_,fun x hx=>by cases hx⟩,fun a b=>absurd ⟨a,b⟩ hc,fun j hj=>by omega⟩
  rw [aq (by simpa using hb)]
  simp
theorem eL {f:ak} {wo:Int} {b:Nat} (hb:b<f.blocks.length):nth (dF f wo) b=true↔Re (ofG f.blocks) wo b:=by
 obtain ⟨k,h,hk⟩:=BA (D2 (f:=f) (wo:=wo)) (m:=f.blocks.length+1) (by omega)
 unfold dF
 generalize rchS f wo (f.blocks.length+1) 0 (rch0 f wo)=s at h hk
 rw [h.b.seen b hb]
 constructor
 ·exact fun hm=>by simpa using h.b.sound _ hm
 ·intro hr
  induction hr with
  | root h1 h2=>exact h.root h2 (by rw [←iJ];exact h1)
  | @step a b ha he hne ih=>
   have hm:=ih (by have:=(iE.1 he).1;omega)
   obtain ⟨j,hj,e⟩:=List.getElem_of_mem hm
   rw [←aq hj] at e
   exact h.done j (by omega) hj b (by rw [e];exact he) hne
end Go.Proofs.Ytfelpjfopgiabaa
namespace Go.Proofs.Ytfelpjfopgiabaa
open Go Go.Lft
theorem gT {σ α ε:Type} {f:σ→α→Except ε σ} {a b:List α} {s:σ}:(a++b).foldlM f s=(match a.foldlM f s with | .ok s'=>b.foldlM f s' | .error e=>.error e):=by
 rw [List.foldlM_append]
 cases a.foldlM f s<;>rfl
theorem oA {σ α ε:Type} {f:σ→α→Except ε σ} {a:α} {s:σ}:[a].foldlM f s=f s a:=by
 rw [List.foldlM_cons]
 cases f s a<;>rfl
theorem lh {σ α ε:Type} {g:Nat→σ→Except ε σ} {f:σ→α→Except ε σ} {x:Nat→α} {s:σ} : ∀ {n:Nat},(∀ i s,i<n→g i s=f s (x i))→upE g n s=(rows x n).foldlM f s
 | 0,_=>rfl
 | n+1,h=>by
  have ih:=lh (n:=n) (s:=s) fun i s hi=>h i s (by omega)
  rw [dy,gT,←ih]
  simp only [upE]
  cases upE g n s with
  | ok s'=>
   show g n s'=[x n].foldlM f s'
   rw [oA];exact h n s' (by omega)
  | error e=>rfl
theorem my {σ α ε:Type} [Inhabited α] {f:σ→α→Except ε σ} {l:List α} {s:σ}:upE (fun i s=>f s (nth l i)) l.length s=l.foldlM f s:=by
 rw [lh (f:=f) (x:=nth l) fun _ _ _=>rfl]
 congr 1
 refine List.ext_getElem (by simp) fun i h1 h2=>?_
 simp [rows,aq h2]
def jx (f:ak) (m:MW) (t:Th):Except Tr MW:=
 if t.place<0 then allS f.params t.mks t.blk t.place m
 else if t.place<(fK f t).ins.length then insS f.params t.blk (fK f t) t.place.toNat m
 else endS f.blocks.length t.blk (fK f t) m
theorem pT {f:ak} {b i:Nat} {m:MW}:jx f m (phiT f b i)=phiS f.params b (nth f.blocks b) i m:=by
 unfold jx
 rw [if_pos (show (phiT f b i).place<0 by show -1-(i:Int)<0;omega)]
 rfl
theorem pY {f:ak} {b i:Nat} {m:MW} (hi:i<(nth f.blocks b).ins.length):jx f m (insT f b i)=insS f.params b (nth f.blocks b) i m:=by
 unfold jx
 rw [if_neg (show ¬(insT f b i).place<0 by show ¬(i:Int)<0;omega),if_pos (show (insT f b i).place<((fK f (insT f b i)).ins.length:Int) by show (i:Int)<((nth f.blocks b).ins.length:Int);omega)]
 rfl
theorem pH {f:ak} {b:Nat} {m:MW}:jx f m (endT f b)=endS f.blocks.length b (nth f.blocks b) m:=by
 unfold jx
 rw [if_neg (show ¬(endT f b).place<0 by show ¬((nth f.blocks b).ins.length:Int)<0;omega),if_neg (show ¬(endT f b).place<((fK f (endT f b)).ins.length:Int) by show ¬((nth f.blocks b).ins.length:Int)<((nth f.blocks b).ins.length:Int);omega)]
 rfl
theorem Cx {f:ak} {b:Nat} {m:MW}:blkS f b m=(thB f b).foldlM (jx f) m:=by
 unfold blkS thB
 rw [lh (f:=jx f) (x:=phiT f b) (n:=(nth f.blocks b).phis.length) fun i s hi=>pT.symm]
 rw [gT,gT]
 cases (rows (phiT f b) (nth f.blocks b).phis.length).foldlM (jx f) m with
 | error e=>rfl
 | ok m1=>
  simp only
  rw [lh (f:=jx f) (x:=insT f b) (n:=(nth f.blocks b).ins.length) fun i s hi=>(pY hi).symm]
  cases (rows (insT f b) (nth f.blocks b).ins.length).foldlM (jx f) m1 with
  | error e=>rfl
  | ok m2=>
   simp only
   rw [oA]
   exact pH.symm
theorem rC {f:ak} {m:MW}:kA f m=(ar f).foldlM (jx f) m:=by
 have key : ∀ n,upE (blkS f) n m=(thTo f n).foldlM (jx f) m:=by
  intro n
  induction n with
  | zero=>rfl
  | succ n ih=>
   rw [ez,gT,←ih]
   simp only [upE]
   cases upE (blkS f) n m with
   | error e=>rfl
   | ok s=>exact Cx
 exact key _
theorem kK {f:ak}:je f=(ar f).foldlM (fun m t=>eZ f t m) (List.replicate 8192 false):=my (f:=fun (m:BL) (t:Th)=>eZ f t m)
def qg (m:MW) (l:BL):Prop:=l.length=8192∧∀ n:Int,0≤n→n<8192→(m n).isSome=nth l n.toNat
def Alike {α β:Type} (R:α→β→Prop):Except Tr α→Except Tr β→Prop
 | .ok a,.ok b=>R a b
 | .error e,.error e'=>e=e'
 | _,_=>False
theorem oH {α β γ:Type} {R:α→β→Prop} {F:α→γ→Except Tr α} {G:β→γ→Except Tr β} : ∀ {l:List γ},(∀ t∈l,∀ a b,R a b→Alike R (F a t) (G b t))→∀ {a:α} {b:β},R a b→Alike R (l.foldlM F a) (l.foldlM G b)
 | [],_,a,b,h=>h
 | t::l,hs,a,b,h=>by
  rw [List.foldlM_cons,List.foldlM_cons]
  have:=hs t List.mem_cons_self a b h
  cases e1:F a t with
  | error e=>
   cases e2:G b t with
   | error e'=>rw [e1,e2] at this;exact this
   | ok b'=>rw [e1,e2] at this;exact this.elim
  | ok a'=>
   cases e2:G b t with
   | error e'=>rw [e1,e2] at this;exact this.elim
   | ok b'=>
    rw [e1,e2] at this
    exact oH (fun t ht=>hs t (List.mem_cons_of_mem _ ht)) this
theorem AT {f:ak} {n:Int}:bn n f.params 8191=!kM f n:=by
 rw [Bool.eq_iff_iff];simp [bn,kM]
theorem zV {α:Type} {p:α→Bool} {l:List α}:l.all (fun n=>!p n)=!l.any p:=by
 induction l with
 | nil=>rfl
 | cons a l ih=>simp [ih]
def iF (t:Th) (m:BL) (n:Int):Except Tr BL:=if nth m n.toNat then .error (12,t.blk,t.place) else .ok (m.set n.toNat true)
theorem Au {f:ak} {t:Th} {m:MW} {l:BL} (h:qg m l) (hp:0≤f.params) (hn : ∀ n∈t.mks,kM f n=false):Alike qg (t.mks.foldlM (nN t.blk t.place) m) (upE (nk t) t.mks.length l):=by
 have e:upE (nk t) t.mks.length l=t.mks.foldlM (iF t) l:=my (f:=iF t)
 rw [e]
 refine oH (fun n hnm m l h=>?_) h
 have hb:=hn n hnm
 simp only [kM,Bool.or_eq_false_iff,decide_eq_false_iff_not] at hb
 have hs:=h.2 n (by omega) (by omega)
 unfold nN iF
 rw [hs]
 cases hc:nth l n.toNat with
 | true=>exact rfl
 | false=>
  refine ⟨by simpa using h.1,fun k h0 h1=>?_⟩
  rw [aJ (by rw [h.1];omega)]
  simp only [putM]
  by_cases hk:k=n
  ·subst hk;simp
  ·rw [if_neg hk,if_neg (by omega)];exact h.2 k h0 h1
theorem tS {f:ak} {t:Th} {m:MW} {l:BL} (h:qg m l) (hp:0≤f.params) :
  Alike qg (allS f.params t.mks t.blk t.place m) (if t.mks.any (kM f) then .error (11,t.blk,t.place) else upE (nk t) t.mks.length l):=by
 unfold allS
 have e:(t.mks.all fun n=>bn n f.params 8191)=!t.mks.any (kM f):=by
  rw [←zV];congr 1;funext n;exact AT
 rw [e]
 cases hb:t.mks.any (kM f) with
 | true=>exact rfl
 | false=>
  refine Au h hp fun n hn=>?_
  rw [Bool.eq_false_iff]
  intro e2
  rw [Bool.eq_false_iff] at hb
  exact hb (List.any_eq_true.2 ⟨n,hn,e2⟩)
theorem Ez {x:InsD}:(bn x.op 1 18&&bn x.args.length (fq x.op).1 (fq x.op).2)=!kf x:=by
 rw [Bool.eq_iff_iff]
 simp only [kf,bn,fq,oR,Bool.and_eq_true,Bool.not_eq_true',Bool.or_eq_false_iff,decide_eq_true_eq,decide_eq_false_iff_not,Bool.not_eq_false']
 by_cases h1:x.op=1
 ·simp [h1]
 by_cases h2:x.op=15
 ·simp [h2];omega
 by_cases h3:x.op=17
 ·simp [h3]
 simp only [h1,h2,h3,if_false,decide_eq_true_eq];omega
theorem DI {f:ak} {n:Int}:bn n 1 ((f.blocks.length:Int)-1)=!sK f n:=by
 rw [Bool.eq_iff_iff];simp [bn,sK];omega
theorem AQ {t:dc}:lW t=jw t:=by
 unfold lW jw eY
 by_cases h1:t.kind=1
 ·rw [Bool.eq_iff_iff];simp [putM,h1,bn];omega
 by_cases h2:t.kind=2
 ·rw [Bool.eq_iff_iff];simp [putM,h2,bn];omega
 by_cases h3:t.kind=3
 ·rw [Bool.eq_iff_iff];simp [putM,h3,bn];omega
 by_cases h4:t.kind=4
 ·rw [Bool.eq_iff_iff];simp [putM,h4,bn]
 by_cases h5:t.kind=5
 ·rw [Bool.eq_iff_iff];simp [putM,h5,bn]
 simp [putM,h1,h2,h3,h4,h5]
theorem qx {f:ak} {t:Th} {x:Except Tr BL} (h:jF f t=false):kB f t x=x:=by
 unfold kB
 cases x with
 | error e=>rfl
 | ok m=>simp only [h,Bool.false_and];rfl
theorem As {f:ak} {t:Th} (ht:t∈ar f) (hp:0≤f.params) {m:MW} {l:BL} (h:qg m l):Alike qg (jx f m t) (eZ f t l):=by
 obtain ⟨b,hb,ht⟩:=dh.1 ht
 rcases dC.1 ht with ⟨i,hi,rfl⟩ | ⟨i,hi,rfl⟩ | rfl
 ·have e1:lg f (phiT f b i)=false:=by simp [lg,phiT];omega
  have e2:jF f (phiT f b i)=false:=by
   show decide (-1-(i:Int)=((nth f.blocks b).ins.length:Int))=false
   rw [decide_eq_false_iff_not];omega
  rw [pT,eZ,e1,e2,qx e2]
  exact tS (t:=phiT f b i) h hp
 ·have e1:lg f (insT f b i)=true:=by simp [lg,insT,fK];omega
  have e2:jF f (insT f b i)=false:=by
   show decide ((i:Int)=((nth f.blocks b).ins.length:Int))=false
   rw [decide_eq_false_iff_not];omega
  have e3:xQ f (insT f b i)=nth (nth f.blocks b).ins i:=by simp [xQ,fK,insT]
  rw [pY hi,eZ,e1,e2,qx e2,e3,insS,Ez]
  cases hb:kf (nth (nth f.blocks b).ins i) with
  | true=>exact rfl
  | false=>exact tS (t:=insT f b i) h hp
 ·have e1:lg f (endT f b)=false:=by simp [lg,endT,fK]
  have e2:jF f (endT f b)=true:=by simp [jF,endT,fK]
  have e3:fK f (endT f b)=nth f.blocks b:=by simp [fK,endT]
  rw [pH,eZ,e1,e2,e3,endS,AQ]
  cases hb:jw (nth f.blocks b).term with
  | false=>exact rfl
  | true=>
   have e4:((nth f.blocks b).term.to.all fun t=>bn t 1 ((f.blocks.length:Int)-1))=!(nth f.blocks b).term.to.any (sK f):=by
    rw [←zV];congr 1;funext n;exact DI
   rw [e4]
   show Alike qg _ (kB f (endT f b) (.ok l))
   unfold kB
   rw [e2,e3]
   cases (nth f.blocks b).term.to.any (sK f) with
   | true=>exact rfl
   | false=>exact h
theorem zh {f:ak} (hp:0≤f.params):Alike qg (kA f (fun _=>none)) (je f):=by
 rw [rC,kK]
 refine oH (fun t ht m l h=>As ht hp h) ⟨List.length_replicate ..,fun n h0 h1=>?_⟩
 rw [aq (by rw [List.length_replicate];omega),List.getElem_replicate];rfl
end Go.Proofs.Ytfelpjfopgiabaa
namespace Go.Proofs.Ytfelpjfopgiabaa
open Go Go.Lft
def yO (t:Th):Option (Int × Int):=if t.blk<0 then none else some (t.blk,t.place)
structure Site (m:MW) (s:List Th):Prop where
 len:s.length=8192
 inn : ∀ n:Int,0≤n→n<8192→m n=yO (nth s n.toNat)
 out : ∀ n:Int,¬(0≤n∧n<8192)→m n=none
theorem wO {t:Th} (hb:0≤t.blk) : ∀ {l:List Int} {m:MW} {s:List Th},Site m s→(∀ n∈l,0≤n∧n<8192)→Site (l.foldl (fun m n=>putM m n (t.blk,t.place)) m) (l.foldl (eB t) s)
 | [],m,s,h,_=>h
 | n::l,m,s,h,hl=>by
  rw [List.foldl_cons,List.foldl_cons]
  have hn:=hl n List.mem_cons_self
  refine wO hb ⟨lB.trans h.len,fun k h0 h1=>?_,fun k hk=>?_⟩ fun k hk=>hl k (List.mem_cons_of_mem _ hk)
  ·unfold eB putM
   rw [if_pos hn,aJ (by rw [h.len];omega)]
   by_cases e:k=n
   ·subst e;rw [if_pos rfl,if_pos rfl];unfold yO;rw [if_neg (by omega)]
   ·rw [if_neg e,if_neg (by omega)];exact h.inn k h0 h1
  ·unfold putM
   rw [if_neg (by rintro rfl;exact hk hn)];exact h.out k hk
theorem xa {b p:Int} : ∀ {l:List Int} {m m':MW},l.foldlM (nN b p) m = .ok m'→m'=l.foldl (fun m n=>putM m n (b,p)) m
 | [],m,m',h=>by cases h;rfl
 | n::l,m,m',h=>by
  rw [List.foldlM_cons] at h
  cases e:nN b p m n with
  | error t=>rw [e] at h;cases h
  | ok m1=>
   rw [e] at h
   unfold nN at e
   split at e
   ·cases e
   ·cases e;exact xa (l:=l) (m:=putM m n (b,p)) h
theorem xq {ps b p:Int} {l:List Int} {m m':MW} (h:allS ps l b p m = .ok m'):m'=l.foldl (fun m n=>putM m n (b,p)) m∧∀ n∈l,ps≤n∧n≤8191:=by
 unfold allS at h
 split at h
 ·rename_i ha
  refine ⟨xa h,fun n hn=>?_⟩
  have:=List.all_eq_true.1 ha n hn
  simpa [bn] using this
 ·cases h
theorem CF {f:ak} {t:Th} (ht:t∈ar f) {m m':MW} (h:jx f m t = .ok m'):(m'=t.mks.foldl (fun m n=>putM m n (t.blk,t.place)) m∧∀ n∈t.mks,f.params≤n∧n≤8191)∧0≤t.blk:=by
 obtain ⟨b,hb,ht⟩:=dh.1 ht
 rcases dC.1 ht with ⟨i,hi,rfl⟩ | ⟨i,hi,rfl⟩ | rfl
 ·rw [pT] at h
  exact ⟨xq h,by show 0≤(b:Int);omega⟩
 ·rw [pY hi] at h
  unfold insS at h
  split at h
  ·exact ⟨xq h,by show 0≤(b:Int);omega⟩
  ·cases h
 ·rw [pH] at h
  unfold endS at h
  split at h
  ·split at h
   ·cases h;exact ⟨⟨rfl,fun n hn=>by cases hn⟩,by show 0≤(b:Int);omega⟩
   ·cases h
  ·cases h
theorem tD {f:ak} (hp:0≤f.params) : ∀ {l:List Th},(∀ t∈l,t∈ar f)→∀ {m m':MW} {s:List Th},Site m s→l.foldlM (jx f) m = .ok m'→Site m' (l.foldl ou s)
 | [],_,m,m',s,h,e=>by cases e;exact h
 | t::l,hl,m,m',s,h,e=>by
  rw [List.foldlM_cons] at e
  cases e1:jx f m t with
  | error x=>rw [e1] at e;cases e
  | ok m1=>
   rw [e1] at e
   obtain ⟨⟨q1,q2⟩,q3⟩:=CF (hl t List.mem_cons_self) e1
   rw [List.foldl_cons]
   refine tD hp (fun t ht=>hl t (List.mem_cons_of_mem _ ht)) (m:=m1) ?_ e
   rw [q1]
   exact wO q3 h fun n hn=>by have:=q2 n hn;omega
theorem Bg {f:ak} (hp:0≤f.params) {m:MW} (h:kA f (fun _=>none) = .ok m):Site m (fW f):=by
 rw [rC] at h
 refine tD hp (fun t ht=>ht) ⟨List.length_replicate ..,fun n h0 h1=>?_,fun n _=>rfl⟩ h
 rw [aq (by rw [List.length_replicate];omega),List.getElem_replicate];rfl
theorem rX {f:ak} {m:MW} {made:List Th} {away:List BL} {idom:List Int} {v blk place at_ told:Int} (hp:f.params≤8192) (hs:Site m made) (hd : ∀ a:Int,0≤a→a<f.blocks.length→dA idom a blk=!nth (nth away a.toNat) blk.toNat)
  (hm : ∀ i,i<8192→(nth made i).blk<f.blocks.length):useS f.params m idom v blk place at_ told=if (!fE f made away v blk at_) then .error (13,told,place) else .ok ():=by
 unfold useS
 by_cases c1:0≤v∧v<f.params
 ·have e:fE f made away v blk at_=true:=by unfold fE;rw [if_pos c1]
  rw [if_pos c1,e];rfl
 rw [if_neg c1]
 by_cases c2:v<0∨8191<v
 ·have e:fE f made away v blk at_=false:=by unfold fE;rw [if_neg c1,if_pos (.inl c2)]
  rw [hs.out v (by omega),e];rfl
 have e:fE f made away v blk at_=if (nth made v.toNat).blk<0 then false else if (nth made v.toNat).blk=blk then decide ((nth made v.toNat).place<0)||decide ((nth made v.toNat).place<at_) else !nth (nth away (nth made v.toNat).blk.toNat) blk.toNat:=by
  unfold fE
  rw [if_neg c1]
  by_cases c3:(nth made v.toNat).blk<0
  ·rw [if_pos (.inr c3),if_pos c3]
  ·rw [if_neg (by rintro (q | q)<;>contradiction),if_neg c3]
 rw [hs.inn v (by omega) (by omega),e]
 have hmb:=hm v.toNat (by omega)
 generalize nth made v.toNat=t at hmb
 unfold yO
 by_cases c3:t.blk<0
 ·rw [if_pos c3,if_pos c3];rfl
 rw [if_neg c3,if_neg c3]
 have e2:jR (t.blk,t.place) idom blk at_=if t.blk=blk then decide (t.place<0)||decide (t.place<at_) else !nth (nth away t.blk.toNat) blk.toNat:=by
  unfold jR
  by_cases c4:t.blk=blk
  ·simp only [c4,decide_true,Bool.true_and,Bool.not_true,Bool.false_and,Bool.or_false,if_true]
   rw [Bool.or_comm]
  ·simp only [c4,decide_false,Bool.false_and,Bool.not_false,Bool.true_and,Bool.false_or,if_false]
   exact hd t.blk (by omega) hmb
 simp only [e2]
 generalize (if t.blk=blk then decide (t.place<0)||decide (t.place<at_) else !nth (nth away t.blk.toNat) blk.toNat)=B
 cases B<;>rfl
theorem sk {α:Type} [Inhabited α] {l:List α} {p:α→Bool} {e:Tr} {g:Nat→Except Tr Unit} (h : ∀ j,j<l.length→g j=if p (nth l j) then .error e else .ok ()):uAll g l.length=if l.any p then .error e else .ok ():=by
 have h1:uAll g l.length=l.foldlM (fun (_:Unit) x=>if p x then Except.error e else .ok ()) ():=by
  unfold uAll
  rw [←my (f:=fun (_:Unit) x=>if p x then Except.error e else .ok ())]
  have key : ∀ n,n≤l.length→upE (fun i (_:Unit)=>g i) n ()=upE (fun i (_:Unit)=>if p (nth l i) then Except.error e else .ok ()) n ():=by
   intro n
   induction n with
   | zero=>exact fun _=>rfl
   | succ n ih=>
    intro hn
    simp only [upE]
    rw [ih (by omega),h n (by omega)]
  exact key _ (Nat.le_refl _)
 rw [h1]
 clear h1 h
 induction l with
 | nil=>rfl
 | cons a l ih=>
  rw [List.foldlM_cons,List.any_cons]
  cases hp:p a with
  | true=>rfl
  | false=>rw [Bool.false_or];exact ih
theorem zi {β:Type} {p q:Nat→Bool} {x:Nat→β} {n:Nat} (h : ∀ a,a<n→p a=q a):sift p x n=sift q x n:=by
 rw [kF,kF]
 congr 1
 exact List.filter_congr fun a ha=>h a (List.mem_range.1 ha)
theorem yF {f:ak} {b:Nat} (hb:b<f.blocks.length):nth (cU (ofG f.blocks)) b=az f b:=by
 rw [wR,qb,iJ,eh hb,az]
 refine zi fun a ha=>?_
 rw [Bool.eq_iff_iff,iE,decide_eq_true_eq,Int.toNat_natCast]
 exact ⟨fun h=>h.2,fun h=>⟨by omega,h⟩⟩
theorem Al {f:ak} {b i:Nat} (hb:b<f.blocks.length):yl (nth (nth f.blocks b).phis i) (nth (cU (ofG f.blocks)) b) b=nP f (phiT f b i):=by
 have e1:nM f (phiT f b i)=nth (nth f.blocks b).phis i:=by
  unfold nM fK phiT
  simp only [Int.toNat_natCast]
  rw [show (-1-(-1-(i:Int))).toNat=i by omega]
 have e2:(phiT f b i).blk=(b:Int):=rfl
 unfold yl js nP
 rw [e1,e2,yF hb]
 generalize nth (nth f.blocks b).phis i=x
 generalize az f b=row
 rw [Bool.eq_iff_iff]
 simp only [Bool.and_eq_true,decide_eq_true_eq,zI,tR]
 constructor
 ·rintro ⟨⟨h1,h2⟩,h3⟩
  refine ⟨by omega,List.ext_getElem (by simp;omega) fun j hj hj2=>?_⟩
  have:=h3 j (by simpa using hj)
  rw [aq hj2,aq (by simpa using hj)] at this
  simpa using this
 ·rintro ⟨h1,h2⟩
  have hl:x.ins.length=row.length:=by rw [←h2,List.length_map]
  refine ⟨⟨by omega,by omega⟩,fun j hj=>?_⟩
  rw [←h2,aq (l:=List.map InD.frm x.ins) (by rw [List.length_map];exact hj),aq hj]
  simp
theorem tj {f:ak} : ∀ i,i<8192→(nth (fW f) i).blk<f.blocks.length:=fun i hi=>Bi (by omega) (fun t ht=>by
 obtain ⟨b,hb,ht⟩:=dh.1 ht
 rcases dC.1 ht with ⟨i,hi,rfl⟩ | ⟨i,hi,rfl⟩ | rfl
 ·show (b:Int)<_;omega
 ·show (b:Int)<_;omega
 ·show (b:Int)<_;omega) hi
section
variable {f:ak} {m:MW} {idom:List Int} (hp0:f.params≤8192) (hs:Site m (fW f)) (hd : ∀ a b:Int,0≤a→a<f.blocks.length→0≤b→b<f.blocks.length→dA idom a b=!nth (nth (fv f) a.toNat) b.toNat)
include hp0 hs hd
theorem EG {b i:Nat} (hb:b<f.blocks.length) (hi:i<(nth f.blocks b).phis.length):phiU f m idom (cU (ofG f.blocks)) b i=fG f (fW f) (fv f) (phiT f b i):=by
 have hf:=Al (f:=f) (i:=i) hb
 have e1:nM f (phiT f b i)=nth (nth f.blocks b).phis i:=by
  unfold nM fK phiT
  simp only [Int.toNat_natCast]
  rw [show (-1-(-1-(i:Int))).toNat=i by omega]
 have e3:fG f (fW f) (fv f) (phiT f b i)=if !nP f (phiT f b i) then .error (16,b,-1-i) else if (nth (nth f.blocks b).phis i).ins.any (stP f (fW f) (fv f)) then .error (13,b,-1-i) else .ok ():=by
  unfold fG
  rw [if_neg (show ¬0≤(phiT f b i).place by show ¬0≤-1-(i:Int);omega),e1]
  rfl
 rw [e3]
 unfold phiU
 simp only [hf]
 cases hss:nP f (phiT f b i) with
 | false=>rfl
 | true=>
  rw [if_pos rfl,if_neg (by simp)]
  refine sk fun j hj=>?_
  have hfr:0≤(nth (nth (nth f.blocks b).phis i).ins j).frm∧(nth (nth (nth f.blocks b).phis i).ins j).frm<f.blocks.length:=by
   unfold nP at hss
   rw [e1] at hss
   simp only [Bool.and_eq_true,decide_eq_true_eq] at hss
   have hm:=List.mem_map_of_mem (f:=InD.frm) (bS hj)
   rw [hss.2] at hm
   obtain ⟨a,h1,_,h2⟩:=ma.1 hm
   omega
  rw [rX hp0 hs (fun a h0 h1=>hd a _ h0 h1 hfr.1 hfr.2) tj]
  rfl
theorem DM {b i:Nat} (hb:b<f.blocks.length) (hi:i<(nth f.blocks b).ins.length):insU f m idom b i=fG f (fW f) (fv f) (insT f b i):=by
 have e3:fG f (fW f) (fv f) (insT f b i)=if (nth (nth f.blocks b).ins i).args.any (stT f (fW f) (fv f) (insT f b i)) then .error (13,b,i) else .ok ():=by
  unfold fG
  rw [if_pos (show 0≤(insT f b i).place by show 0≤(i:Int);omega)]
  rfl
 rw [e3]
 unfold insU
 refine sk fun j hj=>?_
 rw [rX hp0 hs (fun a h0 h1=>hd a _ h0 h1 (by omega) (by omega)) tj]
 rfl
theorem Ed {b:Nat} (hb:b<f.blocks.length):endU f m idom b=fG f (fW f) (fv f) (endT f b):=by
 have e3:fG f (fW f) (fv f) (endT f b)=if (nth f.blocks b).term.args.any (stT f (fW f) (fv f) (endT f b)) then .error (13,b,(nth f.blocks b).ins.length) else .ok ():=by
  unfold fG
  rw [if_pos (show 0≤(endT f b).place by show 0≤((nth f.blocks b).ins.length:Int);omega)]
  rfl
 rw [e3]
 unfold endU
 refine sk fun j hj=>?_
 rw [rX hp0 hs (fun a h0 h1=>hd a _ h0 h1 (by omega) (by omega)) tj]
 rfl
def stF (f:ak) (_:Unit) (t:Th):Except Tr Unit:=fG f (fW f) (fv f) t
theorem Du {b:Nat} (hb:b<f.blocks.length):blkU f m idom (cU (ofG f.blocks)) b=(thB f b).foldlM (stF f) ():=by
 unfold blkU thB uAll
 rw [lh (f:=stF f) (x:=phiT f b) (n:=(nth f.blocks b).phis.length) fun i s hi=>EG hp0 hs hd hb hi]
 rw [lh (f:=stF f) (x:=insT f b) (n:=(nth f.blocks b).ins.length) fun i s hi=>DM hp0 hs hd hb hi]
 rw [gT,gT,Ed hp0 hs hd hb]
 cases (rows (phiT f b) (nth f.blocks b).phis.length).foldlM (stF f) () with
 | error e=>rfl
 | ok m1=>
  obtain ⟨⟩:=m1
  cases hI:(rows (insT f b) (nth f.blocks b).ins.length).foldlM (stF f) () with
  | error e=>simp only [andE,hI]
  | ok m2=>
   simp only [andE,hI]
   rw [oA];rfl
theorem AG:uAll (blkU f m idom (cU (ofG f.blocks))) f.blocks.length=tJ f:=by
 have key : ∀ n,n≤f.blocks.length→uAll (blkU f m idom (cU (ofG f.blocks))) n=(thTo f n).foldlM (stF f) ():=by
  intro n
  induction n with
  | zero=>exact fun _=>rfl
  | succ n ih=>
   intro hn
   rw [ez,gT,←ih (by omega)]
   have e:uAll (blkU f m idom (cU (ofG f.blocks))) (n+1)=match uAll (blkU f m idom (cU (ofG f.blocks))) n with | .ok _=>blkU f m idom (cU (ofG f.blocks)) n | .error e=>.error e:=by
    show upE _ (n+1) ()=_
    simp only [upE]
    unfold uAll
    cases upE (fun i (_:Unit)=>blkU f m idom (cU (ofG f.blocks)) i) n ()<;>rfl
   rw [e]
   cases uAll (blkU f m idom (cU (ofG f.blocks))) n with
   | error e=>rfl
   | ok s=>exact Du hp0 hs hd (by omega)
 rw [key _ (Nat.le_refl _)]
 exact (my (f:=stF f)).symm
end
end Go.Proofs.Ytfelpjfopgiabaa
namespace Go.Proofs.Ytfelpjfopgiabaa
open Go Go.Lft
theorem tY {f:ak} : ∀ k,manyN f k=(lZ f k:Int)
 | 0=>rfl
 | k+1=>by
  have ih:=tY (f:=f) k
  unfold manyN at ih ⊢
  rw [up,ih,lZ];omega
theorem tG {σ ε:Type} {f g:Nat→σ→Except ε σ} {s:σ} : ∀ {n:Nat},(∀ i s,i<n→f i s=g i s)→upE f n s=upE g n s
 | 0,_=>rfl
 | n+1,h=>by
  simp only [upE]
  rw [tG (n:=n) fun i s hi=>h i s (by omega)]
  cases upE g n s with
  | ok s'=>exact h n s' (by omega)
  | error e=>rfl
theorem qQ {f:Nat→Unit→Except Tr Unit} : ∀ {n:Nat},upE f n () = .ok ()→∀ i,i<n→f i () = .ok ()
 | n+1,h,i,hi=>by
  simp only [upE] at h
  cases e:upE f n () with
  | error t=>rw [e] at h;cases h
  | ok s=>
   rw [e] at h
   rcases Nat.lt_or_ge i n with hlt | hge
   ·exact qQ e i hlt
   ·have:i=n:=by omega
    subst this;exact h
theorem BR {f:ak} (hn:0<f.blocks.length):uAll (pV f) f.blocks.length=wayE f:=by
 unfold uAll wayE
 refine tG fun b s hb=>?_
 unfold pV
 have e:decide ((b:Int)∈bc (ofG f.blocks))=nth (dF f (-1)) b:=by
  rw [Bool.eq_iff_iff,decide_eq_true_eq,(iD (by rw [iJ];exact hn)).mem,eL hb]
 rw [e]
theorem Ce {f:ak} (hn:0<f.blocks.length) (hw:wayE f = .ok ()) (a b:Int) (h0:0≤a) (h1:a<f.blocks.length) (h2:0≤b) (h3:b<f.blocks.length) :
  dA (nO (ofG f.blocks)) a b=!nth (nth (fv f) a.toNat) b.toNat:=by
 have hR : ∀ x:Nat,x<f.blocks.length→Re (ofG f.blocks) (-1) x:=fun x hx=>by
  have:=qQ hw x hx
  rw [←eL hx]
  split at this
  ·assumption
  ·cases this
 have hg:0<(ofG f.blocks).length:=by rw [iJ];exact hn
 obtain ⟨fp,C,l,hl,I⟩:=uC hg
 have hi:nO (ofG f.blocks)=l:=by unfold nO;rw [hl];rfl
 rw [hi]
 have e:=pB I C (a:=a.toNat) (b:=b.toNat) (by rw [iJ];omega) (hR _ (by omega))
 rw [Int.toNat_of_nonneg h0,Int.toNat_of_nonneg h2] at e
 rw [e,Bool.eq_iff_iff,mc]
 have ha:nth (fv f) a.toNat=dF f a:=by
  unfold fv
  rw [eh (by omega),Int.toNat_of_nonneg h0]
 rw [ha]
 have hr:=eL (f:=f) (wo:=a) (b:=b.toNat) (by omega)
 have haa:((a.toNat:Nat):Int)=a:=Int.toNat_of_nonneg h0
 rw [haa]
 cases hc:nth (dF f a) b.toNat with
 | true=>
  rw [hc] at hr
  simp [hr.1 rfl]
 | false=>
  rw [hc] at hr
  have hnr:¬Re (ofG f.blocks) a b.toNat:=fun h=>by have:=hr.2 h;cases this
  simp [hnr,hR _ (show a.toNat<f.blocks.length by omega),hR _ (show b.toNat<f.blocks.length by omega)]
theorem uH (f:ak):gI f=pb f:=by
 unfold gI jZ pb
 by_cases c1:f.params<0∨4<f.params
 ·have:bn f.params 0 4=false:=by rw [Bool.eq_false_iff];simp [bn];omega
  rw [if_pos this,if_pos c1]
 have hw4:¬bn f.params 0 4=false:=by simp [bn];omega
 rw [if_neg hw4,if_neg c1]
 by_cases c2:f.blocks.length=0
 ·rw [if_pos c2,if_pos c2]
 rw [if_neg c2,if_neg c2]
 have hm:zG f=(lZ f f.blocks.length:Int):=tY _
 by_cases c3:512<f.blocks.length∨4096<lZ f f.blocks.length
 ·rw [if_pos (by rw [hm];omega),if_pos c3]
 rw [if_neg (by rw [hm];omega),if_neg c3]
 have hp:0≤f.params:=by omega
 have hsh:=zh hp
 cases hS:kA f (fun _=>none) with
 | error e=>
  cases hR:je f with
  | ok l=>rw [hS,hR] at hsh;exact hsh.elim
  | error e'=>
   rw [hS,hR] at hsh
   have hee:e=e':=hsh
   subst hee
   obtain ⟨k,s',h1,_,h3⟩:=nz hR
   have:=(qC h3).1
   rw [if_pos (by show e.1≠0;omega)]
   rfl
 | ok m=>
  cases hR:je f with
  | error e'=>rw [hS,hR] at hsh;exact hsh.elim
  | ok l=>
   rw [if_neg (by simp [rY])]
   have hs:=Bg hp hS
   show (match oI f m (nO (ofG f.blocks)) with | .ok _=>((0,0,0):Tr) | .error t=>t)=_
   unfold oI
   rw [BR (by omega)]
   cases hW:wayE f with
   | error e=>rfl
   | ok s=>
    obtain ⟨⟩:=s
    have:=AG (f:=f) (m:=m) (idom:=nO (ofG f.blocks)) (by omega) hs fun a b h0 h1 h2 h3=>Ce (by omega) hW a b h0 h1 h2 h3
    show (match uAll (blkU f m (nO (ofG f.blocks)) (cU (ofG f.blocks))) f.blocks.length with | .ok _=>((0,0,0):Tr) | .error t=>t)=rY (tJ f)
    rw [this]
    cases tJ f<;>rfl
end Go.Proofs.Ytfelpjfopgiabaa
namespace Go.Proofs.Ytfelpjfopgiabaa
open Go Go.Lft
structure BlkR where
 phis:List PhiD
 ins:Raw
 term:dc
instance:Rep BlkR:=Rep.via fun d=>Cat.mk d.phis (Cat.mk d.ins d.term)
instance:Inhabited BlkR:=⟨⟨[],default,default⟩⟩
theorem nc {α β:Type} [Rep α] [Rep β] {H:View} {v:Value} {l:List α} {l2:List β} (h:SlRd H v l) (hn:Rep.n α=Rep.n β) (hl:l.length=l2.length) (hc : ∀ i (h1:i<l.length) (h2:i<l2.length) cs,Rep.rd H cs l[i]→Rep.rd H cs l2[i]):SlRd H v l2:=by
 obtain ⟨a,cap,rfl,h1,h2,h3⟩:=h
 refine ⟨a,cap,by rw [hl],by omega,by omega,?_⟩
 rcases h3 with rfl | ⟨ad,rfl,hs,hat⟩
 ·left;exact List.eq_nil_of_length_eq_zero (by rw [←hl];rfl)
 ·refine .inr ⟨ad,rfl,hs,fun i hi=>?_⟩
  obtain ⟨cs,g1,g2⟩:=hat i (by omega)
  rw [←hn]
  exact ⟨cs,g1,hc i (by omega) hi cs g2⟩
theorem G6 {x:Int} : ∃ r:Nat,Bn.ev (.bits .and) (.int .i64 x) (.int .i64 65535)=some (.int .i64 r)∧r<65536:=by
 refine ⟨(BitVec.ofInt 64 x&&& BitVec.ofInt 64 65535).toNat,?_,?_⟩
 ·have hlt:(BitVec.ofInt 64 x&&& BitVec.ofInt 64 65535).toNat≤65535:=by
   rw [BitVec.toNat_and]
   exact Nat.le_trans Nat.and_le_right (by decide)
  have e:Bn.ev (.bits .and) (.int .i64 x) (.int .i64 65535)=some (.int .i64 (IntKind.i64.wrap ((BitVec.ofInt 64 x&&& BitVec.ofInt 64 65535).toNat))):=rfl
  rw [e,cf (by omega) (by omega)]
 ·rw [BitVec.toNat_and]
  exact Nat.lt_of_le_of_lt Nat.and_le_right (by decide)
end Go.Proofs.Ytfelpjfopgiabaa
namespace Go.Lft
open Go
variable {po:OP}
theorem F9 {P:Program} {t ty:TypeId} {us:List (Nat × Value)} {h:Heap} {K:Value→Heap→Prop} {x:Operand} {n:Int} (hx:asg us x = .int .i64 n) (hk:K (.int .i64 (IntKind.i64.wrap (-n))) h):step P (.unOp .neg t x) ty us h K:=by
 refine dE (dq fun w hw=>⟨.int .i64 (IntKind.i64.wrap (-n)),w,?_,Same.refl _,by rw [hw];exact hk⟩)
 simp only [bZ,execOp,hx]
 simp [Op.unary,Op.intArith]
end Go.Lft
namespace Go.Proofs.Ytfelpjfopgiabaa
open Go Go.Lft
structure MS where
 at_:Nat
 ps:Int
 blocks:List BlkD
 next:Int
 live:List Int
def MS.took (m:MS):MS:={ m with at_:=m.at_+1 }
def MS.aI (m:MS):MS:={ m with next:=m.next+1 }
structure BlkM where
 phis:Raw
 ins:Raw
 term:dc
instance:Rep BlkM:=Rep.via fun d=>Cat.mk d.phis (Cat.mk d.ins d.term)
instance:Inhabited BlkM:=⟨⟨default,default,default⟩⟩
theorem BlkM.qf:Part BlkM Raw 0 BlkM.phis (fun d x=>{ d with phis:=x }):=(Part.fst Part.all).via (fun _=>rfl) fun _ _=>rfl
theorem BlkM.kD:Part BlkM Raw 1 BlkM.ins (fun d x=>{ d with ins:=x }):=(Part.snd (Part.fst Part.all)).via (fun _=>rfl) fun _ _=>rfl
theorem BlkM.pE:Part BlkM dc 2 BlkM.term (fun d x=>{ d with term:=x }):=(Part.snd (Part.snd Part.all)).via (fun _=>rfl) fun _ _=>rfl
theorem yc {H:View} {cs:List Value} {d:BlkM} {p:List PhiD} {i:List InsD} (h:Rep.rd H cs d) (hp:SlRd H d.phis.v p) (hi:SlRd H d.ins.v i):Rep.rd H cs (BlkD.mk p i d.term):=by
 obtain ⟨c1,r1,e1,⟨h1,_⟩,c2,r2,e2,⟨h2,_⟩,h3⟩:=h
 have h1:c1=[d.phis.v]:=h1
 have h2:c2=[d.ins.v]:=h2
 exact ⟨c1,r1,e1,⟨d.phis.v,h1,hp⟩,c2,r2,e2,⟨d.ins.v,h2,hi⟩,h3⟩
structure MkB (M:Nat) (vs:Value) (m:MS) (o:Own) (vb vl:Value) (lb:List BlkM):Prop where
 box:o (0,0)=bx T.aK M (RawN.mk (n:=5) (mkL vs m.at_ m.ps vb m.next vl))
 live:o (0,1)=it T.int vl m.live
 blk:o (0,2)=it T.ao vb lb
 len:lb.length=m.blocks.length
 term : ∀ i,i<m.blocks.length→(nth lb i).term=(nth m.blocks i).term
 phis : ∀ i,i<m.blocks.length→o (1,i)=it T.cj (nth lb i).phis.v (nth m.blocks i).phis
 ins : ∀ i,i<m.blocks.length→o (2,i)=it T.aW (nth lb i).ins.v (nth m.blocks i).ins
structure Mk (s:List Int) (M:Nat) (vs:Value) (W:View) (h:Heap) (o:Own) (m:MS):Prop where
 own:Owns W h o
 src:SlRd W vs s
 box : ∃ vb vl lb,MkB M vs m o vb vl lb
def Nx (s:List Int) (M:Nat) (vs:Value) (W:View) (h:Heap) (o:Own) (m:MS):Prop:=∃ W' o',W.le W'∧Mk s M vs W' h o' m∧∀ k:Key,3≤k.1→o' k=o k
variable {s:List Int} {M:Nat} {vs:Value} {W:View} {h:Heap} {o:Own} {m:MS}
theorem Mk.nx (w:Mk s M vs W h o m):Nx s M vs W h o m:=⟨W,o,View.le_refl _,w,fun _ _=>rfl⟩
theorem Nx.trans {W':View} {o':Own} (hW:W.le W') (ho : ∀ k:Key,3≤k.1→o' k=o k) (n:Nx s M vs W' h o' m):Nx s M vs W h o m:=by
 obtain ⟨W2,o2,h1,h2,h3⟩:=n
 exact ⟨W2,o2,View.le_trans hW h1,h2,fun k hk=>(h3 k hk).trans (ho k hk)⟩
theorem MkB.at {vb vl:Value} {lb:List BlkM} (b:MkB M vs m o vb vl lb) {at_:Nat} {next:Int}:MkB M vs { m with at_:=at_,next:=next } (o.upd (0,0) (bx T.aK M (RawN.mk (n:=5) (mkL vs at_ m.ps vb next vl)))) vb vl lb:=
 ⟨rfl,b.live,b.blk,b.len,b.term,fun i hi=>b.phis i hi,fun i hi=>b.ins i hi⟩
theorem kT {k:Key} {i:Option Lft.Item} (hk:k.1<3) : ∀ q:Key,3≤q.1→o.upd k i q=o q:=fun q hq=>Own.ab fun e=>by rw [e] at hq;omega
theorem bL {k:Key} {i j:Option Lft.Item} (q:Key):(o.upd k i).upd k j q=o.upd k j q:=by
 unfold Own.upd;split<;>rfl
theorem Mk.take (w:Mk s M vs W h o m) {n:Int} (h1:m.at_≤1000000000) (hn:0<n) (hn2:n≤1000000000) :
  aG Try.prog N.bP #[.pointer (some ⟨M,0,none⟩),.int .i64 n] h (fun u h'=>u = .int .i64 (aB s m.at_ n)∧∃ o',Mk s M vs W h' o' m.took∧∀ k:Key,3≤k.1→o' k=o k):=by
 obtain ⟨vb,vl,lb,b⟩:=w.box
 refine (Dt w.own b.box w.src h1 hn hn2).mono ?_
 rintro u h' ⟨rfl,w2⟩
 exact ⟨rfl,_,⟨w2,w.src,vb,vl,lb,b.at⟩,kT (by decide)⟩
theorem Mk.fresh (w:Mk s M vs W h o m) (h0:0≤m.next) (h1:m.next≤1000000000) :
  aG Try.prog N.bH #[.pointer (some ⟨M,0,none⟩)] h (fun u h'=>u = .int .i64 m.next∧∃ o',Mk s M vs W h' o' m.aI∧∀ k:Key,3≤k.1→o' k=o k):=by
 obtain ⟨vb,vl,lb,b⟩:=w.box
 refine (wE w.own b.box h0 h1).mono ?_
 rintro u h' ⟨rfl,w2,-⟩
 exact ⟨rfl,_,⟨w2,w.src,vb,vl,lb,b.at⟩,kT (by decide)⟩
theorem kH {x:Int}:-2147483648≤IntKind.i32.wrap x∧IntKind.i32.wrap x≤2147483647:=by
 rw [IntKind.wrap_i32];omega
def gN (s:List Int) (m:MS):Int:=
 if aB s (m.at_+1) 8=0 then IntKind.i32.wrap (IntKind.i64.wrap (aB s m.at_ 1048576*4099))
 else if aB s (m.at_+1) 8=1 then IntKind.i32.wrap (IntKind.i64.wrap (-aB s m.at_ 1048576))
 else if aB s (m.at_+1) 8=2 then -2147483648
 else if aB s (m.at_+1) 8=3 then IntKind.i32.wrap ((aB s m.at_ 1048576).tmod 70000)
 else IntKind.i32.wrap (IntKind.i64.wrap ((aB s m.at_ 1048576).tmod 20-4))
theorem mZ:-2147483648≤gN s m∧gN s m≤2147483647:=by
 unfold gN
 repeat' split
 all_goals first | exact kH | decide
theorem Mk.word (w:Mk s M vs W h o m) (h1:m.at_≤999999990) :
  aG Try.prog N.cC #[.pointer (some ⟨M,0,none⟩)] h (fun u h'=>u = .int .i32 (gN s m)∧∃ o',Mk s M vs W h' o' m.took.took∧∀ k:Key,3≤k.1→o' k=o k):=by
 refine ay (args:=[.pointer (some ⟨M,0,none⟩)]) follows F.cC E.cC (Nat.le_of_ble_eq_true (by kernel_rfl)) fun K hK=>?_
 dsimp only [L.cC]
 refine aa fun z hz=>?_
 simp
 rw [hz];clear hz z
 refine aa fun z hz=>?_
 simp
 refine aj (by kernel_rfl) (w.take (by omega) (n:=1048576) (by decide) (by decide)) ?_
 rintro _ h2 ⟨rfl,o2,w2,f2⟩
 rw [hz];clear hz z
 refine aa fun z hz=>?_
 simp
 refine aj (by kernel_rfl) (w2.take (show m.at_+1≤_ by omega) (n:=8) (by decide) (by decide)) ?_
 rintro _ h3 ⟨rfl,o3,w3,f3⟩
 have hx:m.took.at_=m.at_+1:=rfl
 rw [hx]
 have hf : ∀ k:Key,3≤k.1→o3 k=o k:=fun k hk=>(f3 k hk).trans (f2 k hk)
 have hwd:gN s m=_:=gN.eq_1 s m
 generalize gN s m=r at hwd hK
 generalize aB s (m.at_+1) 8=q at hwd
 generalize aB s m.at_ 1048576=x at hwd
 by_cases c0:q=0
 ·rw [if_pos c0] at hwd
  simp [c0]
  exact hK _ _ ⟨by rw [hwd],_,w3,hf⟩
 rw [if_neg c0] at hwd
 by_cases c1:q=1
 ·rw [if_pos c1] at hwd
  simp [c1]
  refine F9 rfl ?_
  simp
  exact hK _ _ ⟨by rw [hwd],_,w3,hf⟩
 rw [if_neg c1] at hwd
 by_cases c2:q=2
 ·rw [if_pos c2] at hwd
  simp [c2]
  exact hK _ _ ⟨by rw [hwd],_,w3,hf⟩
 rw [if_neg c2] at hwd
 by_cases c3:q=3
 ·rw [if_pos c3] at hwd
  simp [c3]
  exact hK _ _ ⟨by rw [hwd],_,w3,hf⟩
 rw [if_neg c3] at hwd
 simp [c0,c1,c2,c3]
 rw [hz];clear hz z
 simp
 exact hK _ _ ⟨by rw [hwd],_,w3,hf⟩
end Go.Proofs.Ytfelpjfopgiabaa
namespace Go.Proofs.Ytfelpjfopgiabaa
open Go Go.Lft
def MS.add (m:MS) (b:Nat) (i:InsD):MS:={ m with blocks:=m.blocks.set b { nth m.blocks b with ins:=(nth m.blocks b).ins++[i] },live:=m.live++aN i }
def conD (v:Int) (n:Int):InsD:=⟨1,v,0,[],⟨n⟩⟩
def MS.constant (m:MS) (b:Nat) (n:Int):MS:=m.aI.add b (conD m.next n)
def qz (s:List Int) (m:MS):Int:=nth m.live (if aB s (m.at_+1) 3=0 then m.live.length-1 else (aB s m.at_ m.live.length).toNat)
def zv (s:List Int) (m:MS) (b:Nat):MS:=(m.took.took).constant b (gN s m)
def aD (s:List Int) (m:MS) (b:Nat):Int × MS:=
 if m.live.length=0 then (m.next,zv s m b)
 else if aB s (m.at_+2) 9=0 then (m.next,zv s m.took.took.took b)
 else (qz s m,m.took.took.took)
def MS.two (m:MS) (b:Nat) (op x y:Int):MS:=m.aI.add b ⟨op,m.next,0,[x,y],⟨0⟩⟩
def binS (s:List Int) (m:MS) (b:Nat) (op:Int):MS:=
 let r1:=aD s m b
 let r2:=aD s r1.2 b
 if aB s r2.2.at_ 3=0 then
  (r2.2.took.took.constant b (IntKind.i32.wrap (IntKind.i64.wrap (aB s (r2.2.at_+1) 40-8)))).two b op r1.1 r2.2.next
 else r2.2.took.two b op r1.1 r2.1
def ltuS (s:List Int) (m:MS) (b:Nat):MS:=
 let r1:=aD s m b
 let r2:=aD s r1.2 b
 r2.2.two b 13 r1.1 r2.1
def divS (s:List Int) (m:MS) (b:Nat):MS:=
 let r1:=aD s m b
 let m2:=r1.2.took.constant b (IntKind.i32.wrap (aB s r1.2.at_ 12))
 if 0<aB s m2.at_ 3 then
  (m2.took.took.constant b (IntKind.i32.wrap (1+IntKind.i32.wrap (aB s (m2.at_+1) 12)))).two b 14 r1.1 m2.next
 else m2.took.two b 14 r1.1 r1.2.next
def oK (s:List Int) (m:MS) (b:Nat):MS:=
 let r1:=aD s m b
 let r2:=aD s r1.2 b
 r2.2.aI.aI.add b ⟨18,r2.2.next,r2.2.next+1,[r1.1,r2.1],⟨0⟩⟩
def eo (s:List Int) (b:Nat):Nat→List Int × MS→List Int × MS:=fun _ x=>(x.1++[(aD s x.2 b).1],(aD s x.2 b).2)
def kI (s:List Int) (m:MS) (b:Nat):MS:=
 let r:=up (eo s b) (aB s m.at_ 5).toNat ([],m.took)
 r.2.aI.took.add b ⟨17,r.2.next,0,r.1,⟨IntKind.i32.wrap (aB s r.2.at_ 5)⟩⟩
def gK (s:List Int) (m:MS) (b:Nat):Int × MS:=
 let m1:=m.took.constant b (IntKind.i32.wrap (aB s m.at_ 9))
 if aB s m1.at_ 3=0 then
  let r:=aD s m1.took b
  let m3:=(r.2.constant b 7).two b 5 r.1 r.2.next
  (m3.next,m3.two b 2 m.next (r.2.next+1))
 else (m.next,m1.took)
def offS (s:List Int) (m:MS):Int × MS:=
 if aB s (m.at_+1) 12=0 then (gN s m.took.took,m.took.took.took.took) else (IntKind.i32.wrap (aB s m.at_ 4),m.took.took)
def fV (s:List Int) (m:MS) (b:Nat) (store:Bool):MS:=
 let a:=gK s m b
 let i:=offS s a.2
 if store then (aD s i.2 b).2.add b ⟨16,0,0,[a.1,(aD s i.2 b).1],⟨i.1⟩⟩
 else i.2.aI.add b ⟨15,i.2.next,0,[a.1],⟨i.1⟩⟩
def opsL:List Int:=[2,2,3,4,5,6,7,8,9,10,12,11]
def aF (s:List Int) (b:Nat) (m:MS):MS:=
 let k:=aB s m.at_ 20
 if k<12 then binS s m.took b (nth opsL k.toNat)
 else if k=12 then ltuS s m.took b
 else if k=13 then divS s m.took b
 else if k<16 then fV s m.took b (decide (k=15))
 else if k=16 then kI s m.took b
 else if k=17 then oK s m.took b
 else m.took.took.took.constant b (gN s m.took)
end Go.Proofs.Ytfelpjfopgiabaa
namespace Go.Proofs.Ytfelpjfopgiabaa
open Go Go.Lft
theorem xZ {H:View} {b n:Nat} {cs:List Value} (hc:eI H ⟨b,0,none⟩ cs) (hl:cs.length=n):Un.ev H (.al n) (.pointer (some ⟨b,0,none⟩))=some (.agg cs.toArray):=by
 have:=fC hc n 0 #[] (by omega)
 simp only [Un.ev,vP,Option.bind_some]
 rw [this]
 simp [←hl]
theorem AK {H:View} {b n:Nat} {cs:Array Value} {t:TypeId} (hb:H b=some (.cells cs t (0,0))) (hl:cs.size=n):Un.ev H (.al n) (.pointer (some ⟨b,0,none⟩))=some (.agg cs):=by
 have:eI H ⟨b,0,none⟩ cs.toList:=⟨cs,t,(0,0),rfl,hb,by simp [List.take_of_length_le]⟩
 simpa using xZ this (by simpa using hl)
theorem MkB.Fp {s:List Int} {M:Nat} {vs:Value} {W:View} {h:Heap} {o:Own} {m:MS} {vb vl:Value} {lb:List BlkM} (w:Owns W h o) (b:MkB M vs m o vb vl lb) :
  ∃ X:View,W.le X∧X.le (vw h)∧(∀ i,i≤5→an X ⟨M,i,none⟩=some ((mkL vs m.at_ m.ps vb m.next vl).getD i undef))∧SlRd X vb lb∧Av X vl∧∀ i,i<m.blocks.length→Av X (nth lb i).phis.v∧Av X (nth lb i).ins.v:=by
 obtain ⟨w5,s5⟩:=w.freeze (k:=(0,0)) (v:=.slice (some ⟨M,0,none⟩) 1 1) (l:=[RawN.mk (n:=5) (mkL vs m.at_ m.ps vb m.next vl)]) b.box
 have hb2:o.upd (0,0) none (0,2)=it T.ao vb lb:=b.blk
 obtain ⟨w6,s6⟩:=w5.freeze (k:=(0,2)) (v:=vb) (l:=lb) hb2
 have s5:=s5.mono (dm (h:=h) (w5.av (0,2) _ hb2))
 refine ⟨_,View.le_trans (dm (h:=h) (w.av (0,0) _ b.box)) (dm (h:=h) (w5.av (0,2) _ hb2)),w6.wle,fun i hi=>?_,s6,w6.av (0,1) _ b.live,fun i hi=>⟨w6.av (1,i) _ (b.phis i hi),w6.av (2,i) _ (b.ins i hi)⟩⟩
 have:=((s5.at (i:=0) (by simp)).part (RawN.p (n:=5) (o:=i) hi)).raw
 simpa [slA] using this
variable {s:List Int} {M:Nat} {vs:Value} {W:View} {h:Heap} {o:Own} {m:MS}
theorem MkB.cell {vb vl:Value} {lb:List BlkM} (w:Owns W h o) (b:MkB M vs m o vb vl lb) {i:Nat} (hi:i≤5):an (vw h) ⟨M,i,none⟩=some ((mkL vs m.at_ m.ps vb m.next vl).getD i undef):=w.raw b.box hi
theorem MkB.aT {vb vl:Value} {lb:List BlkM} (bb:MkB M vs m o vb vl lb) {b:Nat} (hb:b<m.blocks.length) {x':BlkD} {y':BlkM} {o':Own} (hy:y'.term=x'.term) (h02:o' (0,2)=it T.ao vb (lb.set b y')) (h1:o' (1,b)=it T.cj y'.phis.v x'.phis) (h2:o' (2,b)=it T.aW y'.ins.v x'.ins)
  (ho : ∀ q:Key,q≠(0,2)→q≠(1,b)→q≠(2,b)→o' q=o q):MkB M vs { m with blocks:=m.blocks.set b x' } o' vb vl (lb.set b y'):=by
 have hbl:b<lb.length:=by rw [bb.len];exact hb
 refine ⟨(ho _ (by simp) (by simp) (by simp)).trans bb.box,(ho _ (by simp) (by simp) (by simp)).trans bb.live,h02,by simp [bb.len],fun j hj=>?_,fun j hj=>?_,fun j hj=>?_⟩
 all_goals
  have hj:j<m.blocks.length:=by simpa using hj
  have hjl:j<lb.length:=by rw [bb.len];exact hj
  show _=_
  simp only [aJ hj,aJ hjl]
  by_cases e:b=j
  ·subst e
   simp only [if_true]
   assumption
  ·simp only [if_neg e]
   first
    | exact bb.term j hj
    | exact (ho _ (by simp) (fun q=>e (by injection q with _ q;exact q.symm)) (by simp)).trans (bb.phis j hj)
    | exact (ho _ (by simp) (by simp) (fun q=>e (by injection q with _ q;exact q.symm))).trans (bb.ins j hj)
theorem Mk.value (w:Mk s M vs W h o m) (h1:m.at_≤999999990) (hl:m.live.length≤1000000000) :
  aG Try.prog N.cI #[.pointer (some ⟨M,0,none⟩)] h (fun u h'=>(m.live.length=0∧u = .tuple #[.int .i64 0,.bool false]∧h'=h)∨(m.live.length≠0∧u = .tuple #[.int .i64 (qz s m),.bool true]∧I64 (qz s m)∧∃ o',Mk s M vs W h' o' m.took.took∧∀ k:Key,3≤k.1→o' k=o k)):=by
 refine ay (args:=[.pointer (some ⟨M,0,none⟩)]) follows F.cI E.cI (Nat.le_of_ble_eq_true (by kernel_rfl)) fun K hK=>?_
 obtain ⟨vb,vl,lb,b⟩:=w.box
 have c5:an (vw h) ⟨M,5,none⟩=some vl:=b.cell w.own (i:=5) (by decide)
 have hsl:=w.own.now b.live
 dsimp only [L.cI]
 refine aa fun z hz=>?_
 simp
 rw [hz];clear hz z
 refine aa fun z hz=>?_
 by_cases h0:m.live.length=0
 ·have h0':m.live=[]:=List.eq_nil_of_length_eq_zero h0
  simp [c5,hsl.len,h0]
  exact hK _ _ (.inl ⟨h0,rfl,rfl⟩)
 ·have h0':¬(m.live=[]):=fun e=>h0 (by rw [e];rfl)
  simp [c5,hsl.len,h0']
  rw [hz];clear hz z
  refine aa fun z hz=>?_
  simp [c5,hsl.len]
  refine aj (by kernel_rfl) (w.take (by omega) (n:=(m.live.length:Int)) (by omega) (by omega)) ?_
  rintro _ h2 ⟨rfl,o2,w2,f2⟩
  rw [hz];clear hz z
  refine aa fun z hz=>?_
  simp
  refine aj (by kernel_rfl) (w2.take (show m.at_+1≤_ by omega) (n:=3) (by decide) (by decide)) ?_
  rintro _ h3 ⟨rfl,o3,w3,f3⟩
  have hx:m.took.at_=m.at_+1:=rfl
  rw [hx]
  have hf : ∀ k:Key,3≤k.1→o3 k=o k:=fun k hk=>(f3 k hk).trans (f2 k hk)
  have hv:qz s m=_:=qz.eq_1 s m
  obtain ⟨vb3,vl3,lb3,b3⟩:=w3.box
  have c53:an (vw h3) ⟨M,5,none⟩=some vl3:=b3.cell w3.own (i:=5) (by decide)
  have hsl3:SlRd (vw h3) vl3 m.live:=w3.own.now b3.live
  obtain ⟨r0,r1⟩:=aY (s:=s) (at_:=m.at_) (n:=(m.live.length:Int)) (by omega)
  generalize aB s m.at_ m.live.length=x at hv r0 r1
  generalize aB s (m.at_+1) 3=q at hv
  obtain ⟨i,hi,hvi,hii⟩ : ∃ i:Nat,i<m.live.length∧qz s m=nth m.live i∧(i:Int)=if q=0 then (m.live.length:Int)-1 else x:=by
   by_cases c:q=0
   ·rw [if_pos c] at hv ⊢
    exact ⟨m.live.length-1,by omega,hv,by omega⟩
   ·rw [if_neg c] at hv ⊢
    exact ⟨x.toNat,by omega,hv,by omega⟩
  have h64:IntKind.i64.wrap ((m.live.length:Int)-1)=(m.live.length:Int)-1:=cf (by omega) (by omega)
  have fin : ∀ ρ:Env,ρ=[(0,.pointer (some ⟨M,0,none⟩)),(2,.int .i64 0),(3,.bool false),(4,.int .i64 i),(17,.int .i64 x),(19,.int .i64 q)]→LC.wp Try.prog z (dJ [.tmp 2,.tmp 3] K) ρ h3:=by
   rintro _ rfl
   rw [hz];clear hz z
   refine aa fun z hz=>?_
   simp (disch:=omega) [c53,hsl3.idx1 rfl,hsl3.int (View.le_refl _)]
   rw [hz];clear hz z
   simp
   exact hK _ _ (.inr ⟨h0,by rw [hvi],by rw [hvi];exact hsl3.range hi,o3,w3,hf⟩)
  by_cases c:q=0
  ·rw [if_pos c] at hii
   simp [c,c53,hsl3.len,h64]
   refine fin _ ?_
   rw [hii,c]
  ·rw [if_neg c] at hii
   simp [c]
   refine fin _ ?_
   rw [hii]
theorem Mk.add (w:Mk s M vs W h o m) {b:Nat} {i:InsD} {v:Value} (hb:b<m.blocks.length) (hi:Rd W v i) (hn:(nth m.blocks b).ins.length≤100000000) (hl:m.live.length≤100000000) :
    aG Try.prog N.cS #[.pointer (some ⟨M,0,none⟩),.int .i64 b,v] h (fun u h'=>Nx s M vs W h' o (m.add b i)):=by
  refine ay (args:=[.pointer (some ⟨M,0,none⟩),.int .i64 b,v]) follows F.cS E.cS (Nat.le_of_ble_eq_true (by kernel_rfl)) fun K hK=>?_
  obtain ⟨vb,vl,lb,bb⟩:=w.box
  obtain ⟨va,rfl,hir,hia⟩:=qV hi
  dsimp only [L.cS]
  refine aa fun z hz=>?_
  simp
  refine eJ rfl (hi.mono w.own.wle) fun h1 e1 hle1 hs1 hat=>?_
  have w1:=w.own.ext hle1
  have hbx:(grow W h h1) h.size=some (.cells #[.int .i64 i.op,.int .i64 i.dst,.int .i64 i.two,va,.int .i32 i.imm.v] T.aW (0,0)):=by
    rw [cQ (Nat.le_refl _),e1];simp [Value.cells]
  have hi1:=hi.mono (aX (h':=h1) w.own.wle)
  have src1:=w.src.mono (aX (h':=h1) w.own.wle)
  have hW1:=aX (h':=h1) w.own.wle
  clear hat e1
  have hld:=AK hbx (n:=5) rfl
  generalize grow W h h1=W1 at w1 hld hi1 src1 hW1
  generalize h.size=B at hld
  rw [hz];clear hz z
  refine aa fun z hz=>?_
  obtain ⟨X,hWX,hX,cX,sX,avl,avX⟩:=bb.Fp (s:=s) w1
  have c3:an X ⟨M,3,none⟩=some vb:=cX 3 (by decide)
  have hbl:b<lb.length:=by rw [bb.len];exact hb
  have a1:=(sX.at hbl).part BlkM.kD
  have hsv:=sX.bound
  have a2:an X (((slA vb).add (b*6)).add 1)=some (nth lb b).ins.v:=by rw [aq hbl];exact a1.raw
  have hldX:Un.ev X (.al 5) (.pointer (some ⟨B,0,none⟩))=some (.agg #[.int .i64 i.op,.int .i64 i.dst,.int .i64 i.two,va,.int .i32 i.imm.v]):=by
    have:=cw (ρ:=fun _=>none) (e:=.un (.al 5) (.con (.pointer (some ⟨B,0,none⟩)))) hWX (by simpa using hld)
    simpa using this
  refine bO X hX ?_
  simp (disch:=omega) [c3,sX.idxn (N:=6) rfl,a2,hldX]
  refine j9 (α:=InsD) (W:=W1) (d:=i) El.eA rfl hi1 fun u5 h5 src hle5 hs5=>⟨View.le_trans hX hle5,?_⟩
  refine (w1.ext' hle5).bu (k:=(2,b)) (α:=InsD) (v:=(nth lb b).ins.v) (l:=(nth m.blocks b).ins) (l2:=[i]) (bb.ins b hb) El.eA rfl rfl src (by simp;omega) (by simp;omega) fun v6 h6 w6 m6=>⟨(m6.view (View.le_trans hX hle5) (avX b hb).2).1,?_⟩
  have hv6:=(w6.cells (k:=(2,b)) Own.ag).2
  refine w6.gw (k:=(0,2)) (α:=BlkM) BlkM.kD (v:=vb) (l:=lb) (i:=b) (d:=⟨v6⟩) bb.blk (by kernel_rfl) rfl rfl hbl (kP.2 ⟨rfl,hv6⟩) fun h7 w7 _=>?_
  have b7:=bb.aT hb (x':={ nth m.blocks b with ins:=(nth m.blocks b).ins++[i] }) (y':={ lb[b] with ins:=⟨v6⟩ }) (o':=(o.upd (2,b) (it T.aW v6 ((nth m.blocks b).ins++[i]))).upd (0,2) (it T.ao vb (lb.set b { lb[b] with ins:=⟨v6⟩ }))) (by rw [←bb.term b hb,aq hbl]) Own.ag (by rw [←aq hbl];exact bb.phis b hb) ((Own.ab (by simp)).trans Own.ag) (fun q h1 h2 h3=>by rw [Own.ab h1,Own.ab h3])
  generalize hm7:({ m with blocks:=m.blocks.set b { nth m.blocks b with ins:=(nth m.blocks b).ins++[i] } }:MS)=m7 at b7
  have hadd:m.add b i={ m7 with live:=m.live++aN i }:=by rw [←hm7];rfl
  have hl7:m7.live=m.live:=by rw [←hm7]
  have hf7 : ∀ k:Key,3≤k.1→((o.upd (2,b) (it T.aW v6 ((nth m.blocks b).ins++[i]))).upd (0,2) (it T.ao vb (lb.set b { lb[b] with ins:=⟨v6⟩ }))) k=o k:=fun k hk=>by
    rw [Own.ab (by rintro rfl;simp at hk),Own.ab (by rintro rfl;simp at hk)]
  generalize (o.upd (2,b) (it T.aW v6 ((nth m.blocks b).ins++[i]))).upd (0,2) (it T.ao vb (lb.set b { lb[b] with ins:=⟨v6⟩ }))=o7 at w7 b7 hf7
  generalize lb.set b { lb[b] with ins:=⟨v6⟩ }=lb7 at b7
  clear src avX m6
  rw [hz];clear hz z
  refine aa fun z hz=>?_
  have hld7:Un.ev (vw h7) (.al 5) (.pointer (some ⟨B,0,none⟩))=some (.agg #[.int .i64 i.op,.int .i64 i.dst,.int .i64 i.two,va,.int .i32 i.imm.v]):=by
    have:=cw (ρ:=fun _=>none) (e:=.un (.al 5) (.con (.pointer (some ⟨B,0,none⟩)))) w7.wle (by simpa using hld)
    simpa using this
  simp [hld7]
  refine aj (by kernel_rfl) (mS (hi1.mono w7.wle)) ?_
  rintro u8 h8 ⟨hle8,hu8,-⟩
  have w8:=w7.ext hle8
  have hu8:SlRd (grow W1 h7 h8) u8 (aN i):=hu8.mono (sS (Nat.le_refl _) (View.le_refl _))
  have hW8:=aX (h':=h8) w7.wle
  generalize grow W1 h7 h8=W8 at w8 hu8 hW8
  rw [hz];clear hz z
  have c58:an (vw h8) ⟨M,5,none⟩=some vl:=b7.cell w8 (i:=5) (by decide)
  have hmk:(aN i).length≤2:=by
                                         unfold aN;repeat' split
                                         all_goals simp
  simp [c58]
  refine w8.bu (k:=(0,1)) (α:=Int) (v:=vl) (l:=m.live) (l2:=aN i) (by rw [←hl7];exact b7.live) El.aP rfl rfl (hu8.src w8.wle) (by omega) (by omega) fun v9 h9 w9 m9=>?_
  have hv9:=(w9.cells (k:=(0,1)) Own.ag).2
  have hbx9:(o7.upd (0,1) (it T.int v9 (m.live++aN i))) (0,0)=bx T.aK M (RawN.mk (n:=5) (mkL vs m7.at_ m7.ps vb m7.next vl)):=b7.box
  refine w9.bs (k:=(0,0)) (n:=5) (i:=5) (e:=T.aK) (B:=M) (l:=mkL vs m7.at_ m7.ps vb m7.next vl) hbx9 (by decide) (by kernel_rfl) rfl rfl hv9 fun h10 w10 _=>?_
  refine hK _ _ ⟨W8,_,View.le_trans hW1 hW8,⟨w10,src1.mono hW8,vb,v9,lb7,?_⟩,fun k hk=>?_⟩
  · rw [hadd]
    exact ⟨rfl,rfl,b7.blk,b7.len,b7.term,b7.phis,b7.ins⟩
  · rw [Own.ab (by rintro rfl;simp at hk),Own.ab (by rintro rfl;simp at hk)]
    exact hf7 k hk
end Go.Proofs.Ytfelpjfopgiabaa
namespace Go.Proofs.Ytfelpjfopgiabaa
open Go Go.Lft
structure MS.ok (c:Nat) (m:MS):Prop where
 at_:m.at_≤c
 n0:0≤m.next
 next:m.next≤c
 live:m.live.length≤c
 ins : ∀ i,(nth m.blocks i).ins.length≤c
theorem MS.ok.mono {c d:Nat} {m:MS} (h:m.ok c) (hd:c≤d):m.ok d:=
 ⟨by have:=h.at_;omega,h.n0,by have:=h.next;omega,by have:=h.live;omega,fun i=>by have:=h.ins i;omega⟩
theorem MS.ok.took {c:Nat} {m:MS} (h:m.ok c):m.took.ok (c+1):=
 ⟨by have:=h.at_;show m.at_+1≤_;omega,h.n0,by have:=h.next;show m.next≤_;omega,by have:=h.live;show m.live.length≤_;omega,fun i=>by have:=h.ins i;show (nth m.blocks i).ins.length≤_;omega⟩
theorem MS.ok.aI {c:Nat} {m:MS} (h:m.ok c):m.aI.ok (c+1):=
 ⟨by have:=h.at_;show m.at_≤_;omega,by have:=h.n0;show 0≤m.next+1;omega,by have:=h.next;show m.next+1≤_;omega,by have:=h.live;show m.live.length≤_;omega,fun i=>by have:=h.ins i;show (nth m.blocks i).ins.length≤_;omega⟩
theorem AE {i:InsD}:(aN i).length≤2:=by
 unfold aN
 repeat' split
 all_goals simp
theorem MS.ok.add {c b:Nat} {m:MS} {i:InsD} (h:m.ok c):(m.add b i).ok (c+2):=by
 refine ⟨by have:=h.at_;show m.at_≤_;omega,h.n0,by have:=h.next;show m.next≤_;omega,?_,fun j=>?_⟩
 ·have:=h.live
  have:=AE (i:=i)
  show (m.live++aN i).length≤_
  rw [List.length_append];omega
 ·show (nth (m.blocks.set b _) j).ins.length≤_
  have hj:=h.ins j
  rcases Nat.lt_or_ge j m.blocks.length with hl | hl
  ·rw [aJ hl]
   split
   ·rename_i e
    subst e
    rw [List.length_append,List.length_singleton];omega
   ·omega
  ·rw [aV (by simpa using hl)]
   rw [aV hl] at hj;omega
theorem MS.ok.constant {c b:Nat} {m:MS} {n:Int} (h:m.ok c):(m.constant b n).ok (c+3):=h.aI.add
theorem MS.ok.two {c b:Nat} {m:MS} {op x y:Int} (h:m.ok c):(m.two b op x y).ok (c+3):=h.aI.add
variable {s:List Int} {M:Nat} {vs:Value} {W:View} {h:Heap} {o:Own} {m:MS}
theorem MS.ok.aD {c b:Nat} (h:m.ok c):(aD s m b).2.ok (c+10):=by
 unfold Go.Proofs.Ytfelpjfopgiabaa.aD
 repeat' split
 ·exact (h.took.took.constant).mono (by omega)
 ·exact (h.took.took.took.took.took.constant).mono (by omega)
 ·exact (h.took.took.took).mono (by omega)
theorem jq {b:Nat} {i:InsD}:(m.add b i).blocks.length=m.blocks.length:=by simp [MS.add]
theorem dg {b:Nat}:(aD s m b).2.blocks.length=m.blocks.length:=by
 unfold aD
 repeat' split
 all_goals simp [zv,MS.constant,jq,MS.took,MS.aI]
theorem Mk.constant (w:Mk s M vs W h o m) {b c:Nat} {n:Int} (hb:b<m.blocks.length) (hm:m.ok c) (hc:c≤1000000) (hn:-2147483648≤n∧n≤2147483647) :
  aG Try.prog N.bC #[.pointer (some ⟨M,0,none⟩),.int .i64 b,.int .i32 n] h (fun u h'=>u = .int .i64 m.next∧Nx s M vs W h' o (m.constant b n)):=by
 refine ay (args:=[.pointer (some ⟨M,0,none⟩),.int .i64 b,.int .i32 n]) follows F.bC E.bC (Nat.le_of_ble_eq_true (by kernel_rfl)) fun K hK=>?_
 have q1:=hm.next
 have q0:=hm.n0
 dsimp only [L.bC]
 refine aa fun z hz=>?_
 simp
 rw [hz];clear hz z
 refine aa fun z hz=>?_
 simp
 refine aj (by kernel_rfl) (w.fresh q0 (by omega)) ?_
 rintro _ h2 ⟨rfl,o2,w2,f2⟩
 rw [hz];clear hz z
 refine aa fun z hz=>?_
 simp
 refine aL (z:=.agg #[.int .i64 0,.int .i64 0,.int .i64 0,.slice none 0 0,.int .i32 0]) (places:=[(0,1),(1,1),(2,1),(3,1),(4,1)]) (vs:=[(0,.int .i64 1),(1,.int .i64 m.next),(4,.int .i32 n)]) (cs:=#[.int .i64 1,.int .i64 m.next,.int .i64 0,.slice none 0 0,.int .i32 n]) (by kernel_rfl) (by kernel_rfl) (by simp) (by rfl) ?_
 have hm2:=hm.aI
 refine aj (by kernel_rfl) (w2.add (i:=conD m.next n) hb (ju (imm:=⟨n⟩) ⟨⟨by decide,by decide⟩,⟨by omega,by omega⟩,⟨by decide,by decide⟩,hn⟩ dM) (by have:=hm2.ins b;omega) (by have:=hm2.live;omega)) ?_
 rintro u3 h3 n3
 rw [hz];clear hz z
 simp
 exact hK _ _ ⟨rfl,n3.trans (View.le_refl _) f2⟩
theorem z6 (w:Mk s M vs W h o m) {b c:Nat} (hb:b<m.blocks.length) (hm:m.ok c) (hc:c≤999990) :
  aG Try.prog N.cE #[.pointer (some ⟨M,0,none⟩),.int .i64 b] h (fun u h'=>u = .int .i64 (aD s m b).1∧I64 (aD s m b).1∧Nx s M vs W h' o (aD s m b).2):=by
 refine ay (args:=[.pointer (some ⟨M,0,none⟩),.int .i64 b]) follows F.cE E.cE (Nat.le_of_ble_eq_true (by kernel_rfl)) fun K hK=>?_
 have qa:=hm.at_
 have ql:=hm.live
 have hsd:aD s m b=_:=aD.eq_1 s m b
 dsimp only [L.cE]
 refine aa fun z hz=>?_
 simp
 rw [hz];clear hz z
 refine aa fun z hz=>?_
 simp
 refine aj (by kernel_rfl) (w.value (by omega) (by omega)) ?_
 rintro u h2 hu
 have con : ∀ {m2:MS} {o2:Own} {h2:Heap} {ρ:Env} {z:LC},Mk s M vs W h2 o2 m2→(∀ k:Key,3≤k.1→o2 k=o k)→m2.ok (c+3)→b<m2.blocks.length→aD s m b=(m2.next,zv s m2 b)→Lft.look ρ 0=some (.pointer (some ⟨M,0,none⟩))→Lft.look ρ 1=some (.int .i64 b)→
   LC.wp Try.prog (.seq (.reg false (.loud [19,20,21] [(19,(.tmp 0)),(20,(.tmp 1))] [(21,(.tmp 0))] none [] false (.call ⟨.value (.func 58),#[(.tmp 21)],#[72]⟩) 21 (some 22) true
   (.loud [] [] [(19,(.tmp 19)),(20,(.tmp 20)),(22,(.tmp 22))] none [] false (.call ⟨.value (.func 57),#[(.tmp 19),(.tmp 20),(.tmp 22)],#[72,3,21]⟩) 3 (some 23) true
    (.fin [4] [(4,(.tmp 23))] [])))) .ret) (eS (LC.wp Try.prog z (dJ [.tmp 4] K)) (dJ [.tmp 4] K)) ρ h2:=by
  intro m2 o2 h2 ρ z w2 f2 k2 b2 e2 r0 r1
  refine aa fun y hy=>?_
  simp [r0,r1]
  refine aj (by kernel_rfl) (w2.word (by have:=k2.at_;omega)) ?_
  rintro _ h3 ⟨rfl,o3,w3,f3⟩
  simp [ae,af,r0,r1]
  refine aj (by kernel_rfl) (w3.constant (n:=gN s m2) b2 k2.took.took (by omega) mZ) ?_
  rintro _ h4 ⟨rfl,n4⟩
  rw [hy];clear hy y
  simp [ae,af]
  refine hK _ _ ⟨by rw [e2];rfl,by rw [e2];have:=k2.n0;have:=k2.next;exact ⟨by show _≤m2.next;omega,by show m2.next≤_;omega⟩,?_⟩
  rw [e2]
  exact n4.trans (View.le_refl _) fun k hk=>(f3 k hk).trans (f2 k hk)
 rcases hu with ⟨h0,rfl,rfl⟩ | ⟨h0,rfl,hi64,o2,w2,f2⟩
 ·rw [if_pos h0] at hsd
  simp
  rw [hz];clear hz z
  refine aa fun z hz=>?_
  refine aa fun y hy=>?_
  simp
  rw [hy];clear hy y
  refine aA (by simp) ?_
  exact con w (fun _ _=>rfl) (hm.mono (by omega)) hb hsd (by simp [ae,af]) (by simp [ae,af])
 ·rw [if_neg h0] at hsd
  simp
  rw [hz];clear hz z
  refine aa fun z hz=>?_
  refine aa fun y hy=>?_
  simp
  have k2:=hm.took.took
  refine aj (by kernel_rfl) (w2.take (by have:=k2.at_;omega) (n:=9) (by decide) (by decide)) ?_
  rintro _ h3 ⟨rfl,o3,w3,f3⟩
  have hx:m.took.took.at_=m.at_+2:=rfl
  rw [hx]
  simp
  rw [hy];clear hy y
  by_cases c9:aB s (m.at_+2) 9=0
  ·rw [if_pos c9] at hsd
   refine aA (by simp [c9]) ?_
   exact con w3 (fun k hk=>(f3 k hk).trans (f2 k hk)) k2.took hb hsd (by simp [ae,af]) (by simp [ae,af])
  ·rw [if_neg c9] at hsd
   refine ax (by simp [c9]) ?_
   simp
   rw [hz];clear hz z
   simp
   refine hK _ _ ⟨by rw [hsd],by rw [hsd];exact hi64,?_⟩
   rw [hsd]
   exact w3.nx.trans (View.le_refl _) fun k hk=>(f3 k hk).trans (f2 k hk)
end Go.Proofs.Ytfelpjfopgiabaa
namespace Go.Proofs.Ytfelpjfopgiabaa
open Go Go.Lft
def Nz (s:List Int) (M:Nat) (vs:Value) (W0:View) (h:Heap) (o0:Own) (m:MS) (u:Value) (ds:List Int):Prop:=∃ W o,W0.le W∧Mk s M vs W h o m∧(∀ k:Key,3≤k.1→o k=o0 k)∧SlRd W u ds
section
variable {s:List Int} {M:Nat} {vs:Value} {W0:View} {h:Heap} {o0:Own} {m:MS} {u:Value} {ds:List Int}
theorem Nx.z (n:Nx s M vs W0 h o0 m):Nz s M vs W0 h o0 m (.slice none 0 0) []:=by
 obtain ⟨W,o,h1,h2,h3⟩:=n
 exact ⟨W,o,h1,h2,h3,dM⟩
theorem Nz.x (n:Nz s M vs W0 h o0 m u ds):Nx s M vs W0 h o0 m:=by
 obtain ⟨W,o,h1,h2,h3,_⟩:=n
 exact ⟨W,o,h1,h2,h3⟩
theorem Nz.call {f:FuncId} {args:Array Value} {m':MS} {U:Value→Prop} (hc : ∀ {W o},Mk s M vs W h o m→aG Try.prog f args h (fun u h'=>U u∧Nx s M vs W h' o m')) (n:Nz s M vs W0 h o0 m u ds) :
  aG Try.prog f args h (fun v h'=>U v∧Nz s M vs W0 h' o0 m' u ds):=by
 obtain ⟨W,o,h1,h2,h3,h4⟩:=n
 refine (hc h2).mono ?_
 rintro v h' ⟨hU,W',o',g1,g2,g3⟩
 exact ⟨hU,W',o',View.le_trans h1 g1,g2,fun k hk=>(g3 k hk).trans (h3 k hk),h4.mono g1⟩
theorem dR (n:Nz s M vs W0 h o0 m u ds) {c:Nat} (hm:m.ok c) (hc:c≤1000000) {k:Int} (hk:0<k) (hk2:k≤1000000000) :
  aG Try.prog N.bP #[.pointer (some ⟨M,0,none⟩),.int .i64 k] h (fun v h'=>v = .int .i64 (aB s m.at_ k)∧Nz s M vs W0 h' o0 m.took u ds):=
 n.call (U:=fun v=>v=_) fun w=>((w.take (by have:=hm.at_;omega) hk hk2).mono fun v h' ⟨e,o',w',f'⟩=>⟨e,w'.nx.trans (View.le_refl _) f'⟩)
theorem fL (n:Nz s M vs W0 h o0 m u ds) {c:Nat} (hm:m.ok c) (hc:c≤1000000) :
  aG Try.prog N.bH #[.pointer (some ⟨M,0,none⟩)] h (fun v h'=>v = .int .i64 m.next∧Nz s M vs W0 h' o0 m.aI u ds):=
 n.call (U:=fun v=>v=_) fun w=>((w.fresh hm.n0 (by have:=hm.next;omega)).mono fun v h' ⟨e,o',w',f'⟩=>⟨e,w'.nx.trans (View.le_refl _) f'⟩)
theorem vR (n:Nz s M vs W0 h o0 m u ds) {c:Nat} (hm:m.ok c) (hc:c≤1000000) :
  aG Try.prog N.cC #[.pointer (some ⟨M,0,none⟩)] h (fun v h'=>v = .int .i32 (gN s m)∧Nz s M vs W0 h' o0 m.took.took u ds):=
 n.call (U:=fun v=>v=_) fun w=>((w.word (by have:=hm.at_;omega)).mono fun v h' ⟨e,o',w',f'⟩=>⟨e,w'.nx.trans (View.le_refl _) f'⟩)
theorem fA (n:Nz s M vs W0 h o0 m u ds) {b c:Nat} (hb:b<m.blocks.length) (hm:m.ok c) (hc:c≤1000000) {k:Int} (hk:-2147483648≤k∧k≤2147483647) :
  aG Try.prog N.bC #[.pointer (some ⟨M,0,none⟩),.int .i64 b,.int .i32 k] h (fun v h'=>v = .int .i64 m.next∧Nz s M vs W0 h' o0 (m.constant b k) u ds):=
 n.call (U:=fun v=>v=_) fun w=>w.constant hb hm hc hk
theorem gz (n:Nz s M vs W0 h o0 m u ds) {b c:Nat} (hb:b<m.blocks.length) (hm:m.ok c) (hc:c≤999990) :
  aG Try.prog N.cE #[.pointer (some ⟨M,0,none⟩),.int .i64 b] h (fun v h'=>(v = .int .i64 (aD s m b).1∧I64 (aD s m b).1)∧Nz s M vs W0 h' o0 (aD s m b).2 u ds):=
 n.call (U:=fun v=>v=_∧_) fun w=>(z6 w hb hm hc).mono fun v h' ⟨e1,e2,e3⟩=>⟨⟨e1,e2⟩,e3⟩
theorem jE (n:Nz s M vs W0 h o0 m u ds) {b c:Nat} {op d two imm:Int} (hb:b<m.blocks.length) (hm:m.ok c) (hc:c≤1000000) (h1:I64 op) (h2:I64 d) (h3:I64 two) (h4:-2147483648≤imm∧imm≤2147483647) :
  aG Try.prog N.cS #[.pointer (some ⟨M,0,none⟩),.int .i64 b,.agg #[.int .i64 op,.int .i64 d,.int .i64 two,u,.int .i32 imm]] h (fun v h'=>Nx s M vs W0 h' o0 (m.add b ⟨op,d,two,ds,⟨imm⟩⟩)):=by
 obtain ⟨W,o,g1,g2,g3,g4⟩:=n
 refine (g2.add (i:=⟨op,d,two,ds,⟨imm⟩⟩) hb (ju (imm:=⟨imm⟩) ⟨h1,h2,h3,h4⟩ g4) (by have:=hm.ins b;omega) (by have:=hm.live;omega)).mono ?_
 rintro v h' n'
 exact n'.trans g1 g3
theorem Nz.lit {po:OP} (n:Nz s M vs W0 h o0 m u ds) {ty:TypeId} {ps:Array (Nat × Operand)} {us:List (Nat × Value)} {ls:List Int} {k:Nat} {K:Value→Heap→Prop}
  (hp:ps.map (fun p=>(p.1,asg us p.2))=(((ls.map fun x=>Value.int .i64 x).zipIdx 0).map fun p=>(p.2,p.1)).toArray) (hr : ∀ x∈ls,I64 x) (hn:ls.length=k) (hb:k≤16777216)
  (hk : ∀ a n c h',(vw h).le (vw h')→Nz s M vs W0 h' o0 m (.slice a n c) ls→K (.slice a n c) h'):@Lft.step po Try.prog (.buildSlice T.aP k ps) ty us h K:=by
 obtain ⟨W,o,g1,g2,g3,g4⟩:=n
 have hra : ∀ l:List Int,(∀ x∈l,I64 x)→mE W (l.map fun x=>Value.int .i64 x) l:=by
  intro l
  induction l with
  | nil=>intro _;trivial
  | cons a l ih=>intro hl;exact ⟨cn.2 ⟨rfl,hl a (by simp)⟩,ih fun x hx=>hl x (by simp [hx])⟩
 refine fX (X:=W) (ds:=ls) (vs:=ls.map fun x=>Value.int .i64 x) rfl El.aP hp (hra ls hr) g2.own.wle hn hb fun v h' hle hs hv _=>?_
 have hs2:=hv _ (aX g2.own.wle) (cQ (Nat.le_refl _))
 obtain ⟨a,cp,rfl,_⟩:=id hs2
 refine hk _ _ _ h' hle ?_
 exact ⟨_,o,View.le_trans g1 (aX g2.own.wle),⟨g2.own.ext hle,g2.src.mono (aX g2.own.wle),g2.box⟩,g3,hs2⟩
end
theorem MS.ok.iu {c:Nat} {m:MS} (h:m.ok c) (hc:c≤1000000):I64 m.next:=by
 have:=h.n0;have:=h.next;constructor<;>omega
theorem cZ {m:MS} {b:Nat} {n:Int}:(m.constant b n).blocks.length=m.blocks.length:=jq
theorem lM {m:MS} {b:Nat} {op x y:Int}:(m.two b op x y).blocks.length=m.blocks.length:=jq
theorem i64c {x:Int} (h0:-1000≤x:=by decide) (h1:x≤1000:=by decide):I64 x:=⟨by omega,by omega⟩
theorem AI {s:List Int} {M:Nat} {vs:Value} {W0:View} {h:Heap} {o0:Own} {m:MS} (n:Nx s M vs W0 h o0 m) {b c:Nat} {store:Bool} (hb:b<m.blocks.length) (hm:m.ok c) (hc:c≤900000) :
  aG Try.prog N.cu #[.pointer (some ⟨M,0,none⟩),.int .i64 b,.bool store] h (fun v h'=>Nx s M vs W0 h' o0 (fV s m b store)):=by
 refine ay (args:=[.pointer (some ⟨M,0,none⟩),.int .i64 b,.bool store]) follows F.cu E.cu (Nat.le_of_ble_eq_true (by kernel_rfl)) fun K hK=>?_
 dsimp only [L.cu]
 have n:=n.z
 have hmm:fV s m b store=_:=fV.eq_1 s m b store
 refine aa fun z hz=>?_
 simp
 refine aj (by kernel_rfl) (dR n hm (by omega) (k:=9) (by decide) (by decide)) ?_
 rintro _ h1 ⟨rfl,n⟩
 simp
 refine aj (by kernel_rfl) (fA n (b:=b) hb hm.took (by omega) (k:=IntKind.i32.wrap (aB s m.at_ 9)) kH) ?_
 rintro _ h2 ⟨rfl,n⟩
 have q:=hm.took.constant (b:=b) (n:=IntKind.i32.wrap (aB s m.at_ 9))
 have hb1:b<(m.took.constant b (IntKind.i32.wrap (aB s m.at_ 9))).blocks.length:=by rw [cZ];exact hb
 obtain ⟨m1,hm1⟩ : ∃ m1,m1=m.took.constant b (IntKind.i32.wrap (aB s m.at_ 9)):=⟨_,rfl⟩
 have had:gK s m b=_:=gK.eq_1 s m b
 rw [←hm1] at n q hb1
 simp only [←hm1] at had
 have hnx:I64 m.next:=hm.iu (by omega)
 have hnt:m.took.next=m.next:=rfl
 rw [hnt]
 generalize m.next=a0 at had hnx
 clear hm1 hm hnt
 rw [hz];clear hz z
 refine aa fun z hz=>?_
 have fin : ∀ (a:Int) (m2:MS) (h':Heap) (ρ:Env),gK s m b=(a,m2)→I64 a→m2.ok (c+30)→b<m2.blocks.length→Nz s M vs W0 h' o0 m2 (.slice none 0 0) []→Lft.look ρ 0=some (.pointer (some ⟨M,0,none⟩))→Lft.look ρ 1=some (.int .i64 b)→Lft.look ρ 2=some (.bool store)→Lft.look ρ 6=some (.int .i64 a)→LC.wp Try.prog z (dJ [] K) ρ h':=by
  intro a m2 h' ρ e ha q hb n r0 r1 r2 r6
  rw [hz];clear hz z
  simp only [e] at hmm
  refine aa fun z hz=>?_
  simp [ae,af,r0,r1,r2,r6]
  refine aj (by kernel_rfl) (dR n q (by omega) (k:=4) (by decide) (by decide)) ?_
  rintro _ h1 ⟨rfl,n⟩
  simp [ae,af,r0,r1,r2,r6]
  rw [hz];clear hz z
  refine aa fun z hz=>?_
  have fin2 : ∀ (i:Int) (m3:MS) (h':Heap) (ρ:Env),offS s m2=(i,m3)→(-2147483648≤i∧i≤2147483647)→m3.ok (c+40)→b<m3.blocks.length→Nz s M vs W0 h' o0 m3 (.slice none 0 0) []→Lft.look ρ 0=some (.pointer (some ⟨M,0,none⟩))→Lft.look ρ 1=some (.int .i64 b)→Lft.look ρ 2=some (.bool store)→Lft.look ρ 6=some (.int .i64 a)→Lft.look ρ 11=some (.int .i32 i)→LC.wp Try.prog z (dJ [] K) ρ h':=by
   intro i m3 h' ρ e hi q hb n r0 r1 r2 r6 r11
   rw [hz];clear hz z
   simp only [e] at hmm
   refine aa fun z hz=>?_
   simp [ae,af,r0,r1,r2,r6,r11]
   rw [hz];clear hz z
   cases store with
   | true=>
    rw [if_pos rfl] at hmm
    refine aA (by simp [ae,af,r2]) ?_
    simp [ae,af,r0,r1,r2,r6,r11]
    refine aj (by kernel_rfl) (gz n hb q (by omega)) ?_
    rintro _ h1 ⟨⟨rfl,hs⟩,n⟩
    refine n.lit (ls:=[a,(aD s m3 b).1]) (by simp) (by simp [ha,hs]) rfl (by decide) fun ua un uc h2 _ n=>?_
    refine aL (z:=.agg #[.int .i64 0,.int .i64 0,.int .i64 0,.slice none 0 0,.int .i32 0]) (places:=[(0,1),(1,1),(2,1),(3,1),(4,1)]) (vs:=[(0,.int .i64 16),(3,.slice ua un uc),(4,.int .i32 i)]) (cs:=#[.int .i64 16,.int .i64 0,.int .i64 0,.slice ua un uc,.int .i32 i]) (by kernel_rfl) (by kernel_rfl) (by simp) (by rfl) ?_
    refine aj (by kernel_rfl) (jE n (b:=b) (by rw [dg];exact hb) (q.aD (b:=b)) (by omega) i64c i64c i64c hi) ?_
    rintro _ h3 n
    refine hK _ _ ?_
    rw [hmm];exact n
   | false=>
    rw [if_neg (by simp)] at hmm
    refine ax (by simp [ae,af,r2]) ?_
    simp [ae,af,r0,r1,r2,r6,r11]
    refine aj (by kernel_rfl) (fL n q (by omega)) ?_
    rintro _ h1 ⟨rfl,n⟩
    refine n.lit (ls:=[a]) (by simp) (by simp [ha]) rfl (by decide) fun ua un uc h2 _ n=>?_
    refine aL (z:=.agg #[.int .i64 0,.int .i64 0,.int .i64 0,.slice none 0 0,.int .i32 0]) (places:=[(0,1),(1,1),(2,1),(3,1),(4,1)]) (vs:=[(0,.int .i64 15),(1,.int .i64 m3.next),(3,.slice ua un uc),(4,.int .i32 i)]) (cs:=#[.int .i64 15,.int .i64 m3.next,.int .i64 0,.slice ua un uc,.int .i32 i]) (by kernel_rfl) (by kernel_rfl) (by simp) (by rfl) ?_
    refine aj (by kernel_rfl) (jE n (b:=b) hb q.aI (by omega) i64c (q.iu (by omega)) i64c hi) ?_
    rintro _ h3 n
    refine hK _ _ ?_
    rw [hmm];exact n
  have hof:offS s m2=_:=offS.eq_1 s m2
  refine aa fun y hy=>?_
  simp [ae,af,r0,r1,r2,r6]
  refine aj (by kernel_rfl) (dR n q.took (by omega) (k:=12) (by decide) (by decide)) ?_
  rintro _ h2 ⟨rfl,n⟩
  have hx:m2.took.at_=m2.at_+1:=rfl
  rw [hx]
  simp [ae,af,r0,r1,r2,r6]
  rw [hy];clear hy y
  by_cases c12:aB s (m2.at_+1) 12=0
  ·rw [if_pos c12] at hof
   refine aA (by simp [ae,af,c12]) ?_
   simp [ae,af,r0,r1,r2,r6]
   refine aj (by kernel_rfl) (vR n q.took.took (by omega)) ?_
   rintro _ h3 ⟨rfl,n⟩
   exact fin2 _ _ h3 _ hof mZ (q.took.took.took.took.mono (by omega)) hb n (by simp [ae,af,r0]) (by simp [ae,af,r1]) (by simp [ae,af,r2]) (by simp [ae,af,r6]) (by simp [ae,af])
  ·rw [if_neg c12] at hof
   refine ax (by simp [ae,af,c12]) ?_
   simp [ae,af,r0,r1,r2,r6]
   exact fin2 _ _ h2 _ hof kH (q.took.took.mono (by omega)) hb n (by simp [ae,af,r0]) (by simp [ae,af,r1]) (by simp [ae,af,r2]) (by simp [ae,af,r6]) (by simp [ae,af])
 refine aa fun y hy=>?_
 simp
 refine aj (by kernel_rfl) (dR n q (by omega) (k:=3) (by decide) (by decide)) ?_
 rintro _ h3 ⟨rfl,n⟩
 simp
 rw [hy];clear hy y
 by_cases c3:aB s m1.at_ 3=0
 ·rw [if_pos c3] at had
  refine aA (by simp [c3]) ?_
  refine aa fun y hy=>?_
  simp
  refine aj (by kernel_rfl) (gz n (b:=b) hb1 q.took (by omega)) ?_
  rintro _ h4 ⟨⟨rfl,hs⟩,n⟩
  have q:=q.took.aD (s:=s) (b:=b)
  have hb2:b<(aD s m1.took b).2.blocks.length:=by rw [dg];exact hb1
  generalize aD s m1.took b=r at had hs n q hb2
  rw [hy];clear hy y
  refine aa fun y hy=>?_
  simp
  refine aj (by kernel_rfl) (fA n (b:=b) hb2 q (by omega) (k:=7) (by decide)) ?_
  rintro _ h5 ⟨rfl,n⟩
  rw [hy];clear hy y
  refine aa fun y hy=>?_
  simp
  have q5:=q.constant (b:=b) (n:=7)
  refine aj (by kernel_rfl) (fL n q5 (by omega)) ?_
  rintro _ h6 ⟨rfl,n⟩
  have hn5:(r.2.constant b 7).next=r.2.next+1:=rfl
  rw [hn5]
  rw [hy];clear hy y
  refine aa fun y hy=>?_
  simp
  have i5:=q5.iu (by omega)
  rw [hn5] at i5
  refine n.lit (ls:=[r.1,r.2.next]) (by simp) (by simp [hs,q.iu (by omega:c+1+3+1+10≤1000000)]) rfl (by decide) fun ua un uc h7 _ n=>?_
  refine aL (z:=.agg #[.int .i64 0,.int .i64 0,.int .i64 0,.slice none 0 0,.int .i32 0]) (places:=[(0,1),(1,1),(2,1),(3,1),(4,1)]) (vs:=[(0,.int .i64 5),(1,.int .i64 (r.2.next+1)),(3,.slice ua un uc)]) (cs:=#[.int .i64 5,.int .i64 (r.2.next+1),.int .i64 0,.slice ua un uc,.int .i32 0]) (by kernel_rfl) (by kernel_rfl) (by simp) (by rfl) ?_
  refine aj (by kernel_rfl) (jE n (b:=b) (imm:=0) (by rw [show (r.2.constant b 7).aI.blocks=(r.2.constant b 7).blocks from rfl,cZ];exact hb2) q5.aI (by omega) i64c i5 i64c (by decide)) ?_
  rintro _ h8 n
  have n:Nx s M vs W0 h8 o0 ((r.2.constant b 7).two b 5 r.1 r.2.next):=n
  have q6:=q5.two (b:=b) (op:=5) (x:=r.1) (y:=r.2.next)
  have hb3:b<((r.2.constant b 7).two b 5 r.1 r.2.next).blocks.length:=by rw [lM,cZ];exact hb2
  generalize (r.2.constant b 7).two b 5 r.1 r.2.next=m3 at had n q6 hb3
  have n:=n.z
  rw [hy];clear hy y
  refine aa fun y hy=>?_
  simp
  refine aj (by kernel_rfl) (fL n q6 (by omega)) ?_
  rintro _ h9 ⟨rfl,n⟩
  rw [hy];clear hy y
  refine aa fun y hy=>?_
  simp
  refine n.lit (ls:=[a0,r.2.next+1]) (by simp) (by simp [hnx,i5]) rfl (by decide) fun ua2 un2 uc2 h10 _ n=>?_
  refine aL (z:=.agg #[.int .i64 0,.int .i64 0,.int .i64 0,.slice none 0 0,.int .i32 0]) (places:=[(0,1),(1,1),(2,1),(3,1),(4,1)]) (vs:=[(0,.int .i64 2),(1,.int .i64 m3.next),(3,.slice ua2 un2 uc2)]) (cs:=#[.int .i64 2,.int .i64 m3.next,.int .i64 0,.slice ua2 un2 uc2,.int .i32 0]) (by kernel_rfl) (by kernel_rfl) (by simp) (by rfl) ?_
  refine aj (by kernel_rfl) (jE n (b:=b) (imm:=0) hb3 q6.aI (by omega) i64c (q6.iu (by omega)) i64c (by decide)) ?_
  rintro _ h11 n
  rw [hy];clear hy y
  simp
  refine fin m3.next (m3.two b 2 a0 (r.2.next+1)) h11 _ had (q6.iu (by omega)) (q6.two.mono (by omega)) (by rw [lM];exact hb3) n.z ?_ ?_ ?_ ?_
  all_goals simp
 ·rw [if_neg c3] at had
  refine ax (by simp [c3]) ?_
  simp
  exact fin a0 m1.took h3 _ had hnx (q.took.mono (by omega)) hb1 n (by simp) (by simp) (by simp) (by simp)
end Go.Proofs.Ytfelpjfopgiabaa
namespace Go.Proofs.Ytfelpjfopgiabaa
open Go Go.Lft
section
variable {s:List Int} {M:Nat} {vs:Value} {W0:View} {h:Heap} {o0:Own} {m:MS} {u:Value} {ds:List Int}
theorem Nz.le (n:Nz s M vs W0 h o0 m u ds):W0.le (vw h):=by
 obtain ⟨W,o,h1,h2,_⟩:=n
 exact View.le_trans h1 h2.own.wle
theorem Nz.base (n:Nz s M vs W0 h o0 m u ds) : ∃ W o,Nz s M vs W h o m u ds∧SlRd W u ds∧∀ {h' m' u' ds'},Nz s M vs W h' o m' u' ds'→Nz s M vs W0 h' o0 m' u' ds':=by
 obtain ⟨W,o,h1,h2,h3,h4⟩:=n
 refine ⟨W,o,⟨W,o,View.le_refl _,h2,fun _ _=>rfl,h4⟩,h4,?_⟩
 rintro h' m' u' ds' ⟨W',o',g1,g2,g3,g4⟩
 exact ⟨W',o',View.le_trans h1 g1,g2,fun k hk=>(g3 k hk).trans (h3 k hk),g4⟩
end
theorem y7 {H:View} {B n:Nat} {l:List Int} {t:TypeId} (hb:H B=some (.cells (l.map fun x=>Value.int .i64 x).toArray t (0,0))) (hn:l.length=n) (h1:0<n∧n≤1000) (hr : ∀ x∈l,I64 x):SlRd H (.slice (some ⟨B,0,none⟩) n n) l:=by
 refine ⟨some ⟨B,0,none⟩,n,by rw [hn],by omega,by omega,.inr ⟨⟨B,0,none⟩,rfl,rfl,fun i hi=>?_⟩⟩
 have e:(⟨B,0,none⟩:Addr).add (i*Rep.n Int)=⟨B,i,none⟩:=by
  show (⟨B,0,none⟩:Addr).add (i*1)=_
  simp
 rw [e]
 refine ⟨[.int .i64 l[i]],⟨_,t,(0,0),rfl,hb,?_⟩,(cn (v:=.int .i64 l[i]) (H:=H)).2 ⟨rfl,hr _ (List.getElem_mem hi)⟩ |> fun q=>?_⟩
 ·show ((l.map fun x=>Value.int .i64 x).toArray.toList.drop i).take 1=_
  rw [List.toList_toArray,List.drop_eq_getElem_cons (by simpa using hi)]
  simp
 ·exact ⟨rfl,hr _ (List.getElem_mem hi)⟩
theorem Cp : ∀ x∈opsL,I64 x:=by
 intro x hx
 have : ∀ x∈opsL,0≤x∧x≤12:=by decide
 have:=this x hx
 exact ⟨by omega,by omega⟩
theorem MkB.frame {M:Nat} {vs:Value} {m:MS} {o o':Own} {vb vl:Value} {lb:List BlkM} (b:MkB M vs m o vb vl lb) (hf : ∀ k:Key,k.1<3→o' k=o k):MkB M vs m o' vb vl lb:=
 ⟨(hf _ (by decide)).trans b.box,(hf _ (by decide)).trans b.live,(hf _ (by decide)).trans b.blk,b.len,b.term,fun i hi=>(hf _ (by show 1<3;decide)).trans (b.phis i hi),fun i hi=>(hf _ (by show 2<3;decide)).trans (b.ins i hi)⟩
theorem xz {s:List Int} {b:Nat} {x:List Int × MS} : ∀ k,(up (eo s b) k x).2.blocks.length=x.2.blocks.length:=by
 intro k
 induction k with
 | zero=>rfl
 | succ k ih=>
  show (aD s (up (eo s b) k x).2 b).2.blocks.length=_
  rw [dg,ih]
theorem zE {s:List Int} {b c:Nat} {x:List Int × MS} (hx:x.2.ok c) : ∀ k,(up (eo s b) k x).2.ok (c+10*k)∧(up (eo s b) k x).1.length=x.1.length+k∧(up (eo s b) k x).2.blocks.length=x.2.blocks.length:=by
 intro k
 induction k with
 | zero=>exact ⟨hx,rfl,rfl⟩
 | succ k ih=>
  obtain ⟨h1,h2,h3⟩:=ih
  refine ⟨(h1.aD).mono (by omega),?_,?_⟩
  ·show ((up (eo s b) k x).1++[_]).length=_
   rw [List.length_append,h2,List.length_singleton];omega
  ·show (aD s (up (eo s b) k x).2 b).2.blocks.length=_
   rw [dg,h3]
theorem tg {s:List Int} {M:Nat} {vs:Value} {W0:View} {h:Heap} {o0:Own} {m:MS} (n:Nx s M vs W0 h o0 m) {b c:Nat} (hb:b<m.blocks.length) (hm:m.ok c) (hc:c≤800000) (hfree:o0 (9,0)=none) :
  aG Try.prog N.a7 #[.pointer (some ⟨M,0,none⟩),.int .i64 b] h (fun v h'=>Nx s M vs W0 h' o0 (aF s b m)):=by
 refine ay (args:=[.pointer (some ⟨M,0,none⟩),.int .i64 b]) follows F.a7 E.a7 (Nat.le_of_ble_eq_true (by kernel_rfl)) fun K hK=>?_
 dsimp only [L.a7]
 have n:=n.z
 have hmm:aF s b m=_:=aF.eq_1 s b m
 refine aa fun z hz=>?_
 simp
 refine aj (by kernel_rfl) (dR n hm (by omega) (k:=20) (by decide) (by decide)) ?_
 rintro _ h1 ⟨rfl,n⟩
 obtain ⟨k0,k1⟩:=aY (s:=s) (at_:=m.at_) (n:=20) (by decide)
 have q:=hm.took
 have hb1:b<m.took.blocks.length:=hb
 rw [hz];clear hz z
 generalize aB s m.at_ 20=k at hmm k0 k1
 generalize hm1:m.took=m1 at hmm n q hb1
 have hw:gN s m1=gN s m1:=rfl
 simp only [aO]
 refine aa fun z hz=>?_
 simp
 rw [hz];clear hz z
 by_cases c1:k<12
 ·rw [if_pos c1] at hmm
  refine aA (by simp [c1]) ?_
  obtain ⟨kn,rfl⟩ : ∃ kn:Nat,k=kn:=⟨k.toNat,by omega⟩
  have hkn:kn<12:=by omega
  refine aa fun z hz=>?_
  simp
  have hcs:(#[.int .i64 2,.int .i64 2,.int .i64 3,.int .i64 4,.int .i64 5,.int .i64 6,.int .i64 7,.int .i64 8,.int .i64 9,.int .i64 10,.int .i64 12,.int .i64 11]:Array Value)=(opsL.map fun x=>Value.int .i64 x).toArray:=rfl
  refine aL (z:=.agg #[.int .i64 0,.int .i64 0,.int .i64 0,.int .i64 0,.int .i64 0,.int .i64 0,.int .i64 0,.int .i64 0,.int .i64 0,.int .i64 0,.int .i64 0,.int .i64 0]) (places:=[(0,1),(1,1),(2,1),(3,1),(4,1),(5,1),(6,1),(7,1),(8,1),(9,1),(10,1),(11,1)]) (vs:=[(0,.int .i64 2),(1,.int .i64 2),(2,.int .i64 3),(3,.int .i64 4),(4,.int .i64 5),(5,.int .i64 6),(6,.int .i64 7),(7,.int .i64 8),(8,.int .i64 9),(9,.int .i64 10),(10,.int .i64 12),(11,.int .i64 11)])
   (cs:=#[.int .i64 2,.int .i64 2,.int .i64 3,.int .i64 4,.int .i64 5,.int .i64 6,.int .i64 7,.int .i64 8,.int .i64 9,.int .i64 10,.int .i64 12,.int .i64 11]) (by kernel_rfl) (by kernel_rfl) (by simp) (by rfl) ?_
  refine ir (v:=.agg #[.int .i64 2,.int .i64 2,.int .i64 3,.int .i64 4,.int .i64 5,.int .i64 6,.int .i64 7,.int .i64 8,.int .i64 9,.int .i64 10,.int .i64 12,.int .i64 11]) (z:=.agg #[.int .i64 0,.int .i64 0,.int .i64 0,.int .i64 0,.int .i64 0,.int .i64 0,.int .i64 0,.int .i64 0,.int .i64 0,.int .i64 0,.int .i64 0,.int .i64 0]) (n:=12) (by kernel_rfl) rfl (by kernel_rfl) rfl (by simp [Value.cells,Value.oneCell']) (fun _=>by simp) (fun _=>by simp) fun h2 hle2 hs2 hb2=>?_
  have n:Nz s M vs W0 h2 o0 m1 (.slice (some ⟨h1.size,0,none⟩) 12 12) opsL:=by
   obtain ⟨W,o,g1,g2,g3,g4⟩:=n
   refine ⟨_,o,View.le_trans g1 (aX g2.own.wle),⟨g2.own.ext hle2,g2.src.mono (aX g2.own.wle),g2.box⟩,g3,?_⟩
   have hg:grow W h1 h2 h1.size=some (.cells (opsL.map fun x=>Value.int .i64 x).toArray T.Ep (0,0)):=by
    rw [cQ (Nat.le_refl _),hb2];rfl
   exact y7 hg rfl (by decide) Cp
  generalize h1.size=B at n
  rw [hz];clear hz z
  refine aa fun z hz=>?_
  simp
  refine aj (by kernel_rfl) (gz n hb1 q (by omega)) ?_
  rintro _ h3 ⟨⟨rfl,i2⟩,n⟩
  have q:=q.aD (s:=s) (b:=b)
  have hb2:b<(aD s m1 b).2.blocks.length:=by rw [dg];exact hb1
  simp only [binS] at hmm
  generalize aD s m1 b=r1 at hmm n q hb2 i2
  rw [hz];clear hz z
  refine aa fun z hz=>?_
  simp
  refine aj (by kernel_rfl) (gz n hb2 q (by omega)) ?_
  rintro _ h4 ⟨⟨rfl,i3⟩,n⟩
  have q:=q.aD (s:=s) (b:=b)
  have hb3:b<(aD s r1.2 b).2.blocks.length:=by rw [dg];exact hb2
  generalize aD s r1.2 b=r2 at hmm n q hb3 i3
  rw [hz];clear hz z
  refine aa fun z hz=>?_
  have fin : ∀ (e:Int) (m3:MS) (h':Heap) (ρ:Env),aF s b m=m3.two b (nth opsL kn) r1.1 e→I64 e→m3.ok (c+60)→b<m3.blocks.length→Nz s M vs W0 h' o0 m3 (.slice (some ⟨B,0,none⟩) 12 12) opsL→Lft.look ρ 0=some (.pointer (some ⟨M,0,none⟩))→Lft.look ρ 1=some (.int .i64 b)→Lft.look ρ 4=some (.int .i64 kn)→Lft.look ρ 5=some (.pointer (some ⟨B,0,none⟩))→Lft.look ρ 6=some (.int .i64 r1.1)→Lft.look ρ 7=some (.int .i64 e)→LC.wp Try.prog z (dZ 0 (dJ [] K)) ρ h':=by
   intro e m3 h' ρ hmm ie q hb n r0 r1' r4 r5 r6 r7
   rw [hz];clear hz z
   obtain ⟨W,o,n,sl,back⟩:=n.base
   have iop:=sl.range (i:=kn) (by show kn<12;omega)
   have hop:an W ⟨B,kn,none⟩=some (.int .i64 (nth opsL kn)):=by
    have:=sl.int (View.le_refl W) (i:=kn) (by show kn<12;omega)
    simpa [slA] using this
   have hix:Bn.ev (.aidx 12 1) (.pointer (some ⟨B,0,none⟩)) (.int .i64 kn)=some (.pointer (some ⟨B,kn,none⟩)):=by
    simp only [Bn.ev,vP,vI,Option.bind_some]
    rw [if_pos ⟨by omega,by omega⟩]
    simp
   generalize nth opsL kn=op at hmm iop hop
   refine bO W n.le ?_
   simp [ae,af,r0,r1',r4,r5,r6,r7,hix,hop]
   constructor
   ·refine aj (by kernel_rfl) (fL n q (by omega)) ?_
    rintro _ h4 ⟨rfl,n⟩
    refine ⟨n.le,?_⟩
    refine n.lit (ls:=[r1.1,e]) (by simp) (by simp [i2,ie]) rfl (by decide) fun ua un uc h5 _ n=>⟨n.le,?_⟩
    refine aL (z:=.agg #[.int .i64 0,.int .i64 0,.int .i64 0,.slice none 0 0,.int .i32 0]) (places:=[(0,1),(1,1),(2,1),(3,1),(4,1)]) (vs:=[(0,.int .i64 op),(1,.int .i64 m3.next),(3,.slice ua un uc)]) (cs:=#[.int .i64 op,.int .i64 m3.next,.int .i64 0,.slice ua un uc,.int .i32 0]) (by kernel_rfl) (by kernel_rfl) (by simp) (by rfl) ?_
    refine aj (by kernel_rfl) (jE n (b:=b) hb q.aI (by omega) iop (q.iu (by omega)) i64c (by decide)) ?_
    rintro _ h6 n
    exact hK _ _ (by rw [hmm];exact (back n.z).x)
   ·refine n.lit (ls:=[r1.1,e]) (by simp) (by simp [i2,ie]) rfl (by decide) fun ua un uc h5 _ n=>⟨n.le,?_⟩
    refine aj (by kernel_rfl) (fL n q (by omega)) ?_
    rintro _ h4 ⟨rfl,n⟩
    refine ⟨n.le,?_⟩
    refine aL (z:=.agg #[.int .i64 0,.int .i64 0,.int .i64 0,.slice none 0 0,.int .i32 0]) (places:=[(0,1),(1,1),(2,1),(3,1),(4,1)]) (vs:=[(0,.int .i64 op),(1,.int .i64 m3.next),(3,.slice ua un uc)]) (cs:=#[.int .i64 op,.int .i64 m3.next,.int .i64 0,.slice ua un uc,.int .i32 0]) (by kernel_rfl) (by kernel_rfl) (by simp) (by rfl) ?_
    refine aj (by kernel_rfl) (jE n (b:=b) hb q.aI (by omega) iop (q.iu (by omega)) i64c (by decide)) ?_
    rintro _ h6 n
    exact hK _ _ (by rw [hmm];exact (back n.z).x)
  refine aa fun y hy=>?_
  simp
  refine aj (by kernel_rfl) (dR n q (by omega) (k:=3) (by decide) (by decide)) ?_
  rintro _ h5 ⟨rfl,n⟩
  simp
  rw [hy];clear hy y
  by_cases c4:aB s r2.2.at_ 3=0
  ·rw [if_pos c4] at hmm
   refine aA (by simp [c4]) ?_
   simp
   refine aj (by kernel_rfl) (dR n q.took (by omega) (k:=40) (by decide) (by decide)) ?_
   rintro _ h6 ⟨rfl,n⟩
   have hx:r2.2.took.at_=r2.2.at_+1:=rfl
   rw [hx]
   simp
   refine aj (by kernel_rfl) (fA n (b:=b) hb3 q.took.took (by omega) (k:=IntKind.i32.wrap (IntKind.i64.wrap (aB s (r2.2.at_+1) 40-8))) kH) ?_
   rintro _ h7 ⟨rfl,n⟩
   refine fin r2.2.next _ h7 _ hmm (q.iu (by omega)) (q.took.took.constant.mono (by omega)) (by rw [cZ];exact hb3) n ?_ ?_ ?_ ?_ ?_ ?_
   all_goals simp
   rfl
  ·rw [if_neg c4] at hmm
   refine ax (by simp [c4]) ?_
   simp
   refine fin r2.1 _ h5 _ hmm i3 (q.took.mono (by omega)) hb3 n ?_ ?_ ?_ ?_ ?_ ?_
   all_goals simp
 rw [if_neg c1] at hmm
 refine ax (by simp [c1]) ?_
 refine aa fun z hz=>?_
 simp
 rw [hz];clear hz z
 by_cases c2:k=12
 ·rw [if_pos c2] at hmm
  refine aA (by simp [c2]) ?_
  refine aa fun z hz=>?_
  simp
  refine aj (by kernel_rfl) (gz n hb1 q (by omega)) ?_
  rintro _ h2 ⟨⟨rfl,i2⟩,n⟩
  have q:=q.aD (s:=s) (b:=b)
  have hb2:b<(aD s m1 b).2.blocks.length:=by rw [dg];exact hb1
  simp only [ltuS] at hmm
  generalize aD s m1 b=r1 at hmm n q hb2 i2
  rw [hz];clear hz z
  refine aa fun z hz=>?_
  simp
  refine aj (by kernel_rfl) (gz n hb2 q (by omega)) ?_
  rintro _ h3 ⟨⟨rfl,i3⟩,n⟩
  have q:=q.aD (s:=s) (b:=b)
  have hb3:b<(aD s r1.2 b).2.blocks.length:=by rw [dg];exact hb2
  generalize aD s r1.2 b=r2 at hmm n q hb3 i3
  rw [hz];clear hz z
  simp
  refine aj (by kernel_rfl) (fL n q (by omega)) ?_
  rintro _ h4 ⟨rfl,n⟩
  refine n.lit (ls:=[r1.1,r2.1]) (by simp) (by simp [i2,i3]) rfl (by decide) fun ua un uc h5 _ n=>?_
  refine aL (z:=.agg #[.int .i64 0,.int .i64 0,.int .i64 0,.slice none 0 0,.int .i32 0]) (places:=[(0,1),(1,1),(2,1),(3,1),(4,1)]) (vs:=[(0,.int .i64 13),(1,.int .i64 r2.2.next),(3,.slice ua un uc)]) (cs:=#[.int .i64 13,.int .i64 r2.2.next,.int .i64 0,.slice ua un uc,.int .i32 0]) (by kernel_rfl) (by kernel_rfl) (by simp) (by rfl) ?_
  refine aj (by kernel_rfl) (jE n (b:=b) hb3 q.aI (by omega) i64c (q.iu (by omega)) i64c (by decide)) ?_
  rintro _ h6 n
  exact hK _ _ (by rw [hmm];exact n)
 rw [if_neg c2] at hmm
 refine ax (by simp [c2]) ?_
 refine aa fun z hz=>?_
 simp
 rw [hz];clear hz z
 by_cases c3:k=13
 ·rw [if_pos c3] at hmm
  refine aA (by simp [c3]) ?_
  refine aa fun z hz=>?_
  simp
  refine aj (by kernel_rfl) (gz n hb1 q (by omega)) ?_
  rintro _ h2 ⟨⟨rfl,i2⟩,n⟩
  have q:=q.aD (s:=s) (b:=b)
  have hb2:b<(aD s m1 b).2.blocks.length:=by rw [dg];exact hb1
  simp only [divS] at hmm
  generalize aD s m1 b=r1 at hmm n q hb2 i2
  rw [hz];clear hz z
  refine aa fun z hz=>?_
  simp
  refine aj (by kernel_rfl) (dR n q (by omega) (k:=12) (by decide) (by decide)) ?_
  rintro _ h3 ⟨rfl,n⟩
  simp
  refine aj (by kernel_rfl) (fA n (b:=b) hb2 q.took (by omega) (k:=IntKind.i32.wrap (aB s r1.2.at_ 12)) kH) ?_
  rintro _ h4 ⟨rfl,n⟩
  have i4:I64 r1.2.took.next:=q.took.iu (by omega)
  have q:=q.took.constant (b:=b) (n:=IntKind.i32.wrap (aB s r1.2.at_ 12))
  have hb3:b<(r1.2.took.constant b (IntKind.i32.wrap (aB s r1.2.at_ 12))).blocks.length:=by rw [cZ];exact hb2
  have ht:r1.2.took.next=r1.2.next:=rfl
  rw [ht] at i4 ⊢
  generalize r1.2.took.constant b (IntKind.i32.wrap (aB s r1.2.at_ 12))=m2 at hmm n q hb3
  generalize r1.2.next=d at hmm i4
  rw [hz];clear hz z
  refine aa fun z hz=>?_
  have fin : ∀ (e:Int) (m3:MS) (h':Heap) (ρ:Env),aF s b m=m3.two b 14 r1.1 e→I64 e→m3.ok (c+60)→b<m3.blocks.length→Nz s M vs W0 h' o0 m3 (.slice none 0 0) []→Lft.look ρ 0=some (.pointer (some ⟨M,0,none⟩))→Lft.look ρ 1=some (.int .i64 b)→Lft.look ρ 10=some (.int .i64 r1.1)→Lft.look ρ 11=some (.int .i64 e)→LC.wp Try.prog z (dZ 0 (dJ [] K)) ρ h':=by
   intro e m3 h' ρ hmm ie q hb n r0 r1' r10 r11
   rw [hz];clear hz z
   simp [ae,af,r0,r1',r10,r11]
   refine aj (by kernel_rfl) (fL n q (by omega)) ?_
   rintro _ h4 ⟨rfl,n⟩
   refine n.lit (ls:=[r1.1,e]) (by simp) (by simp [i2,ie]) rfl (by decide) fun ua un uc h5 _ n=>?_
   refine aL (z:=.agg #[.int .i64 0,.int .i64 0,.int .i64 0,.slice none 0 0,.int .i32 0]) (places:=[(0,1),(1,1),(2,1),(3,1),(4,1)]) (vs:=[(0,.int .i64 14),(1,.int .i64 m3.next),(3,.slice ua un uc)]) (cs:=#[.int .i64 14,.int .i64 m3.next,.int .i64 0,.slice ua un uc,.int .i32 0]) (by kernel_rfl) (by kernel_rfl) (by simp) (by rfl) ?_
   refine aj (by kernel_rfl) (jE n (b:=b) hb q.aI (by omega) i64c (q.iu (by omega)) i64c (by decide)) ?_
   rintro _ h6 n
   exact hK _ _ (by rw [hmm];exact n)
  refine aa fun y hy=>?_
  simp
  refine aj (by kernel_rfl) (dR n q (by omega) (k:=3) (by decide) (by decide)) ?_
  rintro _ h5 ⟨rfl,n⟩
  simp
  rw [hy];clear hy y
  by_cases c4:0<aB s m2.at_ 3
  ·rw [if_pos c4] at hmm
   refine aA (by simp [c4]) ?_
   simp
   refine aj (by kernel_rfl) (dR n q.took (by omega) (k:=12) (by decide) (by decide)) ?_
   rintro _ h6 ⟨rfl,n⟩
   have hx:m2.took.at_=m2.at_+1:=rfl
   rw [hx]
   simp
   refine aj (by kernel_rfl) (fA n (b:=b) hb3 q.took.took (by omega) (k:=IntKind.i32.wrap (1+IntKind.i32.wrap (aB s (m2.at_+1) 12))) kH) ?_
   rintro _ h7 ⟨rfl,n⟩
   refine fin m2.next _ h7 _ hmm (q.iu (by omega)) (q.took.took.constant.mono (by omega)) (by rw [cZ];exact hb3) n ?_ ?_ ?_ ?_
   all_goals simp
   rfl
  ·rw [if_neg c4] at hmm
   refine ax (by simp [c4]) ?_
   simp
   refine fin d _ h5 _ hmm i4 (q.took.mono (by omega)) hb3 n ?_ ?_ ?_ ?_
   all_goals simp
 rw [if_neg c3] at hmm
 refine ax (by simp [c3]) ?_
 refine aa fun z hz=>?_
 simp
 rw [hz];clear hz z
 by_cases c4:k<16
 ·rw [if_pos c4] at hmm
  refine aA (by simp [c4]) ?_
  simp
  refine aj (by kernel_rfl) (AI n.x (store:=decide (k=15)) hb1 q (by omega)) ?_
  rintro _ h2 n
  exact hK _ _ (by rw [hmm];exact n)
 rw [if_neg c4] at hmm
 refine ax (by simp [c4]) ?_
 refine aa fun z hz=>?_
 simp
 rw [hz];clear hz z
 by_cases c5:k=16
 ·rw [if_pos c5] at hmm
  refine aA (by simp [c5]) ?_
  refine aa fun z hz=>?_
  simp
  obtain ⟨W,o,g1,w,f,-⟩:=n
  have hk9:o (9,0)=none:=(f _ (by decide)).trans hfree
  refine w.own.cz (k:=(9,0)) (α:=Int) hk9 El.aP fun v h2 hle2 hv w2 _=>?_
  have w2:Mk s M vs W h2 (o.upd (9,0) (it T.int v ([]:List Int))) m1:=by
   obtain ⟨vb,vl,lb,bb⟩:=w.box
   exact ⟨w2,w.src,vb,vl,lb,bb.frame fun k hk=>Own.ab (by rintro rfl;simp at hk)⟩
  rw [hz];clear hz z
  refine aa fun z hz=>?_
  simp
  refine aj (by kernel_rfl) (w2.take (by have:=q.at_;omega) (n:=5) (by decide) (by decide)) ?_
  rintro _ h3 ⟨rfl,o3,w3,f3⟩
  simp only [kI] at hmm
  have q:=q.took
  have hb2:b<m1.took.blocks.length:=hb1
  obtain ⟨t0,t1⟩:=aY (s:=s) (at_:=m1.at_) (n:=5) (by decide)
  generalize aB s m1.at_ 5=t at hmm t0 t1
  obtain ⟨tn,rfl⟩ : ∃ tn:Nat,t=tn:=⟨t.toNat,by omega⟩
  rw [show ((tn:Int)).toNat=tn by omega] at hmm
  have hup:=zE (s:=s) (b:=b) (x:=([],m1.took)) q
  generalize m1.took=m2 at hmm q hb2 hup w3
  rw [hz];clear hz z
  refine aa fun z hz=>?_
  simp
  refine cB [0,1,4,12,13,14] (fun (v:Value) i=>[.pointer (some ⟨M,0,none⟩),.int .i64 b,.int .i64 k,v,.int .i64 tn,.int .i64 i]) (fun v i h4=>∃ W' o',W0.le W'∧Mk s M vs W' h4 o' (up (eo s b) i ([],m2)).2∧o' (9,0)=it T.int v (up (eo s b) i ([],m2)).1∧∀ q:Key,3≤q.1→q≠(9,0)→o' q=o0 q) tn v
   rfl (by omega) rfl ⟨W,o3,g1,w3,(f3 _ (by decide)).trans Own.ag,fun q h1 h2=>(f3 q h1).trans ((Own.ab h2).trans (f q h1))⟩ (fun _ _=>rfl) (fun v k h hk m=>by simp) ?_ ?_
  ·rintro v i h4 hlt ⟨W4,o4,g4,w4,e4,f4⟩ K2 hK2
   obtain ⟨qi,li,bi⟩:=hup i
   have e5:up (eo s b) (i+1) ([],m2)=((up (eo s b) i ([],m2)).1++[(aD s (up (eo s b) i ([],m2)).2 b).1],(aD s (up (eo s b) i ([],m2)).2 b).2):=rfl
   have hb4:b<(up (eo s b) i ([],m2)).2.blocks.length:=by rw [bi];exact hb2
   generalize up (eo s b) i ([],m2)=x at w4 e4 e5 qi li bi hb4
   have li:x.1.length=i:=by simpa using li
   simp
   refine aj (by kernel_rfl) (z6 w4 hb4 qi (by omega)) ?_
   rintro _ h5 ⟨rfl,i5,W5,o5,g5,w5,f5⟩
   have e6:o5 (9,0)=it T.int v x.1:=(f5 _ (by decide)).trans e4
   refine w5.own.dL (k:=(9,0)) (α:=Int) (d:=(aD s x.2 b).1) e6 El.aP rfl (cn.2 ⟨rfl,i5⟩) (by omega) (by omega) (fun _=>rfl) (fun _=>rfl) fun u v' h6 w6 _=>?_
   refine hK2 v' _ _ rfl rfl ⟨W5,_,View.le_trans g4 g5,⟨w6,w5.src,?_⟩,?_,?_⟩
   ·obtain ⟨vb,vl,lb,bb⟩:=w5.box
    rw [e5]
    exact ⟨vb,vl,lb,bb.frame fun k hk=>Own.ab (by rintro rfl;simp at hk)⟩
   ·rw [e5];exact Own.ag
   ·intro q h1 h2
    exact (Own.ab h2).trans ((f5 q h1).trans (f4 q h1 h2))
  ·rintro v h4 ⟨W4,o4,g4,w4,e4,f4⟩
   obtain ⟨qi,li,bi⟩:=hup tn
   have hb4:b<(up (eo s b) tn ([],m2)).2.blocks.length:=by rw [bi];exact hb2
   generalize up (eo s b) tn ([],m2)=x at w4 e4 qi li bi hb4 hmm
   obtain ⟨w5,sl⟩:=w4.own.freeze e4
   have sl2:=sl
   obtain ⟨ua,uc,rfl,_⟩:=sl2
   have hWp:=dm (h:=h4) (w4.own.av _ _ e4)
   have n:Nz s M vs W0 h4 o0 x.2 (.slice ua x.1.length uc) x.1:=by
    obtain ⟨vb,vl,lb,bb⟩:=w4.box
    refine ⟨_,_,View.le_trans g4 hWp,⟨w5,w4.src.mono hWp,vb,vl,lb,bb.frame fun k hk=>Own.ab (by rintro rfl;simp at hk)⟩,fun q h1=>?_,sl⟩
    by_cases e:q=(9,0)
    ·rw [e,Own.ag,hfree]
    ·exact (Own.ab e).trans (f4 q h1 e)
   generalize x.1.length=un at n
   simp
   rw [hz];clear hz z
   simp
   refine aj (by kernel_rfl) (fL n qi (by omega)) ?_
   rintro _ h5 ⟨rfl,n⟩
   refine aj (by kernel_rfl) (dR n qi.aI (by omega) (k:=5) (by decide) (by decide)) ?_
   rintro _ h6 ⟨rfl,n⟩
   have hx:x.2.aI.at_=x.2.at_:=rfl
   rw [hx]
   simp
   refine aL (z:=.agg #[.int .i64 0,.int .i64 0,.int .i64 0,.slice none 0 0,.int .i32 0]) (places:=[(0,1),(1,1),(2,1),(3,1),(4,1)]) (vs:=[(0,.int .i64 17),(1,.int .i64 x.2.next),(3,.slice ua un uc),(4,.int .i32 (IntKind.i32.wrap (aB s x.2.at_ 5)))]) (cs:=#[.int .i64 17,.int .i64 x.2.next,.int .i64 0,.slice ua un uc,.int .i32 (IntKind.i32.wrap (aB s x.2.at_ 5))]) (by kernel_rfl) (by kernel_rfl) (by simp) (by rfl) ?_
   refine aj (by kernel_rfl) (jE n (b:=b) hb4 qi.aI.took (by omega) i64c (qi.iu (by omega)) i64c kH) ?_
   rintro _ h7 n
   exact hK _ _ (by rw [hmm];exact n)
 rw [if_neg c5] at hmm
 refine ax (by simp [c5]) ?_
 refine aa fun z hz=>?_
 simp
 rw [hz];clear hz z
 by_cases c6:k=17
 ·rw [if_pos c6] at hmm
  refine aA (by simp [c6]) ?_
  refine aa fun z hz=>?_
  simp
  refine aj (by kernel_rfl) (gz n hb1 q (by omega)) ?_
  rintro _ h2 ⟨⟨rfl,i2⟩,n⟩
  have q:=q.aD (s:=s) (b:=b)
  have hb2:b<(aD s m1 b).2.blocks.length:=by rw [dg];exact hb1
  simp only [oK] at hmm
  generalize aD s m1 b=r1 at hmm n q hb2 i2
  rw [hz];clear hz z
  refine aa fun z hz=>?_
  simp
  refine aj (by kernel_rfl) (gz n hb2 q (by omega)) ?_
  rintro _ h3 ⟨⟨rfl,i3⟩,n⟩
  have q:=q.aD (s:=s) (b:=b)
  have hb3:b<(aD s r1.2 b).2.blocks.length:=by rw [dg];exact hb2
  generalize aD s r1.2 b=r2 at hmm n q hb3 i3
  rw [hz];clear hz z
  refine aa fun z hz=>?_
  simp
  refine aj (by kernel_rfl) (fL n q (by omega)) ?_
  rintro _ h4 ⟨rfl,n⟩
  rw [hz];clear hz z
  simp
  refine aj (by kernel_rfl) (fL n q.aI (by omega)) ?_
  rintro _ h5 ⟨rfl,n⟩
  have hx:r2.2.aI.next=r2.2.next+1:=rfl
  rw [hx]
  have j5:=q.aI.iu (by omega)
  rw [hx] at j5
  refine n.lit (ls:=[r1.1,r2.1]) (by simp) (by simp [i2,i3]) rfl (by decide) fun ua un uc h5 _ n=>?_
  refine aL (z:=.agg #[.int .i64 0,.int .i64 0,.int .i64 0,.slice none 0 0,.int .i32 0]) (places:=[(0,1),(1,1),(2,1),(3,1),(4,1)]) (vs:=[(0,.int .i64 18),(1,.int .i64 r2.2.next),(2,.int .i64 (r2.2.next+1)),(3,.slice ua un uc)]) (cs:=#[.int .i64 18,.int .i64 r2.2.next,.int .i64 (r2.2.next+1),.slice ua un uc,.int .i32 0]) (by kernel_rfl) (by kernel_rfl) (by simp) (by rfl) ?_
  refine aj (by kernel_rfl) (jE n (b:=b) hb3 q.aI.aI (by omega) i64c (q.iu (by omega)) j5 (by decide)) ?_
  rintro _ h6 n
  exact hK _ _ (by rw [hmm];exact n)
 rw [if_neg c6] at hmm
 refine ax (by simp [c6]) ?_
 simp
 refine aj (by kernel_rfl) (vR n q (by omega)) ?_
 rintro _ h2 ⟨rfl,n⟩
 refine aj (by kernel_rfl) (fA n (b:=b) hb1 q.took.took (by omega) (k:=gN s m1) mZ) ?_
 rintro _ h3 ⟨rfl,n⟩
 exact hK _ _ (by rw [hmm];exact n.x)
end Go.Proofs.Ytfelpjfopgiabaa
namespace Go.Proofs.Ytfelpjfopgiabaa
open Go Go.Lft
variable {s:List Int} {m:MS} {b c:Nat}
theorem lk:m.took.blocks.length=m.blocks.length:=rfl
theorem mD:m.aI.blocks.length=m.blocks.length:=rfl
theorem MS.ok.addr (h:m.ok c):(gK s m b).2.ok (c+30):=by
 unfold gK
 simp only
 split
 ·exact ((((h.took.constant).took.aD).constant).two.two).mono (by omega)
 ·exact (h.took.constant.took).mono (by omega)
theorem CV:(gK s m b).2.blocks.length=m.blocks.length:=by
 unfold gK
 simp only
 split<;>simp [lM,cZ,dg,lk]
theorem MS.ok.off (h:m.ok c):(offS s m).2.ok (c+4):=by
 unfold offS
 split
 ·exact h.took.took.took.took
 ·exact h.took.took.mono (by omega)
theorem EB:(offS s m).2.blocks.length=m.blocks.length:=by
 unfold offS;split<;>rfl
theorem MS.ok.memory {st:Bool} (h:m.ok c):(fV s m b st).ok (c+60):=by
 unfold fV
 simp only
 split
 ·exact (((h.addr).off.aD).add).mono (by omega)
 ·exact (((h.addr).off.aI).add).mono (by omega)
theorem yB {st:Bool}:(fV s m b st).blocks.length=m.blocks.length:=by
 unfold fV
 simp only
 split<;>simp [jq,dg,EB,CV,mD]
theorem MS.ok.bin {op:Int} (h:m.ok c):(binS s m b op).ok (c+60):=by
 unfold binS
 simp only
 split
 ·exact ((h.aD.aD).took.took.constant.two).mono (by omega)
 ·exact ((h.aD.aD).took.two).mono (by omega)
theorem EO {op:Int}:(binS s m b op).blocks.length=m.blocks.length:=by
 unfold binS
 simp only
 split<;>simp [lM,cZ,dg,lk]
theorem MS.ok.div (h:m.ok c):(divS s m b).ok (c+60):=by
 unfold divS
 simp only
 split
 ·exact ((h.aD).took.constant.took.took.constant.two).mono (by omega)
 ·exact ((h.aD).took.constant.took.two).mono (by omega)
theorem EC:(divS s m b).blocks.length=m.blocks.length:=by
 unfold divS
 simp only
 split<;>simp [lM,cZ,dg,lk]
theorem MS.ok.kI (h:m.ok c):(kI s m b).ok (c+70):=by
 unfold Go.Proofs.Ytfelpjfopgiabaa.kI
 simp only
 have ht:=aY (s:=s) (at_:=m.at_) (n:=5) (by decide)
 have:=(zE (s:=s) (b:=b) (x:=([],m.took)) h.took (aB s m.at_ 5).toNat).1
 exact (this.aI.took.add).mono (by omega)
theorem Dj:(kI s m b).blocks.length=m.blocks.length:=by
 unfold kI
 simp only
 rw [jq,lk,mD]
 exact xz (s:=s) (b:=b) (x:=([],m.took)) _
theorem MS.ok.fw (h:m.ok c):(aF s b m).ok (c+80):=by
 unfold aF
 simp only
 repeat' split
 ·exact h.took.bin.mono (by omega)
 ·unfold ltuS
  exact (h.took.aD.aD.two).mono (by omega)
 ·exact h.took.div.mono (by omega)
 ·exact h.took.memory.mono (by omega)
 ·exact h.took.kI.mono (by omega)
 ·unfold oK
  exact (h.took.aD.aD.aI.aI.add).mono (by omega)
 ·exact h.took.took.took.constant.mono (by omega)
theorem lT:(aF s b m).blocks.length=m.blocks.length:=by
 unfold aF
 simp only
 repeat' split
 all_goals simp [EO,ltuS,EC,yB,Dj,oK,lM,cZ,dg,lk,mD,jq]
end Go.Proofs.Ytfelpjfopgiabaa
