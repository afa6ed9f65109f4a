/- For every input SplitMany returns true: as many blocks as may be may be, one more may not. No condition. -/
import Derived.Test.YtbkdlhkoiagbbaaZSMany4
import Derived.Test.YtbkdlhkoiagbbaaRows
set_option linter.unusedSimpArgs false
set_option linter.unusedVariables false
namespace Go.Proofs.Ytbkdlhkoiagbbaa
open Go Go.Lft
section
variable {W:View} {h:Heap} {K:Nat} {ob:Own} {vb:Value} {V:Nat→Bv} {f:ae} {b:Nat} {d:BlkD}
theorem Wt.yF (w:Wt W h K ob vb V (aE f b d)) (hb:b<f.blocks.length):ah (vw h) (((slA vb).add (b*6)).add 0)=some (V b).p∧ah (vw h) ((((slA vb).add (b*6)).add 2).add 2)=some (V b).t:=by
 obtain ⟨o,w,g,r⟩:=w.ex
 have hl:b<(rows (fun c=>bkO (V c) (nth (aE f b d).blocks c)) (aE f b d).blocks.length).length:=by simpa [fe] using hb
 have a:=(w.now g.blk).at hl
 rw [dI hl] at a
 exact ⟨(a.part BkO.qS).raw,((a.part BkO.nh).part TmO.Ar).raw⟩
end
theorem ye {α:Type} [Inhabited α] {l m:List α} {i:Nat} (h:i<l.length):nth (l++m) i=nth l i:=by
 rw [aj (show i<(l++m).length by rw [List.length_append];omega),aj h,List.getElem_append_left h]
theorem oy {d:BlkD} {i:Nat} {p q:PhiD}:dx (dx d i p) i q=dx d i q:=by unfold dx;dsimp only;rw [List.set_set]
theorem Wt.phLd {W:View} {h:Heap} {K:Nat} {ob:Own} {vb:Value} {V:Nat→Bv} {f:ae} {b i:Nat} {d:BlkD} (w:Wt W h K ob vb V (aE f b d)) (hb:b<f.blocks.length) (hi:i<d.phis.length) :
  Un.ev (vw h) (.ao 2) (.pointer (some ((slA (V b).p).add (i*2))))=some (.agg #[.int .i64 (nth d.phis i).dst,(V b).pin i])∧((V b).pin i).oneCell'=true∧I64 (nth d.phis i).dst:=by
 obtain ⟨o,w,g,r⟩:=w.ex
 have hl:i<(rows (phO (V b) d) d.phis.length).length:=by simpa using hi
 obtain ⟨u,hu,hr⟩:=Owns.ldW w (g.cur hb).phis rfl (N:=2) rfl hl
 rw [dI hl] at hr
 obtain ⟨cs,rfl,c1,r1,e1,⟨q1,o1⟩,q2,o2⟩:=hr
 have q1:c1=[.int .i64 (nth d.phis i).dst]:=q1
 have q2:r1=[(V b).pin i]:=q2
 have he:cs.toList = #[Value.int .i64 (nth d.phis i).dst,(V b).pin i].toList:=by rw [e1,q1,q2];rfl
 exact ⟨by rw [hu,Array.toList_inj.1 he],o2,o1⟩
def spTo (ed:List (Int × Int)) (f:ae) (k:Nat):ae:=⟨f.params,rows (fun a=>if a<k then blE ed f.blocks.length a (nth f.blocks a) else nth f.blocks a) f.blocks.length++ed.map fun e=>fl e.2⟩
section
variable {ed:List (Int × Int)} {f:ae} {k:Nat}
theorem sy:(spTo ed f k).blocks.length=f.blocks.length+ed.length:=by simp [spTo]
theorem y9 (hk:k<f.blocks.length):aE (spTo ed f k) k (nth f.blocks k)=spTo ed f k:=by
 have:nth (spTo ed f k).blocks k=nth f.blocks k:=by
  unfold spTo;dsimp only
  rw [ye (by simpa using hk),cm hk,if_neg (Nat.lt_irrefl _)]
 rw [←this]
 exact tn (by rw [sy];omega)
theorem wX (hk:k<f.blocks.length):aE (spTo ed f k) k (blE ed f.blocks.length k (nth f.blocks k))=spTo ed f (k+1):=by
 unfold aE spTo
 dsimp only
 rw [List.set_append_left _ _ (by simpa using hk),ie (y:=fun a=>if a<k+1 then blE ed f.blocks.length a (nth f.blocks a) else nth f.blocks a) hk (by rw [if_pos (Nat.lt_succ_self k)])]
 intro j hj hne
 by_cases h:j<k
 ·rw [if_pos h,if_pos (by omega)]
 ·rw [if_neg h,if_neg (by omega)]
theorem wV:spTo ed f 0=⟨f.params,f.blocks++ed.map fun e=>fl e.2⟩:=by
 unfold spTo
 congr 2
 refine List.ext_getElem (by simp) fun i h1 h2=>?_
 rw [dI,if_neg (Nat.not_lt_zero _),aj h2]
theorem zA:spTo ed f f.blocks.length=onE ed f:=by
 unfold spTo onE
 congr 2
 refine List.ext_getElem (by simp) fun i h1 h2=>?_
 rw [dI,dI,if_pos (by simpa using h1)]
end
def d4 (ed:List (Int × Int)) (n:Nat) (a:Int) (x:BlkD) (i:Nat):BlkD:=wk x (dB (toE ed n a) x.term.to i)
def d5 (ed:List (Int × Int)) (n:Nat) (a:Int) (x:BlkD) (i:Nat):BlkD:=⟨dB (phE ed n a) x.phis i,x.ins,tmE ed n a x.term⟩
section
variable {ed:List (Int × Int)} {n:Nat} {a:Int} {x:BlkD} {i:Nat}
theorem AV:d4 ed n a x 0=x:=by unfold d4;rw [lD];rfl
theorem BX:d4 ed n a x x.term.to.length=d5 ed n a x 0:=by unfold d4 d5;rw [mS,lD];rfl
theorem Bw:d5 ed n a x x.phis.length=blE ed n a x:=by unfold d5 blE;rw [mS]
end
section
variable {H:View}
theorem yG (K:Nat) {f:ae} {ed:List (Int × Int)} {W:View} {ob:Own} {vb:Value} {V:Nat→Bv} {h:Heap} {B R D r:Nat} {es:Array MapEntry} {ck:Nat} {Q:Post} {ρ:Env}
  (sm:SmF f) (hin:wA f) (hlen:f.blocks.length+ed.length≤512) (cb : ∃ v,ah W ⟨B,1,none⟩=some v∧SlRd W v f.blocks)
  (hD:ob (K+10,0)=bx T.aH D (RawN.mk (n:=1) [.int .i64 f.params,vb])) (hX:ob (K+11,2)=none) (hr:W r=some (.map es ck)) (m0:Map2 h r fun a b=>(putE ed f.blocks.length a b).map (.int .i64))
  (t0:Wt W h K ob vb V (spTo ed f 0)) (hρ:cW [1,2,11,12,98,99] ρ=[(1,.pointer (some ⟨B,0,none⟩)),(2,.pointer (some ⟨R,0,none⟩)),(11,.pointer (some ⟨D,0,none⟩)),(12,.map (some r)),(98,.int .i64 f.blocks.length),(99,.int .i64 0)])
  (done : ∀ h',Wt W h' K ob vb V (onE ed f)→Q .normal [(1,.pointer (some ⟨B,0,none⟩)),(2,.pointer (some ⟨R,0,none⟩)),(11,.pointer (some ⟨D,0,none⟩)),(12,.map (some r)),(98,.int .i64 f.blocks.length),(99,.int .i64 f.blocks.length)] h') :
  LC.wp Try.prog (.loop L.aV.l3) (gA 4 Q) ρ h:=by
 have mp : ∀ {h':Heap},W.le (vw h')→Map2 h' r fun a b=>(putE ed f.blocks.length a b).map (.int .i64):=fun {h'} hle=>m0.same (by
  have e1:h'[r]? = some (.map es ck):=hle r _ hr
  have e2:h[r]? = some (.map es ck):=t0.wle r _ hr
  rw [e1,e2])
 have hl:=sm.len
 refine aA [1,2,11,12,98,99] (fun (_:Unit) k=>[.pointer (some ⟨B,0,none⟩),.pointer (some ⟨R,0,none⟩),.pointer (some ⟨D,0,none⟩),.map (some r),.int .i64 f.blocks.length,.int .i64 k])
  (fun _ k h1=>Wt W h1 K ob vb V (spTo ed f k)) f.blocks.length ()
  rfl (by omega) hρ t0 (fun _ _=>rfl) (fun _ k h2 hk _=>by simp) ?_ ?_
 ·rintro _ k h1 hk t1 K2 hK2
  have hb:k<(spTo ed f k).blocks.length:=by rw [sy];omega
  rw [←y9 hk] at t1
  have hsb:=sm.blk k hk
  have hik:=hin k hk
  generalize hx:nth f.blocks k=x at t1 hsb hik
  have c1:ah (vw h1) ⟨D,1,none⟩=some vb:=t1.raw (k:=(K+10,0)) (by simp) hD (i:=1) (by decide)
  have sB:=t1.blks
  have hkl:k<(aE (spTo ed f k) k x).blocks.length:=by rw [fe];exact hb
  obtain ⟨cp,ct⟩:=t1.yF hb
  refine aa fun y hy=>?_
  simp
  rw [hy];clear hy y
  refine aa fun y hy=>?_
  simp (disch:=omega) [c1,sB.idxn (N:=6) rfl]
  rw [hy];clear hy y
  refine aa fun y hy=>?_
  have t1:Wt W h1 K ob vb V (aE (spTo ed f k) k (d4 ed f.blocks.length k x 0)):=by rw [AV];exact t1
  have hto:=hsb.to
  have hl0:(d4 ed f.blocks.length k x 0).term.to.length=x.term.to.length:=gM
  simp [ct,(t1.to hb).len,hl0]
  refine aA [1,2,11,12,15,16,98,99,110,111,112] (fun (_:Unit) i=>[.pointer (some ⟨B,0,none⟩),.pointer (some ⟨R,0,none⟩),.pointer (some ⟨D,0,none⟩),.map (some r),.int .i64 k,.pointer (some ((slA vb).add (k*6))),.int .i64 f.blocks.length,.int .i64 k,(V k).t,.int .i64 x.term.to.length,.int .i64 i])
   (fun _ i h2=>Wt W h2 K ob vb V (aE (spTo ed f k) k (d4 ed f.blocks.length k x i))) x.term.to.length ()
   rfl (by omega) rfl t1 (fun _ _=>rfl) (fun _ i h2 hk _=>by simp) ?_ ?_
  ·rintro _ i h2 hi t2 K3 hK3
   have hi2:i<(d4 ed f.blocks.length k x i).term.to.length:=by show i<(dB _ _ _).length;rw [gM];exact hi
   obtain ⟨g1,g2,g3⟩:=t2.ixT hb hi2
   have e2:nth (d4 ed f.blocks.length k x i).term.to i=nth x.term.to i:=kx hi
   rw [e2] at g2 g3
   refine aa fun y2 hy2=>?_
   simp [g1,g2]
   rw [hy2];clear hy2 y2
   refine aa fun y2 hy2=>?_
   simp
   refine bc (z:=.agg #[.int .i64 0,.int .i64 0]) (places:=[(0,1),(1,1)]) (vs:=[(0,.int .i64 k),(1,.int .i64 (nth x.term.to i))]) (cs:=#[.int .i64 k,.int .i64 (nth x.term.to i)]) (by kernel_rfl) (by kernel_rfl) (by simp) rfl ?_
   refine sG (a:=k) (b:=nth x.term.to i) (z:=.int .i64 0) tw U.gn (by kernel_rfl) rfl rfl (mp t2.wle) ?_
   have hset:(d4 ed f.blocks.length k x i).term.to.set i (toE ed f.blocks.length k (nth x.term.to i))=(d4 ed f.blocks.length k x (i+1)).term.to:=lC hi
   cases hp:putE ed f.blocks.length k (nth x.term.to i) with
   | none=>
    simp
    rw [hy2];clear hy2 y2
    simp
    refine hK3 () _ _ rfl rfl ?_
    have e3:toE ed f.blocks.length k (nth x.term.to i)=nth x.term.to i:=by unfold toE;rw [hp];rfl
    have e4:d4 ed f.blocks.length k x (i+1)=d4 ed f.blocks.length k x i:=by
     have:(d4 ed f.blocks.length k x (i+1)).term.to=(d4 ed f.blocks.length k x i).term.to:=by
      rw [←hset,e3,←e2,aj hi2,List.set_getElem_self]
     unfold d4 wk at this ⊢
     dsimp only at this
     rw [this]
    rw [e4];exact t2
   | some q=>
    simp
    rw [hy2];clear hy2 y2
    have ct2:=(t2.yF hb).2
    simp [ct2,g1]
    have hq:=iC hp
    refine t2.tt hb hi2 (by kernel_rfl) rfl rfl (v:=q) (by constructor<;>omega) fun h3 t3=>?_
    refine hK3 () _ _ rfl rfl ?_
    have e3:toE ed f.blocks.length k (nth x.term.to i)=q:=by unfold toE;rw [hp];rfl
    rw [e3] at hset
    rw [hset] at t3
    exact t3
  ·rintro _ h2 t2
   rw [BX] at t2
   rw [bI,hy];clear hy y
   have cp2:=(t2.yF hb).1
   have hph:=hsb.phis
   have hl5 : ∀ i,(d5 ed f.blocks.length k x i).phis.length=x.phis.length:=fun i=>gM
   have s2:=t2.phN hb
   have sl2:Un.ev (vw h2) .len (V k).p=some (.int .i64 x.phis.length):=by
    have:=s2.len (K:=vw h2)
    simpa [hl5] using this
   refine aa fun y hy=>?_
   simp [cp2,sl2]
   rw [hy];clear hy y
   refine aA [1,2,11,12,15,98,99,138,139,140] (fun (_:Unit) i=>[.pointer (some ⟨B,0,none⟩),.pointer (some ⟨R,0,none⟩),.pointer (some ⟨D,0,none⟩),.map (some r),.int .i64 k,.int .i64 f.blocks.length,.int .i64 k,(V k).p,.int .i64 x.phis.length,.int .i64 i])
    (fun _ i h2=>Wt W h2 K ob vb V (aE (spTo ed f k) k (d5 ed f.blocks.length k x i))) x.phis.length ()
    rfl (by omega) rfl t2 (fun _ _=>rfl) (fun _ i h2 hk _=>by simp) ?_ ?_
   ·rintro _ i h3 hi t3 K3 hK3
    have hi3:i<(d5 ed f.blocks.length k x i).phis.length:=by rw [hl5];exact hi
    have ix:=t3.ixP hb hi3
    have e3:nth (d5 ed f.blocks.length k x i).phis i=nth x.phis i:=kx hi
    have lds:=t3.phLd hb hi3
    rw [e3] at lds
    refine aa fun y2 hy2=>?_
    simp [ix,lds.1]
    obtain ⟨o3,w3,g3,r3⟩:=t3.ex
    refine w3.rj (k:=(K+11,2)) (n:=1) (l:=[.int .i64 (nth x.phis i).dst,(V k).pin i]) ((r3 _ (by simp)).trans hX) (z:=.agg #[.int .i64 0,.slice none 0 0]) (by kernel_rfl) rfl (by kernel_rfl) rfl (by decide) (ee lds.2.1) (fun _=>by simp) (fun _=>by simp) fun h4 q4 w4=>?_
    generalize h3.size=X at w4
    obtain ⟨oc,hoc⟩ : ∃ oc,oc=ob.upd (K+11,2) (bx T.cH X (RawN.mk (n:=1) [.int .i64 (nth x.phis i).dst,(V k).pin i])):=⟨_,rfl⟩
    have kX:oc (K+11,2)=bx T.cH X (RawN.mk (n:=1) [.int .i64 (nth x.phis i).dst,(V k).pin i]):=by rw [hoc,Own.ag]
    have es5:dx (d5 ed f.blocks.length k x i) i ⟨(nth x.phis i).dst,dB (frmE ed f.blocks.length k) (nth x.phis i).ins 0⟩=d5 ed f.blocks.length k x i:=by
     rw [lD]
     have:(⟨(nth x.phis i).dst,(nth x.phis i).ins⟩:PhiD)=nth (d5 ed f.blocks.length k x i).phis i:=by rw [e3]
     rw [this];unfold dx
     rw [aj hi3,List.set_getElem_self]
    have t4:Wt W h4 K oc vb V (aE (spTo ed f k) k (dx (d5 ed f.blocks.length k x i) i ⟨(nth x.phis i).dst,dB (frmE ed f.blocks.length k) (nth x.phis i).ins 0⟩)):=by
     rw [es5]
     refine ⟨_,w4,g3.upd (by simp),fun q hq=>?_⟩
     rw [hoc];unfold Own.upd;split
     ·rfl
     ·exact r3 q hq
    have hs8 : ∀ l:List InD,nth (dx (d5 ed f.blocks.length k x i) i ⟨(nth x.phis i).dst,l⟩).phis i=⟨(nth x.phis i).dst,l⟩:=fun l=>by unfold dx;dsimp only;rw [az hi3,if_pos rfl]
    have hn8 : ∀ l:List InD,i<(dx (d5 ed f.blocks.length k x i) i ⟨(nth x.phis i).dst,l⟩).phis.length:=fun l=>by show i<(List.set _ _ _).length;rw [List.length_set];exact hi3
    have cX : ∀ {h':Heap} {d:BlkD},Wt W h' K oc vb V (aE (spTo ed f k) k d)→ah (vw h') ⟨X,1,none⟩=some ((V k).pin i):=fun t=>t.raw (k:=(K+11,2)) (by simp) kX (i:=1) (by decide)
    obtain ⟨i12,ind,irg⟩:=hik i hi
    clear w3 g3 r3 w4 t3
    rw [hy2];clear hy2 y2
    refine aa fun y2 hy2=>?_
    have s4:=(t4.pin hb (hn8 _)).len (K:=vw h4)
    rw [hs8] at s4
    have hl4:(dB (frmE ed f.blocks.length k) (nth x.phis i).ins 0).length=(nth x.phis i).ins.length:=gM
    simp [cX t4,s4,hl4]
    refine aA [1,2,11,12,15,22,98,99,138,139,140,146,147] (fun (_:Unit) j=>[.pointer (some ⟨B,0,none⟩),.pointer (some ⟨R,0,none⟩),.pointer (some ⟨D,0,none⟩),.map (some r),.int .i64 k,.pointer (some ⟨X,0,none⟩),.int .i64 f.blocks.length,.int .i64 k,(V k).p,.int .i64 x.phis.length,.int .i64 i,.int .i64 (nth x.phis i).ins.length,.int .i64 j])
     (fun _ j h5=>Wt W h5 K oc vb V (aE (spTo ed f k) k (dx (d5 ed f.blocks.length k x i) i ⟨(nth x.phis i).dst,dB (frmE ed f.blocks.length k) (nth x.phis i).ins j⟩))) (nth x.phis i).ins.length ()
     rfl (by omega) rfl t4 (fun _ _=>rfl) (fun _ j h5 hk _=>by simp) ?_ ?_
    ·rintro _ j h5 hj t5 K4 hK4
     have hj5:j<(nth (dx (d5 ed f.blocks.length k x i) i ⟨(nth x.phis i).dst,dB (frmE ed f.blocks.length k) (nth x.phis i).ins j⟩).phis i).ins.length:=by rw [hs8];show j<(dB _ _ _).length;rw [gM];exact hj
     obtain ⟨g1,g2,g3,g4,g5⟩:=t5.ixN hb (hn8 _) hj5
     have ej:nth (nth (dx (d5 ed f.blocks.length k x i) i ⟨(nth x.phis i).dst,dB (frmE ed f.blocks.length k) (nth x.phis i).ins j⟩).phis i).ins j=nth (nth x.phis i).ins j:=by rw [hs8];exact kx hj
     rw [ej] at g2 g3 g4 g5
     have hset:(dB (frmE ed f.blocks.length k) (nth x.phis i).ins j).set j (frmE ed f.blocks.length k (nth (nth x.phis i).ins j))=dB (frmE ed f.blocks.length k) (nth x.phis i).ins (j+1):=lC hj
     refine aa fun y3 hy3=>?_
     simp
     rw [hy3];clear hy3 y3
     refine aa fun y3 hy3=>?_
     simp [cX t5,g1,g2]
     refine bc (z:=.agg #[.int .i64 0,.int .i64 0]) (places:=[(0,1),(1,1)]) (vs:=[(0,.int .i64 (nth (nth x.phis i).ins j).frm),(1,.int .i64 k)]) (cs:=#[.int .i64 (nth (nth x.phis i).ins j).frm,.int .i64 k]) (by kernel_rfl) (by kernel_rfl) (by simp) rfl ?_
     refine sG (a:=(nth (nth x.phis i).ins j).frm) (b:=k) (z:=.int .i64 0) tw U.gn (by kernel_rfl) rfl rfl (mp t5.wle) ?_
     cases hp:putE ed f.blocks.length (nth (nth x.phis i).ins j).frm k with
     | none=>
      simp
      rw [hy3];clear hy3 y3
      simp
      refine hK4 () _ _ rfl rfl ?_
      have e6:frmE ed f.blocks.length k (nth (nth x.phis i).ins j)=nth (nth x.phis i).ins j:=by unfold frmE;rw [hp];rfl
      have e7:dB (frmE ed f.blocks.length k) (nth x.phis i).ins (j+1)=dB (frmE ed f.blocks.length k) (nth x.phis i).ins j:=by
       rw [←hset,e6]
       have hjm:j<(dB (frmE ed f.blocks.length k) (nth x.phis i).ins j).length:=by rw [gM];exact hj
       have e8:nth (nth x.phis i).ins j=nth (dB (frmE ed f.blocks.length k) (nth x.phis i).ins j) j:=(kx hj).symm
       rw [e8,aj hjm,List.set_getElem_self]
      rw [e7];exact t5
     | some q=>
      simp
      rw [hy3];clear hy3 y3
      simp [cX t5,g1]
      have hq:=iC hp
      refine t5.pf hb (hn8 _) hj5 (by kernel_rfl) rfl rfl (v:=q) (by constructor<;>omega) fun h6 t6=>?_
      refine hK4 () _ _ rfl rfl ?_
      have e6:frmE ed f.blocks.length k (nth (nth x.phis i).ins j)=⟨q,(nth (nth x.phis i).ins j).val⟩:=by unfold frmE;rw [hp];rfl
      rw [e6] at hset
      rw [ej,oy,hs8] at t6
      rw [←hset]
      exact t6
    ·rintro _ h5 t5
     rw [mS] at t5
     rw [bI,hy2];clear hy2 y2
     simp [cX t5]
     obtain ⟨o5,w5,g5,r5⟩:=t5.ex
     have hpin:=(g5.cur hb).pin i (hn8 _)
     rw [hs8] at hpin
     refine aq (by kernel_rfl) (sN (K+5,pr k i) w5 hpin (by rw [List.length_map];exact i12) (fun z hz=>by
      obtain ⟨z0,hz0,rfl⟩:=List.mem_map.1 hz
      have h1:=irg z0 hz0
      unfold frmE
      dsimp only
      cases hp:putE ed f.blocks.length z0.frm k with
      | none=>simp only [Option.getD_none];omega
      | some q=>have:=iC hp;simp only [Option.getD_some];omega)) ?_
     rintro _ h6 ⟨l',hperm,hris,w6⟩
     have hl':=oS hperm hris (uS ind irg)
     subst hl'
     have bo5:=(g5.cur hb).A5 (o':=o5.upd (K+5,pr k i) (it T.cK ((V k).pin i) (srt ((nth x.phis i).ins.map (frmE ed f.blocks.length k))))) (l:=srt ((nth x.phis i).ins.map (frmE ed f.blocks.length k))) (hn8 _) fun _=>rfl
     rw [hs8,oy] at bo5
     have t6:=Wt.wr (d':=dx (d5 ed f.blocks.length k x i) i (phE ed f.blocks.length k (nth x.phis i))) g5 r5 hb w6 ofB5 rfl bo5
     rw [hoc] at t6
     refine hK3 () _ _ rfl rfl ?_
     have e9:dx (d5 ed f.blocks.length k x i) i (phE ed f.blocks.length k (nth x.phis i))=d5 ed f.blocks.length k x (i+1):=by
      unfold dx d5
      rw [←lC hi]
     rw [←e9]
     exact t6.drop hX (by simp)
   ·rintro _ h3 t3
    rw [Bw,←hx,wX hk] at t3
    exact hK2 () _ _ rfl rfl t3
 ·rintro _ h1 t1
  rw [zA] at t1
  exact done h1 t1
end
end Go.Proofs.Ytbkdlhkoiagbbaa
namespace Go.Proofs.Ytbkdlhkoiagbbaa
open Go Go.Lft
def cntT (f:ae):Nat→Nat
 | 0=>0
 | k+1=>cntT f k+((nth f.blocks k).phis.length+(nth f.blocks k).ins.length+1)
theorem wI {f:ae} (sm:SmF f) : ∀ k,k≤f.blocks.length→cntT f k≤2000001*k
 | 0,_=>by simp [cntT]
 | k+1,hk=>by
  have h1:=wI sm k (by omega)
  have h2:=(sm.blk k (by omega)).phis
  have h3:=(sm.blk k (by omega)).ins
  unfold cntT;omega
def sJ (f:ae):Bool:=decide (512<f.blocks.length+(iR f).length)||decide (4096<(iR f).length+cntT f f.blocks.length)
def fR (f:ae):Int:=if (ig f).1≠0 then (ig f).1 else if sJ f then 2 else 0
theorem Owns.Ab {po:OP} {P:Program} {W:View} {h:Heap} {o:Own} {k:Key} {t e ty:TypeId} {us:List (Nat × Value)} {x:Operand} {d:Int} {K:Value→Heap→Prop} (w:Owns W h o) (hk:o k=none) (hT:dA P t e 1 8 (.int .i64 0)) (hx:asg us x = .int .i64 d) (hd:I64 d)
  (hK : ∀ u h',(vw h).le (vw h')→Owns W h' (o.upd k (it e u [d]))→u.oneCell'=true→K u h'):@Lft.step po P (.buildSlice t 1 #[(0,x)]) ty us h K:=by
 refine nY (vs:=[(0,.int .i64 d)]) (cs:=#[.int .i64 d]) hT (by omega) (by simp [hx]) (by
  have e1:Array.map (fun x=>(Value.int .i64 0).cells[x % (Value.int .i64 0).cells.size]!) (Array.range (1*1)) = #[.int .i64 0]:=by
   simp [Array.range,Value.cells];rfl
  rw [e1];rfl) ?_
 have hle:=bg h (.cells #[.int .i64 d] e)
 have hb:(h.push (.cells #[.int .i64 d] e))[h.size]? = some (.cells #[.int .i64 d] e (0,0)):=by simp
 generalize h.push (.cells #[.int .i64 d] e)=h1 at hle hb
 exact hK _ _ hle (w.add hk (jN (W:=W) (v:=.int .i64 d) (d:=d) hb (eF.2 ⟨rfl,hd⟩) (by decide)) hle fun b hb=>by simp only [Value.ownBlock,Option.some.injEq] at hb;omega) rfl
theorem rq {α:Type} [Inhabited α] {l:List α} {k:Nat} (h:l.Nodup) (hk:k<l.length):nth l k∉l.take k:=by
 intro hm
 obtain ⟨i,hi,e⟩:=List.getElem_of_mem hm
 rw [List.getElem_take,aj hk] at e
 have:=(List.getElem_inj h).1 e
 simp at hi;omega
theorem zL {n sz:Nat} {a:Addr} {k:IntKind} {i:Int} (h0:0≤i) (h1:i<n):Bn.ev (.aidx n sz) (.pointer (some a)) (.int k i)=some (.pointer (some (a.add (i.toNat*sz)))):=by simp [Bn.ev,vP,vI,h0,h1]
structure PutI (K:Nat) (f:ae) (ed:List (Int × Int)) (S:View) (r D:Nat) (ob:Own) (k:Nat) (h:Heap) (W:View) (o:Own) (vb:Value) (V:Nat→Bv):Prop where
 le:S.le W
 row : ∃ es c,W r=some (.map es c)
 w:Owns W h o
 fno:FnO K o vb V ⟨f.params,f.blocks++(ed.take k).map fun e=>fl e.2⟩
 box:o (K+10,0)=bx T.aH D (RawN.mk (n:=1) [.int .i64 f.params,vb])
 fr : ∀ q:Key,(q.1<K∨K+6<q.1)→q≠(K+10,0)→o q=ob q
 free : ∀ b,f.blocks.length+k≤b→∀ q,OfB K b q→o q=none
 map:Map2 h r fun a b=>(putE (ed.take k) f.blocks.length a b).map (.int .i64)
theorem mz (K:Nat) {f:ae} {v:Value} {h:Heap} {W:View} {o0:Own} (w0:Owns W h o0) (ho0 : ∀ k:Key,K≤k.1→k.1≤K+13→o0 k=none) (hv:Rd W v f) (sm:SmF f) (hi:(ig f).1=0→wA f) :
    ay Try.prog N.aV #[v] h (fun u h'=>∃ W',W.le W'∧
      ((fR f≠0∧u = .tuple #[.agg #[.int .i64 0,.slice none 0 0],.int .i64 (fR f)]∧Owns W' h' o0)∨
       (fR f=0∧∃ o' vb V,u = .tuple #[.agg #[.int .i64 f.params,vb],.int .i64 0]∧I64 f.params∧Owns W' h' o'∧FnO K o' vb V (kb f)∧∀ k:Key,(k.1<K∨K+6<k.1)→o' k=o0 k))):=by
  refine an (args:=[v]) follows F.aV E.aV (Nat.le_of_ble_eq_true (by kernel_rfl)) fun Kc hK=>?_
  dsimp only [L.aV]
  refine aa fun z hz=>?_
  simp
  refine Owns.AN w0 (d:=f) rfl hv fun B h1 W1 hW1 w1 hat hle1=>?_
  obtain ⟨cp,vb0,cb0⟩:=iE hat
  obtain ⟨uf,huf,rf⟩:=hat.ao rfl
  have huf:Un.ev W1 (.ao 2) (.pointer (some ⟨B,0,none⟩))=some uf:=huf
  have hufm : ∀ {H:View},W1.le H→Un.ev H (.ao 2) (.pointer (some ⟨B,0,none⟩))=some uf:=fun hH=>by
    have:=cA (ρ:=fun _=>none) (e:=.un (.ao 2) (.con (.pointer (some ⟨B,0,none⟩)))) hH (by simpa using huf)
    simpa using this
  refine w1.mB (k:=(K+10,1)) (n:=1) (z:=.agg #[.int .i64 0,.slice none 0 0]) (ho0 _ (by simp) (by simp)) (by kernel_rfl) rfl (by decide) (by simp [Value.cells,Value.oneCell']) fun h2 q2 w2=>?_
  generalize h1.size=R at w2
  rw [hz];clear hz z
  refine aa fun z hz=>?_
  simp [hufm w2.wle]
  refine aq (by kernel_rfl) (Al (rf.mono w2.wle) sm) ?_
  rintro _ h3 ⟨rfl,hle3⟩
  have w3:Owns W1 h3 (o0.upd (K+10,1) (bx T.aH R (RawN.mk (n:=1) [.int .i64 0,.slice none 0 0]))):=w2.ext' hle3
  have hw1 : ∀ k:Key,k≠(K+10,1)→(o0.upd (K+10,1) (bx T.aH R (RawN.mk (n:=1) [.int .i64 0,.slice none 0 0]))) k=o0 k:=fun k hk=>Own.ab hk
  simp
  rw [hz];clear hz z
  refine aa fun z hz=>?_
  obtain ⟨e,he⟩ : ∃ e,e=(ig f).1:=⟨_,rfl⟩
  have kR:(o0.upd (K+10,1) (bx T.aH R (RawN.mk (n:=1) [.int .i64 0,.slice none 0 0]))) (K+10,1)=bx T.aH R (RawN.mk (n:=1) [.int .i64 0,.slice none 0 0]):=Own.ag
  generalize o0.upd (K+10,1) (bx T.aH R (RawN.mk (n:=1) [.int .i64 0,.slice none 0 0]))=o1 at w3 hw1 kR
  simp [←he]
  refine ⟨fun e0=>?_,fun e0=>?_⟩
  rotate_left
  · refine bc (z:=.agg #[.int .i64 0,.slice none 0 0]) (places:=[(0,1),(1,1)]) (vs:=[]) (cs:=#[.int .i64 0,.slice none 0 0]) (by kernel_rfl) (by kernel_rfl) (by simp) (by rfl) ?_
    refine w3.gR (k:=(K+10,1)) (e:=T.aH) (B:=R) Part.all (d:=RawN.mk (n:=1) [.int .i64 0,.slice none 0 0]) kR (by kernel_rfl) rfl rfl (fU rfl (ee rfl)) fun h4 w4 _=>?_
    have c4:Un.ev (vw h4) (.ao 2) (.pointer (some ⟨R,0,none⟩))=some (.agg #[.int .i64 0,.slice none 0 0]):=w4.eR (k:=(K+10,1)) (n:=1) Own.ag
    simp [c4]
    have hs:fR f=e:=by unfold fR;rw [←he,if_pos e0]
    refine hK _ _ ⟨W1,?_,.inl ⟨by rw [hs];exact e0,by rw [hs],w4.sub fun q i hq=>?_⟩⟩
    · exact hW1
    · have hne:q≠(K+10,1):=by rintro rfl;rw [ho0 _ (by simp) (by simp)] at hq;cases hq
      rw [Own.ab hne,hw1 q hne];exact hq
  · have rf3:=rf.mono w3.wle
    obtain ⟨vb1,rfl,ip,sb1⟩:=sA rf
    have hin:=hi (he.symm.trans e0)
    rw [hz];clear hz z
    refine aa fun z hz=>?_
    simp [hufm w3.wle]
    refine aq (by kernel_rfl) (og (sb1.mono w3.wle) (Nat.le_trans sm.len (by decide)) fun i hi=>Nat.le_trans (sm.blk i hi).to (by decide)) ?_
    rintro ug h4 ⟨hle4,sg4⟩
    have sm4:Sm (ofG f.blocks):=y0 (Nat.le_trans sm.len (by decide)) fun i hi=>Nat.le_trans (sm.blk i hi).to (by decide)
    refine aq (by kernel_rfl) (sY (sg4.mono (fu _ _)) sm4) ?_
    rintro ue h5 ⟨hle5,se5⟩
    rw [hz];clear hz z
    have se5:SlRd (fresh h4 h5) ue (iR f):=se5
    generalize hE:iR f=ed at se5
    refine aa fun z hz=>?_
    simp [se5.len]
    rw [hz];clear hz z
    refine aa fun z hz=>?_
    have w5:=(w3.ext' hle4).ext hle5
    have hW5:W1.le (grow W1 h4 h5):=dU (View.le_trans w3.wle hle4)
    have eE:=se5.mono (jo W1 h4 h5)
    have sbm:=sb1.mono hW5
    have cp5:=af hW5 cp
    have cb5:=af hW5 cb0.1
    have sb5:=cb0.2.mono hW5
    have uf5 : ∀ {H:View},(grow W1 h4 h5).le H→Un.ev H (.ao 2) (.pointer (some ⟨B,0,none⟩))=some (.agg #[.int .i64 f.params,vb1]):=fun hH=>hufm (View.le_trans hW5 hH)
    obtain ⟨W5,hW5e⟩ : ∃ W5,W5=grow W1 h4 h5:=⟨_,rfl⟩
    rw [←hW5e] at w5 hW5 eE sbm cp5 cb5 sb5 uf5
    clear hW5e
    have nX : ∀ i,o1 (K+11,i)=none:=fun i=>(hw1 _ (by simp)).trans (ho0 _ (by simp) (by simp))
    have cl:=fun k hk=>wI sm k hk
    have hl:=sm.len
    have hEl:ed.length≤1000000000000:=by rw [←hE];exact Nat.le_trans (List.length_filter_le _ _) (lM sm4)
    simp [af w5.wle cb5,(sb5.mono w5.wle).len]
    refine aA [1,2,7,8,42,43,44] (fun (_:Unit) k=>[.pointer (some ⟨B,0,none⟩),.pointer (some ⟨R,0,none⟩),ue,.int .i64 ((ed.length+cntT f k:Nat):Int),vb0,.int .i64 f.blocks.length,.int .i64 k]) (fun _ k h6=>Owns W5 h6 o1) f.blocks.length ()
      rfl (by omega) rfl w5 (fun _ _=>rfl) (fun _ k h2 hk _=>by simp) ?_ ?_
    · rintro _ k h6 hk w6 K2 hK2
      obtain ⟨ux,hux,rux⟩:=sb5.wh rfl (N:=6) rfl hk
      have s6:=sb5.mono w6.wle
      refine aa fun y hy=>?_
      simp (disch:=omega) [s6.idxn (N:=6) rfl,hux _ w6.wle]
      refine w6.kJ (k:=(K+11,0)) (α:=BlkD) (n:=6) (nX 0) rux rfl (z:=.agg #[.slice none 0 0,.slice none 0 0,.int .i64 0,.slice none 0 0,.slice none 0 0,.int .i32 0]) (by kernel_rfl) rfl (by kernel_rfl) (by decide) (fun _=>by simp) (fun _=>by simp) fun h7 q7 w7=>?_
      generalize h6.size=X at w7
      have hat7:=w7.at (k:=(K+11,0)) (d:=nth f.blocks k) (e:=T.aD) (B:=X) Own.ag
      obtain ⟨vp,vi,va,vt,gp,gi,_,_,_⟩:=me hat7
      have hsb:=sm.blk k hk
      have b1:=hsb.phis
      have b2:=hsb.ins
      have b3:=cl k (by omega)
      rw [hy];clear hy y
      simp [gp.1,gp.2.len,gi.1,gi.2.len]
      rw [cw (a:=((nth f.blocks k).phis.length:Int)+(nth f.blocks k).ins.length) (by omega) (by omega),cw (a:=((nth f.blocks k).phis.length:Int)+(nth f.blocks k).ins.length+1) (by omega) (by omega),cw (by omega) (by omega)]
      refine hK2 () _ _ rfl ?_ (w7.sub fun q i hq=>?_)
      · have ec:((ed.length+cntT f (k+1):Nat):Int)=(ed.length:Int)+cntT f k+((nth f.blocks k).phis.length+(nth f.blocks k).ins.length+1):=by
          show ((ed.length+(cntT f k+((nth f.blocks k).phis.length+(nth f.blocks k).ins.length+1)):Nat):Int)=_
          omega
        rw [ec]
        rfl
      · rw [Own.ab (by rintro rfl;rw [nX] at hq;cases hq)];exact hq
    · rintro _ h6 w6
      rw [bI,hz];clear hz z
      refine aa fun z hz=>?_
      simp [af w6.wle cb5,(sb5.mono w6.wle).len,(eE.mono w6.wle).len]
      rw [cw (by omega) (by omega)]
      obtain ⟨mb,hmb⟩ : ∃ mb,mb=(decide (512<(f.blocks.length:Int)+ed.length)||decide (4096<(ed.length:Int)+cntT f f.blocks.length)):=⟨_,rfl⟩
      have hmany:sJ f=mb:=by
        rw [hmb];unfold sJ;rw [hE]
        congr 1<;>exact decide_eq_decide.2 (by omega)
      rw [←hmb]
      cases mb with
      | true=>
        simp
        refine bc (z:=.agg #[.int .i64 0,.slice none 0 0]) (places:=[(0,1),(1,1)]) (vs:=[]) (cs:=#[.int .i64 0,.slice none 0 0]) (by kernel_rfl) (by kernel_rfl) (by simp) (by rfl) ?_
        refine w6.gR (k:=(K+10,1)) (e:=T.aH) (B:=R) Part.all (d:=RawN.mk (n:=1) [.int .i64 0,.slice none 0 0]) kR (by kernel_rfl) rfl rfl (fU rfl (ee rfl)) fun h4 w4 _=>?_
        have c4:Un.ev (vw h4) (.ao 2) (.pointer (some ⟨R,0,none⟩))=some (.agg #[.int .i64 0,.slice none 0 0]):=w4.eR (k:=(K+10,1)) (n:=1) Own.ag
        simp [c4]
        have hs:fR f=2:=by unfold fR;rw [←he,if_neg (by omega),hmany];rfl
        refine hK _ _ ⟨W5,?_,.inl ⟨by rw [hs];decide,by rw [hs],w4.sub fun q i hq=>?_⟩⟩
        · exact View.le_trans hW1 hW5
        · have hne:q≠(K+10,1):=by rintro rfl;rw [ho0 _ (by simp) (by simp)] at hq;cases hq
          rw [Own.ab hne,hw1 q hne];exact hq
      | false=>
        simp
        have hs0:fR f=0:=by unfold fR;rw [←he,if_neg (by omega),hmany];rfl
        have l512:f.blocks.length+ed.length≤512:=by
          have:=Bool.or_eq_false_iff.1 hmb.symm
          have:=of_decide_eq_false this.1;omega
        have w6:Owns W5 h6 o1:=w6
        rw [hz];clear hz z
        refine aa fun z hz=>?_
        simp [uf5 w6.wle]
        refine aq (by kernel_rfl) (Bz K w6 (fun k h1 h2=>(hw1 k (by rintro rfl;simp at h2)).trans (ho0 k h1 (by omega))) (rf.mono hW5) sm) ?_
        rintro _ h7 ⟨o7,vb,V,rfl,_,w7,g7,fr7,free7⟩
        have o7n : ∀ q:Key,K≤q.1→q.1≤K+13→(K+6<q.1)→q≠(K+10,1)→o7 q=none:=fun q h1 h2 h3 h4=>(fr7 q (.inr h3)).trans ((hw1 q h4).trans (ho0 q h1 h2))
        refine w7.rj (k:=(K+10,0)) (n:=1) (l:=[.int .i64 f.params,vb]) (o7n _ (by simp) (by simp) (by simp) (by simp)) (z:=.agg #[.int .i64 0,.slice none 0 0]) (by kernel_rfl) rfl (by kernel_rfl) rfl (by decide) (ee (w7.cells g7.blk).2) (fun _=>by simp) (fun _=>by simp) fun h8 q8 w8=>?_
        generalize h7.size=D at w8
        rw [hz];clear hz z
        refine aa fun z hz=>?_
        simp
        refine lY ?_
        have q9:=bg h8 (.map #[] 0)
        have m9:Map2 (h8.push (.map #[] 0)) h8.size (fun _ _=>none):=Map2.none (by simp)
        have w9:=w8.ext q9
        have r9:grow W5 h8 (h8.push (.map #[] 0)) h8.size=some (.map #[] 0):=by rw [iz (Nat.le_refl _)];simp
        generalize h8.push (.map #[] 0)=h9 at q9 m9 w9 r9
        have hr5:W5 h8.size=none:=View.da w8.wle (Nat.le_refl _)
        generalize h8.size=r at m9 r9 hr5
        have hW9:W5.le (grow W5 h8 h9):=dU w8.wle
        generalize grow W5 h8 h9=W9 at w9 r9 hW9
        rw [hz];clear hz z
        refine aa fun z hz=>?_
        have eS:SlRd W5 ue ed:=eE
        have hnd:ed.Nodup:=by rw [←hE];exact jA
        have w9:Owns W9 h9 (o7.upd (K+10,0) (bx T.aH D (RawN.mk (n:=1) [.int .i64 f.params,vb]))):=w9
        obtain ⟨o8,ho8⟩ : ∃ o8,o8=o7.upd (K+10,0) (bx T.aH D (RawN.mk (n:=1) [.int .i64 f.params,vb])):=⟨_,rfl⟩
        have kD:o8 (K+10,0)=bx T.aH D (RawN.mk (n:=1) [.int .i64 f.params,vb]):=by rw [ho8];exact Own.ag
        have kX : ∀ i,o8 (K+11,i)=none:=fun i=>by rw [ho8,Own.ab (by simp)];exact o7n _ (by simp) (by simp) (by simp) (by simp)
        have p0:PutI K f ed W5 r D o8 0 h9 W9 o8 vb V:=
          ⟨hW9,⟨_,_,r9⟩,by rw [ho8];exact w9,by rw [ho8];simpa using g7.upd (by simp),kD,fun _ _ _=>rfl,fun b hb q hq=>by rw [ho8,Own.ab (by rintro rfl;have:=eL hq;simp at this)];exact free7 b (by omega) q hq,by simpa [yr] using m9⟩
        simp [(eS.mono (View.le_trans hW9 w9.wle)).len]
        refine aA [1,2,11,12,74,75,76] (fun (_:Unit) k=>[.pointer (some ⟨B,0,none⟩),.pointer (some ⟨R,0,none⟩),.pointer (some ⟨D,0,none⟩),.map (some r),ue,.int .i64 ed.length,.int .i64 k]) (fun _ k h6=>∃ W' o' vb' V',PutI K f ed W5 r D o8 k h6 W' o' vb' V') ed.length ()
          rfl (by omega) rfl ⟨_,_,_,_,p0⟩ (fun _ _=>rfl) (fun _ k h2 hk _=>by simp) ?_ ?_
        · rintro _ k h10 hk ⟨W',o',vb',V',pk⟩ K2 hK2
          have hnk:nth ed k∉ed.take k:=rq hnd hk
          have hI:I64 (nth ed k).1∧I64 (nth ed k).2:=by
            obtain ⟨u,_,h2⟩:=eS.wh rfl (N:=2) rfl hk
            exact (qZ.1 h2).2
          have s10:=eS.mono (View.le_trans pk.le pk.w.wle)
          have hex:=eS.pair (View.le_trans pk.le pk.w.wle) hk
          generalize hn:nth ed k=e1 at hnk hI hex
          obtain ⟨ea,eb⟩:=e1
          refine aa fun y hy=>?_
          simp (disch:=omega) [s10.idxn (N:=2) rfl,hex]
          refine pk.w.rj (k:=(K+11,1)) (n:=1) (l:=[.int .i64 ea,.int .i64 eb]) ((pk.fr _ (by simp) (by simp)).trans (kX 1)) (z:=.agg #[.int .i64 0,.int .i64 0]) (by kernel_rfl) rfl (by kernel_rfl) rfl (by decide) (ee rfl) (fun _=>by simp) (fun _=>by simp) fun h11 q11 w11=>?_
          generalize h10.size=X at w11
          have c0:Un.ev (vw h11) (.ao 2) (.pointer (some ⟨X,0,none⟩))=some (.agg #[.int .i64 ea,.int .i64 eb]):=w11.eR (k:=(K+11,1)) (n:=1) Own.ag
          have c1:ah (vw h11) ⟨D,1,none⟩=some vb':=w11.raw (k:=(K+10,0)) (e:=T.aH) (n:=1) (by rw [Own.ab (by simp)];exact pk.box) (i:=1) (by decide)
          have g11:FnO K (o'.upd (K+11,1) (bx T.jl X (RawN.mk (n:=1) [.int .i64 ea,.int .i64 eb]))) vb' V' ⟨f.params,f.blocks++(ed.take k).map fun e=>fl e.2⟩:=pk.fno.upd (by simp)
          have hlk:(ed.take k).length=k:=by rw [List.length_take];omega
          have s11:=g11.rd w11
          have hl11:(f.blocks++(ed.take k).map fun e=>fl e.2).length=f.blocks.length+k:=by rw [List.length_append,List.length_map,hlk]
          have hmk:min k ed.length=k:=by omega
          rw [hy];clear hy y
          refine aa fun y hy=>?_
          simp [c0,c1,s11.len,hmk]
          refine zM tw U.gn rfl rfl rfl (pk.map.ext q11) (a:=ea) (b:=eb) (by
            have:putE (ed.take k) f.blocks.length ea eb=none:=by unfold putE;rw [if_neg hnk]
            rw [this];rfl) fun h12 hs12 ho12 m12=>?_
          obtain ⟨es,ck,hrow⟩:=pk.row
          obtain ⟨es',ck',hr',_⟩:=m12.ex
          have w12:=w11.turn hrow (fun _ _ _=>Obj.noConfusion) hr' hs12 ho12
          have le12:W5.le (W'.set r (.map es' ck')):=fun b x hb=>by
            unfold View.set
            split
            · rename_i e;subst e;rw [hr5] at hb;cases hb
            · exact pk.le _ _ hb
          rw [hy];clear hy y
          have d0:ah (vw h12) ⟨X,1,none⟩=some (.int .i64 eb):=w12.raw (k:=(K+11,1)) (n:=1) Own.ag (i:=1) (by decide)
          have d1:ah (vw h12) ⟨D,1,none⟩=some vb':=w12.raw (k:=(K+10,0)) (e:=T.aH) (n:=1) (by rw [Own.ab (by simp)];exact pk.box) (i:=1) (by decide)
          simp (disch:=omega) [zL,d0,d1]
          have fk : ∀ q,OfB K (f.blocks.length+k) q→o' q=none:=pk.free _ (Nat.le_refl _)
          refine Owns.Ab (k:=(K+4,f.blocks.length+k)) (d:=eb) w12 (by rw [Own.ab (by simp)];exact fk _ (.inl ⟨rfl,by simp,by simp⟩)) El.bV rfl hI.2 fun u h13 q13 w13 hu=>?_
          refine bc (z:=.agg #[.int .i64 0,.slice none 0 0,.slice none 0 0,.int .i32 0]) (places:=[(0,1),(1,1),(2,1),(3,1)]) (vs:=[(0,.int .i64 1),(2,u)]) (cs:=#[.int .i64 1,.slice none 0 0,u,.int .i32 0]) (by kernel_rfl) (by kernel_rfl) (by simp) (by cases u<;>first | rfl | cases hu) ?_
          refine bc (z:=.agg #[.slice none 0 0,.slice none 0 0,.int .i64 0,.slice none 0 0,.slice none 0 0,.int .i32 0]) (places:=[(0,1),(1,1),(2,4)]) (vs:=[(2,.agg #[.int .i64 1,.slice none 0 0,u,.int .i32 0])]) (cs:=#[.slice none 0 0,.slice none 0 0,.int .i64 1,.slice none 0 0,u,.int .i32 0]) (by kernel_rfl) (by kernel_rfl) (by simp) (by rfl) ?_
          obtain ⟨Vn,hVn⟩ : ∃ Vn:Bv,Vn=⟨.slice none 0 0,.slice none 0 0,.slice none 0 0,u,fun _=>.slice none 0 0,fun _=>.slice none 0 0⟩:=⟨_,rfl⟩
          refine w13.kL (k:=(K,0)) (α:=BkO) (v:=vb') (d:=bkO Vn (fl eb)) (by rw [Own.ab (by simp),Own.ab (by simp)];exact pk.fno.blk) El.eA rfl (by rw [hVn];exact zc rfl rfl rfl hu ⟨by decide,by decide⟩ ⟨by decide,by decide⟩) (by simp;omega) (by simp;omega) (fun _=>rfl) (fun _=>rfl) fun u5 v5 h14 w14 _=>?_
          have hv5:=(w14.cells (k:=(K,0)) Own.ag).2
          refine w14.dV (k:=(K+10,0)) (n:=1) (i:=1) (e:=T.aH) (B:=D) (l:=[.int .i64 f.params,vb']) (by rw [Own.ab (by simp),Own.ab (by simp),Own.ab (by simp)];exact pk.box) (by decide) (by kernel_rfl) rfl rfl hv5 fun h15 w15 _=>?_
          obtain ⟨O,hO⟩ : ∃ O:Own,O=(((o'.upd (K+11,1) (bx T.jl X (RawN.mk (n:=1) [.int .i64 ea,.int .i64 eb]))).upd (K+4,f.blocks.length+k) (it T.int u [eb])).upd (K,0) (it T.aD v5 (rows (fun b=>bkO (V' b) (nth (f.blocks++(ed.take k).map fun e=>fl e.2) b)) (f.blocks++(ed.take k).map fun e=>fl e.2).length++[bkO Vn (fl eb)]))).upd (K+10,0) (bx T.aH D (RawN.mk (n:=1) [.int .i64 f.params,v5])):=⟨_,rfl⟩
          have w15:Owns (W'.set r (.map es' ck')) h15 O:=by rw [hO];exact w15
          have O0:O (K,0)=it T.aD v5 (rows (fun b=>bkO (V' b) (nth (f.blocks++(ed.take k).map fun e=>fl e.2) b)) (f.blocks++(ed.take k).map fun e=>fl e.2).length++[bkO Vn (fl eb)]):=by rw [hO,Own.ab (by simp),Own.ag]
          have O10:O (K+10,0)=bx T.aH D (RawN.mk (n:=1) [.int .i64 f.params,v5]):=by rw [hO,Own.ag]
          have O4:O (K+4,f.blocks.length+k)=it T.int u [eb]:=by rw [hO,Own.ab (by simp),Own.ab (by simp),Own.ag]
          have Of : ∀ q,q≠(K+11,1)→q≠(K+4,f.blocks.length+k)→q≠(K,0)→q≠(K+10,0)→O q=o' q:=fun q h1 h2 h3 h4=>by rw [hO,Own.ab h4,Own.ab h3,Own.ab h2,Own.ab h1]
          clear hO
          obtain ⟨oF,hoF⟩ : ∃ oF:Own,oF=fun q=>if q=(K+11,1) then none else if q=(K+1,f.blocks.length+k) then it T.cH (.slice none 0 0) ([]:List PhO) else if q=(K+2,f.blocks.length+k) then it T.cd (.slice none 0 0) ([]:List InO) else if q=(K+3,f.blocks.length+k) then it T.int (.slice none 0 0) ([]:List Int) else O q:=⟨_,rfl⟩
          have F1:oF (K+1,f.blocks.length+k)=it T.cH (.slice none 0 0) ([]:List PhO):=by rw [hoF];simp
          have F2:oF (K+2,f.blocks.length+k)=it T.cd (.slice none 0 0) ([]:List InO):=by rw [hoF];simp
          have F3:oF (K+3,f.blocks.length+k)=it T.int (.slice none 0 0) ([]:List Int):=by rw [hoF];simp
          have F11:oF (K+11,1)=none:=by rw [hoF];simp
          have Ff : ∀ q,q≠(K+11,1)→q≠(K+1,f.blocks.length+k)→q≠(K+2,f.blocks.length+k)→q≠(K+3,f.blocks.length+k)→oF q=O q:=fun q h1 h2 h3 h4=>by rw [hoF];simp only [h1,h2,h3,h4,if_false]
          have wF:Owns (W'.set r (.map es' ck')) h15 oF:=Owns.nils w15 fun q i hq=>by
            by_cases e1:q=(K+11,1)
            · rw [e1,F11] at hq;cases hq
            by_cases e2:q=(K+1,f.blocks.length+k)
            · rw [e2,F1] at hq;cases hq;exact .inr ⟨rfl,OwnT.nil (α:=PhO) _ h15 T.cH⟩
            by_cases e3:q=(K+2,f.blocks.length+k)
            · rw [e3,F2] at hq;cases hq;exact .inr ⟨rfl,OwnT.nil (α:=InO) _ h15 T.cd⟩
            by_cases e4:q=(K+3,f.blocks.length+k)
            · rw [e4,F3] at hq;cases hq;exact .inr ⟨rfl,OwnT.nil (α:=Int) _ h15 T.int⟩
            rw [Ff q e1 e2 e3 e4] at hq;exact .inl hq
          clear hoF
          have nb : ∀ {b:Nat} {q:Key},b≠f.blocks.length+k→OfB K b q→oF q=o' q:=fun {b q} hb h=>by
            have h1:=eL h
            have h2:=qN hb h
            have n4:q≠(K+4,f.blocks.length+k):=by rintro rfl;exact h2 (.inl ⟨rfl,by simp,by simp⟩)
            have n1:q≠(K+1,f.blocks.length+k):=by rintro rfl;exact h2 (.inl ⟨rfl,by simp,by simp⟩)
            have n2:q≠(K+2,f.blocks.length+k):=by rintro rfl;exact h2 (.inl ⟨rfl,by simp,by simp⟩)
            have n3:q≠(K+3,f.blocks.length+k):=by rintro rfl;exact h2 (.inl ⟨rfl,by simp,by simp⟩)
            have n11:q≠(K+11,1):=by rintro rfl;simp at h1
            have n0:q≠(K,0):=by rintro rfl;simp at h1;omega
            have n10:q≠(K+10,0):=by rintro rfl;simp at h1
            rw [Ff q n11 n1 n2 n3,Of q n11 n4 n0 n10]
          have etk:ed.take (k+1)=ed.take k++[(ea,eb)]:=by
            rw [List.take_succ_eq_append_getElem hk,←aj hk,hn]
          have ebl:f.blocks++(ed.take (k+1)).map (fun e=>fl e.2)=(f.blocks++(ed.take k).map fun e=>fl e.2)++[fl eb]:=by
            rw [etk,List.map_append,List.append_assoc];rfl
          have bo:BO K oF (f.blocks.length+k) Vn (fl eb):=by
            rw [hVn]
            exact ⟨F1,F2,F3,by rw [Ff _ (by simp) (by simp) (by simp) (by simp)];exact O4,fun i hi=>absurd hi (Nat.not_lt_zero _),fun i hi=>absurd hi (Nat.not_lt_zero _)⟩
          refine hK2 () _ _ rfl rfl ⟨_,oF,v5,fun b=>if b=(f.blocks++(ed.take k).map fun e=>fl e.2).length then Vn else V' b,le12,⟨es',ck',by unfold View.set;rw [if_pos rfl]⟩,wF,?_,?_,fun q hq hq2=>?_,fun b hb q hq=>?_,?_⟩
          · rw [ebl]
            refine pk.fno.push (Vn:=Vn) (x:=bkO Vn (fl eb)) rfl ?_ (fun b hb q hq=>?_) ?_
            · rw [Ff _ (by simp) (by simp) (by simp) (by simp)];exact O0
            · rw [hl11] at hb;exact nb (by omega) hq
            · rw [hl11];exact bo
          · rw [Ff _ (by simp) (by simp) (by simp) (by simp)];exact O10
          · by_cases e:q=(K+11,1)
            · rw [e,F11];exact (kX 1).symm
            · rw [Ff q e (by rintro rfl;dsimp only at hq;omega) (by rintro rfl;dsimp only at hq;omega) (by rintro rfl;dsimp only at hq;omega),Of q e (by rintro rfl;dsimp only at hq;omega) (by rintro rfl;dsimp only at hq;omega) hq2]
              exact pk.fr q hq hq2
          · rw [nb (by omega) hq];exact pk.free b (by omega) q hq
          · have m15:Map2 h15 r _:=m12.same (by
              have:=wF.wle r (.map es' ck') (by unfold View.set;rw [if_pos rfl])
              have:h15[r]? = some (.map es' ck'):=this
              rw [this,hr'])
            have ef:(fun a b=>(putE (ed.take (k+1)) f.blocks.length a b).map (Value.int .i64))=fun c d=>if c=ea∧d=eb then some (.int .i64 ((f.blocks.length:Int)+k)) else (putE (ed.take k) f.blocks.length c d).map (.int .i64):=by
              funext c d
              rw [etk,xF hnk,hlk]
              dsimp only
              split<;>rfl
            rw [ef];exact m15
        · rintro _ h10 ⟨W',o',vb',V',pk⟩
          rw [bI,hz];clear hz z
          refine aa fun z hz=>?_
          have hatS:At W5 ⟨B,0,none⟩ f:=hat.mono hW5
          obtain ⟨_,vbS,cbS⟩:=iE hatS
          have cbW:=af pk.le cbS.1
          have sbW:=cbS.2.mono pk.le
          simp [af pk.w.wle cbW,(sbW.mono pk.w.wle).len]
          obtain ⟨es,ck,hrow⟩:=pk.row
          have fn0:=pk.fno
          have mp0:=pk.map
          rw [List.take_length] at fn0 mp0
          refine yG K (B:=B) (R:=R) (D:=D) (r:=r) (ed:=ed) sm hin l512 ⟨vbS,cbW,sbW⟩ pk.box ((pk.fr _ (by simp) (by simp)).trans (kX 2)) hrow mp0 (by rw [wV];exact ⟨o',pk.w,fn0,fun _ _=>rfl⟩) rfl fun h11 t11=>?_
          rw [bI,hz];clear hz z
          have cD:=t11.eR (k:=(K+10,0)) (by simp) pk.box
          have cD:Un.ev (vw h11) (.ao 2) (.pointer (some ⟨D,0,none⟩))=some (.agg #[.int .i64 f.params,vb']):=cD
          simp [cD]
          obtain ⟨o11,w11,g11,r11⟩:=t11.ex
          have kR11:o11 (K+10,1)=bx T.aH R (RawN.mk (n:=1) [.int .i64 0,.slice none 0 0]):=by
            rw [r11 _ (by simp),pk.fr _ (by simp) (by simp),ho8,Own.ab (by simp),fr7 _ (by simp)];exact kR
          refine w11.gR (k:=(K+10,1)) (e:=T.aH) (B:=R) Part.all (d:=RawN.mk (n:=1) [.int .i64 f.params,vb']) kR11 (by kernel_rfl) rfl rfl (fU rfl (ee (w11.cells g11.blk).2)) fun h12 w12 _=>?_
          have c12:Un.ev (vw h12) (.ao 2) (.pointer (some ⟨R,0,none⟩))=some (.agg #[.int .i64 f.params,vb']):=w12.eR (k:=(K+10,1)) (n:=1) Own.ag
          simp [c12]
          refine hK _ _ ⟨W',?_,.inr ⟨hs0,fun q=>if q=(K+10,0)∨q=(K+10,1) then none else o11 q,vb',V',rfl,ip,w12.sub fun q i hq=>?_,?_,fun q hq=>?_⟩⟩
          · exact View.le_trans hW1 (View.le_trans hW5 pk.le)
          · split at hq
            · cases hq
            · rename_i e
              rw [Own.ab (fun g=>e (.inr g))];exact hq
          · have hsp:kb f=onE ed f:=by unfold kb;rw [hE]
            rw [hsp]
            exact g11.congr fun q h1 h2=>if_neg (by rintro (rfl | rfl)<;>simp at h2)
          · by_cases e:q=(K+10,0)∨q=(K+10,1)
            · refine (if_pos e).trans ?_
              rcases e with rfl | rfl<;>exact (ho0 _ (by simp) (by simp)).symm
            · refine (if_neg e).trans ?_
              rw [r11 q hq,pk.fr q hq (fun g=>e (.inl g)),ho8,Own.ab (fun g=>e (.inl g)),fr7 q hq,hw1 q (fun g=>e (.inr g))]
end Go.Proofs.Ytbkdlhkoiagbbaa
namespace Go.Proofs.Ytbkdlhkoiagbbaa
open Go Go.Lft
def exF:ae:=⟨1,[⟨[],[],⟨2,[0],[1,2],⟨0⟩⟩⟩,⟨[],[],⟨1,[],[2],⟨0⟩⟩⟩,⟨[⟨1,[⟨0,0⟩,⟨1,0⟩]⟩],[],⟨4,[1],[],⟨0⟩⟩⟩]⟩
def exG:ae:=⟨1,[⟨[],[],⟨2,[0],[1,3],⟨0⟩⟩⟩,⟨[],[],⟨1,[],[2],⟨0⟩⟩⟩,⟨[⟨1,[⟨1,0⟩,⟨3,0⟩]⟩],[],⟨4,[1],[],⟨0⟩⟩⟩,⟨[],[],⟨1,[],[2],⟨0⟩⟩⟩]⟩
section
variable {g g':Gr}
theorem vf (hl:g.length=g'.length) (h : ∀ a b,ek g a b=ek g' a b):gN g=gN g':=by
 have h1:cV g=cV g':=by
  funext a;unfold cV;rw [hl];congr 1;funext b;rw [h]
 have h2:ez g=ez g':=by
  unfold ez;rw [hl];congr 1;funext b;congr 1;funext a;rw [h]
 unfold gN oe wz
 rw [h1,h2,hl]
end
theorem yv {f:ae}:iR f=gN (f.blocks.map (·.term.to)):=by
 unfold iR
 rw [tS]
 refine vf (by rw [dG,List.length_map]) fun a b=>?_
 rw [Bool.eq_iff_iff,cC,cO,List.length_map]
 constructor
 ·rintro ⟨h,m⟩
  refine ⟨h,?_⟩
  rw [aj (by rw [List.length_map];omega),List.getElem_map,←aj (by omega)];exact m
 ·rintro ⟨h,m⟩
  refine ⟨h,?_⟩
  rw [aj (by rw [List.length_map];omega),List.getElem_map,←aj (by omega)] at m;exact m
theorem vN:iR exF=[(0,2)]:=by rw [yv];kernel_rfl
theorem BF:srt [⟨3,0⟩,⟨1,0⟩]=[⟨1,0⟩,⟨3,0⟩]:=
 (oS (List.Perm.swap _ _ _) (by simp [eT]) (by decide)).symm
theorem yt:kb exF=exG:=by
 unfold kb
 rw [vN]
 have:onE [(0,2)] exF=⟨1,[⟨[],[],⟨2,[0],[1,3],⟨0⟩⟩⟩,⟨[],[],⟨1,[],[2],⟨0⟩⟩⟩,⟨[⟨1,srt [⟨3,0⟩,⟨1,0⟩]⟩],[],⟨4,[1],[],⟨0⟩⟩⟩,⟨[],[],⟨1,[],[2],⟨0⟩⟩⟩]⟩:=by rfl
 rw [this,BF];rfl
theorem AI:(ig exF).1=0:=by rw [pX];kernel_rfl
theorem Ds:fR exF=0:=by
 unfold fR sJ
 rw [AI,vN]
 rfl
theorem Cy:SmF exF:=by
 refine ⟨by decide,fun i hi=>?_⟩
 have hi:i<3:=hi
 rcases i with _ | _ | _ | i
 ·exact ⟨by decide,by decide,by decide,by decide,fun j hj=>absurd hj (Nat.not_lt_zero _),fun j hj=>absurd hj (Nat.not_lt_zero _)⟩
 ·exact ⟨by decide,by decide,by decide,by decide,fun j hj=>absurd hj (Nat.not_lt_zero _),fun j hj=>absurd hj (Nat.not_lt_zero _)⟩
 ·refine ⟨by decide,by decide,by decide,by decide,fun j hj=>?_,fun j hj=>absurd hj (Nat.not_lt_zero _)⟩
  have hj:j<1:=hj
  have:j=0:=by omega
  subst this;decide
 ·omega
theorem CK:wA exF:=by
 intro b hb i hi
 have hb:b<3:=hb
 rcases b with _ | _ | _ | b
 ·exact absurd hi (Nat.not_lt_zero _)
 ·exact absurd hi (Nat.not_lt_zero _)
 ·have hi:i<1:=hi
  have:i=0:=by omega
  subst this
  exact ⟨by decide,by decide,by decide⟩
 ·omega
theorem hZ {h0 h h':Heap} (hle:(vw h).le (vw h')):(fresh h0 h).le (fresh h0 h'):=fun b o hb=>by
 unfold fresh at hb ⊢
 split at hb
 ·cases hb
 ·rename_i e;rw [if_neg e];exact hle b o hb
theorem sM {h0 h:Heap} {b:Nat} (hb:h0.size≤b):fresh h0 h b=h[b]?:=by unfold fresh;rw [if_neg (by omega)]
theorem wG {po:OP} {n:Nat} {ty:TypeId} {ps:Array (Nat × Operand)} {us:List (Nat × Value)} {vs:List Value} {ds:List Int} {h0 h:Heap} {K:Value→Heap→Prop} (hs:h0.size≤h.size) (hp:ps.map (fun p=>(p.1,asg us p.2))=((vs.zipIdx 0).map fun p=>(p.2,p.1)).toArray) (hr:iK nothing vs ds) (hn:ds.length=n) (hb:n≤1000)
  (hk : ∀ u h',(vw h).le (vw h')→h0.size≤h'.size→SlRd (fresh h0 h') u ds→K u h'):@Lft.step po Try.prog (.buildSlice T.bV n ps) ty us h K:=
 gH (α:=Int) rfl El.bV hp hr bE hn (by omega) fun u h' hle hsz hY _=>hk u h' hle (by omega) (hY _ bE (sM hs))
theorem yp {po:OP} {α:Type} [Rep α] {t e bytes n:Nat} {z:Value} {ty:TypeId} {ps:Array (Nat × Operand)} {us:List (Nat × Value)} {vs:List Value} {ds:List α} {h0 h:Heap} {K:Value→Heap→Prop} (hs:h0.size≤h.size) (hT:dA Try.prog t e (Rep.n α) bytes z) (hp:ps.map (fun p=>(p.1,asg us p.2))=((vs.zipIdx 0).map fun p=>(p.2,p.1)).toArray) (hr:iK (fresh h0 h) vs ds) (hn:ds.length=n) (hb:n*Rep.n α≤16777216) (hb2:n≤1000)
  (hk : ∀ u h',(vw h).le (vw h')→h0.size≤h'.size→SlRd (fresh h0 h') u ds→K u h'):@Lft.step po Try.prog (.buildSlice t n ps) ty us h K:=
 Az hT hp hr hn hb (by omega) fun u h' hle hsz hY _=>hk u h' hle (by omega) (hY _ (hZ hle) (sM hs))
theorem uV {h:Heap}:ay Try.prog N.cI #[] h (fun u h'=>(vw h).le (vw h')∧Rd (vw h') u exF):=by
 refine an (args:=[]) follows F.cI E.cI (Nat.le_of_ble_eq_true (by kernel_rfl)) fun Kc hK=>?_
 dsimp only [L.cI]
 refine aa fun z hz=>?_
 simp
 refine dw (z:=.agg #[.int .i64 0,.slice none 0 0]) (by kernel_rfl) ?_
 have q1:=bg h (.cells (Value.agg #[.int .i64 0,.slice none 0 0]).cells 26)
 have b1:(h.push (.cells (Value.agg #[.int .i64 0,.slice none 0 0]).cells 26))[h.size]? = some (.cells (Value.agg #[.int .i64 0,.slice none 0 0]).cells 26 (0,0)):=by simp
 have z1:h.size<(h.push (.cells (Value.agg #[.int .i64 0,.slice none 0 0]).cells 26)).size:=by simp
 generalize h.push (.cells (Value.agg #[.int .i64 0,.slice none 0 0]).cells 26)=h1 at q1 b1 z1
 rw [hz];clear hz z
 refine aa fun z hz=>?_
 simp
 refine wG (Nat.le_refl h1.size) (vs:=[.int .i64 0]) (ds:=[0]) (by simp) ⟨kY (by decide) (by decide),trivial⟩ rfl (by decide) fun u1 h2 q2 z2 s1=>?_
 obtain ⟨as1,cs1,es1,_⟩:=id s1
 subst es1
 refine wG z2 (vs:=[.int .i64 1,.int .i64 2]) (ds:=[1,2]) (by simp) ⟨kY (by decide) (by decide),kY (by decide) (by decide),trivial⟩ rfl (by decide) fun u2 h3 q3 z3 s2=>?_
 obtain ⟨as2,cs2,es2,_⟩:=id s2
 subst es2
 refine bc (z:=.agg #[.int .i64 0,.slice none 0 0,.slice none 0 0,.int .i32 0]) (places:=[(0,1),(1,1),(2,1),(3,1)]) (vs:=[(0,.int .i64 2),(1,.slice as1 1 cs1),(2,.slice as2 2 cs2)]) (cs:=#[.int .i64 2,.slice as1 1 cs1,.slice as2 2 cs2,.int .i32 0]) (by kernel_rfl) (by kernel_rfl) (by simp) (by rfl) ?_
 refine bc (z:=.agg #[.slice none 0 0,.slice none 0 0,.int .i64 0,.slice none 0 0,.slice none 0 0,.int .i32 0]) (places:=[(0,1),(1,1),(2,4)]) (vs:=[(2,.agg #[.int .i64 2,.slice as1 1 cs1,.slice as2 2 cs2,.int .i32 0])]) (cs:=#[.slice none 0 0,.slice none 0 0,.int .i64 2,.slice as1 1 cs1,.slice as2 2 cs2,.int .i32 0]) (by kernel_rfl) (by kernel_rfl) (by simp) (by rfl) ?_
 refine wG z3 (vs:=[.int .i64 2]) (ds:=[2]) (by simp) ⟨kY (by decide) (by decide),trivial⟩ rfl (by decide) fun u5 h4 q4 z4 s5=>?_
 obtain ⟨as5,cs5,es5,_⟩:=id s5
 subst es5
 refine bc (z:=.agg #[.int .i64 0,.slice none 0 0,.slice none 0 0,.int .i32 0]) (places:=[(0,1),(1,1),(2,1),(3,1)]) (vs:=[(0,.int .i64 1),(2,.slice as5 1 cs5)]) (cs:=#[.int .i64 1,.slice none 0 0,.slice as5 1 cs5,.int .i32 0]) (by kernel_rfl) (by kernel_rfl) (by simp) (by rfl) ?_
 refine bc (z:=.agg #[.slice none 0 0,.slice none 0 0,.int .i64 0,.slice none 0 0,.slice none 0 0,.int .i32 0]) (places:=[(0,1),(1,1),(2,4)]) (vs:=[(2,.agg #[.int .i64 1,.slice none 0 0,.slice as5 1 cs5,.int .i32 0])]) (cs:=#[.slice none 0 0,.slice none 0 0,.int .i64 1,.slice none 0 0,.slice as5 1 cs5,.int .i32 0]) (by kernel_rfl) (by kernel_rfl) (by simp) (by rfl) ?_
 refine bc (z:=.agg #[.int .i64 0,.int .i64 0]) (places:=[(0,1),(1,1)]) (vs:=[(0,.int .i64 0),(1,.int .i64 0)]) (cs:=#[.int .i64 0,.int .i64 0]) (by kernel_rfl) (by kernel_rfl) (by simp) rfl ?_
 refine bc (z:=.agg #[.int .i64 0,.int .i64 0]) (places:=[(0,1),(1,1)]) (vs:=[(0,.int .i64 1),(1,.int .i64 0)]) (cs:=#[.int .i64 1,.int .i64 0]) (by kernel_rfl) (by kernel_rfl) (by simp) rfl ?_
 have rin : ∀ k:Int,I64 k→Rd (fresh h1 h4) (.agg #[.int .i64 k,.int .i64 0]) (InD.mk k 0):=fun k hk=>⟨_,rfl,[.int .i64 k],_,rfl,⟨rfl,hk⟩,rfl,⟨(by decide:(-9223372036854775808:Int)≤0),(by decide:(0:Int)≤9223372036854775807)⟩⟩
 refine yp (α:=InD) z4 (vs:=[.agg #[.int .i64 0,.int .i64 0],.agg #[.int .i64 1,.int .i64 0]]) (ds:=[⟨0,0⟩,⟨1,0⟩]) El.gm (by simp) ⟨rin 0 ⟨by decide,by decide⟩,rin 1 ⟨by decide,by decide⟩,trivial⟩ rfl (by decide) (by decide) fun u10 h5 q5 z5 s10=>?_
 obtain ⟨as10,cs10,es10,_⟩:=id s10
 subst es10
 refine bc (z:=.agg #[.int .i64 0,.slice none 0 0]) (places:=[(0,1),(1,1)]) (vs:=[(0,.int .i64 1),(1,.slice as10 2 cs10)]) (cs:=#[.int .i64 1,.slice as10 2 cs10]) (by kernel_rfl) (by kernel_rfl) (by simp) rfl ?_
 refine yp (α:=PhiD) z5 (vs:=[.agg #[.int .i64 1,.slice as10 2 cs10]]) (ds:=[⟨1,[⟨0,0⟩,⟨1,0⟩]⟩]) El.kv (by simp) ⟨yK ⟨by decide,by decide⟩ s10,trivial⟩ rfl (by decide) (by decide) fun u12 h6 q6 z6 s12=>?_
 obtain ⟨as12,cs12,es12,_⟩:=id s12
 subst es12
 refine wG z6 (vs:=[.int .i64 1]) (ds:=[1]) (by simp) ⟨kY (by decide) (by decide),trivial⟩ rfl (by decide) fun u13 h7 q7 z7 s13=>?_
 obtain ⟨as13,cs13,es13,_⟩:=id s13
 subst es13
 refine bc (z:=.agg #[.int .i64 0,.slice none 0 0,.slice none 0 0,.int .i32 0]) (places:=[(0,1),(1,1),(2,1),(3,1)]) (vs:=[(0,.int .i64 4),(1,.slice as13 1 cs13)]) (cs:=#[.int .i64 4,.slice as13 1 cs13,.slice none 0 0,.int .i32 0]) (by kernel_rfl) (by kernel_rfl) (by simp) (by rfl) ?_
 refine bc (z:=.agg #[.slice none 0 0,.slice none 0 0,.int .i64 0,.slice none 0 0,.slice none 0 0,.int .i32 0]) (places:=[(0,1),(1,1),(2,4)]) (vs:=[(0,.slice as12 1 cs12),(2,.agg #[.int .i64 4,.slice as13 1 cs13,.slice none 0 0,.int .i32 0])]) (cs:=#[.slice as12 1 cs12,.slice none 0 0,.int .i64 4,.slice as13 1 cs13,.slice none 0 0,.int .i32 0]) (by kernel_rfl) (by kernel_rfl) (by simp) (by rfl) ?_
 have l2:=View.le_trans q3 (View.le_trans q4 (View.le_trans q5 (View.le_trans q6 q7)))
 have l3:=View.le_trans q4 (View.le_trans q5 (View.le_trans q6 q7))
 have l4:=View.le_trans q5 (View.le_trans q6 q7)
 refine yp (α:=BlkD) z7 (vs:=[.agg #[.slice none 0 0,.slice none 0 0,.int .i64 2,.slice as1 1 cs1,.slice as2 2 cs2,.int .i32 0],.agg #[.slice none 0 0,.slice none 0 0,.int .i64 1,.slice none 0 0,.slice as5 1 cs5,.int .i32 0],.agg #[.slice as12 1 cs12,.slice none 0 0,.int .i64 4,.slice as13 1 cs13,.slice none 0 0,.int .i32 0]]) (ds:=exF.blocks) El.eA (by simp)
  ⟨oP dX dX (s1.mono (hZ l2)) (s2.mono (hZ l3)) ⟨by decide,by decide⟩ ⟨by decide,by decide⟩,oP dX dX dX (s5.mono (hZ l4)) ⟨by decide,by decide⟩ ⟨by decide,by decide⟩,oP (s12.mono (hZ q7)) dX s13 dX ⟨by decide,by decide⟩ ⟨by decide,by decide⟩,trivial⟩ (by rfl) (by decide) (by decide) fun u16 h8 q8 z8 s16=>?_
 have l1:=View.le_trans q2 (View.le_trans l2 q8)
 obtain ⟨as16,cs16,es16,_⟩:=id s16
 have es16:u16 = .slice as16 3 cs16:=es16
 subst es16
 refine bc (z:=.agg #[.int .i64 0,.slice none 0 0]) (places:=[(0,1),(1,1)]) (vs:=[(0,.int .i64 1),(1,.slice as16 3 cs16)]) (cs:=#[.int .i64 1,.slice as16 3 cs16]) (by kernel_rfl) (by kernel_rfl) (by simp) rfl ?_
 refine cJ (g:=h.size) (o:=0) (n:=2) (v:=.agg #[.int .i64 1,.slice as16 3 cs16]) (cur:=(Value.agg #[.int .i64 0,.slice none 0 0]).cells) (e:=26) (by kernel_rfl) rfl rfl rfl (by simp [Value.cells,Value.oneCell']) (l1 _ _ b1) (by decide) fun h9 hs9 ⟨row,hrow,he⟩ ho9=>?_
 have hrow2:row=(Value.agg #[.int .i64 1,.slice as16 3 cs16]).cells:=by
  rw [←Array.toList_inj,he];simp [Value.cells]
 subst hrow2
 have hf9:(fresh h1 h8).le (vw h9):=fun b o hb=>by
  unfold fresh at hb
  split at hb
  ·cases hb
  ·rename_i e
   show h9[b]? = _
   rw [ho9 b (by omega)];exact hb
 have s9:=s16.mono hf9
 have at9:At (vw h9) ⟨h.size,0,none⟩ exF:=rm (v:=.agg #[.int .i64 1,.slice as16 3 cs16]) (t:=26) (fz:=(0,0)) hrow ⟨_,rfl,[.int .i64 1],[_],rfl,⟨rfl,by decide,by decide⟩,_,rfl,s9⟩
 obtain ⟨u,hu,hr⟩:=at9.ao rfl
 have hu:Un.ev (vw h9) (.ao 2) (.pointer (some ⟨h.size,0,none⟩))=some u:=hu
 rw [hz];clear hz z
 simp [hu]
 refine hK _ _ ⟨fun b o hb=>?_,hr⟩
 have hb':h[b]? = some o:=hb
 have hlt:=(Array.getElem?_eq_some_iff.1 hb').1
 show h9[b]? = _
 rw [ho9 b (by omega)]
 exact l1 _ _ (q1 _ _ hb)
end Go.Proofs.Ytbkdlhkoiagbbaa
namespace Go.Proofs.Ytbkdlhkoiagbbaa
open Go Go.Lft
theorem xo {h:Heap}:ay Try.prog N.dv #[] h (fun u h'=>u = .bool true∧(vw h).le (vw h')):=by
 refine an (args:=[]) follows F.dv E.dv (Nat.le_of_ble_eq_true (by kernel_rfl)) fun Kc hK=>?_
 dsimp only [L.dv]
 refine aa fun z hz=>?_
 simp
 rw [hz];clear hz z
 refine aa fun z hz=>?_
 simp
 refine aq (by kernel_rfl) uV ?_
 rintro fv h1 ⟨q1,r1⟩
 refine aq (by kernel_rfl) (mz 0 (Owns.start (View.le_refl (vw h1))) (fun _ _ _=>rfl) r1 Cy fun _=>CK) ?_
 rintro u h2 ⟨W2,hW2,⟨hne,_⟩ | ⟨_,o2,vb,V,rfl,ip,w2,g2,_⟩⟩
 ·exact absurd Ds hne
 rw [yt] at g2
 have hp:exG.params=1:=rfl
 have rG:Rd (vw h2) (.agg #[.int .i64 1,vb]) exG:=g2.rdF w2 ip
 have hep:exF.params=1:=rfl
 simp [hep]
 refine eV (α:=ae) (d:=exG) (X:=vw h2) (z:=.agg #[.int .i64 0,.slice none 0 0]) (v:=.agg #[.int .i64 1,vb]) (by kernel_rfl) rfl (by kernel_rfl) rG (fun _=>by simp) (fun _=>by simp) fun h3 q3 _ hY=>?_
 have at3:=hY (vw h3) q3 rfl
 generalize h2.size=B at at3
 obtain ⟨_,vb',cb,sb⟩:=iE at3
 have sb:SlRd (vw h3) vb' exG.blocks:=sb
 have l4:exG.blocks.length=4:=rfl
 obtain ⟨v0,c0,s0⟩:=(((sb.at (i:=0) (by decide)).part BlkD.nh).part de.Ar).sl
 obtain ⟨v2,c2,s2⟩:=((sb.at (i:=2) (by decide)).part BlkD.qS).sl
 have k3:=(((sb.at (i:=3) (by decide)).part BlkD.nh).part de.y5).int
 have s0:SlRd (vw h3) v0 ([1,3]:List Int):=s0
 have s2:SlRd (vw h3) v2 ([⟨1,[⟨1,0⟩,⟨3,0⟩]⟩]:List PhiD):=s2
 obtain ⟨v5,c5,s5⟩:=((s2.at (i:=0) (by decide)).part PhiD.j6).sl
 have s5:SlRd (vw h3) v5 ([⟨1,0⟩,⟨3,0⟩]:List InD):=s5
 have a1:=(s0.at (i:=1) (by decide)).int
 have f0:=((s5.at (i:=0) (by decide)).part InD.nO).int
 have f1:=((s5.at (i:=1) (by decide)).part InD.nO).int
 have k3:ah (vw h3) ((((slA vb').add (3*6)).add 2).add 0)=some (.int .i64 1):=k3
 have n6 : ∀ i:Nat,i<4→Bn.ev (.idx 6) vb' (.int .i64 i)=some (.pointer (some ((slA vb').add (i*6)))):=fun i hi=>by
  have:=sb.idxn (N:=6) rfl (k:=.i64) (i:=i) (by omega) (by rw [l4];omega)
  simpa using this
 have n60:Bn.ev (.idx 6) vb' (.int .i64 0)=some (.pointer (some ((slA vb').add (0*6)))):=n6 0 (by decide)
 have n62:Bn.ev (.idx 6) vb' (.int .i64 2)=some (.pointer (some ((slA vb').add (2*6)))):=n6 2 (by decide)
 have n63:Bn.ev (.idx 6) vb' (.int .i64 3)=some (.pointer (some ((slA vb').add (3*6)))):=n6 3 (by decide)
 have n2:Bn.ev (.idx 2) v2 (.int .i64 0)=some (.pointer (some ((slA v2).add (0*2)))):=s2.idxn (N:=2) rfl (k:=.i64) (i:=0) (by decide) (by decide)
 have m0:Bn.ev (.idx 2) v5 (.int .i64 0)=some (.pointer (some ((slA v5).add (0*2)))):=s5.idxn (N:=2) rfl (k:=.i64) (i:=0) (by decide) (by decide)
 have m1:Bn.ev (.idx 2) v5 (.int .i64 1)=some (.pointer (some ((slA v5).add (1*2)))):=s5.idxn (N:=2) rfl (k:=.i64) (i:=1) (by decide) (by decide)
 have t1:Bn.ev (.idx 1) v0 (.int .i64 1)=some (.pointer (some ((slA v0).add (1*1)))):=s0.idxn (N:=1) rfl (k:=.i64) (i:=1) (by decide) (by decide)
 rw [hz];clear hz z
 refine aa fun z hz=>?_
 have c0:ah (vw h3) ((((slA vb').add 0).add 2).add 2)=some v0:=c0
 have c2:ah (vw h3) (((slA vb').add 12).add 0)=some v2:=c2
 have k3:ah (vw h3) ((((slA vb').add 18).add 2).add 0)=some (.int .i64 1):=k3
 have c5:ah (vw h3) (((slA v2).add 0).add 1)=some v5:=c5
 have a1:ah (vw h3) ((slA v0).add 1)=some (.int .i64 3):=a1
 have f0:ah (vw h3) (((slA v5).add 0).add 0)=some (.int .i64 1):=f0
 have f1:ah (vw h3) (((slA v5).add 2).add 0)=some (.int .i64 3):=f1
 have l0:=s0.len (K:=vw h3)
 have l2:=s2.len (K:=vw h3)
 have l5:=s5.len (K:=vw h3)
 simp only [Nat.zero_mul,Nat.one_mul,Nat.reduceMul,List.length_cons,List.length_nil,Nat.zero_add,Nat.reduceAdd,Int.natCast_zero,Int.cast_ofNat_Int] at n60 n62 n63 n2 m0 m1 t1 l0 l2 l5
 simp [cb,sb.len,l4,n60,n62,n63,n2,m0,m1,t1,c0,c2,c5,k3,a1,f0,f1,l0,l2,l5]
 rw [hz];clear hz z
 refine aa fun z hz=>?_
 simp [cb,n60,n62,n63,n2,m0,m1,t1,c0,c2,c5,k3,a1,f0,f1]
 rw [hz];clear hz z
 simp [cb,n60,n62,n63,n2,m0,m1,t1,c0,c2,c5,k3,a1,f0,f1]
 refine hK _ _ ⟨rfl,?_⟩
 exact View.le_trans q1 (View.le_trans hW2 (View.le_trans w2.wle q3))
end Go.Proofs.Ytbkdlhkoiagbbaa
namespace Go.Proofs.Ytbkdlhkoiagbbaa
open Go Go.Lft
theorem xE {α:Type} [Inhabited α] {l m:List α} {i:Nat} (h:i<l.length):nth (l++m) i=nth l i:=by
 rw [aj (show i<(l++m).length by rw [List.length_append];omega),aj h,List.getElem_append_left h]
section
variable {f:ae} {ed:List (Int × Int)}
theorem mj:(onE ed f).blocks.length=f.blocks.length+ed.length:=by simp [onE]
theorem wx {a:Nat} (ha:a<f.blocks.length):nth (onE ed f).blocks a=blE ed f.blocks.length a (nth f.blocks a):=by
 unfold onE
 dsimp only
 rw [xE (by simpa using ha),cm ha]
theorem AB {k:Nat} (hk:k<ed.length):nth (onE ed f).blocks (f.blocks.length+k)=fl (nth ed k).2:=by
 unfold onE
 dsimp only
 rw [aj (by simp;omega),List.getElem_append_right (by simp),aj hk]
 simp
structure jd (f:ae) (ed:List (Int × Int)):Prop where
 hto : ∀ a,a<f.blocks.length→∀ t∈(nth f.blocks a).term.to,0≤t∧t<f.blocks.length
 hed : ∀ e∈ed,ek (ofG f.blocks) e.1 e.2=true
 hnd:ed.Nodup
theorem jd.rng (w:jd f ed) {k:Nat} (hk:k<ed.length):(0≤(nth ed k).1∧(nth ed k).1<f.blocks.length)∧0≤(nth ed k).2∧(nth ed k).2<f.blocks.length:=by
 have h:=w.hed _ (bW hk)
 rw [cC] at h
 omega
theorem zN (w:jd f ed) {k:Nat} (hk:k<ed.length):putE ed f.blocks.length (nth ed k).1 (nth ed k).2=some ((f.blocks.length:Int)+k):=by
 unfold putE
 have hm:((nth ed k).1,(nth ed k).2)∈ed:=bW hk
 rw [if_pos hm]
 congr 2
 have:((nth ed k).1,(nth ed k).2)=ed[k]:=aj hk
 rw [this,List.Nodup.idxOf_getElem w.hnd]
theorem yL (w:jd f ed) {a b:Nat} (ha:a<f.blocks.length) (hb:b<f.blocks.length):ek (ofG (onE ed f).blocks) a b=true↔ek (ofG f.blocks) a b=true∧((a:Int),(b:Int))∉ed:=by
 rw [cC,cC,mj,Int.toNat_natCast,wx ha]
 show _∧(b:Int)∈((nth f.blocks a).term.to.map (toE ed f.blocks.length a))↔_
 rw [List.mem_map]
 constructor
 ·rintro ⟨_,t,ht,e⟩
  unfold toE at e
  cases hp:putE ed f.blocks.length a t with
  | none=>
   rw [hp] at e
   simp only [Option.getD_none] at e
   subst e
   refine ⟨⟨by omega,ht⟩,fun hm=>?_⟩
   unfold putE at hp
   rw [if_pos hm] at hp;cases hp
  | some q=>
   rw [hp] at e
   have:=iC hp
   simp only [Option.getD_some] at e
   omega
 ·rintro ⟨⟨_,ht⟩,hn⟩
  refine ⟨by omega,b,ht,?_⟩
  unfold toE putE
  rw [if_neg hn];rfl
theorem AQ (w:jd f ed) {a k:Nat} (ha:a<f.blocks.length) (hk:k<ed.length):ek (ofG (onE ed f).blocks) a ((f.blocks.length+k:Nat):Int)=true↔(nth ed k).1=a:=by
 rw [cC,mj,Int.toNat_natCast,wx ha]
 show _∧((f.blocks.length+k:Nat):Int)∈((nth f.blocks a).term.to.map (toE ed f.blocks.length a))↔_
 rw [List.mem_map]
 have hr:=w.rng hk
 have hpk:=zN w hk
 constructor
 ·rintro ⟨_,t,ht,e⟩
  unfold toE at e
  cases hp:putE ed f.blocks.length a t with
  | none=>
   rw [hp] at e
   have:=w.hto a ha t ht
   simp only [Option.getD_none] at e
   omega
  | some q=>
   rw [hp] at e
   simp only [Option.getD_some] at e
   unfold putE at hp
   split at hp
   ·rename_i hm
    have hlt:=List.idxOf_lt_length_iff.2 hm
    have hq:=Option.some.inj hp
    have hk2:ed.idxOf ((a:Int),t)=k:=by omega
    have:=List.getElem_idxOf hlt
    rw [aj hk]
    have e2:ed[k]=((a:Int),t):=by rw [←this];congr 1;exact hk2.symm
    rw [e2]
   ·cases hp
 ·intro e
  have hm:=w.hed _ (bW hk)
  rw [cC] at hm
  refine ⟨by omega,(nth ed k).2,?_,?_⟩
  ·have:=hm.2;rw [e,Int.toNat_natCast] at this;exact this
  ·unfold toE;rw [←e,hpk];simp
theorem yy (w:jd f ed) {k:Nat} {b:Int} (hk:k<ed.length):ek (ofG (onE ed f).blocks) ((f.blocks.length+k:Nat):Int) b=true↔(nth ed k).2=b:=by
 rw [cC,mj,Int.toNat_natCast,AB hk]
 have hr:=w.rng hk
 show _∧b∈[(nth ed k).2]↔_
 rw [List.mem_singleton]
 constructor
 ·rintro ⟨_,e⟩;exact e.symm
 ·intro e;exact ⟨by omega,e.symm⟩
theorem Bd (w:jd f ed) {wo:Int} (hwo:wo<f.blocks.length) {b:Nat} (h:Re (ofG f.blocks) wo b):Re (ofG (onE ed f).blocks) wo b:=by
 induction h with
 | root h1 h2=>exact .root (by rw [dG,mj];rw [dG] at h1;omega) h2
 | @step a b ha he hb ih=>
  have hr:=(cC.1 he).1
  have la:a<f.blocks.length:=by omega
  have lb:b<f.blocks.length:=by omega
  by_cases hm:((a:Int),(b:Int))∈ed
  ·obtain ⟨k,hk,e⟩:=List.getElem_of_mem hm
   have e1:(nth ed k).1=a:=by rw [aj hk,e]
   have e2:(nth ed k).2=b:=by rw [aj hk,e]
   have s1:Re (ofG (onE ed f).blocks) wo (f.blocks.length+k):=.step ih ((AQ w la hk).2 e1) (by omega)
   exact .step s1 ((yy w hk).2 e2) hb
  ·exact .step ih ((yL w la lb).2 ⟨he,hm⟩) hb
end
end Go.Proofs.Ytbkdlhkoiagbbaa
namespace Go.Proofs.Ytbkdlhkoiagbbaa
open Go Go.Lft
def iM (n i:Nat):BlkD:=if i+1<n then ⟨[],[],⟨2,[0],[(i:Int)+1,n],⟨0⟩⟩⟩ else if i+1=n then ⟨[],[],⟨1,[],[(n:Int)],⟨0⟩⟩⟩ else ⟨[],[],⟨4,[],[],⟨0⟩⟩⟩
def cy (n:Nat):ae:=⟨1,rows (iM n) (n+1)⟩
section
variable {n:Nat}
theorem cU:(cy n).blocks.length=n+1:=by simp [cy]
theorem iI {i:Nat} (hi:i<n+1):nth (cy n).blocks i=iM n i:=cm hi
theorem fm {a b:Int}:ek (ofG (cy n).blocks) a b=true↔(0≤a∧a+1<n∧(b=a+1∨b=n))∨(0≤a∧a+1=n∧b=n):=by
 rw [cC,cU]
 constructor
 ·rintro ⟨h,m⟩
  rw [iI (by omega)] at m
  unfold iM at m
  split at m
  ·rename_i e;left
   simp only [List.mem_cons,List.not_mem_nil,or_false] at m
   omega
  ·split at m
   ·rename_i e;right
    simp only [List.mem_cons,List.not_mem_nil,or_false] at m
    omega
   ·simp at m
 ·intro h
  refine ⟨by omega,?_⟩
  rw [iI (by omega)]
  unfold iM
  split
  ·simp only [List.mem_cons,List.not_mem_nil,or_false];omega
  ·rw [if_pos (by omega)]
   simp only [List.mem_cons,List.not_mem_nil,or_false];omega
theorem yH {l:List Int} (hs:l.Pairwise (· < ·)) {x y:Int} (hx:x∈l) (hy:y∈l) (h:x≠y):1<l.length:=by
 match l,hs with
 | [],_=>cases hx
 | [z],_=>
  rw [List.mem_singleton] at hx hy
  exact absurd (hx.trans hy.symm) h
 | _::_::_,_=>simp
theorem yj {l:List Int} (hs:l.Pairwise (· < ·)) {z:Int} (h : ∀ x∈l,x=z):¬1<l.length:=by
 match l,hs with
 | [],_=>simp
 | [_],_=>simp
 | a::b::l,hs=>
  have h1:=h a (by simp)
  have h2:=h b (by simp)
  have:=(List.pairwise_cons.1 hs).1 b (by simp)
  omega
theorem lO {g:Gr} {b x:Int} (hb:0≤b∧b<g.length):x∈nth (ez g) b.toNat↔ek g x b=true:=by
 rw [ez,cm (by omega),iN]
 constructor
 ·rintro ⟨a,_,h,rfl⟩
  rw [Int.toNat_of_nonneg hb.1] at h;exact h
 ·intro h
  have hr:=(cO.1 h).1
  exact ⟨x.toNat,by omega,by rw [Int.toNat_of_nonneg hr.1,Int.toNat_of_nonneg hb.1];exact h,Int.toNat_of_nonneg hr.1⟩
theorem ln {g:Gr} {b:Nat} (hb:b<g.length):(nth (ez g) b).Pairwise (· < ·):=by
 rw [ez,cm hb];exact nF
theorem xK (hn:2≤n) {e:Int × Int}:e∈iR (cy n)↔0≤e.1∧e.1+1<n∧e.2=n:=by
 unfold iR
 rw [pJ,fm]
 have hl:(ofG (cy n).blocks).length=n+1:=by rw [dG,cU]
 constructor
 ·rintro ⟨h1,h2,h3⟩
  rcases h1 with ⟨h4,h5,h6 | h6⟩ | ⟨h4,h5,h6⟩
  ·exfalso
   refine yj (ln (by rw [hl];omega)) (z:=e.1) (fun x hx=>?_) h3
   rw [lO (by rw [hl];omega),fm] at hx
   omega
  ·exact ⟨h4,h5,h6⟩
  ·exfalso
   refine yj fI (z:=n) (fun x hx=>?_) h2
   rw [cF,fm] at hx
   omega
 ·rintro ⟨h1,h2,h3⟩
  refine ⟨.inl ⟨h1,h2,.inr h3⟩,?_,?_⟩
  ·exact yH fI (x:=e.1+1) (y:=n) (cF.2 (fm.2 (.inl ⟨h1,h2,.inl rfl⟩))) (cF.2 (fm.2 (.inl ⟨h1,h2,.inr rfl⟩))) (by omega)
  ·refine yH (ln (by rw [hl];omega)) (x:=e.1) (y:=n-1) ?_ ?_ (by omega)
   ·rw [lO (by rw [hl];omega),fm];omega
   ·rw [lO (by rw [hl];omega),fm];omega
theorem ld (hn:2≤n):(iR (cy n)).length=n-1:=by
 have hp:(iR (cy n)).Perm ((List.range (n-1)).map fun (i:Nat)=>((i:Int),(n:Int))):=by
  refine (List.perm_ext_iff_of_nodup jA ?_).2 fun e=>?_
  ·exact List.Pairwise.map _ (fun (x y:Nat) (h:x≠y) e=>h (by have:=(Prod.mk.inj e).1;omega)) List.nodup_range
  ·rw [show eP (ofG (cy n).blocks)=iR (cy n) from rfl,xK hn,List.mem_map]
   constructor
   ·rintro ⟨h1,h2,h3⟩
    exact ⟨e.1.toNat,List.mem_range.2 (by omega),by rw [←h3,Int.toNat_of_nonneg h1]⟩
   ·rintro ⟨i,hi,rfl⟩
    have:=List.mem_range.1 hi
    exact ⟨by simp,by simp;omega,rfl⟩
 rw [hp.length_eq,List.length_map,List.length_range]
theorem gl {i:Nat} (hi:i<n+1):(nth (cy n).blocks i).phis=[]∧(nth (cy n).blocks i).ins=[]∧fq (nth (cy n).blocks i).term=true∧(∀ v∈(nth (cy n).blocks i).term.args,v=0):=by
 rw [iI hi]
 unfold iM
 split
 ·exact ⟨rfl,rfl,by simp [fq],by simp⟩
 ·split
  ·exact ⟨rfl,rfl,by simp [fq],by simp⟩
  ·exact ⟨rfl,rfl,by simp [fq],by simp⟩
theorem qV {t:Th} (h:t∈aM (cy n)) : ∃ b,b<n+1∧t=endT (cy n) b:=by
 obtain ⟨b,hb,hm⟩:=cf.1 h
 rw [cU] at hb
 obtain ⟨h1,h2,_⟩:=gl hb
 rcases cN.1 hm with ⟨i,hi,_⟩ | ⟨i,hi,_⟩ | h3
 ·rw [h1] at hi;exact absurd hi (Nat.not_lt_zero _)
 ·rw [h2] at hi;exact absurd hi (Nat.not_lt_zero _)
 ·exact ⟨b,hb,h3⟩
theorem vE (hn:2≤n) : ∀ b:Nat,b<n+1→Re (ofG (cy n).blocks) (-1) b
 | 0,_=>.root (by rw [dG,cU];omega) (by omega)
 | b+1,hb=>.step (vE hn b (by omega)) (fm.2 (by omega)) (by omega)
theorem sI : ∀ k,k≤n+1→Go.Proofs.Ytbkdlhkoiagbbaa.dY (cy n) k=n+1
 | 0,_=>cU
 | k+1,hk=>by
  obtain ⟨h1,h2,_⟩:=gl (n:=n) (i:=k) (by omega)
  show dY (cy n) k+_+_=_
  rw [sI k (by omega),h1,h2];rfl
theorem zo (hn:2≤n) (hn2:n≤511):iv (cy n):=by
 have hmk:gz (aM (cy n))=[]:=by
  unfold gz
  rw [List.flatMap_eq_nil_iff]
  intro t ht
  obtain ⟨b,hb,rfl⟩:=qV ht
  rfl
 refine ⟨⟨(by decide:(0:Int)≤1),(by decide:(1:Int)≤4)⟩,by rw [cU];omega,by rw [cU,sI _ (Nat.le_refl _)];omega,fun t ht=>?_,by rw [hmk];exact List.nodup_nil,fun b hb=>vE hn b (by rw [cU] at hb;exact hb),fun t ht h0 v hv=>?_,fun b i hb hi=>?_⟩
 ·obtain ⟨b,hb,rfl⟩:=qV ht
  obtain ⟨h1,h2,h3,h4⟩:=gl hb
  refine ⟨fun h=>?_,fun _=>h3,fun n hn=>(by cases hn),fun _ v hv=>?_⟩
  ·exfalso
   simp [il,endT,dN,h2] at h
  ·have:v∈(nth (cy n).blocks b).term.to:=hv
   rw [iI hb] at this
   rw [cU]
   unfold iM at this
   split at this
   ·simp only [List.mem_cons,List.not_mem_nil,or_false] at this;omega
   ·split at this
    ·simp only [List.mem_cons,List.not_mem_nil,or_false] at this;omega
    ·simp at this
 ·obtain ⟨b,hb,rfl⟩:=qV ht
  obtain ⟨h1,h2,h3,h4⟩:=gl hb
  have:=h4 v hv
  subst this
  exact .inl ⟨by decide,(by decide:(0:Int)<1)⟩
 ·rw [cU] at hb
  rw [(gl hb).1] at hi;exact absurd hi (Nat.not_lt_zero _)
theorem qe : ∀ k,k≤n+1→cntT (cy n) k=k
 | 0,_=>rfl
 | k+1,hk=>by
  obtain ⟨h1,h2,_⟩:=gl (n:=n) (i:=k) (by omega)
  show cntT (cy n) k+_=_
  rw [qe k (by omega),h1,h2];rfl
theorem BH (hn:2≤n) (hn2:n≤511):fR (cy n)=if 256<n then 2 else 0:=by
 unfold fR
 rw [BS (zo hn hn2),if_neg (by simp)]
 unfold sJ
 rw [ld hn,cU,qe _ (Nat.le_refl _)]
 by_cases h:256<n
 ·rw [decide_eq_true (by omega),if_pos h];rfl
 ·rw [decide_eq_false (by omega),decide_eq_false (by omega),if_neg h];rfl
theorem uY (hn:2≤n):(kb (cy n)).blocks.length=2*n:=by
 unfold kb
 rw [mj,ld hn,cU];omega
theorem AD:wA (cy n):=fun b hb i hi=>by
 rw [cU] at hb
 rw [(gl hb).1] at hi;exact absurd hi (Nat.not_lt_zero _)
theorem AO (hn2:n≤511):SmF (cy n):=by
 refine ⟨by rw [cU];omega,fun i hi=>?_⟩
 rw [cU] at hi
 obtain ⟨h1,h2,_⟩:=gl hi
 refine ⟨by rw [h1];exact Nat.zero_le _,by rw [h2];exact Nat.zero_le _,?_,?_,fun j hj=>by rw [h1] at hj;exact absurd hj (Nat.not_lt_zero _),fun j hj=>by rw [h2] at hj;exact absurd hj (Nat.not_lt_zero _)⟩
 ·rw [iI hi];unfold iM;split
  ·simp
  ·split<;>simp
 ·rw [iI hi];unfold iM;split
  ·simp
  ·split<;>simp
end
end Go.Proofs.Ytbkdlhkoiagbbaa
namespace Go.Proofs.Ytbkdlhkoiagbbaa
open Go Go.Lft
theorem xV {x n:Int} {h:Heap} (hn:0<n∧n≤1000000):ay Try.prog N.dW #[.int .i64 x,.int .i64 n] h (fun u h'=>∃ r:Nat,u = .int .i64 r∧(r:Int)<n∧h'=h):=by
 refine an (args:=[.int .i64 x,.int .i64 n]) follows F.dW E.dW (Nat.le_of_ble_eq_true (by kernel_rfl)) fun K hK=>?_
 have h2:=Int.lt_tmod_of_pos x hn.1
 have h3:=Int.tmod_lt_of_pos x hn.1
 have h4:n≠0:=by omega
 simp (disch:=omega) [L.dW,h4]
 have h5:0≤((x.tmod n)+n).tmod n:=Int.tmod_nonneg _ (by omega)
 exact hK _ _ ⟨(((x.tmod n)+n).tmod n).toNat,by rw [Int.toNat_of_nonneg h5],by rw [Int.toNat_of_nonneg h5];exact Int.tmod_lt_of_pos _ hn.1,rfl⟩
def jD (D:Nat) (vo:Value) (l:List BlkD):Own:=fun k=>if k=(20,0) then bx T.aH D (RawN.mk (n:=1) [.int .i64 1,vo]) else if k=(20,1) then it T.aD vo l else none
theorem vF {D:Nat} {vo vo':Value} {l l':List BlkD} {W:View} {h:Heap} (w:Owns W h (((jD D vo l).upd (20,1) (it T.aD vo' l')).upd (20,0) (bx T.aH D (RawN.mk (n:=1) [.int .i64 1,vo'])))):Owns W h (jD D vo' l'):=w.congr fun q=>by
 unfold jD Own.upd
 by_cases h1:q=(20,0)
 ·subst h1;rfl
 by_cases h2:q=(20,1)
 ·subst h2;rfl
 simp only [h1,h2,if_false]
theorem vX {H:View} {vp vi va vt:Value} {p:List PhiD} {i:List InsD} {a t:List Int} {kd:Int} {imm:I32} (h1:SlRd H vp p) (h2:SlRd H vi i) (h3:SlRd H va a) (h4:SlRd H vt t) (h5:I64 kd) (h6:-2147483648≤imm.v∧imm.v≤2147483647):Rd H (.agg #[vp,vi,.int .i64 kd,va,vt,.int .i32 imm.v]) (BlkD.mk p i ⟨kd,a,t,imm⟩):=
 ⟨_,rfl,[vp],_,rfl,⟨vp,rfl,h1⟩,[vi],_,rfl,⟨vi,rfl,h2⟩,[.int .i64 kd],_,rfl,⟨rfl,h5⟩,[va],_,rfl,⟨va,rfl,h3⟩,[vt],_,rfl,⟨vt,rfl,h4⟩,rfl,h6⟩
theorem rn {D:Nat} {vo:Value} {l:List BlkD} {k:Key} (hk:k.1≠20):jD D vo l k=none:=by
 unfold jD
 rw [if_neg (by rintro rfl;simp at hk),if_neg (by rintro rfl;simp at hk)]
theorem rE {x:Int} {h:Heap}:ay Try.prog N.bG #[.int .i64 x] h (fun u h'=>u = .bool true∧(vw h).le (vw h')):=by
 refine an (args:=[.int .i64 x]) follows F.bG E.bG (Nat.le_of_ble_eq_true (by kernel_rfl)) fun Kc hK=>?_
 dsimp only [L.bG]
 refine aa fun z hz=>?_
 simp
 rw [hz];clear hz z
 refine aa fun z hz=>?_
 simp
 refine aq (by kernel_rfl) xo ?_
 rintro _ h1 ⟨rfl,q1⟩
 rw [hz];clear hz z
 refine aa fun z hz=>?_
 simp
 refine aq (by kernel_rfl) (xV (n:=11) (by decide)) ?_
 rintro _ h1 ⟨r,rfl,hr,rfl⟩
 obtain ⟨n,hn⟩ : ∃ n,n=250+r:=⟨_,rfl⟩
 have hw:IntKind.i64.wrap (250+(r:Int))=(n:Int):=by rw [cw (by omega) (by omega),hn];omega
 simp [hw]
 have n1:250≤n:=by omega
 have n2:n≤260:=by omega
 clear hw hn hr
 rw [hz];clear hz z
 refine aa fun z hz=>?_
 simp
 refine bc (z:=.agg #[.int .i64 0,.slice none 0 0]) (places:=[(0,1),(1,1)]) (vs:=[(0,.int .i64 1)]) (cs:=#[.int .i64 1,.slice none 0 0]) (by kernel_rfl) (by kernel_rfl) (by simp) (by rfl) ?_
 refine (Owns.start (h:=h1) (View.le_refl (vw h1))).rj (k:=(20,0)) (n:=1) (l:=[.int .i64 1,.slice none 0 0]) rfl (z:=.agg #[.int .i64 0,.slice none 0 0]) (by kernel_rfl) rfl (by kernel_rfl) rfl (by decide) (by simp [Value.oneCell']) (fun _=>by simp) (fun _=>by simp) fun h2 q2 w2=>?_
 have w2:=w2.add (k:=(20,1)) rfl (OwnT.nil (α:=BlkD) _ h2 T.aD) (View.le_refl _) (fun b hb=>by simp [Value.ownBlock] at hb)
 have w2:Owns (vw h1) h2 (jD h1.size (.slice none 0 0) (rows (iM (n+1)) 0)):=w2.congr fun q=>by
  unfold jD Own.upd
  by_cases g1:q=(20,0)
  ·subst g1;rfl
  by_cases g2:q=(20,1)
  ·subst g2;rfl
  simp only [g1,g2,if_false]
 generalize h1.size=D at w2
 rw [hz];clear hz z
 refine aa fun z hz=>?_
 simp
 obtain ⟨br,hbr⟩ : ∃ br:Nat→BlkD,br=fun i=>⟨[],[],⟨2,[0],[(i:Int)+1,n],⟨0⟩⟩⟩:=⟨_,rfl⟩
 refine Am [2,3,4,5,6] (fun (_:Unit) k=>[.bool false,.bool true,.int .i64 n,.pointer (some ⟨D,0,none⟩),.int .i64 k])
  (fun _ k h3=>∃ W vo,(vw h1).le W∧Owns W h3 (jD D vo (rows br k))) n ()
  rfl (by omega) rfl ⟨vw h1,_,View.le_refl _,w2⟩ (fun _ _=>rfl) (fun v k h3 hk _=>by simp) ?_ ?_
 ·rintro _ k h3 hltk ⟨W3,vo,hW3,w3⟩ K2 hK2
  have c1:=w3.raw (k:=(20,0)) (e:=T.aH) (B:=D) (l:=[.int .i64 1,vo]) (n:=1) rfl (i:=1) (by decide)
  have c1:ah (vw h3) ⟨D,1,none⟩=some vo:=c1
  simp (disch:=omega) [c1]
  refine gH (α:=Int) (X:=nothing) (ds:=[(0:Int)]) (vs:=[.int .i64 0]) rfl El.bV (by simp) ⟨kY (by omega) (by omega),trivial⟩ bE rfl (by omega) fun ua h4 q4 hsz4 hu4 hub4=>?_
  have w4:=w3.ext q4
  have hu4:=hu4 (grow W3 h3 h4) bE (iz (Nat.le_refl _))
  have hW4:=dU (h':=h4) w3.wle
  generalize grow W3 h3 h4=W4 at w4 hu4 hW4
  refine gH (α:=Int) (X:=nothing) (ds:=[(k:Int)+1,(n:Int)]) (vs:=[.int .i64 ((k:Int)+1),.int .i64 n]) rfl El.bV (by simp) ⟨kY (by omega) (by omega),kY (by omega) (by omega),trivial⟩ bE rfl (by omega) fun ut h5 q5 hsz5 hu5 hub5=>?_
  have w5:=w4.ext q5
  have hu5:=hu5 (grow W4 h4 h5) bE (iz (Nat.le_refl _))
  have hW5:=dU (h':=h5) w4.wle
  have hu4:=hu4.mono hW5
  generalize grow W4 h4 h5=W5 at w5 hu4 hu5 hW5
  refine bc (z:=.agg #[.int .i64 0,.slice none 0 0,.slice none 0 0,.int .i32 0]) (places:=[(0,1),(1,1),(2,1),(3,1)]) (vs:=[(0,.int .i64 2),(1,ua),(2,ut)]) (cs:=#[.int .i64 2,ua,ut,.int .i32 0]) (by kernel_rfl) (by kernel_rfl) (by simp) (by simp [Instr.fill,hu4.cells.1,hu5.cells.1]) ?_
  refine bc (z:=.agg #[.slice none 0 0,.slice none 0 0,.int .i64 0,.slice none 0 0,.slice none 0 0,.int .i32 0]) (places:=[(0,1),(1,1),(2,4)]) (vs:=[(2,.agg #[.int .i64 2,ua,ut,.int .i32 0])]) (cs:=#[.slice none 0 0,.slice none 0 0,.int .i64 2,ua,ut,.int .i32 0]) (by kernel_rfl) (by kernel_rfl) (by simp) (by rfl) ?_
  refine w5.kL (k:=(20,1)) (α:=BlkD) (v:=vo) (l:=rows br k) (d:=br k) rfl El.eA rfl (by rw [hbr];exact vX dX dX hu4 hu5 ⟨by decide,by decide⟩ (by decide)) (by simp;omega) (by simp;omega) (fun _=>rfl) (fun _=>rfl) fun u7 v7 h7 w7 _=>?_
  have hv7:=(w7.cells (k:=(20,1)) Own.ag).2
  refine w7.dV (k:=(20,0)) (n:=1) (i:=1) (e:=T.aH) (B:=D) (l:=[.int .i64 1,vo]) rfl (by decide) (by kernel_rfl) rfl rfl hv7 fun h8 w8 _=>?_
  refine hK2 () _ _ rfl rfl ⟨W5,v7,View.le_trans hW3 (View.le_trans hW4 hW5),by rw [gL];exact vF w8⟩
 ·rintro _ h3 ⟨W3,vo,hW3,w3⟩
  simp
  rw [hz];clear hz z
  refine aa fun z hz=>?_
  have c1:=w3.raw (k:=(20,0)) (e:=T.aH) (B:=D) (l:=[.int .i64 1,vo]) (n:=1) rfl (i:=1) (by decide)
  have c1:ah (vw h3) ⟨D,1,none⟩=some vo:=c1
  simp (disch:=omega) [c1]
  refine bc (z:=.agg #[.int .i64 0,.slice none 0 0,.slice none 0 0,.int .i32 0]) (places:=[(0,1),(1,1),(2,1),(3,1)]) (vs:=[(0,.int .i64 4)]) (cs:=#[.int .i64 4,.slice none 0 0,.slice none 0 0,.int .i32 0]) (by kernel_rfl) (by kernel_rfl) (by simp) (by rfl) ?_
  refine bc (z:=.agg #[.slice none 0 0,.slice none 0 0,.int .i64 0,.slice none 0 0,.slice none 0 0,.int .i32 0]) (places:=[(0,1),(1,1),(2,4)]) (vs:=[(2,.agg #[.int .i64 4,.slice none 0 0,.slice none 0 0,.int .i32 0])]) (cs:=#[.slice none 0 0,.slice none 0 0,.int .i64 4,.slice none 0 0,.slice none 0 0,.int .i32 0]) (by kernel_rfl) (by kernel_rfl) (by simp) (by rfl) ?_
  refine w3.kL (k:=(20,1)) (α:=BlkD) (v:=vo) (l:=rows br n) (d:=⟨[],[],⟨4,[],[],⟨0⟩⟩⟩) rfl El.eA rfl (vX dX dX dX dX ⟨by decide,by decide⟩ (by decide)) (by simp;omega) (by simp;omega) (fun _=>rfl) (fun _=>rfl) fun u4 v4 h4 w4 _=>?_
  have hv4:=(w4.cells (k:=(20,1)) Own.ag).2
  refine w4.dV (k:=(20,0)) (n:=1) (i:=1) (e:=T.aH) (B:=D) (l:=[.int .i64 1,vo]) rfl (by decide) (by kernel_rfl) rfl rfl hv4 fun h5 w5 _=>?_
  have w5:Owns W3 h5 (jD D v4 (rows br n++[⟨[],[],⟨4,[],[],⟨0⟩⟩⟩])):=vF w5
  obtain ⟨lb,hlb⟩ : ∃ lb,lb=rows br n++[⟨[],[],⟨4,[],[],⟨0⟩⟩⟩]:=⟨_,rfl⟩
  have hll:lb.length=n+1:=by rw [hlb];simp
  rw [←hlb] at w5
  rw [hz];clear hz z
  refine aa fun z hz=>?_
  have c1:=w5.raw (k:=(20,0)) (e:=T.aH) (B:=D) (l:=[.int .i64 1,v4]) (n:=1) rfl (i:=1) (by decide)
  have c1:ah (vw h5) ⟨D,1,none⟩=some v4:=c1
  have s5:=w5.now (k:=(20,1)) (v:=v4) (l:=lb) rfl
  have hN:((n:Int)-1).toNat=n-1:=by omega
  simp (disch:=omega) [c1,s5.idxn (N:=6) rfl,hN]
  refine gH (α:=Int) (X:=nothing) (ds:=[(n:Int)]) (vs:=[.int .i64 n]) rfl El.bV (by simp) ⟨kY (by omega) (by omega),trivial⟩ bE rfl (by omega) fun ut h6 q6 hsz6 hu6 hub6=>?_
  have w6:=w5.ext q6
  have hu6:=hu6 (grow W3 h5 h6) bE (iz (Nat.le_refl _))
  have hW6:=dU (h':=h6) w5.wle
  generalize grow W3 h5 h6=W6 at w6 hu6 hW6
  refine bc (z:=.agg #[.int .i64 0,.slice none 0 0,.slice none 0 0,.int .i32 0]) (places:=[(0,1),(1,1),(2,1),(3,1)]) (vs:=[(0,.int .i64 1),(2,ut)]) (cs:=#[.int .i64 1,.slice none 0 0,ut,.int .i32 0]) (by kernel_rfl) (by kernel_rfl) (by simp) (by simp [Instr.fill,hu6.cells.1]) ?_
  refine w6.mc (k:=(20,1)) (α:=BlkD) BlkD.nh (v:=v4) (l:=lb) (i:=n-1) (d:=⟨1,[],[(n:Int)],⟨0⟩⟩) rfl (by kernel_rfl) rfl rfl (by omega) (zD (imm:=⟨0⟩) dX hu6 ⟨by decide,by decide⟩ (by decide)) fun h7 w7 _=>?_
  have hset:lb.set (n-1) { lb[n-1]'(by omega) with term:=⟨1,[],[(n:Int)],⟨0⟩⟩ }=(cy n).blocks:=by
   subst hlb
   refine List.ext_getElem (by simp [cy]) fun i g1 g2=>?_
   rw [List.getElem_set]
   have g4:i<n+1:=by simpa using g1
   have e2:(cy n).blocks[i]=iM n i:=by simp [cy,rows]
   rw [e2]
   split
   ·rename_i e;subst e
    have e5:(rows br n++[⟨[],[],⟨4,[],[],⟨0⟩⟩⟩])[n-1]'(by simp;omega)=br (n-1):=by
     rw [List.getElem_append_left (by simp;omega)];simp [rows]
    rw [e5,hbr]
    unfold iM
    rw [if_neg (by omega),if_pos (by omega)]
   ·rename_i e
    by_cases g3:i<n
    ·rw [List.getElem_append_left (by simpa using g3)]
     simp [rows,hbr,iM]
     omega
    ·rw [List.getElem_append_right (by simpa using Nat.le_of_not_lt g3)]
     have:i=n:=by omega
     subst this
     simp [iM]
  rw [hset] at w7
  have w7:Owns W6 h7 (jD D v4 (cy n).blocks):=w7.congr fun q=>by
   unfold jD Own.upd
   by_cases h1:q=(20,0)
   ·subst h1;rfl
   by_cases h2:q=(20,1)
   ·subst h2;rfl
   simp only [h1,h2,if_false]
  clear hset hbr hlb s5 w5
  rw [hz];clear hz z
  refine aa fun z hz=>?_
  have c3:=w7.eR (k:=(20,0)) (e:=T.aH) (B:=D) (l:=[.int .i64 1,v4]) (n:=1) rfl
  have c3:Un.ev (vw h7) (.ao 2) (.pointer (some ⟨D,0,none⟩))=some (.agg #[.int .i64 1,v4]):=c3
  obtain ⟨w8,s8⟩:=w7.freeze (k:=(20,1)) (v:=v4) (l:=(cy n).blocks) rfl
  have hW8:W6.le (W6.plus v4 h7):=iZ (w7.av (20,1) _ rfl)
  generalize W6.plus v4 h7=W8 at w8 s8 hW8
  have hf:Rd W8 (.agg #[.int .i64 1,v4]) (cy n):=⟨_,rfl,[.int .i64 1],[v4],rfl,⟨rfl,by show (-9223372036854775808:Int)≤1;decide,by show (1:Int)≤_;decide⟩,v4,rfl,s8⟩
  simp [c3]
  refine aq (by kernel_rfl) (mz 0 w8 (fun k _ hk=>by rw [Own.ab (by rintro rfl;simp at hk)];exact rn (by omega)) hf (AO (by omega)) fun _=>AD) ?_
  rw [BH (by omega) (by omega)]
  rintro u h9 ⟨W9,hW9,⟨hne,rfl,w9⟩ | ⟨he,o9,vb,V,rfl,ip,w9,g9,fr9⟩⟩
  ·have hc:256<n:=Decidable.byContradiction fun hc=>by rw [if_neg hc] at hne;exact hne rfl
   rw [if_pos hc]
   simp
   refine w9.kJ (k:=(21,0)) (α:=ae) (d:=⟨0,[]⟩) (n:=2) (by rw [Own.ab (by simp)];exact rn (by simp)) ⟨_,rfl,[.int .i64 0],[.slice none 0 0],rfl,⟨rfl,by decide,by decide⟩,_,rfl,dX⟩ rfl (z:=.agg #[.int .i64 0,.slice none 0 0]) (by kernel_rfl) rfl (by kernel_rfl) (by decide) (fun _=>by simp) (fun _=>by simp) fun h10 q10 w10=>?_
   generalize h9.size=C at w10
   obtain ⟨_,vB,cvB,svB⟩:=iE (w10.at (k:=(21,0)) Own.ag)
   have lB:=svB.len (K:=vw h10)
   rw [hz];clear hz z
   simp (disch:=omega) [cvB,lB]
   exact ⟨fun _=>hK _ _ ⟨rfl,View.le_trans q1 (View.le_trans hW3 (View.le_trans hW6 (View.le_trans hW8 (View.le_trans hW9 w10.wle))))⟩,fun h=>absurd h (by omega)⟩
  ·have hc:¬256<n:=by intro hc;rw [if_pos hc] at he;exact absurd he (by decide)
   have hbl:=uY (n:=n) (by omega)
   obtain ⟨W10,hW10,w10,s10⟩:=g9.freeze w9
   have rg:Rd W10 (.agg #[.int .i64 (cy n).params,vb]) (kb (cy n)):=⟨_,rfl,[.int .i64 (cy n).params],[vb],rfl,⟨rfl,ip⟩,vb,rfl,s10⟩
   have k10:(fun k:Key=>if 0≤k.1∧k.1≤0+6 then none else o9 k) (21,0)=none:=by
    refine (if_neg (by omega)).trans ?_
    rw [fr9 _ (by simp),Own.ab (by simp)];exact rn (by simp)
   simp
   refine w10.kJ (k:=(21,0)) (α:=ae) (n:=2) k10 rg rfl (z:=.agg #[.int .i64 0,.slice none 0 0]) (by kernel_rfl) rfl (by kernel_rfl) (by decide) (fun _=>by simp) (fun _=>by simp) fun h11 q11 w11=>?_
   generalize h9.size=C at w11
   obtain ⟨_,vB,cvB,svB⟩:=iE (w11.at (k:=(21,0)) Own.ag)
   have lB:=svB.len (K:=vw h11)
   rw [hz];clear hz z
   simp (disch:=omega) [cvB,lB]
   rw [hbl,decide_eq_true (by omega)]
   exact ⟨fun h=>absurd h (by omega),fun _=>hK _ _ ⟨rfl,View.le_trans q1 (View.le_trans hW3 (View.le_trans hW6 (View.le_trans hW8 (View.le_trans hW9 (View.le_trans hW10 w11.wle)))))⟩⟩
end Go.Proofs.Ytbkdlhkoiagbbaa
/- For every input SplitMany returns true: as many blocks as may be may be, one more may not. No condition. -/
namespace Go.Proofs.Ytbkdlhkoiagbbaa
open Go Go.Lft Go.ChangeShapes Go.WideShapes Go.ChangeAt Go.RowKit
theorem Try.jz:Try.f5.params = #[T.int]:=by kernel_rfl
theorem lL (os:Os) (started:os.Started) (H:Type) (enc:TypeId × Value→H) :
  ReturnsInHanded {} Try.checked os 5 .any (Rows.splitManySpec.pre6 enc Try.prog Try.f5 Rows.splitManyRow.domain false) (Rows.splitManySpec.post enc Try.prog Try.f5 false true false false):=
 law1 (C:=Try.checked) Try.own started (by kernel_rfl) Try.func5 rfl
  (ChangeSpec.witness6 (enc:=enc) (C:=Try.checked) false ⟨#[],#[.int .i64 0],[]⟩ 8 (by kernel_rfl) (by kernel_rfl) (by kernel_rfl) (by kernel_rfl))
  Try.laidOut (fun t ht=>by
   rw [Try.jz] at ht
   simp only [List.mem_cons,List.not_mem_nil,or_false] at ht
   subst ht
   exact ⟨by kernel_rfl,of_decide_eq_true (by kernel_rfl)⟩) rfl
  (fun ds hds=>by
   match ds,hds with
   | [a],_=>rfl) rfl (tb:=4) (by kernel_rfl) Try.jz rtI fun h v1 x1 h1=>by
    rw [(eF.1 h1).1]
    exact rE
theorem smany_holds:Rows.SplitManySaid:=
 OpenClaim.holds_of_wide 5 Try.f5 rfl rfl rfl rfl rfl rfl rfl ⟨rfl,rfl,rfl,rfl,rfl⟩ rfl rfl rfl rfl rfl (by kernel_rfl) Try.func5 (by kernel_rfl)
  (of_decide_eq_true (by kernel_rfl)) (by unfold Func.isWrapper;first | (rw [if_pos (by decide +kernel)];kernel_rfl) | (rw [if_neg (by decide +kernel)];exact ⟨rfl,rfl⟩))
  (fun os started H enc _=>lL os started H enc)
end Go.Proofs.Ytbkdlhkoiagbbaa
