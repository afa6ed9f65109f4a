/- For every input SplitRight returns true: what is split may be, and has no critical edges; its own blocks stand ahead, the new ones are jumps. No condition. -/
import Derived.Test.YtbkdlhkoiagbbaaGreatZSRight6
import Derived.Test.YtbkdlhkoiagbbaaGreatRows
set_option linter.unusedSimpArgs false
set_option linter.unusedVariables false
namespace Go.Proofs.YtbkdlhkoiagbbaaGreat
open Go Go.Lft
def ofS (l:List BlkD):Gr:=rows (fun a=>sift (fun b=>(nth l a).term.to.contains (b:Int)) (fun b=>(b:Int)) l.length) l.length
theorem wv {l:List BlkD}:(ofS l).length=l.length:=by simp [ofS]
theorem CE {l:List BlkD} {a b:Int}:cW (ofS l) a b=cW (ofG l) a b:=by
 rw [Bool.eq_iff_iff,bT,dU,wv]
 constructor
 ·rintro ⟨h,m⟩
  refine ⟨h,?_⟩
  rw [ofS,df (by omega),jJ] at m
  obtain ⟨i,hi,hc,e⟩:=m
  rw [←e];simpa using hc
 ·rintro ⟨h,m⟩
  refine ⟨h,?_⟩
  rw [ofS,df (by omega),jJ]
  exact ⟨b.toNat,by omega,by rw [Int.toNat_of_nonneg h.2.2.1];simpa using m,Int.toNat_of_nonneg h.2.2.1⟩
theorem xd {t:List Int} {b:Int}:uV (fun i=>decide (nth t i=b)) t.length=t.contains b:=by
 rw [Bool.eq_iff_iff,EL,List.contains_iff_mem]
 constructor
 ·rintro ⟨i,hi,h⟩
  rw [decide_eq_true_eq] at h
  rw [←h];exact bu hi
 ·intro h
  obtain ⟨i,hi,e⟩:=List.getElem_of_mem h
  exact ⟨i,hi,by rw [ak hi,e];simp⟩
theorem CI {l:List BlkD} {v:Value} {p:Int} {h:Heap} (hv:SlRd (vw h) v l) (hl:l.length≤10000) (hs : ∀ i,i<l.length→(nth l i).term.to.length≤10000) :
  aD Tryz.prog N.eK #[.agg #[.int .i64 p,v]] h (fun u h'=>(vw h).le (vw h')∧SlRd (fresh h h') u (ofS l)):=by
 refine ao (args:=[.agg #[.int .i64 p,v]]) follows F.eK E.eK (Nat.le_of_ble_eq_true (by kernel_rfl)) fun K hK=>?_
 dsimp only [L.eK]
 refine aa fun z hz=>?_
 simp
 refine lf (v:=.agg #[.int .i64 p,v]) (by simp) ?_
 have hle1:=bN h (.cells (Value.agg #[.int .i64 p,v]).cells T.aI)
 have hc1:an (vw (h.push (.cells (Value.agg #[.int .i64 p,v]).cells T.aI))) ⟨h.size,1,none⟩=some v:=bJ (c:=#[.int .i64 p,v]) (T:=T.aI) (fz:=(0,0)) (by simp [vw,Value.cells]) rfl
 generalize h.push (.cells (Value.agg #[.int .i64 p,v]).cells T.aI)=h1 at hle1 hc1
 have hv1:=hv.mono hle1
 rw [hz];clear hz z
 refine aa fun z hz=>?_
 simp
 rw [hz];clear hz z
 refine aa fun z hz=>?_
 simp
 refine bZ [1,3,4] (fun (s:Value × View) k=>[.pointer (some ⟨h.size,0,none⟩),s.1,.int .i64 k]) (fun s k h2=>Mine nothing h1 h2 s.2 T.a8 s.1 (rows (fun a=>sift (fun b=>(nth l a).term.to.contains (b:Int)) (fun b=>(b:Int)) l.length) k)) l.length (.slice none 0 0,nothing)
  rfl (by omega) rfl (Mine.start (fun _ _ h=>by cases h)) (fun _ _=>rfl) (fun s k h2 hk m=>by simp [ae m.old hc1,hv1.len]) ?_ ?_
 ·rintro ⟨o,W⟩ a h2 hlta m K2 hK2
  obtain ⟨tv,ct,rto⟩:=sf hv1 hlta
  have ht : ∀ H:View,(vw h1).le H→an H ((((slA v).add (a*6)).add 2).add 2)=some tv:=fun H hH=>ae hH ct
  have hal:=hs a hlta
  simp
  refine bZ [1,3,4,5,6] (fun (r:Value) b=>[.pointer (some ⟨h.size,0,none⟩),o,.int .i64 a,r,.int .i64 b]) (fun r b h3=>Mine nothing h2 h3 nothing T.int r (sift (fun b=>(nth l a).term.to.contains (b:Int)) (fun b=>(b:Int)) b)) l.length (.slice none 0 0)
   rfl (by omega) rfl (Mine.start (fun _ _ h=>by cases h)) (fun _ _=>rfl) (fun r k h3 hk m2=>by simp [ae (View.le_trans m.old m2.old) hc1,hv1.len]) ?_ ?_
  ·rintro r b h3 hltb m2 K3 hK3
   have hle3:=View.le_trans m.old m2.old
   have hc3:=ae hle3 hc1
   have hv3:=hv1.mono hle3
   have rto3:=rto.mono hle3
   have ht3:=ht (vw h3) hle3
   simp
   refine bZ [1,3,4,5,6,7,8] (fun (_:Unit) i=>[.pointer (some ⟨h.size,0,none⟩),o,.int .i64 a,r,.int .i64 b,.bool (uV (fun i=>decide (nth (nth l a).term.to i=b)) i),.int .i64 i]) (fun _ i h4=>h4=h3) (nth l a).term.to.length ()
    rfl (by omega) rfl rfl (fun _ _=>rfl) (fun r k h4 hk e=>by
     subst e
     simp (disch:=omega) [hc3,hv3.idxn (N:=6) rfl]
     simp only [Ek,Option.bind_some,Az,ht3,rto3.len]) ?_ ?_
   ·rintro _ i h4 hi rfl K4 hK4
    simp (disch:=omega) [hc3,hv3.idxn (N:=6) rfl]
    simp (disch:=omega) only [Ek,Option.bind_some,Az,ht3,rto3.idx1 rfl,rto3.int (View.le_refl _)]
    simp (disch:=omega) [rto3.int (View.le_refl _)]
    exact hK4 () _ _ rfl (by rw [zI];rfl) rfl
   ·rintro _ h4 rfl
    rw [xd]
    simp [dT]
    have:=fG (p:=fun b=>(nth l a).term.to.contains (b:Int)) (x:=fun b=>(b:Int)) b
    refine ⟨fun he=>?_,fun he=>hK3 r _ _ rfl rfl (by rw [fY (by simpa using he)];exact m2)⟩
    refine m2.push El.a8 (by simp<;>rfl) (mJ (by omega) (by omega)) (by omega) (by omega) (fun _=>by simp) (fun _=>by simp) fun u v' h3 m'=>hK3 v' _ _ rfl rfl (by rw [gX (by simpa using he)];exact m')
  ·intro r h3 m2
   simp
   have mm:=m.ext m2.old
   refine mm.push El.cJ (by simp<;>rfl) (gl.2 (m2.fresh.mono (eR _ _ _))) (by simp;omega) (by simp;omega) (fun _=>by simp) (fun _=>by simp) fun u v' h4 m'=>hK2 (v',_) _ _ rfl rfl (by rw [eW];exact m')
 ·rintro ⟨o,W⟩ h2 m
  rw [hz]
  simp
  exact hK _ _ ⟨View.le_trans hle1 m.old,m.fresh.mono (mg hle1)⟩
end Go.Proofs.YtbkdlhkoiagbbaaGreat
namespace Go.Proofs.YtbkdlhkoiagbbaaGreat
open Go Go.Lft
theorem DP {l:List Int} (hs:l.Pairwise (· < ·)) (h:1<l.length) : ∃ x y,x∈l∧y∈l∧x≠y:=by
 match l,hs,h with
 | a::b::l,hs,_=>
  have:=(List.pairwise_cons.1 hs).1 b (by simp)
  exact ⟨a,b,by simp,by simp,by omega⟩
section
variable {f:ah} {ed:List (Int × Int)}
theorem yz (w:dV f ed) {x:Nat} {u:Int} (hx:x<f.blocks.length) (h:cW (ofG (onE ed f).blocks) x u=true) : ∃ t,cW (ofG f.blocks) x t=true∧u=toE ed f.blocks.length x t:=by
 obtain ⟨h1,h2⟩:=bT.1 h
 rw [Int.toNat_natCast,nA hx] at h2
 obtain ⟨t,ht,e⟩:=List.mem_map.1 h2
 have:=w.hto x hx t ht
 exact ⟨t,bT.2 ⟨by omega,by rw [Int.toNat_natCast];exact ht⟩,e.symm⟩
theorem CB (w:dV f ed) {x:Nat} (hx:x<f.blocks.length) (h:1<(cQ (ofG (onE ed f).blocks) x).length):1<(cQ (ofG f.blocks) x).length:=by
 obtain ⟨u,v,hu,hv,hne⟩:=DP ia h
 rw [dL] at hu hv
 obtain ⟨t1,e1,q1⟩:=yz w hx hu
 obtain ⟨t2,e2,q2⟩:=yz w hx hv
 exact Dz ia (dL.2 e1) (dL.2 e2) (by rintro rfl;exact hne (q1.trans q2.symm))
theorem qp (w:dV f ed) {y:Nat} {u:Int} (hy:y<f.blocks.length) (h:cW (ofG (onE ed f).blocks) u y=true):(u<f.blocks.length∧cW (ofG f.blocks) u y=true∧(u,(y:Int))∉ed)∨∃ k,k<ed.length∧u=((f.blocks.length+k:Nat):Int)∧(nth ed k).2=y∧cW (ofG f.blocks) (nth ed k).1 y=true:=by
 have hr:=(bT.1 h).1
 rw [de] at hr
 obtain ⟨z,rfl⟩:=Int.eq_ofNat_of_zero_le hr.1
 rcases Nat.lt_or_ge z f.blocks.length with l | l
 ·obtain ⟨h1,h2⟩:=(lr w l hy).1 h
  exact .inl ⟨by omega,h1,h2⟩
 ·obtain ⟨k,rfl⟩ : ∃ k,z=f.blocks.length+k:=⟨z-f.blocks.length,by omega⟩
  have hk:k<ed.length:=by omega
  have e2:=(kC w hk).1 h
  have h1:=w.hed _ (bu hk)
  rw [e2] at h1
  exact .inr ⟨k,hk,rfl,e2,h1⟩
theorem Bw (w:dV f ed) {y:Nat} (hy:y<f.blocks.length) (h:1<(nth (dC (ofG (onE ed f).blocks)) y).length):1<(nth (dC (ofG f.blocks)) y).length:=by
 have hy':y<(ofG (onE ed f).blocks).length:=by rw [dJ,de];omega
 obtain ⟨u,v,hu,hv,hne⟩:=DP (lh hy') h
 rw [←Int.toNat_natCast y,mc (by omega)] at hu hv
 have key : ∀ {a b:Int},cW (ofG f.blocks) a y=true→cW (ofG f.blocks) b y=true→a≠b→1<(nth (dC (ofG f.blocks)) y).length:=fun {a b} ha hb hab=>by
  have hy2:y<(ofG f.blocks).length:=by rw [dJ];exact hy
  refine Dz (lh hy2) (x:=a) (y:=b) ?_ ?_ hab
  ·rw [←Int.toNat_natCast y,mc (by omega)];exact ha
  ·rw [←Int.toNat_natCast y,mc (by omega)];exact hb
 rcases qp w hy hu with ⟨a1,a2,a3⟩ | ⟨k,hk,rfl,a1,a2⟩
 ·rcases qp w hy hv with ⟨b1,b2,b3⟩ | ⟨j,hj,rfl,b1,b2⟩
  ·exact key a2 b2 hne
  ·refine key a2 b2 fun e=>a3 ?_
   have:(u,(y:Int))=nth ed j:=by rw [←b1,e]
   rw [this];exact bu hj
 ·rcases qp w hy hv with ⟨b1,b2,b3⟩ | ⟨j,hj,rfl,b1,b2⟩
  ·refine key a2 b2 fun e=>b3 ?_
   have:(v,(y:Int))=nth ed k:=by rw [←a1,←e]
   rw [this];exact bu hk
  ·refine key a2 b2 fun e=>hne ?_
   have he:nth ed k=nth ed j:=by
    have : ∀ p q:Int × Int,p.1=q.1→p.2=q.2→p=q:=fun p q h1 h2=>by cases p;cases q;simp_all
    exact this _ _ e (a1.trans b1.symm)
   rw [ak hk,ak hj] at he
   have:=(List.getElem_inj w.hnd).1 he
   subst this;rfl
theorem Bk (w:dV f (dI f)):dI (dO f)=[]:=by
 refine List.eq_nil_iff_forall_not_mem.2 fun e he=>?_
 obtain ⟨h1,h2,h3⟩:=lk.1 (show e∈fN (ofG (onE (dI f) f).blocks) from he)
 have hr:=(bT.1 h1).1
 rw [de] at hr
 obtain ⟨x,hx⟩:=Int.eq_ofNat_of_zero_le hr.1
 obtain ⟨y,hy⟩:=Int.eq_ofNat_of_zero_le hr.2.2.1
 rw [hx,hy] at h1
 rw [hx] at h2
 rw [hy,Int.toNat_natCast] at h3
 rcases Nat.lt_or_ge x f.blocks.length with lx | lx
 ·rcases Nat.lt_or_ge y f.blocks.length with ly | ly
  ·obtain ⟨q1,q2⟩:=(lr w lx ly).1 h1
   refine q2 (lk.2 ⟨q1,CB w lx h2,?_⟩)
   rw [Int.toNat_natCast]
   exact Bw w ly h3
  ·obtain ⟨k,rfl⟩ : ∃ k,y=f.blocks.length+k:=⟨y-f.blocks.length,by omega⟩
   have hk:k<(dI f).length:=by omega
   have hl:f.blocks.length+k<(ofG (onE (dI f) f).blocks).length:=by rw [dJ,de];omega
   refine Dk (lh hl) (z:=(nth (dI f) k).1) (fun a ha=>?_) h3
   rw [←Int.toNat_natCast (f.blocks.length+k),mc (by omega)] at ha
   have har:=(bT.1 ha).1
   rw [de] at har
   obtain ⟨z,rfl⟩:=Int.eq_ofNat_of_zero_le har.1
   rcases Nat.lt_or_ge z f.blocks.length with lz | lz
   ·exact ((rW w lz hk).1 ha).symm
   ·obtain ⟨j,rfl⟩ : ∃ j,z=f.blocks.length+j:=⟨z-f.blocks.length,by omega⟩
    have hj:j<(dI f).length:=by omega
    have:=(kC w hj).1 ha
    have:=w.rng hj
    omega
 ·obtain ⟨k,rfl⟩ : ∃ k,x=f.blocks.length+k:=⟨x-f.blocks.length,by omega⟩
  have hk:k<(dI f).length:=by omega
  refine Dk ia (z:=(nth (dI f) k).2) (fun b hb=>?_) h2
  rw [dL] at hb
  exact ((kC w hk).1 hb).symm
theorem AK {f:ah} : ∀ {n:Nat},cntT f n+f.blocks.length=jd f n+n
 | 0=>by show 0+_=f.blocks.length+0;omega
 | n+1=>by
  show cntT f n+(_+_+1)+_=jd f n+_+_+(n+1)
  have:=AK (f:=f) (n:=n)
  omega
theorem BM (mb:jg f) (h:iH f=0):jg (dO f):=by
 unfold iH at h
 rw [zw mb,if_neg (by simp)] at h
 have hm:pZ f=false:=by
  cases hq:pZ f with
  | false=>rfl
  | true=>rw [hq] at h;cases h
 unfold pZ at hm
 simp only [Bool.or_eq_false_iff,decide_eq_false_iff_not] at hm
 have hc:=AK (f:=f) (n:=f.blocks.length)
 exact (zZ mb).may mb (by omega) (by omega)
end
end Go.Proofs.YtbkdlhkoiagbbaaGreat
namespace Go.Proofs.YtbkdlhkoiagbbaaGreat
open Go Go.Lft
section
variable {α:Type} [Inhabited α]
end
theorem zO {α:Type} [Rep α] [Inhabited α] {H:View} {v:Value} {l:List α} (h:SlRd H v l) {N:Nat} (hn:Rep.n α=N) {i:Nat} (hi:i<l.length):At H ((slA v).add (i*N)) (nth l i):=by
 subst hn;rw [ak hi];exact h.at hi
end Go.Proofs.YtbkdlhkoiagbbaaGreat
namespace Go.Proofs.YtbkdlhkoiagbbaaGreat
open Go Go.Lft
theorem DD {f:ah}:iN (ofS f.blocks)=dI f:=by
 unfold dI
 rw [ru]
 exact tE (by rw [wv,dJ]) fun a b=>CE
theorem ud {s:List Int} {v:Value} {h:Heap} (hs:SlRd (vw h) v s):aD Tryz.prog N.bA #[v] h (fun u h'=>u = .bool true∧(vw h).le (vw h')):=by
 refine ao (args:=[v]) follows F.bA E.bA (Nat.le_of_ble_eq_true (by kernel_rfl)) fun Kc hK=>?_
 dsimp only [L.bA]
 refine aa fun z hz=>?_
 simp
 rw [hz];clear hz z
 refine aa fun z hz=>?_
 simp
 refine af (by kernel_rfl) BK ?_
 rintro _ h1 ⟨rfl,q1⟩
 rw [hz];clear hz z
 refine aa fun z hz=>?_
 simp
 refine af (by kernel_rfl) (CC (hs.mono q1)) ?_
 rintro us _ ⟨rfl,s1⟩
 refine af (by kernel_rfl) (FC (Owns.start (View.le_refl _)) (fun _ _=>rfl) s1) ?_
 rintro uf h2 ⟨W2,hW2,w2,r2⟩
 generalize s.take 400=s' at r2
 have m:=yy (s:=s')
 have sm:=FO (s:=s')
 have hl:=yV (s:=s')
 have hE:=Hg (s:=s')
 generalize gS s'=f at r2 m sm hl hE
 refine w2.ox (k:=(20,0)) (α:=ah) (n:=2) rfl r2 rfl (z:=.agg #[.int .i64 0,.slice none 0 0]) (by kernel_rfl) rfl (by kernel_rfl) (by decide) (fun _=>by simp) (fun _=>by simp) fun h3 q3 w3=>?_
 generalize h2.size=B at w3
 obtain ⟨uf3,huf3,ruf3⟩:=Owns.ldW w3 (k:=(20,0)) (v:=.slice (some ⟨B,0,none⟩) 1 1) (l:=[f]) Own.ag rfl (N:=2) rfl (i:=0) (by simp)
 have huf3:Un.ev (vw h3) (.au 2) (.pointer (some ⟨B,0,none⟩))=some uf3:=by simpa [slA] using huf3
 have ruf3:Rd W2 uf3 f:=ruf3
 rw [hz];clear hz z
 refine aa fun z hz=>?_
 simp [huf3]
 refine af (by kernel_rfl) (pU 0 w3 (fun k _ hk=>by rw [Own.ab (by rintro rfl;simp at hk)]) ruf3 sm fun _=>G8 m (by omega)) ?_
 rintro u h4 ⟨W4,hW4,⟨hne,_⟩ | ⟨_,o4,vb,V,rfl,ip,w4,g4,fr4⟩⟩
 ·exact absurd hE hne
 obtain ⟨W5,hW5,w5,s5⟩:=g4.freeze w4
 have rg:Rd W5 (.agg #[.int .i64 f.params,vb]) (dO f):=⟨_,rfl,[.int .i64 f.params],[vb],rfl,⟨rfl,ip⟩,vb,rfl,s5⟩
 obtain ⟨o5,ho5⟩ : ∃ o5:Own,o5=fun k:Key=>if 0≤k.1∧k.1≤0+6 then none else o4 k:=⟨_,rfl⟩
 rw [←ho5] at w5
 have k20:o5 (20,0)=bx T.aI B f:=by
  rw [ho5]
  refine (if_neg (by omega)).trans ?_
  rw [fr4 _ (by simp),Own.ag]
 have k21:o5 (20,1)=none:=by
  rw [ho5]
  refine (if_neg (by omega)).trans ?_
  rw [fr4 _ (by simp),Own.ab (by simp)]
 clear ho5
 simp
 refine w5.ox (k:=(20,1)) (α:=ah) (n:=2) k21 rg rfl (z:=.agg #[.int .i64 0,.slice none 0 0]) (by kernel_rfl) rfl (by kernel_rfl) (by decide) (fun _=>by simp) (fun _=>by simp) fun h6 q6 w6=>?_
 generalize h4.size=C at w6
 have k60:(o5.upd (20,1) (bx T.aI C (dO f))) (20,0)=bx T.aI B f:=by rw [Own.ab (by simp)];exact k20
 have k61:(o5.upd (20,1) (bx T.aI C (dO f))) (20,1)=bx T.aI C (dO f):=Own.ag
 generalize o5.upd (20,1) (bx T.aI C (dO f))=o6 at w6 k60 k61
 obtain ⟨uf,huf,ruf⟩:=Owns.ldW w6 (k:=(20,0)) (v:=.slice (some ⟨B,0,none⟩) 1 1) (l:=[f]) k60 rfl (N:=2) rfl (i:=0) (by simp)
 have huf:Un.ev (vw h6) (.au 2) (.pointer (some ⟨B,0,none⟩))=some uf:=by simpa [slA] using huf
 have ruf:Rd W5 uf f:=ruf
 obtain ⟨ug,hug,rug⟩:=Owns.ldW w6 (k:=(20,1)) (v:=.slice (some ⟨C,0,none⟩) 1 1) (l:=[dO f]) k61 rfl (N:=2) rfl (i:=0) (by simp)
 have hug:Un.ev (vw h6) (.au 2) (.pointer (some ⟨C,0,none⟩))=some ug:=by simpa [slA] using hug
 have rug:Rd W5 ug (dO f):=rug
 obtain ⟨vb1,rfl,_,sb1⟩:=qb ruf
 obtain ⟨vb2,rfl,_,sb2⟩:=qb rug
 rw [hz];clear hz z
 have hcl:=xD (f:=f)
 have h99:f.blocks.length*f.blocks.length≤9*9:=Nat.mul_le_mul hl.2 hl.2
 have smg:SmF (dO f):=Ee sm (by omega)
 have hgl:(dO f).blocks.length=f.blocks.length+(dI f).length:=de
 obtain ⟨_,vB,cvB,svB⟩:=iy (w6.at (k:=(20,0)) k60)
 obtain ⟨_,vC,cvC,svC⟩:=iy (w6.at (k:=(20,1)) k61)
 have mb2:=BM m hE
 have cB : ∀ {h':Heap},(vw h6).le (vw h')→Un.ev (vw h') (.au 2) (.pointer (some ⟨B,0,none⟩))=some (.agg #[.int .i64 f.params,vb1]):=fun hh=>by
  have:=dd (ρ:=fun _=>none) (e:=.un (.au 2) (.con (.pointer (some ⟨B,0,none⟩)))) hh (by simpa using huf)
  simpa using this
 have cC : ∀ {h':Heap},(vw h6).le (vw h')→Un.ev (vw h') (.au 2) (.pointer (some ⟨C,0,none⟩))=some (.agg #[.int .i64 (dO f).params,vb2]):=fun hh=>by
  have:=dd (ρ:=fun _=>none) (e:=.un (.au 2) (.con (.pointer (some ⟨C,0,none⟩)))) hh (by simpa using hug)
  simpa using this
 refine aa fun z hz=>?_
 have hlt:¬((f.blocks.length:Int)+(dI f).length<f.blocks.length):=by omega
 simp [cvB,cvC,svB.len,svC.len,hgl,hug,hlt]
 refine af (by kernel_rfl) (DR (rug.mono w6.wle) smg) ?_
 rintro _ h7 ⟨rfl,q7⟩
 rw [zw mb2]
 simp [cC q7]
 refine af (by kernel_rfl) (pI (sb2.mono (View.le_trans w6.wle q7)) (Nat.le_trans smg.len (by decide)) fun i hi=>Nat.le_trans (smg.blk i hi).to (by decide)) ?_
 rintro u8 h8 ⟨q8,s8⟩
 refine af (by kernel_rfl) (rq (s8.mono (eY _ _)) (zP (Nat.le_trans smg.len (by decide)) fun i hi=>Nat.le_trans (smg.blk i hi).to (by decide))) ?_
 rintro u9 h9 ⟨q9,s9⟩
 have hcn:fN (ofG (dO f).blocks)=[]:=Bk (zZ m)
 rw [hcn] at s9
 have l9:=(s9.mono (eY _ _)).len (K:=vw h9)
 simp [l9]
 rw [hz];clear hz z
 have q69:=View.le_trans q7 (View.le_trans q8 q9)
 have cvB:=ae q69 cvB
 have cvC:=ae q69 cvC
 have svB:=svB.mono q69
 have svC:=svC.mono q69
 have w0:=zZ m
 refine aa fun z hz=>?_
 simp
 refine bZ [2,3,4,5,6,7] (fun (_:Unit) a=>[.bool false,.bool true,.pointer (some ⟨B,0,none⟩),.pointer (some ⟨C,0,none⟩),.int .i64 0,.int .i64 a]) (fun _ a h11=>(vw h9).le (vw h11)) f.blocks.length ()
  rfl (by omega) rfl (View.le_refl _) (fun _ _=>rfl) (fun _ a h11 hk t=>?_) ?_ ?_
 ·simp [ae t cvB,(svB.mono t).len]
 ·rintro _ b h11 hb t K2 hK2
  have hbg:b<(dO f).blocks.length:=by omega
  have aB:=zO svB (N:=6) rfl hb
  have aC:=zO svC (N:=6) rfl hbg
  obtain ⟨vx,cx,sx⟩:=(aB.part BlkD.ko).sl
  obtain ⟨vy,cy,sy⟩:=(aC.part BlkD.ko).sl
  obtain ⟨wx,dx,tx⟩:=(aB.part BlkD.lE).sl
  obtain ⟨wy,dy,ty⟩:=(aC.part BlkD.lE).sl
  have kx:=((aB.part BlkD.lj).part dQ.wI).int
  have ky:=((aC.part BlkD.lj).part dQ.wI).int
  have e1:(nth (dO f).blocks b).phis.length=(nth f.blocks b).phis.length:=by unfold dO;rw [jL hb,List.length_map]
  have e2:(nth (dO f).blocks b).ins.length=(nth f.blocks b).ins.length:=by unfold dO;rw [ji hb]
  have e3:(nth (dO f).blocks b).term.kind=(nth f.blocks b).term.kind:=by unfold dO;rw [nA hb];rfl
  rw [e3] at ky
  have i1:=(svB.mono t).idxn (N:=6) rfl (k:=.i64) (i:=b) (by omega) (by omega)
  have i2:=(svC.mono t).idxn (N:=6) rfl (k:=.i64) (i:=b) (by omega) (by omega)
  rw [Int.toNat_natCast] at i1 i2
  refine cM (vw h11) (View.le_refl _) ?_
  simp [ae t cvB,ae t cvC,i1,i2,ae t cx,ae t cy,ae t dx,ae t dy,ae t kx,ae t ky,(sx.mono t).len,(sy.mono t).len,(tx.mono t).len,(ty.mono t).len,e1,e2]
  exact hK2 () _ _ rfl rfl t
 ·rintro _ h11 t
  rw [hz];clear hz z
  refine aa fun z hz=>?_
  simp [ae t cvB,(svB.mono t).len]
  have hk2:(dO f).blocks.length=f.blocks.length+(dI f).length:=hgl
  have hcr:=hcl
  have hln:=hl.2
  refine yi [2,3,4,5,6,8] (fun (_:Unit) k=>[.bool false,.bool true,.pointer (some ⟨B,0,none⟩),.pointer (some ⟨C,0,none⟩),.int .i64 0,.int .i64 ((k:Int)+f.blocks.length)]) (fun _ k h12=>(vw h9).le (vw h12)) (dI f).length (f.blocks.length:Int) ()
   rfl (by omega) (by omega) (by simp;rfl) t (fun _ _=>rfl) (fun _ k h12 hk t=>?_) ?_ ?_
  ·have:decide (((k:Int)+f.blocks.length)<(f.blocks.length:Int)+(dI f).length)=decide (k<(dI f).length):=by
    by_cases h:k<(dI f).length
    ·rw [decide_eq_true h,decide_eq_true (by omega)]
    ·rw [decide_eq_false h,decide_eq_false (by omega)]
   simp [ae t cvC,(svC.mono t).len,hk2]
   omega
  ·rintro _ k h12 hk t12 K2 hK2
   have hbg:f.blocks.length+k<(dO f).blocks.length:=by omega
   have aC:=zO svC (N:=6) rfl hbg
   have eN:nth (dO f).blocks (f.blocks.length+k)=fJ (nth (dI f) k).2:=jB hk
   rw [eN] at aC
   obtain ⟨ux,hux,rux⟩:=svC.wh rfl (N:=6) rfl hbg
   rw [eN] at rux
   have eI:((k:Int)+f.blocks.length).toNat=f.blocks.length+k:=by omega
   have i2:=(svC.mono t12).idxn (N:=6) rfl (k:=.i64) (i:=(k:Int)+f.blocks.length) (by omega) (by omega)
   rw [eI] at i2
   refine aa fun y hy=>?_
   simp [ae t12 cvC,i2,hux _ t12]
   refine gL (α:=BlkD) (d:=fJ (nth (dI f) k).2) (X:=vw h9) (z:=.agg #[.slice none 0 0,.slice none 0 0,.int .i64 0,.slice none 0 0,.slice none 0 0,.int .i32 0]) (v:=ux) (by kernel_rfl) rfl (by kernel_rfl) rux (fun _=>by simp) (fun _=>by simp) fun h13 q13 _ hY=>?_
   have t13:=View.le_trans t12 q13
   have at13:=hY (vw h13) t13 rfl
   generalize h12.size=X1 at at13
   obtain ⟨vp,vi,va,vt,cp,ci,ck,_,ct⟩:=mw at13
   have hr:=w0.rng hk
   have n1:(fJ (nth (dI f) k).2).phis.length=0:=rfl
   have n2:(fJ (nth (dI f) k).2).ins.length=0:=rfl
   have n3:(fJ (nth (dI f) k).2).term.to.length=1:=rfl
   have n4:(fJ (nth (dI f) k).2).term.kind=1:=rfl
   have a4:=ct.2.int (View.le_refl _) (i:=0) (by rw [n3];decide)
   have n5:nth (fJ (nth (dI f) k).2).term.to 0=(nth (dI f) k).2:=rfl
   have x4:=ct.2.idx1 rfl (k:=.i64) (i:=0) (by decide) (by rw [n3];decide)
   rw [n4] at ck
   rw [n5] at a4
   rw [hy];clear hy y
   refine aa fun y hy=>?_
   refine cM (vw h13) (View.le_refl _) ?_
   simp (disch:=omega) [cp.1,cp.2.len,ci.1,ci.2.len,ck,ct.1,ct.2.len,n1,n2,n3,x4,a4,ae t13 cvB,(svB.mono t13).len]
   rw [hy];clear hy y
   have hlt2:¬(f.blocks.length:Int)≤(nth (dI f) k).2:=by omega
   simp [hlt2]
   refine hK2 () _ _ rfl ?_ t13
   simp
   rw [show (k:Int)+1+f.blocks.length=(k:Int)+f.blocks.length+1 by omega];rfl
  ·rintro _ h12 t12
   rw [hz];clear hz z
   have cvB':=ae t12 cvB
   have cvC':=ae t12 cvC
   have q12:=View.le_trans q69 t12
   refine cM (vw h12) (View.le_refl _) ?_
   simp [cvB',cvC',(svB.mono t12).len,(svC.mono t12).len,hk2,cB q12]
   refine af (by kernel_rfl) (CI (sb1.mono (View.le_trans w6.wle q12)) sm.len fun i hi=>(sm.blk i hi).to) ?_
   rintro u13 h13 ⟨q13,s13⟩
   refine ⟨q13,?_⟩
   refine af (by kernel_rfl) (tM (s13.mono (eY _ _)) (by rw [wv];omega)) ?_
   rintro u14 h14 ⟨q14,s14⟩
   refine ⟨View.le_trans q13 q14,?_⟩
   rw [DD] at s14
   have l14:=s14.len (K:=vw h12)
   have c81:(dI f).length≤81:=Nat.le_trans hcr h99
   simp (disch:=omega) [l14]
   exact hK _ _ ⟨rfl,View.le_trans q1 (View.le_trans hW2 (View.le_trans hW4 (View.le_trans hW5 (View.le_trans w6.wle (View.le_trans q12 (View.le_trans q13 q14))))))⟩
end Go.Proofs.YtbkdlhkoiagbbaaGreat
/- For every input SplitRight returns true: what is split may be, and has no critical edges; its own blocks stand ahead, the new ones are jumps. No condition. -/
namespace Go.Proofs.YtbkdlhkoiagbbaaGreat
open Go Go.Lft Go.ChangeShapes Go.WideShapes Go.ChangeAt Go.RowKit
theorem Tryz.lM:Tryz.f5.params = #[T.a8]:=by kernel_rfl
theorem oA (os:Os) (started:os.Started) (H:Type) (enc:TypeId × Value→H) :
  ReturnsInHanded {} Tryz.checked os 5 .any (Rows.splitRightSpec.pre6 enc Tryz.prog Tryz.f5 Rows.splitRightRow.domain false) (Rows.splitRightSpec.post enc Tryz.prog Tryz.f5 false true false false):=
 law1 (C:=Tryz.checked) Tryz.own started (by kernel_rfl) Tryz.func5 rfl
  (ChangeSpec.witness6 (enc:=enc) (C:=Tryz.checked) false ⟨#[],#[.slice none 0 0],[]⟩ 8 (by kernel_rfl) (by kernel_rfl) (by kernel_rfl) (by kernel_rfl))
  Tryz.laidOut (fun t ht=>by
   rw [Tryz.lM] at ht
   simp only [List.mem_cons,List.not_mem_nil,or_false] at ht
   subst ht
   exact ⟨by kernel_rfl,of_decide_eq_true (by kernel_rfl)⟩) rfl
  (fun ds hds=>by
   match ds,hds with
   | [a],_=>rfl) rfl (tb:=4) (by kernel_rfl) Tryz.lM rtIs fun h v1 x1 h1=>ud (gl.1 h1)
theorem sright_holds:Rows.SplitRightSaid:=
 OpenClaim.holds_of_wide 5 Tryz.f5 rfl rfl rfl rfl rfl rfl rfl ⟨rfl,rfl,rfl,rfl,rfl⟩ rfl rfl rfl rfl rfl (by kernel_rfl) Tryz.func5 (by kernel_rfl)
  (of_decide_eq_true (by kernel_rfl)) (by unfold Func.isWrapper;first | (rw [if_pos (by decide +kernel)];kernel_rfl) | (rw [if_neg (by decide +kernel)];exact ⟨rfl,rfl⟩))
  (fun os started H enc _=>oA os started H enc)
end Go.Proofs.YtbkdlhkoiagbbaaGreat
