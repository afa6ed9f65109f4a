/- For every input SplitOnce returns true: split once more it is the same; without critical edges it is what it was. No condition. -/
import Derived.Test.YtbkdlhkoiagbbaaGreatZSOnce5
import Derived.Laws.BytesArg
import Derived.Test.YtbkdlhkoiagbbaaGreatRows
set_option linter.unusedSimpArgs false
set_option linter.unusedVariables false
namespace Go.Proofs.YtbkdlhkoiagbbaaGreat
open Go Go.Lft
structure CpP (K b:Nat) (o o':Own) (u:Value) (pin:Nat→Value) (l:List PhiD):Prop where
 phs:PhsO K o' b u pin l
 fr : ∀k,k≠(K+1,b)→(∀i,k≠(K+5,pr b i))→o' k=o k
 fp : ∀i,l.length≤i→o' (K+5,pr b i)=none
structure CpI (K b:Nat) (o o':Own) (u:Value) (iar:Nat→Value) (l:List InsD):Prop where
 ins:InsO K o' b u iar l
 fr : ∀k,k≠(K+2,b)→(∀i,k≠(K+6,pr b i))→o' k=o k
 fi : ∀i,l.length≤i→o' (K+6,pr b i)=none
section
variable {K b:Nat} {o o' o2:Own} {u u' v:Value} {pin iar:Nat→Value}
theorem CpP.push {l:List PhiD} {p:PhiD} (c:CpP K b o o' u pin l) (ho : ∀k,o2 k=((o'.upd (K+5,pr b l.length) (it T.dy v p.ins)).upd (K+1,b) (it T.dG u' (rows (phR pin l) l.length++[⟨p.dst,⟨v⟩⟩]))) k):CpP K b o o2 u' (fun i=>if i=l.length then v else pin i) (l++[p]):=by
 refine⟨c.phs.push ?_ ?_ fun i hi=>?_,fun k h1 h2=>?_,fun i hi=>?_⟩
 ·rw[ho,Own.ag]
 ·rw[ho,Own.ab (by simp),Own.ag]
 ·rw[ho,Own.ab (by simp),Own.ab (by simp[za];omega)]
 ·rw[ho,Own.ab h1,Own.ab (h2 _)];exact c.fr k h1 h2
 ·rw[List.length_append,List.length_singleton]at hi
  rw[ho,Own.ab (by simp),Own.ab (by simp[za];omega)];exact c.fp i (by omega)
theorem CpI.push {l:List InsD} {p:InsD} (c:CpI K b o o' u iar l) (ho : ∀k,o2 k=((o'.upd (K+6,pr b l.length) (it T.int v p.args)).upd (K+2,b) (it T.dq u' (rows (inR iar l) l.length++[⟨p.op,p.dst,p.two,⟨v⟩,p.imm⟩]))) k):CpI K b o o2 u' (fun i=>if i=l.length then v else iar i) (l++[p]):=by
 refine⟨c.ins.push ?_ ?_ fun i hi=>?_,fun k h1 h2=>?_,fun i hi=>?_⟩
 ·rw[ho,Own.ag]
 ·rw[ho,Own.ab (by simp),Own.ag]
 ·rw[ho,Own.ab (by simp),Own.ab (by simp[za];omega)]
 ·rw[ho,Own.ab h1,Own.ab (h2 _)];exact c.fr k h1 h2
 ·rw[List.length_append,List.length_singleton]at hi
  rw[ho,Own.ab (by simp),Own.ab (by simp[za];omega)];exact c.fi i (by omega)
end
variable{α:Type}
theorem uD[Inhabited α]{l:List α}{k:Nat}(h:k<l.length):l.take (k+1)=l.take k++[nth l k]:=by
 rw[List.take_succ_eq_append_getElem h,ak h]
variable{W:View}
theorem xF(K b:Nat){l:List PhiD}{v:Value}{h:Heap}{o:Own}(w:Owns W h o)(hn : ∀k,OfB K b k→o k=none)(ht : ∀k:Key,k.1=K+8→o k=none)(hs:SlRd W v l)(hl:l.length≤10000)(hp : ∀i,i<l.length→(nth l i).ins.length≤10000):
  aB Tryz.prog N.cm #[v,.func (.func N.cZ) #[] #[]] h (fun u h'=>∃o' pin,Owns W h' o'∧CpP K b o o' u pin l):=by
 refine ao (args:=[v,.func (.func N.cZ) #[] #[]]) follows F.cm E.cm (Nat.le_of_ble_eq_true (by kernel_rfl)) fun Kc hK=>?_
 dsimp only[L.cm]
 refine aa fun z hz=>?_
 simp
 rw[hz];clear hz z
 refine aa fun z hz=>?_
 simp
 rw[hz];clear hz z
 refine aa fun z hz=>?_
 have s0:=hs.mono w.wle
 simp[s0.len]
 have w1:=Owns.nils w (o':=o.upd (K+1,b) (it T.dG (.slice none 0 0) ([]:List PhO))) (fun q i hq=>by
  by_cases e:q=(K+1,b)
  ·subst e;rw[Own.ag]at hq;cases hq;exact .inr ⟨rfl,OwnT.nil (α:=PhO) _ h T.dG⟩
  ·rw[Own.ab e]at hq;exact .inl hq)
 have c1:CpP K b o (o.upd (K+1,b) (it T.dG (.slice none 0 0) ([]:List PhO))) (.slice none 0 0) (fun _=>.slice none 0 0) (l.take 0):=
  ⟨⟨Own.ag,fun i hi=>absurd hi (Nat.not_lt_zero _)⟩,fun k h1 _=>Own.ab h1,fun i _=>(Own.ab (by simp)).trans (hn _ ofB5)⟩
 refine aW [1,5,8,9,10] (fun(u:Value) k=>[.func (.func N.cZ) #[] #[],u,v,.int .i64 l.length,.int .i64 k]) (fun u k h2=>∃o' pin,Owns W h2 o'∧CpP K b o o' u pin (l.take k)) l.length (.slice none 0 0)
  rfl (by omega) rfl ⟨_,_,w1,c1⟩ (fun _ _=>rfl) (fun u k h2 hk _=>by simp) ?_ ?_
 ·rintro u k h2 hk ⟨o2,pin,w2,c2⟩ K2 hK2
  have hlk:(l.take k).length=k:=by rw[List.length_take];omega
  have s2:=hs.mono w2.wle
  have ht2 : ∀q:Key,q.1=K+8→o2 q=none:=fun q hq=>by
   rw[c2.fr q (by rintro rfl;simp at hq) (fun i=>by rintro rfl;simp at hq)];exact ht q hq
  obtain⟨ux,hux,rux⟩:=hs.wh rfl (N:=2) rfl hk
  refine aa fun y hy=>?_
  simp(disch:=omega)[s2.idxn (N:=2) rfl,hux _ w2.wle]
  refine w2.lX (k:=(K+8,1)) (α:=PhiD) (n:=2) (ht2 _ rfl) rux rfl (z:=.agg #[.int .i64 0,.slice none 0 0]) (by kernel_rfl) rfl (by kernel_rfl) (by decide) (fun _=>by simp) (fun _=>by simp) fun h3 q3 w3=>?_
  generalize h2.size=X at w3
  obtain⟨uy,huy,ruy⟩:=Owns.ldW w3 (k:=(K+8,1)) (v:=.slice (some ⟨X,0,none⟩) 1 1) (l:=[nth l k]) Own.ag rfl (N:=2) rfl (i:=0) (by simp)
  have huy:Un.ev (vw h3) (.ar 2) (.pointer (some ⟨X,0,none⟩))=some uy:=by simpa[slA]using huy
  have ruy:Rd W uy (nth l k):=ruy
  rw[hy];clear hy y
  simp[huy]
  refine jl (ops:=[.tmp 16]) rfl (by kernel_rfl) (Cz K (K+5,pr b k) w3 ((Own.ab (by simp)).trans (c2.fp k (by omega))) (by simp) (fun i hi=>(Own.ab (by simp;omega)).trans (ht2 _ rfl)) ruy (by have:=hp k hk;omega)) ?_
  rintro _ h4 ⟨vn,rfl,hvn,hd,w4⟩
  refine w4.gL (k:=(K+1,b)) (α:=PhO) (v:=u) (l:=rows (phR pin (l.take k)) (l.take k).length) (d:=⟨(nth l k).dst,⟨vn⟩⟩) (by rw[Own.ab (by simp),Own.ab (by simp)];exact c2.phs.row) El.kl rfl (HR hd hvn) (by simp;omega) (by simp;omega) (fun _=>rfl) (fun _=>rfl) fun u5 v5 h5 w5 _=>?_
  refine hK2 v5 _ _ rfl rfl ⟨_,_,Owns.past w5 (o':=(o2.upd (K+5,pr b (l.take k).length) (it T.dy vn (nth l k).ins)).upd (K+1,b) (it T.dG v5 (rows (phR pin (l.take k)) (l.take k).length++[⟨(nth l k).dst,⟨vn⟩⟩]))) (P:=fun q=>q=(K+8,1)) (fun q hq=>?_) fun q hq=>?_,by rw[uD hk];exact c2.push fun _=>rfl⟩
  ·rw[hlk]
   by_cases e1:q=(K+1,b)
   ·subst e1;rw[Own.ag,Own.ag]
   rw[Own.ab e1,Own.ab e1]
   by_cases e2:q=(K+5,pr b k)
   ·subst e2;rw[Own.ag,Own.ag]
   rw[Own.ab e2,Own.ab e2,Own.ab hq]
  ·subst hq
   rw[Own.ab (by simp),Own.ab (by simp)];exact ht2 _ rfl
 ·rintro u h2 ⟨o2,pin,w2,c2⟩
  rw[List.take_length]at c2
  rw[bJ,hz];clear hz z
  simp
  exact hK _ _ ⟨o2,pin,w2,c2⟩
theorem xx(K b:Nat){l:List InsD}{v:Value}{h:Heap}{o:Own}(w:Owns W h o)(hn : ∀i,o (K+6,pr b i)=none)(ht : ∀k:Key,k.1=K+8→o k=none)(hs:SlRd W v l)(hl:l.length≤10000)(hp : ∀i,i<l.length→(nth l i).args.length≤10000):
  aB Tryz.prog N.cu #[v,.func (.func N.cY) #[] #[]] h (fun u h'=>∃o' iar,Owns W h' o'∧CpI K b o o' u iar l):=by
 refine ao (args:=[v,.func (.func N.cY) #[] #[]]) follows F.cu E.cu (Nat.le_of_ble_eq_true (by kernel_rfl)) fun Kc hK=>?_
 dsimp only[L.cu]
 refine aa fun z hz=>?_
 simp
 rw[hz];clear hz z
 refine aa fun z hz=>?_
 simp
 rw[hz];clear hz z
 refine aa fun z hz=>?_
 have s0:=hs.mono w.wle
 simp[s0.len]
 have w1:=Owns.nils w (o':=o.upd (K+2,b) (it T.dq (.slice none 0 0) ([]:List InO))) (fun q i hq=>by
  by_cases e:q=(K+2,b)
  ·subst e;rw[Own.ag]at hq;cases hq;exact .inr ⟨rfl,OwnT.nil (α:=InO) _ h T.dq⟩
  ·rw[Own.ab e]at hq;exact .inl hq)
 have c1:CpI K b o (o.upd (K+2,b) (it T.dq (.slice none 0 0) ([]:List InO))) (.slice none 0 0) (fun _=>.slice none 0 0) (l.take 0):=
  ⟨⟨Own.ag,fun i hi=>absurd hi (Nat.not_lt_zero _)⟩,fun k h1 _=>Own.ab h1,fun i _=>(Own.ab (by simp)).trans (hn i)⟩
 refine aW [1,5,8,9,10] (fun(u:Value) k=>[.func (.func N.cY) #[] #[],u,v,.int .i64 l.length,.int .i64 k]) (fun u k h2=>∃o' iar,Owns W h2 o'∧CpI K b o o' u iar (l.take k)) l.length (.slice none 0 0)
  rfl (by omega) rfl ⟨_,_,w1,c1⟩ (fun _ _=>rfl) (fun u k h2 hk _=>by simp) ?_ ?_
 ·rintro u k h2 hk ⟨o2,iar,w2,c2⟩ K2 hK2
  have hlk:(l.take k).length=k:=by rw[List.length_take];omega
  have s2:=hs.mono w2.wle
  have ht2 : ∀q:Key,q.1=K+8→o2 q=none:=fun q hq=>by
   rw[c2.fr q (by rintro rfl;simp at hq) (fun i=>by rintro rfl;simp at hq)];exact ht q hq
  obtain⟨ux,hux,rux⟩:=hs.wh rfl (N:=5) rfl hk
  refine aa fun y hy=>?_
  simp(disch:=omega)[s2.idxn (N:=5) rfl,hux _ w2.wle]
  refine w2.lX (k:=(K+8,1)) (α:=InsD) (n:=5) (ht2 _ rfl) rux rfl (z:=.agg #[.int .i64 0,.int .i64 0,.int .i64 0,.slice none 0 0,.int .i32 0]) (by kernel_rfl) rfl (by kernel_rfl) (by decide) (fun _=>by simp) (fun _=>by simp) fun h3 q3 w3=>?_
  generalize h2.size=X at w3
  obtain⟨uy,huy,ruy⟩:=Owns.ldW w3 (k:=(K+8,1)) (v:=.slice (some ⟨X,0,none⟩) 1 1) (l:=[nth l k]) Own.ag rfl (N:=5) rfl (i:=0) (by simp)
  have huy:Un.ev (vw h3) (.ar 5) (.pointer (some ⟨X,0,none⟩))=some uy:=by simpa[slA]using huy
  have ruy:Rd W uy (nth l k):=ruy
  rw[hy];clear hy y
  simp[huy]
  refine jl (ops:=[.tmp 16]) rfl (by kernel_rfl) (BZ K (K+6,pr b k) w3 ((Own.ab (by simp)).trans (c2.fi k (by omega))) (by simp) (fun i hi=>(Own.ab (by simp;omega)).trans (ht2 _ rfl)) ruy (by have:=hp k hk;omega)) ?_
  rintro _ h4 ⟨vn,rfl,hvn,hd,w4⟩
  refine w4.gL (k:=(K+2,b)) (α:=InO) (v:=u) (l:=rows (inR iar (l.take k)) (l.take k).length) (d:=⟨(nth l k).op,(nth l k).dst,(nth l k).two,⟨vn⟩,(nth l k).imm⟩) (by rw[Own.ab (by simp),Own.ab (by simp)];exact c2.ins.row) El.lU rfl (HI hd hvn) (by simp;omega) (by simp;omega) (fun _=>rfl) (fun _=>rfl) fun u5 v5 h5 w5 _=>?_
  refine hK2 v5 _ _ rfl rfl ⟨_,_,Owns.past w5 (o':=(o2.upd (K+6,pr b (l.take k).length) (it T.int vn (nth l k).args)).upd (K+2,b) (it T.dq v5 (rows (inR iar (l.take k)) (l.take k).length++[⟨(nth l k).op,(nth l k).dst,(nth l k).two,⟨vn⟩,(nth l k).imm⟩]))) (P:=fun q=>q=(K+8,1)) (fun q hq=>?_) fun q hq=>?_,by rw[uD hk];exact c2.push fun _=>rfl⟩
  ·rw[hlk]
   by_cases e1:q=(K+2,b)
   ·subst e1;rw[Own.ag,Own.ag]
   rw[Own.ab e1,Own.ab e1]
   by_cases e2:q=(K+6,pr b k)
   ·subst e2;rw[Own.ag,Own.ag]
   rw[Own.ab e2,Own.ab e2,Own.ab hq]
  ·subst hq
   rw[Own.ab (by simp),Own.ab (by simp)];exact ht2 _ rfl
 ·rintro u h2 ⟨o2,iar,w2,c2⟩
  rw[List.take_length]at c2
  rw[bJ,hz];clear hz z
  simp
  exact hK _ _ ⟨o2,iar,w2,c2⟩
theorem vc{a b c d:Value}{k i:Int}(ha:a.oneCell'=true)(hb:b.oneCell'=true)(hc:c.oneCell'=true)(hd:d.oneCell'=true): ∀x∈[a,b,Value.int .i64 k,c,d,.int .i32 i],x.oneCell'=true:=by
 intro x hx
 simp only[List.mem_cons,List.not_mem_nil,or_false]at hx
 rcases hx with rfl | rfl | rfl | rfl | rfl | rfl<;>first | rfl | assumption
theorem Ck(K b:Nat){x:BlkD}{u:Value}{h:Heap}{o:Own}(w:Owns W h o)(hn : ∀k,OfB K b k→o k=none)(ht : ∀k:Key,k.1=K+8→o k=none)(h9 : ∀i,10≤i→o (K+9,i)=none)(hr:Rd W u x)(sm:SmB x):
  aB Tryz.prog N.dQ #[u] h (fun r h'=>∃o' V,r = .agg #[V.p,V.i,.int .i64 x.term.kind,V.a,V.t,.int .i32 x.term.imm.v]∧V.p.oneCell'=true∧V.i.oneCell'=true∧V.a.oneCell'=true∧V.t.oneCell'=true∧I64 x.term.kind∧(-2147483648≤x.term.imm.v∧x.term.imm.v≤2147483647)∧Owns W h' o'∧BO K o' b V x∧∀k,¬OfB K b k→o' k=o k):=by
 refine ao (args:=[u]) follows F.dQ E.dQ (Nat.le_of_ble_eq_true (by kernel_rfl)) fun Kc hK=>?_
 dsimp only[L.dQ]
 obtain⟨vp,vi,va,vt,rfl,sp,si,sa,st,ik,im⟩:=Gx hr
 have far : ∀{k:Key} {i:Nat},OfB K b k→k≠(K+9,i):=fun h e=>by have:=ij h;rw[e]at this;simp at this
 refine aa fun z hz=>?_
 simp
 refine w.sN (k:=(K+9,10)) (n:=5) (l:=[vp,vi,.int .i64 x.term.kind,va,vt,.int .i32 x.term.imm.v]) (h9 10 (by decide)) rfl rfl (by decide) (vc sp.cells.2 si.cells.2 sa.cells.2 st.cells.2) fun B h1 hle1 w1=>?_
 refine w1.oq (k:=(K+9,11)) (n:=5) (z:=.agg #[.slice none 0 0,.slice none 0 0,.int .i64 0,.slice none 0 0,.slice none 0 0,.int .i32 0]) ((Own.ab (by simp)).trans (h9 11 (by decide))) (by kernel_rfl) rfl (by decide) (by simp[Value.cells,Value.oneCell']) fun h2 q2 w2=>?_
 generalize h1.size=R at w2
 obtain⟨o2,ho2⟩ : ∃o2,o2=(o.upd (K+9,10) (bx T.aY B (RawN.mk (n:=5) [vp,vi,.int .i64 x.term.kind,va,vt,.int .i32 x.term.imm.v]))).upd (K+9,11) (bx T.aY R (RawN.mk (n:=5) [.slice none 0 0,.slice none 0 0,.int .i64 0,.slice none 0 0,.slice none 0 0,.int .i32 0])):=⟨_,rfl⟩
 have w2:Owns W h2 o2:=by rw[ho2];exact w2
 have bB:o2 (K+9,10)=bx T.aY B (RawN.mk (n:=5) [vp,vi,.int .i64 x.term.kind,va,vt,.int .i32 x.term.imm.v]):=by rw[ho2,Own.ab (by simp),Own.ag]
 have bR:o2 (K+9,11)=bx T.aY R (RawN.mk (n:=5) [.slice none 0 0,.slice none 0 0,.int .i64 0,.slice none 0 0,.slice none 0 0,.int .i32 0]):=by rw[ho2,Own.ag]
 have bO : ∀k,k≠(K+9,10)→k≠(K+9,11)→o2 k=o k:=fun k e1 e2=>by rw[ho2,Own.ab e2,Own.ab e1]
 clear ho2 w1
 have c0:an (vw h2) ⟨B,0,none⟩=some vp:=w2.raw (k:=(K+9,10)) (n:=5) bB (i:=0) (by decide)
 rw[hz];clear hz z
 refine aa fun z hz=>?_
 simp[c0]
 refine af (by kernel_rfl) (xF K b w2 (fun k hk=>by rw[bO k (far hk) (far hk)];exact hn k hk) (fun k hk=>by rw[bO k (by rintro rfl;simp at hk) (by rintro rfl;simp at hk)];exact ht k hk) sp sm.phis sm.phi) ?_
 rintro u3 h3 ⟨o3,pin,w3,cp⟩
 have hu3:=(w3.cells cp.phs.row).2
 have n1 : ∀i,(K+9,i)≠(K+1,b):=fun i=>by simp
 have n5 : ∀i j,(K+9,i)≠(K+5,pr b j):=fun i j=>by simp
 refine w3.cI (k:=(K+9,10)) (n:=5) (i:=0) (e:=T.aY) (B:=B) (l:=[vp,vi,.int .i64 x.term.kind,va,vt,.int .i32 x.term.imm.v]) (by rw[cp.fr _ (n1 _) (n5 _)];exact bB) (by decide) (by kernel_rfl) rfl rfl hu3 fun h4 w4 _=>?_
 have c1:an (vw h4) ⟨B,1,none⟩=some vi:=w4.raw (k:=(K+9,10)) (n:=5) Own.ag (i:=1) (by decide)
 rw[hz];clear hz z
 refine aa fun z hz=>?_
 simp[c1]
 refine af (by kernel_rfl) (xx K b w4 (fun i=>by rw[Own.ab (by simp),cp.fr _ (by simp) (fun j=>by simp),bO _ (by simp) (by simp)];exact hn _ ofB6) (fun k hk=>by rw[Own.ab (by rintro rfl;simp at hk),cp.fr _ (by rintro rfl;simp at hk) (fun i=>by rintro rfl;simp at hk),bO _ (by rintro rfl;simp at hk) (by rintro rfl;simp at hk)];exact ht k hk) si sm.ins sm.inn) ?_
 rintro u5 h5 ⟨o5,iar,w5,ci⟩
 have hu5:=(w5.cells ci.ins.row).2
 have n2 : ∀i,(K+9,i)≠(K+2,b):=fun i=>by simp
 have n6 : ∀i j,(K+9,i)≠(K+6,pr b j):=fun i j=>by simp
 refine w5.cI (k:=(K+9,10)) (n:=5) (i:=1) (e:=T.aY) (B:=B) (l:=[u3,vi,.int .i64 x.term.kind,va,vt,.int .i32 x.term.imm.v]) (by rw[ci.fr _ (n2 _) (n6 _),Own.ag];rfl) (by decide) (by kernel_rfl) rfl rfl hu5 fun h6 w6 _=>?_
 have c3:an (vw h6) ⟨B,3,none⟩=some va:=w6.raw (k:=(K+9,10)) (n:=5) Own.ag (i:=3) (by decide)
 have c4:an (vw h6) ⟨B,4,none⟩=some vt:=w6.raw (k:=(K+9,10)) (n:=5) Own.ag (i:=4) (by decide)
 have e3:o5 (K+3,b)=none:=by rw[ci.fr _ (by simp) (fun j=>by simp),Own.ab (by simp),cp.fr _ (by simp) (fun j=>by simp),bO _ (by simp) (by simp)];exact hn _ ofB3
 have e4:o5 (K+4,b)=none:=by rw[ci.fr _ (by simp) (fun j=>by simp),Own.ab (by simp),cp.fr _ (by simp) (fun j=>by simp),bO _ (by simp) (by simp)];exact hn _ ofB4
 have hR5:o5 (K+9,11)=bx T.aY R (RawN.mk (n:=5) [.slice none 0 0,.slice none 0 0,.int .i64 0,.slice none 0 0,.slice none 0 0,.int .i32 0]):=by rw[ci.fr _ (n2 _) (n6 _),Own.ab (by simp),cp.fr _ (n1 _) (n5 _)];exact bR
 rw[hz];clear hz z
 refine aa fun z hz=>?_
 refine cH (vw h6) (View.le_refl _) ?_
 simp[c3,c4]
 refine af (by kernel_rfl) (mZ (K+3,b) w6 (by rw[Own.ab (by simp)];exact e3) sa (by have:=sm.args;omega)) ?_
 rintro ua h7 ⟨w7,hua,hle7⟩
 refine⟨hle7,?_⟩
 refine af (by kernel_rfl) (mZ (K+4,b) w7 (by rw[Own.ab (by simp),Own.ab (by simp)];exact e4) st (by have:=sm.to;omega)) ?_
 rintro ut h8 ⟨w8,hut,hle8⟩
 refine w8.cI (k:=(K+9,10)) (n:=5) (i:=3) (e:=T.aY) (B:=B) (l:=[u3,u5,.int .i64 x.term.kind,va,vt,.int .i32 x.term.imm.v]) (by rw[Own.ab (by simp),Own.ab (by simp),Own.ag];rfl) (by decide) (by kernel_rfl) rfl rfl hua fun h9' w9 _=>?_
 refine w9.cI (k:=(K+9,10)) (n:=5) (i:=4) (e:=T.aY) (B:=B) (l:=[u3,u5,.int .i64 x.term.kind,ua,vt,.int .i32 x.term.imm.v]) (by rw[Own.ag];rfl) (by decide) (by kernel_rfl) rfl rfl hut fun h10 w10 _=>?_
 have c6:Un.ev (vw h10) (.ar 6) (.pointer (some ⟨B,0,none⟩))=some (.agg #[u3,u5,.int .i64 x.term.kind,ua,ut,.int .i32 x.term.imm.v]):=w10.gH (k:=(K+9,10)) (n:=5) Own.ag
 rw[hz];clear hz z
 refine aa fun z hz=>?_
 simp[c6]
 refine w10.jX (k:=(K+9,11)) (e:=T.aY) (B:=R) (D:=RawN.mk (n:=5) [.slice none 0 0,.slice none 0 0,.int .i64 0,.slice none 0 0,.slice none 0 0,.int .i32 0]) Part.all (d:=RawN.mk (n:=5) [u3,u5,.int .i64 x.term.kind,ua,ut,.int .i32 x.term.imm.v]) (by rw[Own.ab (by simp),Own.ab (by simp),Own.ab (by simp),Own.ab (by simp),Own.ab (by simp)];exact hR5) (by kernel_rfl) rfl rfl (iM rfl (vc hu3 hu5 hua hut)) fun h11 w11 _=>?_
 have c7:Un.ev (vw h11) (.ar 6) (.pointer (some ⟨R,0,none⟩))=some (.agg #[u3,u5,.int .i64 x.term.kind,ua,ut,.int .i32 x.term.imm.v]):=w11.gH (k:=(K+9,11)) (n:=5) Own.ag
 rw[hz];clear hz z
 simp[c7]
 obtain⟨oF,f1,f2,f3,f4⟩ : ∃oF:Own,(∀k,(k=(K+9,10)∨k=(K+9,11))→oF k=none)∧oF (K+3,b)=it T.int ua x.term.args∧oF (K+4,b)=it T.int ut x.term.to∧∀k,¬(k=(K+9,10)∨k=(K+9,11))→k≠(K+3,b)→k≠(K+4,b)→oF k=o5 k:=
  ⟨fun k=>if k=(K+9,10)∨k=(K+9,11) then none else if k=(K+3,b) then it T.int ua x.term.args else if k=(K+4,b) then it T.int ut x.term.to else o5 k,
   fun k hk=>if_pos hk,(if_neg (by simp)).trans (if_pos rfl),(if_neg (by simp)).trans ((if_neg (by simp)).trans (if_pos rfl)),fun k h1 h2 h3=>(if_neg h1).trans ((if_neg h2).trans (if_neg h3))⟩
 have nf : ∀{k},OfB K b k→¬(k=(K+9,10)∨k=(K+9,11)):=fun h e=>by rcases e with e | e<;>exact far h e
 refine hK _ _ ⟨oF,⟨u3,u5,ua,ut,pin,iar⟩,rfl,hu3,hu5,hua,hut,ik,im,Owns.past w11 (P:=fun k=>k=(K+9,10)∨k=(K+9,11)) (fun k hk=>?_) f1,?_,fun k hk=>?_⟩
 ·have h1:k≠(K+9,10):=fun e=>hk (.inl e)
  have h2:k≠(K+9,11):=fun e=>hk (.inr e)
  rw[Own.ab h2,Own.ab h1,Own.ab h1]
  by_cases e4:k=(K+4,b)
  ·subst e4;rw[Own.ag,f3]
  rw[Own.ab e4]
  by_cases e3:k=(K+3,b)
  ·subst e3;rw[Own.ag,f2]
  rw[Own.ab e3,Own.ab h1,f4 k hk e3 e4]
 ·refine BO.of (p:=x.phis) (i:=x.ins) (t:=x.term) ⟨?_,fun i hi=>?_⟩ ⟨?_,fun i hi=>?_⟩ f2 f3
  ·rw[f4 _ (nf ofB1) (by simp) (by simp),ci.fr _ (by simp) (fun j=>by simp),Own.ab (by simp)];exact cp.phs.row
  ·rw[f4 _ (nf ofB5) (by simp) (by simp),ci.fr _ (by simp) (fun j=>by simp),Own.ab (by simp)];exact cp.phs.pin i hi
  ·rw[f4 _ (nf ofB2) (by simp) (by simp)];exact ci.ins.row
  ·rw[f4 _ (nf ofB6) (by simp) (by simp)];exact ci.ins.iar i hi
 ·by_cases e:k=(K+9,10)∨k=(K+9,11)
  ·rw[f1 k e]
   rcases e with rfl | rfl
   ·exact(h9 10 (by decide)).symm
   ·exact(h9 11 (by decide)).symm
  ·rw[f4 k e (by rintro rfl;exact hk ofB3) (by rintro rfl;exact hk ofB4),ci.fr k (by rintro rfl;exact hk ofB2) (fun j=>by rintro rfl;exact hk ofB6),Own.ab (fun q=>e (.inl q)),cp.fr k (by rintro rfl;exact hk ofB1) (fun j=>by rintro rfl;exact hk ofB5),bO k (fun q=>e (.inl q)) (fun q=>e (.inr q))]
structure CpB (K:Nat) (o o':Own) (u:Value) (V:Nat→Bv) (ps:Int) (l:List BlkD):Prop where
 fno:FnO K o' u V ⟨ps,l⟩
 fr : ∀k:Key,(k.1<K∨K+6<k.1)→o' k=o k
 free : ∀b,l.length≤b→∀k,OfB K b k→o' k=none
theorem xo(K:Nat)(ps:Int){l:List BlkD}{v:Value}{h:Heap}{o:Own}(w:Owns W h o)(hn : ∀k:Key,K≤k.1→k.1≤K+6→o k=none)(ht : ∀k:Key,k.1=K+8→o k=none)(h9 : ∀k:Key,k.1=K+9→o k=none)(hs:SlRd W v l)(hl:l.length≤10000)(hp : ∀i,i<l.length→SmB (nth l i)):
  aB Tryz.prog N.bI #[v,.func (.func N.dQ) #[] #[]] h (fun u h'=>∃o' V,Owns W h' o'∧CpB K o o' u V ps l):=by
 refine ao (args:=[v,.func (.func N.dQ) #[] #[]]) follows F.bI E.bI (Nat.le_of_ble_eq_true (by kernel_rfl)) fun Kc hK=>?_
 dsimp only[L.bI]
 refine aa fun z hz=>?_
 simp
 rw[hz];clear hz z
 refine aa fun z hz=>?_
 simp
 rw[hz];clear hz z
 refine aa fun z hz=>?_
 have s0:=hs.mono w.wle
 simp[s0.len]
 have w1:=Owns.nils w (o':=o.upd (K,0) (it T.aY (.slice none 0 0) ([]:List BkO))) (fun q i hq=>by
  by_cases e:q=(K,0)
  ·subst e;rw[Own.ag]at hq;cases hq;exact .inr ⟨rfl,OwnT.nil (α:=BkO) _ h T.aY⟩
  ·rw[Own.ab e]at hq;exact .inl hq)
 have c1:CpB K o (o.upd (K,0) (it T.aY (.slice none 0 0) ([]:List BkO))) (.slice none 0 0) (fun _=>⟨.slice none 0 0,.slice none 0 0,.slice none 0 0,.slice none 0 0,fun _=>.slice none 0 0,fun _=>.slice none 0 0⟩) ps (l.take 0):=
  ⟨⟨Own.ag,fun b hb=>absurd hb (Nat.not_lt_zero _)⟩,fun k hk=>Own.ab (by rintro rfl;dsimp only at hk;omega),fun b _ k hk=>by have:=ij hk;rw[Own.ab (by rintro rfl;simp at this;omega)];exact hn k (by omega) (by omega)⟩
 refine aW [1,5,8,9,10] (fun(u:Value) k=>[.func (.func N.dQ) #[] #[],u,v,.int .i64 l.length,.int .i64 k]) (fun u k h2=>∃o' V,Owns W h2 o'∧CpB K o o' u V ps (l.take k)) l.length (.slice none 0 0)
  rfl (by omega) rfl ⟨_,_,w1,c1⟩ (fun _ _=>rfl) (fun u k h2 hk _=>by simp) ?_ ?_
 ·rintro u k h2 hk ⟨o2,V,w2,c2⟩ K2 hK2
  have hlk:(l.take k).length=k:=by rw[List.length_take];omega
  have s2:=hs.mono w2.wle
  have ht2 : ∀q:Key,q.1=K+8→o2 q=none:=fun q hq=>by rw[c2.fr q (by omega)];exact ht q hq
  have h92 : ∀q:Key,q.1=K+9→o2 q=none:=fun q hq=>by rw[c2.fr q (by omega)];exact h9 q hq
  obtain⟨ux,hux,rux⟩:=hs.wh rfl (N:=6) rfl hk
  refine aa fun y hy=>?_
  simp(disch:=omega)[s2.idxn (N:=6) rfl,hux _ w2.wle]
  refine w2.lX (k:=(K+9,1)) (α:=BlkD) (n:=6) (h92 _ rfl) rux rfl (z:=.agg #[.slice none 0 0,.slice none 0 0,.int .i64 0,.slice none 0 0,.slice none 0 0,.int .i32 0]) (by kernel_rfl) rfl (by kernel_rfl) (by decide) (fun _=>by simp) (fun _=>by simp) fun h3 q3 w3=>?_
  generalize h2.size=X at w3
  obtain⟨uy,huy,ruy⟩:=Owns.ldW w3 (k:=(K+9,1)) (v:=.slice (some ⟨X,0,none⟩) 1 1) (l:=[nth l k]) Own.ag rfl (N:=6) rfl (i:=0) (by simp)
  have huy:Un.ev (vw h3) (.ar 6) (.pointer (some ⟨X,0,none⟩))=some uy:=by simpa[slA]using huy
  have ruy:Rd W uy (nth l k):=ruy
  have hne : ∀q:Key,OfB K k q→q≠(K+9,1):=fun q hq e=>by have:=ij hq;rw[e]at this;simp at this
  rw[hy];clear hy y
  simp[huy]
  refine jl (ops:=[.tmp 16]) rfl (by kernel_rfl) (Ck K k w3 (fun q hq=>by rw[Own.ab (hne q hq)];exact c2.free k (by omega) q hq) (fun q hq=>by rw[Own.ab (by rintro rfl;simp at hq)];exact ht2 q hq) (fun i hi=>by rw[Own.ab (by simp;omega)];exact h92 _ rfl) ruy (hp k hk)) ?_
  rintro _ h4 ⟨o4,Vn,rfl,g1,g2,g3,g4,ik,im,w4,bo,fr4⟩
  have nK:¬OfB K k (K,0):=fun h=>by have:=ij h;simp at this;omega
  refine w4.gL (k:=(K,0)) (α:=BkO) (v:=u) (l:=rows (fun b=>bkO (V b) (nth (l.take k) b)) (l.take k).length) (d:=bkO Vn (nth l k)) (by rw[fr4 _ nK,Own.ab (by simp)];exact c2.fno.blk) El.iV rfl (Es g1 g2 g3 g4 ik im) (by simp;omega) (by simp;omega) (fun _=>rfl) (fun _=>rfl) fun u5 v5 h5 w5 _=>?_
  refine hK2 v5 _ _ rfl rfl ⟨fun q=>if q=(K+9,1) then none else(o4.upd (K,0) (it T.aY v5 (rows (fun b=>bkO (V b) (nth (l.take k) b)) (l.take k).length++[bkO Vn (nth l k)]))) q,fun b=>if b=(l.take k).length then Vn else V b,w5.sub fun q i hq=>?_,?_⟩
  ·split at hq
   ·cases hq
   ·exact hq
  ·obtain⟨oF,hoF⟩ : ∃oF:Own,oF=fun q=>if q=(K+9,1) then none else(o4.upd (K,0) (it T.aY v5 (rows (fun b=>bkO (V b) (nth (l.take k) b)) (l.take k).length++[bkO Vn (nth l k)]))) q:=⟨_,rfl⟩
   rw[←hoF]
   have f1 : ∀q,q≠(K+9,1)→oF q=(o4.upd (K,0) (it T.aY v5 (rows (fun b=>bkO (V b) (nth (l.take k) b)) (l.take k).length++[bkO Vn (nth l k)]))) q:=fun q hq=>by rw[hoF];exact if_neg hq
   have f2:oF (K+9,1)=none:=by rw[hoF];exact if_pos rfl
   have far : ∀q,q≠(K+9,1)→q≠(K,0)→¬OfB K k q→oF q=o2 q:=fun q h1 h2 h3=>by rw[f1 q h1,Own.ab h2,fr4 q h3,Own.ab h1]
   have nb : ∀{b:Nat} {q:Key},OfB K b q→q≠(K+9,1)∧q≠(K,0):=fun h=>by
    have:=ij h
    exact⟨by rintro rfl;simp at this,by rintro rfl;simp at this;omega⟩
   rw[uD hk]
   refine⟨c2.fno.push (Vn:=Vn) (d:=nth l k) (x:=bkO Vn (nth l k)) rfl ?_ (fun b hb q hq=>?_) ?_,fun q hq=>?_,fun b hb q hq=>?_⟩
   ·rw[f1 _ (by simp),Own.ag]
   ·exact far q (nb hq).1 (nb hq).2 (xg (by omega) hq)
   ·rw[hlk]
    exact bo.congr fun q hq=>by rw[f1 q (nb hq).1,Own.ab (nb hq).2]
   ·by_cases e:q=(K+9,1)
    ·rw[e,f2];exact(h9 _ rfl).symm
    ·rw[far q e (by rintro rfl;dsimp only at hq;omega) (fun h=>by have:=ij h;omega)];exact c2.fr q hq
   ·rw[List.length_append,List.length_singleton]at hb
    rw[far q (nb hq).1 (nb hq).2 (xg (by omega) hq)];exact c2.free b (by omega) q hq
 ·rintro u h2 ⟨o2,V,w2,c2⟩
  rw[List.take_length]at c2
  rw[bJ,hz];clear hz z
  simp
  exact hK _ _ ⟨o2,V,w2,c2⟩
theorem HS(K:Nat){f:ah}{v:Value}{h:Heap}{o:Own}(w:Owns W h o)(hn : ∀k:Key,K≤k.1→k.1≤K+9→o k=none)(hr:Rd W v f)(sm:SmF f):
  aB Tryz.prog N.hC #[v] h (fun r h'=>∃o' vb V,r = .agg #[.int .i64 f.params,vb]∧I64 f.params∧Owns W h' o'∧FnO K o' vb V f∧(∀k:Key,(k.1<K∨K+6<k.1)→o' k=o k)∧∀b,f.blocks.length≤b→∀k,OfB K b k→o' k=none):=by
 refine ao (args:=[v]) follows F.hC E.hC (Nat.le_of_ble_eq_true (by kernel_rfl)) fun Kc hK=>?_
 dsimp only[L.hC]
 obtain⟨vb,rfl,ip,sb⟩:=nQ hr
 refine aa fun z hz=>?_
 simp
 refine w.sN (k:=(K+7,0)) (n:=1) (l:=[.int .i64 f.params,vb]) (hn _ (by simp) (by simp)) rfl rfl (by decide) (gB sb.cells.2) fun B h1 hle1 w1=>?_
 refine w1.oq (k:=(K+7,1)) (n:=1) (z:=.agg #[.int .i64 0,.slice none 0 0]) ((Own.ab (by simp)).trans (hn _ (by simp) (by simp))) (by kernel_rfl) rfl (by decide) (by simp[Value.cells,Value.oneCell']) fun h2 q2 w2=>?_
 generalize h1.size=R at w2
 have c1:an (vw h2) ⟨B,1,none⟩=some vb:=w2.raw (k:=(K+7,0)) (e:=T.aD) (n:=1) (by rw[Own.ab (by simp),Own.ag]) (i:=1) (by decide)
 rw[hz];clear hz z
 refine aa fun z hz=>?_
 simp[c1]
 refine af (by kernel_rfl) (xo K f.params w2 (fun k h1 h2=>by rw[Own.ab (by rintro rfl;simp at h2),Own.ab (by rintro rfl;simp at h2)];exact hn k h1 (by omega)) (fun k hk=>by rw[Own.ab (by rintro rfl;simp at hk),Own.ab (by rintro rfl;simp at hk)];exact hn k (by omega) (by omega)) (fun k hk=>by rw[Own.ab (by rintro rfl;simp at hk),Own.ab (by rintro rfl;simp at hk)];exact hn k (by omega) (by omega)) sb sm.len sm.blk) ?_
 rintro u3 h3 ⟨o3,V,w3,c3⟩
 have hu3:=(w3.cells c3.fno.blk).2
 refine w3.cI (k:=(K+7,0)) (n:=1) (i:=1) (e:=T.aD) (B:=B) (l:=[.int .i64 f.params,vb]) (by rw[c3.fr _ (by simp),Own.ab (by simp),Own.ag]) (by decide) (by kernel_rfl) rfl rfl hu3 fun h4 w4 _=>?_
 have c2:Un.ev (vw h4) (.ar 2) (.pointer (some ⟨B,0,none⟩))=some (.agg #[.int .i64 f.params,u3]):=w4.gH (k:=(K+7,0)) (n:=1) Own.ag
 rw[hz];clear hz z
 refine aa fun z hz=>?_
 simp[c2]
 refine w4.jX (k:=(K+7,1)) (e:=T.aD) (B:=R) (D:=RawN.mk (n:=1) [.int .i64 0,.slice none 0 0]) Part.all (d:=RawN.mk (n:=1) [.int .i64 f.params,u3]) (by rw[Own.ab (by simp),c3.fr _ (by simp),Own.ag];rfl) (by kernel_rfl) rfl rfl (iM rfl (gB hu3)) fun h5 w5 _=>?_
 have c3':Un.ev (vw h5) (.ar 2) (.pointer (some ⟨R,0,none⟩))=some (.agg #[.int .i64 f.params,u3]):=w5.gH (k:=(K+7,1)) (n:=1) Own.ag
 rw[hz];clear hz z
 simp[c3']
 have hf:(⟨f.params,f.blocks⟩:ah)=f:=rfl
 refine hK _ _ ⟨fun q=>if q.1=K+7 then none else o3 q,u3,V,rfl,ip,w5.sub fun q i hq=>?_,c3.fno.congr fun q h1 h2=>if_neg (by omega),fun q hq=>?_,fun b hb q hq=>?_⟩
 ·split at hq
  ·cases hq
  ·rename_i e
   rw[Own.ab (by rintro rfl;exact e rfl),Own.ab (by rintro rfl;exact e rfl)];exact hq
 ·by_cases e:q.1=K+7
  ·exact(if_pos e).trans (hn q (by omega) (by omega)).symm
  ·refine(if_neg e).trans ?_
   rw[c3.fr q hq,Own.ab (by rintro rfl;exact e rfl),Own.ab (by rintro rfl;exact e rfl)]
 ·have:=ij hq
  refine(if_neg (by omega)).trans (c3.free b hb q hq)
section
variable {f:ah} {b i:Nat}
theorem y0:jh f (phiT f b i)=false:=by
 refine decide_eq_false ?_
 show ¬(-1-(i:Int)=((fQ f (phiT f b i)).ins.length:Nat))
 omega
theorem yf(hi:i<(nth f.blocks b).ins.length):jh f (insT f b i)=false:=by
 refine decide_eq_false ?_
 show ¬((i:Int)=((nth f.blocks ((b:Nat):Int).toNat).ins.length:Nat))
 rw[Int.toNat_natCast]
 omega
theorem yW:jh f (endT f b)=true:=by
 refine decide_eq_true ?_
 show(((nth f.blocks b).ins.length:Nat):Int)=((nth f.blocks ((b:Nat):Int).toNat).ins.length:Nat)
 rw[Int.toNat_natCast]
theorem F4:lH f (phiT f b i)=false:=by
 have h:decide (0≤(phiT f b i).place)=false:=decide_eq_false (by show ¬(0:Int)≤-1-(i:Int);omega)
 unfold lH
 rw[h];rfl
theorem wV(hi:i<(nth f.blocks b).ins.length):lH f (insT f b i)=true∧tL f (insT f b i)=nth (nth f.blocks b).ins i:=by
 refine⟨(Bool.and_eq_true _ _).mpr ⟨decide_eq_true (Int.natCast_nonneg _),decide_eq_true ?_⟩,?_⟩
 ·show(i:Int)<((nth f.blocks ((b:Nat):Int).toNat).ins.length:Nat)
  rw[Int.toNat_natCast];omega
 ·show nth (nth f.blocks ((b:Nat):Int).toNat).ins ((i:Nat):Int).toNat=_
  rw[Int.toNat_natCast,Int.toNat_natCast]
theorem FD:lH f (endT f b)=false:=by
 have h:decide ((endT f b).place<((fQ f (endT f b)).ins.length:Nat))=false:=decide_eq_false (by show ¬(((nth f.blocks b).ins.length:Nat):Int)<((nth f.blocks ((b:Nat):Int).toNat).ins.length:Nat);rw[Int.toNat_natCast];omega)
 unfold lH
 rw[h]
 exact Bool.and_false _
theorem xH:fQ f (endT f b)=nth f.blocks b:=by
 show nth f.blocks ((b:Nat):Int).toNat=_
 rw[Int.toNat_natCast]
theorem yh(h : ∀n∈(phiT f b i).mks,f.params≤n∧n≤8191):mG f (phiT f b i):=
 ⟨fun c=>(by rw[F4]at c;cases c),fun c=>(by rw[y0]at c;cases c),h,fun c=>(by rw[y0]at c;cases c)⟩
theorem y8(hi:i<(nth f.blocks b).ins.length)(ho:lh (nth (nth f.blocks b).ins i)=false)(h : ∀n∈(insT f b i).mks,f.params≤n∧n≤8191):mG f (insT f b i):=
 ⟨fun _=>(by rw[(wV hi).2];exact ho),fun c=>(by rw[yf hi]at c;cases c),h,fun c=>(by rw[yf hi]at c;cases c)⟩
theorem qC(ht:jq (nth f.blocks b).term=true)(h : ∀n∈(nth f.blocks b).term.to,1≤n∧n<f.blocks.length):mG f (endT f b):=
 ⟨fun c=>(by rw[FD]at c;cases c),fun _=>(by rw[xH];exact ht),fun n hn=>(by cases hn),fun _=>(by rw[xH];exact h)⟩
theorem iB.phiG(m:iB f)(hb:b<f.blocks.length)(hi:i<(nth f.blocks b).phis.length):mG f (phiT f b i):=m.good _ (bC.2 ⟨b,hb,bU.2 (.inl ⟨i,hi,rfl⟩)⟩)
theorem iB.insG(m:iB f)(hb:b<f.blocks.length)(hi:i<(nth f.blocks b).ins.length):mG f (insT f b i)∧lh (nth (nth f.blocks b).ins i)=false:=by
 have g:=m.good _ (bC.2 ⟨b,hb,bU.2 (.inr (.inl ⟨i,hi,rfl⟩))⟩)
 exact⟨g,by have:=g.op (wV hi).1;rwa [(wV hi).2]at this⟩
theorem iB.endG(m:iB f)(hb:b<f.blocks.length):jq (nth f.blocks b).term=true∧∀n∈(nth f.blocks b).term.to,1≤n∧n<f.blocks.length:=by
 have g:=m.good _ (bC.2 ⟨b,hb,bU.2 (.inr (.inr rfl))⟩)
 have h1:=g.term yW
 have h2:=g.to yW
 rw[xH]at h1 h2
 exact⟨h1,h2⟩
end
def newT (N n i:Nat):dp:=if i+1<n then⟨1,[],[((N+i+1:Nat):Int)],⟨0⟩⟩ else⟨5,[],[],⟨7⟩⟩
def newB (N n i:Nat):BlkD:=⟨[],[],newT N n i⟩
structure Mo (f g:ah) (n:Nat):Prop where
 params:g.params=f.params
 len:g.blocks.length=f.blocks.length+n
 phis : ∀c,c<f.blocks.length→(nth g.blocks c).phis=(nth f.blocks c).phis
 ins : ∀c,c<f.blocks.length→(nth g.blocks c).ins=(nth f.blocks c).ins
 term : ∀c,c<f.blocks.length→(nth g.blocks c).term=(nth f.blocks c).term∨((nth f.blocks c).term.to=[]∧(nth g.blocks c).term=⟨1,[],[(f.blocks.length:Int)],⟨0⟩⟩)
 new : ∀i,i<n→nth g.blocks (f.blocks.length+i)=newB f.blocks.length n i
section
variable {f g:ah} {n:Nat}
theorem Mo.phiT (m:Mo f g n) {c:Nat} (hc:c<f.blocks.length) (i:Nat):phiT g c i=phiT f c i:=by unfold Go.Proofs.YtbkdlhkoiagbbaaGreat.phiT;rw[m.phis c hc]
theorem Mo.insT (m:Mo f g n) {c:Nat} (hc:c<f.blocks.length) (i:Nat):insT g c i=insT f c i:=by unfold Go.Proofs.YtbkdlhkoiagbbaaGreat.insT;rw[m.ins c hc]
theorem Mo.good(m:Mo f g n)(mb:iB f)(hn:1≤n): ∀t∈aF g,mG g t:=by
 intro t ht
 obtain⟨c,hc,hm⟩:=bC.1 ht
 rw[m.len]at hc
 rcases Nat.lt_or_ge c f.blocks.length with h | h
 ·rcases bU.1 hm with⟨i,hi,rfl⟩ | ⟨i,hi,rfl⟩ | rfl
  ·rw[m.phis c h]at hi
   refine yh fun k hk=>?_
   rw[m.phiT h]at hk
   rw[m.params];exact(mb.phiG h hi).mks k hk
  ·refine y8 hi ?_ fun k hk=>?_
   ·rw[m.ins c h]at hi ⊢;exact(mb.insG h hi).2
   ·rw[m.ins c h]at hi
    rw[m.insT h]at hk
    rw[m.params];exact(mb.insG h hi).1.mks k hk
  ·obtain⟨e1,e2⟩:=mb.endG h
   refine qC ?_ fun k hk=>?_
   ·rcases m.term c h with e | ⟨_,e⟩
    ·rw[e];exact e1
    ·rw[e];rfl
   ·rw[m.len]
    rcases m.term c h with e | ⟨_,e⟩
    ·rw[e]at hk;have:=e2 k hk;omega
    ·rw[e]at hk
     have:=List.mem_singleton.1 hk
     have:=mb.blocks.1
     omega
 ·obtain⟨i,rfl⟩ : ∃i,c=f.blocks.length+i:=⟨c-f.blocks.length,by omega⟩
  have hi:i<n:=by omega
  have e:=m.new i hi
  rcases bU.1 hm with⟨j,hj,rfl⟩ | ⟨j,hj,rfl⟩ | rfl
  ·rw[e]at hj;exact absurd hj (Nat.not_lt_zero _)
  ·rw[e]at hj;exact absurd hj (Nat.not_lt_zero _)
  ·refine qC ?_ fun k hk=>?_
   ·rw[e];unfold newB newT;dsimp only;split<;>rfl
   ·rw[e]at hk
    unfold newB newT at hk
    dsimp only at hk
    split at hk
    ·have:=List.mem_singleton.1 hk
     rw[m.len];omega
    ·cases hk
theorem Gk{N n i:Nat}{k:Int}(h:k∈(newT N n i).to):k=((N+i+1:Nat):Int):=by
 unfold newT at h
 split at h
 ·exact List.mem_singleton.1 h
 ·cases h
theorem Mo.yV(m:Mo f g n){a:Int}{c:Nat}(h:Re (ofG g.blocks) a c):c<f.blocks.length→Re (ofG f.blocks) a c:=by
 induction h with
 | root h0 h1=>exact fun hc=>.root (by rw[dN];exact hc) h1
 | @step x c hx he hne ih=>
  intro hc
  obtain⟨hr,hm⟩:=bY.1 he
  rw[Int.toNat_natCast]at hm
  rw[m.len]at hr
  rcases Nat.lt_or_ge x f.blocks.length with h | h
  ·rcases m.term x h with e | ⟨_,e⟩
   ·rw[e]at hm
    exact .step (ih h) (bY.2 ⟨⟨by omega,by omega,by omega,by omega⟩,by rw[Int.toNat_natCast];exact hm⟩) hne
   ·rw[e]at hm
    have:=List.mem_singleton.1 hm
    omega
  ·obtain⟨i,rfl⟩ : ∃i,x=f.blocks.length+i:=⟨x-f.blocks.length,by omega⟩
   rw[m.new i (by omega)]at hm
   have:=Gk hm
   omega
theorem Mo.pM(m:Mo f g n){v:Int}{c:Nat}{p:Int}(hc:c<f.blocks.length)(h:fh f v c p):fh g v c p:=by
 rcases h with h | ⟨t,ht,hv,h⟩
 ·exact .inl (by rw[m.params];exact h)
 ·refine .inr ⟨t,?_,hv,?_⟩
  ·obtain⟨d,hd,hm⟩:=bC.1 ht
   refine bC.2 ⟨d,by rw[m.len];omega,bU.2 ?_⟩
   rcases bU.1 hm with⟨i,hi,rfl⟩ | ⟨i,hi,rfl⟩ | rfl
   ·exact .inl ⟨i,by rw[m.phis d hd];exact hi,(m.phiT hd i).symm⟩
   ·exact .inr (.inl ⟨i,by rw[m.ins d hd];exact hi,(m.insT hd i).symm⟩)
   ·cases hv
  ·rcases h with h | ⟨h1,h2⟩
   ·exact .inl h
   ·refine .inr ⟨h1,fun h=>h2 (m.yV h ?_)⟩
    rw[Int.toNat_natCast];exact hc
end
structure Wy (f:ah) (P:Int→Prop) (frm:Int) (b:Nat):Prop where
 lt:b<f.blocks.length
 way:(frm=-1∧b=0)∨(P frm∧0≤frm∧frm<f.blocks.length∧(b:Int)∈(nth f.blocks frm.toNat).term.to∧∀c:Int,¬P c→Re (ofG f.blocks) c frm.toNat)
def Sa (f:ah) (P:Int→Prop) (v:Int):Prop:=(0≤v∧v<f.params)∨∃t∈aF f,v∈t.mks∧P t.blk
def Sb (f:ah) (P:Int→Prop) (b:Nat) (k:Int) (v:Int):Prop:=Sa f P v∨∃t∈aF f,v∈t.mks∧t.blk=b∧(t.place<0∨t.place<k)
section
variable {f:ah} {P:Int→Prop} {frm:Int} {b:Nat}
theorem Wy.re(w:Wy f P frm b){c:Int}(hc:¬P c)(hb:(b:Int)≠c):Re (ofG f.blocks) c b:=by
 have hl:=w.lt
 rcases w.way with⟨_,rfl⟩ | ⟨h1,h2,h3,h4,h5⟩
 ·exact .root (by rw[dN];exact hl) (fun e=>hb (by rw[e];rfl))
 ·refine .step (h5 c hc) ?_ hb
  rw[bY]
  rw[Int.toNat_of_nonneg h2]
  exact⟨⟨h2,h3,by omega,by omega⟩,h4⟩
theorem Sa.rng(m:iB f){v:Int}(h:Sa f P v):0≤v∧v<8192:=by
 have:=m.params
 rcases h with h | ⟨t,ht,hv,_⟩
 ·omega
 ·have:=(m.good t ht).mks v hv;omega
theorem fh.rng(m:iB f){v b p:Int}(h:fh f v b p):0≤v∧v<8192:=by
 have:=m.params
 rcases h with h | ⟨t,ht,hv,_⟩
 ·omega
 ·have:=(m.good t ht).mks v hv;omega
theorem Wy.pM(w:Wy f P frm b){v p:Int}(h:fh f v b p):Sb f P b p v:=by
 rcases h with c | ⟨t,ht,hv,g⟩
 ·exact .inl (.inl c)
 rcases g with⟨g1,g2⟩ | ⟨g1,g2⟩
 ·exact .inr ⟨t,ht,hv,g1,g2⟩
 ·exact .inl (.inr ⟨t,ht,hv,Classical.byContradiction fun hn=>g2 (w.re hn (fun e=>g1 e.symm))⟩)
theorem Wy.term(m:iB f)(w:Wy f P frm b){v:Int}(hv:v∈(nth f.blocks b).term.args):Sb f P b ((nth f.blocks b).ins.length:Nat) v∧0≤v∧v<8192:=by
 have h:=m.takes (endT f b) (bC.2 ⟨b,w.lt,bU.2 (.inr (.inr rfl))⟩) (Int.natCast_nonneg _) v hv
 exact⟨w.pM h,h.rng m⟩
theorem Wy.dst (m:iB f) (w:Wy f P frm b) {i:Nat} (hi:i<(nth f.blocks b).phis.length):0≤(nth (nth f.blocks b).phis i).dst∧(nth (nth f.blocks b).phis i).dst<8192:=by
 have h:=(m.good (phiT f b i) (bC.2 ⟨b,w.lt,bU.2 (.inl ⟨i,hi,rfl⟩)⟩)).mks _ (List.mem_singleton.2 rfl)
 have:=m.params
 omega
end
section
variable {f:ah} {g:Int→Int} {b i:Nat}
end
theorem yQ{f:ah}:topS f=(gP (aF f)).foldl lZ (wO f.params):=by
 unfold topS gP
 generalize wO f.params=t
 generalize aF f=l
 induction l generalizing t with
 | nil=>rfl
 | cons a l ih=>rw[List.foldl_cons,List.flatMap_cons,List.foldl_append];exact ih _
def zB (S:Int→Int) (x:InD):InD:=⟨S x.frm,x.val⟩
structure Mv (s:Nat→Nat) (S:Int→Int) (f g:ah):Prop where
 inv : ∀c,s (s c)=c
 invS : ∀x,S (S x)=x
 nat : ∀c:Nat,S c=s c
 lt : ∀c,c<f.blocks.length→s c<f.blocks.length
 params:g.params=f.params
 len:g.blocks.length=f.blocks.length
 phn : ∀c,c<f.blocks.length→(nth g.blocks (s c)).phis.length=(nth f.blocks c).phis.length
 dst : ∀c i,c<f.blocks.length→i<(nth f.blocks c).phis.length→(nth (nth g.blocks (s c)).phis i).dst=(nth (nth f.blocks c).phis i).dst
 ph : ∀c i,c<f.blocks.length→i<(nth f.blocks c).phis.length→(nth (nth g.blocks (s c)).phis i).ins.Perm ((nth (nth f.blocks c).phis i).ins.map (zB S))
 ins : ∀c,c<f.blocks.length→(nth g.blocks (s c)).ins=(nth f.blocks c).ins
 kind : ∀c,c<f.blocks.length→(nth g.blocks (s c)).term.kind=(nth f.blocks c).term.kind
 args : ∀c,c<f.blocks.length→(nth g.blocks (s c)).term.args=(nth f.blocks c).term.args
 to : ∀c,c<f.blocks.length→(nth g.blocks (s c)).term.to=(nth f.blocks c).term.to.map S
section
variable {s:Nat→Nat} {S:Int→Int} {f g:ah}
theorem Mv.symm (m:Mv s S f g):Mv s S g f where
 inv:=m.inv
 invS:=m.invS
 nat:=m.nat
 lt:=fun c h=>by rw[m.len]at h ⊢;exact m.lt c h
 params:=m.params.symm
 len:=m.len.symm
 phn:=fun c h=>by rw[m.len]at h;have:=m.phn (s c) (m.lt c h);rw[m.inv]at this;exact this.symm
 dst:=fun c i h hi=>by
  rw[m.len]at h
  have h1:=m.phn (s c) (m.lt c h)
  rw[m.inv]at h1
  have:=m.dst (s c) i (m.lt c h) (by omega)
  rw[m.inv]at this;exact this.symm
 ph:=fun c i h hi=>by
  rw[m.len]at h
  have h1:=m.phn (s c) (m.lt c h)
  rw[m.inv]at h1
  have:=(m.ph (s c) i (m.lt c h) (by omega)).map (zB S)
  rw[m.inv,List.map_map]at this
  have e:zB S∘zB S=id:=funext fun x=>by unfold zB;simp[m.invS]
  rw[e,List.map_id]at this
  exact this.symm
 ins:=fun c h=>by rw[m.len]at h;have:=m.ins (s c) (m.lt c h);rw[m.inv]at this;exact this.symm
 kind:=fun c h=>by rw[m.len]at h;have:=m.kind (s c) (m.lt c h);rw[m.inv]at this;exact this.symm
 args:=fun c h=>by rw[m.len]at h;have:=m.args (s c) (m.lt c h);rw[m.inv]at this;exact this.symm
 to:=fun c h=>by
  rw[m.len]at h
  have:=m.to (s c) (m.lt c h)
  rw[m.inv]at this
  rw[this,List.map_map]
  have e:S∘S=id:=funext fun x=>m.invS x
  rw[e,List.map_id]
theorem Mv.range (m:Mv s S f g):(List.range f.blocks.length).Perm ((List.range f.blocks.length).map s):=by
 have hinj : ∀a b,s a=s b→a=b:=fun a b h=>by rw[←m.inv a,←m.inv b,h]
 refine(List.perm_ext_iff_of_nodup List.nodup_range ?_).2 fun a=>?_
 ·exact List.pairwise_map.2 (List.nodup_range.imp fun hne e=>hne (hinj _ _ e))
 ·rw[List.mem_range,List.mem_map]
  constructor
  ·exact fun h=>⟨s a,List.mem_range.2 (m.lt a h),m.inv a⟩
  ·rintro⟨b,hb,rfl⟩
   exact m.lt b (List.mem_range.1 hb)
theorem oJ {α β:Type} {x y:α→List β} : ∀{l:List α},(∀a∈l,(x a).Perm (y a))→(l.flatMap x).Perm (l.flatMap y)
 | [],_=>.refl _
 | a::l,h=>by
  rw[List.flatMap_cons,List.flatMap_cons]
  exact(h a (List.mem_cons_self ..)).append (oJ fun b hb=>h b (List.mem_cons_of_mem _ hb))
theorem Mv.flat(m:Mv s S f g){β:Type}{x y:Nat→List β}(h : ∀c,c<f.blocks.length→(y (s c)).Perm (x c)):((List.range g.blocks.length).flatMap y).Perm ((List.range f.blocks.length).flatMap x):=by
 rw[m.len]
 refine(List.Perm.flatMap_right y m.range).trans ?_
 rw[List.flatMap_map]
 exact oJ fun c hc=>h c (List.mem_range.1 hc)
theorem lP {β:Type} {x:Th→List β} {f:ah} : ∀{n:Nat},(thTo f n).flatMap x=(List.range n).flatMap fun b=>(thB f b).flatMap x
 | 0=>rfl
 | n+1=>by rw[eK,List.flatMap_append,lP,List.range_succ,List.flatMap_append,List.flatMap_singleton]
def C2 (l:List Th):List Int:=l.flatMap Th.tks
theorem Mv.thB (m:Mv s S f g) {x:Th→List Int} {c:Nat} (hc:c<f.blocks.length) (hp : ∀i,i<(nth f.blocks c).phis.length→(x (phiT g (s c) i)).Perm (x (phiT f c i))) (hi : ∀i,i<(nth f.blocks c).ins.length→(x (insT g (s c) i)).Perm (x (insT f c i))) (he:(x (endT g (s c))).Perm (x (endT f c))) :
  ((Go.Proofs.YtbkdlhkoiagbbaaGreat.thB g (s c)).flatMap x).Perm ((Go.Proofs.YtbkdlhkoiagbbaaGreat.thB f c).flatMap x):=by
 unfold Go.Proofs.YtbkdlhkoiagbbaaGreat.thB
 rw[m.phn c hc,m.ins c hc]
 simp only[List.flatMap_append,List.flatMap_singleton]
 unfold rows
 rw[List.flatMap_map,List.flatMap_map,List.flatMap_map,List.flatMap_map]
 exact((oJ fun i h=>hp i (List.mem_range.1 h)).append (oJ fun i h=>hi i (List.mem_range.1 h))).append he
theorem Mv.mks(m:Mv s S f g):(gP (aF g)).Perm (gP (aF f)):=by
 unfold gP aF
 rw[lP,lP]
 refine m.flat fun c hc=>m.thB hc (fun i hi=>?_) (fun i hi=>?_) (.refl _)
 ·show[(nth (nth g.blocks (s c)).phis i).dst].Perm [(nth (nth f.blocks c).phis i).dst]
  rw[m.dst c i hc hi]
 ·show(a6 (nth (nth g.blocks (s c)).ins i)).Perm (a6 (nth (nth f.blocks c).ins i))
  rw[m.ins c hc]
theorem Mv.phv(m:Mv s S f g){c i:Nat}(hc:c<f.blocks.length)(hi:i<(nth f.blocks c).phis.length):(phiT g (s c) i).tks.Perm (phiT f c i).tks:=by
 have:=(m.ph c i hc hi).map InD.val
 rw[List.map_map]at this
 exact this
theorem Mv.tks(m:Mv s S f g):(C2 (aF g)).Perm (C2 (aF f)):=by
 unfold C2 aF
 rw[lP,lP]
 refine m.flat fun c hc=>m.thB hc (fun i hi=>m.phv hc hi) (fun i hi=>?_) ?_
 ·show((nth (nth g.blocks (s c)).ins i).args).Perm ((nth (nth f.blocks c).ins i).args)
  rw[m.ins c hc]
 ·show((nth g.blocks (s c)).term.args).Perm ((nth f.blocks c).term.args)
  rw[m.args c hc]
variable{b:Int}
theorem xQ{t a:Int}:lZ (lZ t a) b=lZ (lZ t b) a:=by
 unfold lZ
 cases bA a 0 8191<;>cases bA b 0 8191<;>simp<;>(repeat' split)<;>omega
theorem Mv.top(m:Mv s S f g):topS g=topS f:=by
 rw[yQ,yQ,m.params]
 exact m.mks.foldl_eq' (fun _ _ _ _ _=>xQ) _
structure Cm (S:Int→Int) (f g:ah) (t t':Th):Prop where
 mem:t'∈aF g
 blk:t'.blk=S t.blk
 place:t'.place=t.place
 mks:t'.mks=t.mks
 tks:t'.tks.Perm t.tks
 ins:0≤t.place→tL g t'=tL f t
theorem Mv.come(m:Mv s S f g){t:Th}(ht:t∈aF f): ∃t',Cm S f g t t':=by
 obtain⟨c,hc,h⟩:=bC.1 ht
 have hlt:s c<g.blocks.length:=by rw[m.len];exact m.lt c hc
 rcases bU.1 h with⟨i,hi,rfl⟩ | ⟨i,hi,rfl⟩ | rfl
 ·exact⟨phiT g (s c) i,bC.2 ⟨s c,hlt,bU.2 (.inl ⟨i,by rw[m.phn c hc];exact hi,rfl⟩)⟩,(m.nat c).symm,rfl,by show[_]=[_];rw[m.dst c i hc hi],m.phv hc hi,fun h=>absurd h (by show ¬(0:Int)≤-1-(i:Int);omega)⟩
 ·refine⟨insT g (s c) i,bC.2 ⟨s c,hlt,bU.2 (.inr (.inl ⟨i,by rw[m.ins c hc];exact hi,rfl⟩))⟩,(m.nat c).symm,rfl,by show a6 _=a6 _;rw[m.ins c hc],by show List.Perm (nth (nth g.blocks (s c)).ins i).args _;rw[m.ins c hc];exact .refl _,fun _=>?_⟩
  show nth (nth g.blocks ((s c:Nat):Int).toNat).ins ((i:Nat):Int).toNat=nth (nth f.blocks ((c:Nat):Int).toNat).ins ((i:Nat):Int).toNat
  rw[Int.toNat_natCast,Int.toNat_natCast,Int.toNat_natCast,m.ins c hc]
 ·refine⟨endT g (s c),bC.2 ⟨s c,hlt,bU.2 (.inr (.inr rfl))⟩,(m.nat c).symm,by show(((nth g.blocks (s c)).ins.length:Nat):Int)=_;rw[m.ins c hc];rfl,rfl,by show List.Perm (nth g.blocks (s c)).term.args _;rw[m.args c hc];exact .refl _,fun _=>?_⟩
  show nth (nth g.blocks ((s c:Nat):Int).toNat).ins (((nth g.blocks (s c)).ins.length:Nat):Int).toNat=nth (nth f.blocks ((c:Nat):Int).toNat).ins (((nth f.blocks c).ins.length:Nat):Int).toNat
  rw[Int.toNat_natCast,Int.toNat_natCast,m.ins c hc];rfl
theorem Mv.rng(m:Mv s S f g){x:Int}(h:0≤x∧x<f.blocks.length):S x=((s x.toNat:Nat):Int)∧0≤S x∧S x<f.blocks.length:=by
 have e:=m.nat x.toNat
 rw[show((x.toNat:Nat):Int)=x by omega]at e
 have:=m.lt x.toNat (by omega)
 exact⟨e,by omega,by omega⟩
theorem Mv.re(m:Mv s S f g)(h0:s 0=0){a:Int}{c:Nat}(h:Re (ofG f.blocks) a c):Re (ofG g.blocks) (S a) (s c):=by
 have hS0:S 0=0:=by have:=m.nat 0;rw[h0]at this;exact this
 have hinj : ∀x y,S x=S y→x=y:=fun x y e=>by rw[←m.invS x,←m.invS y,e]
 induction h with
 | root h hne=>
  rw[h0]
  exact .root (by rw[dN,m.len];rw[dN]at h;exact h) fun e=>hne (hinj _ _ (e.trans hS0.symm))
 | @step x c hx he hne ih=>
  obtain⟨hr,hm⟩:=bY.1 he
  rw[Int.toNat_natCast]at hm
  refine .step ih (bY.2 ⟨?_,?_⟩) fun e=>hne (hinj _ _ ((m.nat c).trans e))
  ·have h1:=m.lt x (by omega)
   have h2:=m.lt c (by omega)
   rw[m.len];omega
  ·rw[Int.toNat_natCast,m.to x (by omega),←m.nat c]
   exact List.mem_map_of_mem hm
theorem Mv.pM(m:Mv s S f g)(h0:s 0=0){v c p:Int}(hc:0≤c∧c<f.blocks.length)(h:fh f v c p):fh g v (S c) p:=by
 have hinj : ∀x y,S x=S y→x=y:=fun x y e=>by rw[←m.invS x,←m.invS y,e]
 rcases h with h | ⟨t,ht,hv,h⟩
 ·exact .inl (by rw[m.params];exact h)
 ·obtain⟨t',ct⟩:=m.come ht
  refine .inr ⟨t',ct.mem,by rw[ct.mks];exact hv,?_⟩
  rw[ct.blk,ct.place]
  rcases h with⟨rfl,h⟩ | ⟨h1,h2⟩
  ·exact .inl ⟨rfl,h⟩
  ·refine .inr ⟨fun e=>h1 (hinj _ _ e),fun r=>h2 ?_⟩
   have:=m.symm.re h0 r
   rw[m.invS,(m.rng hc).1,Int.toNat_natCast,m.inv]at this
   exact this
def iF (l:List InD):Prop:=l.Pairwise fun x y=>x.frm≤y.frm
theorem Ea: ∀{n:Nat},(List.range n).Pairwise (· < ·):=List.pairwise_lt_range
theorem nk{f:ah}{c:Int}:(aw f c).Pairwise (· < ·):=by
 unfold aw
 rw[jI]
 refine List.pairwise_map.2 (List.Pairwise.filter _ (Ea.imp fun h=>by omega))
end
structure Way (A B:List InD) (x:InD):Prop where
 ris:iF (A++B)
 gt : ∀y∈B,x.frm<y.frm
theorem Way.done{A B:List InD}{x:InD}(w:Way A B x)(h : ∀y,A.getLast? = some y→y.frm≤x.frm):iF (A++x::B):=by
 obtain⟨r,g⟩:=w
 have ra:=List.pairwise_append.1 r
 refine List.pairwise_append.2 ⟨ra.1,List.pairwise_cons.2 ⟨fun y hy=>Int.le_of_lt (g y hy),ra.2.1⟩,fun y hy z hz=>?_⟩
 rcases List.mem_cons.1 hz with rfl | hz
 ·rcases A.eq_nil_or_concat with e | ⟨A',l,e⟩
  ·subst e;cases hy
  ·rw[List.concat_eq_append]at e
   subst e
   have hl:=h l (by simp)
   rcases List.mem_append.1 hy with hy | hy
   ·have:=(List.pairwise_append.1 ra.1).2.2 y hy l (List.mem_singleton.2 rfl)
    omega
   ·rw[List.mem_singleton.1 hy];exact hl
 ·exact ra.2.2 y hy z hz
theorem Way.step{A B:List InD}{x y:InD}(w:Way (A++[y]) B x)(h:x.frm<y.frm):Way A (y::B) x:=
 ⟨by have:=w.ris;rw[List.append_assoc]at this;exact this,fun z hz=>by
  rcases List.mem_cons.1 hz with rfl | hz
  ·exact h
  ·exact w.gt z hz⟩
theorem Way.start{A:List InD}{x:InD}(r:iF A):Way A [] x:=⟨by rw[List.append_nil];exact r,fun y hy=>by cases hy⟩
section
variable {K:Nat} {s:Nat→Nat}
end
theorem Hb{p q:InD}{up uq:Value}{h:Heap}(hp:Rd (vw h) up p)(hq:Rd (vw h) uq q):aB Tryz.prog N.bL #[up,uq] h (fun u h'=>u = .int .i64 (IntKind.i64.wrap (p.frm-q.frm))∧(vw h).le (vw h')):=by
 refine ao (args:=[up,uq]) follows F.bL E.bL (Nat.le_of_ble_eq_true (by kernel_rfl)) fun K hK=>?_
 dsimp only[L.bL]
 refine aa fun z hz=>?_
 simp
 refine ic rfl hp fun h1 e1 hle1 hs1 hat1=>?_
 refine ic rfl (hq.mono hle1) fun h2 e2 hle2 hs2 hat2=>?_
 have c1:an (vw h2) ⟨h.size,0,none⟩=some (.int .i64 p.frm):=ae hle2 (hat1.part InD.oU).int
 have c2:an (vw h2) ⟨h1.size,0,none⟩=some (.int .i64 q.frm):=(hat2.part InD.oU).int
 rw[hz];clear hz z
 simp[c1,c2]
 exact hK _ _ ⟨rfl,View.le_trans hle1 hle2⟩
theorem Ad(k:Key){l:List InD}{v:Value}{h:Heap}{o:Own}(w:Owns W h o)(hk:o k=it T.dy v l)(hl:l.length≤12)(hr : ∀x∈l,0≤x.frm∧x.frm≤100000):
  aB Tryz.prog N.ax #[v,.int .i64 0,.int .i64 l.length,.func (.func N.bL) #[] #[]] h (fun _ h'=>∃l',l'.Perm l∧iF l'∧Owns W h' (o.upd k (it T.dy v l'))):=by
 refine ao (args:=[v,.int .i64 0,.int .i64 l.length,.func (.func N.bL) #[] #[]]) follows F.ax E.ax (Nat.le_of_ble_eq_true (by kernel_rfl)) fun Kc hK=>?_
 dsimp only[L.ax]
 refine aa fun z hz=>?_
 simp
 rw[hz];clear hz z
 have w0:Owns W h (o.upd k (it T.dy v (l.take 1++l.drop (0+1)))):=w.congr fun q=>by
  rw[Nat.zero_add,List.take_append_drop]
  unfold Own.upd
  split
  ·rename_i e;rw[e,hk]
  ·rfl
 have r0:iF (l.take 1):=by
  match l with
  | []=>exact .nil
  | x::_=>exact List.pairwise_singleton _ _
 refine C4 [0,1,2,3,8] (fun(_:Unit) j=>[v,.int .i64 0,.int .i64 l.length,.func (.func N.bL) #[] #[],.int .i64 ((j:Int)+1)]) (fun _ j h1=>∃R,Owns W h1 (o.upd k (it T.dy v (R++l.drop (j+1))))∧R.Perm (l.take (j+1))∧iF R) (l.length-1) 1 ()
  rfl (by omega) (by omega) rfl ⟨_,w0,.refl _,r0⟩ (fun _ _=>rfl) (fun _ j h1 hj _=>?_) ?_ ?_
 ·have e:decide ((j:Int)+1<l.length)=decide (j<l.length-1):=by rw[Bool.eq_iff_iff,decide_eq_true_eq,decide_eq_true_eq];omega
  rw[←e]
  simp
 ·rintro _ i h1 hi ⟨R,w1,hp1,hr1⟩ K4 hK4
  have hk1:i+1<l.length:=by omega
  have hkR:R.length=i+1:=by rw[hp1.length_eq,List.length_take];omega
  obtain⟨x0,hx0⟩ : ∃x0,x0=l[i+1]:=⟨_,rfl⟩
  have hx0m:x0∈l:=by rw[hx0];exact List.getElem_mem hk1
  have hdrop:l.drop (i+1)=x0::l.drop (i+1+1):=by rw[hx0];exact List.drop_eq_getElem_cons hk1
  have htake:l.take (i+1+1)=l.take (i+1)++[x0]:=by rw[hx0];exact List.take_succ_eq_append_getElem hk1
  obtain⟨rest,hrest⟩ : ∃rest,rest=l.drop (i+1+1):=⟨_,rfl⟩
  rw[←hrest]at hdrop
  rw[hdrop]at w1
  refine aa fun q hq=>?_
  simp
  rw[hq];clear hq q
  simp only[aJ]
  refine gq [0,1,2,3,8,9] (fun m ρ h2=>∃A B,m=A.length∧ρ=[(0,v),(1,.int .i64 0),(2,.int .i64 l.length),(3,.func (.func N.bL) #[] #[]),(8,.int .i64 ((i:Int)+1)),(9,.int .i64 (A.length:Nat))]∧
   Owns W h2 (o.upd k (it T.dy v (A++x0::(B++rest))))∧Way A B x0∧(A++B).Perm (l.take (i+1))) (i+1) ⟨R,[],hkR.symm,by rw[hkR];rfl,w1,.start hr1,by rw[List.append_nil];exact hp1⟩ ?_
  rintro m ρ h2 ⟨A,B,rfl,rfl,w2,wy,hpm⟩ K5 hK5
  have hAB:A.length+B.length=i+1:=by have:=hpm.length_eq;rw[List.length_append,List.length_take]at this;omega
  have hfin:iF (A++x0::B)→∀{h3:Heap},Owns W h3 (o.upd k (it T.dy v (A++x0::(B++rest))))→∃R',Owns W h3 (o.upd k (it T.dy v (R'++l.drop (i+1+1))))∧R'.Perm (l.take (i+1+1))∧iF R':=fun hr h3 w3=>⟨A++x0::B,by rw[←hrest,List.append_assoc,List.cons_append];exact w3,by
   rw[htake]
   exact List.perm_middle.trans ((List.Perm.cons _ hpm).trans (List.perm_append_comm (l₁:=[x0]))),hr⟩
  refine aa fun q hq=>?_
  refine aa fun p hp=>?_
  rcases A.eq_nil_or_concat with e | ⟨A',y',e⟩
  ·subst e
   refine cH (vw h2) (View.le_refl _) ?_
   simp
   rw[hp];clear hp p
   refine aX (by simp) ?_
   simp
   exact hK4 () _ _ rfl (by simp[bm]) (hfin (wy.done fun y hy=>by cases hy) w2)
  ·rw[List.concat_eq_append]at e
   subst e
   have hLl:((A'++[y'])++x0::(B++rest))=A'++y'::x0::(B++rest):=by simp
   have hlenj:(A'++[y']).length=A'.length+1:=by simp
   have w2:Owns W h2 (o.upd k (it T.dy v (A'++y'::x0::(B++rest)))):=by rw[←hLl];exact w2
   have hfin:iF ((A'++[y'])++x0::B)→∀{h3:Heap},Owns W h3 (o.upd k (it T.dy v (A'++y'::x0::(B++rest))))→∃R',Owns W h3 (o.upd k (it T.dy v (R'++l.drop (i+1+1))))∧R'.Perm (l.take (i+1+1))∧iF R':=fun hr h3 w3=>hfin hr (by rw[hLl];exact w3)
   have hym:y'∈l:=List.mem_of_mem_take (hpm.mem_iff.1 (by simp))
   have i1:A'.length<(A'++y'::x0::(B++rest)).length:=by simp
   have i2:A'.length+1<(A'++y'::x0::(B++rest)).length:=by simp
   have en1:(A'++y'::x0::(B++rest))[A'.length]=y':=by rw[List.getElem_append_right (Nat.le_refl _)];simp
   have en2:(A'++y'::x0::(B++rest))[A'.length+1]=x0:=by rw[List.getElem_append_right (by omega)];simp
   have s2:=w2.now Own.ag
   have y1:Bn.ev (.idx 2) v (.int .i64 (A'.length:Nat))=some (.pointer (some ((slA v).add (A'.length*2)))):=s2.idxn (N:=2) rfl (Int.natCast_nonneg _) (by omega)
   have z1:Bn.ev (.idx 2) v (.int .i64 ((A'.length+1:Nat):Int))=some (.pointer (some ((slA v).add ((A'.length+1)*2)))):=s2.idxn (N:=2) rfl (Int.natCast_nonneg _) (by omega)
   obtain⟨uy,huy,ruy⟩:=Owns.ldW w2 Own.ag rfl (N:=2) rfl i1
   obtain⟨uj,huj,ruj⟩:=Owns.ldW w2 Own.ag rfl (N:=2) rfl i2
   rw[en1]at ruy
   rw[en2]at ruj
   rw[hlenj]at hAB hK5 ⊢
   have set1:(A'++y'::x0::(B++rest)).set (A'.length+1) y'=A'++y'::y'::(B++rest):=by
    rw[List.set_append_right _ _ (by omega)];simp
   have set2:(A'++y'::y'::(B++rest)).set A'.length x0=A'++x0::y'::(B++rest):=by
    rw[List.set_append_right _ _ (Nat.le_refl _)];simp
   have i3:A'.length<(A'++y'::y'::(B++rest)).length:=by simp
   obtain⟨j,hj⟩ : ∃j,j=A'.length+1:=⟨_,rfl⟩
   rw[←hj]at z1 huj i2 hAB set1 hK5 ⊢
   have hw:IntKind.i64.wrap ((j:Int)-1)=(A'.length:Int):=by rw[bN (by omega) (by omega)];omega
   have hj0:0<j:=by omega
   have hjl:A'.length<j:=by omega
   clear hj en1 en2
   have f1:=hr _ hx0m
   have f2:=hr _ hym
   refine cH (vw h2) (View.le_refl _) ?_
   simp[hw,hj0,y1,z1,huy,huj]
   refine jl (ops:=[.tmp 26,.tmp 31]) rfl (by kernel_rfl) (Hb (ruj.mono w2.wle) (ruy.mono w2.wle)) ?_
   rintro _ h3 ⟨rfl,hle3⟩
   have ew:IntKind.i64.wrap (x0.frm-y'.frm)=x0.frm-y'.frm:=bN (by omega) (by omega)
   rw[ew]
   refine⟨hle3,?_⟩
   have w3:=w2.ext' hle3
   by_cases hgt:x0.frm<y'.frm
   ·have hlt:x0.frm-y'.frm<0:=by omega
    simp[hj0,hlt]
    rw[hp];clear hp p
    refine a8 (by simp) ?_
    simp
    rw[hq];clear hq q
    refine aa fun q hq=>?_
    simp only[aJ]
    have huy3:Un.ev (vw h3) (.ar 2) (.pointer (some ((slA v).add (A'.length*2))))=some uy:=by
     have:=de (ρ:=fun _=>none) (e:=.un (.ar 2) (.con (.pointer (some ((slA v).add (A'.length*2)))))) hle3 (by simpa using huy)
     simpa using this
    have huj3:Un.ev (vw h3) (.ar 2) (.pointer (some ((slA v).add (j*2))))=some uj:=by
     have:=de (ρ:=fun _=>none) (e:=.un (.ar 2) (.con (.pointer (some ((slA v).add (j*2)))))) hle3 (by simpa using huj)
     simpa using this
    refine cH (vw h3) (View.le_refl _) ?_
    simp[hw,y1,z1,huy3,huj3]
    refine w3.pt (k:=k) (α:=InD) (v:=v) (l:=A'++y'::x0::(B++rest)) (i:=j) (d:=y') Own.ag (by kernel_rfl) rfl rfl i2 ruy fun h4 w4 _=>?_
    rw[set1]at w4
    refine w4.pt (k:=k) (α:=InD) (v:=v) (l:=A'++y'::y'::(B++rest)) (i:=A'.length) (d:=x0) Own.ag (by kernel_rfl) rfl rfl i3 ruj fun h5 w5 _=>?_
    rw[set2]at w5
    rw[hq];clear hq q
    simp[hw]
    refine hK5 A'.length _ _ hjl ⟨A',y'::B,rfl,by simp[bm,hw],w5.congr fun q=>?_,wy.step hgt,?_⟩
    ·rw[List.cons_append];unfold Own.upd;split<;>rfl
    ·rw[List.append_assoc]at hpm;exact hpm
   ·have hlt:¬x0.frm-y'.frm<0:=by omega
    simp[hj0,hlt]
    rw[hp];clear hp p
    refine aX (by simp) ?_
    simp
    exact hK4 () _ _ rfl (by simp[bm]) (hfin (wy.done fun y hy=>by
     simp at hy
     subst hy;omega) w3)
 ·rintro _ h1 ⟨R,w1,hp1,hr1⟩
  have e1:l.drop (l.length-1+1)=[]:=List.drop_of_length_le (by omega)
  have e2:l.take (l.length-1+1)=l:=List.take_of_length_le (by omega)
  rw[e1,List.append_nil]at w1
  rw[e2]at hp1
  simp
  exact hK _ _ ⟨R,hp1,hr1,w1⟩
theorem He(k:Key){l:List InD}{v:Value}{lim:Int}{h:Heap}{o:Own}(w:Owns W h o)(hk:o k=it T.dy v l)(hl:l.length≤12)(hr : ∀x∈l,0≤x.frm∧x.frm≤100000):
  aB Tryz.prog N.aQ #[v,.int .i64 0,.int .i64 l.length,.int .i64 lim,.func (.func N.bL) #[] #[]] h (fun _ h'=>∃l',l'.Perm l∧iF l'∧Owns W h' (o.upd k (it T.dy v l'))):=by
 refine ao (args:=[v,.int .i64 0,.int .i64 l.length,.int .i64 lim,.func (.func N.bL) #[] #[]]) follows F.aQ E.aQ (Nat.le_of_ble_eq_true (by kernel_rfl)) fun Kc hK=>?_
 dsimp only[L.aQ]
 refine aa fun z hz=>?_
 simp
 rw[hz];clear hz z
 refine aa fun z hz=>?_
 simp
 rw[hz];clear hz z
 simp only[aJ]
 refine gq [0,1,2,3,4,10,11] (fun m ρ h2=>h2=h∧ρ=[(0,v),(1,.int .i64 0),(2,.int .i64 l.length),(3,.int .i64 lim),(4,.func (.func N.bL) #[] #[]),(10,.bool true),(11,.bool true)]) 0 ⟨rfl,rfl⟩ ?_
 rintro m ρ h2 ⟨rfl,rfl⟩ K2 hK2
 dsimp only[L.aQ.l1]
 simp only[aJ]
 refine aa fun z hz=>?_
 have ew:IntKind.i64.wrap ((l.length:Int)-0)=l.length:=by rw[bN (by omega) (by omega)];omega
 simp[ew]
 rw[hz];clear hz z
 refine aa fun z hz=>?_
 have h12:(l.length:Int)≤12:=by omega
 have ew2:IntKind.i64.wrap (l.length:Int)=l.length:=bN (by omega) (by omega)
 simp[ew2,hl,h12]
 refine af (by kernel_rfl) (Ad k w hk hl hr) ?_
 rintro _ h3 hx
 exact hK _ _ hx
variable{n:Nat}
theorem G9{h:Heap}(hn:n≤1000000):aB Tryz.prog N.uQ #[.int .u64 n] h (fun u h'=>(∃i:Int,u = .int .i64 i)∧h'=h):=by
 rintro w rfl
 refine(Tryz.bits_Len (n:Int) w (by omega) (by omega)).mono ?_
 rintro e w' ⟨rfl,rfl⟩
 exact⟨_,rfl,⟨⟨_,rfl⟩,rfl⟩,Same.refl _⟩
theorem yo(k:Key){l:List InD}{v:Value}{h:Heap}{o:Own}(w:Owns W h o)(hk:o k=it T.dy v l)(hl:l.length≤12)(hr : ∀x∈l,0≤x.frm∧x.frm≤100000):
  aB Tryz.prog N.cE #[v,.func (.func N.bL) #[] #[]] h (fun _ h'=>∃l',l'.Perm l∧iF l'∧Owns W h' (o.upd k (it T.dy v l'))):=by
 refine ao (args:=[v,.func (.func N.bL) #[] #[]]) follows F.cE E.cE (Nat.le_of_ble_eq_true (by kernel_rfl)) fun Kc hK=>?_
 dsimp only[L.cE]
 have s:=w.now hk
 refine aa fun z hz=>?_
 simp[s.len]
 rw[hz];clear hz z
 have ew:IntKind.u64.wrap (l.length:Int)=l.length:=by rw[IntKind.wrap_u64];omega
 simp[ew]
 refine af (by kernel_rfl) (G9 (by omega)) ?_
 rintro _ h2 ⟨⟨i,rfl⟩,rfl⟩
 refine af (by kernel_rfl) (He k w hk hl hr) ?_
 rintro _ h3 hx
 exact hK _ _ hx
def putE (E:List (Int × Int)) (n:Nat) (a b:Int):Option Int:=if(a,b)∈E then some ((n:Int)+E.idxOf (a,b)) else none
variable{b:Int}
theorem tT{a:Int}:putE [] n a b=none:=by simp[putE]
theorem BR{E:List (Int × Int)}{x:Int × Int}(hx:x∉E)(a b:Int):putE (E++[x]) n a b=if a=x.1∧b=x.2 then some ((n:Int)+E.length) else putE E n a b:=by
 have he:a=x.1∧b=x.2↔(a,b)=x:=by cases x;simp
 unfold putE
 by_cases h:(a,b)=x
 ·rw[if_pos (he.2 h),h,if_pos (by simp),List.idxOf_append,if_neg hx]
  simp
 ·rw[if_neg (fun e=>h (he.1 e))]
  by_cases h2:(a,b)∈E
  ·rw[if_pos (by simp[h2]),if_pos h2,List.idxOf_append,if_pos h2]
  ·rw[if_neg (by simp[h2,h]),if_neg h2]
theorem jm{E:List (Int × Int)}{a x:Int}(h:putE E n a b=some x):(n:Int)≤x∧x<n+E.length∧(a,b)∈E:=by
 unfold putE at h
 split at h
 ·rename_i hm
  have:=List.idxOf_lt_length_iff.2 hm
  cases h;exact⟨by omega,by omega,hm⟩
 ·cases h
def toE (E:List (Int × Int)) (n:Nat) (a t:Int):Int:=(putE E n a t).getD t
def frmE (E:List (Int × Int)) (n:Nat) (b:Int) (x:InD):InD:=⟨(putE E n x.frm b).getD x.frm,x.val⟩
def srt (l:List InD):List InD:=l.mergeSort fun x y=>decide (x.frm≤y.frm)
theorem lT{l:List InD}:(srt l).Perm l:=List.mergeSort_perm _ _
theorem tx{l:List InD}:iF (srt l):=by
 have:=List.pairwise_mergeSort (le:=fun x y:InD=>decide (x.frm≤y.frm)) (fun a b c h1 h2=>by simp at *;omega) (fun a b=>by simp;omega) l
 exact this.imp fun h=>by simpa using h
theorem pW{l l':List InD}(hp:l'.Perm l)(hr:iF l')(hn:(l.map (·.frm)).Nodup):l'=srt l:=by
 refine List.Perm.eq_of_pairwise (le:=fun x y:InD=>x.frm≤y.frm) (fun a b ha hb h1 h2=>?_) hr tx (hp.trans lT.symm)
 have ha:=hp.subset ha
 have hb:=lT.subset hb
 obtain⟨i,hi,rfl⟩:=List.getElem_of_mem ha
 obtain⟨j,hj,rfl⟩:=List.getElem_of_mem hb
 have:i=j:=(List.getElem_inj (xs:=l.map (·.frm)) (h₀:=by simpa using hi) (h₁:=by simpa using hj) hn).1 (by simp;omega)
 subst this;rfl
def phE (E:List (Int × Int)) (n:Nat) (a:Int) (p:PhiD):PhiD:=⟨p.dst,srt (p.ins.map (frmE E n a))⟩
def tmE (E:List (Int × Int)) (n:Nat) (a:Int) (t:dp):dp:={ t with to:=t.to.map (toE E n a) }
def blE (E:List (Int × Int)) (n:Nat) (a:Int) (d:BlkD):BlkD:=⟨d.phis.map (phE E n a),d.ins,tmE E n a d.term⟩
def iS (b:Int):BlkD:=⟨[],[],⟨1,[],[b],⟨0⟩⟩⟩
def onE (E:List (Int × Int)) (f:ah):ah:=⟨f.params,rows (fun a=>blE E f.blocks.length a (nth f.blocks a)) f.blocks.length++E.map fun e=>iS e.2⟩
def fU (f:ah):List (Int × Int):=gE (ofG f.blocks)
def cT (f:ah):ah:=onE (fU f) f
def vX (f:ah):Prop:=∀b,b<f.blocks.length→∀i,i<(nth f.blocks b).phis.length→(nth (nth f.blocks b).phis i).ins.length≤12∧((nth (nth f.blocks b).phis i).ins.map (·.frm)).Nodup∧∀x∈(nth (nth f.blocks b).phis i).ins,0≤x.frm∧x.frm<f.blocks.length
theorem pH{E:List (Int × Int)}{l:List InD}(h1:(l.map (·.frm)).Nodup)(h2 : ∀x∈l,0≤x.frm∧x.frm<n):((l.map (frmE E n b)).map (·.frm)).Nodup:=by
 rw[List.map_map]
 rw[List.Nodup,List.pairwise_map]at h1 ⊢
 refine List.Pairwise.imp_of_mem (fun{x y} hx hy h e=>h ?_) h1
 simp only[Function.comp,frmE]at e
 have gx:=h2 x hx
 have gy:=h2 y hy
 cases px:putE E n x.frm b with
 | none=>
  cases py:putE E n y.frm b with
  | none=>rw[px,py]at e;exact e
  | some q=>rw[px,py]at e;have:=jm py;simp only[Option.getD_none,Option.getD_some]at e;omega
 | some p=>
  cases py:putE E n y.frm b with
  | none=>rw[px,py]at e;have:=jm px;simp only[Option.getD_none,Option.getD_some]at e;omega
  | some q=>
   rw[px,py]at e
   simp only[Option.getD_some]at e
   subst e
   unfold putE at px py
   split at px
   ·rename_i m1
    split at py
    ·rename_i m2
     have l1:=List.idxOf_lt_length_iff.2 m1
     have l2:=List.idxOf_lt_length_iff.2 m2
     have e2:E.idxOf (x.frm,b)=E.idxOf (y.frm,b):=by
      have a1:=Option.some.inj px;have a2:=Option.some.inj py;omega
     have q1:=List.getElem_idxOf l1
     have q2:=List.getElem_idxOf l2
     have:(x.frm,b)=(y.frm,b):=by rw[←q1,←q2];congr 1
     exact(Prod.mk.inj this).1
    ·cases py
   ·cases px
theorem tw:Tw Tryz.prog T.kH T.int:=⟨U.kH,U.int,by kernel_rfl⟩
section
variable {H:View} {a b c:Value}
@[simp] theorem JE:Un.ev H (.ext 0) (.tuple #[a,b])=some a:=rfl
@[simp] theorem JD:Un.ev H (.ext 1) (.tuple #[a,b])=some b:=rfl
@[simp] theorem JC:Un.ev H (.ext 0) (.tuple #[a,b,c])=some a:=rfl
@[simp] theorem JA:Un.ev H (.ext 1) (.tuple #[a,b,c])=some b:=rfl
@[simp] theorem JB:Un.ev H (.ext 2) (.tuple #[a,b,c])=some c:=rfl
end
section
variable {W:View} {h:Heap} {K:Nat} {ob:Own} {vb:Value} {V:Nat→Bv} {f:ah} {b:Nat} {d:BlkD}
theorem Wt.EE(w:Wt W h K ob vb V (aU f b d))(hb:b<f.blocks.length):an (vw h) (((slA vb).add (b*6)).add 0)=some (V b).p∧an (vw h) ((((slA vb).add (b*6)).add 2).add 2)=some (V b).t:=by
 obtain⟨o,w,g,r⟩:=w.ex
 have hl:b<(rows (fun c=>bkO (V c) (nth (aU f b d).blocks c)) (aU f b d).blocks.length).length:=by simpa[jv]using hb
 have a:=(w.now g.blk).at hl
 rw[fI hl]at a
 exact⟨(a.part BkO.mD).raw,((a.part BkO.mw).part TmO.zT).raw⟩
end
theorem EW[Inhabited α]{l m:List α}{i:Nat}(h:i<l.length):nth (l++m) i=nth l i:=by
 rw[ak (show i<(l++m).length by rw[List.length_append];omega),ak h,List.getElem_append_left h]
theorem ti{d:BlkD}{i:Nat}{p q:PhiD}:fw (fw d i p) i q=fw d i q:=by unfold fw;dsimp only;rw[List.set_set]
theorem Wt.phLd{h:Heap}{K:Nat}{ob:Own}{vb:Value}{V:Nat→Bv}{f:ah}{b i:Nat}{d:BlkD}(w:Wt W h K ob vb V (aU f b d))(hb:b<f.blocks.length)(hi:i<d.phis.length):
  Un.ev (vw h) (.ar 2) (.pointer (some ((slA (V b).p).add (i*2))))=some (.agg #[.int .i64 (nth d.phis i).dst,(V b).pin i])∧((V b).pin i).oneCell'=true∧I64 (nth d.phis i).dst:=by
 obtain⟨o,w,g,r⟩:=w.ex
 have hl:i<(rows (phO (V b) d) d.phis.length).length:=by simpa using hi
 obtain⟨u,hu,hr⟩:=Owns.ldW w (g.cur hb).phis rfl (N:=2) rfl hl
 rw[fI hl]at hr
 obtain⟨cs,rfl,c1,r1,e1,⟨q1,o1⟩,q2,o2⟩:=hr
 have q1:c1=[.int .i64 (nth d.phis i).dst]:=q1
 have q2:r1=[(V b).pin i]:=q2
 have he:cs.toList = #[Value.int .i64 (nth d.phis i).dst,(V b).pin i].toList:=by rw[e1,q1,q2];rfl
 exact⟨by rw[hu,Array.toList_inj.1 he],o2,o1⟩
def spTo (ed:List (Int × Int)) (f:ah) (k:Nat):ah:=⟨f.params,rows (fun a=>if a<k then blE ed f.blocks.length a (nth f.blocks a) else nth f.blocks a) f.blocks.length++ed.map fun e=>iS e.2⟩
section
variable {ed:List (Int × Int)} {f:ah} {k:Nat}
theorem yc:(spTo ed f k).blocks.length=f.blocks.length+ed.length:=by simp[spTo]
theorem Dv(hk:k<f.blocks.length):aU (spTo ed f k) k (nth f.blocks k)=spTo ed f k:=by
 have:nth (spTo ed f k).blocks k=nth f.blocks k:=by
  unfold spTo;dsimp only
  rw[EW (by simpa using hk),dm hk,if_neg (Nat.lt_irrefl _)]
 rw[←this]
 exact zC (by rw[yc];omega)
theorem B8(hk:k<f.blocks.length):aU (spTo ed f k) k (blE ed f.blocks.length k (nth f.blocks k))=spTo ed f (k+1):=by
 unfold aU spTo
 dsimp only
 rw[List.set_append_left _ _ (by simpa using hk),kA (y:=fun a=>if a<k+1 then blE ed f.blocks.length a (nth f.blocks a) else nth f.blocks a) hk (by rw[if_pos (Nat.lt_succ_self k)])]
 intro j hj hne
 by_cases h:j<k
 ·rw[if_pos h,if_pos (by omega)]
 ·rw[if_neg h,if_neg (by omega)]
theorem CD:spTo ed f 0=⟨f.params,f.blocks++ed.map fun e=>iS e.2⟩:=by
 unfold spTo
 congr 2
 refine List.ext_getElem (by simp) fun i h1 h2=>?_
 rw[fI,if_neg (Nat.not_lt_zero _),ak h2]
theorem Dq:spTo ed f f.blocks.length=onE ed f:=by
 unfold spTo onE
 congr 2
 refine List.ext_getElem (by simp) fun i h1 h2=>?_
 rw[fI,fI,if_pos (by simpa using h1)]
end
def d4 (ed:List (Int × Int)) (n:Nat) (a:Int) (x:BlkD) (i:Nat):BlkD:=fR x (fC (toE ed n a) x.term.to i)
def d5 (ed:List (Int × Int)) (n:Nat) (a:Int) (x:BlkD) (i:Nat):BlkD:=⟨fC (phE ed n a) x.phis i,x.ins,tmE ed n a x.term⟩
section
variable {ed:List (Int × Int)} {n:Nat} {a:Int} {x:BlkD} {i:Nat}
theorem F6:d4 ed n a x 0=x:=by unfold d4;rw[pg];rfl
theorem HO:d4 ed n a x x.term.to.length=d5 ed n a x 0:=by unfold d4 d5;rw[qG,pg];rfl
theorem Hq:d5 ed n a x x.phis.length=blE ed n a x:=by unfold d5 blE;rw[qG]
end
section
variable {H:View}
theorem DT(K:Nat){f:ah}{ed:List (Int × Int)}{ob:Own}{vb:Value}{V:Nat→Bv}{h:Heap}{B R D r:Nat}{es:Array MapEntry}{ck:Nat}{Q:Post}{ρ:Env}(sm:SmF f)(hin:vX f)(hlen:f.blocks.length+ed.length≤512)(cb : ∃v,an W ⟨B,1,none⟩=some v∧SlRd W v f.blocks)(hD:ob (K+10,0)=bx T.aD D (RawN.mk (n:=1) [.int .i64 f.params,vb]))(hX:ob (K+11,2)=none)(hr:W r=some (.map es ck))(m0:Map2 h r fun a b=>(putE ed f.blocks.length a b).map (.int .i64))(t0:Wt W h K ob vb V (spTo ed f 0))(hρ:bm [1,2,11,12,98,99] ρ=[(1,.pointer (some ⟨B,0,none⟩)),(2,.pointer (some ⟨R,0,none⟩)),(11,.pointer (some ⟨D,0,none⟩)),(12,.map (some r)),(98,.int .i64 f.blocks.length),(99,.int .i64 0)])(done : ∀h',Wt W h' K ob vb V (onE ed f)→Q .normal [(1,.pointer (some ⟨B,0,none⟩)),(2,.pointer (some ⟨R,0,none⟩)),(11,.pointer (some ⟨D,0,none⟩)),(12,.map (some r)),(98,.int .i64 f.blocks.length),(99,.int .i64 f.blocks.length)] h'):
  LC.wp Tryz.prog (.loop L.bV.l3) (dV 4 Q) ρ h:=by
 have mp : ∀{h':Heap},W.le (vw h')→Map2 h' r fun a b=>(putE ed f.blocks.length a b).map (.int .i64):=fun{h'} hle=>m0.same (by
  have e1:h'[r]? = some (.map es ck):=hle r _ hr
  have e2:h[r]? = some (.map es ck):=t0.wle r _ hr
  rw[e1,e2])
 have hl:=sm.len
 refine aW [1,2,11,12,98,99] (fun(_:Unit) k=>[.pointer (some ⟨B,0,none⟩),.pointer (some ⟨R,0,none⟩),.pointer (some ⟨D,0,none⟩),.map (some r),.int .i64 f.blocks.length,.int .i64 k])
  (fun _ k h1=>Wt W h1 K ob vb V (spTo ed f k)) f.blocks.length ()
  rfl (by omega) hρ t0 (fun _ _=>rfl) (fun _ k h2 hk _=>by simp) ?_ ?_
 ·rintro _ k h1 hk t1 K2 hK2
  have hb:k<(spTo ed f k).blocks.length:=by rw[yc];omega
  rw[←Dv hk]at t1
  have hsb:=sm.blk k hk
  have hik:=hin k hk
  generalize hx:nth f.blocks k=x at t1 hsb hik
  have c1:an (vw h1) ⟨D,1,none⟩=some vb:=t1.raw (k:=(K+10,0)) (by simp) hD (i:=1) (by decide)
  have sB:=t1.blks
  have hkl:k<(aU (spTo ed f k) k x).blocks.length:=by rw[jv];exact hb
  obtain⟨cp,ct⟩:=t1.EE hb
  refine aa fun y hy=>?_
  simp
  rw[hy];clear hy y
  refine aa fun y hy=>?_
  simp(disch:=omega)[c1,sB.idxn (N:=6) rfl]
  rw[hy];clear hy y
  refine aa fun y hy=>?_
  have t1:Wt W h1 K ob vb V (aU (spTo ed f k) k (d4 ed f.blocks.length k x 0)):=by rw[F6];exact t1
  have hto:=hsb.to
  have hl0:(d4 ed f.blocks.length k x 0).term.to.length=x.term.to.length:=km
  simp[ct,(t1.to hb).len,hl0]
  refine aW [1,2,11,12,15,16,98,99,110,111,112] (fun(_:Unit) i=>[.pointer (some ⟨B,0,none⟩),.pointer (some ⟨R,0,none⟩),.pointer (some ⟨D,0,none⟩),.map (some r),.int .i64 k,.pointer (some ((slA vb).add (k*6))),.int .i64 f.blocks.length,.int .i64 k,(V k).t,.int .i64 x.term.to.length,.int .i64 i])
   (fun _ i h2=>Wt W h2 K ob vb V (aU (spTo ed f k) k (d4 ed f.blocks.length k x i))) x.term.to.length ()
   rfl (by omega) rfl t1 (fun _ _=>rfl) (fun _ i h2 hk _=>by simp) ?_ ?_
  ·rintro _ i h2 hi t2 K3 hK3
   have hi2:i<(d4 ed f.blocks.length k x i).term.to.length:=by show i<(fC _ _ _).length;rw[km];exact hi
   obtain⟨g1,g2,g3⟩:=t2.ixT hb hi2
   have e2:nth (d4 ed f.blocks.length k x i).term.to i=nth x.term.to i:=ov hi
   rw[e2]at g2 g3
   refine aa fun y2 hy2=>?_
   simp[g1,g2]
   rw[hy2];clear hy2 y2
   refine aa fun y2 hy2=>?_
   simp
   refine aS (z:=.agg #[.int .i64 0,.int .i64 0]) (places:=[(0,1),(1,1)]) (vs:=[(0,.int .i64 k),(1,.int .i64 (nth x.term.to i))]) (cs:=#[.int .i64 k,.int .i64 (nth x.term.to i)]) (by kernel_rfl) (by kernel_rfl) (by simp) rfl ?_
   refine yn (a:=k) (b:=nth x.term.to i) (z:=.int .i64 0) tw U.jU (by kernel_rfl) rfl rfl (mp t2.wle) ?_
   have hset:(d4 ed f.blocks.length k x i).term.to.set i (toE ed f.blocks.length k (nth x.term.to i))=(d4 ed f.blocks.length k x (i+1)).term.to:=pO hi
   cases hp:putE ed f.blocks.length k (nth x.term.to i)with
   | none=>
    simp
    rw[hy2];clear hy2 y2
    simp
    refine hK3 () _ _ rfl rfl ?_
    have e3:toE ed f.blocks.length k (nth x.term.to i)=nth x.term.to i:=by unfold toE;rw[hp];rfl
    have e4:d4 ed f.blocks.length k x (i+1)=d4 ed f.blocks.length k x i:=by
     have:(d4 ed f.blocks.length k x (i+1)).term.to=(d4 ed f.blocks.length k x i).term.to:=by
      rw[←hset,e3,←e2,ak hi2,List.set_getElem_self]
     unfold d4 fR at this ⊢
     dsimp only at this
     rw[this]
    rw[e4];exact t2
   | some q=>
    simp
    rw[hy2];clear hy2 y2
    have ct2:=(t2.EE hb).2
    simp[ct2,g1]
    have hq:=jm hp
    refine t2.tt hb hi2 (by kernel_rfl) rfl rfl (v:=q) (by constructor<;>omega) fun h3 t3=>?_
    refine hK3 () _ _ rfl rfl ?_
    have e3:toE ed f.blocks.length k (nth x.term.to i)=q:=by unfold toE;rw[hp];rfl
    rw[e3]at hset
    rw[hset]at t3
    exact t3
  ·rintro _ h2 t2
   rw[HO]at t2
   rw[bJ,hy];clear hy y
   have cp2:=(t2.EE hb).1
   have hph:=hsb.phis
   have hl5 : ∀i,(d5 ed f.blocks.length k x i).phis.length=x.phis.length:=fun i=>km
   have s2:=t2.phN hb
   have sl2:Un.ev (vw h2) .len (V k).p=some (.int .i64 x.phis.length):=by
    have:=s2.len (K:=vw h2)
    simpa[hl5]using this
   refine aa fun y hy=>?_
   simp[cp2,sl2]
   rw[hy];clear hy y
   refine aW [1,2,11,12,15,98,99,138,139,140] (fun(_:Unit) i=>[.pointer (some ⟨B,0,none⟩),.pointer (some ⟨R,0,none⟩),.pointer (some ⟨D,0,none⟩),.map (some r),.int .i64 k,.int .i64 f.blocks.length,.int .i64 k,(V k).p,.int .i64 x.phis.length,.int .i64 i])
    (fun _ i h2=>Wt W h2 K ob vb V (aU (spTo ed f k) k (d5 ed f.blocks.length k x i))) x.phis.length ()
    rfl (by omega) rfl t2 (fun _ _=>rfl) (fun _ i h2 hk _=>by simp) ?_ ?_
   ·rintro _ i h3 hi t3 K3 hK3
    have hi3:i<(d5 ed f.blocks.length k x i).phis.length:=by rw[hl5];exact hi
    have ix:=t3.ixP hb hi3
    have e3:nth (d5 ed f.blocks.length k x i).phis i=nth x.phis i:=ov hi
    have lds:=t3.phLd hb hi3
    rw[e3]at lds
    refine aa fun y2 hy2=>?_
    simp[ix,lds.1]
    obtain⟨o3,w3,g3,r3⟩:=t3.ex
    refine w3.xI (k:=(K+11,2)) (n:=1) (l:=[.int .i64 (nth x.phis i).dst,(V k).pin i]) ((r3 _ (by simp)).trans hX) (z:=.agg #[.int .i64 0,.slice none 0 0]) (by kernel_rfl) rfl (by kernel_rfl) rfl (by decide) (gB lds.2.1) (fun _=>by simp) (fun _=>by simp) fun h4 q4 w4=>?_
    generalize h3.size=X at w4
    obtain⟨oc,hoc⟩ : ∃oc,oc=ob.upd (K+11,2) (bx T.dG X (RawN.mk (n:=1) [.int .i64 (nth x.phis i).dst,(V k).pin i])):=⟨_,rfl⟩
    have kX:oc (K+11,2)=bx T.dG X (RawN.mk (n:=1) [.int .i64 (nth x.phis i).dst,(V k).pin i]):=by rw[hoc,Own.ag]
    have es5:fw (d5 ed f.blocks.length k x i) i ⟨(nth x.phis i).dst,fC (frmE ed f.blocks.length k) (nth x.phis i).ins 0⟩=d5 ed f.blocks.length k x i:=by
     rw[pg]
     have:(⟨(nth x.phis i).dst,(nth x.phis i).ins⟩:PhiD)=nth (d5 ed f.blocks.length k x i).phis i:=by rw[e3]
     rw[this];unfold fw
     rw[ak hi3,List.set_getElem_self]
    have t4:Wt W h4 K oc vb V (aU (spTo ed f k) k (fw (d5 ed f.blocks.length k x i) i ⟨(nth x.phis i).dst,fC (frmE ed f.blocks.length k) (nth x.phis i).ins 0⟩)):=by
     rw[es5]
     refine⟨_,w4,g3.upd (by simp),fun q hq=>?_⟩
     rw[hoc];unfold Own.upd;split
     ·rfl
     ·exact r3 q hq
    have hs8 : ∀l:List InD,nth (fw (d5 ed f.blocks.length k x i) i ⟨(nth x.phis i).dst,l⟩).phis i=⟨(nth x.phis i).dst,l⟩:=fun l=>by unfold fw;dsimp only;rw[aH hi3,if_pos rfl]
    have hn8 : ∀l:List InD,i<(fw (d5 ed f.blocks.length k x i) i ⟨(nth x.phis i).dst,l⟩).phis.length:=fun l=>by show i<(List.set _ _ _).length;rw[List.length_set];exact hi3
    have cX : ∀{h':Heap} {d:BlkD},Wt W h' K oc vb V (aU (spTo ed f k) k d)→an (vw h') ⟨X,1,none⟩=some ((V k).pin i):=fun t=>t.raw (k:=(K+11,2)) (by simp) kX (i:=1) (by decide)
    obtain⟨i12,ind,irg⟩:=hik i hi
    clear w3 g3 r3 w4 t3
    rw[hy2];clear hy2 y2
    refine aa fun y2 hy2=>?_
    have s4:=(t4.pin hb (hn8 _)).len (K:=vw h4)
    rw[hs8]at s4
    have hl4:(fC (frmE ed f.blocks.length k) (nth x.phis i).ins 0).length=(nth x.phis i).ins.length:=km
    simp[cX t4,s4,hl4]
    refine aW [1,2,11,12,15,22,98,99,138,139,140,146,147] (fun(_:Unit) j=>[.pointer (some ⟨B,0,none⟩),.pointer (some ⟨R,0,none⟩),.pointer (some ⟨D,0,none⟩),.map (some r),.int .i64 k,.pointer (some ⟨X,0,none⟩),.int .i64 f.blocks.length,.int .i64 k,(V k).p,.int .i64 x.phis.length,.int .i64 i,.int .i64 (nth x.phis i).ins.length,.int .i64 j])
     (fun _ j h5=>Wt W h5 K oc vb V (aU (spTo ed f k) k (fw (d5 ed f.blocks.length k x i) i ⟨(nth x.phis i).dst,fC (frmE ed f.blocks.length k) (nth x.phis i).ins j⟩))) (nth x.phis i).ins.length ()
     rfl (by omega) rfl t4 (fun _ _=>rfl) (fun _ j h5 hk _=>by simp) ?_ ?_
    ·rintro _ j h5 hj t5 K4 hK4
     have hj5:j<(nth (fw (d5 ed f.blocks.length k x i) i ⟨(nth x.phis i).dst,fC (frmE ed f.blocks.length k) (nth x.phis i).ins j⟩).phis i).ins.length:=by rw[hs8];show j<(fC _ _ _).length;rw[km];exact hj
     obtain⟨g1,g2,g3,g4,g5⟩:=t5.ixN hb (hn8 _) hj5
     have ej:nth (nth (fw (d5 ed f.blocks.length k x i) i ⟨(nth x.phis i).dst,fC (frmE ed f.blocks.length k) (nth x.phis i).ins j⟩).phis i).ins j=nth (nth x.phis i).ins j:=by rw[hs8];exact ov hj
     rw[ej]at g2 g3 g4 g5
     have hset:(fC (frmE ed f.blocks.length k) (nth x.phis i).ins j).set j (frmE ed f.blocks.length k (nth (nth x.phis i).ins j))=fC (frmE ed f.blocks.length k) (nth x.phis i).ins (j+1):=pO hj
     refine aa fun y3 hy3=>?_
     simp
     rw[hy3];clear hy3 y3
     refine aa fun y3 hy3=>?_
     simp[cX t5,g1,g2]
     refine aS (z:=.agg #[.int .i64 0,.int .i64 0]) (places:=[(0,1),(1,1)]) (vs:=[(0,.int .i64 (nth (nth x.phis i).ins j).frm),(1,.int .i64 k)]) (cs:=#[.int .i64 (nth (nth x.phis i).ins j).frm,.int .i64 k]) (by kernel_rfl) (by kernel_rfl) (by simp) rfl ?_
     refine yn (a:=(nth (nth x.phis i).ins j).frm) (b:=k) (z:=.int .i64 0) tw U.jU (by kernel_rfl) rfl rfl (mp t5.wle) ?_
     cases hp:putE ed f.blocks.length (nth (nth x.phis i).ins j).frm k with
     | none=>
      simp
      rw[hy3];clear hy3 y3
      simp
      refine hK4 () _ _ rfl rfl ?_
      have e6:frmE ed f.blocks.length k (nth (nth x.phis i).ins j)=nth (nth x.phis i).ins j:=by unfold frmE;rw[hp];rfl
      have e7:fC (frmE ed f.blocks.length k) (nth x.phis i).ins (j+1)=fC (frmE ed f.blocks.length k) (nth x.phis i).ins j:=by
       rw[←hset,e6]
       have hjm:j<(fC (frmE ed f.blocks.length k) (nth x.phis i).ins j).length:=by rw[km];exact hj
       have e8:nth (nth x.phis i).ins j=nth (fC (frmE ed f.blocks.length k) (nth x.phis i).ins j) j:=(ov hj).symm
       rw[e8,ak hjm,List.set_getElem_self]
      rw[e7];exact t5
     | some q=>
      simp
      rw[hy3];clear hy3 y3
      simp[cX t5,g1]
      have hq:=jm hp
      refine t5.pf hb (hn8 _) hj5 (by kernel_rfl) rfl rfl (v:=q) (by constructor<;>omega) fun h6 t6=>?_
      refine hK4 () _ _ rfl rfl ?_
      have e6:frmE ed f.blocks.length k (nth (nth x.phis i).ins j)=⟨q,(nth (nth x.phis i).ins j).val⟩:=by unfold frmE;rw[hp];rfl
      rw[e6]at hset
      rw[ej,ti,hs8]at t6
      rw[←hset]
      exact t6
    ·rintro _ h5 t5
     rw[qG]at t5
     rw[bJ,hy2];clear hy2 y2
     simp[cX t5]
     obtain⟨o5,w5,g5,r5⟩:=t5.ex
     have hpin:=(g5.cur hb).pin i (hn8 _)
     rw[hs8]at hpin
     refine af (by kernel_rfl) (yo (K+5,pr k i) w5 hpin (by rw[List.length_map];exact i12) (fun z hz=>by
      obtain⟨z0,hz0,rfl⟩:=List.mem_map.1 hz
      have h1:=irg z0 hz0
      unfold frmE
      dsimp only
      cases hp:putE ed f.blocks.length z0.frm k with
      | none=>simp only[Option.getD_none];omega
      | some q=>have:=jm hp;simp only[Option.getD_some];omega)) ?_
     rintro _ h6 ⟨l',hperm,hris,w6⟩
     have hl':=pW hperm hris (pH ind irg)
     subst hl'
     have bo5:=(g5.cur hb).G3 (o':=o5.upd (K+5,pr k i) (it T.dy ((V k).pin i) (srt ((nth x.phis i).ins.map (frmE ed f.blocks.length k))))) (l:=srt ((nth x.phis i).ins.map (frmE ed f.blocks.length k))) (hn8 _) fun _=>rfl
     rw[hs8,ti]at bo5
     have t6:=Wt.wr (d':=fw (d5 ed f.blocks.length k x i) i (phE ed f.blocks.length k (nth x.phis i))) g5 r5 hb w6 ofB5 rfl bo5
     rw[hoc]at t6
     refine hK3 () _ _ rfl rfl ?_
     have e9:fw (d5 ed f.blocks.length k x i) i (phE ed f.blocks.length k (nth x.phis i))=d5 ed f.blocks.length k x (i+1):=by
      unfold fw d5
      rw[←pO hi]
     rw[←e9]
     exact t6.drop hX (by simp)
   ·rintro _ h3 t3
    rw[Hq,←hx,B8 hk]at t3
    exact hK2 () _ _ rfl rfl t3
 ·rintro _ h1 t1
  rw[Dq]at t1
  exact done h1 t1
end
def cntT (f:ah):Nat→Nat
 | 0=>0
 | k+1=>cntT f k+((nth f.blocks k).phis.length+(nth f.blocks k).ins.length+1)
theorem BC {f:ah} (sm:SmF f) : ∀k,k≤f.blocks.length→cntT f k≤2000001*k
 | 0,_=>by simp[cntT]
 | k+1,hk=>by
  have h1:=BC sm k (by omega)
  have h2:=(sm.blk k (by omega)).phis
  have h3:=(sm.blk k (by omega)).ins
  unfold cntT;omega
def nr (f:ah):Bool:=decide (512<f.blocks.length+(fU f).length)||decide (4096<(fU f).length+cntT f f.blocks.length)
def gG (f:ah):Int:=if(kU f).1≠0 then(kU f).1 else if nr f then 2 else 0
variable{po:OP}{ty:TypeId}{us:List (Nat × Value)}
theorem Owns.Gf{P:Program}{h:Heap}{o:Own}{k:Key}{t e:TypeId}{x:Operand}{d:Int}{K:Value→Heap→Prop}(w:Owns W h o)(hk:o k=none)(hT:en P t e 1 8 (.int .i64 0))(hx:asg us x = .int .i64 d)(hd:I64 d)(hK : ∀u h',(vw h).le (vw h')→Owns W h' (o.upd k (it e u [d]))→u.oneCell'=true→K u h'):@Lft.step po P (.buildSlice t 1 #[(0,x)]) ty us h K:=by
 refine qj (vs:=[(0,.int .i64 d)]) (cs:=#[.int .i64 d]) hT (by omega) (by simp[hx]) (by
  have e1:Array.map (fun x=>(Value.int .i64 0).cells[x % (Value.int .i64 0).cells.size]!) (Array.range (1*1)) = #[.int .i64 0]:=by
   simp[Array.range,Value.cells];rfl
  rw[e1];rfl) ?_
 have hle:=bD h (.cells #[.int .i64 d] e)
 have hb:(h.push (.cells #[.int .i64 d] e))[h.size]? = some (.cells #[.int .i64 d] e (0,0)):=by simp
 generalize h.push (.cells #[.int .i64 d] e)=h1 at hle hb
 exact hK _ _ hle (w.add hk (kz (W:=W) (v:=.int .i64 d) (d:=d) hb (dR.2 ⟨rfl,hd⟩) (by decide)) hle fun b hb=>by simp only[Value.ownBlock,Option.some.injEq]at hb;omega) rfl
theorem xd[Inhabited α]{l:List α}{k:Nat}(h:l.Nodup)(hk:k<l.length):nth l k∉l.take k:=by
 intro hm
 obtain⟨i,hi,e⟩:=List.getElem_of_mem hm
 rw[List.getElem_take,ak hk]at e
 have:=(List.getElem_inj h).1 e
 simp at hi;omega
theorem Ft{sz:Nat}{a:Addr}{k:IntKind}{i:Int}(h0:0≤i)(h1:i<n):Bn.ev (.aidx n sz) (.pointer (some a)) (.int k i)=some (.pointer (some (a.add (i.toNat*sz)))):=by simp[Bn.ev,vP,vI,h0,h1]
structure PutI (K:Nat) (f:ah) (ed:List (Int × Int)) (S:View) (r D:Nat) (ob:Own) (k:Nat) (h:Heap) (W:View) (o:Own) (vb:Value) (V:Nat→Bv):Prop where
 le:S.le W
 row : ∃es c,W r=some (.map es c)
 w:Owns W h o
 fno:FnO K o vb V ⟨f.params,f.blocks++(ed.take k).map fun e=>iS e.2⟩
 box:o (K+10,0)=bx T.aD D (RawN.mk (n:=1) [.int .i64 f.params,vb])
 fr : ∀q:Key,(q.1<K∨K+6<q.1)→q≠(K+10,0)→o q=ob q
 free : ∀b,f.blocks.length+k≤b→∀q,OfB K b q→o q=none
 map:Map2 h r fun a b=>(putE (ed.take k) f.blocks.length a b).map (.int .i64)
theorem mf(K:Nat){f:ah}{v:Value}{h:Heap}{o0:Own}(w0:Owns W h o0)(ho0 : ∀k:Key,K≤k.1→k.1≤K+13→o0 k=none)(hv:Rd W v f)(sm:SmF f)(hi:(kU f).1=0→vX f):
    aB Tryz.prog N.bV #[v] h (fun u h'=>∃W',W.le W'∧
      ((gG f≠0∧u = .tuple #[.agg #[.int .i64 0,.slice none 0 0],.int .i64 (gG f)]∧Owns W' h' o0)∨
       (gG f=0∧∃o' vb V,u = .tuple #[.agg #[.int .i64 f.params,vb],.int .i64 0]∧I64 f.params∧Owns W' h' o'∧FnO K o' vb V (cT f)∧∀k:Key,(k.1<K∨K+6<k.1)→o' k=o0 k))):=by
  refine ao (args:=[v]) follows F.bV E.bV (Nat.le_of_ble_eq_true (by kernel_rfl)) fun Kc hK=>?_
  dsimp only[L.bV]
  refine aa fun z hz=>?_
  simp
  refine Owns.Gm w0 (d:=f) rfl hv fun B h1 W1 hW1 w1 hat hle1=>?_
  obtain⟨cp,vb0,cb0⟩:=gW hat
  obtain⟨uf,huf,rf⟩:=hat.ar rfl
  have huf:Un.ev W1 (.ar 2) (.pointer (some ⟨B,0,none⟩))=some uf:=huf
  have hufm : ∀{H:View},W1.le H→Un.ev H (.ar 2) (.pointer (some ⟨B,0,none⟩))=some uf:=fun hH=>by
    have:=de (ρ:=fun _=>none) (e:=.un (.ar 2) (.con (.pointer (some ⟨B,0,none⟩)))) hH (by simpa using huf)
    simpa using this
  refine w1.oq (k:=(K+10,1)) (n:=1) (z:=.agg #[.int .i64 0,.slice none 0 0]) (ho0 _ (by simp) (by simp)) (by kernel_rfl) rfl (by decide) (by simp[Value.cells,Value.oneCell']) fun h2 q2 w2=>?_
  generalize h1.size=R at w2
  rw[hz];clear hz z
  refine aa fun z hz=>?_
  simp[hufm w2.wle]
  refine af (by kernel_rfl) (FF (rf.mono w2.wle) sm) ?_
  rintro _ h3 ⟨rfl,hle3⟩
  have w3:Owns W1 h3 (o0.upd (K+10,1) (bx T.aD R (RawN.mk (n:=1) [.int .i64 0,.slice none 0 0]))):=w2.ext' hle3
  have hw1 : ∀k:Key,k≠(K+10,1)→(o0.upd (K+10,1) (bx T.aD R (RawN.mk (n:=1) [.int .i64 0,.slice none 0 0]))) k=o0 k:=fun k hk=>Own.ab hk
  simp
  rw[hz];clear hz z
  refine aa fun z hz=>?_
  obtain⟨e,he⟩ : ∃e,e=(kU f).1:=⟨_,rfl⟩
  have kR:(o0.upd (K+10,1) (bx T.aD R (RawN.mk (n:=1) [.int .i64 0,.slice none 0 0]))) (K+10,1)=bx T.aD R (RawN.mk (n:=1) [.int .i64 0,.slice none 0 0]):=Own.ag
  generalize o0.upd (K+10,1) (bx T.aD R (RawN.mk (n:=1) [.int .i64 0,.slice none 0 0]))=o1 at w3 hw1 kR
  simp[←he]
  refine⟨fun e0=>?_,fun e0=>?_⟩
  rotate_left
  · refine aS (z:=.agg #[.int .i64 0,.slice none 0 0]) (places:=[(0,1),(1,1)]) (vs:=[]) (cs:=#[.int .i64 0,.slice none 0 0]) (by kernel_rfl) (by kernel_rfl) (by simp) (by rfl) ?_
    refine w3.jX (k:=(K+10,1)) (e:=T.aD) (B:=R) Part.all (d:=RawN.mk (n:=1) [.int .i64 0,.slice none 0 0]) kR (by kernel_rfl) rfl rfl (iM rfl (gB rfl)) fun h4 w4 _=>?_
    have c4:Un.ev (vw h4) (.ar 2) (.pointer (some ⟨R,0,none⟩))=some (.agg #[.int .i64 0,.slice none 0 0]):=w4.gH (k:=(K+10,1)) (n:=1) Own.ag
    simp[c4]
    have hs:gG f=e:=by unfold gG;rw[←he,if_pos e0]
    refine hK _ _ ⟨W1,?_,.inl ⟨by rw[hs];exact e0,by rw[hs],w4.sub fun q i hq=>?_⟩⟩
    · exact hW1
    · have hne:q≠(K+10,1):=by rintro rfl;rw[ho0 _ (by simp) (by simp)]at hq;cases hq
      rw[Own.ab hne,hw1 q hne];exact hq
  · have rf3:=rf.mono w3.wle
    obtain⟨vb1,rfl,ip,sb1⟩:=nQ rf
    have hin:=hi (he.symm.trans e0)
    rw[hz];clear hz z
    refine aa fun z hz=>?_
    simp[hufm w3.wle]
    refine af (by kernel_rfl) (tF (sb1.mono w3.wle) (Nat.le_trans sm.len (by decide)) fun i hi=>Nat.le_trans (sm.blk i hi).to (by decide)) ?_
    rintro ug h4 ⟨hle4,sg4⟩
    have sm4:Sm (ofG f.blocks):=DI (Nat.le_trans sm.len (by decide)) fun i hi=>Nat.le_trans (sm.blk i hi).to (by decide)
    refine af (by kernel_rfl) (y6 (sg4.mono (gz _ _)) sm4) ?_
    rintro ue h5 ⟨hle5,se5⟩
    rw[hz];clear hz z
    have se5:SlRd (fresh h4 h5) ue (fU f):=se5
    generalize hE:fU f=ed at se5
    refine aa fun z hz=>?_
    simp[se5.len]
    rw[hz];clear hz z
    refine aa fun z hz=>?_
    have w5:=(w3.ext' hle4).ext hle5
    have hW5:W1.le (grow W1 h4 h5):=cy (View.le_trans w3.wle hle4)
    have eE:=se5.mono (eT W1 h4 h5)
    have sbm:=sb1.mono hW5
    have cp5:=ae hW5 cp
    have cb5:=ae hW5 cb0.1
    have sb5:=cb0.2.mono hW5
    have uf5 : ∀{H:View},(grow W1 h4 h5).le H→Un.ev H (.ar 2) (.pointer (some ⟨B,0,none⟩))=some (.agg #[.int .i64 f.params,vb1]):=fun hH=>hufm (View.le_trans hW5 hH)
    obtain⟨W5,hW5e⟩ : ∃W5,W5=grow W1 h4 h5:=⟨_,rfl⟩
    rw[←hW5e]at w5 hW5 eE sbm cp5 cb5 sb5 uf5
    clear hW5e
    have nX : ∀i,o1 (K+11,i)=none:=fun i=>(hw1 _ (by simp)).trans (ho0 _ (by simp) (by simp))
    have cl:=fun k hk=>BC sm k hk
    have hl:=sm.len
    have hEl:ed.length≤1000000000000:=by rw[←hE];exact Nat.le_trans (List.length_filter_le _ _) (pK sm4)
    simp[ae w5.wle cb5,(sb5.mono w5.wle).len]
    refine aW [1,2,7,8,42,43,44] (fun(_:Unit) k=>[.pointer (some ⟨B,0,none⟩),.pointer (some ⟨R,0,none⟩),ue,.int .i64 ((ed.length+cntT f k:Nat):Int),vb0,.int .i64 f.blocks.length,.int .i64 k]) (fun _ k h6=>Owns W5 h6 o1) f.blocks.length ()
      rfl (by omega) rfl w5 (fun _ _=>rfl) (fun _ k h2 hk _=>by simp) ?_ ?_
    · rintro _ k h6 hk w6 K2 hK2
      obtain⟨ux,hux,rux⟩:=sb5.wh rfl (N:=6) rfl hk
      have s6:=sb5.mono w6.wle
      refine aa fun y hy=>?_
      simp(disch:=omega)[s6.idxn (N:=6) rfl,hux _ w6.wle]
      refine w6.lX (k:=(K+11,0)) (α:=BlkD) (n:=6) (nX 0) rux rfl (z:=.agg #[.slice none 0 0,.slice none 0 0,.int .i64 0,.slice none 0 0,.slice none 0 0,.int .i32 0]) (by kernel_rfl) rfl (by kernel_rfl) (by decide) (fun _=>by simp) (fun _=>by simp) fun h7 q7 w7=>?_
      generalize h6.size=X at w7
      have hat7:=w7.at (k:=(K+11,0)) (d:=nth f.blocks k) (e:=T.aY) (B:=X) Own.ag
      obtain⟨vp,vi,va,vt,gp,gi,_,_,_⟩:=jK hat7
      have hsb:=sm.blk k hk
      have b1:=hsb.phis
      have b2:=hsb.ins
      have b3:=cl k (by omega)
      rw[hy];clear hy y
      simp[gp.1,gp.2.len,gi.1,gi.2.len]
      rw[bN (a:=((nth f.blocks k).phis.length:Int)+(nth f.blocks k).ins.length) (by omega) (by omega),bN (a:=((nth f.blocks k).phis.length:Int)+(nth f.blocks k).ins.length+1) (by omega) (by omega),bN (by omega) (by omega)]
      refine hK2 () _ _ rfl ?_ (w7.sub fun q i hq=>?_)
      · have ec:((ed.length+cntT f (k+1):Nat):Int)=(ed.length:Int)+cntT f k+((nth f.blocks k).phis.length+(nth f.blocks k).ins.length+1):=by
          show((ed.length+(cntT f k+((nth f.blocks k).phis.length+(nth f.blocks k).ins.length+1)):Nat):Int)=_
          omega
        rw[ec]
        rfl
      · rw[Own.ab (by rintro rfl;rw[nX]at hq;cases hq)];exact hq
    · rintro _ h6 w6
      rw[bJ,hz];clear hz z
      refine aa fun z hz=>?_
      simp[ae w6.wle cb5,(sb5.mono w6.wle).len,(eE.mono w6.wle).len]
      rw[bN (by omega) (by omega)]
      obtain⟨mb,hmb⟩ : ∃mb,mb=(decide (512<(f.blocks.length:Int)+ed.length)||decide (4096<(ed.length:Int)+cntT f f.blocks.length)):=⟨_,rfl⟩
      have hmany:nr f=mb:=by
        rw[hmb];unfold nr;rw[hE]
        congr 1<;>exact decide_eq_decide.2 (by omega)
      rw[←hmb]
      cases mb with
      | true=>
        simp
        refine aS (z:=.agg #[.int .i64 0,.slice none 0 0]) (places:=[(0,1),(1,1)]) (vs:=[]) (cs:=#[.int .i64 0,.slice none 0 0]) (by kernel_rfl) (by kernel_rfl) (by simp) (by rfl) ?_
        refine w6.jX (k:=(K+10,1)) (e:=T.aD) (B:=R) Part.all (d:=RawN.mk (n:=1) [.int .i64 0,.slice none 0 0]) kR (by kernel_rfl) rfl rfl (iM rfl (gB rfl)) fun h4 w4 _=>?_
        have c4:Un.ev (vw h4) (.ar 2) (.pointer (some ⟨R,0,none⟩))=some (.agg #[.int .i64 0,.slice none 0 0]):=w4.gH (k:=(K+10,1)) (n:=1) Own.ag
        simp[c4]
        have hs:gG f=2:=by unfold gG;rw[←he,if_neg (by omega),hmany];rfl
        refine hK _ _ ⟨W5,?_,.inl ⟨by rw[hs];decide,by rw[hs],w4.sub fun q i hq=>?_⟩⟩
        · exact View.le_trans hW1 hW5
        · have hne:q≠(K+10,1):=by rintro rfl;rw[ho0 _ (by simp) (by simp)]at hq;cases hq
          rw[Own.ab hne,hw1 q hne];exact hq
      | false=>
        simp
        have hs0:gG f=0:=by unfold gG;rw[←he,if_neg (by omega),hmany];rfl
        have l512:f.blocks.length+ed.length≤512:=by
          have:=Bool.or_eq_false_iff.1 hmb.symm
          have:=of_decide_eq_false this.1;omega
        have w6:Owns W5 h6 o1:=w6
        rw[hz];clear hz z
        refine aa fun z hz=>?_
        simp[uf5 w6.wle]
        refine af (by kernel_rfl) (HS K w6 (fun k h1 h2=>(hw1 k (by rintro rfl;simp at h2)).trans (ho0 k h1 (by omega))) (rf.mono hW5) sm) ?_
        rintro _ h7 ⟨o7,vb,V,rfl,_,w7,g7,fr7,free7⟩
        have o7n : ∀q:Key,K≤q.1→q.1≤K+13→(K+6<q.1)→q≠(K+10,1)→o7 q=none:=fun q h1 h2 h3 h4=>(fr7 q (.inr h3)).trans ((hw1 q h4).trans (ho0 q h1 h2))
        refine w7.xI (k:=(K+10,0)) (n:=1) (l:=[.int .i64 f.params,vb]) (o7n _ (by simp) (by simp) (by simp) (by simp)) (z:=.agg #[.int .i64 0,.slice none 0 0]) (by kernel_rfl) rfl (by kernel_rfl) rfl (by decide) (gB (w7.cells g7.blk).2) (fun _=>by simp) (fun _=>by simp) fun h8 q8 w8=>?_
        generalize h7.size=D at w8
        rw[hz];clear hz z
        refine aa fun z hz=>?_
        simp
        refine pB ?_
        have q9:=bD h8 (.map #[] 0)
        have m9:Map2 (h8.push (.map #[] 0)) h8.size (fun _ _=>none):=Map2.none (by simp)
        have w9:=w8.ext q9
        have r9:grow W5 h8 (h8.push (.map #[] 0)) h8.size=some (.map #[] 0):=by rw[iJ (Nat.le_refl _)];simp
        generalize h8.push (.map #[] 0)=h9 at q9 m9 w9 r9
        have hr5:W5 h8.size=none:=View.dh w8.wle (Nat.le_refl _)
        generalize h8.size=r at m9 r9 hr5
        have hW9:W5.le (grow W5 h8 h9):=cy w8.wle
        generalize grow W5 h8 h9=W9 at w9 r9 hW9
        rw[hz];clear hz z
        refine aa fun z hz=>?_
        have eS:SlRd W5 ue ed:=eE
        have hnd:ed.Nodup:=by rw[←hE];exact mN
        have w9:Owns W9 h9 (o7.upd (K+10,0) (bx T.aD D (RawN.mk (n:=1) [.int .i64 f.params,vb]))):=w9
        obtain⟨o8,ho8⟩ : ∃o8,o8=o7.upd (K+10,0) (bx T.aD D (RawN.mk (n:=1) [.int .i64 f.params,vb])):=⟨_,rfl⟩
        have kD:o8 (K+10,0)=bx T.aD D (RawN.mk (n:=1) [.int .i64 f.params,vb]):=by rw[ho8];exact Own.ag
        have kX : ∀i,o8 (K+11,i)=none:=fun i=>by rw[ho8,Own.ab (by simp)];exact o7n _ (by simp) (by simp) (by simp) (by simp)
        have p0:PutI K f ed W5 r D o8 0 h9 W9 o8 vb V:=
          ⟨hW9,⟨_,_,r9⟩,by rw[ho8];exact w9,by rw[ho8];simpa using g7.upd (by simp),kD,fun _ _ _=>rfl,fun b hb q hq=>by rw[ho8,Own.ab (by rintro rfl;have:=ij hq;simp at this)];exact free7 b (by omega) q hq,by simpa[tT]using m9⟩
        simp[(eS.mono (View.le_trans hW9 w9.wle)).len]
        refine aW [1,2,11,12,74,75,76] (fun(_:Unit) k=>[.pointer (some ⟨B,0,none⟩),.pointer (some ⟨R,0,none⟩),.pointer (some ⟨D,0,none⟩),.map (some r),ue,.int .i64 ed.length,.int .i64 k]) (fun _ k h6=>∃W' o' vb' V',PutI K f ed W5 r D o8 k h6 W' o' vb' V') ed.length ()
          rfl (by omega) rfl ⟨_,_,_,_,p0⟩ (fun _ _=>rfl) (fun _ k h2 hk _=>by simp) ?_ ?_
        · rintro _ k h10 hk ⟨W',o',vb',V',pk⟩ K2 hK2
          have hnk:nth ed k∉ed.take k:=xd hnd hk
          have hI:I64 (nth ed k).1∧I64 (nth ed k).2:=by
            obtain⟨u,_,h2⟩:=eS.wh rfl (N:=2) rfl hk
            exact(sD.1 h2).2
          have s10:=eS.mono (View.le_trans pk.le pk.w.wle)
          have hex:=eS.pair (View.le_trans pk.le pk.w.wle) hk
          generalize hn:nth ed k=e1 at hnk hI hex
          obtain⟨ea,eb⟩:=e1
          refine aa fun y hy=>?_
          simp(disch:=omega)[s10.idxn (N:=2) rfl,hex]
          refine pk.w.xI (k:=(K+11,1)) (n:=1) (l:=[.int .i64 ea,.int .i64 eb]) ((pk.fr _ (by simp) (by simp)).trans (kX 1)) (z:=.agg #[.int .i64 0,.int .i64 0]) (by kernel_rfl) rfl (by kernel_rfl) rfl (by decide) (gB rfl) (fun _=>by simp) (fun _=>by simp) fun h11 q11 w11=>?_
          generalize h10.size=X at w11
          have c0:Un.ev (vw h11) (.ar 2) (.pointer (some ⟨X,0,none⟩))=some (.agg #[.int .i64 ea,.int .i64 eb]):=w11.gH (k:=(K+11,1)) (n:=1) Own.ag
          have c1:an (vw h11) ⟨D,1,none⟩=some vb':=w11.raw (k:=(K+10,0)) (e:=T.aD) (n:=1) (by rw[Own.ab (by simp)];exact pk.box) (i:=1) (by decide)
          have g11:FnO K (o'.upd (K+11,1) (bx T.kH X (RawN.mk (n:=1) [.int .i64 ea,.int .i64 eb]))) vb' V' ⟨f.params,f.blocks++(ed.take k).map fun e=>iS e.2⟩:=pk.fno.upd (by simp)
          have hlk:(ed.take k).length=k:=by rw[List.length_take];omega
          have s11:=g11.rd w11
          have hl11:(f.blocks++(ed.take k).map fun e=>iS e.2).length=f.blocks.length+k:=by rw[List.length_append,List.length_map,hlk]
          have hmk:min k ed.length=k:=by omega
          rw[hy];clear hy y
          refine aa fun y hy=>?_
          simp[c0,c1,s11.len,hmk]
          refine Gs tw U.jU rfl rfl rfl (pk.map.ext q11) (a:=ea) (b:=eb) (by
            have:putE (ed.take k) f.blocks.length ea eb=none:=by unfold putE;rw[if_neg hnk]
            rw[this];rfl) fun h12 hs12 ho12 m12=>?_
          obtain⟨es,ck,hrow⟩:=pk.row
          obtain⟨es',ck',hr',_⟩:=m12.ex
          have w12:=w11.turn hrow (fun _ _ _=>Obj.noConfusion) hr' hs12 ho12
          have le12:W5.le (W'.set r (.map es' ck')):=fun b x hb=>by
            unfold View.set
            split
            · rename_i e;subst e;rw[hr5]at hb;cases hb
            · exact pk.le _ _ hb
          rw[hy];clear hy y
          have d0:an (vw h12) ⟨X,1,none⟩=some (.int .i64 eb):=w12.raw (k:=(K+11,1)) (n:=1) Own.ag (i:=1) (by decide)
          have d1:an (vw h12) ⟨D,1,none⟩=some vb':=w12.raw (k:=(K+10,0)) (e:=T.aD) (n:=1) (by rw[Own.ab (by simp)];exact pk.box) (i:=1) (by decide)
          simp(disch:=omega)[Ft,d0,d1]
          have fk : ∀q,OfB K (f.blocks.length+k) q→o' q=none:=pk.free _ (Nat.le_refl _)
          refine Owns.Gf (k:=(K+4,f.blocks.length+k)) (d:=eb) w12 (by rw[Own.ab (by simp)];exact fk _ (.inl ⟨rfl,by simp,by simp⟩)) El.bc rfl hI.2 fun u h13 q13 w13 hu=>?_
          refine aS (z:=.agg #[.int .i64 0,.slice none 0 0,.slice none 0 0,.int .i32 0]) (places:=[(0,1),(1,1),(2,1),(3,1)]) (vs:=[(0,.int .i64 1),(2,u)]) (cs:=#[.int .i64 1,.slice none 0 0,u,.int .i32 0]) (by kernel_rfl) (by kernel_rfl) (by simp) (by cases u<;>first | rfl | cases hu) ?_
          refine aS (z:=.agg #[.slice none 0 0,.slice none 0 0,.int .i64 0,.slice none 0 0,.slice none 0 0,.int .i32 0]) (places:=[(0,1),(1,1),(2,4)]) (vs:=[(2,.agg #[.int .i64 1,.slice none 0 0,u,.int .i32 0])]) (cs:=#[.slice none 0 0,.slice none 0 0,.int .i64 1,.slice none 0 0,u,.int .i32 0]) (by kernel_rfl) (by kernel_rfl) (by simp) (by rfl) ?_
          obtain⟨Vn,hVn⟩ : ∃Vn:Bv,Vn=⟨.slice none 0 0,.slice none 0 0,.slice none 0 0,u,fun _=>.slice none 0 0,fun _=>.slice none 0 0⟩:=⟨_,rfl⟩
          refine w13.gL (k:=(K,0)) (α:=BkO) (v:=vb') (d:=bkO Vn (iS eb)) (by rw[Own.ab (by simp),Own.ab (by simp)];exact pk.fno.blk) El.iV rfl (by rw[hVn];exact Es rfl rfl rfl hu ⟨by decide,by decide⟩ ⟨by decide,by decide⟩) (by simp;omega) (by simp;omega) (fun _=>rfl) (fun _=>rfl) fun u5 v5 h14 w14 _=>?_
          have hv5:=(w14.cells (k:=(K,0)) Own.ag).2
          refine w14.cI (k:=(K+10,0)) (n:=1) (i:=1) (e:=T.aD) (B:=D) (l:=[.int .i64 f.params,vb']) (by rw[Own.ab (by simp),Own.ab (by simp),Own.ab (by simp)];exact pk.box) (by decide) (by kernel_rfl) rfl rfl hv5 fun h15 w15 _=>?_
          obtain⟨O,hO⟩ : ∃O:Own,O=(((o'.upd (K+11,1) (bx T.kH X (RawN.mk (n:=1) [.int .i64 ea,.int .i64 eb]))).upd (K+4,f.blocks.length+k) (it T.int u [eb])).upd (K,0) (it T.aY v5 (rows (fun b=>bkO (V' b) (nth (f.blocks++(ed.take k).map fun e=>iS e.2) b)) (f.blocks++(ed.take k).map fun e=>iS e.2).length++[bkO Vn (iS eb)]))).upd (K+10,0) (bx T.aD D (RawN.mk (n:=1) [.int .i64 f.params,v5])):=⟨_,rfl⟩
          have w15:Owns (W'.set r (.map es' ck')) h15 O:=by rw[hO];exact w15
          have O0:O (K,0)=it T.aY v5 (rows (fun b=>bkO (V' b) (nth (f.blocks++(ed.take k).map fun e=>iS e.2) b)) (f.blocks++(ed.take k).map fun e=>iS e.2).length++[bkO Vn (iS eb)]):=by rw[hO,Own.ab (by simp),Own.ag]
          have O10:O (K+10,0)=bx T.aD D (RawN.mk (n:=1) [.int .i64 f.params,v5]):=by rw[hO,Own.ag]
          have O4:O (K+4,f.blocks.length+k)=it T.int u [eb]:=by rw[hO,Own.ab (by simp),Own.ab (by simp),Own.ag]
          have Of : ∀q,q≠(K+11,1)→q≠(K+4,f.blocks.length+k)→q≠(K,0)→q≠(K+10,0)→O q=o' q:=fun q h1 h2 h3 h4=>by rw[hO,Own.ab h4,Own.ab h3,Own.ab h2,Own.ab h1]
          clear hO
          obtain⟨oF,hoF⟩ : ∃oF:Own,oF=fun q=>if q=(K+11,1) then none else if q=(K+1,f.blocks.length+k) then it T.dG (.slice none 0 0) ([]:List PhO) else if q=(K+2,f.blocks.length+k) then it T.dq (.slice none 0 0) ([]:List InO) else if q=(K+3,f.blocks.length+k) then it T.int (.slice none 0 0) ([]:List Int) else O q:=⟨_,rfl⟩
          have F1:oF (K+1,f.blocks.length+k)=it T.dG (.slice none 0 0) ([]:List PhO):=by rw[hoF];simp
          have F2:oF (K+2,f.blocks.length+k)=it T.dq (.slice none 0 0) ([]:List InO):=by rw[hoF];simp
          have F3:oF (K+3,f.blocks.length+k)=it T.int (.slice none 0 0) ([]:List Int):=by rw[hoF];simp
          have F11:oF (K+11,1)=none:=by rw[hoF];simp
          have Ff : ∀q,q≠(K+11,1)→q≠(K+1,f.blocks.length+k)→q≠(K+2,f.blocks.length+k)→q≠(K+3,f.blocks.length+k)→oF q=O q:=fun q h1 h2 h3 h4=>by rw[hoF];simp only[h1,h2,h3,h4,if_false]
          have wF:Owns (W'.set r (.map es' ck')) h15 oF:=Owns.nils w15 fun q i hq=>by
            by_cases e1:q=(K+11,1)
            · rw[e1,F11]at hq;cases hq
            by_cases e2:q=(K+1,f.blocks.length+k)
            · rw[e2,F1]at hq;cases hq;exact .inr ⟨rfl,OwnT.nil (α:=PhO) _ h15 T.dG⟩
            by_cases e3:q=(K+2,f.blocks.length+k)
            · rw[e3,F2]at hq;cases hq;exact .inr ⟨rfl,OwnT.nil (α:=InO) _ h15 T.dq⟩
            by_cases e4:q=(K+3,f.blocks.length+k)
            · rw[e4,F3]at hq;cases hq;exact .inr ⟨rfl,OwnT.nil (α:=Int) _ h15 T.int⟩
            rw[Ff q e1 e2 e3 e4]at hq;exact .inl hq
          clear hoF
          have nb : ∀{b:Nat} {q:Key},b≠f.blocks.length+k→OfB K b q→oF q=o' q:=fun{b q} hb h=>by
            have h1:=ij h
            have h2:=xg hb h
            have n4:q≠(K+4,f.blocks.length+k):=by rintro rfl;exact h2 (.inl ⟨rfl,by simp,by simp⟩)
            have n1:q≠(K+1,f.blocks.length+k):=by rintro rfl;exact h2 (.inl ⟨rfl,by simp,by simp⟩)
            have n2:q≠(K+2,f.blocks.length+k):=by rintro rfl;exact h2 (.inl ⟨rfl,by simp,by simp⟩)
            have n3:q≠(K+3,f.blocks.length+k):=by rintro rfl;exact h2 (.inl ⟨rfl,by simp,by simp⟩)
            have n11:q≠(K+11,1):=by rintro rfl;simp at h1
            have n0:q≠(K,0):=by rintro rfl;simp at h1;omega
            have n10:q≠(K+10,0):=by rintro rfl;simp at h1
            rw[Ff q n11 n1 n2 n3,Of q n11 n4 n0 n10]
          have etk:ed.take (k+1)=ed.take k++[(ea,eb)]:=by
            rw[List.take_succ_eq_append_getElem hk,←ak hk,hn]
          have ebl:f.blocks++(ed.take (k+1)).map (fun e=>iS e.2)=(f.blocks++(ed.take k).map fun e=>iS e.2)++[iS eb]:=by
            rw[etk,List.map_append,List.append_assoc];rfl
          have bo:BO K oF (f.blocks.length+k) Vn (iS eb):=by
            rw[hVn]
            exact⟨F1,F2,F3,by rw[Ff _ (by simp) (by simp) (by simp) (by simp)];exact O4,fun i hi=>absurd hi (Nat.not_lt_zero _),fun i hi=>absurd hi (Nat.not_lt_zero _)⟩
          refine hK2 () _ _ rfl rfl ⟨_,oF,v5,fun b=>if b=(f.blocks++(ed.take k).map fun e=>iS e.2).length then Vn else V' b,le12,⟨es',ck',by unfold View.set;rw[if_pos rfl]⟩,wF,?_,?_,fun q hq hq2=>?_,fun b hb q hq=>?_,?_⟩
          · rw[ebl]
            refine pk.fno.push (Vn:=Vn) (x:=bkO Vn (iS eb)) rfl ?_ (fun b hb q hq=>?_) ?_
            · rw[Ff _ (by simp) (by simp) (by simp) (by simp)];exact O0
            · rw[hl11]at hb;exact nb (by omega) hq
            · rw[hl11];exact bo
          · rw[Ff _ (by simp) (by simp) (by simp) (by simp)];exact O10
          · by_cases e:q=(K+11,1)
            · rw[e,F11];exact(kX 1).symm
            · rw[Ff q e (by rintro rfl;dsimp only at hq;omega) (by rintro rfl;dsimp only at hq;omega) (by rintro rfl;dsimp only at hq;omega),Of q e (by rintro rfl;dsimp only at hq;omega) (by rintro rfl;dsimp only at hq;omega) hq2]
              exact pk.fr q hq hq2
          · rw[nb (by omega) hq];exact pk.free b (by omega) q hq
          · have m15:Map2 h15 r _:=m12.same (by
              have:=wF.wle r (.map es' ck') (by unfold View.set;rw[if_pos rfl])
              have:h15[r]? = some (.map es' ck'):=this
              rw[this,hr'])
            have ef:(fun a b=>(putE (ed.take (k+1)) f.blocks.length a b).map (Value.int .i64))=fun c d=>if c=ea∧d=eb then some (.int .i64 ((f.blocks.length:Int)+k)) else(putE (ed.take k) f.blocks.length c d).map (.int .i64):=by
              funext c d
              rw[etk,BR hnk,hlk]
              dsimp only
              split<;>rfl
            rw[ef];exact m15
        · rintro _ h10 ⟨W',o',vb',V',pk⟩
          rw[bJ,hz];clear hz z
          refine aa fun z hz=>?_
          have hatS:At W5 ⟨B,0,none⟩ f:=hat.mono hW5
          obtain⟨_,vbS,cbS⟩:=gW hatS
          have cbW:=ae pk.le cbS.1
          have sbW:=cbS.2.mono pk.le
          simp[ae pk.w.wle cbW,(sbW.mono pk.w.wle).len]
          obtain⟨es,ck,hrow⟩:=pk.row
          have fn0:=pk.fno
          have mp0:=pk.map
          rw[List.take_length]at fn0 mp0
          refine DT K (B:=B) (R:=R) (D:=D) (r:=r) (ed:=ed) sm hin l512 ⟨vbS,cbW,sbW⟩ pk.box ((pk.fr _ (by simp) (by simp)).trans (kX 2)) hrow mp0 (by rw[CD];exact⟨o',pk.w,fn0,fun _ _=>rfl⟩) rfl fun h11 t11=>?_
          rw[bJ,hz];clear hz z
          have cD:=t11.gH (k:=(K+10,0)) (by simp) pk.box
          have cD:Un.ev (vw h11) (.ar 2) (.pointer (some ⟨D,0,none⟩))=some (.agg #[.int .i64 f.params,vb']):=cD
          simp[cD]
          obtain⟨o11,w11,g11,r11⟩:=t11.ex
          have kR11:o11 (K+10,1)=bx T.aD R (RawN.mk (n:=1) [.int .i64 0,.slice none 0 0]):=by
            rw[r11 _ (by simp),pk.fr _ (by simp) (by simp),ho8,Own.ab (by simp),fr7 _ (by simp)];exact kR
          refine w11.jX (k:=(K+10,1)) (e:=T.aD) (B:=R) Part.all (d:=RawN.mk (n:=1) [.int .i64 f.params,vb']) kR11 (by kernel_rfl) rfl rfl (iM rfl (gB (w11.cells g11.blk).2)) fun h12 w12 _=>?_
          have c12:Un.ev (vw h12) (.ar 2) (.pointer (some ⟨R,0,none⟩))=some (.agg #[.int .i64 f.params,vb']):=w12.gH (k:=(K+10,1)) (n:=1) Own.ag
          simp[c12]
          refine hK _ _ ⟨W',?_,.inr ⟨hs0,fun q=>if q=(K+10,0)∨q=(K+10,1) then none else o11 q,vb',V',rfl,ip,w12.sub fun q i hq=>?_,?_,fun q hq=>?_⟩⟩
          · exact View.le_trans hW1 (View.le_trans hW5 pk.le)
          · split at hq
            · cases hq
            · rename_i e
              rw[Own.ab (fun g=>e (.inr g))];exact hq
          · have hsp:cT f=onE ed f:=by unfold cT;rw[hE]
            rw[hsp]
            exact g11.congr fun q h1 h2=>if_neg (by rintro(rfl | rfl)<;>simp at h2)
          · by_cases e:q=(K+10,0)∨q=(K+10,1)
            · refine(if_pos e).trans ?_
              rcases e with rfl | rfl<;>exact(ho0 _ (by simp) (by simp)).symm
            · refine(if_neg e).trans ?_
              rw[r11 q hq,pk.fr q hq (fun g=>e (.inl g)),ho8,Own.ab (fun g=>e (.inl g)),fr7 q hq,hw1 q (fun g=>e (.inr g))]
def exF:ah:=⟨1,[⟨[],[],⟨2,[0],[1,2],⟨0⟩⟩⟩,⟨[],[],⟨1,[],[2],⟨0⟩⟩⟩,⟨[⟨1,[⟨0,0⟩,⟨1,0⟩]⟩],[],⟨4,[1],[],⟨0⟩⟩⟩]⟩
def exG:ah:=⟨1,[⟨[],[],⟨2,[0],[1,3],⟨0⟩⟩⟩,⟨[],[],⟨1,[],[2],⟨0⟩⟩⟩,⟨[⟨1,[⟨1,0⟩,⟨3,0⟩]⟩],[],⟨4,[1],[],⟨0⟩⟩⟩,⟨[],[],⟨1,[],[2],⟨0⟩⟩⟩]⟩
section
variable {g g':Gr}
theorem tp(hl:g.length=g'.length)(h : ∀a b,db g a b=db g' a b):iW g=iW g':=by
 have h1:cS g=cS g':=by
  funext a;unfold cS;rw[hl];congr 1;funext b;rw[h]
 have h2:dH g=dH g':=by
  unfold dH;rw[hl];congr 1;funext b;congr 1;funext a;rw[h]
 unfold iW kc rU
 rw[h1,h2,hl]
end
theorem Eh{f:ah}:fU f=iW (f.blocks.map (·.term.to)):=by
 unfold fU
 rw[su]
 refine tp (by rw[dN,List.length_map]) fun a b=>?_
 rw[Bool.eq_iff_iff,bY,dX,List.length_map]
 constructor
 ·rintro⟨h,m⟩
  refine⟨h,?_⟩
  rw[ak (by rw[List.length_map];omega),List.getElem_map,←ak (by omega)];exact m
 ·rintro⟨h,m⟩
  refine⟨h,?_⟩
  rw[ak (by rw[List.length_map];omega),List.getElem_map,←ak (by omega)]at m;exact m
theorem Bp:fU exF=[(0,2)]:=by rw[Eh];kernel_rfl
theorem HC:srt [⟨3,0⟩,⟨1,0⟩]=[⟨1,0⟩,⟨3,0⟩]:=
 (pW (List.Perm.swap _ _ _) (by simp[iF]) (by decide)).symm
theorem C3:cT exF=exG:=by
 unfold cT
 rw[Bp]
 have:onE [(0,2)] exF=⟨1,[⟨[],[],⟨2,[0],[1,3],⟨0⟩⟩⟩,⟨[],[],⟨1,[],[2],⟨0⟩⟩⟩,⟨[⟨1,srt [⟨3,0⟩,⟨1,0⟩]⟩],[],⟨4,[1],[],⟨0⟩⟩⟩,⟨[],[],⟨1,[],[2],⟨0⟩⟩⟩]⟩:=by rfl
 rw[this,HC];rfl
theorem FA:(kU exF).1=0:=by rw[wE];kernel_rfl
theorem Jh:gG exF=0:=by
 unfold gG nr
 rw[FA,Bp]
 rfl
theorem Ir:SmF exF:=by
 refine⟨by decide,fun i hi=>?_⟩
 have hi:i<3:=hi
 rcases i with _ | _ | _ | i
 ·exact⟨by decide,by decide,by decide,by decide,fun j hj=>absurd hj (Nat.not_lt_zero _),fun j hj=>absurd hj (Nat.not_lt_zero _)⟩
 ·exact⟨by decide,by decide,by decide,by decide,fun j hj=>absurd hj (Nat.not_lt_zero _),fun j hj=>absurd hj (Nat.not_lt_zero _)⟩
 ·refine⟨by decide,by decide,by decide,by decide,fun j hj=>?_,fun j hj=>absurd hj (Nat.not_lt_zero _)⟩
  have hj:j<1:=hj
  have:j=0:=by omega
  subst this;decide
 ·omega
theorem IL:vX exF:=by
 intro b hb i hi
 have hb:b<3:=hb
 rcases b with _ | _ | _ | b
 ·exact absurd hi (Nat.not_lt_zero _)
 ·exact absurd hi (Nat.not_lt_zero _)
 ·have hi:i<1:=hi
  have:i=0:=by omega
  subst this
  exact⟨by decide,by decide,by decide⟩
 ·omega
theorem kC{h0 h h':Heap}(hle:(vw h).le (vw h')):(fresh h0 h).le (fresh h0 h'):=fun b o hb=>by
 unfold fresh at hb ⊢
 split at hb
 ·cases hb
 ·rename_i e;rw[if_neg e];exact hle b o hb
theorem yE{h0 h:Heap}{b:Nat}(hb:h0.size≤b):fresh h0 h b=h[b]?:=by unfold fresh;rw[if_neg (by omega)]
theorem Bt{ps:Array (Nat × Operand)}{vs:List Value}{ds:List Int}{h0 h:Heap}{K:Value→Heap→Prop}(hs:h0.size≤h.size)(hp:ps.map (fun p=>(p.1,asg us p.2))=((vs.zipIdx 0).map fun p=>(p.2,p.1)).toArray)(hr:kY nothing vs ds)(hn:ds.length=n)(hb:n≤1000)(hk : ∀u h',(vw h).le (vw h')→h0.size≤h'.size→SlRd (fresh h0 h') u ds→K u h'):@Lft.step po Tryz.prog (.buildSlice T.bc n ps) ty us h K:=
 kW (α:=Int) rfl El.bc hp hr cU hn (by omega) fun u h' hle hsz hY _=>hk u h' hle (by omega) (hY _ cU (yE hs))
theorem DX[Rep α]{t e bytes:Nat}{z:Value}{ps:Array (Nat × Operand)}{vs:List Value}{ds:List α}{h0 h:Heap}{K:Value→Heap→Prop}(hs:h0.size≤h.size)(hT:en Tryz.prog t e (Rep.n α) bytes z)(hp:ps.map (fun p=>(p.1,asg us p.2))=((vs.zipIdx 0).map fun p=>(p.2,p.1)).toArray)(hr:kY (fresh h0 h) vs ds)(hn:ds.length=n)(hb:n*Rep.n α≤16777216)(hb2:n≤1000)(hk : ∀u h',(vw h).le (vw h')→h0.size≤h'.size→SlRd (fresh h0 h') u ds→K u h'):@Lft.step po Tryz.prog (.buildSlice t n ps) ty us h K:=
 Fc hT hp hr hn hb (by omega) fun u h' hle hsz hY _=>hk u h' hle (by omega) (hY _ (kC hle) (yE hs))
theorem Ar{h:Heap}:aB Tryz.prog N.ee #[] h (fun u h'=>(vw h).le (vw h')∧Rd (vw h') u exF):=by
 refine ao (args:=[]) follows F.ee E.ee (Nat.le_of_ble_eq_true (by kernel_rfl)) fun Kc hK=>?_
 dsimp only[L.ee]
 refine aa fun z hz=>?_
 simp
 refine eN (z:=.agg #[.int .i64 0,.slice none 0 0]) (by kernel_rfl) ?_
 have q1:=bD h (.cells (Value.agg #[.int .i64 0,.slice none 0 0]).cells T.aD)
 have b1:(h.push (.cells (Value.agg #[.int .i64 0,.slice none 0 0]).cells T.aD))[h.size]? = some (.cells (Value.agg #[.int .i64 0,.slice none 0 0]).cells T.aD (0,0)):=by simp
 have z1:h.size<(h.push (.cells (Value.agg #[.int .i64 0,.slice none 0 0]).cells T.aD)).size:=by simp
 generalize h.push (.cells (Value.agg #[.int .i64 0,.slice none 0 0]).cells T.aD)=h1 at q1 b1 z1
 rw[hz];clear hz z
 refine aa fun z hz=>?_
 simp
 refine Bt (Nat.le_refl h1.size) (vs:=[.int .i64 0]) (ds:=[0]) (by simp) ⟨mS (by decide) (by decide),trivial⟩ rfl (by decide) fun u1 h2 q2 z2 s1=>?_
 obtain⟨as1,cs1,es1,_⟩:=id s1
 subst es1
 refine Bt z2 (vs:=[.int .i64 1,.int .i64 2]) (ds:=[1,2]) (by simp) ⟨mS (by decide) (by decide),mS (by decide) (by decide),trivial⟩ rfl (by decide) fun u2 h3 q3 z3 s2=>?_
 obtain⟨as2,cs2,es2,_⟩:=id s2
 subst es2
 refine aS (z:=.agg #[.int .i64 0,.slice none 0 0,.slice none 0 0,.int .i32 0]) (places:=[(0,1),(1,1),(2,1),(3,1)]) (vs:=[(0,.int .i64 2),(1,.slice as1 1 cs1),(2,.slice as2 2 cs2)]) (cs:=#[.int .i64 2,.slice as1 1 cs1,.slice as2 2 cs2,.int .i32 0]) (by kernel_rfl) (by kernel_rfl) (by simp) (by rfl) ?_
 refine aS (z:=.agg #[.slice none 0 0,.slice none 0 0,.int .i64 0,.slice none 0 0,.slice none 0 0,.int .i32 0]) (places:=[(0,1),(1,1),(2,4)]) (vs:=[(2,.agg #[.int .i64 2,.slice as1 1 cs1,.slice as2 2 cs2,.int .i32 0])]) (cs:=#[.slice none 0 0,.slice none 0 0,.int .i64 2,.slice as1 1 cs1,.slice as2 2 cs2,.int .i32 0]) (by kernel_rfl) (by kernel_rfl) (by simp) (by rfl) ?_
 refine Bt z3 (vs:=[.int .i64 2]) (ds:=[2]) (by simp) ⟨mS (by decide) (by decide),trivial⟩ rfl (by decide) fun u5 h4 q4 z4 s5=>?_
 obtain⟨as5,cs5,es5,_⟩:=id s5
 subst es5
 refine aS (z:=.agg #[.int .i64 0,.slice none 0 0,.slice none 0 0,.int .i32 0]) (places:=[(0,1),(1,1),(2,1),(3,1)]) (vs:=[(0,.int .i64 1),(2,.slice as5 1 cs5)]) (cs:=#[.int .i64 1,.slice none 0 0,.slice as5 1 cs5,.int .i32 0]) (by kernel_rfl) (by kernel_rfl) (by simp) (by rfl) ?_
 refine aS (z:=.agg #[.slice none 0 0,.slice none 0 0,.int .i64 0,.slice none 0 0,.slice none 0 0,.int .i32 0]) (places:=[(0,1),(1,1),(2,4)]) (vs:=[(2,.agg #[.int .i64 1,.slice none 0 0,.slice as5 1 cs5,.int .i32 0])]) (cs:=#[.slice none 0 0,.slice none 0 0,.int .i64 1,.slice none 0 0,.slice as5 1 cs5,.int .i32 0]) (by kernel_rfl) (by kernel_rfl) (by simp) (by rfl) ?_
 refine aS (z:=.agg #[.int .i64 0,.int .i64 0]) (places:=[(0,1),(1,1)]) (vs:=[(0,.int .i64 0),(1,.int .i64 0)]) (cs:=#[.int .i64 0,.int .i64 0]) (by kernel_rfl) (by kernel_rfl) (by simp) rfl ?_
 refine aS (z:=.agg #[.int .i64 0,.int .i64 0]) (places:=[(0,1),(1,1)]) (vs:=[(0,.int .i64 1),(1,.int .i64 0)]) (cs:=#[.int .i64 1,.int .i64 0]) (by kernel_rfl) (by kernel_rfl) (by simp) rfl ?_
 have rin : ∀k:Int,I64 k→Rd (fresh h1 h4) (.agg #[.int .i64 k,.int .i64 0]) (InD.mk k 0):=fun k hk=>⟨_,rfl,[.int .i64 k],_,rfl,⟨rfl,hk⟩,rfl,⟨(by decide:(-9223372036854775808:Int)≤0),(by decide:(0:Int)≤9223372036854775807)⟩⟩
 refine DX (α:=InD) z4 (vs:=[.agg #[.int .i64 0,.int .i64 0],.agg #[.int .i64 1,.int .i64 0]]) (ds:=[⟨0,0⟩,⟨1,0⟩]) El.iK (by simp) ⟨rin 0 ⟨by decide,by decide⟩,rin 1 ⟨by decide,by decide⟩,trivial⟩ rfl (by decide) (by decide) fun u10 h5 q5 z5 s10=>?_
 obtain⟨as10,cs10,es10,_⟩:=id s10
 subst es10
 refine aS (z:=.agg #[.int .i64 0,.slice none 0 0]) (places:=[(0,1),(1,1)]) (vs:=[(0,.int .i64 1),(1,.slice as10 2 cs10)]) (cs:=#[.int .i64 1,.slice as10 2 cs10]) (by kernel_rfl) (by kernel_rfl) (by simp) rfl ?_
 refine DX (α:=PhiD) z5 (vs:=[.agg #[.int .i64 1,.slice as10 2 cs10]]) (ds:=[⟨1,[⟨0,0⟩,⟨1,0⟩]⟩]) El.kl (by simp) ⟨yP ⟨by decide,by decide⟩ s10,trivial⟩ rfl (by decide) (by decide) fun u12 h6 q6 z6 s12=>?_
 obtain⟨as12,cs12,es12,_⟩:=id s12
 subst es12
 refine Bt z6 (vs:=[.int .i64 1]) (ds:=[1]) (by simp) ⟨mS (by decide) (by decide),trivial⟩ rfl (by decide) fun u13 h7 q7 z7 s13=>?_
 obtain⟨as13,cs13,es13,_⟩:=id s13
 subst es13
 refine aS (z:=.agg #[.int .i64 0,.slice none 0 0,.slice none 0 0,.int .i32 0]) (places:=[(0,1),(1,1),(2,1),(3,1)]) (vs:=[(0,.int .i64 4),(1,.slice as13 1 cs13)]) (cs:=#[.int .i64 4,.slice as13 1 cs13,.slice none 0 0,.int .i32 0]) (by kernel_rfl) (by kernel_rfl) (by simp) (by rfl) ?_
 refine aS (z:=.agg #[.slice none 0 0,.slice none 0 0,.int .i64 0,.slice none 0 0,.slice none 0 0,.int .i32 0]) (places:=[(0,1),(1,1),(2,4)]) (vs:=[(0,.slice as12 1 cs12),(2,.agg #[.int .i64 4,.slice as13 1 cs13,.slice none 0 0,.int .i32 0])]) (cs:=#[.slice as12 1 cs12,.slice none 0 0,.int .i64 4,.slice as13 1 cs13,.slice none 0 0,.int .i32 0]) (by kernel_rfl) (by kernel_rfl) (by simp) (by rfl) ?_
 have l2:=View.le_trans q3 (View.le_trans q4 (View.le_trans q5 (View.le_trans q6 q7)))
 have l3:=View.le_trans q4 (View.le_trans q5 (View.le_trans q6 q7))
 have l4:=View.le_trans q5 (View.le_trans q6 q7)
 refine DX (α:=BlkD) z7 (vs:=[.agg #[.slice none 0 0,.slice none 0 0,.int .i64 2,.slice as1 1 cs1,.slice as2 2 cs2,.int .i32 0],.agg #[.slice none 0 0,.slice none 0 0,.int .i64 1,.slice none 0 0,.slice as5 1 cs5,.int .i32 0],.agg #[.slice as12 1 cs12,.slice none 0 0,.int .i64 4,.slice as13 1 cs13,.slice none 0 0,.int .i32 0]]) (ds:=exF.blocks) El.iV (by simp)
  ⟨tj gk gk (s1.mono (kC l2)) (s2.mono (kC l3)) ⟨by decide,by decide⟩ ⟨by decide,by decide⟩,tj gk gk gk (s5.mono (kC l4)) ⟨by decide,by decide⟩ ⟨by decide,by decide⟩,tj (s12.mono (kC q7)) gk s13 gk ⟨by decide,by decide⟩ ⟨by decide,by decide⟩,trivial⟩ (by rfl) (by decide) (by decide) fun u16 h8 q8 z8 s16=>?_
 have l1:=View.le_trans q2 (View.le_trans l2 q8)
 obtain⟨as16,cs16,es16,_⟩:=id s16
 have es16:u16 = .slice as16 3 cs16:=es16
 subst es16
 refine aS (z:=.agg #[.int .i64 0,.slice none 0 0]) (places:=[(0,1),(1,1)]) (vs:=[(0,.int .i64 1),(1,.slice as16 3 cs16)]) (cs:=#[.int .i64 1,.slice as16 3 cs16]) (by kernel_rfl) (by kernel_rfl) (by simp) rfl ?_
 refine dU (g:=h.size) (o:=0) (n:=2) (v:=.agg #[.int .i64 1,.slice as16 3 cs16]) (cur:=(Value.agg #[.int .i64 0,.slice none 0 0]).cells) (e:=T.aD) (by kernel_rfl) rfl rfl rfl (by simp[Value.cells,Value.oneCell']) (l1 _ _ b1) (by decide) fun h9 hs9 ⟨row,hrow,he⟩ ho9=>?_
 have hrow2:row=(Value.agg #[.int .i64 1,.slice as16 3 cs16]).cells:=by
  rw[←Array.toList_inj,he];simp[Value.cells]
 subst hrow2
 have hf9:(fresh h1 h8).le (vw h9):=fun b o hb=>by
  unfold fresh at hb
  split at hb
  ·cases hb
  ·rename_i e
   show h9[b]? = _
   rw[ho9 b (by omega)];exact hb
 have s9:=s16.mono hf9
 have at9:At (vw h9) ⟨h.size,0,none⟩ exF:=rD (v:=.agg #[.int .i64 1,.slice as16 3 cs16]) (t:=T.aD) (fz:=(0,0)) hrow ⟨_,rfl,[.int .i64 1],[_],rfl,⟨rfl,by decide,by decide⟩,_,rfl,s9⟩
 obtain⟨u,hu,hr⟩:=at9.ar rfl
 have hu:Un.ev (vw h9) (.ar 2) (.pointer (some ⟨h.size,0,none⟩))=some u:=hu
 rw[hz];clear hz z
 simp[hu]
 refine hK _ _ ⟨fun b o hb=>?_,hr⟩
 have hb':h[b]? = some o:=hb
 have hlt:=(Array.getElem?_eq_some_iff.1 hb').1
 show h9[b]? = _
 rw[ho9 b (by omega)]
 exact l1 _ _ (q1 _ _ hb)
theorem Cj{h:Heap}:aB Tryz.prog N.fq #[] h (fun u h'=>u = .bool true∧(vw h).le (vw h')):=by
 refine ao (args:=[]) follows F.fq E.fq (Nat.le_of_ble_eq_true (by kernel_rfl)) fun Kc hK=>?_
 dsimp only[L.fq]
 refine aa fun z hz=>?_
 simp
 rw[hz];clear hz z
 refine aa fun z hz=>?_
 simp
 refine af (by kernel_rfl) Ar ?_
 rintro fv h1 ⟨q1,r1⟩
 refine af (by kernel_rfl) (mf 0 (Owns.start (View.le_refl (vw h1))) (fun _ _ _=>rfl) r1 Ir fun _=>IL) ?_
 rintro u h2 ⟨W2,hW2,⟨hne,_⟩ | ⟨_,o2,vb,V,rfl,ip,w2,g2,_⟩⟩
 ·exact absurd Jh hne
 rw[C3]at g2
 have hp:exG.params=1:=rfl
 have rG:Rd (vw h2) (.agg #[.int .i64 1,vb]) exG:=g2.rdF w2 ip
 have hep:exF.params=1:=rfl
 simp[hep]
 refine iA (α:=ah) (d:=exG) (X:=vw h2) (z:=.agg #[.int .i64 0,.slice none 0 0]) (v:=.agg #[.int .i64 1,vb]) (by kernel_rfl) rfl (by kernel_rfl) rG (fun _=>by simp) (fun _=>by simp) fun h3 q3 _ hY=>?_
 have at3:=hY (vw h3) q3 rfl
 generalize h2.size=B at at3
 obtain⟨_,vb',cb,sb⟩:=gW at3
 have sb:SlRd (vw h3) vb' exG.blocks:=sb
 have l4:exG.blocks.length=4:=rfl
 obtain⟨v0,c0,s0⟩:=(((sb.at (i:=0) (by decide)).part BlkD.mw).part dp.zT).sl
 obtain⟨v2,c2,s2⟩:=((sb.at (i:=2) (by decide)).part BlkD.mD).sl
 have k3:=(((sb.at (i:=3) (by decide)).part BlkD.mw).part dp.Al).int
 have s0:SlRd (vw h3) v0 ([1,3]:List Int):=s0
 have s2:SlRd (vw h3) v2 ([⟨1,[⟨1,0⟩,⟨3,0⟩]⟩]:List PhiD):=s2
 obtain⟨v5,c5,s5⟩:=((s2.at (i:=0) (by decide)).part PhiD.mK).sl
 have s5:SlRd (vw h3) v5 ([⟨1,0⟩,⟨3,0⟩]:List InD):=s5
 have a1:=(s0.at (i:=1) (by decide)).int
 have f0:=((s5.at (i:=0) (by decide)).part InD.oU).int
 have f1:=((s5.at (i:=1) (by decide)).part InD.oU).int
 have k3:an (vw h3) ((((slA vb').add (3*6)).add 2).add 0)=some (.int .i64 1):=k3
 have n6 : ∀i:Nat,i<4→Bn.ev (.idx 6) vb' (.int .i64 i)=some (.pointer (some ((slA vb').add (i*6)))):=fun i hi=>by
  have:=sb.idxn (N:=6) rfl (k:=.i64) (i:=i) (by omega) (by rw[l4];omega)
  simpa using this
 have n60:Bn.ev (.idx 6) vb' (.int .i64 0)=some (.pointer (some ((slA vb').add (0*6)))):=n6 0 (by decide)
 have n62:Bn.ev (.idx 6) vb' (.int .i64 2)=some (.pointer (some ((slA vb').add (2*6)))):=n6 2 (by decide)
 have n63:Bn.ev (.idx 6) vb' (.int .i64 3)=some (.pointer (some ((slA vb').add (3*6)))):=n6 3 (by decide)
 have n2:Bn.ev (.idx 2) v2 (.int .i64 0)=some (.pointer (some ((slA v2).add (0*2)))):=s2.idxn (N:=2) rfl (k:=.i64) (i:=0) (by decide) (by decide)
 have m0:Bn.ev (.idx 2) v5 (.int .i64 0)=some (.pointer (some ((slA v5).add (0*2)))):=s5.idxn (N:=2) rfl (k:=.i64) (i:=0) (by decide) (by decide)
 have m1:Bn.ev (.idx 2) v5 (.int .i64 1)=some (.pointer (some ((slA v5).add (1*2)))):=s5.idxn (N:=2) rfl (k:=.i64) (i:=1) (by decide) (by decide)
 have t1:Bn.ev (.idx 1) v0 (.int .i64 1)=some (.pointer (some ((slA v0).add (1*1)))):=s0.idxn (N:=1) rfl (k:=.i64) (i:=1) (by decide) (by decide)
 rw[hz];clear hz z
 refine aa fun z hz=>?_
 have c0:an (vw h3) ((((slA vb').add 0).add 2).add 2)=some v0:=c0
 have c2:an (vw h3) (((slA vb').add 12).add 0)=some v2:=c2
 have k3:an (vw h3) ((((slA vb').add 18).add 2).add 0)=some (.int .i64 1):=k3
 have c5:an (vw h3) (((slA v2).add 0).add 1)=some v5:=c5
 have a1:an (vw h3) ((slA v0).add 1)=some (.int .i64 3):=a1
 have f0:an (vw h3) (((slA v5).add 0).add 0)=some (.int .i64 1):=f0
 have f1:an (vw h3) (((slA v5).add 2).add 0)=some (.int .i64 3):=f1
 have l0:=s0.len (K:=vw h3)
 have l2:=s2.len (K:=vw h3)
 have l5:=s5.len (K:=vw h3)
 simp only[Nat.zero_mul,Nat.one_mul,Nat.reduceMul,List.length_cons,List.length_nil,Nat.zero_add,Nat.reduceAdd,Int.natCast_zero,Int.cast_ofNat_Int]at n60 n62 n63 n2 m0 m1 t1 l0 l2 l5
 simp[cb,sb.len,l4,n60,n62,n63,n2,m0,m1,t1,c0,c2,c5,k3,a1,f0,f1,l0,l2,l5]
 rw[hz];clear hz z
 refine aa fun z hz=>?_
 simp[cb,n60,n62,n63,n2,m0,m1,t1,c0,c2,c5,k3,a1,f0,f1]
 rw[hz];clear hz z
 simp[cb,n60,n62,n63,n2,m0,m1,t1,c0,c2,c5,k3,a1,f0,f1]
 refine hK _ _ ⟨rfl,?_⟩
 exact View.le_trans q1 (View.le_trans hW2 (View.le_trans w2.wle q3))
theorem BU[Inhabited α]{l m:List α}{i:Nat}(h:i<l.length):nth (l++m) i=nth l i:=by
 rw[ak (show i<(l++m).length by rw[List.length_append];omega),ak h,List.getElem_append_left h]
section
variable {f:ah} {ed:List (Int × Int)}
theorem df:(onE ed f).blocks.length=f.blocks.length+ed.length:=by simp[onE]
theorem ou{a:Nat}(ha:a<f.blocks.length):nth (onE ed f).blocks a=blE ed f.blocks.length a (nth f.blocks a):=by
 unfold onE
 dsimp only
 rw[BU (by simpa using ha),dm ha]
theorem jM{k:Nat}(hk:k<ed.length):nth (onE ed f).blocks (f.blocks.length+k)=iS (nth ed k).2:=by
 unfold onE
 dsimp only
 rw[ak (by simp;omega),List.getElem_append_right (by simp),ak hk]
 simp
structure dS (f:ah) (ed:List (Int × Int)):Prop where
 hto : ∀a,a<f.blocks.length→∀t∈(nth f.blocks a).term.to,0≤t∧t<f.blocks.length
 hed : ∀e∈ed,db (ofG f.blocks) e.1 e.2=true
 hnd:ed.Nodup
theorem dS.rng(w:dS f ed){k:Nat}(hk:k<ed.length):(0≤(nth ed k).1∧(nth ed k).1<f.blocks.length)∧0≤(nth ed k).2∧(nth ed k).2<f.blocks.length:=by
 have h:=w.hed _ (bw hk)
 rw[bY]at h
 omega
theorem xl(w:dS f ed){k:Nat}(hk:k<ed.length):putE ed f.blocks.length (nth ed k).1 (nth ed k).2=some ((f.blocks.length:Int)+k):=by
 unfold putE
 have hm:((nth ed k).1,(nth ed k).2)∈ed:=bw hk
 rw[if_pos hm]
 congr 2
 have:((nth ed k).1,(nth ed k).2)=ed[k]:=ak hk
 rw[this,List.Nodup.idxOf_getElem w.hnd]
theorem lW(w:dS f ed){a b:Nat}(ha:a<f.blocks.length)(hb:b<f.blocks.length):db (ofG (onE ed f).blocks) a b=true↔db (ofG f.blocks) a b=true∧((a:Int),(b:Int))∉ed:=by
 rw[bY,bY,df,Int.toNat_natCast,ou ha]
 show _∧(b:Int)∈((nth f.blocks a).term.to.map (toE ed f.blocks.length a))↔_
 rw[List.mem_map]
 constructor
 ·rintro⟨_,t,ht,e⟩
  unfold toE at e
  cases hp:putE ed f.blocks.length a t with
  | none=>
   rw[hp]at e
   simp only[Option.getD_none]at e
   subst e
   refine⟨⟨by omega,ht⟩,fun hm=>?_⟩
   unfold putE at hp
   rw[if_pos hm]at hp;cases hp
  | some q=>
   rw[hp]at e
   have:=jm hp
   simp only[Option.getD_some]at e
   omega
 ·rintro⟨⟨_,ht⟩,hn⟩
  refine⟨by omega,b,ht,?_⟩
  unfold toE putE
  rw[if_neg hn];rfl
theorem sO(w:dS f ed){a k:Nat}(ha:a<f.blocks.length)(hk:k<ed.length):db (ofG (onE ed f).blocks) a ((f.blocks.length+k:Nat):Int)=true↔(nth ed k).1=a:=by
 rw[bY,df,Int.toNat_natCast,ou ha]
 show _∧((f.blocks.length+k:Nat):Int)∈((nth f.blocks a).term.to.map (toE ed f.blocks.length a))↔_
 rw[List.mem_map]
 have hr:=w.rng hk
 have hpk:=xl w hk
 constructor
 ·rintro⟨_,t,ht,e⟩
  unfold toE at e
  cases hp:putE ed f.blocks.length a t with
  | none=>
   rw[hp]at e
   have:=w.hto a ha t ht
   simp only[Option.getD_none]at e
   omega
  | some q=>
   rw[hp]at e
   simp only[Option.getD_some]at e
   unfold putE at hp
   split at hp
   ·rename_i hm
    have hlt:=List.idxOf_lt_length_iff.2 hm
    have hq:=Option.some.inj hp
    have hk2:ed.idxOf ((a:Int),t)=k:=by omega
    have:=List.getElem_idxOf hlt
    rw[ak hk]
    have e2:ed[k]=((a:Int),t):=by rw[←this];congr 1;exact hk2.symm
    rw[e2]
   ·cases hp
 ·intro e
  have hm:=w.hed _ (bw hk)
  rw[bY]at hm
  refine⟨by omega,(nth ed k).2,?_,?_⟩
  ·have:=hm.2;rw[e,Int.toNat_natCast]at this;exact this
  ·unfold toE;rw[←e,hpk];simp
theorem kv(w:dS f ed){k:Nat}(hk:k<ed.length):db (ofG (onE ed f).blocks) ((f.blocks.length+k:Nat):Int) b=true↔(nth ed k).2=b:=by
 rw[bY,df,Int.toNat_natCast,jM hk]
 have hr:=w.rng hk
 show _∧b∈[(nth ed k).2]↔_
 rw[List.mem_singleton]
 constructor
 ·rintro⟨_,e⟩;exact e.symm
 ·intro e;exact⟨by omega,e.symm⟩
theorem yV(w:dS f ed){wo:Int}(hwo:wo<f.blocks.length){b:Nat}(h:Re (ofG f.blocks) wo b):Re (ofG (onE ed f).blocks) wo b:=by
 induction h with
 | root h1 h2=>exact .root (by rw[dN,df];rw[dN]at h1;omega) h2
 | @step a b ha he hb ih=>
  have hr:=(bY.1 he).1
  have la:a<f.blocks.length:=by omega
  have lb:b<f.blocks.length:=by omega
  by_cases hm:((a:Int),(b:Int))∈ed
  ·obtain⟨k,hk,e⟩:=List.getElem_of_mem hm
   have e1:(nth ed k).1=a:=by rw[ak hk,e]
   have e2:(nth ed k).2=b:=by rw[ak hk,e]
   have s1:Re (ofG (onE ed f).blocks) wo (f.blocks.length+k):=.step ih ((sO w la hk).2 e1) (by omega)
   exact .step s1 ((kv w hk).2 e2) hb
  ·exact .step ih ((lW w la lb).2 ⟨he,hm⟩) hb
theorem A9(w:dS f ed){wo:Int}{x:Nat}(h:Re (ofG (onE ed f).blocks) wo x):(x<f.blocks.length→Re (ofG f.blocks) wo x)∧∀k,k<ed.length→x=f.blocks.length+k→Re (ofG f.blocks) wo (nth ed k).1.toNat:=by
 induction h with
 | root h1 h2=>
  refine⟨fun hx=>.root (by rw[dN];exact hx) h2,fun k hk e=>?_⟩
  have:=w.rng hk;omega
 | @step a b ha he hb ih=>
  have hr:=(bY.1 he).1
  rw[df]at hr
  rcases Nat.lt_or_ge a f.blocks.length with la | la
  ·refine⟨fun lb=>?_,fun k hk e=>?_⟩
   ·exact .step (ih.1 la) ((lW w la lb).1 he).1 hb
   ·subst e
    have:=(sO w la hk).1 he
    rw[this];exact ih.1 la
  ·obtain⟨k',rfl⟩ : ∃k',a=f.blocks.length+k':=⟨a-f.blocks.length,by omega⟩
   have hk':k'<ed.length:=by omega
   have e2:=(kv w hk').1 he
   have hr':=w.rng hk'
   refine⟨fun lb=>?_,fun k hk e=>by omega⟩
   have hre:=ih.2 k' hk' rfl
   have hee:=w.hed _ (bw hk')
   refine .step hre (?_:db (ofG f.blocks) _ _=true) hb
   rw[←e2,Int.toNat_of_nonneg hr'.1.1]
   exact hee
theorem GG(w:dS f ed){wo:Int}(hwo:wo<f.blocks.length){b:Nat}(hb:b<f.blocks.length):Re (ofG (onE ed f).blocks) wo b↔Re (ofG f.blocks) wo b:=
 ⟨fun h=>(A9 w h).1 hb,yV w hwo⟩
end
theorem sU {f:ah} {p i:Nat} (h : ∀j,j<f.blocks.length→(nth f.blocks j).phis.length≤p∧(nth f.blocks j).ins.length≤i) : ∀k,k≤f.blocks.length→cntT f k≤(p+i+1)*k
 | 0,_=>by simp[cntT]
 | k+1,hk=>by
  have ih:=sU h k (by omega)
  have:=h k (by omega)
  show cntT f k+_≤_
  rw[Nat.mul_succ];omega
theorem zd{f:ah}:(fU f).length≤f.blocks.length*f.blocks.length:=by
 unfold fU gE
 refine Nat.le_trans (List.length_filter_le _ _) ?_
 rw[lN,dN]
 refine v7 fun a _=>?_
 have:=qN (g:=ofG f.blocks) (a:=a)
 rw[dN]at this;exact this
section
variable {s:List Int}
theorem BY:cntT (gU s) (gU s).blocks.length≤2385:=by
 obtain⟨d,p3,p0,hph⟩:=Bg (s:=s)
 obtain⟨n1,n2⟩:=eu (s:=s)
 have hlen:=d.gt.len
 have hins:=d.ins
 have hB:(gU s).blocks=(fS s).blocks:=rfl
 have:=sU (f:=gU s) (p:=3) (i:=261) (fun j hj=>⟨p3 j,by rw[hB]at hj ⊢;exact hins j (by omega)⟩) _ (Nat.le_refl _)
 rw[hB,hlen]at this
 rw[hB,hlen]
 omega
theorem Hy:gG (gU s)=0:=by
 unfold gG
 rw[zN y9,if_neg (by simp)]
 have h1:=BY (s:=s)
 have h2:=zp (s:=s)
 have h3:=zd (f:=gU s)
 have h4:(gU s).blocks.length*(gU s).blocks.length≤9*9:=Nat.mul_le_mul h2.2 h2.2
 have:nr (gU s)=false:=by
  unfold nr
  rw[decide_eq_false (by omega),decide_eq_false (by omega)];rfl
 rw[this];rfl
end
theorem Dc{f:ah}(m:iB f)(hn:f.blocks.length≤12):vX f:=by
 intro b hb i hi
 have h:=(m.phi b i hb hi).2.1
 have hl:(nth (nth f.blocks b).phis i).ins.length=(aw f b).length:=by rw[←h,List.length_map]
 refine⟨?_,?_,fun x hx=>?_⟩
 ·rw[hl]
  exact Nat.le_trans (fH _) hn
 ·rw[h]
  exact nV.imp fun h=>by omega
 ·have:x.frm∈aw f b:=by rw[←h];exact List.mem_map_of_mem hx
  exact(qu.1 this).1
theorem xc{f:ah}(m:iB f):dS f (fU f) where
 hto a ha t ht:=by have:=(m.endG ha).2 t ht;omega
 hed e he:=(lu.1 he).1
 hnd:=mN
theorem En{f:ah}{ed:List (Int × Int)}(sm:SmF f)(he:f.blocks.length+ed.length≤10000):SmF (onE ed f):=by
 refine⟨by rw[df];exact he,fun i hi=>?_⟩
 rw[df]at hi
 rcases Nat.lt_or_ge i f.blocks.length with h | h
 ·rw[ou h]
  have q:=sm.blk i h
  refine⟨by show(List.map _ _).length≤_;rw[List.length_map];exact q.phis,q.ins,q.args,by show(List.map _ _).length≤_;rw[List.length_map];exact q.to,fun j hj=>?_,q.inn⟩
  have hj:j<(nth f.blocks i).phis.length:=by simpa[blE]using hj
  show(nth ((nth f.blocks i).phis.map (phE ed f.blocks.length i)) j).ins.length≤_
  rw[ak (by rw[List.length_map];exact hj),List.getElem_map]
  show(srt _).length≤_
  rw[lT.length_eq,List.length_map,←ak hj]
  exact q.phi j hj
 ·obtain⟨k,rfl⟩ : ∃k,i=f.blocks.length+k:=⟨i-f.blocks.length,by omega⟩
  rw[jM (by omega)]
  exact⟨Nat.zero_le _,Nat.zero_le _,Nat.zero_le _,by show 1≤_;decide,fun j hj=>absurd hj (Nat.not_lt_zero _),fun j hj=>absurd hj (Nat.not_lt_zero _)⟩
theorem DP{s:List Int}{v:Value}{h:Heap}(hs:SlRd (vw h) v s):aB Tryz.prog N.fY #[v] h (fun u h'=>h'=h∧SlRd (vw h) u (s.take 400)):=by
 refine ao (args:=[v]) follows F.fY E.fY (Nat.le_of_ble_eq_true (by kernel_rfl)) fun Kc hK=>?_
 dsimp only[L.fY]
 have hb:=hs.bound
 simp[hs.len]
 refine⟨fun h1=>?_,fun h1=>?_⟩
 ·obtain⟨u,h2,h3⟩:=hs.take (n:=400) (by omega) (kd:=.i64)
  have h2:Bn.ev .hi v (.int .i64 400)=some u:=h2
  simp[h2]
  exact hK _ _ ⟨rfl,h3⟩
 ·refine hK _ _ ⟨rfl,?_⟩
  rw[List.take_of_length_le (by omega)];exact hs
section
variable {f:ah} {ed:List (Int × Int)}
theorem mE{f:ah}{x:Int}(hb:0≤b∧b<f.blocks.length):x∈aw f b↔db (ofG f.blocks) x b=true:=by
 rw[qu,bY]
 constructor
 ·rintro⟨h1,h2⟩;exact⟨by omega,h2⟩
 ·rintro⟨h1,h2⟩;exact⟨by omega,h2⟩
theorem jR{a:Nat}(ha:a<f.blocks.length):(nth (onE ed f).blocks a).phis=(nth f.blocks a).phis.map (phE ed f.blocks.length a):=by rw[ou ha];rfl
theorem jO{a:Nat}(ha:a<f.blocks.length):(nth (onE ed f).blocks a).ins=(nth f.blocks a).ins:=by rw[ou ha];rfl
theorem qg{a:Nat}(ha:a<f.blocks.length):(nth (onE ed f).blocks a).term=tmE ed f.blocks.length a (nth f.blocks a).term:=by rw[ou ha];rfl
theorem qq{a i:Nat}(ha:a<f.blocks.length)(hi:i<(nth f.blocks a).phis.length):nth (nth (onE ed f).blocks a).phis i=phE ed f.blocks.length a (nth (nth f.blocks a).phis i):=by
 rw[jR ha,ak (by rw[List.length_map];exact hi),List.getElem_map,ak hi]
structure Ce (f g:ah) (t t':Th):Prop where
 mem:t'∈aF g
 blk:t'.blk=t.blk
 place:t'.place=t.place
 mks:t'.mks=t.mks
 tks:t'.tks.Perm t.tks
theorem yt{a:Int}{p:PhiD}:((phE ed n a p).ins.map InD.val).Perm (p.ins.map InD.val):=by
 have:=(lT (l:=p.ins.map (frmE ed n a))).map InD.val
 rw[List.map_map]at this
 exact this
theorem wQ{a i:Nat}(ha:a<f.blocks.length)(hi:i<(nth f.blocks a).phis.length):(phiT (onE ed f) a i).mks=(phiT f a i).mks:=by
 show[(nth (nth (onE ed f).blocks a).phis i).dst]=[(nth (nth f.blocks a).phis i).dst]
 rw[qq ha hi];rfl
theorem nz{a i:Nat}(ha:a<f.blocks.length):insT (onE ed f) a i=insT f a i:=by unfold insT;rw[jO ha]
theorem lB{a:Nat}(ha:a<f.blocks.length):endT (onE ed f) a=endT f a:=by unfold endT;rw[jO ha,qg ha];rfl
theorem AU{k:Nat}(hk:k<ed.length):endT (onE ed f) (f.blocks.length+k)=⟨((f.blocks.length+k:Nat):Int),0,[],[]⟩:=by unfold endT;rw[jM hk];rfl
theorem GK{t:Th}(ht:t∈aF f): ∃t',Ce f (onE ed f) t t':=by
 obtain⟨c,hc,h⟩:=bC.1 ht
 have hlt:c<(onE ed f).blocks.length:=by rw[df];omega
 rcases bU.1 h with⟨i,hi,rfl⟩ | ⟨i,hi,rfl⟩ | rfl
 ·refine⟨phiT (onE ed f) c i,bC.2 ⟨c,hlt,bU.2 (.inl ⟨i,by rw[jR hc,List.length_map];exact hi,rfl⟩)⟩,rfl,rfl,wQ hc hi,?_⟩
  show((nth (nth (onE ed f).blocks c).phis i).ins.map InD.val).Perm _
  rw[qq hc hi];exact yt
 ·exact⟨insT (onE ed f) c i,bC.2 ⟨c,hlt,bU.2 (.inr (.inl ⟨i,by rw[jO hc];exact hi,rfl⟩))⟩,rfl,rfl,by rw[nz hc],by rw[nz hc]⟩
 ·exact⟨endT (onE ed f) c,bC.2 ⟨c,hlt,bU.2 (.inr (.inr rfl))⟩,by rw[lB hc],by rw[lB hc],by rw[lB hc],by rw[lB hc]⟩
theorem FJ{t':Th}(ht:t'∈aF (onE ed f)):(∃t∈aF f,Ce f (onE ed f) t t')∨∃k,k<ed.length∧t'=⟨((f.blocks.length+k:Nat):Int),0,[],[]⟩:=by
 obtain⟨c,hc,h⟩:=bC.1 ht
 rw[df]at hc
 rcases Nat.lt_or_ge c f.blocks.length with l | l
 ·rcases bU.1 h with⟨i,hi,rfl⟩ | ⟨i,hi,rfl⟩ | rfl
  ·rw[jR l,List.length_map]at hi
   refine .inl ⟨phiT f c i,bC.2 ⟨c,l,bU.2 (.inl ⟨i,hi,rfl⟩)⟩,ht,rfl,rfl,wQ l hi,?_⟩
   show((nth (nth (onE ed f).blocks c).phis i).ins.map InD.val).Perm _
   rw[qq l hi];exact yt
  ·rw[jO l]at hi
   rw[nz l]at ht ⊢
   exact .inl ⟨insT f c i,bC.2 ⟨c,l,bU.2 (.inr (.inl ⟨i,hi,rfl⟩))⟩,ht,rfl,rfl,rfl,.refl _⟩
  ·rw[lB l]at ht ⊢
   exact .inl ⟨endT f c,bC.2 ⟨c,l,bU.2 (.inr (.inr rfl))⟩,ht,rfl,rfl,rfl,.refl _⟩
 ·obtain⟨k,rfl⟩ : ∃k,c=f.blocks.length+k:=⟨c-f.blocks.length,by omega⟩
  have hk:k<ed.length:=by omega
  refine .inr ⟨k,hk,?_⟩
  rcases bU.1 h with⟨i,hi,rfl⟩ | ⟨i,hi,rfl⟩ | rfl
  ·rw[jM hk]at hi;exact absurd hi (Nat.not_lt_zero _)
  ·rw[jM hk]at hi;exact absurd hi (Nat.not_lt_zero _)
  ·exact AU hk
theorem pE {α β:Type} {x y:α→List β} : ∀{l:List α},(∀a∈l,x a=y a)→l.flatMap x=l.flatMap y
 | [],_=>rfl
 | a::l,h=>by rw[List.flatMap_cons,List.flatMap_cons,h a (List.mem_cons_self ..),pE fun b hb=>h b (List.mem_cons_of_mem _ hb)]
theorem BS{c:Nat}(hc:c<f.blocks.length):(thB (onE ed f) c).flatMap Th.mks=(thB f c).flatMap Th.mks:=by
 unfold thB
 rw[jR hc,jO hc,List.length_map]
 simp only[List.flatMap_append,List.flatMap_singleton]
 unfold rows
 rw[List.flatMap_map,List.flatMap_map,List.flatMap_map,List.flatMap_map,pE (x:=fun i=>(phiT (onE ed f) c i).mks) (y:=fun i=>(phiT f c i).mks) fun i h=>wQ hc (List.mem_range.1 h),pE (x:=fun i=>(insT (onE ed f) c i).mks) (y:=fun i=>(insT f c i).mks) fun i h=>by rw[nz hc],lB hc]
theorem Be : ∀{n:Nat},n≤f.blocks.length→(thTo (onE ed f) n).flatMap Th.mks=(thTo f n).flatMap Th.mks
 | 0,_=>rfl
 | n+1,h=>by rw[eK,eK,List.flatMap_append,List.flatMap_append,Be (by omega),BS (by omega)]
theorem A7 : ∀{k:Nat},k≤ed.length→(thTo (onE ed f) (f.blocks.length+k)).flatMap Th.mks=(thTo f f.blocks.length).flatMap Th.mks
 | 0,_=>Be (Nat.le_refl _)
 | k+1,h=>by
  have e:thB (onE ed f) (f.blocks.length+k)=[endT (onE ed f) (f.blocks.length+k)]:=by
   unfold thB;rw[jM (by omega)];rfl
  rw[←Nat.add_assoc,eK,List.flatMap_append,A7 (by omega),e,AU (by omega)]
  simp
theorem Gy:gP (aF (onE ed f))=gP (aF f):=by
 unfold gP aF
 rw[df,A7 (Nat.le_refl _)]
theorem Bq : ∀{n:Nat},n≤f.blocks.length→jc (onE ed f) n=jc f n+ed.length
 | 0,_=>df
 | n+1,h=>by
  show jc (onE ed f) n+_+_=jc f n+_+_+_
  rw[Bq (by omega),jR (by omega),jO (by omega),List.length_map];omega
theorem Br : ∀{k:Nat},k≤ed.length→jc (onE ed f) (f.blocks.length+k)=jc f f.blocks.length+ed.length
 | 0,_=>Bq (Nat.le_refl _)
 | k+1,h=>by
  show jc (onE ed f) (f.blocks.length+k)+(nth (onE ed f).blocks (f.blocks.length+k)).phis.length+(nth (onE ed f).blocks (f.blocks.length+k)).ins.length=_
  rw[Br (by omega),jM (by omega)];rfl
theorem dS.pM(w:dS f ed){v c p:Int}(hc:0≤c∧c<f.blocks.length)(h:fh f v c p):fh (onE ed f) v c p:=by
 rcases h with h | ⟨t,ht,hv,h⟩
 ·exact .inl h
 ·obtain⟨t',ct⟩:=GK (ed:=ed) ht
  have hat:=nI ht
  refine .inr ⟨t',ct.mem,by rw[ct.mks];exact hv,?_⟩
  rw[ct.blk,ct.place]
  rcases h with h | ⟨h1,h2⟩
  ·exact .inl h
  ·exact .inr ⟨h1,fun r=>h2 ((GG w hat.2 (by omega)).1 r)⟩
theorem dS.FR(w:dS f ed){v p q:Int}{k:Nat}(hk:k<ed.length)(h:fh f v (nth ed k).1 p):fh (onE ed f) v ((f.blocks.length+k:Nat):Int) q:=by
 have hr:=w.rng hk
 rcases h with h | ⟨t,ht,hv,h⟩
 ·exact .inl h
 ·obtain⟨t',ct⟩:=GK (ed:=ed) ht
  have hat:=nI ht
  refine .inr ⟨t',ct.mem,by rw[ct.mks];exact hv,?_⟩
  rw[ct.blk,ct.place]
  refine .inr ⟨by omega,fun r=>?_⟩
  rw[Int.toNat_natCast]at r
  have r2:=(A9 w r).2 k hk rfl
  rcases h with⟨h1,_⟩ | ⟨_,h2⟩
  ·have:=r2.ne
   omega
  ·exact h2 r2
theorem dS.may(w:dS f ed)(mb:iB f)(hn:f.blocks.length+ed.length≤512)(hc:jc f f.blocks.length+ed.length≤4096):iB (onE ed f):=by
 have hb0:=mb.blocks.1
 have hto1 : ∀k,k<ed.length→1≤(nth ed k).2:=fun k hk=>by
  have h:=w.hed _ (bw hk)
  rw[bY]at h
  have:=(mb.endG (b:=(nth ed k).1.toNat) (by omega)).2 _ h.2
  omega
 refine⟨mb.params,by rw[df];omega,by rw[df,Br (Nat.le_refl _)];exact hc,fun t ht=>?_,by rw[Gy];exact mb.nodup,fun b hb=>?_,fun t ht hp v hv=>?_,fun b i hb hi=>?_⟩
 ·obtain⟨c,hc,h⟩:=bC.1 ht
  rw[df]at hc
  rcases Nat.lt_or_ge c f.blocks.length with l | l
  ·rcases bU.1 h with⟨i,hi,rfl⟩ | ⟨i,hi,rfl⟩ | rfl
   ·rw[jR l,List.length_map]at hi
    refine yh fun n hn=>?_
    rw[wQ l hi]at hn
    exact(mb.phiG l hi).mks n hn
   ·rw[jO l]at hi
    have gd:=mb.insG l hi
    refine y8 (by rw[jO l];exact hi) (by rw[jO l];exact gd.2) fun n hn=>?_
    rw[nz l]at hn
    exact gd.1.mks n hn
   ·have gd:=mb.endG l
    refine qC ?_ fun n hn=>?_
    ·rw[qg l]
     have:=gd.1
     unfold jq at this ⊢
     unfold tmE
     dsimp only
     rw[List.length_map];exact this
    ·rw[qg l]at hn
     obtain⟨t,ht,rfl⟩:=List.mem_map.1 hn
     have:=gd.2 t ht
     rw[df]
     unfold toE
     cases hp:putE ed f.blocks.length c t with
     | none=>rw[Option.getD_none];omega
     | some q=>have:=jm hp;rw[Option.getD_some];omega
  ·obtain⟨k,rfl⟩ : ∃k,c=f.blocks.length+k:=⟨c-f.blocks.length,by omega⟩
   have hk:k<ed.length:=by omega
   have hb:=jM (f:=f) hk
   rcases bU.1 h with⟨i,hi,rfl⟩ | ⟨i,hi,rfl⟩ | rfl
   ·rw[hb]at hi;exact absurd hi (Nat.not_lt_zero _)
   ·rw[hb]at hi;exact absurd hi (Nat.not_lt_zero _)
   ·refine qC (by rw[hb];rfl) fun n hn=>?_
    rw[hb]at hn
    obtain rfl:=List.mem_singleton.1 hn
    have:=w.rng hk
    have:=hto1 k hk
    rw[df];omega
 ·rw[df]at hb
  rcases Nat.lt_or_ge b f.blocks.length with l | l
  ·exact yV w (by omega) (mb.way b l)
  ·obtain⟨k,rfl⟩ : ∃k,b=f.blocks.length+k:=⟨b-f.blocks.length,by omega⟩
   have hk:k<ed.length:=by omega
   have hr:=w.rng hk
   have h1:=yV w (wo:=-1) (by omega) (mb.way (nth ed k).1.toNat (by omega))
   exact .step h1 ((sO w (by omega) hk).2 (by omega)) (by omega)
 ·rcases FJ ht with⟨t0,ht0,ce⟩ | ⟨k,hk,rfl⟩
  ·have:=mb.takes t0 ht0 (by rw[←ce.place];exact hp) v (ce.tks.mem_iff.1 hv)
   rw[ce.blk,ce.place]
   exact w.pM (nI ht0) this
  ·cases hv
 ·rw[df]at hb
  rcases Nat.lt_or_ge b f.blocks.length with l | l
  ·rw[jR l,List.length_map]at hi
   rw[qq l hi]
   obtain⟨k1,k2,k3⟩:=mb.phi b i l hi
   generalize nth (nth f.blocks b).phis i=p at k2 k3
   have hfr : ∀x∈p.ins,0≤x.frm∧x.frm<f.blocks.length:=fun x hx=>by
    have:x.frm∈aw f b:=by rw[←k2];exact List.mem_map_of_mem hx
    exact(qu.1 this).1
   have hnd0:(p.ins.map InD.frm).Nodup:=by rw[k2];exact nk.imp fun h=>Int.ne_of_lt h
   have hnd:=pH (E:=ed) (n:=f.blocks.length) (b:=b) hnd0 hfr
   have hpm:=lT (l:=p.ins.map (frmE ed f.blocks.length b))
   refine⟨k1,?_,fun q hq=>?_⟩
   ·refine List.Perm.eq_of_pairwise (le:=fun a b:Int=>a≤b) (fun a b _ _ h1 h2=>by omega) (List.pairwise_map.2 tx) (nk.imp fun h=>Int.le_of_lt h) ((hpm.map InD.frm).trans ?_)
    refine(List.perm_ext_iff_of_nodup hnd (nk.imp fun h=>Int.ne_of_lt h)).2 fun x=>?_
    rw[mE (by rw[df];omega),List.map_map,List.mem_map]
    constructor
    ·rintro⟨y,hy,rfl⟩
     have ye:db (ofG f.blocks) y.frm b=true:=(mE (by omega)).1 (by rw[←k2];exact List.mem_map_of_mem hy)
     have yr:=hfr y hy
     show db _ ((putE ed f.blocks.length y.frm b).getD y.frm) b=true
     by_cases hm:(y.frm,(b:Int))∈ed
     ·obtain⟨k,hk,e⟩:=List.getElem_of_mem hm
      have e1:nth ed k=(y.frm,(b:Int)):=by rw[ak hk,e]
      have:=xl w hk
      rw[e1]at this
      rw[this,Option.getD_some]
      exact(kv w hk).2 (by rw[e1])
     ·have:putE ed f.blocks.length y.frm b=none:=by unfold putE;rw[if_neg hm]
      rw[this,Option.getD_none]
      have h:=(lW w (a:=y.frm.toNat) (b:=b) (by omega) l).2
      rw[Int.toNat_of_nonneg yr.1]at h
      exact h ⟨ye,hm⟩
    ·intro he
     have hr:=(bY.1 he).1
     rw[df]at hr
     obtain⟨z,rfl⟩:=Int.eq_ofNat_of_zero_le hr.1
     rcases Nat.lt_or_ge z f.blocks.length with lz | lz
     ·obtain⟨h1,h2⟩:=(lW w lz l).1 he
      have:=(mE (f:=f) (b:=b) (by omega)).2 h1
      rw[←k2]at this
      obtain⟨y,hy,e⟩:=List.mem_map.1 this
      refine⟨y,hy,?_⟩
      show(putE ed f.blocks.length y.frm b).getD y.frm=_
      have:putE ed f.blocks.length y.frm b=none:=by unfold putE;rw[e,if_neg h2]
      rw[this,Option.getD_none,e]
     ·obtain⟨k,rfl⟩ : ∃k,z=f.blocks.length+k:=⟨z-f.blocks.length,by omega⟩
      have hk:k<ed.length:=by omega
      have e2:=(kv w hk).1 he
      have h1:=w.hed _ (bw hk)
      rw[e2]at h1
      have:=(mE (f:=f) (b:=b) (by omega)).2 h1
      rw[←k2]at this
      obtain⟨y,hy,e⟩:=List.mem_map.1 this
      refine⟨y,hy,?_⟩
      show(putE ed f.blocks.length y.frm b).getD y.frm=_
      have:=xl w hk
      rw[e2]at this
      rw[e,this,Option.getD_some];omega
   ·obtain⟨x,hx,rfl⟩:=List.mem_map.1 (hpm.mem_iff.1 hq)
    have hs:=k3 x hx
    have hxr:=hfr x hx
    show fh _ x.val ((putE ed f.blocks.length x.frm b).getD x.frm) _
    cases hp:putE ed f.blocks.length x.frm b with
    | none=>
     rw[Option.getD_none]
     have e:nE (onE ed f) ((frmE ed f.blocks.length b x).frm)=nE f x.frm:=by
      unfold frmE
      dsimp only
      rw[hp,Option.getD_none]
      unfold nE
      rw[jO (by omega)]
     rw[e]
     exact w.pM hxr hs
    | some q=>
     rw[Option.getD_some]
     have h:=jm hp
     obtain⟨k,hk⟩ : ∃k:Nat,q=((f.blocks.length+k:Nat):Int):=⟨(q-f.blocks.length).toNat,by omega⟩
     subst hk
     have hkl:k<ed.length:=by omega
     unfold putE at hp
     rw[if_pos h.2.2]at hp
     have hq2:=Option.some.inj hp
     have hlt:=List.idxOf_lt_length_iff.2 h.2.2
     have e1:k=ed.idxOf (x.frm,(b:Int)):=by omega
     have e2:(nth ed k).1=x.frm:=by
      rw[ak hkl]
      have:=List.getElem_idxOf hlt
      subst e1
      rw[this]
     exact w.FR hkl (by rw[e2];exact hs)
  ·obtain⟨k,rfl⟩ : ∃k,b=f.blocks.length+k:=⟨b-f.blocks.length,by omega⟩
   rw[jM (by omega)]at hi
   exact absurd hi (Nat.not_lt_zero _)
end
section
variable {n:Nat}
theorem D8{l:List Int}(hs:l.Pairwise (· < ·)){x y:Int}(hx:x∈l)(hy:y∈l)(h:x≠y):1<l.length:=by
 match l,hs with
 | [],_=>cases hx
 | [z],_=>
  rw[List.mem_singleton]at hx hy
  exact absurd (hx.trans hy.symm) h
 | _::_::_,_=>simp
theorem EK{l:List Int}(hs:l.Pairwise (· < ·)){z:Int}(h : ∀x∈l,x=z):¬1<l.length:=by
 match l,hs with
 | [],_=>simp
 | [_],_=>simp
 | a::b::l,hs=>
  have h1:=h a (by simp)
  have h2:=h b (by simp)
  have:=(List.pairwise_cons.1 hs).1 b (by simp)
  omega
theorem my{g:Gr}{x:Int}(hb:0≤b∧b<g.length):x∈nth (dH g) b.toNat↔db g x b=true:=by
 rw[dH,dm (by omega),jV]
 constructor
 ·rintro⟨a,_,h,rfl⟩
  rw[Int.toNat_of_nonneg hb.1]at h;exact h
 ·intro h
  have hr:=(dX.1 h).1
  exact⟨x.toNat,by omega,by rw[Int.toNat_of_nonneg hr.1,Int.toNat_of_nonneg hb.1];exact h,Int.toNat_of_nonneg hr.1⟩
theorem lk{g:Gr}{b:Nat}(hb:b<g.length):(nth (dH g) b).Pairwise (· < ·):=by
 rw[dH,dm hb];exact nV
end
theorem A1{g:Gr}{a:Int}{vg:Value}{h:Heap}(hg:SlRd (vw h) vg g):
  aB Tryz.prog N.dL #[vg,.int .i64 a,.int .i64 b] h (fun v h'=>v = .bool (db g a b)∧h'=h):=by
 refine ao (args:=[vg,.int .i64 a,.int .i64 b]) follows F.dL E.dL (Nat.le_of_ble_eq_true (by kernel_rfl)) fun K hK=>?_
 have bg:=hg.bound
 by_cases hin:0≤a∧a<g.length∧0≤b∧b<g.length
 ·obtain⟨h1,h2,h3,h4⟩:=hin
  obtain⟨i,rfl⟩:=Int.eq_ofNat_of_zero_le h1
  obtain⟨rv,hrv⟩:=hg.rows
  obtain⟨hc,hr⟩:=hrv i (by omega)
  have br:=hr.bound
  have hspec:db g i b=(nth g i).contains b:=by simp[db,h2,h3,h4]
  rw[hspec]at hK
  simp(disch:=omega)[L.dL,hg.len,Int.not_lt.2 h1,Int.not_le.2 h2,Int.not_lt.2 h3,Int.not_le.2 h4]
  refine gq [0,1,2,6,7] (fun n ρ h'=>∃k:Nat,k≤(nth g i).length∧ρ=[(0,vg),(1,.int .i64 i),(2,.int .i64 b),(6,.bool false),(7,.int .i64 k)]∧h'=h∧n=(nth g i).length-k∧∀j,j<k→nth (nth g i) j≠b) (nth g i).length ⟨0,by omega,rfl,rfl,rfl,by intro j hj;omega⟩ ?_
  rintro n ρ h' ⟨k,hk,rfl,rfl,rfl,hpre⟩ K2 hK2
  by_cases hlt:k<(nth g i).length
  ·simp(disch:=omega)[L.dL.l1,hg.len,hg.idx1 rfl,hc _ (View.le_refl _),hr.len,hlt,hr.idx1 rfl,hr.int (View.le_refl _)]
   refine⟨fun he=>hK _ _ ⟨?_,rfl⟩,fun he=>hK2 _ _ _ ?_ ⟨k+1,hlt,rfl,rfl,rfl,fun j hj=>?_⟩⟩
   ·subst he;simpa using bw hlt
   ·omega
   ·rcases Nat.lt_or_ge j k with h | h
    ·exact hpre j h
    ·have:j=k:=by omega
     subst this;exact he
  ·simp(disch:=omega)[L.dL.l1,hg.len,hg.idx1 rfl,hc _ (View.le_refl _),hr.len,hlt]
   refine hK _ _ ⟨?_,rfl⟩
   have:k=(nth g i).length:=by omega
   subst this
   simp only[Value.bool.injEq]
   refine(Bool.eq_false_iff.2 fun hm=>?_).symm
   simp only[List.contains_iff_mem]at hm
   obtain⟨j,hj,e⟩:=List.getElem_of_mem hm
   exact hpre j hj (by rw[ak hj];exact e)
 ·have hspec:db g a b=false:=by simp[db];omega
  rw[hspec]at hK
  have hc:(((a<0∨(g.length:Int)≤a)∨b<0)∨(g.length:Int)≤b):=by omega
  have hd:(decide (a<0)||decide ((g.length:Int)≤a)||decide (b<0)||decide ((g.length:Int)≤b))=true:=by simpa[or_assoc]using hc
  simp(disch:=omega)[L.dL,hg.len,hd]
  exact hK _ _ ⟨rfl,rfl⟩
theorem FH{g:Gr}{a:Int}{vg:Value}{h:Heap}(hg:SlRd (vw h) vg g)(hs:g.length≤1000000):
  aB Tryz.prog N.eL #[vg,.int .i64 a] h (fun v h'=>(vw h).le (vw h')∧SlRd (fresh h h') v (cS g a)):=by
 refine ao (args:=[vg,.int .i64 a]) follows F.eL E.eL (Nat.le_of_ble_eq_true (by kernel_rfl)) fun K hK=>?_
 simp[L.eL]
 refine bM [0,1,5,6] (fun(v:Value) k=>[vg,.int .i64 a,v,.int .i64 k]) (fun v k h1=>Mine nothing h h1 nothing 3 v (sift (fun b=>db g a b) (fun b=>(b:Int)) k)) g.length (.slice none 0 0)
  rfl (by omega) rfl (Mine.start (fun _ _ h=>by cases h)) (fun _ _=>rfl) (fun v k h1 hk m=>by simp[hg.len]) ?_ ?_
 ·intro v k h1 hlt m K2 hK2
  simp
  refine af (by kernel_rfl) (A1 (hg.mono m.old)) ?_
  rintro _ _ ⟨rfl,rfl⟩
  simp[dZ]
  refine⟨fun he=>?_,fun he=>hK2 v _ _ rfl rfl (by rw[gj he];exact m)⟩
  have:=fH (p:=fun b=>db g a b) (x:=fun b=>(b:Int)) k
  refine m.push El.bc (by simp<;>rfl) (mS (by omega) (by omega)) (by omega) (by omega) (fun _=>by simp) (fun _=>by simp) fun u v' h3 m'=>hK2 v' _ _ rfl rfl (by rw[ib he];exact m')
 ·intro v h1 m
  simp
  exact hK _ _ ⟨m.old,m.fresh⟩
theorem BN{g:Gr}{vg:Value}{h:Heap}(hg:SlRd (vw h) vg g)(hs:g.length≤1000000):
  aB Tryz.prog N.dB #[vg] h (fun v h'=>(vw h).le (vw h')∧SlRd (fresh h h') v (dH g)):=by
 refine ao (args:=[vg]) follows F.dB E.dB (Nat.le_of_ble_eq_true (by kernel_rfl)) fun K hK=>?_
 simp[L.dB]
 refine bM [0,3,4] (fun(s:Value × View) k=>[vg,s.1,.int .i64 k]) (fun s k h1=>Mine nothing h h1 s.2 T.bc s.1 (rows (fun b=>sift (fun a=>db g a b) (fun a=>(a:Int)) g.length) k)) g.length (.slice none 0 0,nothing)
  rfl (by omega) rfl (Mine.start (fun _ _ h=>by cases h)) (fun _ _=>rfl) (fun v k h1 hk m=>by simp[hg.len]) ?_ ?_
 ·rintro⟨v,W⟩ b h1 hlt m K2 hK2
  simp
  refine bM [0,3,4,5,6] (fun(r:Value) a=>[vg,v,.int .i64 b,r,.int .i64 a]) (fun r a h2=>Mine nothing h1 h2 nothing 3 r (sift (fun a=>db g a b) (fun a=>(a:Int)) a)) g.length (.slice none 0 0)
   rfl (by omega) rfl (Mine.start (fun _ _ h=>by cases h)) (fun _ _=>rfl) (fun v k h1 hk m=>by simp[hg.len]) ?_ ?_
  ·intro r a h2 hlt2 m2 K3 hK3
   simp
   refine af (by kernel_rfl) (A1 (hg.mono (View.le_trans m.old m2.old))) ?_
   rintro _ _ ⟨rfl,rfl⟩
   simp[dZ]
   refine⟨fun he=>?_,fun he=>hK3 r _ _ rfl rfl (by rw[gj he];exact m2)⟩
   have:=fH (p:=fun a=>db g a b) (x:=fun b=>(b:Int)) a
   refine m2.push El.bc (by simp<;>rfl) (mS (by omega) (by omega)) (by omega) (by omega) (fun _=>by simp) (fun _=>by simp) fun u v' h3 m'=>hK3 v' _ _ rfl rfl (by rw[ib he];exact m')
  ·intro r h2 m2
   simp
   have mm:=m.ext m2.old
   refine mm.push El.cL (by simp<;>rfl) (gh.2 (m2.fresh.mono (eT _ _ _))) (by simp;omega) (by simp;omega) (fun _=>by simp) (fun _=>by simp) fun u v' h3 m'=>hK2 (v',_) _ _ rfl rfl (by rw[eZ];exact m')
 ·rintro⟨v,W⟩ h1 m
  simp
  exact hK _ _ ⟨m.old,m.fresh⟩
theorem tR{g:Gr}{vg:Value}{h:Heap}(hg:SlRd (vw h) vg g)(hs:g.length≤1000):
  aB Tryz.prog N.cj #[vg] h (fun v h'=>(vw h).le (vw h')∧SlRd (fresh h h') v (iW g)):=by
 refine ao (args:=[vg]) follows F.cj E.cj (Nat.le_of_ble_eq_true (by kernel_rfl)) fun K hK=>?_
 simp[L.cj]
 refine af (by kernel_rfl) (BN hg (by omega)) ?_
 rintro vp h1 ⟨hle1,hp⟩
 have hp:=hp.mono (gz _ _)
 have hg:=hg.mono hle1
 have hlp:=sT (g:=g)
 have hup : ∀k,(up (fun a l=>l++kc g (dH g) a) k []).length≤k*g.length:=fun k=>by
  have:=ve (f:=fun a (l:List (Int × Int))=>l++kc g (dH g) a) (m:=g.length) (fun k x=>by
   have h1:(kc g (dH g) k).length≤(cS g k).length:=fH _
   have h2:=qN (g:=g) (a:=k)
   simp only[List.length_append];omega) k []
  simpa using this
 refine bM [0,3,4,5] (fun(v:Value) k=>[vg,vp,v,.int .i64 k]) (fun v k h2=>∃W,Mine nothing h1 h2 W T.kH v (up (fun a l=>l++kc g (dH g) a) k [])) g.length (.slice none 0 0)
  rfl (by omega) rfl ⟨_,Mine.start (fun _ _ h=>by cases h)⟩ (fun _ _=>rfl) (fun v k h1 hk m=>by simp[hg.len]) ?_ ?_
 ·rintro v a h2 hlta ⟨W,m⟩ K2 hK2
  simp
  refine af (by kernel_rfl) (FH (hg.mono m.old) (by omega)) ?_
  rintro r h3 ⟨hle3,hr⟩
  have hr3:=hr.mono (eT W _ _)
  have br:=hr.bound
  have m3:=m.ext hle3
  refine bM [0,3,4,5,6,7] (fun(v:Value) i=>[vg,vp,v,.int .i64 a,r,.int .i64 i]) (fun v i h4=>Mine nothing h1 h4 (grow W h2 h3) T.kH v (up (fun a l=>l++kc g (dH g) a) a []++sift (rU g (dH g) a) (fun i=>((a:Int),nth (cS g a) i)) i)) (cS g a).length v
   rfl (by omega) rfl (by simpa using m3) (fun _ _=>rfl) (fun v k h1 hk m=>by simp[hr.len]) ?_ ?_
  ·intro v i h4 hlti m4 K3 hK3
   obtain⟨e0,e1⟩:=CG hlti
   have hp4:=hp.mono m4.old
   obtain⟨rp,hrp⟩:=hp4.rows
   obtain⟨cp,rp'⟩:=hrp (nth (cS g a) i).toNat (by omega)
   have hr4:=hr3.mono m4.wle
   simp(disch:=omega)[hr.len,hr4.idx1 rfl,hr4.int (View.le_refl _),hp4.idx1 rfl,cp _ (View.le_refl _),rp'.len,dZ,-Bool.and_eq_true,-Bool.and_eq_false_imp]
   have hl1:=hup a
   have hl2:=fH (p:=rU g (dH g) a) (x:=fun i=>((a:Int),nth (cS g a) i)) i
   have hl3:=qN (g:=g) (a:=a)
   have hl4:a*g.length≤1000*g.length:=Nat.mul_le_mul_right _ (by omega)
   refine⟨fun he=>?_,fun he=>hK3 v _ _ rfl rfl (by rw[gj (show rU g (dH g) a i=false from he)];exact m4)⟩
   refine aS (z:=.agg #[.int .i64 0,.int .i64 0]) (places:=[(0,1),(1,1)]) (vs:=[(0,.int .i64 a),(1,.int .i64 (nth (cS g a) i))]) (cs:=#[.int .i64 a,.int .i64 (nth (cS g a) i)]) (by kernel_rfl) (by kernel_rfl) (by simp) rfl ?_
   refine m4.push (d:=((a:Int),nth (cS g a) i)) El.iY (by simp<;>rfl) (sD.2 ⟨rfl,⟨by omega,by omega⟩,by omega,by omega⟩) (by simp;omega) (by simp;omega) (fun _=>by simp) (fun _=>by simp) fun u v' h3 m'=>hK3 v' _ _ rfl rfl (by rw[ib (show rU g (dH g) a i=true from he),←List.append_assoc];exact m')
  ·intro v h4 m4
   simp
   exact hK2 v _ _ rfl rfl ⟨_,m4⟩
 ·rintro v h2 ⟨W,m⟩
  simp
  exact hK _ _ ⟨View.le_trans hle1 m.old,m.fresh.mono (ma hle1)⟩
def ofS (l:List BlkD):Gr:=rows (fun a=>sift (fun b=>(nth l a).term.to.contains (b:Int)) (fun b=>(b:Int)) l.length) l.length
theorem xv{l:List BlkD}:(ofS l).length=l.length:=by simp[ofS]
theorem EN{l:List BlkD}{a:Int}:db (ofS l) a b=db (ofG l) a b:=by
 rw[Bool.eq_iff_iff,bY,dX,xv]
 constructor
 ·rintro⟨h,m⟩
  refine⟨h,?_⟩
  rw[ofS,dm (by omega),jV]at m
  obtain⟨i,hi,hc,e⟩:=m
  rw[←e];simpa using hc
 ·rintro⟨h,m⟩
  refine⟨h,?_⟩
  rw[ofS,dm (by omega),jV]
  exact⟨b.toNat,by omega,by rw[Int.toNat_of_nonneg h.2.2.1];simpa using m,Int.toNat_of_nonneg h.2.2.1⟩
theorem wK{t:List Int}:vh (fun i=>decide (nth t i=b)) t.length=t.contains b:=by
 rw[Bool.eq_iff_iff,Gl,List.contains_iff_mem]
 constructor
 ·rintro⟨i,hi,h⟩
  rw[decide_eq_true_eq]at h
  rw[←h];exact bw hi
 ·intro h
  obtain⟨i,hi,e⟩:=List.getElem_of_mem h
  exact⟨i,hi,by rw[ak hi,e];simp⟩
theorem Ez{l:List BlkD}{v:Value}{p:Int}{h:Heap}(hv:SlRd (vw h) v l)(hl:l.length≤10000)(hs : ∀i,i<l.length→(nth l i).term.to.length≤10000):
  aB Tryz.prog N.eU #[.agg #[.int .i64 p,v]] h (fun u h'=>(vw h).le (vw h')∧SlRd (fresh h h') u (ofS l)):=by
 refine ao (args:=[.agg #[.int .i64 p,v]]) follows F.eU E.eU (Nat.le_of_ble_eq_true (by kernel_rfl)) fun K hK=>?_
 dsimp only[L.eU]
 refine aa fun z hz=>?_
 simp
 refine ln (v:=.agg #[.int .i64 p,v]) (by simp) ?_
 have hle1:=bD h (.cells (Value.agg #[.int .i64 p,v]).cells T.aD)
 have hc1:an (vw (h.push (.cells (Value.agg #[.int .i64 p,v]).cells T.aD))) ⟨h.size,1,none⟩=some v:=bP (c:=#[.int .i64 p,v]) (T:=T.aD) (fz:=(0,0)) (by simp[vw,Value.cells]) rfl
 generalize h.push (.cells (Value.agg #[.int .i64 p,v]).cells T.aD)=h1 at hle1 hc1
 have hv1:=hv.mono hle1
 rw[hz];clear hz z
 refine aa fun z hz=>?_
 simp
 rw[hz];clear hz z
 refine aa fun z hz=>?_
 simp
 refine bM [1,3,4] (fun(s:Value × View) k=>[.pointer (some ⟨h.size,0,none⟩),s.1,.int .i64 k]) (fun s k h2=>Mine nothing h1 h2 s.2 T.bc s.1 (rows (fun a=>sift (fun b=>(nth l a).term.to.contains (b:Int)) (fun b=>(b:Int)) l.length) k)) l.length (.slice none 0 0,nothing)
  rfl (by omega) rfl (Mine.start (fun _ _ h=>by cases h)) (fun _ _=>rfl) (fun s k h2 hk m=>by simp[ae m.old hc1,hv1.len]) ?_ ?_
 ·rintro⟨o,W⟩ a h2 hlta m K2 hK2
  obtain⟨tv,ct,rto⟩:=sF hv1 hlta
  have ht : ∀H:View,(vw h1).le H→an H ((((slA v).add (a*6)).add 2).add 2)=some tv:=fun H hH=>ae hH ct
  have hal:=hs a hlta
  simp
  refine bM [1,3,4,5,6] (fun(r:Value) b=>[.pointer (some ⟨h.size,0,none⟩),o,.int .i64 a,r,.int .i64 b]) (fun r b h3=>Mine nothing h2 h3 nothing T.int r (sift (fun b=>(nth l a).term.to.contains (b:Int)) (fun b=>(b:Int)) b)) l.length (.slice none 0 0)
   rfl (by omega) rfl (Mine.start (fun _ _ h=>by cases h)) (fun _ _=>rfl) (fun r k h3 hk m2=>by simp[ae (View.le_trans m.old m2.old) hc1,hv1.len]) ?_ ?_
  ·rintro r b h3 hltb m2 K3 hK3
   have hle3:=View.le_trans m.old m2.old
   have hc3:=ae hle3 hc1
   have hv3:=hv1.mono hle3
   have rto3:=rto.mono hle3
   have ht3:=ht (vw h3) hle3
   simp
   refine bM [1,3,4,5,6,7,8] (fun(_:Unit) i=>[.pointer (some ⟨h.size,0,none⟩),o,.int .i64 a,r,.int .i64 b,.bool (vh (fun i=>decide (nth (nth l a).term.to i=b)) i),.int .i64 i]) (fun _ i h4=>h4=h3) (nth l a).term.to.length ()
    rfl (by omega) rfl rfl (fun _ _=>rfl) (fun r k h4 hk e=>by
     subst e
     simp(disch:=omega)[hc3,hv3.idxn (N:=6) rfl]
     simp only[DD,Option.bind_some,Bi,ht3,rto3.len]) ?_ ?_
   ·rintro _ i h4 hi rfl K4 hK4
    simp(disch:=omega)[hc3,hv3.idxn (N:=6) rfl]
    simp(disch:=omega) only[DD,Option.bind_some,Bi,ht3,rto3.idx1 rfl,rto3.int (View.le_refl _)]
    simp(disch:=omega)[rto3.int (View.le_refl _)]
    exact hK4 () _ _ rfl (by rw[zO];rfl) rfl
   ·rintro _ h4 rfl
    rw[wK]
    simp[dZ]
    have:=fH (p:=fun b=>(nth l a).term.to.contains (b:Int)) (x:=fun b=>(b:Int)) b
    refine⟨fun he=>?_,fun he=>hK3 r _ _ rfl rfl (by rw[gj (by simpa using he)];exact m2)⟩
    refine m2.push El.bc (by simp<;>rfl) (mS (by omega) (by omega)) (by omega) (by omega) (fun _=>by simp) (fun _=>by simp) fun u v' h3 m'=>hK3 v' _ _ rfl rfl (by rw[ib (by simpa using he)];exact m')
  ·intro r h3 m2
   simp
   have mm:=m.ext m2.old
   refine mm.push El.cL (by simp<;>rfl) (gh.2 (m2.fresh.mono (eT _ _ _))) (by simp;omega) (by simp;omega) (fun _=>by simp) (fun _=>by simp) fun u v' h4 m'=>hK2 (v',_) _ _ rfl rfl (by rw[eZ];exact m')
 ·rintro⟨o,W⟩ h2 m
  rw[hz]
  simp
  exact hK _ _ ⟨View.le_trans hle1 m.old,m.fresh.mono (ma hle1)⟩
theorem D2{l:List Int}(hs:l.Pairwise (· < ·))(h:1<l.length): ∃x y,x∈l∧y∈l∧x≠y:=by
 match l,hs,h with
 | a::b::l,hs,_=>
  have:=(List.pairwise_cons.1 hs).1 b (by simp)
  exact⟨a,b,by simp,by simp,by omega⟩
section
variable {f:ah} {ed:List (Int × Int)}
theorem xY(w:dS f ed){x:Nat}{u:Int}(hx:x<f.blocks.length)(h:db (ofG (onE ed f).blocks) x u=true): ∃t,db (ofG f.blocks) x t=true∧u=toE ed f.blocks.length x t:=by
 obtain⟨h1,h2⟩:=bY.1 h
 rw[Int.toNat_natCast,qg hx]at h2
 obtain⟨t,ht,e⟩:=List.mem_map.1 h2
 have:=w.hto x hx t ht
 exact⟨t,bY.2 ⟨by omega,by rw[Int.toNat_natCast];exact ht⟩,e.symm⟩
theorem EO(w:dS f ed){x:Nat}(hx:x<f.blocks.length)(h:1<(cS (ofG (onE ed f).blocks) x).length):1<(cS (ofG f.blocks) x).length:=by
 obtain⟨u,v,hu,hv,hne⟩:=D2 hZ h
 rw[dO]at hu hv
 obtain⟨t1,e1,q1⟩:=xY w hx hu
 obtain⟨t2,e2,q2⟩:=xY w hx hv
 exact D8 hZ (dO.2 e1) (dO.2 e2) (by rintro rfl;exact hne (q1.trans q2.symm))
theorem qU(w:dS f ed){y:Nat}{u:Int}(hy:y<f.blocks.length)(h:db (ofG (onE ed f).blocks) u y=true):(u<f.blocks.length∧db (ofG f.blocks) u y=true∧(u,(y:Int))∉ed)∨∃k,k<ed.length∧u=((f.blocks.length+k:Nat):Int)∧(nth ed k).2=y∧db (ofG f.blocks) (nth ed k).1 y=true:=by
 have hr:=(bY.1 h).1
 rw[df]at hr
 obtain⟨z,rfl⟩:=Int.eq_ofNat_of_zero_le hr.1
 rcases Nat.lt_or_ge z f.blocks.length with l | l
 ·obtain⟨h1,h2⟩:=(lW w l hy).1 h
  exact .inl ⟨by omega,h1,h2⟩
 ·obtain⟨k,rfl⟩ : ∃k,z=f.blocks.length+k:=⟨z-f.blocks.length,by omega⟩
  have hk:k<ed.length:=by omega
  have e2:=(kv w hk).1 h
  have h1:=w.hed _ (bw hk)
  rw[e2]at h1
  exact .inr ⟨k,hk,rfl,e2,h1⟩
theorem Cl(w:dS f ed){y:Nat}(hy:y<f.blocks.length)(h:1<(nth (dH (ofG (onE ed f).blocks)) y).length):1<(nth (dH (ofG f.blocks)) y).length:=by
 have hy':y<(ofG (onE ed f).blocks).length:=by rw[dN,df];omega
 obtain⟨u,v,hu,hv,hne⟩:=D2 (lk hy') h
 rw[←Int.toNat_natCast y,my (by omega)]at hu hv
 have key : ∀{a b:Int},db (ofG f.blocks) a y=true→db (ofG f.blocks) b y=true→a≠b→1<(nth (dH (ofG f.blocks)) y).length:=fun{a b} ha hb hab=>by
  have hy2:y<(ofG f.blocks).length:=by rw[dN];exact hy
  refine D8 (lk hy2) (x:=a) (y:=b) ?_ ?_ hab
  ·rw[←Int.toNat_natCast y,my (by omega)];exact ha
  ·rw[←Int.toNat_natCast y,my (by omega)];exact hb
 rcases qU w hy hu with⟨a1,a2,a3⟩ | ⟨k,hk,rfl,a1,a2⟩
 ·rcases qU w hy hv with⟨b1,b2,b3⟩ | ⟨j,hj,rfl,b1,b2⟩
  ·exact key a2 b2 hne
  ·refine key a2 b2 fun e=>a3 ?_
   have:(u,(y:Int))=nth ed j:=by rw[←b1,e]
   rw[this];exact bw hj
 ·rcases qU w hy hv with⟨b1,b2,b3⟩ | ⟨j,hj,rfl,b1,b2⟩
  ·refine key a2 b2 fun e=>b3 ?_
   have:(v,(y:Int))=nth ed k:=by rw[←a1,←e]
   rw[this];exact bw hk
  ·refine key a2 b2 fun e=>hne ?_
   have he:nth ed k=nth ed j:=by
    have : ∀p q:Int × Int,p.1=q.1→p.2=q.2→p=q:=fun p q h1 h2=>by cases p;cases q;simp_all
    exact this _ _ e (a1.trans b1.symm)
   rw[ak hk,ak hj]at he
   have:=(List.getElem_inj w.hnd).1 he
   subst this;rfl
theorem wz(w:dS f (fU f)):fU (cT f)=[]:=by
 refine List.eq_nil_iff_forall_not_mem.2 fun e he=>?_
 obtain⟨h1,h2,h3⟩:=lu.1 (show e∈gE (ofG (onE (fU f) f).blocks) from he)
 have hr:=(bY.1 h1).1
 rw[df]at hr
 obtain⟨x,hx⟩:=Int.eq_ofNat_of_zero_le hr.1
 obtain⟨y,hy⟩:=Int.eq_ofNat_of_zero_le hr.2.2.1
 rw[hx,hy]at h1
 rw[hx]at h2
 rw[hy,Int.toNat_natCast]at h3
 rcases Nat.lt_or_ge x f.blocks.length with lx | lx
 ·rcases Nat.lt_or_ge y f.blocks.length with ly | ly
  ·obtain⟨q1,q2⟩:=(lW w lx ly).1 h1
   refine q2 (lu.2 ⟨q1,EO w lx h2,?_⟩)
   rw[Int.toNat_natCast]
   exact Cl w ly h3
  ·obtain⟨k,rfl⟩ : ∃k,y=f.blocks.length+k:=⟨y-f.blocks.length,by omega⟩
   have hk:k<(fU f).length:=by omega
   have hl:f.blocks.length+k<(ofG (onE (fU f) f).blocks).length:=by rw[dN,df];omega
   refine EK (lk hl) (z:=(nth (fU f) k).1) (fun a ha=>?_) h3
   rw[←Int.toNat_natCast (f.blocks.length+k),my (by omega)]at ha
   have har:=(bY.1 ha).1
   rw[df]at har
   obtain⟨z,rfl⟩:=Int.eq_ofNat_of_zero_le har.1
   rcases Nat.lt_or_ge z f.blocks.length with lz | lz
   ·exact((sO w lz hk).1 ha).symm
   ·obtain⟨j,rfl⟩ : ∃j,z=f.blocks.length+j:=⟨z-f.blocks.length,by omega⟩
    have hj:j<(fU f).length:=by omega
    have:=(kv w hj).1 ha
    have:=w.rng hj
    omega
 ·obtain⟨k,rfl⟩ : ∃k,x=f.blocks.length+k:=⟨x-f.blocks.length,by omega⟩
  have hk:k<(fU f).length:=by omega
  refine EK hZ (z:=(nth (fU f) k).2) (fun b hb=>?_) h2
  rw[dO]at hb
  exact((kv w hk).1 hb).symm
theorem FN(mb:iB f):onE [] f=f:=by
 unfold onE
 rw[List.map_nil,List.append_nil]
 have:rows (fun a=>blE [] f.blocks.length a (nth f.blocks a)) f.blocks.length=f.blocks:=by
  refine List.ext_getElem (by simp) fun a h1 h2=>?_
  rw[fI,←ak h2]
  have e1:(nth f.blocks a).phis.map (phE [] f.blocks.length a)=(nth f.blocks a).phis:=by
   refine List.ext_getElem (by simp) fun i g1 g2=>?_
   rw[List.getElem_map,←ak g2]
   have hp:=(mb.phi a i h2 g2).2.1
   generalize nth (nth f.blocks a).phis i=p at hp
   unfold phE
   have e2:p.ins.map (frmE [] f.blocks.length a)=p.ins:=by
    refine List.map_id'' (fun x=>?_) _
    unfold frmE;rw[tT];rfl
   rw[e2]
   have hr:iF p.ins:=by
    have:(p.ins.map InD.frm).Pairwise (· < ·):=by rw[hp];exact nk
    exact(List.pairwise_map.1 this).imp fun h=>Int.le_of_lt h
   have:=pW (.refl _) hr (by rw[hp];exact nk.imp fun h=>Int.ne_of_lt h)
   rw[←this]
  have e2:tmE [] f.blocks.length a (nth f.blocks a).term=(nth f.blocks a).term:=by
   unfold tmE
   have:(nth f.blocks a).term.to.map (toE [] f.blocks.length a)=(nth f.blocks a).term.to:=List.map_id'' (fun t=>by unfold toE;rw[tT];rfl) _
   rw[this]
  unfold blE
  rw[e1,e2]
 rw[this]
theorem tO(mb:iB f)(h:fU f=[]):cT f=f:=by unfold cT;rw[h];exact FN mb
theorem wY {f:ah} : ∀{n:Nat},cntT f n+f.blocks.length=jc f n+n
 | 0=>by show 0+_=f.blocks.length+0;omega
 | n+1=>by
  show cntT f n+(_+_+1)+_=jc f n+_+_+(n+1)
  have:=wY (f:=f) (n:=n)
  omega
theorem vy(mb:iB f)(h:gG f=0):iB (cT f):=by
 unfold gG at h
 rw[zN mb,if_neg (by simp)]at h
 have hm:nr f=false:=by
  cases hq:nr f with
  | false=>rfl
  | true=>rw[hq]at h;cases h
 unfold nr at hm
 simp only[Bool.or_eq_false_iff,decide_eq_false_iff_not]at hm
 have hc:=wY (f:=f) (n:=f.blocks.length)
 exact(xc mb).may mb (by omega) (by omega)
theorem Gp(mb:iB f)(h:gG f=0):gG (cT f)=0:=by
 have mb2:=vy mb h
 unfold gG
 rw[zN mb2,if_neg (by simp)]
 have hc:=wY (f:=cT f) (n:=(cT f).blocks.length)
 have hn:=mb2.cnt
 have hb:=mb2.blocks
 have:nr (cT f)=false:=by
  unfold nr
  rw[wz (xc mb)]
  rw[decide_eq_false (by simp;omega),decide_eq_false (by simp;omega)];rfl
 rw[this];rfl
theorem Ex(w:dS f ed)(h:vX f):vX (onE ed f):=by
 intro b hb i hi
 rw[df]at hb ⊢
 rcases Nat.lt_or_ge b f.blocks.length with l | l
 ·rw[jR l,List.length_map]at hi
  rw[qq l hi]
  obtain⟨k1,k2,k3⟩:=h b l i hi
  generalize nth (nth f.blocks b).phis i=p at k1 k2 k3
  have hpm:=lT (l:=p.ins.map (frmE ed f.blocks.length b))
  refine⟨?_,?_,fun x hx=>?_⟩
  ·show(srt _).length≤_
   rw[hpm.length_eq,List.length_map];exact k1
  ·exact(hpm.map InD.frm).nodup_iff.2 (pH k2 k3)
  ·obtain⟨y,hy,rfl⟩:=List.mem_map.1 (hpm.mem_iff.1 hx)
   have:=k3 y hy
   show 0≤(putE _ _ _ _).getD _∧(putE _ _ _ _).getD _<_
   cases hp:putE ed f.blocks.length y.frm b with
   | none=>rw[Option.getD_none];omega
   | some q=>have:=jm hp;rw[Option.getD_some];omega
 ·obtain⟨k,rfl⟩ : ∃k,b=f.blocks.length+k:=⟨b-f.blocks.length,by omega⟩
  rw[jM (by omega)]at hi
  exact absurd hi (Nat.not_lt_zero _)
end
theorem eF{a b:ByteArray}(h:a.size+b.size≤9223372036854775807):Bn.ev .cat (.string a) (.string b)=some (.string (a++b)):=by simp[Bn.ev,vS,h]
theorem HU{a b:ByteArray}{n:Bool}:Bn.ev (.eqS n) (.string a) (.string b)=some (.bool ((a.toList == b.toList) != n)):=rfl
theorem zL{P:Program}{t e d:TypeId}{h:Heap}{K:Value→Heap→Prop}{x:Operand}{b c m:Nat}{xs:List Int}{fz:Nat × Nat}(hs:P.underlying t=some (.slice e))(he:P.underlying e=some (.int .u8))(hd:P.underlying d=some .string)(hx:asg us x = .slice (some ⟨b,0,none⟩) m c)(hb:h[b]? = some (.cells (xs.map (Value.int .u8)).toArray e fz))(hm:xs.length=m)(hk:K (.string (strOfNums xs)) h):@Lft.step po P (.convert t d x) ty us h K:=by
 refine dF (di fun w hw=>?_)
 subst hw
 refine⟨_,w,?_,Same.refl _,hk⟩
 simp only[bK,execOp,hx]
 have:=run_convert_bytes_arg (P:=P) w t e hs he b 0 m c xs hm (fun i hi=>by
  have hi':i<xs.length:=by omega
  simp[World.cell?,hb,List.getD,List.getElem?_eq_getElem hi']) d hd
 simp[this]
theorem yD{P:Program}{t e:TypeId}{h:Heap}{K:Value→Heap→Prop}{x:Operand}{n:Int}(hT:en P t e 1 1 (.int .u8 0))(hx:asg us x = .int .u8 n)(hk:K (.slice (some ⟨h.size,0,none⟩) 1 1) (h.push (.cells (([n].map (Value.int .u8)).toArray) e))):@Lft.step po P (.buildSlice t 1 #[(0,x)]) ty us h K:=by
 obtain⟨B,h1,h2⟩:=uz [.int .u8 n] 0 ((Array.range (1*1)).map ((Value.int .u8 0).cells[· % (Value.int .u8 0).cells.size]!)) (fun v hv=>by rw[List.mem_singleton.1 hv];rfl) (by simp)
 have hB:B = #[.int .u8 n]:=by rw[←Array.toList_inj,h2];simp
 subst hB
 exact qj (size:=1) (vs:=[(0,.int .u8 n)]) hT (by omega) (by simp[hx]) h1 hk
def digB (u:Int):Int:=if u.tmod 10<0 then-u.tmod 10 else u.tmod 10
def digC (u:Int):ByteArray:=strOfNums [IntKind.u8.wrap (48+digB u)]
def digL:Nat→Int→ByteArray→ByteArray
 | 0,_,s=>s
 | n+1,u,s=>if 0<u.tdiv 10 then digL n (u.tdiv 10) (digC u++s) else digC u++s
def aL (n:Int):ByteArray:=(if n<0 then⟨#[45]⟩++digL 20 (IntKind.i64.wrap (-n)) ⟨#[]⟩ else digL 20 n ⟨#[]⟩)++⟨#[32]⟩
theorem lM{u:Int}:(digC u).size=1:=strOfNums_size _
theorem nZ : ∀{n:Nat} {u:Int} {s:ByteArray},(digL n u s).size≤s.size+n
 | 0,_,_=>Nat.le_refl _
 | n+1,u,s=>by
  unfold digL
  split
  ·have:=nZ (n:=n) (u:=u.tdiv 10) (s:=digC u++s)
   rw[ByteArray.size_append,lM]at this;omega
  ·rw[ByteArray.size_append,lM];omega
theorem bs{n:Int}:(aL n).size≤22:=by
 unfold aL
 have h1:=nZ (n:=20) (u:=IntKind.i64.wrap (-n)) (s:=⟨#[]⟩)
 have h2:=nZ (n:=20) (u:=n) (s:=⟨#[]⟩)
 have e:(⟨#[]⟩:ByteArray).size=0:=rfl
 have e1:(⟨#[45]⟩:ByteArray).size=1:=rfl
 have e2:(⟨#[32]⟩:ByteArray).size=1:=rfl
 split
 ·rw[ByteArray.size_append,ByteArray.size_append];omega
 ·rw[ByteArray.size_append];omega
def tens:Nat→Int
 | 0=>1
 | n+1=>10*tens n
theorem yp : ∀{n:Nat},1≤tens n
 | 0=>Int.le_refl _
 | n+1=>by have:=yp (n:=n);unfold tens;omega
theorem se{n u0:Int}{h:Heap}{Q:Post}{v2:Value}(hu:I64 u0)(hQ : ∀h' u f,(vw h).le (vw h')→Q .normal [(0,.int .i64 n),(2,v2),(3,.string (digL 20 u0 ⟨#[]⟩)),(4,.int .i64 u),(5,.bool f)] h'):
  LC.wp Tryz.prog L.dg.l1.loop (dV 0 Q) [(0,.int .i64 n),(2,v2),(3,.string ⟨#[]⟩),(4,.int .i64 u0),(5,.bool true)] h:=by
 obtain⟨R,hR⟩ : ∃R,R=digL 20 u0 ⟨#[]⟩:=⟨_,rfl⟩
 rw[←hR]at hQ
 refine gq [0,2,3,4,5] (fun m ρ h'=>∃(u:Int) (s:ByteArray) (f:Bool),m≤20∧ρ=[(0,.int .i64 n),(2,v2),(3,.string s),(4,.int .i64 u),(5,.bool f)]∧I64 u∧(vw h).le (vw h')∧s.size≤20-m∧
  ((f=true∨0<u)→1≤m∧digL m u s=R∧u<tens m)∧(¬(f=true∨0<u)→s=R)) 20 ⟨u0,_,true,by omega,rfl,hu,View.le_refl _,by show(0:Nat)≤_;omega,fun _=>⟨by omega,hR.symm,?_⟩,fun h=>absurd (.inl rfl) h⟩ ?_
 ·have e:tens 20=100000000000000000000:=by decide
  rw[e];obtain⟨_,h2⟩:=hu;omega
 rintro m ρ h1 ⟨u,s,f,hm,rfl,hu,hle,hs,hA,hB⟩ K hK
 dsimp only[L.dg.l1]
 by_cases hc:f=true∨0<u
 ·obtain⟨hm1,hd,ht⟩:=hA hc
  obtain⟨k,rfl⟩ : ∃k,m=k+1:=⟨m-1,by omega⟩
  have hcb:(f||decide (0<u))=true:=by simpa using hc
  have t1:=yp (n:=k)
  have b1:=Int.lt_tmod_of_pos u (show(0:Int)<10 by omega)
  have b2:=Int.tmod_lt_of_pos u (show(0:Int)<10 by omega)
  have b3:I64 (u.tdiv 10)∧(0<u.tdiv 10→u.tdiv 10<tens k):=by
   have e:=Int.mul_tdiv_add_tmod u 10
   have ht:u<10*tens k:=ht
   obtain⟨g1,g2⟩:=hu
   exact⟨⟨by omega,by omega⟩,fun h=>by have:=Int.tmod_nonneg 10 (show 0≤u by omega);omega⟩
  have hw:IntKind.i64.wrap (u.tdiv 10)=u.tdiv 10:=bN b3.1.1 b3.1.2
  have step : ∀(h2:Heap) (x y z:Value),(vw h1).le (vw h2)→K [(0,.int .i64 n),(2,v2),(3,.string (digC u++s)),(4,.int .i64 (u.tdiv 10)),(5,.bool false),(6,x),(26,y),(27,z)] h2:=fun h2 x y z hle2=>by
   refine hK k _ _ (by omega) ⟨u.tdiv 10,digC u++s,false,by omega,rfl,b3.1,View.le_trans hle hle2,by rw[ByteArray.size_append,lM];omega,fun h=>?_,fun h=>?_⟩
   ·have h:0<u.tdiv 10:=by simpa using h
    have hd:(if 0<u.tdiv 10 then digL k (u.tdiv 10) (digC u++s) else digC u++s)=R:=hd
    rw[if_pos h]at hd
    refine⟨?_,hd,b3.2 h⟩
    cases k with
    | zero=>have:=b3.2 h;simp[tens]at this;omega
    | succ k=>omega
   ·have h:¬0<u.tdiv 10:=by simpa using h
    have hd:(if 0<u.tdiv 10 then digL k (u.tdiv 10) (digC u++s) else digC u++s)=R:=hd
    rw[if_neg h]at hd;exact hd
  simp(disch:=omega)[hcb,hw]
  refine⟨fun h0=>?_,fun h0=>?_⟩
  ·have e:digC u=strOfNums [IntKind.u8.wrap (48+-u.tmod 10)]:=by unfold digC digB;rw[if_pos h0]
   refine yD (e:=T.uint8) El.ld rfl ?_
   refine zL (e:=T.uint8) U.ld U.uint8 (by kernel_rfl) rfl (Array.getElem?_push_size ..) rfl ?_
   rw[←e]
   simp(disch:=omega)[eF (a:=digC u) (b:=s) (by rw[lM];omega),hw]
   exact step _ _ _ _ (bD _ _)
  ·have e:digC u=strOfNums [IntKind.u8.wrap (48+u.tmod 10)]:=by unfold digC digB;rw[if_neg (by omega)]
   refine yD (e:=T.uint8) El.ld rfl ?_
   refine zL (e:=T.uint8) U.ld U.uint8 (by kernel_rfl) rfl (Array.getElem?_push_size ..) rfl ?_
   rw[←e]
   simp(disch:=omega)[eF (a:=digC u) (b:=s) (by rw[lM];omega),hw]
   exact step _ _ _ _ (bD _ _)
 ·have hcb:(f||decide (0<u))=false:=by simpa using hc
  obtain rfl:=hB hc
  simp[hcb]
  exact hQ _ _ _ hle
theorem dK{n:Int}{h:Heap}(hn:I64 n):aB Tryz.prog N.dg #[.int .i64 n] h (fun u h'=>u = .string (aL n)∧(vw h).le (vw h')):=by
 refine ao (args:=[.int .i64 n]) follows F.dg E.dg (Nat.le_of_ble_eq_true (by kernel_rfl)) fun Kc hK=>?_
 dsimp only[L.dg]
 simp
 have q0 : ∀{u:Int},(digL 20 u ⟨#[]⟩).size≤20:=fun{u}=>by
  have:=nZ (n:=20) (u:=u) (s:=⟨#[]⟩)
  have e:(⟨#[]⟩:ByteArray).size=0:=rfl
  omega
 refine⟨fun h0=>?_,fun h0=>?_⟩
 ·have hwr:I64 (IntKind.i64.wrap (-n)):=by
   rw[IntKind.wrap_i64]
   unfold I64
   omega
  refine se hwr fun h' u f hle=>?_
  have e:aL n=⟨#[45]⟩++digL 20 (IntKind.i64.wrap (-n)) ⟨#[]⟩++⟨#[32]⟩:=by unfold aL;rw[if_pos h0]
  have q1:=q0 (u:=IntKind.i64.wrap (-n))
  have e1:(⟨#[45]⟩:ByteArray).size=1:=rfl
  have e2:(⟨#[32]⟩:ByteArray).size=1:=rfl
  have e3:=eF (a:=⟨#[45]⟩) (b:=digL 20 (IntKind.i64.wrap (-n)) ⟨#[]⟩) (by omega)
  have e4:=eF (a:=⟨#[45]⟩++digL 20 (IntKind.i64.wrap (-n)) ⟨#[]⟩) (b:=⟨#[32]⟩) (by rw[ByteArray.size_append];omega)
  simp[h0,e3,e4]
  exact hK _ _ ⟨by rw[e],hle⟩
 ·refine se hn fun h' u f hle=>?_
  have:¬n<0:=by omega
  have e:aL n=digL 20 n ⟨#[]⟩++⟨#[32]⟩:=by unfold aL;rw[if_neg this]
  have q1:=q0 (u:=n)
  have e2:(⟨#[32]⟩:ByteArray).size=1:=rfl
  have e4:=eF (a:=digL 20 n ⟨#[]⟩) (b:=⟨#[32]⟩) (by omega)
  simp[this,e4]
  exact hK _ _ ⟨by rw[e],hle⟩
def upTo {α:Type} (f:ByteArray→α→ByteArray) (s:ByteArray) (l:List α) (k:Nat):ByteArray:=(l.take k).foldl f s
theorem BX{f:ByteArray→α→ByteArray}{s:ByteArray}{l:List α}:upTo f s l 0=s:=rfl
section
variable {α:Type} [Inhabited α]
theorem ko{f:ByteArray→α→ByteArray}{s:ByteArray}{l:List α}{k:Nat}(h:k<l.length):upTo f s l (k+1)=f (upTo f s l k) (nth l k):=by
 unfold upTo
 rw[List.take_add_one,List.foldl_append,List.getElem?_eq_getElem h,ak h];rfl
theorem uV {f:ByteArray→α→ByteArray} {s:ByteArray} {l:List α} {c:Nat} (hc : ∀s i,i<l.length→(f s (nth l i)).size≤s.size+c) : ∀{k:Nat},k≤l.length→(upTo f s l k).size≤s.size+c*k
 | 0,_=>by rw[BX];omega
 | k+1,h=>by
  rw[ko (by omega)]
  have h1:=uV (f:=f) (s:=s) hc (k:=k) (by omega)
  have h2:=hc (upTo f s l k) k (by omega)
  rw[Nat.mul_succ];omega
theorem oB{f:ByteArray→α→ByteArray}{s:ByteArray}{l:List α}{c N:Nat}(hc : ∀s i,i<l.length→(f s (nth l i)).size≤s.size+c)(hN:l.length≤N){k:Nat}(hk:k≤l.length):(upTo f s l k).size≤s.size+c*N:=by
 have h1:=uV (s:=s) hc hk
 have h2:c*k≤c*N:=Nat.mul_le_mul_left c (by omega)
 omega
end
def rowP (l:List Int):ByteArray:=upTo (fun s n=>s++aL n) ⟨#[91]⟩ l l.length++⟨#[93]⟩
def inP (s:ByteArray) (x:InD):ByteArray:=s++aL x.frm++⟨#[58]⟩++aL x.val
def phiP (s:ByteArray) (p:PhiD):ByteArray:=upTo inP (s++⟨#[112,104,105,32]⟩++aL p.dst) p.ins p.ins.length
def insP (s:ByteArray) (x:InsD):ByteArray:=s++⟨#[59]⟩++aL x.op++aL x.dst++aL x.two++rowP x.args++aL x.imm.v
def AP (s:ByteArray) (t:dp):ByteArray:=s++⟨#[124]⟩++aL t.kind++rowP t.args++rowP t.to++aL t.imm.v
def blkP (s:ByteArray) (b:BlkD):ByteArray:=AP (upTo insP (upTo phiP (s++⟨#[10]⟩) b.phis b.phis.length) b.ins b.ins.length) b.term
def Au (f:ah):ByteArray:=upTo blkP (aL f.params) f.blocks f.blocks.length
theorem rA{l:List Int}(h:l.length≤10000){k:Nat}(hk:k≤l.length):(upTo (fun s n=>s++aL n) ⟨#[91]⟩ l k).size≤220001:=by
 have h1:=oB (f:=fun s n=>s++aL n) (s:=⟨#[91]⟩) (l:=l) (c:=22) (N:=10000) (fun s i _=>by rw[ByteArray.size_append];have:=bs (n:=nth l i);omega) h hk
 have e:(⟨#[91]⟩:ByteArray).size=1:=rfl
 omega
theorem kr{l:List Int}(h:l.length≤10000):(rowP l).size≤220002:=by
 unfold rowP
 have:=rA h (Nat.le_refl _)
 have e:(⟨#[93]⟩:ByteArray).size=1:=rfl
 rw[ByteArray.size_append];omega
theorem Ee{s:ByteArray}{x:InD}:(inP s x).size≤s.size+45:=by
 unfold inP
 have h1:=bs (n:=x.frm)
 have h2:=bs (n:=x.val)
 have e:(⟨#[58]⟩:ByteArray).size=1:=rfl
 simp only[ByteArray.size_append];omega
theorem wm{s:ByteArray}{p:PhiD}(h:p.ins.length≤10000){k:Nat}(hk:k≤p.ins.length):(upTo inP (s++⟨#[112,104,105,32]⟩++aL p.dst) p.ins k).size≤s.size+450030:=by
 have h1:=oB (f:=inP) (s:=s++⟨#[112,104,105,32]⟩++aL p.dst) (l:=p.ins) (c:=45) (N:=10000) (fun s i _=>Ee) h hk
 have h2:=bs (n:=p.dst)
 have e:(⟨#[112,104,105,32]⟩:ByteArray).size=4:=rfl
 simp only[ByteArray.size_append]at h1;omega
theorem vY{s:ByteArray}{x:InsD}(h:x.args.length≤10000):(insP s x).size≤s.size+220100:=by
 unfold insP
 have h1:=bs (n:=x.op)
 have h2:=bs (n:=x.dst)
 have h3:=bs (n:=x.two)
 have h4:=bs (n:=x.imm.v)
 have h5:=kr h
 have e:(⟨#[59]⟩:ByteArray).size=1:=rfl
 simp only[ByteArray.size_append];omega
theorem Am{s:ByteArray}{x:dp}(h:x.args.length≤10000)(h':x.to.length≤10000):(AP s x).size≤s.size+440100:=by
 unfold AP
 have h1:=bs (n:=x.kind)
 have h4:=bs (n:=x.imm.v)
 have h5:=kr h
 have h6:=kr h'
 have e:(⟨#[124]⟩:ByteArray).size=1:=rfl
 simp only[ByteArray.size_append];omega
theorem pP{s:ByteArray}{b:BlkD}(h:SmB b){k:Nat}(hk:k≤b.phis.length):(upTo phiP (s++⟨#[10]⟩) b.phis k).size≤s.size+4500300001:=by
 have h1:=oB (f:=phiP) (s:=s++⟨#[10]⟩) (l:=b.phis) (c:=450030) (N:=10000) (fun s i hi=>wm (h.phi i hi) (Nat.le_refl _)) h.phis hk
 have e:(⟨#[10]⟩:ByteArray).size=1:=rfl
 simp only[ByteArray.size_append]at h1;omega
theorem tY{s:ByteArray}{b:BlkD}(h:SmB b){k:Nat}(hk:k≤b.ins.length):(upTo insP (upTo phiP (s++⟨#[10]⟩) b.phis b.phis.length) b.ins k).size≤s.size+6701300001:=by
 have h1:=oB (f:=insP) (s:=upTo phiP (s++⟨#[10]⟩) b.phis b.phis.length) (l:=b.ins) (c:=220100) (N:=10000) (fun s i hi=>vY (h.inn i hi)) h.ins hk
 have h2:=pP (s:=s) h (Nat.le_refl _)
 omega
theorem B6{s:ByteArray}{b:BlkD}(h:SmB b):(blkP s b).size≤s.size+7000000000:=by
 unfold blkP
 have h1:=Am (s:=upTo insP (upTo phiP (s++⟨#[10]⟩) b.phis b.phis.length) b.ins b.ins.length) h.args h.to
 have h2:=tY (s:=s) h (Nat.le_refl _)
 omega
theorem zw{f:ah}(h:SmF f){k:Nat}(hk:k≤f.blocks.length):(upTo blkP (aL f.params) f.blocks k).size≤70000000000022:=by
 have h1:=oB (f:=blkP) (s:=aL f.params) (l:=f.blocks) (c:=7000000000) (N:=10000) (fun s i hi=>B6 (h.blk i hi)) h.len hk
 have:=bs (n:=f.params)
 omega
theorem qF{l:List Int}{v:Value}{h:Heap}(hv:SlRd (vw h) v l)(hl:l.length≤10000):aB Tryz.prog N.fK #[v] h (fun u h'=>u = .string (rowP l)∧(vw h).le (vw h')):=by
 refine ao (args:=[v]) follows F.fK E.fK (Nat.le_of_ble_eq_true (by kernel_rfl)) fun Kc hK=>?_
 dsimp only[L.fK]
 simp
 refine bM [0,2,3,4] (fun(_:Unit) k=>[v,.string ⟨#[]⟩,.string (upTo (fun s n=>s++aL n) ⟨#[91]⟩ l k),.int .i64 k]) (fun _ k h1=>(vw h).le (vw h1)) l.length ()
  rfl (by omega) rfl (View.le_refl _) (fun _ _=>rfl) (fun _ k h1 hk t=>?_) ?_ ?_
 ·simp[(hv.mono t).len]
 ·rintro _ k h1 hk t K2 hK2
  have hv1:=hv.mono t
  have hr:I64 (nth l k):=by have:=(hv1.at hk).rng;rwa [←ak hk]at this
  simp(disch:=omega)[hv1.idx1 rfl,hv1.int (View.le_refl _)]
  refine af (by kernel_rfl) (dK hr) ?_
  rintro _ h2 ⟨rfl,t2⟩
  have e1:=rA hl (Nat.le_of_lt hk)
  have e2:=bs (n:=nth l k)
  simp[eF (a:=upTo (fun s n=>s++aL n) ⟨#[91]⟩ l k) (b:=aL (nth l k)) (by omega)]
  refine hK2 () _ _ rfl (by simp[ko hk];rfl) (View.le_trans t t2)
 ·rintro _ h1 t
  have e1:=rA hl (Nat.le_refl _)
  have e:(⟨#[93]⟩:ByteArray).size=1:=rfl
  simp[eF (a:=upTo (fun s n=>s++aL n) ⟨#[91]⟩ l l.length) (b:=⟨#[93]⟩) (by omega)]
  exact hK _ _ ⟨rfl,t⟩
theorem At.G1{H:View}{a:Addr}{d:I32}(h:At H a d):I64 d.v:=by
 obtain⟨v,_,h2⟩:=h.load rfl
 obtain⟨_,h3,h4⟩:=h2
 exact⟨by omega,by omega⟩
theorem xa[Rep α][Inhabited α]{H:View}{v:Value}{l:List α}(h:SlRd H v l){N:Nat}(hn:Rep.n α=N){i:Nat}(hi:i<l.length):At H ((slA v).add (i*N)) (nth l i):=by
 subst hn;rw[ak hi];exact h.at hi
theorem DE{X i:Nat}{p1 p4:Value}{d:BlkD}{s0:ByteArray}{h:Heap}{Q:Post}{ρ:Env}(ha:At (vw h) ⟨X,0,none⟩ d)(sm:SmB d)(hi:i<d.phis.length)(hs:s0.size≤100000000000000)(hρ:bm [1,3,4,5,6,7] ρ=[1,3,4,5,6,7].zip [p1,.string (s0++(⟨#[112,104,105,32]⟩:ByteArray)++aL (nth d.phis i).dst),p4,.pointer (some ⟨X,0,none⟩),.int .i64 i,.int .i64 0])(hQ : ∀h' x,(vw h).le (vw h')→Q .normal ([1,3,4,5,6,7].zip [p1,.string (phiP s0 (nth d.phis i)),p4,.pointer (some ⟨X,0,none⟩),.int .i64 i,x]) h'):
  LC.wp Tryz.prog L.bQ.l3.loop (dV 4 Q) ρ h:=by
 have sp:=sm.phis
 have si:=sm.phi i hi
 obtain⟨vp,vi,va,vt,cp,_⟩:=jK ha
 obtain⟨vn,cn,sn⟩:=((xa cp.2 (N:=2) rfl hi).part PhiD.mK).sl
 obtain⟨l,hl⟩ : ∃l,l=(nth d.phis i).ins:=⟨_,rfl⟩
 rw[←hl]at si sn
 refine bM [1,3,4,5,6,7] (fun(_:Unit) k=>[p1,.string (upTo inP (s0++(⟨#[112,104,105,32]⟩:ByteArray)++aL (nth d.phis i).dst) l k),p4,.pointer (some ⟨X,0,none⟩),.int .i64 i,.int .i64 k]) (fun _ k h1=>(vw h).le (vw h1)) l.length ()
  rfl (by omega) hρ (View.le_refl _) (fun _ _=>rfl) (fun _ k h1 hk t=>?_) ?_ ?_
 ·simp(disch:=omega)[ae t cp.1,(cp.2.mono t).idxn (N:=2) rfl,ae t cn,(sn.mono t).len]
 ·rintro _ k h1 hk t K2 hK2
  have aI:=xa sn (N:=2) rfl hk
  have e1:=wm (s:=s0) (p:=nth d.phis i) (by rw[←hl];exact si) (k:=k) (by rw[←hl];omega)
  rw[←hl]at e1
  have e2:=bs (n:=(nth l k).frm)
  have e3:(⟨#[58]⟩:ByteArray).size=1:=rfl
  have e4:=bs (n:=(nth l k).val)
  refine cH (vw h1) (View.le_refl _) ?_
  simp(disch:=omega)[ae t cp.1,(cp.2.mono t).idxn (N:=2) rfl,ae t cn,(sn.mono t).idxn (N:=2) rfl,ae t (aI.part InD.oU).int,ae t (aI.part InD.sS).int]
  refine af (by kernel_rfl) (dK (aI.part InD.oU).rng) ?_
  rintro _ h2 ⟨rfl,t2⟩
  generalize hsk:upTo inP (s0++(⟨#[112,104,105,32]⟩:ByteArray)++aL (nth d.phis i).dst) l k=sk at e1
  refine⟨t2,?_⟩
  simp[eF (a:=sk) (b:=aL (nth l k).frm) (by omega),eF (a:=sk++aL (nth l k).frm) (b:=⟨#[58]⟩) (by simp only[ByteArray.size_append];omega)]
  refine af (by kernel_rfl) (dK (aI.part InD.sS).rng) ?_
  rintro _ h3 ⟨rfl,t3⟩
  simp[eF (a:=sk++aL (nth l k).frm++⟨#[58]⟩) (b:=aL (nth l k).val) (by simp only[ByteArray.size_append];omega)]
  refine hK2 () _ _ rfl ?_ (View.le_trans t (View.le_trans t2 t3))
  rw[ko hk,hsk];rfl
 ·rintro _ h1 t
  have:=hQ _ (.int .i64 l.length) t
  unfold phiP at this
  rw[←hl]at this
  exact this
theorem Ds{X:Nat}{p1 p4:Value}{d:BlkD}{s0:ByteArray}{h:Heap}{Q:Post}{ρ:Env}(ha:At (vw h) ⟨X,0,none⟩ d)(sm:SmB d)(hs:s0.size≤80000000000000)(hρ:bm [1,3,4,5,6] ρ=[1,3,4,5,6].zip [p1,.string (s0++(⟨#[10]⟩:ByteArray)),p4,.pointer (some ⟨X,0,none⟩),.int .i64 0])(hQ : ∀h' x,(vw h).le (vw h')→Q .normal ([1,3,4,5,6].zip [p1,.string (upTo phiP (s0++(⟨#[10]⟩:ByteArray)) d.phis d.phis.length),p4,.pointer (some ⟨X,0,none⟩),x]) h'):
  LC.wp Tryz.prog L.bQ.l2.loop (dV 2 Q) ρ h:=by
 have sp:=sm.phis
 obtain⟨vp,vi,va,vt,cp,_⟩:=jK ha
 refine bM [1,3,4,5,6] (fun(_:Unit) i=>[p1,.string (upTo phiP (s0++(⟨#[10]⟩:ByteArray)) d.phis i),p4,.pointer (some ⟨X,0,none⟩),.int .i64 i]) (fun _ i h1=>(vw h).le (vw h1)) d.phis.length ()
  rfl (by omega) hρ (View.le_refl _) (fun _ _=>rfl) (fun _ i h1 hk t=>?_) ?_ ?_
 ·simp[ae t cp.1,(cp.2.mono t).len]
 ·rintro _ i h1 hi t K2 hK2
  have aP:=xa cp.2 (N:=2) rfl hi
  have e1:=pP (s:=s0) sm (k:=i) (by omega)
  have e2:=bs (n:=(nth d.phis i).dst)
  have e3:(⟨#[112,104,105,32]⟩:ByteArray).size=4:=rfl
  have hsc:=ko (f:=phiP) (s:=s0++(⟨#[10]⟩:ByteArray)) hi
  generalize upTo phiP (s0++(⟨#[10]⟩:ByteArray)) d.phis i=sk at e1 hsc
  refine aa fun y hy=>?_
  simp(disch:=omega)[ae t cp.1,(cp.2.mono t).idxn (N:=2) rfl,ae t (aP.part PhiD.je).int,eF (a:=sk) (b:=⟨#[112,104,105,32]⟩) (by omega)]
  refine af (by kernel_rfl) (dK (aP.part PhiD.je).rng) ?_
  rintro _ h2 ⟨rfl,t2⟩
  simp[eF (a:=sk++⟨#[112,104,105,32]⟩) (b:=aL (nth d.phis i).dst) (by simp only[ByteArray.size_append];omega)]
  rw[hy];clear hy y
  simp
  refine DE (ha.mono (View.le_trans t t2)) sm hi (s0:=sk) (by omega) rfl fun h3 x t3=>?_
  simp
  refine hK2 () _ _ rfl ?_ (View.le_trans t (View.le_trans t2 t3))
  rw[hsc];rfl
 ·rintro _ h1 t
  exact hQ _ (.int .i64 d.phis.length) t
theorem Er{X:Nat}{p1 p4:Value}{d:BlkD}{s0:ByteArray}{h:Heap}{Q:Post}{ρ:Env}(ha:At (vw h) ⟨X,0,none⟩ d)(sm:SmB d)(hs:s0.size≤90000000000000)(hρ:bm [1,3,4,5,8] ρ=[1,3,4,5,8].zip [p1,.string s0,p4,.pointer (some ⟨X,0,none⟩),.int .i64 0])(hQ : ∀h' x,(vw h).le (vw h')→Q .normal ([1,3,4,5,8].zip [p1,.string (upTo insP s0 d.ins d.ins.length),p4,.pointer (some ⟨X,0,none⟩),x]) h'):
  LC.wp Tryz.prog L.bQ.l4.loop (dV 6 Q) ρ h:=by
 have sp:=sm.ins
 obtain⟨vp,vi,va,vt,_,cp,_⟩:=jK ha
 refine bM [1,3,4,5,8] (fun(_:Unit) i=>[p1,.string (upTo insP s0 d.ins i),p4,.pointer (some ⟨X,0,none⟩),.int .i64 i]) (fun _ i h1=>(vw h).le (vw h1)) d.ins.length ()
  rfl (by omega) hρ (View.le_refl _) (fun _ _=>rfl) (fun _ i h1 hk t=>?_) ?_ ?_
 ·simp[ae t cp.1,(cp.2.mono t).len]
 ·rintro _ i h1 hi t K2 hK2
  have aP:=xa cp.2 (N:=5) rfl hi
  have e1:=oB (f:=insP) (s:=s0) (l:=d.ins) (c:=220100) (N:=10000) (fun s i hi=>vY (sm.inn i hi)) sm.ins (k:=i) (by omega)
  have sa:=sm.inn i hi
  have hsc:=ko (f:=insP) (s:=s0) hi
  generalize upTo insP s0 d.ins i=sk at e1 hsc
  obtain⟨v3,c3,s3⟩:=(aP.part InsD.nB).sl
  have c0:=(aP.part InsD.HB).int
  have c1:=(aP.part InsD.je).int
  have c2:=(aP.part InsD.rV).int
  have c4:=(aP.part InsD.zH).i32
  have r0:=(aP.part InsD.HB).rng
  have r1:=(aP.part InsD.je).rng
  have r2:=(aP.part InsD.rV).rng
  have r4:=At.G1 (aP.part InsD.zH)
  generalize nth d.ins i=x at c0 c1 c2 c3 c4 s3 r0 r1 r2 r4 sa hsc
  have d0:=bs (n:=x.op)
  have d1:=bs (n:=x.dst)
  have d2:=bs (n:=x.two)
  have d4:=bs (n:=x.imm.v)
  have d3:=kr sa
  have e3:(⟨#[59]⟩:ByteArray).size=1:=rfl
  have hw:IntKind.i64.wrap x.imm.v=x.imm.v:=bN r4.1 r4.2
  refine cH (vw h1) (View.le_refl _) ?_
  simp(disch:=omega)[ae t cp.1,(cp.2.mono t).idxn (N:=5) rfl,ae t c0,ae t c1,ae t c2,ae t c3,ae t c4,eF (a:=sk) (b:=⟨#[59]⟩) (by omega)]
  refine af (by kernel_rfl) (dK r0) ?_
  rintro _ h2 ⟨rfl,t2⟩
  refine⟨t2,?_⟩
  simp[eF (a:=sk++⟨#[59]⟩) (b:=aL x.op) (by simp only[ByteArray.size_append];omega)]
  refine af (by kernel_rfl) (dK r1) ?_
  rintro _ h3 ⟨rfl,t3⟩
  refine⟨View.le_trans t2 t3,?_⟩
  simp[eF (a:=sk++⟨#[59]⟩++aL x.op) (b:=aL x.dst) (by simp only[ByteArray.size_append];omega)]
  refine af (by kernel_rfl) (dK r2) ?_
  rintro _ h4 ⟨rfl,t4⟩
  have t14:=View.le_trans t2 (View.le_trans t3 t4)
  refine⟨t14,?_⟩
  simp[eF (a:=sk++⟨#[59]⟩++aL x.op++aL x.dst) (b:=aL x.two) (by simp only[ByteArray.size_append];omega)]
  refine af (by kernel_rfl) (qF (s3.mono (View.le_trans t t14)) sa) ?_
  rintro _ h5 ⟨rfl,t5⟩
  have t15:=View.le_trans t14 t5
  refine⟨t15,?_⟩
  simp[eF (a:=sk++⟨#[59]⟩++aL x.op++aL x.dst++aL x.two) (b:=rowP x.args) (by simp only[ByteArray.size_append];omega),hw]
  refine af (by kernel_rfl) (dK r4) ?_
  rintro _ h6 ⟨rfl,t6⟩
  simp[eF (a:=sk++⟨#[59]⟩++aL x.op++aL x.dst++aL x.two++rowP x.args) (b:=aL x.imm.v) (by simp only[ByteArray.size_append];omega)]
  refine hK2 () _ _ rfl ?_ (View.le_trans t (View.le_trans t15 t6))
  rw[hsc];rfl
 ·rintro _ h1 t
  exact hQ _ (.int .i64 d.ins.length) t
theorem rT{f:ah}{v:Value}{h:Heap}(hv:Rd (vw h) v f)(sm:SmF f):aB Tryz.prog N.bQ #[v] h (fun u h'=>u = .string (Au f)∧(vw h).le (vw h')):=by
 refine ao (args:=[v]) follows F.bQ E.bQ (Nat.le_of_ble_eq_true (by kernel_rfl)) fun Kc hK=>?_
 dsimp only[L.bQ]
 refine aa fun z hz=>?_
 simp
 refine ic rfl hv fun h1 _ hle1 hsz1 hat=>?_
 obtain⟨c0,vb,cb⟩:=gW hat
 have ip:=(hat.part ah.zf).rng
 generalize h.size=B at hat c0 cb
 rw[hz];clear hz z
 refine aa fun z hz=>?_
 simp[c0]
 refine af (by kernel_rfl) (dK ip) ?_
 rintro _ h2 ⟨rfl,t2⟩
 rw[hz];clear hz z
 refine aa fun z hz=>?_
 simp
 have hbl:=sm.len
 refine bM [1,3,4] (fun(_:Unit) b=>[.pointer (some ⟨B,0,none⟩),.string (upTo blkP (aL f.params) f.blocks b),.int .i64 b]) (fun _ b h3=>(vw h1).le (vw h3)) f.blocks.length ()
  rfl (by omega) rfl t2 (fun _ _=>rfl) (fun _ b h3 hb t=>?_) ?_ ?_
 ·simp[ae t cb.1,(cb.2.mono t).len]
 ·rintro _ b h3 hb t K2 hK2
  have sb:=cb.2.mono t
  obtain⟨ub,hub,rub⟩:=sb.wh rfl (N:=6) rfl hb
  have smb:=sm.blk b hb
  have e1:=zw sm (k:=b) (by omega)
  have e2:(⟨#[10]⟩:ByteArray).size=1:=rfl
  have hsc:=ko (f:=blkP) (s:=aL f.params) hb
  generalize upTo blkP (aL f.params) f.blocks b=s0 at e1 hsc
  generalize nth f.blocks b=d at rub smb hsc
  refine aa fun y hy=>?_
  simp(disch:=omega)[ae t cb.1,sb.idxn (N:=6) rfl,hub _ (View.le_refl _)]
  refine FO (d:=d) (z:=.agg #[.slice none 0 0,.slice none 0 0,.int .i64 0,.slice none 0 0,.slice none 0 0,.int .i32 0]) (by kernel_rfl) rfl (by kernel_rfl) rub (fun _=>by simp) (fun _=>by simp) fun h4 t4 _ _ hat4=>?_
  generalize h3.size=X at hat4
  rw[hy];clear hy y
  refine aa fun y hy=>?_
  simp[eF (a:=s0) (b:=⟨#[10]⟩) (by omega)]
  rw[hy];clear hy y
  refine aa fun y hy=>?_
  simp
  refine Ds hat4 smb (s0:=s0) (by omega) rfl fun h5 x5 t5=>?_
  rw[hy];clear hy y
  refine aa fun y hy=>?_
  simp
  have e5:=pP (s:=s0) smb (Nat.le_refl _)
  refine Er (hat4.mono t5) smb (s0:=upTo phiP (s0++⟨#[10]⟩) d.phis d.phis.length) (by omega) rfl fun h6 x6 t6=>?_
  have e6:=tY (s:=s0) smb (Nat.le_refl _)
  have hat6:=hat4.mono (View.le_trans t5 t6)
  have hbl:blkP s0 d=AP (upTo insP (upTo phiP (s0++⟨#[10]⟩) d.phis d.phis.length) d.ins d.ins.length) d.term:=rfl
  rw[hbl]at hsc
  generalize upTo insP (upTo phiP (s0++⟨#[10]⟩) d.phis d.phis.length) d.ins d.ins.length=sk at e6 hsc
  rw[hy];clear hy y
  obtain⟨vp,vi,va,vt,_,_,ck,ca,ct⟩:=jK hat6
  have ht:=hat6.part BlkD.mw
  have r0:=(ht.part dp.Al).rng
  have r4:=At.G1 (ht.part dp.zH)
  have c4:an (vw h6) ⟨X,5,none⟩=some (.int .i32 d.term.imm.v):=by simpa using(ht.part dp.zH).i32
  have sa:=smb.args
  have st:=smb.to
  generalize d.term=x at ck ca ct c4 r0 r4 sa st hsc
  have d0:=bs (n:=x.kind)
  have d4:=bs (n:=x.imm.v)
  have d1:=kr sa
  have d2:=kr st
  have e3:(⟨#[124]⟩:ByteArray).size=1:=rfl
  have hw:IntKind.i64.wrap x.imm.v=x.imm.v:=bN r4.1 r4.2
  refine cH (vw h6) (View.le_refl _) ?_
  simp(disch:=omega)[ck,ca.1,ct.1,c4,hw,eF (a:=sk) (b:=⟨#[124]⟩) (by omega)]
  refine af (by kernel_rfl) (dK r0) ?_
  rintro _ h7 ⟨rfl,t7⟩
  refine⟨t7,?_⟩
  simp[eF (a:=sk++⟨#[124]⟩) (b:=aL x.kind) (by simp only[ByteArray.size_append];omega)]
  refine af (by kernel_rfl) (qF (ca.2.mono t7) sa) ?_
  rintro _ h8 ⟨rfl,t8⟩
  have t68:=View.le_trans t7 t8
  refine⟨t68,?_⟩
  simp[eF (a:=sk++⟨#[124]⟩++aL x.kind) (b:=rowP x.args) (by simp only[ByteArray.size_append];omega)]
  refine af (by kernel_rfl) (qF (ct.2.mono t68) st) ?_
  rintro _ h9 ⟨rfl,t9⟩
  have t69:=View.le_trans t68 t9
  refine⟨t69,?_⟩
  simp[eF (a:=sk++⟨#[124]⟩++aL x.kind++rowP x.args) (b:=rowP x.to) (by simp only[ByteArray.size_append];omega)]
  refine af (by kernel_rfl) (dK r4) ?_
  rintro _ h10 ⟨rfl,t10⟩
  simp[eF (a:=sk++⟨#[124]⟩++aL x.kind++rowP x.args++rowP x.to) (b:=aL x.imm.v) (by simp only[ByteArray.size_append];omega)]
  refine hK2 () _ _ rfl ?_ (View.le_trans t (View.le_trans t4 (View.le_trans t5 (View.le_trans t6 (View.le_trans t69 t10)))))
  rw[hsc];rfl
 ·rintro _ h3 t
  simp
  rw[hz];clear hz z
  simp
  exact hK _ _ ⟨rfl,View.le_trans hle1 t⟩
theorem tJ{f g:ah}{v u:Value}{h:Heap}(hv:Rd (vw h) v f)(hu:Rd (vw h) u g)(smf:SmF f)(smg:SmF g):aB Tryz.prog N.fV #[v,u] h (fun r h'=>r = .bool ((Au f).toList == (Au g).toList)∧(vw h).le (vw h')):=by
 refine ao (args:=[v,u]) follows F.fV E.fV (Nat.le_of_ble_eq_true (by kernel_rfl)) fun Kc hK=>?_
 dsimp only[L.fV]
 refine aa fun z hz=>?_
 simp
 refine ic rfl hv fun h1 _ hle1 _ hat1=>?_
 refine ic rfl (hu.mono hle1) fun h2 _ hle2 _ hat2=>?_
 generalize h.size=B at hat1
 generalize h1.size=C at hat2
 obtain⟨u1,l1,r1⟩:=(hat1.mono hle2).ar rfl
 obtain⟨u2,l2,r2⟩:=hat2.ar rfl
 have l1:Un.ev (vw h2) (.ar 2) (.pointer (some ⟨B,0,none⟩))=some u1:=l1
 have l2:Un.ev (vw h2) (.ar 2) (.pointer (some ⟨C,0,none⟩))=some u2:=l2
 rw[hz];clear hz z
 refine aa fun z hz=>?_
 refine cH (vw h2) (View.le_refl _) ?_
 simp[l1,l2]
 refine af (by kernel_rfl) (rT r1 smf) ?_
 rintro _ h3 ⟨rfl,t3⟩
 refine⟨t3,?_⟩
 refine af (by kernel_rfl) (rT (r2.mono t3) smg) ?_
 rintro _ h4 ⟨rfl,t4⟩
 simp[HU]
 rw[hz];clear hz z
 simp
 exact hK _ _ ⟨rfl,View.le_trans hle1 (View.le_trans hle2 (View.le_trans t3 t4))⟩
theorem D0{f:ah}:iW (ofS f.blocks)=fU f:=by
 unfold fU
 rw[su]
 exact tp (by rw[xv,dN]) fun a b=>EN
theorem xn{s:List Int}{v:Value}{h:Heap}(hs:SlRd (vw h) v s):aB Tryz.prog N.dw #[v] h (fun u h'=>u = .bool true∧(vw h).le (vw h')):=by
 refine ao (args:=[v]) follows F.dw E.dw (Nat.le_of_ble_eq_true (by kernel_rfl)) fun Kc hK=>?_
 dsimp only[L.dw]
 refine aa fun z hz=>?_
 simp
 rw[hz];clear hz z
 refine aa fun z hz=>?_
 simp
 refine af (by kernel_rfl) Cj ?_
 rintro _ h1 ⟨rfl,q1⟩
 rw[hz];clear hz z
 refine aa fun z hz=>?_
 simp
 refine af (by kernel_rfl) (DP (hs.mono q1)) ?_
 rintro us _ ⟨rfl,s1⟩
 refine af (by kernel_rfl) (Gj (Owns.start (View.le_refl _)) (fun _ _=>rfl) s1) ?_
 rintro uf h2 ⟨W2,hW2,w2,r2⟩
 generalize s.take 400=s' at r2
 have m:=y9 (s:=s')
 have sm:=Fl (s:=s')
 have hl:=zp (s:=s')
 have hE:=Hy (s:=s')
 generalize gU s'=f at r2 m sm hl hE
 refine w2.lX (k:=(20,0)) (α:=ah) (n:=2) rfl r2 rfl (z:=.agg #[.int .i64 0,.slice none 0 0]) (by kernel_rfl) rfl (by kernel_rfl) (by decide) (fun _=>by simp) (fun _=>by simp) fun h3 q3 w3=>?_
 generalize h2.size=B at w3
 obtain⟨uf3,huf3,ruf3⟩:=Owns.ldW w3 (k:=(20,0)) (v:=.slice (some ⟨B,0,none⟩) 1 1) (l:=[f]) Own.ag rfl (N:=2) rfl (i:=0) (by simp)
 have huf3:Un.ev (vw h3) (.ar 2) (.pointer (some ⟨B,0,none⟩))=some uf3:=by simpa[slA]using huf3
 have ruf3:Rd W2 uf3 f:=ruf3
 rw[hz];clear hz z
 refine aa fun z hz=>?_
 simp[huf3]
 refine af (by kernel_rfl) (mf 0 w3 (fun k _ hk=>by rw[Own.ab (by rintro rfl;simp at hk)]) ruf3 sm fun _=>Dc m (by omega)) ?_
 rintro u h4 ⟨W4,hW4,⟨hne,_⟩ | ⟨_,o4,vb,V,rfl,ip,w4,g4,fr4⟩⟩
 ·exact absurd hE hne
 obtain⟨W5,hW5,w5,s5⟩:=g4.freeze w4
 have rg:Rd W5 (.agg #[.int .i64 f.params,vb]) (cT f):=⟨_,rfl,[.int .i64 f.params],[vb],rfl,⟨rfl,ip⟩,vb,rfl,s5⟩
 obtain⟨o5,ho5⟩ : ∃o5:Own,o5=fun k:Key=>if 0≤k.1∧k.1≤0+6 then none else o4 k:=⟨_,rfl⟩
 rw[←ho5]at w5
 have k20:o5 (20,0)=bx T.aD B f:=by
  rw[ho5]
  refine(if_neg (by omega)).trans ?_
  rw[fr4 _ (by simp),Own.ag]
 have k21:o5 (20,1)=none:=by
  rw[ho5]
  refine(if_neg (by omega)).trans ?_
  rw[fr4 _ (by simp),Own.ab (by simp)]
 have k22:o5 (20,2)=none:=by
  rw[ho5]
  refine(if_neg (by omega)).trans ?_
  rw[fr4 _ (by simp),Own.ab (by simp)]
 have k5n : ∀k:Key,0≤k.1→k.1≤13→o5 k=none:=fun k _ h13=>by
  rw[ho5]
  dsimp only
  split
  ·rfl
  ·rename_i hc
   rw[fr4 k (by omega),Own.ab (by rintro rfl;simp at h13)]
 clear ho5
 simp
 refine w5.lX (k:=(20,1)) (α:=ah) (n:=2) k21 rg rfl (z:=.agg #[.int .i64 0,.slice none 0 0]) (by kernel_rfl) rfl (by kernel_rfl) (by decide) (fun _=>by simp) (fun _=>by simp) fun h6 q6 w6=>?_
 generalize h4.size=C at w6
 have k60:(o5.upd (20,1) (bx T.aD C (cT f))) (20,0)=bx T.aD B f:=by rw[Own.ab (by simp)];exact k20
 have k61:(o5.upd (20,1) (bx T.aD C (cT f))) (20,1)=bx T.aD C (cT f):=Own.ag
 have k6n : ∀k:Key,0≤k.1→k.1≤13→(o5.upd (20,1) (bx T.aD C (cT f))) k=none:=fun k h0 h13=>by rw[Own.ab (by rintro rfl;simp at h13)];exact k5n k h0 h13
 have k6m:(o5.upd (20,1) (bx T.aD C (cT f))) (20,2)=none:=by
  rw[Own.ab (by simp)]
  exact k22
 generalize o5.upd (20,1) (bx T.aD C (cT f))=o6 at w6 k60 k61 k6n k6m
 obtain⟨uf,huf,ruf⟩:=Owns.ldW w6 (k:=(20,0)) (v:=.slice (some ⟨B,0,none⟩) 1 1) (l:=[f]) k60 rfl (N:=2) rfl (i:=0) (by simp)
 have huf:Un.ev (vw h6) (.ar 2) (.pointer (some ⟨B,0,none⟩))=some uf:=by simpa[slA]using huf
 have ruf:Rd W5 uf f:=ruf
 obtain⟨ug,hug,rug⟩:=Owns.ldW w6 (k:=(20,1)) (v:=.slice (some ⟨C,0,none⟩) 1 1) (l:=[cT f]) k61 rfl (N:=2) rfl (i:=0) (by simp)
 have hug:Un.ev (vw h6) (.ar 2) (.pointer (some ⟨C,0,none⟩))=some ug:=by simpa[slA]using hug
 have rug:Rd W5 ug (cT f):=rug
 obtain⟨vb1,rfl,_,sb1⟩:=nQ ruf
 obtain⟨vb2,rfl,_,sb2⟩:=nQ rug
 rw[hz];clear hz z
 have hcl:=zd (f:=f)
 have h99:f.blocks.length*f.blocks.length≤9*9:=Nat.mul_le_mul hl.2 hl.2
 have smg:SmF (cT f):=En sm (by omega)
 have hgl:(cT f).blocks.length=f.blocks.length+(fU f).length:=df
 obtain⟨_,vB,cvB,svB⟩:=gW (w6.at (k:=(20,0)) k60)
 obtain⟨_,vC,cvC,svC⟩:=gW (w6.at (k:=(20,1)) k61)
 have mb2:=vy m hE
 have cB : ∀{h':Heap},(vw h6).le (vw h')→Un.ev (vw h') (.ar 2) (.pointer (some ⟨B,0,none⟩))=some (.agg #[.int .i64 f.params,vb1]):=fun hh=>by
  have:=de (ρ:=fun _=>none) (e:=.un (.ar 2) (.con (.pointer (some ⟨B,0,none⟩)))) hh (by simpa using huf)
  simpa using this
 have cC : ∀{h':Heap},(vw h6).le (vw h')→Un.ev (vw h') (.ar 2) (.pointer (some ⟨C,0,none⟩))=some (.agg #[.int .i64 (cT f).params,vb2]):=fun hh=>by
  have:=de (ρ:=fun _=>none) (e:=.un (.ar 2) (.con (.pointer (some ⟨C,0,none⟩)))) hh (by simpa using hug)
  simpa using this
 refine aa fun z hz=>?_
 simp[hug]
 have hE2:=Gp m hE
 refine af (by kernel_rfl) (mf 0 w6 k6n rug smg fun _=>Ex (xc m) (Dc m (by omega))) ?_
 rintro u h7 ⟨W7,hW7,⟨hne,_⟩ | ⟨_,o7,vb7,V7,rfl,ip7,w7,g7,fr7⟩⟩
 ·exact absurd hE2 hne
 rw[tO mb2 (wz (xc m))]at g7
 simp
 obtain⟨W8,hW8,w8,s8⟩:=g7.freeze w7
 have rh:Rd W8 (.agg #[.int .i64 (cT f).params,vb7]) (cT f):=⟨_,rfl,[.int .i64 (cT f).params],[vb7],rfl,⟨rfl,ip7⟩,vb7,rfl,s8⟩
 have k8:(fun k:Key=>if 0≤k.1∧k.1≤0+6 then none else o7 k) (20,2)=none:=by
  refine(if_neg (by omega)).trans ?_
  rw[fr7 _ (by simp)];exact k6m
 refine w8.lX (k:=(20,2)) (α:=ah) (n:=2) k8 rh rfl (z:=.agg #[.int .i64 0,.slice none 0 0]) (by kernel_rfl) rfl (by kernel_rfl) (by decide) (fun _=>by simp) (fun _=>by simp) fun h9 q9 w9=>?_
 generalize h7.size=D at w9
 obtain⟨uh,huh,ruh⟩:=Owns.ldW w9 (k:=(20,2)) (v:=.slice (some ⟨D,0,none⟩) 1 1) (l:=[cT f]) Own.ag rfl (N:=2) rfl (i:=0) (by simp)
 have huh:Un.ev (vw h9) (.ar 2) (.pointer (some ⟨D,0,none⟩))=some uh:=by simpa[slA]using huh
 have ruh:Rd W8 uh (cT f):=ruh
 have k91:(Own.upd (fun k:Key=>if 0≤k.1∧k.1≤0+6 then none else o7 k) (20,2) (bx T.aD D (cT f))) (20,1)=bx T.aD C (cT f):=by
  rw[Own.ab (by simp)]
  refine(if_neg (by omega)).trans ?_
  rw[fr7 _ (by simp)];exact k61
 have k90:(Own.upd (fun k:Key=>if 0≤k.1∧k.1≤0+6 then none else o7 k) (20,2) (bx T.aD D (cT f))) (20,0)=bx T.aD B f:=by
  rw[Own.ab (by simp)]
  refine(if_neg (by omega)).trans ?_
  rw[fr7 _ (by simp)];exact k60
 obtain⟨ug9,hug9,rug9⟩:=Owns.ldW w9 (k:=(20,1)) (v:=.slice (some ⟨C,0,none⟩) 1 1) (l:=[cT f]) k91 rfl (N:=2) rfl (i:=0) (by simp)
 have hug9:Un.ev (vw h9) (.ar 2) (.pointer (some ⟨C,0,none⟩))=some ug9:=by simpa[slA]using hug9
 have rug9:Rd W8 ug9 (cT f):=rug9
 obtain⟨uf9,huf9,ruf9⟩:=Owns.ldW w9 (k:=(20,0)) (v:=.slice (some ⟨B,0,none⟩) 1 1) (l:=[f]) k90 rfl (N:=2) rfl (i:=0) (by simp)
 have huf9:Un.ev (vw h9) (.ar 2) (.pointer (some ⟨B,0,none⟩))=some uf9:=by simpa[slA]using huf9
 have ruf9:Rd W8 uf9 f:=ruf9
 have cM : ∀{h':Heap} {X:Nat} {u:Value},Un.ev (vw h9) (.ar 2) (.pointer (some ⟨X,0,none⟩))=some u→(vw h9).le (vw h')→Un.ev (vw h') (.ar 2) (.pointer (some ⟨X,0,none⟩))=some u:=fun hx hh=>by
  have:=de (ρ:=fun _=>none) (e:=.un (.ar 2) (.con (.pointer (some ⟨_,0,none⟩)))) hh (by simpa using hx)
  simpa using this
 rw[hz];clear hz z
 refine aa fun z hz=>?_
 simp[huh,hug9]
 refine af (by kernel_rfl) (tJ (rug9.mono w9.wle) (ruh.mono w9.wle) smg smg) ?_
 rintro _ h10 ⟨rfl,q10⟩
 rw[hz];clear hz z
 refine aa fun z hz=>?_
 obtain⟨vbf,rfl,_,sbf⟩:=nQ ruf9
 simp[cM huf9 q10]
 refine af (by kernel_rfl) (Ez (sbf.mono (View.le_trans w9.wle q10)) sm.len fun i hi=>(sm.blk i hi).to) ?_
 rintro u11 h11 ⟨q11,s11⟩
 refine af (by kernel_rfl) (tR (s11.mono (gz _ _)) (by rw[xv];omega)) ?_
 rintro u12 h12 ⟨q12,s12⟩
 rw[D0]at s12
 have l12:=s12.len (K:=vw h12)
 have q912:=View.le_trans q10 (View.le_trans q11 q12)
 by_cases hc:0<(fU f).length
 ·simp[l12,hc]
  rw[hz];clear hz z
  simp
  exact hK _ _ ⟨rfl,View.le_trans q1 (View.le_trans hW2 (View.le_trans hW4 (View.le_trans hW5 (View.le_trans hW7 (View.le_trans hW8 (View.le_trans w9.wle q912))))))⟩
 ·have hc0:fU f=[]:=List.eq_nil_of_length_eq_zero (by omega)
  have hsf:=tO m hc0
  simp[l12,hc,cM huf9 q912,cM hug9 q912]
  rw[hsf]at rug9
  refine af (by kernel_rfl) (tJ (ruf9.mono (View.le_trans w9.wle q912)) (rug9.mono (View.le_trans w9.wle q912)) sm sm) ?_
  rintro _ h13 ⟨rfl,q13⟩
  rw[hz];clear hz z
  simp
  exact hK _ _ ⟨rfl,View.le_trans q1 (View.le_trans hW2 (View.le_trans hW4 (View.le_trans hW5 (View.le_trans hW7 (View.le_trans hW8 (View.le_trans w9.wle (View.le_trans q912 q13)))))))⟩
section
open Go Go.Lft Go.ChangeShapes Go.WideShapes Go.ChangeAt Go.RowKit
theorem Tryz.mM:Tryz.f4.params = #[T.bc]:=by kernel_rfl
theorem pZ(os:Os)(started:os.Started)(H:Type)(enc:TypeId × Value→H):
  ReturnsInHanded {} Tryz.checked os 4 .any (Rows.splitOnceSpec.pre6 enc Tryz.prog Tryz.f4 Rows.splitOnceRow.domain false) (Rows.splitOnceSpec.post enc Tryz.prog Tryz.f4 false true false false):=
 law1 (C:=Tryz.checked) Tryz.own started (by kernel_rfl) Tryz.func4 rfl
  (ChangeSpec.witness6 (enc:=enc) (C:=Tryz.checked) false ⟨#[],#[.slice none 0 0],[]⟩ 8 (by kernel_rfl) (by kernel_rfl) (by kernel_rfl) (by kernel_rfl))
  Tryz.laidOut (fun t ht=>by
   rw[Tryz.mM]at ht
   simp only[List.mem_cons,List.not_mem_nil,or_false]at ht
   subst ht
   exact⟨by kernel_rfl,of_decide_eq_true (by kernel_rfl)⟩) rfl
  (fun ds hds=>by
   match ds,hds with
   | [a],_=>rfl) rfl (tb:=4) (by kernel_rfl) Tryz.mM rtIs fun h v1 x1 h1=>xn (gh.1 h1)
theorem sonce_holds:Rows.SplitOnceSaid:=
 OpenClaim.holds_of_wide 4 Tryz.f4 rfl rfl rfl rfl rfl rfl rfl ⟨rfl,rfl,rfl,rfl,rfl⟩ rfl rfl rfl rfl rfl (by kernel_rfl) Tryz.func4 (by kernel_rfl)
  (of_decide_eq_true (by kernel_rfl)) (by unfold Func.isWrapper;first | (rw[if_pos (by decide +kernel)];kernel_rfl) | (rw[if_neg (by decide +kernel)];exact⟨rfl,rfl⟩))
  (fun os started H enc _=>pZ os started H enc)
end
end Go.Proofs.YtbkdlhkoiagbbaaGreat
