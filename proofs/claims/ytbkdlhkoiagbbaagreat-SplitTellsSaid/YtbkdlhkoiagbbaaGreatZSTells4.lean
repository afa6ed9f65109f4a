/- A part of the proof: Mf, Mg, Mh, Mi, Rb, Rc, Rd, Re, Rf, Rg, Rh, Mj, Mk, Ml, Mm. -/
import Derived.Test.YtbkdlhkoiagbbaaGreatZSTells3
set_option linter.unusedSimpArgs false
set_option linter.unusedVariables false
namespace Go.Proofs.YtbkdlhkoiagbbaaGreat
open Go Go.Lft
def Nz (s:List Int) (M:Nat) (vs:Value) (W0:View) (h:Heap) (o0:Own) (m:MS) (u:Value) (ds:List Int):Prop:=∃W o,W0.le W/\Mk s M vs W h o m/\(∀k:Key,3<=k.1->o k=o0 k)/\SlRd W u ds
section
variable {s:List Int} {M:Nat} {vs:Value} {W0:View} {h:Heap} {o0:Own} {m:MS} {u:Value} {ds:List Int}
theorem Nx.z(n:Nx s M vs W0 h o0 m):Nz s M vs W0 h o0 m (.slice none 0 0) []:=by obtain⟨W,o,h1,h2,h3⟩:=n;exact⟨W,o,h1,h2,h3,fo⟩
theorem Nz.x(n:Nz s M vs W0 h o0 m u ds):Nx s M vs W0 h o0 m:=by obtain⟨W,o,h1,h2,h3,_⟩:=n;exact⟨W,o,h1,h2,h3⟩
theorem Nz.call{f:FuncId}{args:Array Value}{m':MS}{U:Value->Prop}(hc : ∀{W o},Mk s M vs W h o m->az Tryz.prog f args h (fun u h'=>U u/\Nx s M vs W h' o m'))(n:Nz s M vs W0 h o0 m u ds):
  az Tryz.prog f args h (fun v h'=>U v/\Nz s M vs W0 h' o0 m' u ds):=by obtain⟨W,o,h1,h2,h3,h4⟩:=n;refine(hc h2).mono ?_;rintro v h' ⟨hU,W',o',g1,g2,g3⟩;exact⟨hU,W',o',View.le_trans h1 g1,g2,fun k hk=>(g3 k hk).trans (h3 k hk),h4.mono g1⟩
theorem fD(n:Nz s M vs W0 h o0 m u ds){c:Nat}(hm:m.ok c)(hc:c<=1000000){k:Int}(hk:0<k)(hk2:k<=1000000000):
  az Tryz.prog N.b8 #[.pointer (some ⟨M,0,none⟩),.int .i64 k] h (fun v h'=>v = .int .i64 (aG s m.at_ k)/\Nz s M vs W0 h' o0 m.took u ds):=
 n.call (U:=fun v=>v=_) fun w=>((w.take (by have:=hm.at_;omega) hk hk2).mono fun v h' ⟨e,o',w',f'⟩=>⟨e,w'.nx.trans (View.le_refl _) f'⟩)
theorem iy(n:Nz s M vs W0 h o0 m u ds){c:Nat}(hm:m.ok c)(hc:c<=1000000):
  az Tryz.prog N.bN #[.pointer (some ⟨M,0,none⟩)] h (fun v h'=>v = .int .i64 m.next/\Nz s M vs W0 h' o0 m.aJ u ds):=
 n.call (U:=fun v=>v=_) fun w=>((w.fresh hm.n0 (by have:=hm.next;omega)).mono fun v h' ⟨e,o',w',f'⟩=>⟨e,w'.nx.trans (View.le_refl _) f'⟩)
theorem yx(n:Nz s M vs W0 h o0 m u ds){c:Nat}(hm:m.ok c)(hc:c<=1000000):
  az Tryz.prog N.cK #[.pointer (some ⟨M,0,none⟩)] h (fun v h'=>v = .int .i32 (kS s m)/\Nz s M vs W0 h' o0 m.took.took u ds):=
 n.call (U:=fun v=>v=_) fun w=>((w.word (by have:=hm.at_;omega)).mono fun v h' ⟨e,o',w',f'⟩=>⟨e,w'.nx.trans (View.le_refl _) f'⟩)
variable{b:Nat}
theorem gW(n:Nz s M vs W0 h o0 m u ds){c:Nat}(hb:b<m.blocks.length)(hm:m.ok c)(hc:c<=1000000){k:Int}(hk:-2147483648<=k/\k<=2147483647):
  az Tryz.prog N.bA #[.pointer (some ⟨M,0,none⟩),.int .i64 b,.int .i32 k] h (fun v h'=>v = .int .i64 m.next/\Nz s M vs W0 h' o0 (m.constant b k) u ds):=
 n.call (U:=fun v=>v=_) fun w=>w.constant hb hm hc hk
theorem iY(n:Nz s M vs W0 h o0 m u ds){c:Nat}(hb:b<m.blocks.length)(hm:m.ok c)(hc:c<=999990):
  az Tryz.prog N.dd #[.pointer (some ⟨M,0,none⟩),.int .i64 b] h (fun v h'=>(v = .int .i64 (aK s m b).1/\I64 (aK s m b).1)/\Nz s M vs W0 h' o0 (aK s m b).2 u ds):=
 n.call (U:=fun v=>v=_/\_) fun w=>(C7 w hb hm hc).mono fun v h' ⟨e1,e2,e3⟩=>⟨⟨e1,e2⟩,e3⟩
theorem ll(n:Nz s M vs W0 h o0 m u ds){c:Nat}{op d two imm:Int}(hb:b<m.blocks.length)(hm:m.ok c)(hc:c<=1000000)(h1:I64 op)(h2:I64 d)(h3:I64 two)(h4:-2147483648<=imm/\imm<=2147483647):
  az Tryz.prog N.dA #[.pointer (some ⟨M,0,none⟩),.int .i64 b,.agg #[.int .i64 op,.int .i64 d,.int .i64 two,u,.int .i32 imm]] h (fun v h'=>Nx s M vs W0 h' o0 (m.add b ⟨op,d,two,ds,⟨imm⟩⟩)):=by obtain⟨W,o,g1,g2,g3,g4⟩:=n;refine(g2.add (i:=⟨op,d,two,ds,⟨imm⟩⟩) hb (Ba (imm:=⟨imm⟩) ⟨h1,h2,h3,h4⟩ g4) (by have:=hm.ins b;omega) (by have:=hm.live;omega)).mono ?_;rintro v h' n';exact n'.trans g1 g3
variable{po:OP}{ty:TypeId}{us:List (Nat × Value)}{K:Value->Heap->Prop}
theorem Nz.lit(n:Nz s M vs W0 h o0 m u ds){ps:Array (Nat × Operand)}{ls:List Int}{k:Nat}(hp:ps.map (fun p=>(p.1,asg us p.2))=(((ls.map fun x=>Value.int .i64 x).zipIdx 0).map fun p=>(p.2,p.1)).toArray)(hr : ∀x∈ls,I64 x)(hn:ls.length=k)(hb:k<=16777216)(hk : ∀a n c h',(vw h).le (vw h')->Nz s M vs W0 h' o0 m (.slice a n c) ls->K (.slice a n c) h'):@Lft.step po Tryz.prog (.buildSlice T.aS k ps) ty us h K:=by
 obtain⟨W,o,g1,g2,g3,g4⟩:=n;have hra : ∀l:List Int,(∀x∈l,I64 x)->oe W (l.map fun x=>Value.int .i64 x) l:=by
  intro l;induction l with
  | nil=>intro _;trivial
  | cons a l ih=>intro hl;exact⟨dr.2 ⟨rfl,hl a (by simp)⟩,ih fun x hx=>hl x (by simp[hx])⟩
 refine lA (X:=W) (ds:=ls) (vs:=ls.map fun x=>Value.int .i64 x) rfl El.aS hp (hra ls hr) g2.own.wle hn hb fun v h' hle hs hv _=>?_;have hs2:=hv _ (aH g2.own.wle) (cM (LG _));obtain⟨a,cp,rfl,_⟩:=id hs2;refine hk _ _ _ h' hle ?_;exact⟨_,o,View.le_trans g1 (aH g2.own.wle),⟨g2.own.ext hle,g2.src.mono (aH g2.own.wle),g2.box⟩,g3,hs2⟩
end
theorem MS.ok.jZ{c:Nat}{m:MS}(h:m.ok c)(hc:c<=1000000):I64 m.next:=by have:=h.n0;have:=h.next;constructor<;>omega
variable{b:Nat}
theorem dP{m:MS}{n:Int}:(m.constant b n).blocks.length=m.blocks.length:=mB
theorem nk{m:MS}{op x y:Int}:(m.two b op x y).blocks.length=m.blocks.length:=mB
theorem i64c{x:Int}(h0:-1000<=x:=by decide)(h1:x<=1000:=by decide):I64 x:=⟨by omega,by omega⟩
theorem DY{s:List Int}{M:Nat}{vs:Value}{W0:View}{h:Heap}{o0:Own}{m:MS}(n:Nx s M vs W0 h o0 m){c:Nat}{store:Bool}(hb:b<m.blocks.length)(hm:m.ok c)(hc:c<=900000):
  az Tryz.prog N.cW #[.pointer (some ⟨M,0,none⟩),.int .i64 b,.bool store] h (fun v h'=>Nx s M vs W0 h' o0 (jw s m b store)):=by
 refine aq (args:=[.pointer (some ⟨M,0,none⟩),.int .i64 b,.bool store]) follows F.cW E.cW (LD (by kernel_rfl)) fun K hK=>?_;dsimp only[L.cW];have n:=n.z;have hmm:jw s m b store=_:=jw.eq_1 s m b store;refine aa fun z hz=>?_;simp;refine aj (by kernel_rfl) (fD n hm (by omega) (k:=9) (by decide) (by decide)) ?_;rintro _ h1 ⟨rfl,n⟩;simp;refine aj (by kernel_rfl) (gW n (b:=b) hb hm.took (by omega) (k:=IntKind.i32.wrap (aG s m.at_ 9)) mw) ?_;rintro _ h2 ⟨rfl,n⟩;have q:=hm.took.constant (b:=b) (n:=IntKind.i32.wrap (aG s m.at_ 9))
 have hb1:b<(m.took.constant b (IntKind.i32.wrap (aG s m.at_ 9))).blocks.length:=by rw[dP];exact hb
 obtain⟨m1,hm1⟩ : ∃m1,m1=m.took.constant b (IntKind.i32.wrap (aG s m.at_ 9)):=⟨_,rfl⟩;have had:nT s m b=_:=nT.eq_1 s m b;rw[<-hm1]at n q hb1;simp only[<-hm1]at had;have hnx:I64 m.next:=hm.jZ (by omega);have hnt:m.took.next=m.next:=rfl;rw[hnt];generalize m.next=a0 at had hnx;clear hm1 hm hnt;subst hz;refine aa fun z hz=>?_;have fin : ∀(a:Int) (m2:MS) (h':Heap) (ρ:Env),nT s m b=(a,m2)->I64 a->m2.ok (c+30)->b<m2.blocks.length->Nz s M vs W0 h' o0 m2 (.slice none 0 0) []->Lft.look ρ 0=some (.pointer (some ⟨M,0,none⟩))->Lft.look ρ 1=some (.int .i64 b)->Lft.look ρ 2=some (.bool store)->Lft.look ρ 6=some (.int .i64 a)->LC.wp Tryz.prog z (fq [] K) ρ h':=by
  intro a m2 h' ρ e ha q hb n r0 r1 r2 r6;subst hz;simp only[e]at hmm;refine aa fun z hz=>?_;simp[ag,ah,r0,r1,r2,r6];refine aj (by kernel_rfl) (fD n q (by omega) (k:=4) (by decide) (by decide)) ?_;rintro _ h1 ⟨rfl,n⟩;simp[ag,ah,r0,r1,r2,r6];subst hz;refine aa fun z hz=>?_;have fin2 : ∀(i:Int) (m3:MS) (h':Heap) (ρ:Env),offS s m2=(i,m3)->(-2147483648<=i/\i<=2147483647)->m3.ok (c+40)->b<m3.blocks.length->Nz s M vs W0 h' o0 m3 (.slice none 0 0) []->Lft.look ρ 0=some (.pointer (some ⟨M,0,none⟩))->Lft.look ρ 1=some (.int .i64 b)->Lft.look ρ 2=some (.bool store)->Lft.look ρ 6=some (.int .i64 a)->Lft.look ρ 11=some (.int .i32 i)->LC.wp Tryz.prog z (fq [] K) ρ h':=by
   intro i m3 h' ρ e hi q hb n r0 r1 r2 r6 r11;subst hz;simp only[e]at hmm;refine aa fun z hz=>?_;simp[ag,ah,r0,r1,r2,r6,r11];subst hz;cases store with
   | true=>rw[if_pos rfl]at hmm;refine aw (by simp[ag,ah,r2]) ?_;simp[ag,ah,r0,r1,r2,r6,r11];refine aj (by kernel_rfl) (iY n hb q (by omega)) ?_;rintro _ h1 ⟨⟨rfl,hs⟩,n⟩;refine n.lit (ls:=[a,(aK s m3 b).1]) (by simp) (by simp[ha,hs]) rfl (by decide) fun ua un uc h2 _ n=>?_;refine aE (z:=.agg #[.int .i64 0,.int .i64 0,.int .i64 0,.slice none 0 0,.int .i32 0]) (places:=[(0,1),(1,1),(2,1),(3,1),(4,1)]) (vs:=[(0,.int .i64 16),(3,.slice ua un uc),(4,.int .i32 i)]) (cs:=#[.int .i64 16,.int .i64 0,.int .i64 0,.slice ua un uc,.int .i32 i]) (by kernel_rfl) (by kernel_rfl) (by simp) (by rfl) ?_;refine aj (by kernel_rfl) (ll n (b:=b) (by rw[dY];exact hb) (q.aK (b:=b)) (by omega) i64c i64c i64c hi) ?_;rintro _ h3 n;refine hK _ _ ?_;rw[hmm];exact n
   | false=>rw[if_neg (by simp)]at hmm;refine au (by simp[ag,ah,r2]) ?_;simp[ag,ah,r0,r1,r2,r6,r11];refine aj (by kernel_rfl) (iy n q (by omega)) ?_;rintro _ h1 ⟨rfl,n⟩;refine n.lit (ls:=[a]) (by simp) (by simp[ha]) rfl (by decide) fun ua un uc h2 _ n=>?_;refine aE (z:=.agg #[.int .i64 0,.int .i64 0,.int .i64 0,.slice none 0 0,.int .i32 0]) (places:=[(0,1),(1,1),(2,1),(3,1),(4,1)]) (vs:=[(0,.int .i64 15),(1,.int .i64 m3.next),(3,.slice ua un uc),(4,.int .i32 i)]) (cs:=#[.int .i64 15,.int .i64 m3.next,.int .i64 0,.slice ua un uc,.int .i32 i]) (by kernel_rfl) (by kernel_rfl) (by simp) (by rfl) ?_;refine aj (by kernel_rfl) (ll n (b:=b) hb q.aJ (by omega) i64c (q.jZ (by omega)) i64c hi) ?_;rintro _ h3 n;refine hK _ _ ?_;rw[hmm];exact n
  have hof:offS s m2=_:=offS.eq_1 s m2;refine aa fun y hy=>?_;simp[ag,ah,r0,r1,r2,r6];refine aj (by kernel_rfl) (fD n q.took (by omega) (k:=12) (by decide) (by decide)) ?_;rintro _ h2 ⟨rfl,n⟩;have hx:m2.took.at_=m2.at_+1:=rfl
  rw[hx];simp[ag,ah,r0,r1,r2,r6];subst hy;by_cases c12:aG s (m2.at_+1) 12=0
  ·rw[if_pos c12]at hof;refine aw (by simp[ag,ah,c12]) ?_;simp[ag,ah,r0,r1,r2,r6];refine aj (by kernel_rfl) (yx n q.took.took (by omega)) ?_;rintro _ h3 ⟨rfl,n⟩;exact fin2 _ _ h3 _ hof pJ (q.took.took.took.took.mono (by omega)) hb n (by simp[ag,ah,r0]) (by simp[ag,ah,r1]) (by simp[ag,ah,r2]) (by simp[ag,ah,r6]) (by simp[ag,ah])
  rw[if_neg c12]at hof;refine au (by simp[ag,ah,c12]) ?_;simp[ag,ah,r0,r1,r2,r6];exact fin2 _ _ h2 _ hof mw (q.took.took.mono (by omega)) hb n (by simp[ag,ah,r0]) (by simp[ag,ah,r1]) (by simp[ag,ah,r2]) (by simp[ag,ah,r6]) (by simp[ag,ah])
 refine aa fun y hy=>?_;simp;refine aj (by kernel_rfl) (fD n q (by omega) (k:=3) (by decide) (by decide)) ?_;rintro _ h3 ⟨rfl,n⟩;simp;subst hy;by_cases c3:aG s m1.at_ 3=0
 ·rw[if_pos c3]at had;refine aw (by simp[c3]) ?_;refine aa fun y hy=>?_;simp;refine aj (by kernel_rfl) (iY n (b:=b) hb1 q.took (by omega)) ?_;rintro _ h4 ⟨⟨rfl,hs⟩,n⟩;have q:=q.took.aK (s:=s) (b:=b);have hb2:b<(aK s m1.took b).2.blocks.length:=by rw[dY];exact hb1
  generalize aK s m1.took b=r at had hs n q hb2;subst hy;refine aa fun y hy=>?_;simp;refine aj (by kernel_rfl) (gW n (b:=b) hb2 q (by omega) (k:=7) (by decide)) ?_;rintro _ h5 ⟨rfl,n⟩;subst hy;refine aa fun y hy=>?_;simp;have q5:=q.constant (b:=b) (n:=7);refine aj (by kernel_rfl) (iy n q5 (by omega)) ?_;rintro _ h6 ⟨rfl,n⟩;have hn5:(r.2.constant b 7).next=r.2.next+1:=rfl;rw[hn5];subst hy;refine aa fun y hy=>?_;simp;have i5:=q5.jZ (by omega)
  rw[hn5]at i5;refine n.lit (ls:=[r.1,r.2.next]) (by simp) (by simp[hs,q.jZ (by omega:c+1+3+1+10<=1000000)]) rfl (by decide) fun ua un uc h7 _ n=>?_;refine aE (z:=.agg #[.int .i64 0,.int .i64 0,.int .i64 0,.slice none 0 0,.int .i32 0]) (places:=[(0,1),(1,1),(2,1),(3,1),(4,1)]) (vs:=[(0,.int .i64 5),(1,.int .i64 (r.2.next+1)),(3,.slice ua un uc)]) (cs:=#[.int .i64 5,.int .i64 (r.2.next+1),.int .i64 0,.slice ua un uc,.int .i32 0]) (by kernel_rfl) (by kernel_rfl) (by simp) (by rfl) ?_;refine aj (by kernel_rfl) (ll n (b:=b) (imm:=0) (by rw[show(r.2.constant b 7).aJ.blocks=(r.2.constant b 7).blocks from rfl,dP];exact hb2) q5.aJ (by omega) i64c i5 i64c (by decide)) ?_;rintro _ h8 n;have n:Nx s M vs W0 h8 o0 ((r.2.constant b 7).two b 5 r.1 r.2.next):=n;have q6:=q5.two (b:=b) (op:=5) (x:=r.1) (y:=r.2.next);have hb3:b<((r.2.constant b 7).two b 5 r.1 r.2.next).blocks.length:=by rw[nk,dP];exact hb2
  generalize (r.2.constant b 7).two b 5 r.1 r.2.next=m3 at had n q6 hb3;have n:=n.z;subst hy;refine aa fun y hy=>?_;simp;refine aj (by kernel_rfl) (iy n q6 (by omega)) ?_;rintro _ h9 ⟨rfl,n⟩;subst hy;refine aa fun y hy=>?_;simp;refine n.lit (ls:=[a0,r.2.next+1]) (by simp) (by simp[hnx,i5]) rfl (by decide) fun ua2 un2 uc2 h10 _ n=>?_;refine aE (z:=.agg #[.int .i64 0,.int .i64 0,.int .i64 0,.slice none 0 0,.int .i32 0]) (places:=[(0,1),(1,1),(2,1),(3,1),(4,1)]) (vs:=[(0,.int .i64 2),(1,.int .i64 m3.next),(3,.slice ua2 un2 uc2)]) (cs:=#[.int .i64 2,.int .i64 m3.next,.int .i64 0,.slice ua2 un2 uc2,.int .i32 0]) (by kernel_rfl) (by kernel_rfl) (by simp) (by rfl) ?_;refine aj (by kernel_rfl) (ll n (b:=b) (imm:=0) hb3 q6.aJ (by omega) i64c (q6.jZ (by omega)) i64c (by decide)) ?_;rintro _ h11 n;subst hy;simp;refine fin m3.next (m3.two b 2 a0 (r.2.next+1)) h11 _ had (q6.jZ (by omega)) (q6.two.mono (by omega)) (by rw[nk];exact hb3) n.z ?_ ?_ ?_ ?_;all_goals simp
 rw[if_neg c3]at had;refine au (by simp[c3]) ?_;simp;exact fin a0 m1.took h3 _ had hnx (q.took.mono (by omega)) hb1 n (by simp) (by simp) (by simp) (by simp)
section
variable {s:List Int} {M:Nat} {vs:Value} {W0:View} {h:Heap} {o0:Own} {m:MS} {u:Value} {ds:List Int}
theorem Nz.le (n:Nz s M vs W0 h o0 m u ds):W0.le (vw h):=by obtain⟨W,o,h1,h2,_⟩:=n;exact View.le_trans h1 h2.own.wle
theorem Nz.base(n:Nz s M vs W0 h o0 m u ds): ∃W o,Nz s M vs W h o m u ds/\SlRd W u ds/\∀{h' m' u' ds'},Nz s M vs W h' o m' u' ds'->Nz s M vs W0 h' o0 m' u' ds':=by obtain⟨W,o,h1,h2,h3,h4⟩:=n;refine⟨W,o,⟨W,o,View.le_refl _,h2,fun _ _=>rfl,h4⟩,h4,?_⟩;rintro h' m' u' ds' ⟨W',o',g1,g2,g3,g4⟩;exact⟨W',o',View.le_trans h1 g1,g2,fun k hk=>(g3 k hk).trans (h3 k hk),g4⟩
end
variable{H:View}
theorem BD{B n:Nat}{l:List Int}{t:TypeId}(hb:H B=some (.cells (l.map fun x=>Value.int .i64 x).toArray t (0,0)))(hn:l.length=n)(h1:0<n/\n<=1000)(hr : ∀x∈l,I64 x):SlRd H (.slice (some ⟨B,0,none⟩) n n) l:=by
 refine⟨some ⟨B,0,none⟩,n,by rw[hn],by omega,by omega,.inr ⟨⟨B,0,none⟩,rfl,rfl,fun i hi=>?_⟩⟩;have e:(⟨B,0,none⟩:Addr).add (i*Rep.n Int)=⟨B,i,none⟩:=by show(⟨B,0,none⟩:Addr).add (i*1)=_;simp
 rw[e];refine⟨[.int .i64 l[i]],⟨_,t,(0,0),rfl,hb,?_⟩,(dr (v:=.int .i64 l[i]) (H:=H)).2 ⟨rfl,hr _ (MD hi)⟩ |> fun q=>?_⟩
 ·show((l.map fun x=>Value.int .i64 x).toArray.toList.drop i).take 1=_;rw[List.toList_toArray,MV (by simpa using hi)];simp
 exact⟨rfl,hr _ (MD hi)⟩
theorem F9: ∀x∈opsL,I64 x:=by
 intro x hx;have : ∀x∈opsL,0<=x/\x<=12:=by decide
 have:=this x hx;exact⟨by omega,by omega⟩
theorem MkB.frame{M:Nat}{vs:Value}{m:MS}{o o':Own}{vb vl:Value}{lb:List BlkM}(b:MkB M vs m o vb vl lb)(hf : ∀k:Key,k.1<3->o' k=o k):MkB M vs m o' vb vl lb:=
 ⟨(hf _ (by decide)).trans b.box,(hf _ (by decide)).trans b.live,(hf _ (by decide)).trans b.blk,b.len,b.term,fun i hi=>(hf _ (by show 1<3;decide)).trans (b.phis i hi),fun i hi=>(hf _ (by show 2<3;decide)).trans (b.ins i hi)⟩
theorem AI{s:List Int}{x:List Int × MS}: ∀k,(up (iR s b) k x).2.blocks.length=x.2.blocks.length:=by
 intro k;induction k with
 | zero=>rfl
 | succ k ih=>show(aK s (up (iR s b) k x).2 b).2.blocks.length=_;rw[dY,ih]
theorem CB{s:List Int}{c:Nat}{x:List Int × MS}(hx:x.2.ok c): ∀k,(up (iR s b) k x).2.ok (c+10*k)/\(up (iR s b) k x).1.length=x.1.length+k/\(up (iR s b) k x).2.blocks.length=x.2.blocks.length:=by
 intro k;induction k with
 | zero=>exact⟨hx,rfl,rfl⟩
 | succ k ih=>
  obtain⟨h1,h2,h3⟩:=ih;refine⟨(h1.aK).mono (by omega),?_,?_⟩
  ·show((up (iR s b) k x).1++[_]).length=_;rw[LH,h2,LJ];omega
  show(aK s (up (iR s b) k x).2 b).2.blocks.length=_;rw[dY,h3]
theorem vz{s:List Int}{M:Nat}{vs:Value}{W0:View}{h:Heap}{o0:Own}{m:MS}(n:Nx s M vs W0 h o0 m){c:Nat}(hb:b<m.blocks.length)(hm:m.ok c)(hc:c<=800000)(hfree:o0 (9,0)=none):
  az Tryz.prog N.a7 #[.pointer (some ⟨M,0,none⟩),.int .i64 b] h (fun v h'=>Nx s M vs W0 h' o0 (aQ s b m)):=by
 refine aq (args:=[.pointer (some ⟨M,0,none⟩),.int .i64 b]) follows F.a7 E.a7 (LD (by kernel_rfl)) fun K hK=>?_;dsimp only[L.a7];have n:=n.z;have hmm:aQ s b m=_:=aQ.eq_1 s b m;refine aa fun z hz=>?_;simp;refine aj (by kernel_rfl) (fD n hm (by omega) (k:=20) (by decide) (by decide)) ?_;rintro _ h1 ⟨rfl,n⟩;obtain⟨k0,k1⟩:=cc (s:=s) (at_:=m.at_) (n:=20) (by decide);have q:=hm.took
 have hb1:b<m.took.blocks.length:=hb;subst hz;generalize aG s m.at_ 20=k at hmm k0 k1;generalize hm1:m.took=m1 at hmm n q hb1;have hw:kS s m1=kS s m1:=rfl;simp only[aR];refine aa fun z hz=>?_;simp;subst hz;by_cases c1:k<12
 ·rw[if_pos c1]at hmm;refine aw (by simp[c1]) ?_;obtain⟨kn,rfl⟩ : ∃kn:Nat,k=kn:=⟨k.toNat,by omega⟩;have hkn:kn<12:=by omega
  refine aa fun z hz=>?_;simp;have hcs:(#[.int .i64 2,.int .i64 2,.int .i64 3,.int .i64 4,.int .i64 5,.int .i64 6,.int .i64 7,.int .i64 8,.int .i64 9,.int .i64 10,.int .i64 12,.int .i64 11]:Array Value)=(opsL.map fun x=>Value.int .i64 x).toArray:=rfl;refine aE (z:=.agg #[.int .i64 0,.int .i64 0,.int .i64 0,.int .i64 0,.int .i64 0,.int .i64 0,.int .i64 0,.int .i64 0,.int .i64 0,.int .i64 0,.int .i64 0,.int .i64 0]) (places:=[(0,1),(1,1),(2,1),(3,1),(4,1),(5,1),(6,1),(7,1),(8,1),(9,1),(10,1),(11,1)]) (vs:=[(0,.int .i64 2),(1,.int .i64 2),(2,.int .i64 3),(3,.int .i64 4),(4,.int .i64 5),(5,.int .i64 6),(6,.int .i64 7),(7,.int .i64 8),(8,.int .i64 9),(9,.int .i64 10),(10,.int .i64 12),(11,.int .i64 11)])
   (cs:=#[.int .i64 2,.int .i64 2,.int .i64 3,.int .i64 4,.int .i64 5,.int .i64 6,.int .i64 7,.int .i64 8,.int .i64 9,.int .i64 10,.int .i64 12,.int .i64 11]) (by kernel_rfl) (by kernel_rfl) (by simp) (by rfl) ?_;refine jO (v:=.agg #[.int .i64 2,.int .i64 2,.int .i64 3,.int .i64 4,.int .i64 5,.int .i64 6,.int .i64 7,.int .i64 8,.int .i64 9,.int .i64 10,.int .i64 12,.int .i64 11]) (z:=.agg #[.int .i64 0,.int .i64 0,.int .i64 0,.int .i64 0,.int .i64 0,.int .i64 0,.int .i64 0,.int .i64 0,.int .i64 0,.int .i64 0,.int .i64 0,.int .i64 0]) (n:=12) (by kernel_rfl) rfl (by kernel_rfl) rfl (by simp[Value.cells,Value.oneCell']) (fun _=>by simp) (fun _=>by simp) fun h2 hle2 hs2 hb2=>?_
  have n:Nz s M vs W0 h2 o0 m1 (.slice (some ⟨h1.size,0,none⟩) 12 12) opsL:=by
   obtain⟨W,o,g1,g2,g3,g4⟩:=n;refine⟨_,o,View.le_trans g1 (aH g2.own.wle),⟨g2.own.ext hle2,g2.src.mono (aH g2.own.wle),g2.box⟩,g3,?_⟩;have hg:grow W h1 h2 h1.size=some (.cells (opsL.map fun x=>Value.int .i64 x).toArray T.Hp (0,0)):=by rw[cM (LG _),hb2];rfl
   exact BD hg rfl (by decide) F9
  generalize h1.size=B at n;subst hz;refine aa fun z hz=>?_;simp;refine aj (by kernel_rfl) (iY n hb1 q (by omega)) ?_;rintro _ h3 ⟨⟨rfl,i2⟩,n⟩;have q:=q.aK (s:=s) (b:=b);have hb2:b<(aK s m1 b).2.blocks.length:=by rw[dY];exact hb1
  simp only[binS]at hmm;generalize aK s m1 b=r1 at hmm n q hb2 i2;subst hz;refine aa fun z hz=>?_;simp;refine aj (by kernel_rfl) (iY n hb2 q (by omega)) ?_;rintro _ h4 ⟨⟨rfl,i3⟩,n⟩;have q:=q.aK (s:=s) (b:=b);have hb3:b<(aK s r1.2 b).2.blocks.length:=by rw[dY];exact hb2
  generalize aK s r1.2 b=r2 at hmm n q hb3 i3;subst hz;refine aa fun z hz=>?_;have fin : ∀(e:Int) (m3:MS) (h':Heap) (ρ:Env),aQ s b m=m3.two b (nth opsL kn) r1.1 e->I64 e->m3.ok (c+60)->b<m3.blocks.length->Nz s M vs W0 h' o0 m3 (.slice (some ⟨B,0,none⟩) 12 12) opsL->Lft.look ρ 0=some (.pointer (some ⟨M,0,none⟩))->Lft.look ρ 1=some (.int .i64 b)->Lft.look ρ 4=some (.int .i64 kn)->Lft.look ρ 5=some (.pointer (some ⟨B,0,none⟩))->Lft.look ρ 6=some (.int .i64 r1.1)->Lft.look ρ 7=some (.int .i64 e)->LC.wp Tryz.prog z (dJ 0 (fq [] K)) ρ h':=by
   intro e m3 h' ρ hmm ie q hb n r0 r1' r4 r5 r6 r7;subst hz;obtain⟨W,o,n,sl,back⟩:=n.base;have iop:=sl.range (i:=kn) (by show kn<12;omega);have hop:ao W ⟨B,kn,none⟩=some (.int .i64 (nth opsL kn)):=by have:=sl.int (View.le_refl W) (i:=kn) (by show kn<12;omega);simpa[slA]using this
   have hix:Bn.ev (.aidx 12 1) (.pointer (some ⟨B,0,none⟩)) (.int .i64 kn)=some (.pointer (some ⟨B,kn,none⟩)):=by simp only[Bn.ev,vP,vI,L3];rw[if_pos ⟨by omega,by omega⟩];simp
   generalize nth opsL kn=op at hmm iop hop;refine bF W n.le ?_;simp[ag,ah,r0,r1',r4,r5,r6,r7,hix,hop];constructor
   ·refine aj (by kernel_rfl) (iy n q (by omega)) ?_;rintro _ h4 ⟨rfl,n⟩;refine⟨n.le,?_⟩;refine n.lit (ls:=[r1.1,e]) (by simp) (by simp[i2,ie]) rfl (by decide) fun ua un uc h5 _ n=>⟨n.le,?_⟩;refine aE (z:=.agg #[.int .i64 0,.int .i64 0,.int .i64 0,.slice none 0 0,.int .i32 0]) (places:=[(0,1),(1,1),(2,1),(3,1),(4,1)]) (vs:=[(0,.int .i64 op),(1,.int .i64 m3.next),(3,.slice ua un uc)]) (cs:=#[.int .i64 op,.int .i64 m3.next,.int .i64 0,.slice ua un uc,.int .i32 0]) (by kernel_rfl) (by kernel_rfl) (by simp) (by rfl) ?_;refine aj (by kernel_rfl) (ll n (b:=b) hb q.aJ (by omega) iop (q.jZ (by omega)) i64c (by decide)) ?_;rintro _ h6 n;exact hK _ _ (by rw[hmm];exact(back n.z).x)
   refine n.lit (ls:=[r1.1,e]) (by simp) (by simp[i2,ie]) rfl (by decide) fun ua un uc h5 _ n=>⟨n.le,?_⟩;refine aj (by kernel_rfl) (iy n q (by omega)) ?_;rintro _ h4 ⟨rfl,n⟩;refine⟨n.le,?_⟩;refine aE (z:=.agg #[.int .i64 0,.int .i64 0,.int .i64 0,.slice none 0 0,.int .i32 0]) (places:=[(0,1),(1,1),(2,1),(3,1),(4,1)]) (vs:=[(0,.int .i64 op),(1,.int .i64 m3.next),(3,.slice ua un uc)]) (cs:=#[.int .i64 op,.int .i64 m3.next,.int .i64 0,.slice ua un uc,.int .i32 0]) (by kernel_rfl) (by kernel_rfl) (by simp) (by rfl) ?_;refine aj (by kernel_rfl) (ll n (b:=b) hb q.aJ (by omega) iop (q.jZ (by omega)) i64c (by decide)) ?_;rintro _ h6 n;exact hK _ _ (by rw[hmm];exact(back n.z).x)
  refine aa fun y hy=>?_;simp;refine aj (by kernel_rfl) (fD n q (by omega) (k:=3) (by decide) (by decide)) ?_;rintro _ h5 ⟨rfl,n⟩;simp;subst hy;by_cases c4:aG s r2.2.at_ 3=0
  ·rw[if_pos c4]at hmm;refine aw (by simp[c4]) ?_;simp;refine aj (by kernel_rfl) (fD n q.took (by omega) (k:=40) (by decide) (by decide)) ?_;rintro _ h6 ⟨rfl,n⟩;have hx:r2.2.took.at_=r2.2.at_+1:=rfl;rw[hx];simp;refine aj (by kernel_rfl) (gW n (b:=b) hb3 q.took.took (by omega) (k:=IntKind.i32.wrap (IntKind.i64.wrap (aG s (r2.2.at_+1) 40-8))) mw) ?_;rintro _ h7 ⟨rfl,n⟩;refine fin r2.2.next _ h7 _ hmm (q.jZ (by omega)) (q.took.took.constant.mono (by omega)) (by rw[dP];exact hb3) n ?_ ?_ ?_ ?_ ?_ ?_;all_goals simp
   rfl
  rw[if_neg c4]at hmm;refine au (by simp[c4]) ?_;simp;refine fin r2.1 _ h5 _ hmm i3 (q.took.mono (by omega)) hb3 n ?_ ?_ ?_ ?_ ?_ ?_;all_goals simp
 rw[if_neg c1]at hmm;refine au (by simp[c1]) ?_;refine aa fun z hz=>?_;simp;subst hz;by_cases c2:k=12
 ·rw[if_pos c2]at hmm;refine aw (by simp[c2]) ?_;refine aa fun z hz=>?_;simp;refine aj (by kernel_rfl) (iY n hb1 q (by omega)) ?_;rintro _ h2 ⟨⟨rfl,i2⟩,n⟩;have q:=q.aK (s:=s) (b:=b);have hb2:b<(aK s m1 b).2.blocks.length:=by rw[dY];exact hb1
  simp only[ltuS]at hmm;generalize aK s m1 b=r1 at hmm n q hb2 i2;subst hz;refine aa fun z hz=>?_;simp;refine aj (by kernel_rfl) (iY n hb2 q (by omega)) ?_;rintro _ h3 ⟨⟨rfl,i3⟩,n⟩;have q:=q.aK (s:=s) (b:=b);have hb3:b<(aK s r1.2 b).2.blocks.length:=by rw[dY];exact hb2
  generalize aK s r1.2 b=r2 at hmm n q hb3 i3;subst hz;simp;refine aj (by kernel_rfl) (iy n q (by omega)) ?_;rintro _ h4 ⟨rfl,n⟩;refine n.lit (ls:=[r1.1,r2.1]) (by simp) (by simp[i2,i3]) rfl (by decide) fun ua un uc h5 _ n=>?_;refine aE (z:=.agg #[.int .i64 0,.int .i64 0,.int .i64 0,.slice none 0 0,.int .i32 0]) (places:=[(0,1),(1,1),(2,1),(3,1),(4,1)]) (vs:=[(0,.int .i64 13),(1,.int .i64 r2.2.next),(3,.slice ua un uc)]) (cs:=#[.int .i64 13,.int .i64 r2.2.next,.int .i64 0,.slice ua un uc,.int .i32 0]) (by kernel_rfl) (by kernel_rfl) (by simp) (by rfl) ?_;refine aj (by kernel_rfl) (ll n (b:=b) hb3 q.aJ (by omega) i64c (q.jZ (by omega)) i64c (by decide)) ?_;rintro _ h6 n;exact hK _ _ (by rw[hmm];exact n)
 rw[if_neg c2]at hmm;refine au (by simp[c2]) ?_;refine aa fun z hz=>?_;simp;subst hz;by_cases c3:k=13
 ·rw[if_pos c3]at hmm;refine aw (by simp[c3]) ?_;refine aa fun z hz=>?_;simp;refine aj (by kernel_rfl) (iY n hb1 q (by omega)) ?_;rintro _ h2 ⟨⟨rfl,i2⟩,n⟩;have q:=q.aK (s:=s) (b:=b);have hb2:b<(aK s m1 b).2.blocks.length:=by rw[dY];exact hb1
  simp only[divS]at hmm;generalize aK s m1 b=r1 at hmm n q hb2 i2;subst hz;refine aa fun z hz=>?_;simp;refine aj (by kernel_rfl) (fD n q (by omega) (k:=12) (by decide) (by decide)) ?_;rintro _ h3 ⟨rfl,n⟩;simp;refine aj (by kernel_rfl) (gW n (b:=b) hb2 q.took (by omega) (k:=IntKind.i32.wrap (aG s r1.2.at_ 12)) mw) ?_;rintro _ h4 ⟨rfl,n⟩;have i4:I64 r1.2.took.next:=q.took.jZ (by omega);have q:=q.took.constant (b:=b) (n:=IntKind.i32.wrap (aG s r1.2.at_ 12));have hb3:b<(r1.2.took.constant b (IntKind.i32.wrap (aG s r1.2.at_ 12))).blocks.length:=by rw[dP];exact hb2
  have ht:r1.2.took.next=r1.2.next:=rfl;rw[ht]at i4 ⊢;generalize r1.2.took.constant b (IntKind.i32.wrap (aG s r1.2.at_ 12))=m2 at hmm n q hb3;generalize r1.2.next=d at hmm i4;subst hz;refine aa fun z hz=>?_;have fin : ∀(e:Int) (m3:MS) (h':Heap) (ρ:Env),aQ s b m=m3.two b 14 r1.1 e->I64 e->m3.ok (c+60)->b<m3.blocks.length->Nz s M vs W0 h' o0 m3 (.slice none 0 0) []->Lft.look ρ 0=some (.pointer (some ⟨M,0,none⟩))->Lft.look ρ 1=some (.int .i64 b)->Lft.look ρ 10=some (.int .i64 r1.1)->Lft.look ρ 11=some (.int .i64 e)->LC.wp Tryz.prog z (dJ 0 (fq [] K)) ρ h':=by intro e m3 h' ρ hmm ie q hb n r0 r1' r10 r11;subst hz;simp[ag,ah,r0,r1',r10,r11];refine aj (by kernel_rfl) (iy n q (by omega)) ?_;rintro _ h4 ⟨rfl,n⟩;refine n.lit (ls:=[r1.1,e]) (by simp) (by simp[i2,ie]) rfl (by decide) fun ua un uc h5 _ n=>?_;refine aE (z:=.agg #[.int .i64 0,.int .i64 0,.int .i64 0,.slice none 0 0,.int .i32 0]) (places:=[(0,1),(1,1),(2,1),(3,1),(4,1)]) (vs:=[(0,.int .i64 14),(1,.int .i64 m3.next),(3,.slice ua un uc)]) (cs:=#[.int .i64 14,.int .i64 m3.next,.int .i64 0,.slice ua un uc,.int .i32 0]) (by kernel_rfl) (by kernel_rfl) (by simp) (by rfl) ?_;refine aj (by kernel_rfl) (ll n (b:=b) hb q.aJ (by omega) i64c (q.jZ (by omega)) i64c (by decide)) ?_;rintro _ h6 n;exact hK _ _ (by rw[hmm];exact n)
  refine aa fun y hy=>?_;simp;refine aj (by kernel_rfl) (fD n q (by omega) (k:=3) (by decide) (by decide)) ?_;rintro _ h5 ⟨rfl,n⟩;simp;subst hy;by_cases c4:0<aG s m2.at_ 3
  ·rw[if_pos c4]at hmm;refine aw (by simp[c4]) ?_;simp;refine aj (by kernel_rfl) (fD n q.took (by omega) (k:=12) (by decide) (by decide)) ?_;rintro _ h6 ⟨rfl,n⟩;have hx:m2.took.at_=m2.at_+1:=rfl;rw[hx];simp;refine aj (by kernel_rfl) (gW n (b:=b) hb3 q.took.took (by omega) (k:=IntKind.i32.wrap (1+IntKind.i32.wrap (aG s (m2.at_+1) 12))) mw) ?_;rintro _ h7 ⟨rfl,n⟩;refine fin m2.next _ h7 _ hmm (q.jZ (by omega)) (q.took.took.constant.mono (by omega)) (by rw[dP];exact hb3) n ?_ ?_ ?_ ?_;all_goals simp
   rfl
  rw[if_neg c4]at hmm;refine au (by simp[c4]) ?_;simp;refine fin d _ h5 _ hmm i4 (q.took.mono (by omega)) hb3 n ?_ ?_ ?_ ?_;all_goals simp
 rw[if_neg c3]at hmm;refine au (by simp[c3]) ?_;refine aa fun z hz=>?_;simp;subst hz;by_cases c4:k<16
 ·rw[if_pos c4]at hmm;refine aw (by simp[c4]) ?_;simp;refine aj (by kernel_rfl) (DY n.x (store:=decide (k=15)) hb1 q (by omega)) ?_;rintro _ h2 n;exact hK _ _ (by rw[hmm];exact n)
 rw[if_neg c4]at hmm;refine au (by simp[c4]) ?_;refine aa fun z hz=>?_;simp;subst hz;by_cases c5:k=16
 ·rw[if_pos c5]at hmm;refine aw (by simp[c5]) ?_;refine aa fun z hz=>?_;simp;obtain⟨W,o,g1,w,f,-⟩:=n;have hk9:o (9,0)=none:=(f _ (by decide)).trans hfree;refine w.own.dy (k:=(9,0)) (α:=Int) hk9 El.aS fun v h2 hle2 hv w2 _=>?_;have w2:Mk s M vs W h2 (o.upd (9,0) (it T.int v ([]:List Int))) m1:=by obtain⟨vb,vl,lb,bb⟩:=w.box;exact⟨w2,w.src,vb,vl,lb,bb.frame fun k hk=>Own.ab (by rintro rfl;simp at hk)⟩
  subst hz;refine aa fun z hz=>?_;simp;refine aj (by kernel_rfl) (w2.take (by have:=q.at_;omega) (n:=5) (by decide) (by decide)) ?_;rintro _ h3 ⟨rfl,o3,w3,f3⟩;simp only[nZ]at hmm;have q:=q.took;have hb2:b<m1.took.blocks.length:=hb1;obtain⟨t0,t1⟩:=cc (s:=s) (at_:=m1.at_) (n:=5) (by decide);generalize aG s m1.at_ 5=t at hmm t0 t1;obtain⟨tn,rfl⟩ : ∃tn:Nat,t=tn:=⟨t.toNat,by omega⟩;rw[show((tn:Int)).toNat=tn by omega]at hmm;have hup:=CB (s:=s) (b:=b) (x:=([],m1.took)) q;generalize m1.took=m2 at hmm q hb2 hup w3;subst hz;refine aa fun z hz=>?_;simp;refine aO [0,1,4,12,13,14] (fun(v:Value) i=>[.pointer (some ⟨M,0,none⟩),.int .i64 b,.int .i64 k,v,.int .i64 tn,.int .i64 i]) (fun v i h4=>∃W' o',W0.le W'/\Mk s M vs W' h4 o' (up (iR s b) i ([],m2)).2/\o' (9,0)=it T.int v (up (iR s b) i ([],m2)).1/\∀q:Key,3<=q.1->q≠(9,0)->o' q=o0 q) tn v
   rfl (by omega) rfl ⟨W,o3,g1,w3,(f3 _ (by decide)).trans Own.af,fun q h1 h2=>(f3 q h1).trans ((Own.ab h2).trans (f q h1))⟩ (fun _ _=>rfl) (fun v k h hk m=>by simp) ?_ ?_
  ·rintro v i h4 hlt ⟨W4,o4,g4,w4,e4,f4⟩ K2 hK2;obtain⟨qi,li,bi⟩:=hup i;have e5:up (iR s b) (i+1) ([],m2)=((up (iR s b) i ([],m2)).1++[(aK s (up (iR s b) i ([],m2)).2 b).1],(aK s (up (iR s b) i ([],m2)).2 b).2):=rfl;have hb4:b<(up (iR s b) i ([],m2)).2.blocks.length:=by rw[bi];exact hb2
   generalize up (iR s b) i ([],m2)=x at w4 e4 e5 qi li bi hb4;have li:x.1.length=i:=by simpa using li
   simp;refine aj (by kernel_rfl) (C7 w4 hb4 qi (by omega)) ?_;rintro _ h5 ⟨rfl,i5,W5,o5,g5,w5,f5⟩;have e6:o5 (9,0)=it T.int v x.1:=(f5 _ (by decide)).trans e4;refine w5.own.fg (k:=(9,0)) (α:=Int) (d:=(aK s x.2 b).1) e6 El.aS rfl (dr.2 ⟨rfl,i5⟩) (by omega) (by omega) (fun _=>rfl) (fun _=>rfl) fun u v' h6 w6 _=>?_;refine hK2 v' _ _ rfl rfl ⟨W5,_,View.le_trans g4 g5,⟨w6,w5.src,?_⟩,?_,?_⟩
   ·obtain⟨vb,vl,lb,bb⟩:=w5.box;rw[e5];exact⟨vb,vl,lb,bb.frame fun k hk=>Own.ab (by rintro rfl;simp at hk)⟩
   ·rw[e5];exact Own.af
   intro q h1 h2;exact(Own.ab h2).trans ((f5 q h1).trans (f4 q h1 h2))
  rintro v h4 ⟨W4,o4,g4,w4,e4,f4⟩;obtain⟨qi,li,bi⟩:=hup tn;have hb4:b<(up (iR s b) tn ([],m2)).2.blocks.length:=by rw[bi];exact hb2
  generalize up (iR s b) tn ([],m2)=x at w4 e4 qi li bi hb4 hmm;obtain⟨w5,sl⟩:=w4.own.freeze e4;have sl2:=sl;obtain⟨ua,uc,rfl,_⟩:=sl2;have hWp:=eD (h:=h4) (w4.own.av _ _ e4);have n:Nz s M vs W0 h4 o0 x.2 (.slice ua x.1.length uc) x.1:=by
   obtain⟨vb,vl,lb,bb⟩:=w4.box;refine⟨_,_,View.le_trans g4 hWp,⟨w5,w4.src.mono hWp,vb,vl,lb,bb.frame fun k hk=>Own.ab (by rintro rfl;simp at hk)⟩,fun q h1=>?_,sl⟩;by_cases e:q=(9,0)
   ·rw[e,Own.af,hfree]
   exact(Own.ab e).trans (f4 q h1 e)
  generalize x.1.length=un at n;simp;subst hz;simp;refine aj (by kernel_rfl) (iy n qi (by omega)) ?_;rintro _ h5 ⟨rfl,n⟩;refine aj (by kernel_rfl) (fD n qi.aJ (by omega) (k:=5) (by decide) (by decide)) ?_;rintro _ h6 ⟨rfl,n⟩;have hx:x.2.aJ.at_=x.2.at_:=rfl;rw[hx];simp;refine aE (z:=.agg #[.int .i64 0,.int .i64 0,.int .i64 0,.slice none 0 0,.int .i32 0]) (places:=[(0,1),(1,1),(2,1),(3,1),(4,1)]) (vs:=[(0,.int .i64 17),(1,.int .i64 x.2.next),(3,.slice ua un uc),(4,.int .i32 (IntKind.i32.wrap (aG s x.2.at_ 5)))]) (cs:=#[.int .i64 17,.int .i64 x.2.next,.int .i64 0,.slice ua un uc,.int .i32 (IntKind.i32.wrap (aG s x.2.at_ 5))]) (by kernel_rfl) (by kernel_rfl) (by simp) (by rfl) ?_;refine aj (by kernel_rfl) (ll n (b:=b) hb4 qi.aJ.took (by omega) i64c (qi.jZ (by omega)) i64c mw) ?_;rintro _ h7 n;exact hK _ _ (by rw[hmm];exact n)
 rw[if_neg c5]at hmm;refine au (by simp[c5]) ?_;refine aa fun z hz=>?_;simp;subst hz;by_cases c6:k=17
 ·rw[if_pos c6]at hmm;refine aw (by simp[c6]) ?_;refine aa fun z hz=>?_;simp;refine aj (by kernel_rfl) (iY n hb1 q (by omega)) ?_;rintro _ h2 ⟨⟨rfl,i2⟩,n⟩;have q:=q.aK (s:=s) (b:=b);have hb2:b<(aK s m1 b).2.blocks.length:=by rw[dY];exact hb1
  simp only[xI]at hmm;generalize aK s m1 b=r1 at hmm n q hb2 i2;subst hz;refine aa fun z hz=>?_;simp;refine aj (by kernel_rfl) (iY n hb2 q (by omega)) ?_;rintro _ h3 ⟨⟨rfl,i3⟩,n⟩;have q:=q.aK (s:=s) (b:=b);have hb3:b<(aK s r1.2 b).2.blocks.length:=by rw[dY];exact hb2
  generalize aK s r1.2 b=r2 at hmm n q hb3 i3;subst hz;refine aa fun z hz=>?_;simp;refine aj (by kernel_rfl) (iy n q (by omega)) ?_;rintro _ h4 ⟨rfl,n⟩;subst hz;simp;refine aj (by kernel_rfl) (iy n q.aJ (by omega)) ?_;rintro _ h5 ⟨rfl,n⟩;have hx:r2.2.aJ.next=r2.2.next+1:=rfl;rw[hx];have j5:=q.aJ.jZ (by omega);rw[hx]at j5;refine n.lit (ls:=[r1.1,r2.1]) (by simp) (by simp[i2,i3]) rfl (by decide) fun ua un uc h5 _ n=>?_;refine aE (z:=.agg #[.int .i64 0,.int .i64 0,.int .i64 0,.slice none 0 0,.int .i32 0]) (places:=[(0,1),(1,1),(2,1),(3,1),(4,1)]) (vs:=[(0,.int .i64 18),(1,.int .i64 r2.2.next),(2,.int .i64 (r2.2.next+1)),(3,.slice ua un uc)]) (cs:=#[.int .i64 18,.int .i64 r2.2.next,.int .i64 (r2.2.next+1),.slice ua un uc,.int .i32 0]) (by kernel_rfl) (by kernel_rfl) (by simp) (by rfl) ?_;refine aj (by kernel_rfl) (ll n (b:=b) hb3 q.aJ.aJ (by omega) i64c (q.jZ (by omega)) j5 (by decide)) ?_;rintro _ h6 n;exact hK _ _ (by rw[hmm];exact n)
 rw[if_neg c6]at hmm;refine au (by simp[c6]) ?_;simp;refine aj (by kernel_rfl) (yx n q (by omega)) ?_;rintro _ h2 ⟨rfl,n⟩;refine aj (by kernel_rfl) (gW n (b:=b) hb1 q.took.took (by omega) (k:=kS s m1) pJ) ?_;rintro _ h3 ⟨rfl,n⟩;exact hK _ _ (by rw[hmm];exact n.x)
section
variable {s:List Int} {m:MS} {b c:Nat}
theorem mS:m.took.blocks.length=m.blocks.length:=rfl
theorem oU:m.aJ.blocks.length=m.blocks.length:=rfl
theorem MS.ok.addr(h:m.ok c):(nT s m b).2.ok (c+30):=by
 unfold nT;simp only;split
 ·exact((((h.took.constant).took.aK).constant).two.two).mono (by omega)
 exact(h.took.constant.took).mono (by omega)
theorem Gh:(nT s m b).2.blocks.length=m.blocks.length:=by unfold nT;simp only;split<;>simp[nk,dP,dY,mS]
theorem MS.ok.off(h:m.ok c):(offS s m).2.ok (c+4):=by
 unfold offS;split
 ·exact h.took.took.took.took
 exact h.took.took.mono (by omega)
theorem G4:(offS s m).2.blocks.length=m.blocks.length:=by unfold offS;split<;>rfl
theorem MS.ok.memory{st:Bool}(h:m.ok c):(jw s m b st).ok (c+60):=by
 unfold jw;simp only;split
 ·exact(((h.addr).off.aK).add).mono (by omega)
 exact(((h.addr).off.aJ).add).mono (by omega)
theorem Bi{st:Bool}:(jw s m b st).blocks.length=m.blocks.length:=by unfold jw;simp only;split<;>simp[mB,dY,G4,Gh,oU]
theorem MS.ok.bin{op:Int}(h:m.ok c):(binS s m b op).ok (c+60):=by
 unfold binS;simp only;split
 ·exact((h.aK.aK).took.took.constant.two).mono (by omega)
 exact((h.aK.aK).took.two).mono (by omega)
theorem Ht{op:Int}:(binS s m b op).blocks.length=m.blocks.length:=by unfold binS;simp only;split<;>simp[nk,dP,dY,mS]
theorem MS.ok.div(h:m.ok c):(divS s m b).ok (c+60):=by
 unfold divS;simp only;split
 ·exact((h.aK).took.constant.took.took.constant.two).mono (by omega)
 exact((h.aK).took.constant.took.two).mono (by omega)
theorem Hg:(divS s m b).blocks.length=m.blocks.length:=by unfold divS;simp only;split<;>simp[nk,dP,dY,mS]
theorem MS.ok.nZ (h:m.ok c):(nZ s m b).ok (c+70):=by unfold Go.Proofs.YtbkdlhkoiagbbaaGreat.nZ;simp only;have ht:=cc (s:=s) (at_:=m.at_) (n:=5) (by decide);have:=(CB (s:=s) (b:=b) (x:=([],m.took)) h.took (aG s m.at_ 5).toNat).1;exact(this.aJ.took.add).mono (by omega)
theorem EK:(nZ s m b).blocks.length=m.blocks.length:=by unfold nZ;simp only;rw[mB,mS,oU];exact AI (s:=s) (b:=b) (x:=([],m.took)) _
theorem MS.ok.jJ(h:m.ok c):(aQ s b m).ok (c+80):=by
 unfold aQ;simp only;repeat' split
 ·exact h.took.bin.mono (by omega)
 ·unfold ltuS;exact(h.took.aK.aK.two).mono (by omega)
 ·exact h.took.div.mono (by omega)
 ·exact h.took.memory.mono (by omega)
 ·exact h.took.nZ.mono (by omega)
 ·unfold xI;exact(h.took.aK.aK.aJ.aJ.add).mono (by omega)
 exact h.took.took.took.constant.mono (by omega)
theorem nU:(aQ s b m).blocks.length=m.blocks.length:=by
 unfold aQ;simp only;repeat' split
 all_goals simp[Ht,ltuS,Hg,Bi,EK,xI,nk,dP,dY,mS,oU,mB]
end
def MS.zj (m:MS) (b:Nat) (t:da):MS:={ m with blocks:=m.blocks.set b { nth m.blocks b with term:=t } }
def cmpL:List Int:=[11,12,13]
def jd (s:List Int) (to:List Int) (b:Nat) (m:MS):da × MS:=
 if to.length=0 then
  if aG s m.at_ 8=0 then(⟨5,[],[],⟨IntKind.i32.wrap (aG s (m.at_+1) 200)⟩⟩,m.took.took)
  else if 1<aG s m.at_ 8 then(⟨4,[(aK s m.took b).1],[],⟨0⟩⟩,(aK s m.took b).2)
  else(⟨4,[],[],⟨0⟩⟩,m.took)
 else if to.length=1 then(⟨1,[],to,⟨0⟩⟩,m)
 else if to.length=2 then
  let r:=aK s m b
  if aG s r.2.at_ 2=0 then
   let w:=aK s r.2.took b
   (⟨2,[w.2.next],to,⟨0⟩⟩,w.2.aJ.took.add b ⟨nth cmpL (aG s w.2.at_ 3).toNat,w.2.next,0,[r.1,w.1],⟨0⟩⟩)
  else(⟨2,[r.1],to,⟨0⟩⟩,r.2.took)
 else
  let r:=aK s m b
  let m2:=r.2.constant b 7
  (⟨3,[m2.next],to,⟨0⟩⟩,m2.two b 5 r.1 r.2.next)
def pq (s:List Int) (to:List Int) (b:Nat) (m:MS):MS:=(jd s to b m).2.zj b (jd s to b m).1
section
variable {s:List Int} {M:Nat} {vs:Value} {W0:View} {h:Heap} {o0:Own} {m:MS} {u:Value} {ds:List Int}
theorem Nz.bu {po:OP} (n:Nz s M vs W0 h o0 m u ds) {k:Key} {e:TypeId} {B N i:Nat} {l:List Value} {ty t:TypeId} {us:List (Nat × Value)} {x y:Operand} {v:Value} {K:Value->Heap->Prop} (h3:3<=k.1) (hk:o0 k=bx e B (RawN.mk (n:=N) l)) (hi:i<=N) (hsz:cC Tryz.prog t=some 1) (hx:asg us x = .pointer (some ⟨B,i,none⟩)) (hy:asg us y=v) (hv:v.oneCell'=true)
  (hK : ∀h',Nz s M vs W0 h' (o0.upd k (bx e B (RawN.mk (n:=N) (l.set i v)))) m u ds->K undef h'):@Lft.step po Tryz.prog (.store t x y) ty us h K:=by
 obtain⟨W,o,g1,w,f,sl⟩:=n;refine w.own.bu (k:=k) (n:=N) (i:=i) (e:=e) (B:=B) (l:=l) ((f k h3).trans hk) hi hsz hx hy hv fun h' w' _=>hK h' ?_;obtain⟨vb,vl,lb,bb⟩:=w.box;refine⟨W,_,g1,⟨w',w.src,vb,vl,lb,bb.frame fun q hq=>Own.ab (by rintro rfl;omega)⟩,fun q hq=>?_,sl⟩;unfold Own.upd;split
 ·rfl
 exact f q hq
theorem Nz.re(n:Nz s M vs W0 h o0 m u ds){o0':Own}(he : ∀k,o0' k=o0 k):Nz s M vs W0 h o0' m u ds:=by obtain⟨W,o,g1,w,f,sl⟩:=n;exact⟨W,o,g1,w,fun k hk=>(f k hk).trans (he k).symm,sl⟩
variable{po:OP}{W:View}{ty:TypeId}{us:List (Nat × Value)}{y:Operand}{K:Value->Heap->Prop}
theorem Mk.Is{o:Own}(w:Mk s M vs W h o m){vb vl:Value}{lb:List BlkM}(bb:MkB M vs m o vb vl lb){t:da}{v:Value}{ty2:TypeId}{x:Operand}(hb:b<m.blocks.length)(hsz:cC Tryz.prog ty2=some 4)(hx:asg us x = .pointer (some (((slA vb).add (b*6)).add 2)))(hy:asg us y=v)(hr:Rd W v t)(hK : ∀h' o',Mk s M vs W h' o' (m.zj b t)->(∀k:Key,3<=k.1->o' k=o k)->K undef h'):@Lft.step po Tryz.prog (.store ty2 x y) ty us h K:=by
 have hbl:b<lb.length:=by rw[bb.len];exact hb
 refine w.own.je (k:=(0,2)) (α:=BlkM) BlkM.kz (v:=vb) (l:=lb) (i:=b) (d:=t) bb.blk hsz hx hy hbl hr fun h7 w7 _=>?_;refine hK h7 _ ⟨w7,w.src,vb,vl,_,bb.bj hb (x':={ nth m.blocks b with term:=t }) (y':={ lb[b]with term:=t }) rfl Own.af ?_ ?_ fun q h1 _ _=>Own.ab h1⟩ (ni (by decide))
 ·rw[Own.ab (by simp),bb.phis b hb,ak hbl]
 rw[Own.ab (by simp),bb.ins b hb,ak hbl]
end
theorem Ey{va vt:Value}{a t:List Int}{kd:Int}{imm:I32}(h3:SlRd H va a)(h4:SlRd H vt t)(h5:I64 kd)(h6:-2147483648<=imm.v/\imm.v<=2147483647):Rd H (.agg #[.int .i64 kd,va,vt,.int .i32 imm.v]) (da.mk kd a t imm):=
 ⟨_,rfl,[.int .i64 kd],_,rfl,⟨rfl,h5⟩,[va],_,rfl,⟨va,rfl,h3⟩,[vt],_,rfl,⟨vt,rfl,h4⟩,rfl,h6⟩
theorem GN: ∀x∈cmpL,I64 x:=by
 intro x hx;have : ∀x∈cmpL,0<=x/\x<=13:=by decide
 have:=this x hx;exact⟨by omega,by omega⟩
theorem JP{s:List Int}{M:Nat}{vs:Value}{W0:View}{h:Heap}{o0:Own}{m:MS}{vt:Value}{to:List Int}(n:Nx s M vs W0 h o0 m){c:Nat}(hb:b<m.blocks.length)(hm:m.ok c)(hc:c<=800000)(hfree:o0 (9,1)=none)(ht:SlRd W0 vt to):
  az Tryz.prog N.dO #[.pointer (some ⟨M,0,none⟩),.int .i64 b,vt] h (fun v h'=>Nx s M vs W0 h' o0 (pq s to b m)):=by
 refine aq (args:=[.pointer (some ⟨M,0,none⟩),.int .i64 b,vt]) follows F.dO E.dO (LD (by kernel_rfl)) fun K hK=>?_;dsimp only[L.dO];have hmm:pq s to b m=_:=pq.eq_1 s to b m;have htm:jd s to b m=_:=jd.eq_1 s to b m;obtain⟨Wb,ob,gb,wb,fb⟩:=n;refine aa fun z hz=>?_;simp;refine aE (z:=.agg #[.int .i64 0,.slice none 0 0,.slice none 0 0,.int .i32 0]) (places:=[(0,1),(1,1),(2,1),(3,1)]) (vs:=[]) (cs:=#[.int .i64 0,.slice none 0 0,.slice none 0 0,.int .i32 0]) (by kernel_rfl) (by kernel_rfl) (by simp) (by rfl) ?_;refine wb.own.mI (k:=(9,1)) (n:=3) (l:=[.int .i64 0,.slice none 0 0,.slice none 0 0,.int .i32 0]) ((fb _ (by decide)).trans hfree) (z:=.agg #[.int .i64 0,.slice none 0 0,.slice none 0 0,.int .i32 0]) (by kernel_rfl) rfl (by kernel_rfl) rfl (by decide) (by simp[Value.oneCell']) (fun _=>by simp) (fun _=>by simp) fun h1 q1 w1=>?_;generalize h.size=B at w1;obtain⟨o1,ho1⟩ : ∃o1,o1=ob.upd (9,1) (bx T.j4 B (RawN.mk (n:=3) [.int .i64 0,.slice none 0 0,.slice none 0 0,.int .i32 0])):=⟨_,rfl⟩;have k1:o1 (9,1)=bx T.j4 B (RawN.mk (n:=3) [.int .i64 0,.slice none 0 0,.slice none 0 0,.int .i32 0]):=by rw[ho1,Own.af]
 have ht:=ht.mono gb;have n:Nz s M vs Wb h1 o1 m (.slice none 0 0) []:=by obtain⟨vb,vl,lb,bb⟩:=wb.box;rw[ho1];exact⟨Wb,_,View.le_refl _,⟨w1,wb.src,vb,vl,lb,bb.frame fun q hq=>Own.ab (by rintro rfl;simp at hq)⟩,fun _ _=>rfl,fo⟩
 have back : ∀{h':Heap} {W':View} {o':Own} {m':MS} {i:Option Lft.Item},Wb.le W'->Mk s M vs W' h' o' m'->(∀k:Key,3<=k.1->o' k=o1.upd (9,1) i k)->Nx s M vs W0 h' o0 m':=by
  intro h' W' o' m' i g w f;refine⟨W',o'.upd (9,1) none,View.le_trans gb g,⟨w.own.sub fun q j hq=>?_,w.src,?_⟩,fun k hk=>?_⟩
  ·unfold Own.upd at hq;split at hq
   ·cases hq
   exact hq
  ·obtain⟨vb,vl,lb,bb⟩:=w.box;exact⟨vb,vl,lb,bb.frame fun q hq=>Own.ab (by rintro rfl;simp at hq)⟩
  by_cases e:k=(9,1)
  ·rw[e,Own.af,hfree]
  rw[Own.ab e,f k hk,Own.ab e,ho1,Own.ab e,fb k hk]
 clear wb w1 q1;subst hz;refine aa fun z hz=>?_;have fin : ∀(kd:Int) (va vt':Value) (args to':List Int) (im:Int) (m2:MS) (h':Heap) (ρ:Env),jd s to b m=(⟨kd,args,to',⟨im⟩⟩,m2)->I64 kd->(-2147483648<=im/\im<=2147483647)->b<m2.blocks.length->Nz s M vs Wb h' (o1.upd (9,1) (bx T.j4 B (RawN.mk (n:=3) [.int .i64 kd,va,vt',.int .i32 im]))) m2 va args->SlRd Wb vt' to'->Lft.look ρ 0=some (.pointer (some ⟨M,0,none⟩))->Lft.look ρ 1=some (.int .i64 b)->Lft.look ρ 6=some (.pointer (some ⟨B,0,none⟩))->LC.wp Tryz.prog z (fq [] K) ρ h':=by
  intro kd va vt' args to' im m2 h' ρ e ikd iim hb n ht' r0 r1 r6;subst hz;rw[e]at hmm;obtain⟨W,o,g1,w,f,sl⟩:=n;obtain⟨vb,vl,lb,bb⟩:=w.box;have hk:o (9,1)=bx T.j4 B (RawN.mk (n:=3) [.int .i64 kd,va,vt',.int .i32 im]):=(f _ (by decide)).trans Own.af;have c4:=w.own.dI (k:=(9,1)) (n:=3) hk;have c4:Un.ev (vw h') (.al 4) (.pointer (some ⟨B,0,none⟩))=some (.agg #[.int .i64 kd,va,vt',.int .i32 im]):=c4;have c3:ao (vw h') ⟨M,3,none⟩=some vb:=bb.cell w.own (i:=3) (by decide);have hbl:b<lb.length:=by rw[bb.len];exact hb
  have sb:=w.own.now bb.blk;have sbb:=sb.bound;refine bF (vw h') (View.le_refl _) ?_;simp(disch:=omega)[r0,r1,r6,c3,c4,sb.idxn (N:=6) rfl];refine w.Is bb (b:=b) (t:=⟨kd,args,to',⟨im⟩⟩) hb (by kernel_rfl) rfl rfl (Ey (imm:=⟨im⟩) sl (ht'.mono g1) ikd iim) fun h2 o2 w2 f2=>?_;refine hK _ _ ?_;rw[hmm];exact back g1 w2 fun k hk=>(f2 k hk).trans (f k hk)
 have hlen : ∀{Q:View},Un.ev Q .len vt=some (.int .i64 to.length):=fun{Q}=>ht.len;refine aa fun y hy=>?_;simp[hlen];subst hy;simp only[aR];refine aa fun y hy=>?_;simp;subst hy;by_cases c0:to.length=0
 ·have c0':to=[]:=LO c0;rw[if_pos c0]at htm;refine aw (by simp[c0,c0']) ?_;refine aa fun y hy=>?_;simp;refine n.bu (k:=(9,1)) (i:=0) (by decide) k1 (by decide) (by kernel_rfl) rfl rfl rfl fun h2 n=>?_;subst hy;refine aa fun y hy=>?_;simp;refine aj (by kernel_rfl) (fD n hm (by omega) (k:=8) (by decide) (by decide)) ?_;rintro _ h3 ⟨rfl,n⟩;obtain⟨t0,t1⟩:=cc (s:=s) (at_:=m.at_) (n:=8) (by decide);subst hy;refine aa fun y hy=>?_;simp;subst hy;have n:Nz s M vs Wb h3 (o1.upd (9,1) (bx T.j4 B (RawN.mk (n:=3) [.int .i64 4,.slice none 0 0,.slice none 0 0,.int .i32 0]))) m.took (.slice none 0 0) []:=n
  by_cases c1:aG s m.at_ 8=0
  ·rw[if_pos c1]at htm;refine aw (by simp[c1]) ?_;refine aa fun y hy=>?_;simp;refine n.bu (k:=(9,1)) (i:=0) (by decide) Own.af (by decide) (by kernel_rfl) rfl rfl rfl fun h4 n=>?_;subst hy;simp;refine aj (by kernel_rfl) (fD n hm.took (by omega) (k:=200) (by decide) (by decide)) ?_;rintro _ h5 ⟨rfl,n⟩;have hx:m.took.at_=m.at_+1:=rfl;rw[hx];simp;refine n.bu (k:=(9,1)) (i:=3) (by decide) Own.af (by decide) (by kernel_rfl) rfl rfl rfl fun h6 n=>?_;refine fin 5 (.slice none 0 0) (.slice none 0 0) [] [] _ _ h6 _ htm i64c mw hb ?_ fo ?_ ?_ ?_
   ·exact n.re fun k=>by rw[cz,cz];rfl
   all_goals simp
  rw[if_neg c1]at htm;refine au (by simp[c1]) ?_;refine aa fun y hy=>?_;simp;subst hy;by_cases c2:1<aG s m.at_ 8
  ·rw[if_pos c2]at htm;refine aw (by simp[c2]) ?_;simp;refine aj (by kernel_rfl) (iY n (b:=b) hb hm.took (by omega)) ?_;rintro _ h4 ⟨⟨rfl,i4⟩,n⟩;have hb2:b<(aK s m.took b).2.blocks.length:=by rw[dY];exact hb
   generalize aK s m.took b=r at htm i4 n hb2;refine n.lit (ls:=[r.1]) (by simp) (by simp[i4]) rfl (by decide) fun ua un uc h5 _ n=>?_;refine n.bu (k:=(9,1)) (i:=1) (by decide) Own.af (by decide) (by kernel_rfl) rfl rfl rfl fun h6 n=>?_;refine fin 4 (.slice ua un uc) (.slice none 0 0) [r.1] [] 0 _ h6 _ htm i64c (by decide) hb2 (n.re fun k=>by rw[cz];rfl) fo ?_ ?_ ?_;all_goals simp
  rw[if_neg c2]at htm;refine au (by simp[c2]) ?_;simp;refine fin 4 (.slice none 0 0) (.slice none 0 0) [] [] 0 _ h3 _ htm i64c (by decide) hb n fo ?_ ?_ ?_;all_goals simp
 rw[if_neg c0]at htm;have c0':¬to=[]:=fun e=>c0 (by rw[e];rfl);have hvt:vt.oneCell'=true:=ht.cells.2
 refine au (by simp[c0']) ?_;refine aa fun y hy=>?_;simp;subst hy;by_cases c1:to.length=1
 ·rw[if_pos c1]at htm;refine aw (by simp[c1]) ?_;refine aa fun y hy=>?_;simp;refine n.bu (k:=(9,1)) (i:=0) (by decide) k1 (by decide) (by kernel_rfl) rfl rfl rfl fun h2 n=>?_;subst hy;simp;refine n.bu (k:=(9,1)) (i:=2) (by decide) Own.af (by decide) (by kernel_rfl) rfl rfl hvt fun h3 n=>?_;refine fin 1 (.slice none 0 0) vt [] to 0 _ h3 _ htm i64c (by decide) hb (n.re fun k=>by rw[cz];rfl) ht ?_ ?_ ?_;all_goals simp
 rw[if_neg c1]at htm;refine au (by simp;omega) ?_;refine aa fun y hy=>?_;simp;subst hy;by_cases c2:to.length=2
 ·rw[if_pos c2]at htm;refine aw (by simp[c2]) ?_;refine aa fun y hy=>?_;simp;refine n.bu (k:=(9,1)) (i:=0) (by decide) k1 (by decide) (by kernel_rfl) rfl rfl rfl fun h2 n=>?_;subst hy;refine aa fun y hy=>?_;simp;refine n.bu (k:=(9,1)) (i:=2) (by decide) Own.af (by decide) (by kernel_rfl) rfl rfl hvt fun h3 n=>?_;have n:Nz s M vs Wb h3 (o1.upd (9,1) (bx T.j4 B (RawN.mk (n:=3) [.int .i64 2,.slice none 0 0,vt,.int .i32 0]))) m (.slice none 0 0) []:=n.re fun k=>by rw[cz];rfl
  subst hy;refine aa fun y hy=>?_;simp;refine aj (by kernel_rfl) (iY n (b:=b) hb hm (by omega)) ?_;rintro _ h4 ⟨⟨rfl,i4⟩,n⟩;have q:=hm.aK (s:=s) (b:=b);have hb2:b<(aK s m b).2.blocks.length:=by rw[dY];exact hb
  simp only at htm;generalize aK s m b=r at htm i4 n hb2 q;subst hy;refine aa fun y hy=>?_;have fin2 : ∀(v:Int) (m3:MS) (h':Heap) (ρ:Env) (u:Value) (ds:List Int),jd s to b m=(⟨2,[v],to,⟨0⟩⟩,m3)->I64 v->b<m3.blocks.length->Nz s M vs Wb h' (o1.upd (9,1) (bx T.j4 B (RawN.mk (n:=3) [.int .i64 2,.slice none 0 0,vt,.int .i32 0]))) m3 u ds->Lft.look ρ 0=some (.pointer (some ⟨M,0,none⟩))->Lft.look ρ 1=some (.int .i64 b)->Lft.look ρ 6=some (.pointer (some ⟨B,0,none⟩))->Lft.look ρ 8=some (.int .i64 v)->LC.wp Tryz.prog y (dJ 0 (gr (LC.wp Tryz.prog z (fq [] K)) (fq [] K))) ρ h':=by intro v m3 h' ρ u ds e iv hb n r0 r1 r6 r8;subst hy;simp[ag,ah,r0,r1,r6,r8];refine n.lit (ls:=[v]) (by simp) (by simp[iv]) rfl (by decide) fun ua un uc h5 _ n=>?_;refine n.bu (k:=(9,1)) (i:=1) (by decide) Own.af (by decide) (by kernel_rfl) rfl rfl rfl fun h6 n=>?_;refine fin 2 (.slice ua un uc) vt [v] to 0 _ h6 _ e i64c (by decide) hb (n.re fun k=>by rw[cz];rfl) ht ?_ ?_ ?_;all_goals simp[ag,ah,r0,r1,r6,r8]
  refine aa fun x hx=>?_;simp;refine aj (by kernel_rfl) (fD n q (by omega) (k:=2) (by decide) (by decide)) ?_;rintro _ h5 ⟨rfl,n⟩;simp;subst hx;by_cases c3:aG s r.2.at_ 2=0
  ·rw[if_pos c3]at htm;refine aw (by simp[c3]) ?_;refine aa fun x hx=>?_;simp;refine aE (z:=.agg #[.int .i64 0,.int .i64 0,.int .i64 0]) (places:=[(0,1),(1,1),(2,1)]) (vs:=[(0,.int .i64 11),(1,.int .i64 12),(2,.int .i64 13)]) (cs:=#[.int .i64 11,.int .i64 12,.int .i64 13]) (by kernel_rfl) (by kernel_rfl) (by simp) (by rfl) ?_;refine jO (v:=.agg #[.int .i64 11,.int .i64 12,.int .i64 13]) (z:=.agg #[.int .i64 0,.int .i64 0,.int .i64 0]) (n:=3) (by kernel_rfl) rfl (by kernel_rfl) rfl (by simp[Value.cells,Value.oneCell']) (fun _=>by simp) (fun _=>by simp) fun h6 hle6 hs6 hb6=>?_;have n:Nz s M vs Wb h6 (o1.upd (9,1) (bx T.j4 B (RawN.mk (n:=3) [.int .i64 2,.slice none 0 0,vt,.int .i32 0]))) r.2.took (.slice (some ⟨h5.size,0,none⟩) 3 3) cmpL:=by
    obtain⟨W,o,g1,g2,g3,g4⟩:=n;refine⟨_,o,View.le_trans g1 (aH g2.own.wle),⟨g2.own.ext hle6,g2.src.mono (aH g2.own.wle),g2.box⟩,g3,?_⟩;have hg:grow W h5 h6 h5.size=some (.cells (cmpL.map fun x=>Value.int .i64 x).toArray T.mH (0,0)):=by rw[cM (LG _),hb6];rfl
    exact BD hg rfl (by decide) GN
   generalize h5.size=C at n;subst hx;refine aa fun x hx=>?_;simp;refine aj (by kernel_rfl) (iY n (b:=b) hb2 q.took (by omega)) ?_;rintro _ h7 ⟨⟨rfl,i7⟩,n⟩;have q:=q.took.aK (s:=s) (b:=b);have hb3:b<(aK s r.2.took b).2.blocks.length:=by rw[dY];exact hb2
   generalize aK s r.2.took b=w at htm i7 n hb3 q;subst hx;refine aa fun x hx=>?_;simp;refine aj (by kernel_rfl) (iy n q (by omega)) ?_;rintro _ h8 ⟨rfl,n⟩;have iw:=q.jZ (by omega);subst hx;refine aa fun x hx=>?_;simp;refine aj (by kernel_rfl) (fD n q.aJ (by omega) (k:=3) (by decide) (by decide)) ?_;rintro _ h9 ⟨rfl,n⟩;have hfx:w.2.aJ.at_=w.2.at_:=rfl
   rw[hfx];obtain⟨t0,t1⟩:=cc (s:=s) (at_:=w.2.at_) (n:=3) (by decide);generalize aG s w.2.at_ 3=k at htm t0 t1;obtain⟨kn,rfl⟩ : ∃kn:Nat,k=kn:=⟨k.toNat,by omega⟩;rw[show((kn:Int)).toNat=kn by omega]at htm;obtain⟨iop,hop⟩:I64 (nth cmpL kn)/\ao (vw h9) ⟨C,kn,none⟩=some (.int .i64 (nth cmpL kn)):=by obtain⟨W,o,g1,g2,g3,g4⟩:=n;refine⟨g4.range (i:=kn) (by show kn<3;omega),?_⟩;have:=g4.int g2.own.wle (i:=kn) (by show kn<3;omega);simpa[slA]using this
   have hix:Bn.ev (.aidx 3 1) (.pointer (some ⟨C,0,none⟩)) (.int .i64 kn)=some (.pointer (some ⟨C,kn,none⟩)):=by simp only[Bn.ev,vP,vI,L3];rw[if_pos ⟨by omega,by omega⟩];simp
   generalize nth cmpL kn=op at htm iop hop;simp[hix,hop];refine n.lit (ls:=[r.1,w.1]) (by simp) (by simp[i4,i7]) rfl (by decide) fun ua un uc h10 _ n=>?_;refine aE (z:=.agg #[.int .i64 0,.int .i64 0,.int .i64 0,.slice none 0 0,.int .i32 0]) (places:=[(0,1),(1,1),(2,1),(3,1),(4,1)]) (vs:=[(0,.int .i64 op),(1,.int .i64 w.2.next),(3,.slice ua un uc)]) (cs:=#[.int .i64 op,.int .i64 w.2.next,.int .i64 0,.slice ua un uc,.int .i32 0]) (by kernel_rfl) (by kernel_rfl) (by simp) (by rfl) ?_;refine aj (by kernel_rfl) (ll n (b:=b) hb3 q.aJ.took (by omega) iop iw i64c (by decide)) ?_;rintro _ h11 n;subst hx;simp;refine fin2 w.2.next _ h11 _ _ _ htm iw (by rw[mB];exact hb3) n.z ?_ ?_ ?_ ?_;all_goals simp
  rw[if_neg c3]at htm;refine au (by simp[c3]) ?_;simp;refine fin2 r.1 _ h5 _ _ _ htm i4 hb2 n ?_ ?_ ?_ ?_;all_goals simp
 rw[if_neg c2]at htm;refine au (by simp;omega) ?_;refine aa fun y hy=>?_;simp;refine n.bu (k:=(9,1)) (i:=0) (by decide) k1 (by decide) (by kernel_rfl) rfl rfl rfl fun h2 n=>?_;subst hy;refine aa fun y hy=>?_;simp;refine n.bu (k:=(9,1)) (i:=2) (by decide) Own.af (by decide) (by kernel_rfl) rfl rfl hvt fun h3 n=>?_;have n:Nz s M vs Wb h3 (o1.upd (9,1) (bx T.j4 B (RawN.mk (n:=3) [.int .i64 3,.slice none 0 0,vt,.int .i32 0]))) m (.slice none 0 0) []:=n.re fun k=>by rw[cz];rfl
 subst hy;refine aa fun y hy=>?_;simp;refine aj (by kernel_rfl) (iY n (b:=b) hb hm (by omega)) ?_;rintro _ h4 ⟨⟨rfl,i4⟩,n⟩;have q:=hm.aK (s:=s) (b:=b);have hb2:b<(aK s m b).2.blocks.length:=by rw[dY];exact hb
 simp only at htm;generalize aK s m b=r at htm i4 n hb2 q;subst hy;refine aa fun y hy=>?_;simp;refine aj (by kernel_rfl) (gW n (b:=b) hb2 q (by omega) (k:=7) (by decide)) ?_;rintro _ h5 ⟨rfl,n⟩;have i5:=q.jZ (by omega);have q5:=q.constant (b:=b) (n:=7);have hb3:b<(r.2.constant b 7).blocks.length:=by rw[dP];exact hb2
 generalize r.2.constant b 7=m2 at htm n q5 hb3;generalize r.2.next=d at htm i5;subst hy;refine aa fun y hy=>?_;simp;refine aj (by kernel_rfl) (iy n q5 (by omega)) ?_;rintro _ h6 ⟨rfl,n⟩;have i6:=q5.jZ (by omega);subst hy;refine aa fun y hy=>?_;simp;refine n.lit (ls:=[r.1,d]) (by simp) (by simp[i4,i5]) rfl (by decide) fun ua un uc h7 _ n=>?_;refine aE (z:=.agg #[.int .i64 0,.int .i64 0,.int .i64 0,.slice none 0 0,.int .i32 0]) (places:=[(0,1),(1,1),(2,1),(3,1),(4,1)]) (vs:=[(0,.int .i64 5),(1,.int .i64 m2.next),(3,.slice ua un uc)]) (cs:=#[.int .i64 5,.int .i64 m2.next,.int .i64 0,.slice ua un uc,.int .i32 0]) (by kernel_rfl) (by kernel_rfl) (by simp) (by rfl) ?_;refine aj (by kernel_rfl) (ll n (b:=b) hb3 q5.aJ (by omega) i64c i6 i64c (by decide)) ?_;rintro _ h8 n;have n:=n.z
 subst hy;simp;refine n.lit (ls:=[m2.next]) (by simp) (by simp[i6]) rfl (by decide) fun ua un uc h9 _ n=>?_;refine n.bu (k:=(9,1)) (i:=1) (by decide) Own.af (by decide) (by kernel_rfl) rfl rfl rfl fun h10 n=>?_;refine fin 3 (.slice ua un uc) vt [m2.next] to 0 _ h10 _ htm i64c (by decide) (show b<(m2.two b 5 r.1 d).blocks.length by rw[nk];exact hb3) (n.re fun k=>by rw[cz];rfl) ht ?_ ?_ ?_;all_goals simp
abbrev RSt:=List Bool × List Int
def jW (wo:Int) (to:List Int) (k:Nat) (s:RSt):RSt:=
 if(0<=nth to k/\nth to k<s.1.length)/\nth s.1 (nth to k).toNat=false/\nth to k≠wo then(s.1.set (nth to k).toNat true,s.2++[nth to k]) else s
def uG (f:an) (wo:Int) (i:Nat) (s:RSt):RSt:=up (jW wo (nth f.blocks (nth s.2 i).toNat).term.to) (nth f.blocks (nth s.2 i).toNat).term.to.length s
def rchS (f:an) (wo:Int):Nat->Nat->RSt->RSt
 | 0,_,s=>s
 | n+1,i,s=>if i<s.2.length then rchS f wo n (i+1) (uG f wo i s) else s
def rch0 (f:an) (wo:Int):RSt:=if wo≠0/\0<f.blocks.length then((List.replicate f.blocks.length false).set 0 true,[0]) else(List.replicate f.blocks.length false,[])
def dw (f:an) (wo:Int):List Bool:=(rchS f wo (f.blocks.length+1) 0 (rch0 f wo)).1
structure ROk (n:Nat) (s:RSt):Prop where
 len:s.1.length=n
 cnt:s.2.length+dv s.1<=n
 rng : ∀x∈s.2,0<=x/\x<n
variable{wo:Int}
theorem AE{n:Nat}{to:List Int}{k:Nat}{s:RSt}(h:ROk n s):ROk n (jW wo to k s):=by
 unfold jW;split
 ·rename_i hc;have hf:=jD (t:=s.1) (i:=(nth to k).toNat) (by omega) hc.2.1;refine⟨by simpa using h.len,?_,fun x hx=>?_⟩
  ·have:=h.cnt;simp only[LH,LJ];omega
  rcases LP.1 hx with hx | hx
  ·exact h.rng x hx
  rw[LM.1 hx,<-h.len];exact hc.1
 exact h
theorem vZ{n:Nat}{to:List Int}{s:RSt}(h:ROk n s)(m:Nat):ROk n (up (jW wo to) m s):=sf (ROk n) (fun k x hx=>AE hx) m s h
theorem yt{f:an}:ROk f.blocks.length (rch0 f wo):=by
 unfold rch0;have hfa:dv (List.replicate f.blocks.length false)=f.blocks.length:=by simp[dv]
 split
 ·rename_i hc;have hf:=jD (t:=List.replicate f.blocks.length false) (i:=0) (by simpa using hc.2) (by rw[ak (by simpa using hc.2)];simp);exact⟨by simp,by simp only[LJ];omega,fun x hx=>by rw[LM.1 hx];omega⟩
 exact⟨by simp,by simp only[N6];omega,fun x hx=>by cases hx⟩
theorem CZ {f:an} {wo:Int} : ∀{m i:Nat} {s:RSt},ROk f.blocks.length s->ROk f.blocks.length (rchS f wo m i s)
 | 0,_,_,h=>h
 | m+1,i,s,h=>by
  rw[rchS];split
  ·exact CZ (vZ h _)
  exact h
theorem lD{f:an}:(dw f wo).length=f.blocks.length:=(CZ yt).len
def qu (vo vq:Value) (s:RSt):Own:=fun k=>if k=(0,0) then it T.bool vo s.1 else if k=(0,1) then it T.int vq s.2 else none
theorem nr{f:an}{v:Value}{h:Heap}(hv:Rd (vw h) v f)(hn:f.blocks.length<=1000000):
  az Tryz.prog N.cR #[v,.int .i64 wo] h (fun u h'=>(vw h).le (vw h')/\SlRd (fresh h h') u (dw f wo)):=by
 refine aq (args:=[v,.int .i64 wo]) follows F.cR E.cR (LD (by kernel_rfl)) fun K hK=>?_;dsimp only[L.cR];refine aa fun z hz=>?_;simp;refine gm rfl hv fun h1 _ hle1 hsz1 hat=>?_;obtain⟨_,vb,cb⟩:=fM hat;generalize h.size=B at cb;subst hz;refine aa fun z hz=>?_;simp[cb.1,cb.2.len];refine lx (α:=Bool) (W:=vw h1) (k:=.i64) (n:=f.blocks.length) (d:=false) El.lh (by simp) (by simp) rfl (by omega) (by omega) fun vo h2 o2 m2 hle2 hb2=>?_;have w2:=(Owns.start (h:=h1) (View.le_refl (vw h1))).add (k:=(0,0)) rfl o2 hle2 (fun b hb=>by rw[hb2]at hb;cases hb;exact LG _);subst hz;refine aa fun z hz=>?_;simp;refine qT (α:=Int) El.aS fun h3 hle3 hsz3 own3=>?_;have w3:=w2.add (k:=(0,1)) rfl (own3 _) hle3 (fun b hb=>by simp only[Value.ownBlock,LF]at hb;omega)
 have w3:Owns (vw h1) h3 (qu vo (.slice (some ⟨h2.size,0,none⟩) 0 0) (List.replicate f.blocks.length false,[])):=w3.congr fun q=>by
  unfold qu Own.upd;repeat' split
  all_goals first | rfl | simp_all
 generalize Value.slice (some ⟨h2.size,0,none⟩) 0 0=vq at w3;subst hz;refine aa fun z hz=>?_;have cc3:=ae w3.wle cb.1;have cb3:=cb.2.mono w3.wle;have fin : ∀(h4:Heap) (vq:Value) (tl:Env),Owns (vw h1) h4 (qu vo vq (rch0 f wo))->@LC.wp noPP Tryz.prog z (@fq [.tmp 4] K) ([(0,v),(1,.int .i64 wo),(2,.pointer (some ⟨B,0,none⟩)),(4,.slice none 0 0),(5,vo),(6,vq)]++tl) h4:=by
  intro h4 vq tl w4;subst hz;refine aa fun z hz=>?_;simp;refine fN [1,2,5,6,7] (fun m ρ h5=>∃(i:Nat) (s:RSt) (vq:Value),i<=f.blocks.length/\m=f.blocks.length+1-i/\ρ=[(1,.int .i64 wo),(2,.pointer (some ⟨B,0,none⟩)),(5,vo),(6,vq),(7,.int .i64 i)]/\Owns (vw h1) h5 (qu vo vq s)/\ROk f.blocks.length s/\
   (rchS f wo m i s).1=dw f wo) (f.blocks.length+1) ⟨0,_,vq,by omega,rfl,by simp[aZ,ag],w4,yt,rfl⟩ ?_;rintro m ρ h5 ⟨i,s,vq5,hi,rfl,rfl,w5,hok,hfin⟩ K2 hK2;have no:=w5.now (k:=(0,0)) (v:=vo) (l:=s.1) rfl;have nq:=w5.now (k:=(0,1)) (v:=vq5) (l:=s.2) rfl;have hcnt:=hok.cnt;by_cases hlt:i<s.2.length
  ·have hm:f.blocks.length+1-i=(f.blocks.length-i)+1:=by omega
   rw[hm,rchS,if_pos hlt]at hfin;obtain⟨r0,r1⟩:=hok.rng _ (bc hlt);have cb5:=cb.2.mono w5.wle;obtain⟨w,hw⟩:=uu cb5 (i:=(nth s.2 i).toNat) (by omega);obtain⟨w',hw'⟩:=uu cb.2 (i:=(nth s.2 i).toNat) (by omega);have eww:w'=w:=Option.some.inj ((ae w5.wle hw'.1).symm.trans hw.1);rw[eww]at hw';have hwb:=hw.2.bound;have hrow:uG f wo i s=up (jW wo (nth f.blocks (nth s.2 i).toNat).term.to) (nth f.blocks (nth s.2 i).toNat).term.to.length s:=rfl;rw[hrow]at hfin;generalize hto:(nth f.blocks (nth s.2 i).toNat).term.to=to at hw hw' hwb hfin;refine aa fun y hy=>?_;simp(disch:=omega)[nq.len,hlt];subst hy;refine aa fun y hy=>?_;refine aa fun x hx=>?_;simp(disch:=omega)[ae w5.wle cb.1,cb5.idxn (N:=6) rfl,nq.idx1 rfl,nq.int (View.le_refl _),hw.1];subst hx;simp;refine aO [1,2,5,6,7,8,9] (fun(q:Value) j=>[.int .i64 wo,.pointer (some ⟨B,0,none⟩),vo,q,.int .i64 i,w,.int .i64 j]) (fun q j h6=>Owns (vw h1) h6 (qu vo q (up (jW wo to) j s))) to.length vq5
    rfl (by omega) rfl w5 (fun _ _=>rfl) (fun v j h4 hk m=>by simp[hw.2.len]) ?_ ?_
   ·rintro q j h6 hltj w6 K3 hK3;have hst:up (jW wo to) (j+1) s=jW wo to j (up (jW wo to) j s):=rfl;have hok6:=vZ (wo:=wo) (to:=to) hok j;generalize up (jW wo to) j s=s6 at w6 hst hok6;have no6:=w6.now (k:=(0,0)) (v:=vo) (l:=s6.1) rfl;have nq6:=w6.now (k:=(0,1)) (v:=q) (l:=s6.2) rfl;have hcnt6:=hok6.cnt;have hlen6:=hok6.len;have hr6:=hw'.2.mono w6.wle;have hrng:=hw'.2.range hltj;rw[jW]at hst;by_cases c1:0<=nth to j/\nth to j<s6.1.length
    ·have c1a:=c1.1;have c1b:=c1.2;cases c2:nth s6.1 (nth to j).toNat with
     | true=>rw[if_neg (by rw[c2];simp)]at hst;simp(disch:=omega)[hr6.idx1 rfl,hr6.int (View.le_refl _),no6.len,no6.idx1 rfl,no6.bool (View.le_refl _),c1a,c1b,c2];exact hK3 q _ _ rfl rfl (by rw[hst];exact w6)
     | false=>
      by_cases c3:nth to j=wo
      ·rw[if_neg (by simp[c3])]at hst;rw[c3]at c1a c1b c2;simp(disch:=omega)[hr6.idx1 rfl,hr6.int (View.le_refl _),no6.len,no6.idx1 rfl,no6.bool (View.le_refl _),c1a,c1b,c2,c3];exact hK3 q _ _ rfl rfl (by rw[hst];exact w6)
      rw[if_pos ⟨c1,c2,c3⟩]at hst;refine aa fun x hx=>?_;simp(disch:=omega)[hr6.idx1 rfl,hr6.int (View.le_refl _),no6.len,no6.idx1 rfl,no6.bool (View.le_refl _),c1a,c1b,c2,c3];subst hx;simp(disch:=omega)[hr6.idx1 rfl,hr6.int (View.le_refl _),no6.idx1 rfl];refine w6.ky (k:=(0,0)) (α:=Bool) (l:=s6.1) (v:=vo) (i:=(nth to j).toNat) (d:=true) rfl (by kernel_rfl) (by simp[show Rep.n Bool=1 from rfl]) (by simp<;>rfl) (by omega) Hb fun h7 w7 hs7=>?_;have hr7:=hw'.2.mono w7.wle;simp(disch:=omega)[hr7.idx1 rfl,hr7.int (View.le_refl _)];refine w7.fg (k:=(0,1)) (α:=Int) (v:=q) (l:=s6.2) (d:=nth to j) rfl El.aS (by simp<;>rfl) (mN hrng.1 hrng.2) (by omega) (by omega) (fun _=>by simp) (fun _=>by simp) fun u q8 h8 w8 hs8=>?_;refine hK3 q8 _ _ rfl rfl ?_;rw[hst];refine w8.congr fun q=>?_;unfold qu Own.upd;repeat' split
      all_goals first | rfl | simp_all
    rw[if_neg (fun e=>c1 e.1)]at hst;by_cases c1a:0<=nth to j
    ·have c1b:¬nth to j<s6.1.length:=fun e=>c1 ⟨c1a,e⟩;simp(disch:=omega)[hr6.idx1 rfl,hr6.int (View.le_refl _),no6.len,c1a,c1b];exact hK3 q _ _ rfl rfl (by rw[hst];exact w6)
    simp(disch:=omega)[hr6.idx1 rfl,hr6.int (View.le_refl _),no6.len,c1a];exact hK3 q _ _ rfl rfl (by rw[hst];exact w6)
   rintro q h6 w6;simp;subst hy;simp(disch:=omega);exact hK2 (f.blocks.length+1-(i+1)) _ _ (by omega) ⟨i+1,_,q,by omega,rfl,by simp[aZ],w6,vZ hok _,by rw[show f.blocks.length+1-(i+1)=f.blocks.length-i by omega];exact hfin⟩
  have hlt':¬(i:Int)<s.2.length:=by omega
  simp(disch:=omega)[L.cR.l1,nq.len,hlt];subst hz;simp;have hs1:s.1=dw f wo:=by
   rw[<-hfin];cases f.blocks.length+1-i with
   | zero=>rfl
   | succ m=>rw[rchS,if_neg hlt]
  have ow:=w5.get (k:=(0,0)) (v:=vo) (l:=s.1) rfl;refine hK _ _ ⟨View.le_trans hle1 w5.wle,?_⟩;rw[<-hs1];have ow':OwnT nothing h5 T.bool vo s.1:=ow;refine ow'.fresh (fun _ _ h=>by cases h) fun b hb=>?_;rw[hb2]at hb;cases hb;exact View.dH (View.le_refl _) (by omega)
 by_cases c1:wo=0
 ·have hr0:rch0 f wo=(List.replicate f.blocks.length false,[]):=by rw[rch0,if_neg (fun e=>e.1 c1)]
  rw[hr0]at fin;simp[cc3,cb3.len,c1];rw[c1]at fin;exact fin _ _ _ w3
 by_cases c2:0<f.blocks.length
 ·have hr0:rch0 f wo=((List.replicate f.blocks.length false).set 0 true,[0]):=by rw[rch0,if_pos ⟨c1,c2⟩]
  rw[hr0]at fin;have no:=w3.now (k:=(0,0)) (v:=vo) (l:=List.replicate f.blocks.length false) rfl;refine aa fun y hy=>?_;simp(disch:=omega)[cc3,cb3.len,c1,c2];subst hy;have i0:Bn.ev (.idx 1) vo (.int .i64 0)=some (.pointer (some ((slA vo).add 0))):=no.idx1 rfl (by omega) (by simpa using c2)
  simp(disch:=omega)[i0];refine w3.ky (k:=(0,0)) (α:=Bool) (l:=List.replicate f.blocks.length false) (v:=vo) (i:=0) (d:=true) rfl (by kernel_rfl) (by simp[show Rep.n Bool=1 from rfl]) (by simp<;>rfl) (by simpa using c2) Hb fun h4 w4 hs4=>?_;refine w4.fg (k:=(0,1)) (α:=Int) (v:=vq) (l:=[]) (d:=0) rfl El.aS (by simp<;>rfl) (mN (by omega) (by omega)) (by simp) (by simp) (fun _=>by simp) (fun _=>by simp) fun u q5 h5 w5 hs5=>?_;refine fin _ _ _ (w5.congr fun q=>?_);unfold qu Own.upd;repeat' split
  all_goals first | rfl | simp_all
 have hr0:rch0 f wo=(List.replicate f.blocks.length false,[]):=by rw[rch0,if_neg (fun e=>c2 e.2)]
 rw[hr0]at fin;simp[cc3,cb3.len,c1,c2];exact fin _ _ _ w3
instance:Rep Th:=Rep.via fun d=>Cat.mk d.blk (Cat.mk d.place (Cat.mk d.mks d.tks))
theorem Th.AL:Part Th Int 0 Th.blk (fun d x=>{ d with blk:=x }):=(Part.fst Part.all).via (fun _=>rfl) fun _ _=>rfl
theorem Th.Io:Part Th Int 1 Th.place (fun d x=>{ d with place:=x }):=(Part.snd (Part.fst Part.all)).via (fun _=>rfl) fun _ _=>rfl
theorem Th.Fp:Part Th (List Int) 2 Th.mks (fun d x=>{ d with mks:=x }):=(Part.snd (Part.snd (Part.fst Part.all))).via (fun _=>rfl) fun _ _=>rfl
theorem Th.CX:Part Th (List Int) 3 Th.tks (fun d x=>{ d with tks:=x }):=(Part.snd (Part.snd (Part.snd Part.all))).via (fun _=>rfl) fun _ _=>rfl
structure ThR where
 blk:Int
 place:Int
 mks:List Int
 tks:Raw
instance:Rep ThR:=Rep.via fun d=>Cat.mk d.blk (Cat.mk d.place (Cat.mk d.mks d.tks))
theorem ThR.CX:Part ThR Raw 3 ThR.tks (fun d x=>{ d with tks:=x }):=(Part.snd (Part.snd (Part.snd Part.all))).via (fun _=>rfl) fun _ _=>rfl
theorem ER{a b:Int}{u q:Value}{m t:List Int}(ha:I64 a)(hb:I64 b)(hm:SlRd H u m)(ht:SlRd H q t):Rd H (.agg #[.int .i64 a,.int .i64 b,u,q]) (Th.mk a b m t):=
 ⟨_,rfl,[.int .i64 a],[.int .i64 b,u,q],rfl,⟨rfl,ha⟩,[.int .i64 b],[u,q],rfl,⟨rfl,hb⟩,[u],[q],rfl,⟨u,rfl,hm⟩,⟨q,rfl,ht⟩⟩
theorem JB{a b:Int}{u q:Value}{m:List Int}(ha:I64 a)(hb:I64 b)(hm:SlRd H u m)(hq:q.oneCell'=true):Rd H (.agg #[.int .i64 a,.int .i64 b,u,q]) (ThR.mk a b m ⟨q⟩):=
 ⟨_,rfl,[.int .i64 a],[.int .i64 b,u,q],rfl,⟨rfl,ha⟩,[.int .i64 b],[u,q],rfl,⟨rfl,hb⟩,[u],[q],rfl,⟨u,rfl,hm⟩,⟨rfl,hq⟩⟩
theorem DN{cs:List Value}{d:ThR}(h:Rep.rd H cs d): ∃u,cs=[.int .i64 d.blk,.int .i64 d.place,u,d.tks.v]/\I64 d.blk/\I64 d.place/\SlRd H u d.mks:=by obtain⟨c1,r1,rfl,⟨rfl,h1⟩,c2,r2,rfl,⟨rfl,h2⟩,c3,r3,rfl,⟨u,rfl,h3⟩,rfl,_⟩:=h;exact⟨u,rfl,h1,h2,h3⟩
def ox (vo:Value) (l:List Th):Own:=fun k=>if k=(0,0) then it T.eJ vo l else none
def uB (vo:Value) (l:List Th) (D:Nat) (d:ThR) (q:Value) (t:List Int):Own:=fun k=>if k=(0,0) then it T.eJ vo l else if k=(1,0) then bx T.eJ D d else if k=(1,1) then it T.int q t else none
structure ThS (V:View) (h0:Heap) (vo:Value) (l:List Th) (W:View) (h:Heap):Prop where
 own:Owns W h (ox vo l)
 old:Old V h0 W
 le:(vw h0).le (vw h)
 av:Av (vw h0) vo
theorem ThS.ext {V:View} {h0:Heap} {vo:Value} {l:List Th} {W:View} {h h':Heap} (k:ThS V h0 vo l W h) (hle:(vw h).le (vw h')):ThS V h0 vo l (grow W h h') h':=
 ⟨k.own.ext hle,k.old.grow (gQ k.le),View.le_trans k.le hle,k.av⟩
variable{ty:TypeId}{us:List (Nat × Value)}{K:Value->Heap->Prop}{y:Operand}
theorem Fx{po:OP}{h:Heap}{x z w:Operand}{a b:Int}{u q:Value}(hx:asg us x = .int .i64 a)(hy:asg us y = .int .i64 b)(hz:asg us z=u)(hw:asg us w=q)(hu:u.cells = #[u])(hq:q.cells = #[q])(hk:K (.agg #[.int .i64 a,.int .i64 b,u,q]) h):
  Lft.step Tryz.prog (.build T.eJ #[(0,x),(1,y),(2,z),(3,w)]) ty us h K:=
 aE (z:=.agg #[.int .i64 0,.int .i64 0,.slice none 0 0,.slice none 0 0]) (places:=[(0,1),(1,1),(2,1),(3,1)]) (vs:=[(0,.int .i64 a),(1,.int .i64 b),(2,u),(3,q)]) (cs:=#[.int .i64 a,.int .i64 b,u,q]) (by kernel_rfl) (by kernel_rfl) (by simp[hx,hy,hz,hw])
  (by simp[Instr.fill,hu,hq]) hk
theorem DR{po:OP}{h:Heap}{x z:Operand}{a b:Int}{u:Value}(hx:asg us x = .int .i64 a)(hy:asg us y = .int .i64 b)(hz:asg us z=u)(hu:u.cells = #[u])(hk:K (.agg #[.int .i64 a,.int .i64 b,u,.slice none 0 0]) h):
  Lft.step Tryz.prog (.build T.eJ #[(0,x),(1,y),(2,z)]) ty us h K:=
 aE (z:=.agg #[.int .i64 0,.int .i64 0,.slice none 0 0,.slice none 0 0]) (places:=[(0,1),(1,1),(2,1),(3,1)]) (vs:=[(0,.int .i64 a),(1,.int .i64 b),(2,u)]) (cs:=#[.int .i64 a,.int .i64 b,u,.slice none 0 0]) (by kernel_rfl) (by kernel_rfl) (by simp[hx,hy,hz])
  (by simp[Instr.fill,hu]) hk
theorem DS{po:OP}{h:Heap}{x w:Operand}{a b:Int}{q:Value}(hx:asg us x = .int .i64 a)(hy:asg us y = .int .i64 b)(hw:asg us w=q)(hq:q.cells = #[q])(hk:K (.agg #[.int .i64 a,.int .i64 b,.slice none 0 0,q]) h):
  Lft.step Tryz.prog (.build T.eJ #[(0,x),(1,y),(3,w)]) ty us h K:=
 aE (z:=.agg #[.int .i64 0,.int .i64 0,.slice none 0 0,.slice none 0 0]) (places:=[(0,1),(1,1),(2,1),(3,1)]) (vs:=[(0,.int .i64 a),(1,.int .i64 b),(3,q)]) (cs:=#[.int .i64 a,.int .i64 b,.slice none 0 0,q]) (by kernel_rfl) (by kernel_rfl) (by simp[hx,hy,hw])
  (by simp[Instr.fill,hq]) hk
theorem ny{f:an}{v:Value}{V:View}{h:Heap}(hv:Rd V v f)(hV:V.le (vw h))(hsm:SmF f):
  az Tryz.prog N.cj #[v] h (fun u h'=>(vw h).le (vw h')/\SlRd (grow V h h') u (aL f)):=by
 refine aq (args:=[v]) follows F.cj E.cj (LD (by kernel_rfl)) fun K hK=>?_;have hn:=hsm.len;dsimp only[L.cj];refine aa fun z hz=>?_;simp;refine j6 (v:=v) rfl ?_;have hle1:=bm h (.cells v.cells T.ar)
 have hat1:At (grow V h (h.push (.cells v.cells T.ar))) ⟨h.size,0,none⟩ f:=oW (t:=T.ar) (fz:=(0,0)) (by rw[cM (LG _)];simp) (hv.mono (aH hV));have hs1:(h.push (.cells v.cells T.ar)).size=h.size+1:=by simp
 generalize h.push (.cells v.cells T.ar)=h1 at hle1 hat1 hs1;have hW1:(grow V h h1).le (vw h1):=nG (View.le_trans hV hle1);have old1:Old V h (grow V h h1):=(Old.refl V h).grow (LG _);obtain⟨_,vb,cb⟩:=fM hat1;generalize grow V h h1=W1 at cb hW1 old1;generalize h.size=B at cb;subst hz;refine aa fun z hz=>?_;simp;refine qT (α:=Th) El.gG fun h2 hle2 hsz2 own2=>?_;have t2:ThS V h (.slice (some ⟨h1.size,0,none⟩) 0 0) [] W1 h2:=⟨((Owns.start hW1).add (k:=(0,0)) rfl (own2 _) hle2 (fun b hb=>by simp only[Value.ownBlock,LF]at hb;omega)).congr fun q=>by
   unfold ox Own.upd;repeat' split
   all_goals first | rfl | simp_all,old1,View.le_trans hle1 hle2,fun b hb=>by cases hb;exact View.dH (View.le_refl _) (by show h.size<=h1.size;omega)⟩
 generalize Value.slice (some ⟨h1.size,0,none⟩) 0 0=v0 at t2;subst hz;refine aa fun z hz=>?_;simp;refine aO [1,3,4] (fun(r:Value) b=>[.pointer (some ⟨B,0,none⟩),r,.int .i64 b]) (fun r b h3=>∃W,W1.le W/\ThS V h r (thTo f b) W h3) f.blocks.length v0
  rfl (by omega) rfl ⟨W1,View.le_refl _,t2⟩ (fun _ _=>rfl) (fun v k h3 hk ⟨W,q1,q2⟩=>by simp[ae (View.le_trans q1 q2.own.wle) cb.1,(cb.2.mono (View.le_trans q1 q2.own.wle)).len]) ?_ ?_
 ·rintro r b h3 hltb ⟨W3,hW3,t3⟩ K2 hK2;have hl3:=zp hsm (n:=b) (by omega);have cb3:=cb.2.mono (View.le_trans hW3 t3.own.wle);have cc3:=ae (View.le_trans hW3 t3.own.wle) cb.1;obtain⟨u,hu,hur⟩:=(cb.2.mono hW3).wh rfl (N:=6) rfl hltb;have sb:=hsm.blk b hltb;refine aa fun y hy=>?_;simp(disch:=omega)[cc3,cb3.idxn (N:=6) rfl,hu _ t3.own.wle];refine fm (X:=W3) (z:=.agg #[.slice none 0 0,.slice none 0 0,.int .i64 0,.slice none 0 0,.slice none 0 0,.int .i32 0]) (by kernel_rfl) rfl (by kernel_rfl) hur (fun _=>by simp) (fun _=>by simp) fun h4 hle4 hsz4 hat4=>?_;have t4:=t3.ext hle4
  have hat4':=hat4 (grow W3 h3 h4) (aH t3.own.wle) (cM (LG _));obtain⟨vp,vi,va,vt,bp,bi,bk,ba,bt⟩:=ib hat4';have hW4:=View.le_trans hW3 (aH (h':=h4) t3.own.wle);generalize grow W3 h3 h4=W4 at t4 bp bi bk ba bt hW4;generalize h3.size=D at bp bi bk ba bt;subst hy;refine aa fun y hy=>?_;simp;have sp:=sb.phis
  refine aO [1,3,4,5,6] (fun(r:Value) i=>[.pointer (some ⟨B,0,none⟩),r,.int .i64 b,.pointer (some ⟨D,0,none⟩),.int .i64 i]) (fun r i h5=>∃W,W4.le W/\ThS V h r (thTo f b++rows (phiT f b) i) W h5) (nth f.blocks b).phis.length r
   rfl (by omega) rfl ⟨W4,View.le_refl _,by simpa using t4⟩ (fun _ _=>rfl) (fun v k h3 hk ⟨W,q1,q2⟩=>by simp[ae (View.le_trans q1 q2.own.wle) bp.1,(bp.2.mono (View.le_trans q1 q2.own.wle)).len]) ?_ ?_
  ·rintro r i h5 hlti ⟨W5,hW5,t5⟩ K3 hK3;have bp5:=bp.2.mono hW5;have bph:=bp5.mono t5.own.wle;have cph:=ae (View.le_trans hW5 t5.own.wle) bp.1;have hap:=(bp5.at hlti);rw[<-ak hlti]at hap;have hdst:ao W5 (((slA vp).add (i*2)).add 0)=some (.int .i64 (nth (nth f.blocks b).phis i).dst):=(hap.part PhiD.kQ).int;have hdr:=(hap.part PhiD.kQ).rng;obtain⟨vq,hvq⟩:=(hap.part PhiD.jr).sl;have hvq1:ao W5 (((slA vp).add (i*2)).add 1)=some vq:=hvq.1;have hvq2:=hvq.2;have hpl:=sb.phi i hlti;have hpt:phiT f b i=⟨b,-1-i,[(nth (nth f.blocks b).phis i).dst],(nth (nth f.blocks b).phis i).ins.map InD.val⟩:=rfl;generalize nth (nth f.blocks b).phis i=x at hdst hdr hvq2 hpl hpt;refine aa fun q hq=>?_;simp(disch:=omega)[cph,bph.idxn (N:=2) rfl,ae t5.own.wle hdst];refine lA (X:=nothing) (ds:=[x.dst]) (vs:=[.int .i64 x.dst]) rfl El.aS (by simp) ⟨dr.2 ⟨rfl,hdr⟩,trivial⟩ dg rfl (by omega) fun u6 h6 hle6 hsz6 hu6 hub6=>?_;have hu6n:=hu6 (vw h6) dg rfl
   refine DR rfl rfl rfl hu6n.cells.1 ?_;simp;refine jO (n:=4) (v:=.agg #[.int .i64 b,.int .i64 (-1-i),u6,.slice none 0 0]) (z:=.agg #[.int .i64 0,.int .i64 0,.slice none 0 0,.slice none 0 0]) (by kernel_rfl) rfl (by kernel_rfl) rfl (by intro c hc;simp at hc;rcases hc with rfl | rfl | rfl | rfl<;>first | rfl | exact hu6n.cells.2) (fun _=>by simp) (fun _=>by simp) fun h7 hle7 hsz7 hb7=>?_;have w6:=t5.own.ext hle6;have w7:=(w6.add (k:=(1,0)) rfl (iq (h:=h7) (d:=ThR.mk b (-1-i) [x.dst] ⟨.slice none 0 0⟩) hb7 (JB ⟨by omega,by omega⟩ ⟨by omega,by omega⟩ (hu6 _ dg (cM (LG _))) rfl) (by decide)) hle7 (fun b hb=>by simp only[Value.ownBlock,LF]at hb;omega)).add (k:=(1,1)) rfl (OwnT.nil (α:=Int) _ h7 T.int) (View.le_refl _) (fun b hb=>by simp[Value.ownBlock]at hb);have w7:Owns (grow W5 h5 h6) h7 (uB r (thTo f b++rows (phiT f b) i) h6.size (ThR.mk b (-1-i) [x.dst] ⟨.slice none 0 0⟩) (.slice none 0 0) []):=w7.congr fun q=>by
    unfold uB ox Own.upd;repeat' split
    all_goals first | rfl | simp_all
   have hW7:=View.le_trans hW5 (aH (h':=h6) t5.own.wle);have old7:=t5.old.grow (h1:=h5) (h2:=h6) (gQ t5.le);have hle07:=View.le_trans t5.le (View.le_trans hle6 hle7);have hvq7:=hvq2.mono (aH (h':=h6) t5.own.wle);have cvq7:=ae (aH (h':=h6) t5.own.wle) hvq1;generalize grow W5 h5 h6=W7 at w7 hW7 old7 hvq7 cvq7;have hD7:h.size<=h6.size:=L9 (gQ t5.le) (gQ hle6);generalize h6.size=D7 at w7 hD7;subst hq;refine aa fun q hq=>?_;simp;refine aO [1,3,4,5,6,7,8] (fun(q:Value) j=>[.pointer (some ⟨B,0,none⟩),r,.int .i64 b,.pointer (some ⟨D,0,none⟩),.int .i64 i,.pointer (some ⟨D7,0,none⟩),.int .i64 j])
    (fun q j h8=>Owns W7 h8 (uB r (thTo f b++rows (phiT f b) i) D7 (ThR.mk b (-1-i) [x.dst] ⟨q⟩) q ((x.ins.map InD.val).take j))/\(vw h).le (vw h8)/\Av (vw h) q) x.ins.length (.slice none 0 0)
    rfl (by omega) rfl ⟨w7,hle07,Av.nil _ _ _⟩ (fun _ _=>rfl) (fun v k h8 hk ⟨w8,q2⟩=>by have bp8:=(bp.2.mono hW7).mono w8.wle;simp(disch:=omega)[ae (View.le_trans hW7 w8.wle) bp.1,bp8.idxn (N:=2) rfl,ae w8.wle cvq7,(hvq7.mono w8.wle).len]) ?_ ?_
   ·rintro q8 j h8 hltj ⟨w8,hle08,av8⟩ K4 hK4;have bp8:=(bp.2.mono hW7).mono w8.wle;have hv8:=hvq7.mono w8.wle;have hai:=(hvq7.at hltj);rw[<-ak hltj]at hai;have hval:ao W7 (((slA vq).add (j*2)).add 1)=some (.int .i64 (nth x.ins j).val):=(hai.part InD.rn).int;have hvr:=(hai.part InD.rn).rng;have hl8:((x.ins.map InD.val).take j).length=j:=by simp;omega
    have htk:(x.ins.map InD.val).take (j+1)=(x.ins.map InD.val).take j++[(nth x.ins j).val]:=by rw[M0,List.getElem?_map,List.getElem?_eq_getElem hltj,ak hltj];rfl
    have hq8:ao (vw h8) ⟨D7,3,none⟩=some q8:=by have:=((w8.at (k:=(1,0)) (e:=T.eJ) (B:=D7) (d:=ThR.mk b (-1-i) [x.dst] ⟨q8⟩) rfl).part ThR.CX).raw;simpa using this
    refine bF (vw h8) (View.le_refl _) ?_;simp(disch:=omega)[hq8,ae (View.le_trans hW7 w8.wle) bp.1,bp8.idxn (N:=2) rfl,ae w8.wle cvq7,hv8.idxn (N:=2) rfl,ae w8.wle hval];refine lg (α:=Int) (W:=W7) El.aS rfl (dr.2 ⟨rfl,hvr⟩) fun u9 h9 hs9 hle9 hsz9=>⟨hle9,?_⟩;refine(w8.ext' hle9).bw (k:=(1,1)) (α:=Int) (v:=q8) (l:=(x.ins.map InD.val).take j) rfl El.aS rfl rfl hs9 (by simp;omega) (by simp;omega) fun q10 h10 w10 m10=>?_;have hc10:=w10.cells (k:=(1,1)) (Own.af);obtain⟨hX10,av10⟩:=m10.view (View.le_trans hle08 hle9) av8;refine w10.xq (k:=(1,0)) (e:=T.eJ) (B:=D7) (D:=ThR.mk b (-1-i) [x.dst] ⟨q8⟩) ThR.CX (d:=⟨q10⟩) rfl (by kernel_rfl) rfl rfl (qx.2 ⟨rfl,hc10.2⟩) fun h11 w11 hX11=>?_;refine hK4 q10 _ _ rfl rfl ⟨w11.congr fun p=>?_,hX11 _ hX10 (View.dH (View.le_refl _) hD7),av10⟩;rw[htk];unfold uB Own.upd;repeat' split
    all_goals first | rfl | simp_all
   rintro q8 h8 ⟨w8,hle08,av8⟩;rw[LV (by simp)]at w8;simp;subst hq;obtain⟨cs,hcs,hrd⟩:=w8.atW (k:=(1,0)) (e:=T.eJ) (B:=D7) (d:=ThR.mk b (-1-i) [x.dst] ⟨q8⟩) rfl;obtain⟨u9,rfl,i1,i2,hu9⟩:=DN hrd;obtain⟨w9,hq9⟩:=w8.freeze (k:=(1,1)) (v:=q8) (l:=x.ins.map InD.val) rfl;have hpl9:W7.le (W7.plus q8 h8):=eD (w8.av (1,1) _ rfl);have hload:Un.ev (vw h8) (.al 4) (.pointer (some ⟨D7,0,none⟩))=some (.agg #[.int .i64 b,.int .i64 (-1-i),u9,q8]):=by have:=gz hcs 4 0 #[] (by rfl);simp[Un.ev,vP,this]
   have hold9:Old V h (W7.plus q8 h8):=fun c o hc hco=>by
    unfold View.plus at hco;split at hco
    ·rename_i e;have:=av8 c e;simp only[vw]at this;rw[Array.getElem?_eq_getElem hc]at this;cases this
    exact old7 c o hc hco
   have w9:Owns (W7.plus q8 h8) h8 (ox r (thTo f b++rows (phiT f b) i)):=w9.sub fun p x hp=>by
    unfold ox at hp;split at hp
    ·rename_i e;subst e;exact hp
    cases hp
   have hlr:(thTo f b++rows (phiT f b) i).length=(thTo f b).length+i:=by simp
   simp[hload];refine w9.vR (k:=(0,0)) (α:=Th) (v:=r) (l:=thTo f b++rows (phiT f b) i) (d:=phiT f b i) rfl El.gG rfl (by rw[hpt];exact ER i1 i2 (hu9.mono hpl9) hq9) (by omega) (by omega) (fun _=>rfl) (fun _=>rfl) fun u10 r10 h10 w10 hX10=>?_;obtain⟨g1,g2⟩:=hX10 _ hle08 t5.av;refine hK3 r10 _ _ rfl rfl ⟨W7.plus q8 h8,View.le_trans hW7 hpl9,⟨w10.congr fun p=>?_,hold9,g1,g2⟩⟩;rw[eG,<-List.append_assoc];unfold ox Own.upd;repeat' split
   all_goals first | rfl | simp_all
  rintro r h5 ⟨W5,hW5,t5⟩;simp;subst hy;refine aa fun y hy=>?_;simp;have si:=sb.ins;refine aO [1,3,4,5,9] (fun(r:Value) i=>[.pointer (some ⟨B,0,none⟩),r,.int .i64 b,.pointer (some ⟨D,0,none⟩),.int .i64 i]) (fun r i h6=>∃W,W4.le W/\ThS V h r (thTo f b++rows (phiT f b) (nth f.blocks b).phis.length++rows (insT f b) i) W h6) (nth f.blocks b).ins.length r
   rfl (by omega) rfl ⟨W5,hW5,by simpa using t5⟩ (fun _ _=>rfl) (fun v k h3 hk ⟨W,q1,q2⟩=>by simp[ae (View.le_trans q1 q2.own.wle) bi.1,(bi.2.mono (View.le_trans q1 q2.own.wle)).len]) ?_ ?_
  ·rintro r i h6 hlti ⟨W6,hW6,t6⟩ K3 hK3;have bi6:=bi.2.mono hW6;have bih:=bi6.mono t6.own.wle;have cih:=ae (View.le_trans hW6 t6.own.wle) bi.1;obtain⟨ux,hux,huxr⟩:=bi6.wh rfl (N:=5) rfl hlti;have hap:=(bi6.at hlti);rw[<-ak hlti]at hap;obtain⟨vq,hvq⟩:=(hap.part InsD.qn).sl;have hvq1:ao W6 (((slA vi).add (i*5)).add 3)=some vq:=hvq.1;have hvq2:=hvq.2;have hpt:insT f b i=⟨b,i,dc (nth (nth f.blocks b).ins i),(nth (nth f.blocks b).ins i).args⟩:=rfl;generalize nth (nth f.blocks b).ins i=x at hvq2 huxr hpt;have hlr:(thTo f b++rows (phiT f b) (nth f.blocks b).phis.length++rows (insT f b) i).length=(thTo f b).length+(nth f.blocks b).phis.length+i:=by simp;omega
   refine bF (vw h6) (View.le_refl _) ?_;simp(disch:=omega)[cih,bih.idxn (N:=5) rfl,hux _ t6.own.wle,ae t6.own.wle hvq1];refine aj (by kernel_rfl) (oZ (huxr.mono t6.own.wle)) ?_;rintro u7 h7 ⟨hle7,hu7,_⟩;refine⟨hle7,?_⟩;have t7:=t6.ext hle7;have hu7':=hu7.mono (eC W6 h6 h7);have hvq7:=hvq2.mono (aH (h':=h7) t6.own.wle);refine Fx rfl rfl rfl rfl hu7.cells.1 hvq2.cells.1 ?_;simp;refine t7.own.vR (k:=(0,0)) (α:=Th) (v:=r) (l:=thTo f b++rows (phiT f b) (nth f.blocks b).phis.length++rows (insT f b) i) (d:=insT f b i) rfl El.gG rfl (by rw[hpt];exact ER ⟨by omega,by omega⟩ ⟨by omega,by omega⟩ hu7' hvq7) (by omega) (by omega) (fun _=>rfl) (fun _=>rfl) fun u10 r10 h10 w10 hX10=>?_;obtain⟨g1,g2⟩:=hX10 _ t7.le t7.av;refine hK3 r10 _ _ rfl rfl ⟨_,View.le_trans hW6 (aH (h':=h7) t6.own.wle),⟨w10.congr fun p=>?_,t7.old,g1,g2⟩⟩;rw[eG,<-List.append_assoc];unfold ox Own.upd;repeat' split
   all_goals first | rfl | simp_all
  rintro r h6 ⟨W6,hW6,t6⟩;simp;subst hy;have hW6h:=View.le_trans hW6 t6.own.wle;have bih:=bi.2.mono hW6h;have cih:=ae hW6h bi.1;have hlr:(thTo f b++rows (phiT f b) (nth f.blocks b).phis.length++rows (insT f b) (nth f.blocks b).ins.length).length=(thTo f b).length+(nth f.blocks b).phis.length+(nth f.blocks b).ins.length:=by simp;omega
  simp[cih,bih.len,ae hW6h ba.1];refine DS rfl rfl rfl (ba.2.cells.1) ?_;simp;refine t6.own.vR (k:=(0,0)) (α:=Th) (v:=r) (l:=thTo f b++rows (phiT f b) (nth f.blocks b).phis.length++rows (insT f b) (nth f.blocks b).ins.length) (d:=endT f b) rfl El.gG rfl (ER ⟨by omega,by omega⟩ ⟨by omega,by omega⟩ fo (ba.2.mono hW6)) (by omega) (by omega) (fun _=>rfl) (fun _=>rfl) fun u10 r10 h10 w10 hX10=>?_;obtain⟨g1,g2⟩:=hX10 _ t6.le t6.av;refine hK2 r10 _ _ rfl rfl ⟨_,View.le_trans hW4 hW6,⟨w10.congr fun p=>?_,t6.old,g1,g2⟩⟩;have e:thTo f (b+1)=thTo f b++rows (phiT f b) (nth f.blocks b).phis.length++rows (insT f b) (nth f.blocks b).ins.length++[endT f b]:=by rw[iE,thB];simp[L5]
  rw[e];unfold ox Own.upd;repeat' split
  all_goals first | rfl | simp_all
 rintro r h3 ⟨W3,hW3,t3⟩;simp;subst hz;simp;exact hK _ _ ⟨t3.le,(t3.own.get (k:=(0,0)) (v:=r) (l:=thTo f f.blocks.length) rfl).rd (t3.old.le t3.own.wle) fun b hb=>by
  have:=t3.av b hb;rw[cM];rcases LI b h.size with hlt | hge
  ·simp[vw,hlt]at this
  exact hge⟩
structure GotD where
 e:Int
 b:Int
 p:Int
instance:Rep GotD:=Rep.via fun d=>Cat.mk d.e (Cat.mk d.b d.p)
def gotV (t:Tr):Value:=.agg #[.int .i64 t.1,.int .i64 t.2.1,.int .i64 t.2.2]
def gotD (t:Tr):GotD:=⟨t.1,t.2.1,t.2.2⟩
theorem rT{t:Tr}(h1:I64 t.1)(h2:I64 t.2.1)(h3:I64 t.2.2):Rd H (gotV t) (gotD t):=
 ⟨_,rfl,[.int .i64 t.1],[.int .i64 t.2.1,.int .i64 t.2.2],rfl,⟨rfl,h1⟩,[.int .i64 t.2.1],[.int .i64 t.2.2],rfl,⟨rfl,h2⟩,rfl,h3⟩
theorem Ds{cs:List Value}{d:GotD}(h:Rep.rd H cs d):cs=[.int .i64 d.e,.int .i64 d.b,.int .i64 d.p]:=by obtain⟨c1,r1,rfl,⟨rfl,_⟩,c2,r2,rfl,⟨rfl,_⟩,rfl,_⟩:=h;rfl
variable{W:View}
theorem qW{h:Heap}{o:Own}{k:Key}{e:TypeId}{B:Nat}{t:Tr}(w:Owns W h o)(hk:o k=bx e B (gotD t)):Un.ev (vw h) (.al 3) (.pointer (some ⟨B,0,none⟩))=some (gotV t):=by obtain⟨cs,hcs,hrd⟩:=w.atW hk;have:=Ds hrd;subst this;have:=gz hcs 3 0 #[] (by rfl);simp[Un.ev,vP,this,gotV,gotD]
theorem oE{po:OP}{h:Heap}{x z:Operand}{t:Tr}(hx:asg us x = .int .i64 t.1)(hy:asg us y = .int .i64 t.2.1)(hz:asg us z = .int .i64 t.2.2)(hk:K (gotV t) h):
  Lft.step Tryz.prog (.build T.de #[(0,x),(1,y),(2,z)]) ty us h K:=
 aE (z:=.agg #[.int .i64 0,.int .i64 0,.int .i64 0]) (places:=[(0,1),(1,1),(2,1)]) (vs:=[(0,.int .i64 t.1),(1,.int .i64 t.2.1),(2,.int .i64 t.2.2)]) (cs:=#[.int .i64 t.1,.int .i64 t.2.1,.int .i64 t.2.2]) (by kernel_rfl) (by kernel_rfl) (by simp[hx,hy,hz]) (by rfl) hk
theorem Co{po:OP}{h:Heap}(hk:K (gotV (0,0,0)) h):Lft.step Tryz.prog (.build T.de #[]) ty us h K:=
 aE (z:=.agg #[.int .i64 0,.int .i64 0,.int .i64 0]) (places:=[(0,1),(1,1),(2,1)]) (vs:=[]) (cs:=#[.int .i64 0,.int .i64 0,.int .i64 0]) (by kernel_rfl) (by kernel_rfl) (by simp) (by rfl) hk
theorem y6{po:OP}{h:Heap}{e:Int}(hk:K (gotV (e,0,0)) h):Lft.step Tryz.prog (.build T.de #[(0,.const (.int .i64 e))]) ty us h K:=
 aE (z:=.agg #[.int .i64 0,.int .i64 0,.int .i64 0]) (places:=[(0,1),(1,1),(2,1)]) (vs:=[(0,.int .i64 e)]) (cs:=#[.int .i64 e,.int .i64 0,.int .i64 0]) (by kernel_rfl) (by kernel_rfl) (by simp) (by rfl) hk
theorem G7{po:OP}{h:Heap}{x:Operand}{e b:Int}(hx:asg us x = .int .i64 b)(hk:K (gotV (e,b,0)) h):Lft.step Tryz.prog (.build T.de #[(0,.const (.int .i64 e)),(1,x)]) ty us h K:=
 aE (z:=.agg #[.int .i64 0,.int .i64 0,.int .i64 0]) (places:=[(0,1),(1,1),(2,1)]) (vs:=[(0,.int .i64 e),(1,.int .i64 b)]) (cs:=#[.int .i64 e,.int .i64 b,.int .i64 0]) (by kernel_rfl) (by kernel_rfl) (by simp[hx]) (by rfl) hk
theorem BB{B:Nat}{d:Th}(h:At H ⟨B,0,none⟩ d):ao H ⟨B,0,none⟩=some (.int .i64 d.blk)/\ao H ⟨B,1,none⟩=some (.int .i64 d.place)/\(∃v,Sl H ⟨B,2,none⟩ v d.mks)/\∃v,Sl H ⟨B,3,none⟩ v d.tks:=by obtain⟨v,hv⟩:=(h.part Th.Fp).sl;obtain⟨u,hu⟩:=(h.part Th.CX).sl;exact⟨by simpa using(h.part Th.AL).int,by simpa using(h.part Th.Io).int,⟨v,by simpa using hv⟩,u,by simpa using hu⟩
abbrev BL:=List Bool
def jy (t:Th) (j:Nat) (m:BL):Except Tr BL:=if nth m (nth t.mks j).toNat then .error (12,t.blk,t.place) else .ok (m.set (nth t.mks j).toNat true)
def eY (f:an) (t:Th):BlkD:=nth f.blocks t.blk.toNat
def kb (f:an) (t:Th):InsD:=nth (eY f t).ins t.place.toNat
def ld (f:an) (t:Th):Bool:=decide (0<=t.place)&&decide (t.place<(eY f t).ins.length)
def eT (f:an) (t:Th):Bool:=decide (t.place=(eY f t).ins.length)
def lX (s:InsD):Bool:=decide (s.op<1)||decide (18<s.op)||!mF s.op s.args.length
def jm (f:an) (n:Int):Bool:=decide (n<f.params)||decide (8191<n)
def nW (f:an) (n:Int):Bool:=decide (n<1)||decide ((f.blocks.length:Int)<=n)
def kI (f:an) (t:Th):Except Tr BL->Except Tr BL
 | .error e=>.error e
 | .ok m'=>if eT f t&&(eY f t).term.to.any (nW f) then .error (14,t.blk,t.place) else .ok m'
def b6 (f:an) (t:Th) (m:BL):Except Tr BL:=
 if ld f t&&lX (kb f t) then .error (10,t.blk,t.place)
 else if eT f t&&!jG (eY f t).term then .error (10,t.blk,t.place)
 else if t.mks.any (jm f) then .error (11,t.blk,t.place)
 else kI f t (upE (jy t) t.mks.length m)
def dL (f:an):Except Tr BL:=upE (fun i m=>b6 f (nth (aL f) i) m) (aL f).length (List.replicate 8192 false)
def iM {α:Type}:Except Tr α->Tr | .ok _=>(0,0,0) | .error t=>t
theorem Af{f:an}{t:Th}{m m':BL}(h:b6 f t m = .ok m'):m'.length=m.length:=by
 unfold b6 at h;split at h
 ·cases h
 split at h
 ·cases h
 split at h
 ·cases h
 unfold kI at h;split at h
 ·cases h
 rename_i m1 hm1;have key : ∀n s,upE (jy t) n m = .ok s->s.length=m.length:=by
  intro n;induction n with
  | zero=>intro s hs;cases hs;rfl
  | succ n ih=>
   intro s hs;simp only[upE]at hs;split at hs
   ·rename_i s1 hs1;have:=ih s1 hs1;unfold jy at hs;split at hs
    ·cases hs
    cases hs;simpa using this
   cases hs
 split at h
 ·cases h
 cases h;exact key _ _ hm1
def oQ (vm:Value) (m:BL) (R:Nat) (g:GotD):Own:=fun k=>if k=(0,0) then it T.bool vm m else if k=(1,0) then bx T.de R g else none
theorem Dw{vm:Value}{m m':BL}{R:Nat}{g:GotD}(q:Key):oQ vm m' R g q=(oQ vm m R g).upd (0,0) (it T.bool vm m') q:=by
 unfold oQ Own.upd;repeat' split
 all_goals first | rfl | simp_all
theorem zC{f:an}{v:Value}{h:Heap}(hv:Rd (vw h) v f)(hsm:SmF f)(hp0:0<=f.params):
  az Tryz.prog N.cm #[v] h (fun u h'=>u=gotV (iM (dL f))/\(vw h).le (vw h')):=by
 refine aq (args:=[v]) follows F.cm E.cm (LD (by kernel_rfl)) fun K hK=>?_;have hn:=hsm.len;dsimp only[L.cm];refine aa fun z hz=>?_;simp;refine gm rfl hv fun h1 _ hle1 hs1 hat=>?_;obtain⟨cp,vb,cb⟩:=fM hat;obtain⟨u,hu,hur⟩:=hat.al rfl;have hu:Un.ev (vw h1) (.al 2) (.pointer (some ⟨h.size,0,none⟩))=some u:=hu
 generalize h.size=B at cp cb hu;refine eZ (z:=.agg #[.int .i64 0,.int .i64 0,.int .i64 0]) (by kernel_rfl) ?_;have q1:=bm h1 (.cells (Value.cells (.agg #[.int .i64 0,.int .i64 0,.int .i64 0])) T.de);generalize e2:h1.push (.cells (Value.cells (.agg #[.int .i64 0,.int .i64 0,.int .i64 0])) T.de)=h2 at q1;have b2:h2[h1.size]? = some (.cells (gotV (0,0,0)).cells T.de (0,0)):=by rw[<-e2];simp;rfl
 have w2:=(Owns.start (h:=h1) (View.le_refl (vw h1))).add (k:=(1,0)) rfl (iq (h:=h2) (d:=gotD (0,0,0)) b2 (rT (by constructor<;>decide) (by constructor<;>decide) (by constructor<;>decide)) (by decide)) q1 (fun b hb=>by simp only[Value.ownBlock,LF]at hb;omega);generalize h1.size=R at w2;subst hz;refine aa fun z hz=>?_;simp;refine lx (α:=Bool) (W:=vw h1) (k:=.i64) (n:=8192) (d:=false) El.lh rfl rfl rfl (by omega) (by omega) fun vm h3 o3 m3 hle3 hb3=>?_;have w3:=w2.add (k:=(0,0)) rfl o3 hle3 (fun b hb=>by rw[hb3]at hb;cases hb;exact LG _)
 have w3:Owns (vw h1) h3 (oQ vm (List.replicate 8192 false) R (gotD (0,0,0))):=w3.congr fun q=>by
  unfold oQ Own.upd;repeat' split
  all_goals first | rfl | simp_all
 subst hz;refine aa fun z hz=>?_;have hu3:Un.ev (vw h3) (.al 2) (.pointer (some ⟨B,0,none⟩))=some u:=by have:=cV (ρ:=fun _=>none) (e:=.un (.al 2) (.con (.pointer (some ⟨B,0,none⟩)))) w3.wle (v:=u) (by simpa using hu);simpa using this
 simp[hu3];refine aj (by kernel_rfl) (ny hur w3.wle hsm) ?_;rintro vt h4 ⟨hle4,ht⟩;have w4:=w3.ext hle4;have hW1:(vw h1).le (grow (vw h1) h3 h4):=aH w3.wle;have hth : ∀t∈aL f,ThOk f t:=fun t ht=>oS hsm ht;have hrs:dL f=upE (fun i m=>b6 f (nth (aL f) i) m) (aL f).length (List.replicate 8192 false):=rfl
 have htl:=ht.bound;generalize aL f=ts at ht hth hrs htl;generalize grow (vw h1) h3 h4=W1 at w4 hW1 ht;subst hz;refine aa fun z hz=>?_;simp;refine aO [1,2,3,4,5] (fun(_:Unit) i=>[.pointer (some ⟨B,0,none⟩),.pointer (some ⟨R,0,none⟩),vm,vt,.int .i64 i])
  (fun _ i h5=>∃W m,W1.le W/\Owns W h5 (oQ vm m R (gotD (0,0,0)))/\upE (fun i m=>b6 f (nth ts i) m) i (List.replicate 8192 false) = .ok m/\m.length=8192) ts.length ()
  rfl (by omega) rfl ⟨W1,_,View.le_refl _,w4,rfl,MM ..⟩ (fun _ _=>rfl) (fun v k h5 hk ⟨W,m,q1,q2,_⟩=>by simp[(ht.mono (View.le_trans q1 q2.wle)).len]) ?_ ?_
 ·rintro _ i h5 hlti ⟨W5,m,hW5,w5,hm,hml⟩ K2 hK2;have hst:upE (fun i m=>b6 f (nth ts i) m) (i+1) (List.replicate 8192 false)=b6 f (nth ts i) m:=ju hm;have her : ∀{t},b6 f (nth ts i) m = .error t->dL f = .error t:=fun e=>by rw[hrs];exact oK hm hlti e
  have ht5:=ht.mono hW5;obtain⟨ut,hut,hutr⟩:=ht5.wh rfl (N:=4) rfl hlti;have ok:=hth _ (bc hlti);have hml2 : ∀{m'},b6 f (nth ts i) m = .ok m'->m'.length=8192:=fun e=>(Af e).trans hml;generalize nth ts i=t at hst her hutr ok hml2;refine aa fun y hy=>?_;simp(disch:=omega)[(ht5.mono w5.wle).idxn (N:=4) rfl,hut _ w5.wle];refine fm (X:=W5) (z:=.agg #[.int .i64 0,.int .i64 0,.slice none 0 0,.slice none 0 0]) (by kernel_rfl) rfl (by kernel_rfl) hutr (fun _=>by simp) (fun _=>by simp) fun h6 hle6 hs6 hat6=>?_;have w6:=w5.ext hle6
  obtain⟨tb,tp,⟨vk,tk⟩,_⟩:=BB (hat6 (grow W5 h5 h6) (aH w5.wle) (cM (LG _)));have hW6:=View.le_trans hW5 (aH (h':=h6) w5.wle);generalize grow W5 h5 h6=W6 at w6 tb tp tk hW6;generalize h5.size=D at tb tp tk;subst hy;refine aa fun y hy=>?_;have hb:=ok.blk
  have cb6:=cb.2.mono (View.le_trans hW1 hW6);have cc6:=ae (View.le_trans hW1 hW6) cb.1;obtain⟨ux,hux,huxr⟩:=cb6.wh rfl (N:=6) rfl (i:=t.blk.toNat) (by omega);simp(disch:=omega)[ae w6.wle cc6,(cb6.mono w6.wle).idxn (N:=6) rfl,ae w6.wle tb,hux _ w6.wle];refine fm (X:=W6) (z:=.agg #[.slice none 0 0,.slice none 0 0,.int .i64 0,.slice none 0 0,.slice none 0 0,.int .i32 0]) (by kernel_rfl) rfl (by kernel_rfl) huxr (fun _=>by simp) (fun _=>by simp) fun h7 hle7 hs7 hat7=>?_;have w7:=w6.ext hle7
  have hat7':=hat7 (grow W6 h6 h7) (aH w6.wle) (cM (LG _));obtain⟨vp,vi,va,vto,bp,bi,bk,ba,bt⟩:=ib hat7';have hterm:=hat7'.part BlkD.kz;have hW67:=aH (h':=h7) w6.wle;have hW7:=View.le_trans hW6 hW67;have tb7:=ae hW67 tb;have tp7:=ae hW67 tp;have tk7:=ae hW67 tk.1;have tkr:=tk.2.mono hW67;have sb:=hsm.blk t.blk.toNat (by omega);have hxeq:eY f t=nth f.blocks t.blk.toNat:=rfl;generalize hx:nth f.blocks t.blk.toNat=x at bp bi bk ba bt hterm sb hxeq;generalize grow W6 h6 h7=W7 at w7 bp bi bk ba bt hterm hW7 tb7 tp7 tk7 tkr;generalize h6.size=D7 at bp bi bk ba bt hterm;clear hat7' hat7 hat6;subst hy;have si:=sb.ins;have bti:=tkr.bound;have hpl:=ok.place;have ret : ∀{e:Int} {h8:Heap} {W8:View} {m8:BL} {x y:Operand} {us:List (Nat × Value)} {ty:TypeId} {K9:Value->Heap->Prop},0<=e->e<=100->Owns W8 h8 (oQ vm m8 R (gotD (0,0,0)))->W7.le W8->b6 f t m = .error (e,t.blk,t.place)->
    asg us x = .pointer (some ⟨R,0,none⟩)->asg us y=gotV (e,t.blk,t.place)->(∀v h9,Un.ev (vw h9) (.al 3) (.pointer (some ⟨R,0,none⟩))=some (gotV (iM (dL f)))->K (gotV (iM (dL f))) h9->K9 v h9)->@Lft.step (@opAt noPP none) Tryz.prog (.store T.de x y) ty us h8 K9:=by
   intro e h8 W8 m8 x y us ty K9 he0 he1 w8 hW8 hbad hx hy hK9;refine w8.ez (k:=(1,0)) (e:=T.de) (D:=gotD (0,0,0)) (Part.all) (d:=gotD (e,t.blk,t.place)) rfl (by kernel_rfl) hx hy (rT ⟨by show _<=e;omega,by show e<=_;omega⟩ ⟨by show _<=t.blk;omega,by show t.blk<=_;omega⟩ ⟨by show _<=t.place;omega,by show t.place<=_;omega⟩) fun h9 w9 hs9=>?_;have hb:=her hbad;refine hK9 _ _ ?_ ?_
   ·rw[hb];exact qW w9 (Own.af)
   exact hK _ _ ⟨rfl,View.le_trans hle1 (View.le_trans hW1 (View.le_trans hW7 (View.le_trans hW8 w9.wle)))⟩
  refine aa fun y hy=>?_;refine mA (fun ρ h8=>∃W8 tl,(ld f t&&lX (kb f t))=false/\Owns W8 h8 (oQ vm m R (gotD (0,0,0)))/\W7.le W8/\ρ=[(1,.pointer (some ⟨B,0,none⟩)),(2,.pointer (some ⟨R,0,none⟩)),(3,vm),(4,vt),(5,.int .i64 i),(6,.pointer (some ⟨D,0,none⟩)),(7,.pointer (some ⟨D7,0,none⟩))]++tl) ?_ ?_
  ·intro K3 hK3;cases hii:ld f t with
   | false=>
    have hcc:(decide (0<=t.place)&&decide (t.place<(x.ins.length:Int)))=false:=by rw[<-hxeq];exact hii
    simp[ae w7.wle tp7,ae w7.wle bi.1,(bi.2.mono w7.wle).len,hcc];exact hK3 _ _ ⟨W7,_,by rw[hii];rfl,w7,View.le_refl _,rfl⟩
   | true=>
    have hcc:(decide (0<=t.place)&&decide (t.place<(x.ins.length:Int)))=true:=by rw[<-hxeq];exact hii
    have hcc':=hcc;simp only[LK,decide_eq_true_eq]at hcc';obtain⟨us,hus,husr⟩:=bi.2.wh rfl (N:=5) rfl (i:=t.place.toNat) (by omega);have hins:kb f t=nth x.ins t.place.toNat:=by rw[kb,hxeq]
    refine aa fun q hq=>?_;simp[ae w7.wle tp7,ae w7.wle bi.1,(bi.2.mono w7.wle).len,hcc];subst hq;refine aw (by simp) ?_;refine aa fun q hq=>?_;simp(disch:=omega)[ae w7.wle tp7,ae w7.wle bi.1,(bi.2.mono w7.wle).idxn (N:=5) rfl,hus _ w7.wle];refine fm (X:=W7) (z:=.agg #[.int .i64 0,.int .i64 0,.int .i64 0,.slice none 0 0,.int .i32 0]) (by kernel_rfl) rfl (by kernel_rfl) husr (fun _=>by simp) (fun _=>by simp) fun h8 hle8 hs8 hat8=>?_;have w8:=w7.ext hle8;obtain⟨c0,_,_,vs,cs⟩:=rJ (hat8 (grow W7 h7 h8) (aH w7.wle) (cM (LG _)));have hW8:=aH (h':=h8) w7.wle;have tb8:=ae hW8 tb7;have tp8:=ae hW8 tp7;rw[<-hins]at c0 cs;have hop:lX (kb f t)=(decide ((kb f t).op<1)||decide (18<(kb f t).op)||!mF (kb f t).op (kb f t).args.length):=rfl;have hbd:(ld f t&&lX (kb f t))=lX (kb f t):=by rw[hii];rfl
    have hbad:lX (kb f t)=true->b6 f t m = .error (10,t.blk,t.place):=fun e=>by rw[b6,hbd,if_pos e]
    rw[hbd]at hK3;generalize kb f t=s at c0 cs hK3 hop hbad;generalize h7.size=D8 at c0 cs;subst hq;refine aa fun q hq=>?_;refine mA (fun ρ h9=>h9=h8/\(∃tl,ρ=[(1,.pointer (some ⟨B,0,none⟩)),(2,.pointer (some ⟨R,0,none⟩)),(3,vm),(4,vt),(5,.int .i64 i),(6,.pointer (some ⟨D,0,none⟩)),(7,.pointer (some ⟨D7,0,none⟩)),(8,.pointer (some ⟨D8,0,none⟩))]++tl)/\Lft.look ρ 65=some (.bool (lX s))) ?_ ?_
    ·intro K4 hK4;rw[hop]at hK4;by_cases d1:s.op<1
     ·simp[ae w8.wle c0,ae w8.wle cs.1,cs.2.len,d1];exact hK4 _ _ ⟨rfl,⟨_,rfl⟩,by simp[d1]⟩
     by_cases d2:18<s.op
     ·simp[ae w8.wle c0,ae w8.wle cs.1,cs.2.len,d1,d2];exact hK4 _ _ ⟨rfl,⟨_,rfl⟩,by simp[d2]⟩
     simp[ae w8.wle c0,ae w8.wle cs.1,cs.2.len,d1,d2];refine aj (by kernel_rfl) DL ?_;rintro _ _ ⟨rfl,rfl⟩;simp;exact hK4 _ _ ⟨rfl,⟨_,rfl⟩,by simp[d1,d2]⟩
    rintro ρ _ ⟨rfl,⟨tl,rfl⟩,hl⟩;subst hq;cases hob:lX s with
    | true=>rw[hob]at hl;refine aw (by rw[jP];exact hl) ?_;simp[ae w8.wle tb8,ae w8.wle tp8];refine oE (t:=(10,t.blk,t.place)) rfl rfl rfl ?_;simp[ag,ah];refine ret (by omega) (by omega) w8 hW8 (hbad hob) rfl rfl fun _ h9 hl9 hK9=>?_;simp[hl9];exact hK9
    | false=>rw[hob]at hl;refine au (by rw[jP];exact hl) ?_;simp;exact hK3 _ _ ⟨_,_,hob,w8,hW8,rfl⟩
  rintro ρ h8 ⟨W8,tl,hni,w8,hW8,rfl⟩;subst hy;have e1 : ∀{α:Type} (a b:α),(if(ld f t&&lX (kb f t))=true then a else b)=b:=fun a b=>by rw[if_neg (by rw[hni];simp)]
  have tb8:=ae (View.le_trans hW8 w8.wle) tb7;have tp8:=ae (View.le_trans hW8 w8.wle) tp7;have ci8:=ae (View.le_trans hW8 w8.wle) bi.1;have bi8:=bi.2.mono (View.le_trans hW8 w8.wle);have hlast:eT f t=decide (t.place=(x.ins.length:Int)):=by rw[eT,hxeq]
  refine aa fun y hy=>?_;simp[tp8,ci8,bi8.len,<-hlast];subst hy;refine aa fun y hy=>?_;have htx:(eY f t).term=x.term:=by rw[hxeq]
  have hterm8:=hterm.mono (View.le_trans hW8 w8.wle);obtain⟨uT,huT,huTr⟩:=hterm8.al rfl;have huT:Un.ev (vw h8) (.al 4) (.pointer (some ⟨D7,2,none⟩))=some uT:=by have h2:Un.ev (vw h8) (.al 4) (.pointer (some ((⟨D7,0,none⟩:Addr).add 2)))=some uT:=huT;rwa [vD]at h2
  refine mA (fun ρ h9=>(∃W9,Owns W9 h9 (oQ vm m R (gotD (0,0,0)))/\W7.le W9)/\(eT f t&&!jG x.term)=false/\∃tl,ρ=[(1,.pointer (some ⟨B,0,none⟩)),(2,.pointer (some ⟨R,0,none⟩)),(3,vm),(4,vt),(5,.int .i64 i),(6,.pointer (some ⟨D,0,none⟩)),(7,.pointer (some ⟨D7,0,none⟩))]++tl/\Lft.look ρ 9=some (.bool (eT f t))) ?_ ?_
  ·intro K3 hK3;refine aa fun q hq=>?_;have htb:(eT f t&&!jG x.term)=true->b6 f t m = .error (10,t.blk,t.place):=fun e=>by rw[b6,e1,htx,if_pos e]
   refine mA (fun ρ h9=>(∃W9,Owns W9 h9 (oQ vm m R (gotD (0,0,0)))/\W7.le W9)/\(∃tl,ρ=[(1,.pointer (some ⟨B,0,none⟩)),(2,.pointer (some ⟨R,0,none⟩)),(3,vm),(4,vt),(5,.int .i64 i),(6,.pointer (some ⟨D,0,none⟩)),(7,.pointer (some ⟨D7,0,none⟩))]++tl)/\Lft.look ρ 9=some (.bool (eT f t))/\Lft.look ρ 83=some (.bool (eT f t&&!jG x.term))) ?_ ?_
   ·intro K4 hK4;cases hl:eT f t with
    | false=>rw[hl]at hK4;simp[ag,ah];exact hK4 _ _ ⟨⟨W8,w8,hW8⟩,⟨_,rfl⟩,by simp[ag,ah],by simp[ag,ah]⟩
    | true=>rw[hl]at hK4;simp[ag,ah,huT];refine aj (by kernel_rfl) (Ir huTr) ?_;rintro _ h9 ⟨rfl,hle9⟩;simp[ag,ah];exact hK4 _ _ ⟨⟨_,w8.ext hle9,View.le_trans hW8 (aH w8.wle)⟩,⟨_,rfl⟩,by simp[ag,ah],by simp[ag,ah]⟩
   rintro ρ h9 ⟨⟨W9,w9,hW9⟩,⟨tl,rfl⟩,hl9,hl83⟩;subst hq;have tb9:=ae (View.le_trans hW9 w9.wle) tb7;have tp9:=ae (View.le_trans hW9 w9.wle) tp7;cases hob:(eT f t&&!jG x.term)with
   | true=>rw[hob]at hl83;refine aw (by rw[jP];exact hl83) ?_;simp[tb9,tp9];refine oE (t:=(10,t.blk,t.place)) rfl rfl rfl ?_;simp[ag,ah];refine ret (by omega) (by omega) w9 hW9 (htb hob) rfl rfl fun _ h9 hl9 hK9=>?_;simp[hl9];exact hK9
   | false=>rw[hob]at hl83;refine au (by rw[jP];exact hl83) ?_;simp at hl9;simp;exact hK3 _ _ ⟨⟨W9,w9,hW9⟩,hob,_,rfl,by simpa[ah]using hl9⟩
  rintro ρ h9 ⟨⟨W9,w9,hW9⟩,hnt,tl,rfl,hl9⟩;subst hy;have e2 : ∀{α:Type} (a b:α),(if(eT f t&&!jG (eY f t).term)=true then a else b)=b:=fun a b=>by rw[htx,if_neg (by rw[hnt];simp)]
  have tb9:=ae (View.le_trans hW9 w9.wle) tb7;have tp9:=ae (View.le_trans hW9 w9.wle) tp7;have ck9:=ae (View.le_trans hW9 w9.wle) tk7;have kr9:=tkr.mono (View.le_trans hW9 w9.wle);have cp9:ao (vw h9) ⟨B,0,none⟩=some (.int .i64 f.params):=ae (View.le_trans hW1 (View.le_trans hW7 (View.le_trans hW9 w9.wle))) cp;refine aa fun y hy=>?_;simp;refine aO [1,2,3,4,5,6,7,9,10] (fun(_:Unit) k=>[.pointer (some ⟨B,0,none⟩),.pointer (some ⟨R,0,none⟩),vm,vt,.int .i64 i,.pointer (some ⟨D,0,none⟩),.pointer (some ⟨D7,0,none⟩),.bool (eT f t),.int .i64 k])
   (fun _ k h10=>h10=h9/\∀j,j<k->jm f (nth t.mks j)=false) t.mks.length ()
   rfl (by omega) (by simp at hl9;simp[aZ,ag,ah,hl9]) ⟨rfl,fun j hj=>by omega⟩ (fun _ _=>rfl) (fun v k h10 hk ⟨q1,_⟩=>by subst q1;simp[ck9,kr9.len]) ?_ ?_
  ·rintro _ k h9 hltk ⟨rfl,hpre⟩ K3 hK3;have hnb:jm f (nth t.mks k)=(decide (nth t.mks k<f.params)||decide (8191<nth t.mks k)):=rfl;have hbad:jm f (nth t.mks k)=true->b6 f t m = .error (11,t.blk,t.place):=fun e=>by rw[b6,e1,e2,if_pos];rw[Np];exact⟨_,bc hltk,e⟩
   refine aa fun q hq=>?_;simp(disch:=omega)[ck9,kr9.idx1 rfl,kr9.int (View.le_refl _),cp9,<-hnb];subst hq;cases hob:jm f (nth t.mks k)with
   | true=>refine aw (by simp) ?_;simp[tb9,tp9];refine oE (t:=(11,t.blk,t.place)) rfl rfl rfl ?_;refine ret (by omega) (by omega) w9 hW9 (hbad hob) rfl rfl fun _ h9 hl9 hK9=>?_;simp[hl9];exact hK9
   | false=>
    refine au (by simp) ?_;simp;refine hK3 () _ _ rfl rfl ⟨rfl,fun j hj=>?_⟩;rcases LI j k with h | h
    ·exact hpre j h
    have:j=k:=by omega
    subst this;exact hob
  rintro _ h9 ⟨rfl,hpre⟩;have e3 : ∀{α:Type} (a b:α),(if t.mks.any (jm f)=true then a else b)=b:=fun a b=>by rw[if_neg];intro e;obtain⟨n,hn,hb⟩:=Np.1 e;obtain⟨j,hj,rfl⟩:=LQ hn;rw[<-ak hj,hpre j hj]at hb;cases hb
  simp;subst hy;refine aa fun y hy=>?_;simp;have hshape:b6 f t m=kI f t (upE (jy t) t.mks.length m):=by rw[b6,e1,e2,e3]
  have hnr : ∀j,j<t.mks.length->0<=nth t.mks j/\nth t.mks j<8192:=fun j hj=>by have:=hpre j hj;simp only[jm,MZ,decide_eq_false_iff_not]at this;omega
  refine aO [1,2,3,4,5,6,7,9,11] (fun(_:Unit) k=>[.pointer (some ⟨B,0,none⟩),.pointer (some ⟨R,0,none⟩),vm,vt,.int .i64 i,.pointer (some ⟨D,0,none⟩),.pointer (some ⟨D7,0,none⟩),.bool (eT f t),.int .i64 k])
   (fun _ k h10=>∃m',Owns W9 h10 (oQ vm m' R (gotD (0,0,0)))/\upE (jy t) k m = .ok m'/\m'.length=8192) t.mks.length ()
   rfl (by omega) rfl ⟨m,w9,rfl,hml⟩ (fun _ _=>rfl) (fun v k h10 hk ⟨m',q1,_⟩=>by simp[ae (View.le_trans hW9 q1.wle) tk7,(tkr.mono (View.le_trans hW9 q1.wle)).len]) ?_ ?_
  ·rintro _ k h10 hltk ⟨m',w10,hm',hml'⟩ K3 hK3;have hs10:=ju hm';have her10 : ∀{e},jy t k m' = .error e->b6 f t m = .error e:=fun e=>by rw[hshape,oK hm' hltk e];rfl
   rw[jy]at hs10 her10;have hr:=hnr k hltk;have tb10:=ae (View.le_trans hW9 w10.wle) tb7;have tp10:=ae (View.le_trans hW9 w10.wle) tp7;have ck10:=ae (View.le_trans hW9 w10.wle) tk7;have kr10:=tkr.mono (View.le_trans hW9 w10.wle);have nm:=w10.now (k:=(0,0)) (v:=vm) (l:=m') rfl;refine aa fun q hq=>?_;refine aa fun p hp=>?_;simp(disch:=omega)[ck10,kr10.idx1 rfl,kr10.int (View.le_refl _),nm.idx1 rfl,nm.bool (View.le_refl _)];subst hp;cases hob:nth m' (nth t.mks k).toNat with
   | true=>refine aw (by simp) ?_;simp[tb10,tp10];refine oE (t:=(12,t.blk,t.place)) rfl rfl rfl ?_;refine ret (by omega) (by omega) w10 hW9 (her10 (by rw[if_pos hob])) rfl rfl fun _ h9 hl9 hK9=>?_;simp[hl9];exact hK9
   | false=>refine au (by simp) ?_;simp;subst hq;simp(disch:=omega)[ck10,kr10.idx1 rfl,kr10.int (View.le_refl _),nm.idx1 rfl];refine w10.ky (k:=(0,0)) (α:=Bool) (l:=m') (v:=vm) (i:=(nth t.mks k).toNat) (d:=true) rfl (by kernel_rfl) (by simp[show Rep.n Bool=1 from rfl]) rfl (by omega) Hb fun h11 w11 hs11=>?_;refine hK3 () _ _ rfl rfl ⟨_,w11.congr Dw,by rw[hs10,if_neg (by rw[hob];simp)],by rw[LN];exact hml'⟩
  rintro _ h10 ⟨m',w10,hm',hml'⟩;rw[hm']at hshape;have hshape:b6 f t m=if eT f t&&(eY f t).term.to.any (nW f) then .error (14,t.blk,t.place) else .ok m':=hshape;simp;subst hy;have tb10:=ae (View.le_trans hW9 w10.wle) tb7;have tp10:=ae (View.le_trans hW9 w10.wle) tp7;have ct10:=ae (View.le_trans hW9 w10.wle) bt.1;have tr10:=bt.2.mono (View.le_trans hW9 w10.wle);have hW110:=View.le_trans hW1 (View.le_trans hW7 hW9);have bto:=sb.to;have done:(eT f t&&(eY f t).term.to.any (nW f))=false->∀ρ:Env,Lft.look ρ 5=some (.int .i64 i)->aZ [1,2,3,4,5] (setE ρ 5 (.int .i64 ((i:Int)+1)))=[1,2,3,4,5].zip [.pointer (some ⟨B,0,none⟩),.pointer (some ⟨R,0,none⟩),vm,vt,.int .i64 ((i+1:Nat):Int)]->K2 ρ h10:=fun e ρ l5 lk=>by rw[e]at hshape;have hshape:b6 f t m = .ok m':=hshape;exact hK2 () _ _ l5 lk ⟨W9,m',View.le_trans hW7 hW9,w10,by rw[hst,hshape],hml'⟩
  refine aa fun y hy=>?_;simp;subst hy;cases hl:eT f t with
  | false=>refine fN [1,2,3,4,5,9] (fun n ρ h11=>n=0/\h11=h10/\ρ=[(1,.pointer (some ⟨B,0,none⟩)),(2,.pointer (some ⟨R,0,none⟩)),(3,vm),(4,vt),(5,.int .i64 i),(9,.bool false)]) 0 ⟨rfl,rfl,by simp[aZ,hl]⟩ ?_;rintro n ρ h11 ⟨rfl,rfl,rfl⟩ K3 hK3;simp[L.cm.l4];exact done (by rw[hl];rfl) _ rfl rfl
  | true=>
   have hbq:eY f t=x:=hxeq;rw[hbq,hl]at hshape done;refine fN [1,2,3,4,5,6,7,9,12] (fun n ρ h11=>∃k:Nat,k<=x.term.to.length/\n=x.term.to.length-k/\h11=h10/\ρ=[(1,.pointer (some ⟨B,0,none⟩)),(2,.pointer (some ⟨R,0,none⟩)),(3,vm),(4,vt),(5,.int .i64 i),(6,.pointer (some ⟨D,0,none⟩)),(7,.pointer (some ⟨D7,0,none⟩)),(9,.bool true),(12,.int .i64 k)]/\∀j,j<k->nW f (nth x.term.to j)=false)
    x.term.to.length ⟨0,by omega,by omega,rfl,by simp[aZ,hl],fun j hj=>by omega⟩ ?_;rintro n ρ _ ⟨k,hk,rfl,rfl,rfl,hpre⟩ K3 hK3;have cc10:=ae (View.le_trans hW110 w10.wle) cb.1;have cb10:=cb.2.mono (View.le_trans hW110 w10.wle);by_cases hlt:k<x.term.to.length
   ·refine aa fun y hy=>?_;simp[ct10,tr10.len,hlt];subst hy;refine aa fun y hy=>?_;have htb:nW f (nth x.term.to k)=(decide (nth x.term.to k<1)||decide ((f.blocks.length:Int)<=nth x.term.to k)):=rfl;refine aa fun q hq=>?_;simp(disch:=omega)[ct10,tr10.idx1 rfl,tr10.int (View.le_refl _),cc10,cb10.len,<-htb];subst hq;cases hob:nW f (nth x.term.to k)with
    | true=>refine aw (by simp) ?_;simp[tb10,tp10];refine oE (t:=(14,t.blk,t.place)) rfl rfl rfl ?_;refine ret (by omega) (by omega) w10 hW9 (by rw[hshape,if_pos];simp only[N7];rw[Np];exact⟨_,bc hlt,hob⟩) rfl rfl fun _ h9 hl9 hK9=>?_;simp[hl9];exact hK9
    | false=>
     refine au (by simp) ?_;simp;subst hy;simp(disch:=omega);refine hK3 (x.term.to.length-(k+1)) _ _ (by omega) ⟨k+1,by omega,rfl,rfl,by simp[aZ],fun j hj=>?_⟩;rcases LI j k with h | h
     ·exact hpre j h
     have:j=k:=by omega
     subst this;exact hob
   have hlt':¬(k:Int)<x.term.to.length:=by omega
   simp[L.cm.l4,ct10,tr10.len,hlt];refine done (by simp only[N7];rw[MN];intro e;obtain⟨n,hn,hb⟩:=Np.1 e;obtain⟨j,hj,rfl⟩:=LQ hn;rw[<-ak hj,hpre j (by omega)]at hb;cases hb) _ rfl rfl
 rintro _ h5 ⟨W5,m,hW5,w5,hm,hml⟩;simp;subst hz;simp;refine Co ?_;refine w5.ez (k:=(1,0)) (e:=T.de) (D:=gotD (0,0,0)) (Part.all) (d:=gotD (0,0,0)) rfl (by kernel_rfl) rfl rfl (rT (by constructor<;>decide) (by constructor<;>decide) (by constructor<;>decide)) fun h6 w6 hs6=>?_;simp[qW w6 (Own.af)];exact hK _ _ ⟨by rw[hrs,hm];rfl,View.le_trans hle1 (View.le_trans hW1 (View.le_trans hW5 w6.wle))⟩
def noTh:Th:=⟨-1,0,[],[]⟩
def nN:Th:=⟨0,0,[],[]⟩
def dG (t:Th) (l:List Th) (n:Int):List Th:=if 0<=n/\n<8192 then l.set n.toNat t else l
def jn (l:List Th) (t:Th):List Th:=t.mks.foldl (dG t) l
def sZ (ts:List Th):List Th:=ts.foldl jn (List.replicate 8192 noTh)
theorem lE{t:Th}{l:List Th}{n:Int}:(dG t l n).length=l.length:=by unfold dG;split<;>simp
theorem wH{t:Th}{l:List Th}:(jn l t).length=l.length:=lI (f:=dG t) (fun x:List Th=>x.length=l.length) (fun _ _ h=>lE.trans h) _ _ rfl
theorem wD{ts:List Th}:(sZ ts).length=8192:=lI (f:=jn) (fun x:List Th=>x.length=8192) (fun _ _ h=>wH.trans h) _ _ (MM ..)
def tU (vo:Value) (l:List Th):Own:=fun k=>if k=(0,0) then it T.eJ vo l else none
theorem xo{vo:Value}{l l':List Th}(q:Key):tU vo l' q=(tU vo l).upd (0,0) (it T.eJ vo l') q:=by
 unfold tU Own.upd;repeat' split
 all_goals first | rfl | simp_all
theorem Owns.Hj{po:OP}{P:Program}{h:Heap}{o:Own}{k:Key}{α:Type}[r:Rep α]{e:TypeId}{v:Value}{l:List α}{t:TypeId}{x:Operand}{i:Nat}{u:Value}{d:α}(w:Owns W h o)(hk:o k=it e v l)(hsz:cC P t=some (Rep.n α))(hx:asg us x = .pointer (some ((slA v).add (i*Rep.n α))))(hy:asg us y=u)(hi:i<l.length)(hr:Rd W u d)(hK : ∀h',Owns W h' (o.upd k (it e v (l.set i d)))->(∀X:View,X.le (vw h)->Av X v->X.le (vw h'))->K undef h'):Lft.step P (.store t x y) ty us h K:=
 qA (po:=po) hsz hx hy (w.get hk) hi hr fun h' o2 m=>hK h' (w.lQ hk o2 m) fun X hX hA=>(m.view hX hA).1
theorem Owns.EL{po:OP}{P:Program}{h:Heap}{o:Own}{k:Key}{α β:Type}[r:Rep α][Rep β]{e:TypeId}{v:Value}{l:List α}{off:Nat}{g:α->β}{s:α->β->α}(p:Part α β off g s){t:TypeId}{x:Operand}{i:Nat}{u:Value}{d:β}(w:Owns W h o)(hk:o k=it e v l)(hsz:cC P t=some (Rep.n β))(hx:asg us x = .pointer (some (((slA v).add (i*Rep.n α)).add off)))(hy:asg us y=u)(hi:i<l.length)(hr:Rd W u d)(hK : ∀h',Owns W h' (o.upd k (it e v (l.set i (s l[i] d))))->(∀X:View,X.le (vw h)->Av X v->X.le (vw h'))->K undef h'):Lft.step P (.store t x y) ty us h K:=
 y4 (po:=po) p hsz hx hy (w.get hk) hi hr fun h' hs o2 m=>hK h' (w.lQ hk o2 m) fun X hX hA=>(m.view hX hA).1
structure SiS (V:View) (h0:Heap) (vo:Value) (l:List Th) (h:Heap):Prop where
 own:Owns V h (tU vo l)
 le:(vw h0).le (vw h)
theorem AZ{ts:List Th}{vt:Value}{V:View}{h:Heap}(ht:SlRd V vt ts)(hV:V.le (vw h)):
  az Tryz.prog N.dx #[vt] h (fun u h'=>(vw h).le (vw h')/\SlRd (grow V h h') u (sZ ts)):=by
 refine aq (args:=[vt]) follows F.dx E.dx (LD (by kernel_rfl)) fun K hK=>?_;have htb:=ht.bound;dsimp only[L.dx];refine aa fun z hz=>?_;simp;subst hz;refine aa fun z hz=>?_;have hsi:sZ ts=ts.foldl jn (List.replicate 8192 noTh):=rfl
 obtain⟨N,hN⟩ : ∃N:Nat,N=8192:=⟨_,rfl⟩;rw[<-hN]at hsi;have hNi:(8192:Int)=N:=by rw[hN];rfl
 simp;refine lx (α:=Th) (W:=V) (k:=.i64) (n:=N) (d:=nN) El.gG (by rw[hN];rfl) (by rw[hN];rfl) ⟨[.int .i64 0],[.int .i64 0,.slice none 0 0,.slice none 0 0],rfl,⟨rfl,by decide,by decide⟩,[.int .i64 0],[.slice none 0 0,.slice none 0 0],rfl,⟨rfl,by decide,by decide⟩,[.slice none 0 0],[.slice none 0 0],rfl,⟨_,rfl,fo⟩,⟨_,rfl,fo⟩⟩ (by omega) (by omega) fun vo h1 o1 m1 hle1 hb1=>?_;have av:Av (vw h) vo:=fun b hb=>by rw[hb1]at hb;cases hb;exact View.dH (View.le_refl _) (LG _)
 have w1:Owns V h1 (tU vo (List.replicate N nN)):=((Owns.start hV).add (k:=(0,0)) rfl o1 hle1 (fun b hb=>by rw[hb1]at hb;cases hb;exact LG _)).congr fun q=>by
  unfold tU Own.upd;repeat' split
  all_goals first | rfl | simp_all
 subst hz;refine aa fun z hz=>?_;simp;refine aO [0,3,4] (fun(_:Unit) k=>[vt,vo,.int .i64 k]) (fun _ k h2=>SiS V h vo (rows (fun _=>noTh) k++List.replicate (N-k) nN) h2) N ()
  rfl (by omega) rfl (by simpa using⟨w1,hle1⟩) (fun _ _=>rfl) (fun v k h2 hk m=>by simp[hNi]) ?_ ?_
 ·rintro _ k h2 hlt ⟨w2,le2⟩ K2 hK2;have hlen:(rows (fun _=>noTh) k++List.replicate (N-k) nN).length=N:=by simp;omega
  have n2:=w2.now (k:=(0,0)) (v:=vo) (l:=rows (fun _=>noTh) k++List.replicate (N-k) nN) rfl;have ik:=n2.idxn (N:=4) rfl (k:=.i64) (i:=k) (by omega) (by omega);simp[ik];refine Owns.EL (o:=tU vo (rows (fun _=>noTh) k++List.replicate (N-k) nN)) (W:=V) (k:=(0,0)) (α:=Th) (v:=vo) (l:=rows (fun _=>noTh) k++List.replicate (N-k) nN) (i:=k) Th.AL (d:=(-1:Int)) w2 rfl (by kernel_rfl) rfl rfl (by omega) (mN (by omega) (by omega)) fun h3 w3 hs3=>?_;refine hK2 () _ _ rfl rfl ⟨w3.congr fun q=>?_,hs3 _ le2 av⟩;have e:(rows (fun _=>noTh) k++List.replicate (N-k) nN)[k]'(by omega)=nN:=by rw[Ni (by simp)];simp
  rw[<-lS hlt,e];exact xo q
 rintro _ h2 ⟨w2,le2⟩;rw[Om,List.replicate_zero,Nj]at w2;have hrow:rows (fun _=>noTh) N=List.replicate N noTh:=by refine MJ (by simp) fun i h1 h2=>?_;simp[rows]
 rw[hrow]at w2;simp;subst hz;refine aa fun z hz=>?_;simp;refine aO [0,3,5] (fun(_:Unit) i=>[vt,vo,.int .i64 i]) (fun _ i h3=>SiS V h vo ((ts.take i).foldl jn (List.replicate N noTh)) h3) ts.length ()
  rfl (by omega) rfl (by simpa using⟨w2,le2⟩) (fun _ _=>rfl) (fun v k h3 hk m=>by simp[(ht.mono m.own.wle).len]) ?_ ?_
 ·rintro _ i h3 hlti ⟨w3,le3⟩ K2 hK2;have hst:(ts.take (i+1)).foldl jn (List.replicate N noTh)=jn ((ts.take i).foldl jn (List.replicate N noTh)) (nth ts i):=by rw[L8 hlti,NS,ak hlti];rfl
  have hlen:((ts.take i).foldl jn (List.replicate N noTh)).length=N:=lI (f:=jn) (fun x:List Th=>x.length=N) (fun _ _ h=>wH.trans h) _ _ (MM ..);generalize (ts.take i).foldl jn (List.replicate N noTh)=l at w3 hst hlen;have ht0:=ht;obtain⟨ut,hut,hutr⟩:=ht0.wh rfl (N:=4) rfl hlti;have hat:=ht0.at hlti;rw[<-ak hlti]at hat;obtain⟨vk,hvk⟩:=(hat.part Th.Fp).sl;have hvk1:ao V (((slA vt).add (i*4)).add 2)=some vk:=hvk.1;have hvk2:=hvk.2;generalize nth ts i=t at hst hutr hvk2;have hkb:=hvk2.bound;refine aa fun y hy=>?_;simp;subst hy;refine aO [0,3,5,6] (fun(_:Unit) j=>[vt,vo,.int .i64 i,.int .i64 j]) (fun _ j h4=>SiS V h vo ((t.mks.take j).foldl (dG t) l) h4) t.mks.length ()
   rfl (by omega) rfl (by simpa using⟨w3,le3⟩) (fun _ _=>rfl) (fun v k h4 hk m=>by have ht4:=ht0.mono m.own.wle;simp(disch:=omega)[ht4.idxn (N:=4) rfl,ae m.own.wle hvk1,(hvk2.mono m.own.wle).len]) ?_ ?_
  ·rintro _ j h4 hltj ⟨w4,le4⟩ K3 hK3;have hst4:(t.mks.take (j+1)).foldl (dG t) l=dG t ((t.mks.take j).foldl (dG t) l) (nth t.mks j):=by rw[L8 hltj,NS,ak hltj];rfl
   have hlen4:((t.mks.take j).foldl (dG t) l).length=N:=lI (f:=dG t) (fun x:List Th=>x.length=N) (fun _ _ h=>lE.trans h) _ _ hlen;generalize (t.mks.take j).foldl (dG t) l=l4 at w4 hst4 hlen4;have ht4:=ht0.mono w4.wle;have hk4:=hvk2.mono w4.wle;refine aa fun y hy=>?_;simp(disch:=omega)[ht4.idxn (N:=4) rfl,ae w4.wle hvk1,hk4.idx1 rfl,hk4.int (View.le_refl _)];subst hy;refine aa fun y hy=>?_;rw[dG]at hst4;by_cases hc:0<=nth t.mks j/\nth t.mks j<8192
   ·rw[if_pos hc]at hst4;simp[hc];subst hy;refine aw (by simp) ?_;have n4:=w4.now (k:=(0,0)) (v:=vo) (l:=l4) rfl;simp(disch:=omega)[ht4.idxn (N:=4) rfl,n4.idxn (N:=4) rfl,hut _ w4.wle];refine Owns.Hj (W:=V) (o:=tU vo l4) (k:=(0,0)) (α:=Th) (l:=l4) (v:=vo) (i:=(nth t.mks j).toNat) (d:=t) w4 rfl (by kernel_rfl) rfl rfl (by omega) hutr fun h5 w5 hs5=>?_;exact hK3 () _ _ rfl rfl (by rw[hst4];exact⟨w5.congr xo,hs5 _ le4 av⟩)
   rw[if_neg hc]at hst4;have hcb:(decide (0<=nth t.mks j)&&decide (nth t.mks j<8192))=false:=by rw[MN];intro e;exact hc (by simpa using e)
   simp[hcb];subst hy;refine au (by simp) ?_;simp;exact hK3 () _ _ rfl rfl (by rw[hst4];exact⟨w4,le4⟩)
  rintro _ h4 ⟨w4,le4⟩;rw[MK]at w4;simp;exact hK2 () _ _ rfl rfl (by rw[hst];exact⟨w4,le4⟩)
 rintro _ h3 ⟨w3,le3⟩;rw[MK]at w3;simp;subst hz;simp;refine hK _ _ ⟨le3,?_⟩;rw[hsi];exact(w3.get (k:=(0,0)) (v:=vo) (l:=ts.foldl jn (List.replicate N noTh)) rfl).rd (aH hV) fun b hb=>by rw[hb1]at hb;cases hb;exact cM (LG _)
def eX (f:an) (made:List Th) (away:List BL) (v blk place:Int):Bool:=
 if 0<=v/\v<f.params then true
 else if(v<0\/8191<v)\/(nth made v.toNat).blk<0 then false
 else if(nth made v.toNat).blk=blk then decide ((nth made v.toNat).place<0)||decide ((nth made v.toNat).place<place)
 else !nth (nth away (nth made v.toNat).blk.toNat) blk.toNat
theorem qN{f:an}{made:List Th}{away:List BL}{x blk place:Int}{v vm va:Value}{V:View}{h:Heap}(hv:Rd V v f)(hm:SlRd V vm made)(ha:SlRd V va away)(hV:V.le (vw h))(hml:made.length=8192)(hq1 : ∀i,i<8192->(nth made i).blk<away.length)(hq2 : ∀i,i<away.length->blk<(nth away i).length)(hq3:0<=blk):
  az Tryz.prog N.fC #[v,vm,va,.int .i64 x,.int .i64 blk,.int .i64 place] h (fun u h'=>u = .bool (eX f made away x blk place)/\(vw h).le (vw h')):=by
 refine aq (args:=[v,vm,va,.int .i64 x,.int .i64 blk,.int .i64 place]) follows F.fC E.fC (LD (by kernel_rfl)) fun K hK=>?_;dsimp only[L.fC];refine aa fun z hz=>?_;simp;refine j6 (v:=v) rfl ?_;have hle1:=bm h (.cells v.cells T.ar);have hat1:At (grow V h (h.push (.cells v.cells T.ar))) ⟨h.size,0,none⟩ f:=oW (t:=T.ar) (fz:=(0,0)) (by rw[cM (LG _)];simp) (hv.mono (aH hV));generalize h.push (.cells v.cells T.ar)=h1 at hle1 hat1;have hW1:(grow V h h1).le (vw h1):=nG (View.le_trans hV hle1);have hVW:V.le (grow V h h1):=aH hV;obtain⟨cp,vb,cb⟩:=fM hat1;generalize grow V h h1=W1 at cp cb hW1 hVW;have hm:=hm.mono hVW;have ha:=ha.mono hVW;generalize h.size=B at cp cb;subst hz;refine aa fun z hz=>?_;have hst:eX f made away x blk place=eX f made away x blk place:=rfl
 conv at hst=>lhs;unfold eX
 by_cases c1:0<=x/\x<f.params
 ·rw[if_pos c1]at hst;simp[ae hW1 cp,c1];exact hK _ _ ⟨by rw[<-hst],hle1⟩
 rw[if_neg c1]at hst;have hc1:(decide (0<=x)&&decide (x<f.params))=false:=by rw[MN];intro e;exact c1 (by simpa using e)
 simp[ae hW1 cp,hc1];subst hz;refine aa fun z hz=>?_;by_cases c2:x<0\/8191<x
 ·rw[if_pos (.inl c2)]at hst;have hc2:(decide (x<0)||decide (8191<x))=true:=by simpa using c2
  simp[hc2];exact hK _ _ ⟨by rw[<-hst],hle1⟩
 have hc2:(decide (x<0)||decide (8191<x))=false:=by rw[MN];intro e;exact c2 (by simpa using e)
 have hx:x.toNat<made.length:=by omega
 have hat:=hm.at hx;rw[<-ak hx]at hat;obtain⟨ut,hut,hutr⟩:=hm.wh rfl (N:=4) rfl hx;have hb1:=hq1 x.toNat (by omega);have hblk:ao W1 (((slA vm).add (x.toNat*4)).add 0)=some (.int .i64 (nth made x.toNat).blk):=(hat.part Th.AL).int;simp(disch:=omega)[hc2,(hm.mono hW1).idxn (N:=4) rfl,ae hW1 hblk];generalize nth made x.toNat=t at hst hblk hutr hb1 hat;refine⟨fun c3=>?_,fun c3'=>?_⟩
 ·rw[if_pos (.inr c3)]at hst;exact hK _ _ ⟨by rw[<-hst],hle1⟩
 have c3:¬t.blk<0:=by omega
 rw[if_neg (by rintro(q | q)<;>contradiction)]at hst;subst hz;refine aa fun z hz=>?_;simp(disch:=omega)[(hm.mono hW1).idxn (N:=4) rfl,hut _ hW1];refine fm (X:=W1) (z:=.agg #[.int .i64 0,.int .i64 0,.slice none 0 0,.slice none 0 0]) (by kernel_rfl) rfl (by kernel_rfl) hutr (fun _=>by simp) (fun _=>by simp) fun h2 hle2 hs2 hat2=>?_;obtain⟨tb,tp,_,_⟩:=BB (hat2 (grow W1 h1 h2) (aH hW1) (cM (LG _)));have hW2:(grow W1 h1 h2).le (vw h2):=nG (View.le_trans hW1 hle2);have hW12:W1.le (grow W1 h1 h2):=aH hW1;generalize grow W1 h1 h2=W2 at tb tp hW2 hW12;generalize h1.size=D at tb tp;have hle12:=View.le_trans hle1 hle2;subst hz;refine aa fun z hz=>?_;by_cases c4:t.blk=blk
 ·rw[if_pos c4]at hst;simp[ae hW2 tb,ae hW2 tp,c4];exact hK _ _ ⟨by rw[<-hst],hle12⟩
 rw[if_neg c4]at hst;simp[ae hW2 tb,c4];subst hz;refine aa fun z hz=>?_;have ha2:=(ha.mono hW12).mono hW2;obtain⟨rv,hrv⟩:=ha2.rows;obtain⟨e1,e2⟩:=hrv t.blk.toNat (by omega);have hb2:=hq2 t.blk.toNat (by omega);have e3:=(e2.at (i:=blk.toNat) (by omega)).bool;rw[<-ak,show blk.toNat*Rep.n Bool=blk.toNat from MP _]at e3;simp(disch:=omega)[ae hW2 tb,ha2.idxn (N:=1) rfl,e1 _ (View.le_refl _),e2.idxn (N:=1) rfl,e3];subst hz;simp;exact hK _ _ ⟨by rw[<-hst],hle12⟩
def lr (f:an) (t:Th):PhiD:=nth (eY f t).phis (-1-t.place).toNat
def nF (f:an) (b:Int):Int:=((nth f.blocks b.toNat).ins.length:Nat)
def jQ (f:an) (t:Th):Bool:=decide (0<t.blk)&&decide ((lr f t).ins.map InD.frm=bf f t.blk)
def stT (f:an) (made:List Th) (away:List BL) (t:Th) (x:Int):Bool:=!eX f made away x t.blk t.place
def stP (f:an) (made:List Th) (away:List BL) (p:InD):Bool:=!eX f made away p.val p.frm (nF f p.frm)
def eh (f:an) (made:List Th) (away:List BL) (t:Th):Except Tr Unit:=
 if 0<=t.place then(if t.tks.any (stT f made away t) then .error (13,t.blk,t.place) else .ok ())
 else if !jQ f t then .error (16,t.blk,t.place)
 else if(lr f t).ins.any (stP f made away) then .error (13,t.blk,t.place)
 else .ok ()
def gw (f:an):List Th:=sZ (aL f)
def fh (f:an):List BL:=rows (fun b=>dw f b) f.blocks.length
def iu (f:an):Nat->Nat
 | 0=>f.blocks.length
 | n+1=>iu f n+(nth f.blocks n).phis.length+(nth f.blocks n).ins.length
def wayE (f:an):Except Tr Unit:=upE (fun b _=>if nth (dw f (-1)) b=true then .ok () else .error (15,b,0)) f.blocks.length ()
def tQ (f:an):Except Tr Unit:=upE (fun i _=>eh f (gw f) (fh f) (nth (aL f) i)) (aL f).length ()
def E7:Except Tr Unit->Except Tr Unit->Except Tr Unit
 | .ok _,y=>y
 | .error e,_=>.error e
def gq (f:an):Tr:=
 if f.params<0\/4<f.params then(1,0,0)
 else if f.blocks.length=0 then(14,0,0)
 else if 512<f.blocks.length\/4096<iu f f.blocks.length then(2,0,0)
 else if(iM (dL f)).1≠0 then iM (dL f)
 else iM (E7 (wayE f) (tQ f))
theorem AJ{f:an}(hsm:SmF f){n:Nat}(hn:n<=f.blocks.length):iu f n<=10000+n*20000:=by
 induction n with
 | zero=>simpa[iu]using hsm.len
 | succ n ih=>have:=ih (by omega);have b:=hsm.blk n (by omega);have:=b.phis;have:=b.ins;simp only[iu];omega
theorem nB {σ ε:Type} {f:Nat->σ->Except ε σ} {s:σ} {t:ε} : ∀{n:Nat},upE f n s = .error t->∃k s',k<n/\upE f k s = .ok s'/\f k s' = .error t
 | n+1,h=>by
  simp only[upE]at h;split at h
  ·rename_i s' hs;exact⟨n,s',Oy n,hs,h⟩
  rename_i t' ht;cases h;obtain⟨k,s',h1,h2⟩:=nB ht;exact⟨k,s',Nat.lt_succ_of_lt h1,h2⟩
theorem oX{f:an}{t:Th}{m:BL}{e:Tr}(h:b6 f t m = .error e):(10<=e.1/\e.1<=14)/\e.2.1=t.blk/\e.2.2=t.place:=by
 unfold b6 at h;split at h
 ·cases h;simp
 split at h
 ·cases h;simp
 split at h
 ·cases h;simp
 unfold kI at h;split at h
 ·rename_i e' he;cases h;obtain⟨k,s',_,_,h3⟩:=nB he;unfold jy at h3;split at h3
  ·cases h3;simp
  cases h3
 split at h
 ·cases h;simp
 cases h
theorem zb{f:an}(hsm:SmF f):0<=(iM (dL f)).1/\(iM (dL f)).1<=100/\I64 (iM (dL f)).2.1/\I64 (iM (dL f)).2.2:=by
 cases h:dL f with
 | ok m=>exact⟨by simp[iM],by simp[iM],by constructor<;>simp[iM],by constructor<;>simp[iM]⟩
 | error e=>obtain⟨k,s',h1,_,h3⟩:=nB h;obtain⟨h4,h5,h6⟩:=oX h3;have ok:=oS hsm (bc h1);have:=ok.blk;have:=ok.place;have:=hsm.len;refine⟨by simp only[iM];omega,by simp only[iM];omega,⟨?_,?_⟩,⟨?_,?_⟩⟩<;>simp only[iM,h5,h6]<;>omega
theorem xn{n:Int}(hn:0<=n){ts:List Th}(h : ∀t∈ts,t.blk<n){i:Nat}(hi:i<8192):(nth (sZ ts) i).blk<n:=by
 have key : ∀(ts:List Th),(∀t∈ts,t.blk<n)->∀l:List Th,(∀x∈l,x.blk<n)->∀x∈ts.foldl jn l,x.blk<n:=by
  intro ts;induction ts with
  | nil=>exact fun _ l hl=>hl
  | cons t ts ih=>
   intro ht l hl;refine ih (fun x hx=>ht x (LS _ hx)) _ ?_;refine lI (f:=dG t) (fun l:List Th=>∀x∈l,x.blk<n) (fun l a hl x hx=>?_) _ _ hl;unfold dG at hx;split at hx
   ·rcases MY hx with h | rfl
    ·exact hl x h
    exact ht _ LR
   exact hl x hx
 refine key ts h _ (fun x hx=>?_) _ (bc (by show i<(sZ ts).length;rw[wD];exact hi));rw[(List.mem_replicate.1 hx).2];show(-1:Int)<n;omega
theorem xS{f:an}{t:Th}(h:t∈aL f)(hp:t.place<0):(-1-t.place).toNat<(eY f t).phis.length:=by
 obtain⟨b,hb,h⟩:=dX.1 h;rcases eN.1 h with⟨i,hi,rfl⟩ | ⟨i,hi,rfl⟩ | rfl
 ·simp only[phiT,eY]at *;rw[show(-1-(-1-(i:Int))).toNat=i by omega];simpa using hi
 ·simp only[insT]at hp;omega
 simp only[endT]at hp;omega
theorem Jp{f:an}(hsm:SmF f){t:Th}(h:t∈aL f)(hp:t.place<0):(lr f t).ins.length<=10000:=
 (hsm.blk t.blk.toNat (by have:=(oS hsm h).blk;omega)).phi _ (xS h hp)
theorem GotD.LB:Part GotD Int 0 GotD.e (fun d x=>{ d with e:=x }):=(Part.fst Part.all).via (fun _=>rfl) fun _ _=>rfl
theorem Bw{f:an}{v:Value}{h:Heap}(hv:Rd (vw h) v f)(hsm:SmF f):
  az Tryz.prog N.bG #[v] h (fun u h'=>u=gotV (gq f)/\(vw h).le (vw h')):=by
 refine aq (args:=[v]) follows F.bG E.bG (LD (by kernel_rfl)) fun K hK=>?_;have hn:=hsm.len;dsimp only[L.bG];refine aa fun z hz=>?_;simp;refine gm rfl hv fun h1 _ hle1 hs1 hat=>?_;obtain⟨cp,vb,cb⟩:=fM hat;obtain⟨u,hu,hur⟩:=hat.al rfl;have hu:Un.ev (vw h1) (.al 2) (.pointer (some ⟨h.size,0,none⟩))=some u:=hu
 generalize h.size=B at cp cb hu;refine eZ (z:=.agg #[.int .i64 0,.int .i64 0,.int .i64 0]) (by kernel_rfl) ?_;have q1:=bm h1 (.cells (Value.cells (.agg #[.int .i64 0,.int .i64 0,.int .i64 0])) T.de);generalize e2:h1.push (.cells (Value.cells (.agg #[.int .i64 0,.int .i64 0,.int .i64 0])) T.de)=h2 at q1;have b2:h2[h1.size]? = some (.cells (gotV (0,0,0)).cells T.de (0,0)):=by rw[<-e2];simp;rfl
 have w2:=(Owns.start (h:=h1) (View.le_refl (vw h1))).add (k:=(1,0)) rfl (iq (h:=h2) (d:=gotD (0,0,0)) b2 (rT (by constructor<;>decide) (by constructor<;>decide) (by constructor<;>decide)) (by decide)) q1 (fun b hb=>by simp only[Value.ownBlock,LF]at hb;omega);generalize h1.size=R at w2;generalize hV1:vw h1=V1 at cp cb hu hur w2;generalize ho2:Own.upd (fun x=>none) (1,0) (it T.de (.slice (some ⟨R,0,none⟩) 1 1) [gotD (0,0,0)])=o2 at w2;have hR2:o2 (1,0)=bx T.de R (gotD (0,0,0)):=by rw[<-ho2];rfl
 have hO2 : ∀k,k≠(1,0)->o2 k=none:=fun k hk=>by rw[<-ho2];exact Own.ab hk
 clear ho2 b2 e2;rw[hV1]at hle1;have cpv : ∀{h':Heap},V1.le (vw h')->ao (vw h') ⟨B,0,none⟩=some (.int .i64 f.params):=fun q=>ae q cp;have cbv : ∀{h':Heap},V1.le (vw h')->ao (vw h') ⟨B,1,none⟩=some vb:=fun q=>ae q cb.1
 have cbl : ∀{h':Heap},V1.le (vw h')->Un.ev (vw h') .len vb=some (.int .i64 f.blocks.length):=fun q=>(cb.2.mono q).len;have huv : ∀{h':Heap},V1.le (vw h')->Un.ev (vw h') (.al 2) (.pointer (some ⟨B,0,none⟩))=some u:=fun q=>by have:=cV (ρ:=fun _=>none) (e:=.un (.al 2) (.con (.pointer (some ⟨B,0,none⟩)))) q (v:=u) (by simpa using hu);simpa using this
 have ret : ∀{t:Tr} {h8:Heap} {W8:View} {o:Own} {x y:Operand} {us:List (Nat × Value)} {ty:TypeId} {K9:Value->Heap->Prop},I64 t.1->I64 t.2.1->I64 t.2.2->Owns W8 h8 o->o (1,0)=bx T.de R (gotD (0,0,0))->V1.le W8->gq f=t->
   asg us x = .pointer (some ⟨R,0,none⟩)->asg us y=gotV t->(∀v h9,Un.ev (vw h9) (.al 3) (.pointer (some ⟨R,0,none⟩))=some (gotV (gq f))->K (gotV (gq f)) h9->K9 v h9)->@Lft.step (@opAt noPP none) Tryz.prog (.store T.de x y) ty us h8 K9:=by
  intro t h8 W8 o x y us ty K9 t1 t2 t3 w8 ho hW8 hbad hx hy hK9;refine w8.ez (k:=(1,0)) (e:=T.de) (D:=gotD (0,0,0)) (Part.all) (d:=gotD t) ho (by kernel_rfl) hx hy (rT t1 t2 t3) fun h9 w9 hs9=>?_;refine hK9 _ _ ?_ ?_
  ·rw[hbad];exact qW w9 (Own.af)
  exact hK _ _ ⟨rfl,View.le_trans hle1 (View.le_trans hW8 w9.wle)⟩
 have i0:I64 0:=by constructor<;>decide
 subst hz;refine aa fun z hz=>?_;have hst:gq f=gq f:=rfl;conv at hst=>rhs;unfold gq
 by_cases c1:f.params<0\/4<f.params
 ·rw[if_pos c1]at hst;have hc:(decide (f.params<0)||decide (4<f.params))=true:=by simpa using c1
  simp[cpv w2.wle,hc];refine y6 ?_;refine ret (by constructor<;>decide) i0 i0 w2 hR2 (View.le_refl _) hst rfl rfl fun _ h9 hl9 hK9=>?_;simp[hl9];exact hK9
 rw[if_neg c1]at hst;have hc:(decide (f.params<0)||decide (4<f.params))=false:=by rw[MN];intro e;exact c1 (by simpa using e)
 simp[cpv w2.wle,hc];subst hz;refine aa fun z hz=>?_;simp[cbv w2.wle,cbl w2.wle];refine⟨fun c2=>?_,fun c2=>?_⟩
 ·rw[if_pos (by simp[c2])]at hst;refine y6 ?_;refine ret (by constructor<;>decide) i0 i0 w2 hR2 (View.le_refl _) hst rfl rfl fun _ h9 hl9 hK9=>?_;simp[hl9];exact hK9
 rw[if_neg (by simp[c2])]at hst;subst hz;refine aa fun z hz=>?_;simp[cbv w2.wle,cbl w2.wle];subst hz;refine aa fun z hz=>?_;simp;refine aO [1,2,3,4] (fun(_:Unit) k=>[.pointer (some ⟨B,0,none⟩),.pointer (some ⟨R,0,none⟩),.int .i64 (iu f k:Nat),.int .i64 k]) (fun _ k h3=>h3=h2) f.blocks.length ()
  rfl (by omega) rfl rfl (fun _ _=>rfl) (fun v k h3 hk q=>by subst q;simp[cbv w2.wle,cbl w2.wle]) ?_ ?_
 ·rintro _ k h3 hltk rfl K2 hK2;have hle:=AJ hsm (Nat.le_of_lt hltk);have cb3:=cb.2.mono w2.wle;have hatk:=cb3.at hltk;rw[<-ak hltk]at hatk;obtain⟨vp,hvp⟩:=(hatk.part BlkD.km).sl;obtain⟨vi,hvi⟩:=(hatk.part BlkD.jr).sl;have hvp1:ao (vw h3) (((slA vb).add (k*6)).add 0)=some vp:=hvp.1;have hvi1:ao (vw h3) (((slA vb).add (k*6)).add 1)=some vi:=hvi.1;have b1:=(hsm.blk k hltk).phis;have b2:=(hsm.blk k hltk).ins;simp(disch:=omega)[cbv w2.wle,cb3.idxn (N:=6) rfl,hvp1,hvi1,hvp.2.len,hvi.2.len];refine hK2 () _ _ rfl ?_ rfl;simp(disch:=omega)[aZ,setE,iu,Lft.look];done
 rintro _ h3 rfl;have hcb:=AJ hsm (LG f.blocks.length);simp;subst hz;refine aa fun z hz=>?_;by_cases c3:512<f.blocks.length\/4096<iu f f.blocks.length
 ·rw[if_pos c3]at hst;have hc3:(decide ((512:Int)<f.blocks.length)||decide ((4096:Int)<(iu f f.blocks.length:Nat)))=true:=by simp only[ML,decide_eq_true_eq];omega
  simp[cbv w2.wle,cbl w2.wle,hc3];refine y6 ?_;refine ret (by constructor<;>decide) i0 i0 w2 hR2 (View.le_refl _) hst rfl rfl fun _ h9 hl9 hK9=>?_;simp[hl9];exact hK9
 rw[if_neg c3]at hst;have hc3:(decide ((512:Int)<f.blocks.length)||decide ((4096:Int)<(iu f f.blocks.length:Nat)))=false:=by rw[MN];simp only[ne_eq,ML,decide_eq_true_eq];omega
 simp[cbv w2.wle,cbl w2.wle,hc3];subst hz;refine aa fun z hz=>?_;simp[huv w2.wle];refine aj (by kernel_rfl) (zC (hur.mono w2.wle) hsm (by omega)) ?_;rintro _ h4 ⟨rfl,hle4⟩;have w4:=w2.ext' hle4;obtain⟨e1,e2,e3,e4⟩:=zb hsm;generalize hT:iM (dL f)=tr at hst e1 e2 e3 e4;have eI:I64 tr.1:=⟨by show _<=tr.1;omega,by show tr.1<=_;omega⟩;refine jO (n:=3) (v:=gotV tr) (z:=.agg #[.int .i64 0,.int .i64 0,.int .i64 0]) (by kernel_rfl) rfl (by kernel_rfl) rfl (by simp[gotV,Value.cells,Value.oneCell']) (fun _=>by simp) (fun _=>by simp) fun h5 hle5 hs5 hb5=>?_;have w5:=w4.add (k:=(2,0)) (hO2 _ (by decide)) (iq (h:=h5) (d:=gotD tr) hb5 (rT eI e3 e4) (by decide)) hle5 (fun b hb=>by simp only[Value.ownBlock,LF]at hb;omega)
 have hR5:(o2.upd (2,0) (it T.de (.slice (some ⟨h4.size,0,none⟩) 1 1) [gotD tr])) (1,0)=bx T.de R (gotD (0,0,0)):=by rw[Own.ab (by decide)];exact hR2
 have l5:=qW w5 (k:=(2,0)) (t:=tr) (B:=h4.size) Own.af;have f5:ao (vw h5) ⟨h4.size,0,none⟩=some (.int .i64 tr.1):=by simpa[gotD]using((w5.at (k:=(2,0)) (d:=gotD tr) (B:=h4.size) Own.af).part GotD.LB).int
 generalize h4.size=D at w5 hR5 l5 f5;have w6:Owns V1 h5 o2:=w5.sub fun k i hk=>by
  by_cases he:k=(2,0)
  ·subst he;rw[hO2 _ (by decide)]at hk;cases hk
  rw[Own.ab he];exact hk
 subst hz;refine aa fun z hz=>?_;simp[f5];refine And.symm ⟨fun c4=>?_,fun c4=>?_⟩
 ·rw[if_pos c4]at hst;simp[l5];refine ret eI e3 e4 w6 hR2 (View.le_refl _) hst rfl rfl fun _ h9 hl9 hK9=>?_;simp[hl9];exact hK9
 rw[if_neg (by simpa using c4)]at hst;subst hz;refine aa fun z hz=>?_;simp[huv w6.wle];refine aj (by kernel_rfl) (nr (hur.mono w6.wle) (by omega)) ?_;rintro vr h7 ⟨hle7,hr7⟩;have w7:=w6.ext hle7;have hr:=hr7.mono (eC V1 h5 h7);have hX7:V1.le (grow V1 h5 h7):=aH w6.wle;generalize grow V1 h5 h7=X7 at w7 hr hX7;clear hr7 hle7 l5 f5 w5 w6 hR5;subst hz;refine aa fun z hz=>?_;simp;refine qT (α:=List Bool) El.pM fun h8 hle8 hsz8 own8=>?_;have w8:=w7.add (k:=(0,0)) (hO2 _ (by decide)) (own8 X7) hle8 (fun b hb=>by simp only[Value.ownBlock,LF]at hb;omega)
 generalize Value.slice (some ⟨h7.size,0,none⟩) 0 0=va0 at w8;subst hz;refine aa fun z hz=>?_;simp;have wle8:=View.le_trans hX7 w8.wle;have hrl:=lD (f:=f) (wo:=-1);refine aO [1,2,6,7,8] (fun(_:Unit) k=>[.pointer (some ⟨B,0,none⟩),.pointer (some ⟨R,0,none⟩),vr,va0,.int .i64 k]) (fun _ k h3=>h3=h8/\upE (fun b _=>if nth (dw f (-1)) b=true then .ok () else .error ((15,b,0):Tr)) k () = .ok ()) f.blocks.length ()
  rfl (by omega) rfl ⟨rfl,rfl⟩ (fun _ _=>rfl) (fun v k h3 hk ⟨q,_⟩=>by subst q;simp[cbv wle8,cbl wle8]) ?_ ?_
 ·rintro _ k h3 hltk ⟨rfl,hup⟩ K2 hK2;have hr3:=hr.mono w8.wle;have e3:=(hr3.at (i:=k) (by omega)).bool;rw[<-ak,show k*Rep.n Bool=k from MP _]at e3;simp(disch:=omega)[hr3.idxn (N:=1) rfl,e3];cases hb:nth (dw f (-1)) k with
  | true=>rw[wR];exact hK2 () _ _ rfl rfl ⟨rfl,by rw[ju hup,if_pos hb]⟩
  | false=>rw[tM];have hway:wayE f = .error (15,k,0):=oK hup hltk (by rw[if_neg (by simp[hb])]);rw[hway,E7]at hst;refine G7 rfl ?_;refine ret (t:=(15,k,0)) ⟨by show _<=(15:Int);omega,by show(15:Int)<=_;omega⟩ ⟨by show _<=(k:Int);omega,by show(k:Int)<=_;omega⟩ i0 w8 (by rw[Own.ab (by decide)];exact hR2) hX7 hst rfl rfl fun _ h9 hl9 hK9=>?_;simp[hl9];exact hK9
 rintro _ h3 ⟨rfl,hup⟩;have hway:wayE f = .ok ():=hup;rw[hway,E7]at hst;simp;subst hz;refine aa fun z hz=>?_;simp;have w8:Owns X7 h3 (o2.upd (0,0) (it T.lh va0 (rows (fun b:Nat=>dw f b) 0))):=w8
 refine aO [1,2,7,9] (fun(va:Value) k=>[.pointer (some ⟨B,0,none⟩),.pointer (some ⟨R,0,none⟩),va,.int .i64 k]) (fun va k h4=>∃W,X7.le W/\Owns W h4 (o2.upd (0,0) (it T.lh va (rows (fun b:Nat=>dw f b) k)))) f.blocks.length va0
  rfl (by omega) rfl ⟨X7,View.le_refl _,w8⟩ (fun _ _=>rfl) (fun v k h4 hk ⟨W,q1,q2⟩=>by simp[cbv (View.le_trans hX7 (View.le_trans q1 q2.wle)),cbl (View.le_trans hX7 (View.le_trans q1 q2.wle))]) ?_ ?_
 ·rintro va k h4 hltk ⟨W4,hW4,w4⟩ K2 hK2;have q4:=View.le_trans hX7 (View.le_trans hW4 w4.wle);simp[huv q4];refine aj (by kernel_rfl) (nr (hur.mono q4) (by omega)) ?_;rintro u5 h5 ⟨hle5,hr5⟩;have w5:=w4.ext hle5;have hr5:=hr5.mono (eC W4 h4 h5);have hW5:=View.le_trans hW4 (aH (h':=h5) w4.wle);generalize grow W4 h4 h5=W5 at w5 hr5 hW5;refine w5.fg (k:=(0,0)) (α:=List Bool) (d:=dw f k) rfl El.pM rfl (fy.2 hr5) (by simp;omega) (by simp;omega) (fun _=>by simp) (fun _=>by simp) fun u6 va6 h6 w6 _=>?_;exact hK2 va6 _ _ rfl rfl ⟨W5,hW5,w6.congr fun q=>by rw[eG];unfold Own.upd;split<;>rfl⟩
 rintro va h4 ⟨W4,hW4,w4⟩;simp;subst hz;refine aa fun z hz=>?_;simp;have q4:=View.le_trans hX7 (View.le_trans hW4 w4.wle);simp[huv q4];have hav:Av W4 va:=w4.av (0,0) _ rfl;obtain⟨w5,ha⟩:=w4.freeze (k:=(0,0)) (v:=va) (l:=rows (fun b:Nat=>dw f b) f.blocks.length) rfl;have hW5:V1.le (W4.plus va h4):=View.le_trans hX7 (View.le_trans hW4 (eD hav));have w5:Owns (W4.plus va h4) h4 o2:=w5.sub fun k i hk=>by
  by_cases he:k=(0,0)
  ·subst he;rw[hO2 _ (by decide)]at hk;cases hk
  rw[Own.ab he,Own.ab he];exact hk
 generalize W4.plus va h4=W5 at w5 ha hW5;clear w4 hW4 hav;refine aj (by kernel_rfl) (ny (hur.mono hW5) w5.wle hsm) ?_;rintro vt h6 ⟨hle6,ht⟩;have w6:=w5.ext hle6;have hW56:W5.le (grow W5 h4 h6):=aH w5.wle;have hW6:=View.le_trans hW5 hW56;have ha:=ha.mono hW56;generalize grow W5 h4 h6=W6 at w6 ht hW6 ha;subst hz;refine aa fun z hz=>?_;simp;refine aj (by kernel_rfl) (AZ ht w6.wle) ?_;rintro vm h7 ⟨hle7,hm⟩;have w7:=w6.ext hle7
 have hW67:W6.le (grow W6 h6 h7):=aH w6.wle;have hW7:=View.le_trans hW6 hW67;have ha:=ha.mono hW67;have ht:=ht.mono hW67;generalize grow W6 h6 h7=W7 at w7 ht hW7 ha hm;clear hW56 hW67;subst hz;refine aa fun z hz=>?_;simp;have hst:gq f=iM (tQ f):=hst
 have hus:tQ f=upE (fun i _=>eh f (gw f) (fh f) (nth (aL f) i)) (aL f).length ():=rfl;have hml:(gw f).length=8192:=wD;have hal:(fh f).length=f.blocks.length:=fP;have hq1 : ∀i,i<8192->(nth (gw f) i).blk<(fh f).length:=fun i hi=>by rw[hal];exact xn (by omega) (fun t ht=>(oS hsm ht).blk.2) hi
 have hq2 : ∀i,i<(fh f).length->(nth (fh f) i).length=f.blocks.length:=fun i hi=>by rw[ak hi];simp[fh,rows,lD]
 have hth : ∀t∈aL f,ThOk f t:=fun t ht=>oS hsm ht;have hph : ∀t∈aL f,t.place<0->(-1-t.place).toNat<(eY f t).phis.length:=fun t=>xS
 have hpn : ∀t∈aL f,t.place<0->(lr f t).ins.length<=10000:=fun t=>Jp hsm;have ha:SlRd W7 va (fh f):=ha
 have hm:SlRd W7 vm (gw f):=hm;have htl:=ht.bound;clear hway;generalize gw f=made at hus hml hq1 hm;generalize fh f=away at hus hal hq1 hq2 ha;generalize aL f=ts at hus hth hph hpn ht htl;refine aO [1,2,7,10,11,12] (fun(_:Unit) i=>[.pointer (some ⟨B,0,none⟩),.pointer (some ⟨R,0,none⟩),va,vt,vm,.int .i64 i])
  (fun _ i h8=>∃W,W7.le W/\Owns W h8 o2/\upE (fun i _=>eh f made away (nth ts i)) i () = .ok ()) ts.length ()
  rfl (by omega) rfl ⟨W7,View.le_refl _,w7,rfl⟩ (fun _ _=>rfl) (fun v k h8 hk ⟨W,q1,q2,_⟩=>by simp[(ht.mono (View.le_trans q1 q2.wle)).len]) ?_ ?_
 ·rintro _ i h8 hlti ⟨W8,hW8,w8,hup⟩ K2 hK2;have hsx:upE (fun i _=>eh f made away (nth ts i)) (i+1) ()=eh f made away (nth ts i):=ju hup;have her : ∀{e},eh f made away (nth ts i) = .error e->gq f=e:=fun e=>by rw[hst,hus,oK hup hlti e];rfl
  have ht8:=ht.mono hW8;obtain⟨ut,hut,hutr⟩:=ht8.wh rfl (N:=4) rfl hlti;have ok:=hth _ (bc hlti);have hphi:=hph _ (bc hlti);have hpin:=hpn _ (bc hlti);generalize nth ts i=t at hsx her hutr ok hphi hpin;refine aa fun y hy=>?_;simp(disch:=omega)[(ht8.mono w8.wle).idxn (N:=4) rfl,hut _ w8.wle];refine fm (X:=W8) (z:=.agg #[.int .i64 0,.int .i64 0,.slice none 0 0,.slice none 0 0]) (by kernel_rfl) rfl (by kernel_rfl) hutr (fun _=>by simp) (fun _=>by simp) fun h9 hle9 hs9 hat9=>?_;have w9:=w8.ext hle9
  obtain⟨tb,tp,_,vk,tk⟩:=BB (hat9 (grow W8 h8 h9) (aH w8.wle) (cM (LG _)));have hW9:=View.le_trans hW8 (aH (h':=h9) w8.wle);generalize grow W8 h8 h9=W9 at w9 tb tp tk hW9;generalize h8.size=D at tb tp tk;subst hy;refine aa fun y hy=>?_;have hb:=ok.blk
  have cb9:=cb.2.mono (View.le_trans hW7 hW9);have cc9:=ae (View.le_trans hW7 hW9) cb.1;obtain⟨ux,hux,huxr⟩:=cb9.wh rfl (N:=6) rfl (i:=t.blk.toNat) (by omega);simp(disch:=omega)[ae w9.wle cc9,(cb9.mono w9.wle).idxn (N:=6) rfl,ae w9.wle tb,hux _ w9.wle];refine fm (X:=W9) (z:=.agg #[.slice none 0 0,.slice none 0 0,.int .i64 0,.slice none 0 0,.slice none 0 0,.int .i32 0]) (by kernel_rfl) rfl (by kernel_rfl) huxr (fun _=>by simp) (fun _=>by simp) fun h10 hle10 hs10 hat10=>?_;have w10:=w9.ext hle10
  obtain⟨vp,vi,va',vto,bp,bi,bk,ba,bt⟩:=ib (hat10 (grow W9 h9 h10) (aH w9.wle) (cM (LG _)));have hW910:=aH (h':=h10) w9.wle;have hW10:=View.le_trans hW9 hW910;have tb10:=ae hW910 tb;have tp10:=ae hW910 tp;have tk10:=ae hW910 tk.1;have tkr:=tk.2.mono hW910;have hxeq:eY f t=nth f.blocks t.blk.toNat:=rfl;generalize grow W9 h9 h10=W10 at w10 bp bi bk ba bt hW10 tb10 tp10 tk10 tkr;generalize h9.size=D10 at bp bi bk ba bt;clear hat10 hat9 hW910 tk cb9 cc9 hux huxr hut hutr ht8 bi bk ba bt w8 w9 tb tp hle9 hle10 hs9 hs10;have hV10:=View.le_trans hW7 hW10;have hpl:=ok.place;subst hy;refine aa fun y hy=>?_;simp[ae w10.wle tp10];refine⟨fun c5=>?_,fun c5=>?_⟩
  ·have e1:eh f made away t=if t.tks.any (stT f made away t) then .error (13,t.blk,t.place) else .ok ():=by rw[eh,if_pos c5]
   have tkb:=tkr.bound;refine aO [1,2,7,10,11,12,13,15] (fun(_:Unit) j=>[.pointer (some ⟨B,0,none⟩),.pointer (some ⟨R,0,none⟩),va,vt,vm,.int .i64 i,.pointer (some ⟨D,0,none⟩),.int .i64 j])
    (fun _ j h11=>∃W,W10.le W/\Owns W h11 o2/\∀q,q<j->stT f made away t (nth t.tks q)=false) t.tks.length ()
    rfl (by omega) rfl ⟨W10,View.le_refl _,w10,fun q hq=>by omega⟩ (fun _ _=>rfl) (fun v k h11 hk ⟨W,q1,q2,_⟩=>by simp[ae (View.le_trans q1 q2.wle) tk10,(tkr.mono (View.le_trans q1 q2.wle)).len]) ?_ ?_
   ·rintro _ j h11 hltj ⟨W11,hW11,w11,hpre⟩ K3 hK3;have g11:=View.le_trans hW11 w11.wle;have tkr11:=tkr.mono g11;have hx1:W7.le (vw h11):=View.le_trans hW10 g11;refine aa fun q hq=>?_;refine bF (vw h11) (View.le_refl _) ?_;simp(disch:=omega)[huv (View.le_trans hW7 hx1),ae g11 tb10,ae g11 tp10,ae g11 tk10,tkr11.idx1 rfl,tkr11.int (View.le_refl _)];refine sN _ (by kernel_rfl) (by simp) (qN (x:=nth t.tks j) (blk:=t.blk) (place:=t.place) (hur.mono (View.le_trans hW7 hx1)) (hm.mono hx1) (ha.mono hx1) (View.le_refl _) hml hq1 (fun i hi=>by rw[hq2 i hi];omega) (by omega)) ?_;rintro _ h12 ⟨rfl,hle12⟩;have w12:=w11.ext' hle12
    simp;subst hq;have hbe:(!eX f made away (nth t.tks j) t.blk t.place)=stT f made away t (nth t.tks j):=rfl;rw[hbe];cases hbad:stT f made away t (nth t.tks j)with
    | true=>refine aw (by simp) ?_;simp[ae (View.le_trans g11 hle12) tb10,ae (View.le_trans g11 hle12) tp10];refine oE (t:=(13,t.blk,t.place)) rfl rfl rfl ?_;refine ret (t:=(13,t.blk,t.place)) ⟨by show _<=(13:Int);omega,by show(13:Int)<=_;omega⟩ ⟨by show _<=t.blk;omega,by show t.blk<=_;omega⟩ ⟨by show _<=t.place;omega,by show t.place<=_;omega⟩ w12 hR2 (View.le_trans hV10 hW11) (her (by rw[e1,if_pos];rw[Np];exact⟨_,bc hltj,hbad⟩)) rfl rfl fun _ h9 hl9 hK9=>?_;simp[hl9];exact hK9
    | false=>
     refine au (by simp) ?_;simp;refine hK3 () _ _ rfl rfl ⟨W11,hW11,w12,fun q hq=>?_⟩;rcases LI q j with h | h
     ·exact hpre q h
     have:q=j:=by omega
     subst this;exact hbad
   rintro _ h11 ⟨W11,hW11,w11,hpre⟩;simp;refine hK2 () _ _ rfl rfl ⟨W11,View.le_trans hW10 hW11,w11,?_⟩;rw[hsx,e1,if_neg];intro e;obtain⟨n,hn,hb⟩:=Np.1 e;obtain⟨j,hj,rfl⟩:=LQ hn;rw[<-ak hj,hpre j hj]at hb;cases hb
  have hphi:=hphi (by omega);have hpin:=hpin (by omega);have e1:eh f made away t=if !jQ f t then .error (16,t.blk,t.place) else if(lr f t).ins.any (stP f made away) then .error (13,t.blk,t.place) else .ok ():=by rw[eh,if_neg (by omega)]
  subst hy;refine aa fun y hy=>?_;have hpe:lr f t=nth (nth f.blocks t.blk.toNat).phis (-1-t.place).toNat:=rfl;rw[hxeq]at hphi;obtain⟨vq,hvq⟩:=((bp.2.at hphi).part PhiD.jr).sl;rw[<-ak hphi,<-hpe]at hvq;have hvq1:ao W10 (((slA vp).add ((-1-t.place).toNat*2)).add 1)=some vq:=hvq.1;have hvq2:=hvq.2;clear hvq;simp(disch:=omega)[ae w10.wle bp.1,(bp.2.mono w10.wle).idxn (N:=2) rfl,ae w10.wle tp10,ae w10.wle hvq1];subst hy;refine aa fun y hy=>?_;simp[huv (View.le_trans hV10 w10.wle),ae w10.wle tb10];refine aj (by kernel_rfl) (oP (hur.mono (View.le_trans hV10 w10.wle)) (by omega)) ?_;rintro vs h11 ⟨hle11,hs11⟩;have w11:=w10.ext hle11
  have hs11:=hs11.mono (eC W10 h10 h11);have hW101:=aH (h':=h11) w10.wle;have hvq1:=ae hW101 hvq1;have hvq2:=hvq2.mono hW101;have bp1:=ae hW101 bp.1;have bp2:=bp.2.mono hW101;have tb11:=ae hW101 tb10;have tp11:=ae hW101 tp10;have hW11:=View.le_trans hW10 hW101;generalize grow W10 h10 h11=W11 at w11 hs11 hvq1 hvq2 bp1 bp2 tb11 tp11 hW11;clear hW101 bp tb10 tp10 tk10 tkr w10;have hV11:=View.le_trans hW7 hW11;have hsm1:jQ f t=(decide (0<t.blk)&&decide ((lr f t).ins.map InD.frm=bf f t.blk)):=rfl;have hrp : ∀p∈bf f t.blk,0<=p/\p<f.blocks.length:=fun p hp=>by obtain⟨b,h1,_,rfl⟩:=kZ.1 hp;omega
  generalize hPS:lr f t=ph at hsm1 hvq2 e1 hpin hpe;generalize hQS:bf f t.blk=qs at hsm1 hs11 hrp;have hqb:=hs11.bound;subst hy;refine aa fun y hy=>?_;simp[ae w11.wle tb11,(hvq2.mono w11.wle).len,(hs11.mono w11.wle).len];subst hy;refine aa fun y hy=>?_;have hs0:(decide (0<t.blk)&&decide ((ph.ins.length:Int)=(qs.length:Int)))=false->jQ f t=false:=fun e=>by rw[hsm1,MN];intro e2;simp only[LK,decide_eq_true_eq]at e2;rw[MN]at e;refine e ?_;simp only[LK,decide_eq_true_eq];refine⟨e2.1,?_⟩;rw[<-e2.2,L6]
  have hs1:(decide (0<t.blk)&&decide ((ph.ins.length:Int)=(qs.length:Int)))=true->ph.ins.length=qs.length/\((∀j,j<qs.length->(nth ph.ins j).frm=nth qs j)->jQ f t=true)/\∀j,j<qs.length->(nth ph.ins j).frm≠nth qs j->jQ f t=false:=fun e=>by
   simp only[LK,decide_eq_true_eq]at e;refine⟨by omega,fun hj=>?_,fun j hj hne=>?_⟩
   ·rw[hsm1];simp only[LK,decide_eq_true_eq];refine⟨e.1,MJ (by simp;omega) fun i h1 h2=>?_⟩;have:=hj i h2;rw[ak h2,ak (by simpa using h1)]at this;simpa using this
   rw[hsm1,MN];intro e2;simp only[LK,decide_eq_true_eq]at e2;apply hne;rw[<-e2.2,ak (l:=List.map InD.frm ph.ins) (by rw[L6];omega),ak (l:=ph.ins) (by omega)];simp
  generalize (decide (0<t.blk)&&decide ((ph.ins.length:Int)=(qs.length:Int)))=s0 at hs0 hs1;have k1:=hvq2.mono w11.wle;have k2:=hs11.mono w11.wle;refine mA (fun ρ h12=>h12=h11/\∃k:Nat,ρ=[(1,.pointer (some ⟨B,0,none⟩)),(2,.pointer (some ⟨R,0,none⟩)),(7,va),(10,vt),(11,vm),(12,.int .i64 i),(13,.pointer (some ⟨D,0,none⟩)),(16,vq),(17,vs),(18,.bool (jQ f t)),(19,.int .i64 k)]) ?_ ?_
  ·intro K3 hK3;simp;have fin : ∀(sm:Bool) (k:Nat),sm=jQ f t->K3 [(1,.pointer (some ⟨B,0,none⟩)),(2,.pointer (some ⟨R,0,none⟩)),(7,va),(10,vt),(11,vm),(12,.int .i64 i),(13,.pointer (some ⟨D,0,none⟩)),(16,vq),(17,vs),(18,.bool sm),(19,.int .i64 k)] h11:=fun sm k e=>hK3 _ _ ⟨rfl,k,by rw[e]⟩;refine fN [1,2,7,10,11,12,13,16,17,18,19] (fun n ρ h12=>∃(sm:Bool) (k:Nat),k<=qs.length/\n=qs.length-k/\h12=h11/\ρ=[(1,.pointer (some ⟨B,0,none⟩)),(2,.pointer (some ⟨R,0,none⟩)),(7,va),(10,vt),(11,vm),(12,.int .i64 i),(13,.pointer (some ⟨D,0,none⟩)),(16,vq),(17,vs),(18,.bool sm),(19,.int .i64 k)]/\
    (sm=true->s0=true/\∀j,j<k->(nth ph.ins j).frm=nth qs j)/\(sm=false->jQ f t=false)) qs.length ⟨s0,0,by omega,by omega,rfl,by simp[aZ],fun e=>⟨e,fun j hj=>by omega⟩,hs0⟩ ?_;rintro n ρ h11 ⟨sm,k,hk,rfl,rfl,rfl,ht1,hf1⟩ K4 hK4;cases hsm2:sm with
   | false=>simp[L.bG.l6];exact fin _ _ (hf1 hsm2).symm
   | true=>
    obtain⟨u1,u2⟩:=ht1 hsm2;obtain⟨u3,u4,u5⟩:=hs1 u1;by_cases hlt:k<qs.length
    ·refine aa fun q hq=>?_;simp[k2.len,hlt];subst hq;refine aa fun q hq=>?_;have a1:=k1.at (i:=k) (by omega);rw[<-ak (by omega)]at a1;have a2:ao (vw h11) (((slA vq).add (k*2)).add 0)=some (.int .i64 (nth ph.ins k).frm):=(a1.part InD.mE).int;simp(disch:=omega)[k1.idxn (N:=2) rfl,a2,k2.idx1 rfl,k2.int (View.le_refl _)];subst hq;simp(disch:=omega);refine hK4 (qs.length-(k+1)) _ _ (by omega) ⟨decide ((nth ph.ins k).frm=nth qs k),k+1,by omega,rfl,rfl,by simp[aZ],fun e=>⟨u1,fun j hj=>?_⟩,fun e=>u5 k hlt (by simpa using e)⟩;rcases LI j k with h | h
     ·exact u2 j h
     have:j=k:=by omega
     subst this;simpa using e
    have hlt':¬(k:Int)<qs.length:=by omega
    simp[L.bG.l6,k2.len,hlt];exact fin _ _ (u4 fun j hj=>u2 j (by omega)).symm
  rintro ρ h11 ⟨rfl,k,rfl⟩;subst hy;refine aa fun y hy=>?_;cases hss:jQ f t with
  | false=>rw[hss,if_pos (by simp)]at e1;simp[ae w11.wle tb11,ae w11.wle tp11];refine oE (t:=(16,t.blk,t.place)) rfl rfl rfl ?_;refine ret (t:=(16,t.blk,t.place)) ⟨by show _<=(16:Int);omega,by show(16:Int)<=_;omega⟩ ⟨by show _<=t.blk;omega,by show t.blk<=_;omega⟩ ⟨by show _<=t.place;omega,by show t.place<=_;omega⟩ w11 hR2 hV11 (her e1) rfl rfl fun _ h9 hl9 hK9=>?_;simp[hl9];exact hK9
  | true=>
   rw[hss,if_neg (by simp)]at e1;simp;subst hy;refine aa fun y hy=>?_;simp;have hfr : ∀j,j<ph.ins.length->0<=(nth ph.ins j).frm/\(nth ph.ins j).frm<f.blocks.length:=fun j hj=>by rw[hss]at hsm1;have hsm1:=hsm1.symm;simp only[LK,decide_eq_true_eq]at hsm1;refine hrp _ ?_;rw[<-hsm1.2];exact Nu (bc hj)
   have k1:=hvq2;subst hy;simp;refine aO [1,2,7,10,11,12,13,16,20] (fun(_:Unit) j=>[.pointer (some ⟨B,0,none⟩),.pointer (some ⟨R,0,none⟩),va,vt,vm,.int .i64 i,.pointer (some ⟨D,0,none⟩),vq,.int .i64 j])
    (fun _ j h12=>∃W,W11.le W/\Owns W h12 o2/\∀q,q<j->stP f made away (nth ph.ins q)=false) ph.ins.length ()
    rfl (by omega) rfl ⟨W11,View.le_refl _,w11,fun q hq=>by omega⟩ (fun _ _=>rfl) (fun v k h11 hk ⟨W,q1,q2,_⟩=>by simp[(hvq2.mono (View.le_trans q1 q2.wle)).len]) ?_ ?_
   ·rintro _ j h12 hltj ⟨W12,hW12,w12,hpre⟩ K3 hK3;have g12:=View.le_trans hW12 w12.wle;have k1:=hvq2.mono g12;have hx1:W7.le (vw h12):=View.le_trans hW11 g12;obtain⟨f1,f2⟩:=hfr j hltj;have a1:=k1.at hltj;rw[<-ak hltj]at a1;have a2:ao (vw h12) (((slA vq).add (j*2)).add 0)=some (.int .i64 (nth ph.ins j).frm):=(a1.part InD.mE).int;have a3:ao (vw h12) (((slA vq).add (j*2)).add 1)=some (.int .i64 (nth ph.ins j).val):=(a1.part InD.rn).int;have hbe:(!eX f made away (nth ph.ins j).val (nth ph.ins j).frm (nF f (nth ph.ins j).frm))=stP f made away (nth ph.ins j):=rfl;have hmem:=bc hltj;generalize hp:nth ph.ins j=p at a2 a3 f1 f2 hbe hmem;have hcb:=cb.2.mono (View.le_trans hW7 hx1);have hat:=hcb.at (i:=p.frm.toNat) (by omega);rw[<-ak (by omega)]at hat;obtain⟨vi,hvi⟩:=(hat.part BlkD.jr).sl;have hvi1:ao (vw h12) (((slA vb).add (p.frm.toNat*6)).add 1)=some vi:=hvi.1;have hvi2 : ∀{K:View},Un.ev K .len vi=some (.int .i64 (nF f p.frm)):=fun{K}=>hvi.2.len;refine aa fun q hq=>?_;refine bF (vw h12) (View.le_refl _) ?_;simp(disch:=omega)[huv (View.le_trans hW7 hx1),k1.idxn (N:=2) rfl,a2,a3,cbv (View.le_trans hW7 hx1),hcb.idxn (N:=6) rfl,hvi1,hvi2];refine sN _ (by kernel_rfl) (by simp) (qN (x:=p.val) (blk:=p.frm) (place:=nF f p.frm) (hur.mono (View.le_trans hW7 hx1)) (hm.mono hx1) (ha.mono hx1) (View.le_refl _) hml hq1 (fun i hi=>by rw[hq2 i hi];omega) (by omega)) ?_;rintro _ h13 ⟨rfl,hle13⟩;have w13:=w12.ext' hle13
    simp;subst hq;rw[hbe];cases hbad:stP f made away p with
    | true=>refine aw (by simp) ?_;simp[ae (View.le_trans g12 hle13) tb11,ae (View.le_trans g12 hle13) tp11];refine oE (t:=(13,t.blk,t.place)) rfl rfl rfl ?_;refine ret (t:=(13,t.blk,t.place)) ⟨by show _<=(13:Int);omega,by show(13:Int)<=_;omega⟩ ⟨by show _<=t.blk;omega,by show t.blk<=_;omega⟩ ⟨by show _<=t.place;omega,by show t.place<=_;omega⟩ w13 hR2 (View.le_trans hV11 hW12) (her (by rw[e1,if_pos];rw[Np];exact⟨_,hmem,hbad⟩)) rfl rfl fun _ h9 hl9 hK9=>?_;simp[hl9];exact hK9
    | false=>
     refine au (by simp) ?_;simp;refine hK3 () _ _ rfl rfl ⟨W12,hW12,w13,fun q hq=>?_⟩;rcases LI q j with h | h
     ·exact hpre q h
     have:q=j:=by omega
     subst this;rw[hp];exact hbad
   rintro _ h12 ⟨W12,hW12,w12,hpre⟩;simp;refine hK2 () _ _ rfl rfl ⟨W12,View.le_trans hW11 hW12,w12,?_⟩;rw[hsx,e1,if_neg];intro e;obtain⟨n,hn,hb⟩:=Np.1 e;obtain⟨j,hj,rfl⟩:=LQ hn;rw[<-ak hj,hpre j hj]at hb;cases hb
 rintro _ h8 ⟨W8,hW8,w8,hup⟩;simp;subst hz;simp;refine Co ?_;refine ret i0 i0 i0 w8 hR2 (View.le_trans hW7 hW8) (by rw[hst,hus,hup];rfl) rfl rfl fun _ h9 hl9 hK9=>?_;simp[hl9];exact hK9
def s7 (f:an) (b:Nat) (t:Th):Bool:=decide (t.blk=b)||!nth (dw f t.blk) b
def fj (f:an) (b:Nat) (out:List Int) (t:Th):List Int:=if s7 f b t then out++t.mks else out
def jj (f:an) (b:Nat):List Int:=(aL f).foldl (fj f b) (rows (fun i=>(i:Int)) f.params.toNat)
def tV (v:Value) (l:List Int):Own:=fun k=>if k=(0,0) then it T.int v l else none
theorem xK{v v':Value}{l l':List Int}(q:Key):tV v' l' q=(tV v l).upd (0,0) (it T.int v' l') q:=by
 unfold tV Own.upd;repeat' split
 all_goals first | rfl | simp_all
theorem xw{l:List Th}{f:an}{c:Nat}(hl : ∀t∈l,t.mks.length<=c): ∀{out:List Int},(l.foldl (fj f b) out).length<=out.length+c*l.length:=by
 induction l with
 | nil=>intro out;simp
 | cons t l ih=>
  intro out;have h1:=ih (fun t ht=>hl t (by simp[ht])) (out:=fj f b out t);have h2:(fj f b out t).length<=out.length+c:=by
   unfold fj;have:=hl t (by simp);split
   ·rw[LH];omega
   omega
  rw[MU,Nl,Ot];omega
theorem Av.KA{V:View}{v:Value}(hw:Av W v)(h:V.le W):Av V v:=fun b hb=>by
 cases hv:V b with
 | none=>rfl
 | some x=>have:=h b x hv;rw[hw b hb]at this;cases this
theorem AP{W':View}{h:Heap}{e:TypeId}{v:Value}{l:List Int}(o:OwnT W h e v l):OwnT W' h e v l:=by obtain⟨b,xs,h1,h2⟩:=o;exact⟨b,xs,h1,fun i hi=>h2 i hi⟩
theorem KD{h:Heap}{v:Value}(ha:Av (vw h) v): ∀b,v.ownBlock=some b->h.size<=b:=fun b hb=>by have:h[b]? = none:=ha b hb;rwa [Array.getElem?_eq_none_iff]at this
theorem zx{f:an}{v:Value}{h:Heap}(hv:Rd (vw h) v f)(hsm:SmF f)(hp:0<=f.params/\f.params<=1000)(hb:b<f.blocks.length)(hmk : ∀t∈aL f,t.mks.length<=1000)(hth:(aL f).length<=1000000):
  az Tryz.prog N.cP #[v,.int .i64 b] h (fun u h'=>(vw h).le (vw h')/\(∀b,u.ownBlock=some b->h.size<=b)/\OwnT nothing h' T.int u (jj f b)):=by
 refine aq (args:=[v,.int .i64 b]) follows F.cP E.cP (LD (by kernel_rfl)) fun K hK=>?_;dsimp only[L.cP];refine aa fun z hz=>?_;simp;refine gm rfl hv fun h1 _ hle1 hs1 hat=>?_;obtain⟨cp,vb,cb⟩:=fM hat;obtain⟨uf,huf,hufr⟩:=hat.al rfl;have huf:Un.ev (vw h1) (.al 2) (.pointer (some ⟨h.size,0,none⟩))=some uf:=huf;generalize h.size=B at cp cb huf;subst hz;refine aa fun z hz=>?_;simp;refine(Owns.start (h:=h1) (View.le_refl (vw h1))).dy (k:=(0,0)) (α:=Int) rfl El.aS fun vo h2 hle2 hvo w2 _=>?_;have w2:Owns (vw h1) h2 (tV vo []):=w2.congr fun q=>by unfold tV Own.upd;split<;>rfl
 subst hz;refine aa fun z hz=>?_;simp;obtain⟨n,hn⟩ : ∃n:Nat,n=f.params.toNat:=⟨_,rfl⟩;have hpn:f.params=n:=by omega
 rw[hpn]at cp;refine aO [0,1,2,5,6] (fun(vo:Value) i=>[v,.int .i64 b,.pointer (some ⟨B,0,none⟩),vo,.int .i64 i]) (fun vo i h3=>Owns (vw h1) h3 (tV vo (rows (fun i=>(i:Int)) i))) n vo
  rfl (by omega) rfl w2 (fun _ _=>rfl) (fun v k h3 hk m=>by simp[ae m.wle cp]) ?_ ?_
 ·rintro vo i h3 hlt w3 K2 hK2;simp;refine w3.fg (k:=(0,0)) (α:=Int) (v:=vo) (l:=rows (fun i=>(i:Int)) i) (d:=(i:Int)) rfl El.aS rfl (dr.2 ⟨rfl,by constructor<;>omega⟩) (by simp;omega) (by simp;omega) (fun _=>rfl) (fun _=>rfl) fun u v' h4 w4 _=>?_;refine hK2 v' _ _ rfl rfl (w4.congr fun q=>?_);rw[eG];exact xK q
 rintro vo h3 w3;simp;subst hz;refine aa fun z hz=>?_;have huf3:Un.ev (vw h3) (.al 2) (.pointer (some ⟨B,0,none⟩))=some uf:=by have:=cV (ρ:=fun _=>none) (e:=.un (.al 2) (.con (.pointer (some ⟨B,0,none⟩)))) w3.wle (by simpa using huf);simpa using this
 simp[huf3];refine aj (by kernel_rfl) (ny hufr w3.wle hsm) ?_;rintro vt h4 ⟨hle4,hst⟩;have w4:=w3.ext hle4;have hW4:=aH (h':=h4) w3.wle;generalize grow (vw h1) h3 h4=W4 at hst w4 hW4;subst hz;refine aa fun z hz=>?_;simp;have hsd:jj f b=(aL f).foldl (fj f b) (rows (fun i=>(i:Int)) n):=by rw[hn];rfl
 have hlen : ∀i,((List.take i (aL f)).foldl (fj f b) (rows (fun i=>(i:Int)) n)).length<=1001001000:=fun i=>by
  have h1:=xw (l:=List.take i (aL f)) (f:=f) (b:=b) (c:=1000) (fun t ht=>hmk t (NH ht)) (out:=rows (fun i=>(i:Int)) n);have h2:(List.take i (aL f)).length<=(aL f).length:=by simp;omega
  rw[fP]at h1;omega
 generalize rows (fun i=>(i:Int)) n=base at w4 hsd hlen;have tb:=hst.bound;refine aO [0,1,2,5,7,8] (fun(vo:Value) i=>[v,.int .i64 b,.pointer (some ⟨B,0,none⟩),vo,vt,.int .i64 i]) (fun vo i h5=>∃W,W4.le W/\Owns W h5 (tV vo ((List.take i (aL f)).foldl (fj f b) base))) (aL f).length vo
  rfl (by omega) rfl ⟨W4,View.le_refl _,w4⟩ (fun _ _=>rfl) (fun v k h5 hk ⟨W,q1,q2⟩=>by simp[hst.len]) ?_ ?_
 ·rintro vo i h5 hlt ⟨W5,hW5,w5⟩ K2 hK2;have hst5:=hst.mono hW5;have hl5:=hlen i;have hsucc:(List.take (i+1) (aL f)).foldl (fj f b) base=fj f b ((List.take i (aL f)).foldl (fj f b) base) (nth (aL f) i):=by rw[L8 hlt,NS,ak hlt];rfl
  generalize (List.take i (aL f)).foldl (fj f b) base=out at w5 hsucc hl5;have hat5:=hst5.at hlt;rw[<-ak hlt]at hat5;have hmt:=hmk _ (bc hlt);generalize nth (aL f) i=t at hat5 hsucc hmt;have hblk:ao W5 (((slA vt).add (i*4)).add 0)=some (.int .i64 t.blk):=(hat5.part Th.AL).int;obtain⟨vm,hvm⟩:=(hat5.part Th.Fp).sl;have hvm1:ao W5 (((slA vt).add (i*4)).add 2)=some vm:=hvm.1;have hvm2:=hvm.2;have h64:=(hat5.part Th.AL).rng;simp only[aR];refine aa fun y hy=>?_;simp;subst hy;refine aa fun y hy=>?_;have fin : ∀(h6:Heap) (ρ:Env) (W6:View),W5.le W6->Owns W6 h6 (tV vo out)->Lft.look ρ 0=some v->Lft.look ρ 1=some (.int .i64 b)->Lft.look ρ 2=some (.pointer (some ⟨B,0,none⟩))->Lft.look ρ 5=some vo->Lft.look ρ 7=some vt->Lft.look ρ 8=some (.int .i64 i)->Lft.look ρ 9=some (.bool (s7 f b t))->
    LC.wp Tryz.prog y (dJ 3 (gr K2 (dJ 2 (gr (LC.wp Tryz.prog z (fq [.tmp 4] K)) (fq [.tmp 4] K))))) ρ h6:=by
   intro h6 ρ W6 hW6 w6 r0 r1 r2 r5 r7 r8 r9;subst hy;refine aa fun y hy=>?_;simp[ag,ah,r9];subst hy;have hsp:fj f b out t=if s7 f b t then out++t.mks else out:=rfl;rw[hsp]at hsucc;by_cases ca:s7 f b t=true
   ·rw[if_pos ca]at hsucc;refine aw (by simp[ag,ah,ca]) ?_;have hst6:=hst5.mono (View.le_trans hW6 w6.wle);simp(disch:=omega)[ag,ah,r0,r1,r2,r5,r7,r8,hst6.idxn (N:=4) rfl,ae (View.le_trans hW6 w6.wle) hvm1];refine w6.bw (k:=(0,0)) (α:=Int) (v:=vo) (l:=out) (l2:=t.mks) rfl El.aS rfl rfl ((hvm2.mono hW6).src w6.wle) (by omega) (by omega) fun v' h7 w7 _=>?_;refine hK2 v' _ _ ?_ ?_ ⟨W6,View.le_trans hW5 hW6,w7.congr fun q=>?_⟩
    ·simp[ag,ah,r8]
    ·simp[aZ,ag,ah,r0,r1,r2,r5,r7,r8]
    rw[hsucc];exact xK q
   rw[if_neg ca]at hsucc;refine au (by simp[ag,ah,ca]) ?_;simp;refine hK2 vo _ _ ?_ ?_ ⟨W6,View.le_trans hW5 hW6,by rw[hsucc];exact w6⟩
   ·simp[ag,ah,r8]
   simp[aZ,ag,ah,r0,r1,r2,r5,r7,r8]
  refine aa fun x hx=>?_;simp(disch:=omega)[(hst5.mono w5.wle).idxn (N:=4) rfl,ae w5.wle hblk];subst hx;by_cases cb:t.blk=b
  ·refine au (by simp[cb]) ?_;simp;refine fin h5 _ W5 (View.le_refl _) w5 ?_ ?_ ?_ ?_ ?_ ?_ ?_;all_goals simp[s7,cb]
  refine aw (by simp[cb]) ?_;refine aa fun x hx=>?_;have hf5:Rd (vw h5) uf f:=hufr.mono (View.le_trans hW4 (View.le_trans hW5 w5.wle));have huf5:Un.ev (vw h5) (.al 2) (.pointer (some ⟨B,0,none⟩))=some uf:=by have:=cV (ρ:=fun _=>none) (e:=.un (.al 2) (.con (.pointer (some ⟨B,0,none⟩)))) (View.le_trans hW4 (View.le_trans hW5 w5.wle)) (by simpa using huf);simpa using this
  refine bF (vw h5) (View.le_refl _) ?_;simp(disch:=omega)[(hst5.mono w5.wle).idxn (N:=4) rfl,ae w5.wle hblk,huf5];refine aj (by kernel_rfl) (nr hf5 (by have:=hsm.len;omega)) ?_;rintro ur h6 ⟨hle6,hur⟩;have w6:=w5.ext hle6;have hW6:=aH (h':=h6) w5.wle;have hur6:SlRd (vw h6) ur (dw f t.blk):=hur.mono (iz h5 h6);have hrl:(dw f t.blk).length=f.blocks.length:=lD;subst hx;simp(disch:=omega)[hur6.idx1 rfl,hur6.bool (View.le_refl _)];refine fin h6 _ _ hW6 w6 ?_ ?_ ?_ ?_ ?_ ?_ ?_;all_goals simp[s7,cb]
 rintro vo h5 ⟨W5,hW5,w5⟩;rw[MK,<-hsd]at w5;simp;subst hz;simp;have hX:(vw h).le W5:=View.le_trans hle1 (View.le_trans hW4 hW5);exact hK _ _ ⟨View.le_trans hX w5.wle,KD (Av.KA (w5.av (0,0) _ rfl) hX),AP (w5.get (k:=(0,0)) (v:=vo) rfl)⟩
end Go.Proofs.YtbkdlhkoiagbbaaGreat
namespace Go.Lft
open Go
theorem vh {P:Program} {Q:Post} {ρ:Env} {h:Heap} {a i c:Nat} {ks ks2:List Nat} {ce:E} {body:LC} {σ:Type} (kp:List Nat) (vals:σ->Nat->List Value) (J:σ->Nat->Heap->Prop) (n:Nat) (d:Nat) (s0:σ)
  (hok:pY kp ks ks2 c i=true) (hn:n+d<=9223372036854775806) (h0:aZ kp ρ=kp.zip (vals s0 0)) (hj:J s0 0 h)
  (hi : ∀s k,look (kp.zip (vals s k)) i=some (.int .i64 ((k+d:Nat):Int)))
  (hb : ∀s k h,k<=n->J s k h->ev (look (kp.zip (vals s k))) (vw h) ce=some (.bool (decide (k<n))))
  (round : ∀s k h,k<n->J s k h->∀K:Env->Heap->Prop,(∀s' ρ' h',look ρ' i=some (.int .i64 ((k+d:Nat):Int))->aZ kp (setE ρ' i (.int .i64 (((k+d:Nat):Int)+1)))=kp.zip (vals s' (k+1))->J s' (k+1) h'->K ρ' h')->body.wp P (gr K (dJ a Q)) (kp.zip (vals s k)) h)
  (done : ∀s h,J s n h->Q .normal (kp.zip (vals s n)) h):LC.wp P (forC a i c ks ks2 ce body) (dJ a Q) ρ h:=by
 simp only[pY,M8,LK,NI,bne_iff_ne,ML,beq_iff_eq,ne_eq]at hok;refine fN kp (fun m ρ h=>∃s k,k<=n/\ρ=kp.zip (vals s k)/\m=n-k/\J s k h) n ⟨s0,0,by omega,h0,by omega,hj⟩ ?_;rintro m ρ h ⟨s,k,hk,rfl,rfl,hJ⟩ K hK;have hkill:bM (kp.zip (vals s k)) ks=kp.zip (vals s k):=mj fun p hp=>(hok p.1 (kO hp)).1.1;have hne : ∀p∈kp.zip (vals s k),p.1≠c:=fun p hp=>(hok p.1 (kO hp)).1.2
 have hk2 : ∀v,bM (setE (kp.zip (vals s k)) c v) [c]=kp.zip (vals s k):=fun v=>lU hne;have hlk : ∀v,look (setE (kp.zip (vals s k)) c v) c=some v:=fun v=>by rw[ag,if_pos rfl]
 simp only[qY,kH,iA,fZ,js,kL,hb s k h hk hJ,L3,iT,kM,true_and,dk,hkill,bT,lW,jP,hlk,j7,hk2,og,oz,lN,mf,if_true];refine⟨fun hlt=>?_,fun hge=>?_⟩
 ·have hlt':k<n:=by omega
  rw[kV];refine round s k h hlt' hJ _ fun s' ρ' h' hl he hJ'=>?_;simp only[kH,iA,fZ,js,kL,kt,jP,hl,kM,true_and,L3,vH,L3,wI,iT,dk,bT,true_and];rw[bJ (by omega) (by omega)];refine hK (n-(k+1)) _ _ (by omega) ⟨s',k+1,by omega,?_,rfl,hJ'⟩;rw[<-he];refine lL fun t ht=>?_;rw[ag,ag,ah];split
  ·rfl
  rename_i hti;rcases(hok t ht).2 with e | e
  ·exact absurd e.symm hti
  rw[e];rfl
 have:k=n:=by omega
 subst this;exact done s h hJ
open Classical in
/-- Several of one's own, written no more. -/
theorem Owns.sK {W:View} {h:Heap} {o:Own} (w:Owns W h o) (S:Key->Bool) :
  ∃W':View,W.le W'/\Owns W' h (fun k=>if S k then none else o k)/\∀{k:Key} {α:Type} [r:Rep α] {e:TypeId} {v:Value} {l:List α},S k=true->o k=it e v l->SlRd W' v l:=by
 have hle:W.le (fun b=>if ∃k i,S k=true/\o k=some i/\i.v.ownBlock=some b then h[b]? else W b):=fun b x hb=>by
  show(if _ then _ else _)=_;rw[if_neg]
  ·exact hb
  rintro⟨k,i,_,h2,h3⟩;rw[w.av k i h2 b h3]at hb;cases hb
 refine⟨fun b=>if ∃k i,S k=true/\o k=some i/\i.v.ownBlock=some b then h[b]? else W b,hle,?_,?_⟩
 ·refine⟨fun b x hb=>?_,fun k i hk=>?_,fun k i hk b hb=>?_,fun k k' i i' b hk hk'=>?_⟩
  ·split at hb
   ·exact hb
   exact w.wle b x hb
  ·split at hk
   ·cases hk
   exact @OwnT.mono i.α i.rep _ _ _ _ _ (w.own k i hk) _ hle
  ·split at hk
   ·cases hk
   rename_i hs;show(if _ then _ else _)=_;rw[if_neg]
   ·exact w.av k i hk b hb
   rintro⟨k',i',h1,h2,h3⟩;exact hs (w.dj k k' i i' b hk h2 hb h3▸h1)
  split at hk
  ·cases hk
  split at hk'
  ·cases hk'
  exact w.dj k k' i i' b hk hk'
 intro k α r e v l hs hk;refine(w.get hk).rd hle fun b hb=>?_;rw[if_pos ⟨k,_,hs,hk,hb⟩]
theorem Owns.nils {W:View} {h:Heap} {o o':Own} (w:Owns W h o) (ho : ∀k i,o' k=some i->o k=some i\/(i.v = .slice none 0 0/\@OwnT i.α i.rep W h i.e i.v i.l)):Owns W h o':=by
 have hnb : ∀{i:Item} {b:Nat},i.v = .slice none 0 0->i.v.ownBlock=some b->False:=fun e hb=>by rw[e]at hb;simp[Value.ownBlock]at hb
 refine⟨w.wle,fun k i hk=>?_,fun k i hk b hb=>?_,fun k k' i i' b hk hk' hb hb'=>?_⟩
 ·rcases ho k i hk with h1 | ⟨_,h1⟩
  ·exact w.own k i h1
  exact h1
 ·rcases ho k i hk with h1 | ⟨e,_⟩
  ·exact w.av k i h1 b hb
  exact(hnb e hb).elim
 rcases ho k i hk with h1 | ⟨e,_⟩
 ·rcases ho k' i' hk' with h2 | ⟨e,_⟩
  ·exact w.dj k k' i i' b h1 h2 hb hb'
  exact(hnb e hb').elim
 exact(hnb e hb).elim
end Go.Lft
namespace Go.Proofs.YtbkdlhkoiagbbaaGreat
open Go Go.Lft
abbrev TgS:=List (List Int) × MS
def nY (x:TgS) (p b:Nat) (m:MS):TgS:=(x.1.set p (nth x.1 p++[(b:Int)]),m)
def tgA (s:List Int) (k:Nat) (x:TgS):TgS:=
 if aG s x.2.at_ 3=0 then nY x (aG s (x.2.at_+1) ((k+1:Nat):Int)).toNat (k+1) x.2.took.took
 else nY x k (k+1) x.2.took
def tgI (s:List Int) (n b:Nat) (x:TgS):TgS:=
 let t:=1+aG s x.2.at_ ((n:Int)-1)
 if t<=b then
  if aG s (x.2.at_+1) 2=0 then nY x b (min (b+1) (n-1)) x.2.took.took else nY x b t.toNat x.2.took.took
 else nY x b t.toNat x.2.took
def tgB (s:List Int) (n b:Nat) (x:TgS):TgS:=up (fun _=>tgI s n b) (if 1<n then(aG s x.2.at_ 6-3).toNat else 0) (x.1,x.2.took)
def oY (s:List Int) (n:Nat) (m:MS):TgS:=up (tgB s n) n (up (tgA s) (n-1) (List.replicate n [],m))
structure TgO (ri:Own) (o:Own) (vo:Value) (l:List (List Int)) (rv:List Raw):Prop where
 res : ∀k:Key,8<=k.1->o k=ri k
 top:o (3,0)=it T.aS vo rv
 len:rv.length=l.length
 row : ∀i,i<l.length->o (4,i)=it T.int (nth rv i).v (nth l i)
 els : ∀k:Key,3<=k.1->k.1<8->k≠(3,0)->(∀i,i<l.length->k≠(4,i))->o k=none
theorem TgO.put {ri:Own} {o:Own} {vo:Value} {l:List (List Int)} {rv:List Raw} (q:TgO ri o vo l rv) {p:Nat} (hp:p<l.length) {v':Value} {r:List Int}:TgO ri ((o.upd (4,p) (it T.int v' r)).upd (3,0) (it T.aS vo (rv.set p ⟨v'⟩))) vo (l.set p r) (rv.set p ⟨v'⟩):=by
 have hpr:p<rv.length:=by rw[q.len];exact hp
 refine⟨fun k hk=>(Own.ab (by rintro rfl;simp at hk)).trans ((Own.ab (by rintro rfl;simp at hk)).trans (q.res k hk)),Own.af,by simp[q.len],fun i hi=>?_,fun k h1 h8 h2 h3=>?_⟩
 ·have hi:i<l.length:=by simpa using hi
  have hir:i<rv.length:=by rw[q.len];exact hi
  rw[Own.ab (by simp),aF hir,aF hi];by_cases e:p=i
  ·subst e;rw[Own.af,if_pos rfl,if_pos rfl]
  rw[Own.ab (fun e2=>e (by injection e2 with _ e2;exact e2.symm)),if_neg e,if_neg e];exact q.row i hi
 have h3 : ∀i,i<l.length->k≠(4,i):=fun i hi=>h3 i (by simpa using hi);rw[Own.ab h2,Own.ab (h3 p hp)];exact q.els k h1 h8 h2 h3
def Tg (ri:Own) (s:List Int) (M:Nat) (vs:Value) (W:View) (vo:Value) (h:Heap) (x:TgS):Prop:=∃W' o rv,W.le W'/\Mk s M vs W' h o x.2/\TgO ri o vo x.1 rv
section
variable {s:List Int} {M:Nat} {vs:Value} {W:View} {vo:Value} {h:Heap} {x:TgS} {ri:Own}
theorem Tg.take (t:Tg ri s M vs W vo h x) {c:Nat} (hm:x.2.ok c) (hc:c<=1000000) {k:Int} (hk:0<k) (hk2:k<=1000000000) :
  az Tryz.prog N.b8 #[.pointer (some ⟨M,0,none⟩),.int .i64 k] h (fun v h'=>v = .int .i64 (aG s x.2.at_ k)/\Tg ri s M vs W vo h' (x.1,x.2.took)):=by obtain⟨W',o,rv,g,w,q⟩:=t;refine(w.take (by have:=hm.at_;omega) hk hk2).mono ?_;rintro v h' ⟨e,o',w',f⟩;exact⟨e,W',o',rv,g,w',fun k hk=>(f k (by omega)).trans (q.res k hk),(f _ (by decide)).trans q.top,q.len,fun i hi=>(f _ (by show 3<=4;decide)).trans (q.row i hi),fun k h1 h8 h2 h3=>(f _ h1).trans (q.els k h1 h8 h2 h3)⟩
theorem Tg.idx (t:Tg ri s M vs W vo h x) {k:IntKind} {i:Int} (h0:0<=i) (h1:i<x.1.length):Bn.ev (.idx 1) vo (.int k i)=some (.pointer (some ((slA vo).add i.toNat))):=by obtain⟨W',o,rv,g,w,q⟩:=t;exact(w.own.now q.top).idx1 rfl h0 (by rw[q.len];exact h1)
theorem Tg.put {po po2 po3:OP} (t:Tg ri s M vs W vo h x) {p:Nat} (hp:p<x.1.length) (hl:(nth x.1 p).length<=1000000) {b:Nat} (hb:b<=1000000) :
  ∃v:Value,ao (vw h) ((slA vo).add p)=some v/\∀{ty ty2 ty3:TypeId} {a a1 a2:Operand} {c1 c2:Operand} {us:List (Nat × Value)} {us2:Value->List (Nat × Value)} {us3:Value->Value->List (Nat × Value)} {K:Value->Value->Value->Heap->Prop},
   asg us a = .int .i64 b->(∀u,asg (us2 u) a1=v)->(∀u,asg (us2 u) a2=u)->(∀u v',asg (us3 u v') c1 = .pointer (some ((slA vo).add p)))->(∀u v',asg (us3 u v') c2=v')->(∀u v' h',Tg ri s M vs W vo h' (nY x p b x.2)->K u v' undef h')->
   @Lft.step po Tryz.prog (.buildSlice T.aS 1 #[(0,a)]) ty us h fun u h2=>@Lft.step po2 Tryz.prog (.call ⟨.builtin .append,#[a1,a2],#[T.aS,T.aS]⟩) ty2 (us2 u) h2 fun v' h3=>@Lft.step po3 Tryz.prog (.store T.aS c1 c2) ty3 (us3 u v') h3 fun w h4=>K u v' w h4:=by
 obtain⟨W',o,rv,g,w,q⟩:=t;have hpr:p<rv.length:=by rw[q.len];exact hp
 have hcell:=((w.own.now q.top).at hpr).raw;have hn:Rep.n Raw=1:=rfl;rw[hn,MP,<-ak hpr]at hcell;refine⟨_,hcell,fun{ty ty2 ty3 a a1 a2 c1 c2 us us2 us3 K} ha ha1 ha2 hc1 hc2 hK=>?_⟩;refine w.own.fg (k:=(4,p)) (α:=Int) (d:=(b:Int)) (q.row p hp) El.aS ha (dr.2 ⟨rfl,by constructor<;>omega⟩) (by omega) (by omega) ha1 ha2 fun u v' h3 w3 _=>?_;have hv:=(w3.cells (k:=(4,p)) Own.af).2
 refine w3.ky (k:=(3,0)) (α:=Raw) (v:=vo) (l:=rv) (i:=p) (d:=⟨v'⟩) ((Own.ab (by simp)).trans q.top) (by kernel_rfl) (by rw[hc1,hn,MP]) (hc2 u v') hpr (qx.2 ⟨rfl,hv⟩) fun h4 w4 _=>hK u v' h4 ?_;obtain⟨vb,vl,lb,bb⟩:=w.box;exact⟨W',_,_,g,⟨w4,w.src,vb,vl,lb,bb.frame fun k hk=>by rw[Own.ab (by rintro rfl;simp at hk),Own.ab (by rintro rfl;simp at hk)]⟩,q.put hp⟩
end
theorem xO {x:TgS} {p b:Nat} {m:MS}:(nY x p b m).1.length=x.1.length:=by simp[nY]
theorem Dl {x:TgS} {p b c:Nat} {m:MS} (h : ∀i,(nth x.1 i).length<=c) : ∀i,(nth (nY x p b m).1 i).length<=c+1:=by
 intro i;have hi:=h i;rcases LI i x.1.length with hl | hl
 ·show(nth (x.1.set p _) i).length<=_;rw[aF hl];split
  ·rename_i e;subst e;rw[LH,LJ];omega
  omega
 rw[cB (by rw[xO];exact hl)];show 0<=_;omega
structure TgK (n c:Nat) (x:TgS):Prop where
 len:x.1.length=n
 row : ∀i,(nth x.1 i).length<=c
 ok:x.2.ok c
theorem TgK.mono {n c d:Nat} {x:TgS} (h:TgK n c x) (hd:c<=d):TgK n d x:=⟨h.len,fun i=>L9 (h.row i) hd,h.ok.mono hd⟩
theorem TgK.put {n c p b:Nat} {x:TgS} {m:MS} (h:TgK n c x) (hm:m.ok (c+2)):TgK n (c+2) (nY x p b m):=⟨xO.trans h.len,fun i=>by have:=Dl (p:=p) (b:=b) (m:=m) h.row i;omega,hm⟩
theorem Js {s:List Int} {n c k:Nat} {x:TgS} (h:TgK n c x):TgK n (c+2) (tgA s k x):=by
 unfold tgA;split
 ·exact h.put h.ok.took.took
 exact h.put (h.ok.took.mono (by omega))
theorem JA {s:List Int} {n c b:Nat} {x:TgS} (h:TgK n c x):TgK n (c+2) (tgI s n b x):=by
 unfold tgI;simp only;repeat' split
 ·exact h.put h.ok.took.took
 ·exact h.put h.ok.took.took
 exact h.put (h.ok.took.mono (by omega))
theorem yL {s:List Int} {n c:Nat} {x:TgS} (h:TgK n c x) : ∀k,TgK n (c+2*k) (up (tgA s) k x)
 | 0=>h
 | k+1=>(Js (yL h k)).mono (by omega)
theorem Ci {s:List Int} {n c b:Nat} {x:TgS} (h:TgK n c x) : ∀k,TgK n (c+2*k) (up (fun _=>tgI s n b) k x)
 | 0=>h
 | k+1=>(JA (Ci h k)).mono (by omega)
theorem JD {s:List Int} {n c b:Nat} {x:TgS} (h:TgK n c x):TgK n (c+10) (tgB s n b x):=by unfold tgB;have ht:=cc (s:=s) (at_:=x.2.at_) (n:=6) (by decide);have h1:TgK n (c+1) (x.1,x.2.took):=⟨h.len,fun i=>by have:=h.row i;show(nth x.1 i).length<=_;omega,h.ok.took⟩;refine(Ci h1 _).mono ?_;split<;>omega
theorem Cc {s:List Int} {n c:Nat} {x:TgS} (h:TgK n c x) : ∀k,TgK n (c+10*k) (up (tgB s n) k x)
 | 0=>h
 | k+1=>(JD (Cc h k)).mono (by omega)
theorem BQ {s:List Int} {M:Nat} {vs:Value} {W:View} {h:Heap} {o:Own} {m:MS} {ri:Own} (w:Mk s M vs W h o m) (hres : ∀k:Key,8<=k.1->o k=ri k) (ho : ∀k:Key,3<=k.1->k.1<8->o k=none) {n c:Nat} (hm:m.ok c) (hc:c<=1000) (hn1:1<=n) (hn2:n<=100) :
  az Tryz.prog N.aY #[.pointer (some ⟨M,0,none⟩),.int .i64 n] h (fun u h'=>∃W' o',W.le W'/\Mk s M vs W' h' o' (oY s n m).2/\(∀k:Key,8<=k.1->o' k=ri k)/\(∀k:Key,3<=k.1->k.1<8->o' k=none)/\SlRd W' u (oY s n m).1):=by
 refine aq (args:=[.pointer (some ⟨M,0,none⟩),.int .i64 n]) follows F.aY E.aY (LD (by kernel_rfl)) fun K hK=>?_;have htd:oY s n m=_:=rfl;dsimp only[L.aY];refine aa fun z hz=>?_;simp;subst hz;refine aa fun z hz=>?_;simp;refine lx (α:=Raw) (W:=W) (k:=.i64) (n:=n) (d:=⟨.slice none 0 0⟩) El.dh (by rfl) (by rfl) ⟨rfl,rfl⟩ (by omega) (by omega) fun vo h1 o1 m1 hle1 hb1=>?_;have t1:Tg ri s M vs W vo h1 (List.replicate n [],m):=by
  have w1:=w.own.add (k:=(3,0)) (ho _ (by decide) (by decide)) o1 hle1 (fun b hb=>by rw[hb1]at hb;cases hb;exact LG _);have w2:=w1.nils (o':=fun k=>if k.1=4/\k.2<n then it T.int (.slice none 0 0) ([]:List Int) else o.upd (3,0) (it T.aS vo (List.replicate n (Raw.mk (.slice none 0 0)))) k) fun k i hk=>by
   split at hk
   ·cases hk;exact .inr ⟨rfl,OwnT.nil (α:=Int) W h1 T.int⟩
   exact .inl hk
  obtain⟨vb,vl,lb,bb⟩:=w.box;refine⟨W,_,List.replicate n ⟨.slice none 0 0⟩,View.le_refl _,⟨w2,w.src,vb,vl,lb,bb.frame fun k hk=>?_⟩,?_,rfl,by simp,fun i hi=>?_,fun k h1 h8 h2 h3=>?_⟩
  ·have h4:¬(k.1=4/\k.2<n):=by omega
   show(if _ then _ else _)=_;rw[if_neg h4,Own.ab (by rintro rfl;simp at hk)]
  ·intro k hk;show(if _ then _ else _)=_;rw[if_neg (by omega),Own.ab (by rintro rfl;simp at hk),hres k hk]
  ·have hi:i<n:=by simpa using hi
   show(if _ then _ else _)=_;rw[if_pos ⟨rfl,hi⟩,aA hi,aA hi]
  show(if _ then _ else _)=_;rw[if_neg,Own.ab h2,ho k h1 h8];rintro⟨e1,e2⟩;refine h3 k.2 (by simpa using e2) ?_;rw[<-e1]
 have k1:TgK n c (List.replicate n [],m):=⟨by simp,fun i=>by
  rcases LI i n with hi | hi
  ·rw[aA hi];show 0<=_;omega
  rw[cB (by simpa using hi)];show 0<=_;omega,hm⟩;clear m1 o1 w ho;obtain⟨x0,hx0⟩ : ∃x0:TgS,x0=(List.replicate n [],m):=⟨_,rfl⟩;rw[<-hx0]at t1 k1;have htd:oY s n m=up (tgB s n) n (up (tgA s) (n-1) x0):=by rw[hx0];rfl
 clear hx0;subst hz;refine aa fun z hz=>?_;simp;refine vh [0,1,5,6] (fun(_:Unit) k=>[.pointer (some ⟨M,0,none⟩),.int .i64 n,vo,.int .i64 ((k+1:Nat):Int)]) (fun _ k h2=>Tg ri s M vs W vo h2 (up (tgA s) k x0)) (n-1) 1 ()
  rfl (by omega) rfl t1 (fun _ _=>rfl) (fun v k h2 hk m=>by simp;omega) ?_ ?_
 ·rintro _ k h2 hlt t2 K2 hK2;have kx:=yL (s:=s) k1 k;have e2:up (tgA s) (k+1) x0=tgA s k (up (tgA s) k x0):=rfl;rw[e2]at hK2;generalize up (tgA s) k x0=x at t2 kx hK2;have hxl:=kx.len;simp only[aR];refine aa fun y hy=>?_;simp;rw[show IntKind.i64.wrap (k:Int)=k from bJ (by omega) (by omega)];subst hy;refine aa fun y hy=>?_;have fin : ∀(p:Nat) (m':MS) (h':Heap) (ρ:Env),tgA s k x=nY x p (k+1) m'->p<n->Tg ri s M vs W vo h' (x.1,m')->Lft.look ρ 0=some (.pointer (some ⟨M,0,none⟩))->Lft.look ρ 1=some (.int .i64 n)->Lft.look ρ 5=some vo->Lft.look ρ 6=some (.int .i64 ((k+1:Nat):Int))->Lft.look ρ 7=some (.int .i64 p)->
    LC.wp Tryz.prog y (dJ 1 (gr K2 (dJ 0 (gr (LC.wp Tryz.prog z (fq [.tmp 4] K)) (fq [.tmp 4] K))))) ρ h':=by
   intro p m' h' ρ e hp t r0 r1 r5 r6 r7;subst hy;obtain⟨vr,hvr,put⟩:=t.put (p:=p) (b:=k+1) (by show p<x.1.length;omega) (by have:=kx.row p;show(nth x.1 p).length<=_;omega) (by omega);have hix:=t.idx (k:=.i64) (i:=p) (by omega) (by show(p:Int)<x.1.length;omega);simp only[LY]at hix;simp[ag,ah,r0,r1,r5,r6,r7,hix,hvr];refine put (by simp) (fun _=>by simp) (fun _=>by simp) (fun _ _=>by simp) (fun _ _=>by simp) fun u v' h3 t3=>?_;refine hK2 () _ _ ?_ ?_ (by rw[e];exact t3)
   ·simp[ag,ah,r6]
   simp[aZ,ag,ah,r0,r1,r5]
  have had:tgA s k x=_:=tgA.eq_1 s k x;refine aa fun w hw=>?_;simp;refine aj (by kernel_rfl) (t2.take kx.ok (by omega) (k:=3) (by decide) (by decide)) ?_;rintro _ h3 ⟨rfl,t3⟩;simp;subst hw;by_cases c3:aG s x.2.at_ 3=0
  ·rw[if_pos c3]at had;refine aw (by simp[c3]) ?_;simp;refine aj (by kernel_rfl) (t3.take kx.ok.took (by omega) (k:=((k+1:Nat):Int)) (by omega) (by omega)) ?_;rintro _ h4 ⟨rfl,t4⟩;have hx:(x.1,x.2.took).2.at_=x.2.at_+1:=rfl;rw[hx];obtain⟨u0,u1⟩:=cc (s:=s) (at_:=x.2.at_+1) (n:=((k+1:Nat):Int)) (by omega);generalize aG s (x.2.at_+1) ((k+1:Nat):Int)=q at had u0 u1;refine fin q.toNat _ h4 _ had (by omega) t4 ?_ ?_ ?_ ?_ ?_;all_goals simp
   omega
  rw[if_neg c3]at had;refine au (by simp[c3]) ?_;simp;refine fin k _ h3 _ had (by omega) t3 ?_ ?_ ?_ ?_ ?_;all_goals simp
 rintro _ h2 t2;have k2:=yL (s:=s) k1 (n-1);generalize up (tgA s) (n-1) x0=x1 at t2 k2 htd;simp;subst hz;refine aa fun z hz=>?_;simp;refine aO [0,1,5,8] (fun(_:Unit) k=>[.pointer (some ⟨M,0,none⟩),.int .i64 n,vo,.int .i64 k]) (fun _ k h3=>Tg ri s M vs W vo h3 (up (tgB s n) k x1)) n ()
  rfl (by omega) rfl t2 (fun _ _=>rfl) (fun v k h3 hk m=>by simp) ?_ ?_
 ·rintro _ b h3 hlt t3 K2 hK2;have kx:=(Cc (s:=s) k2 b).mono (d:=3000) (by omega);have e3:up (tgB s n) (b+1) x1=tgB s n b (up (tgB s n) b x1):=rfl;rw[e3]at hK2;generalize up (tgB s n) b x1=x at t3 kx hK2;simp only[aR];refine aa fun y hy=>?_;simp;refine aj (by kernel_rfl) (t3.take kx.ok (by omega) (k:=6) (by decide) (by decide)) ?_;rintro _ h4 ⟨rfl,t4⟩;have hbd:tgB s n b x=_:=tgB.eq_1 s n b x
  obtain⟨r0,r1⟩:=cc (s:=s) (at_:=x.2.at_) (n:=6) (by decide);generalize aG s x.2.at_ 6=r at hbd r0 r1;have kx1:TgK n 3001 (x.1,x.2.took):=⟨kx.len,fun i=>by have:=kx.row i;show(nth x.1 i).length<=_;omega,kx.ok.took⟩;obtain⟨cnt,hcnt⟩ : ∃cnt:Nat,cnt=if 1<n then(r-3).toNat else 0:=⟨_,rfl⟩;have hc3:cnt<=3:=by rw[hcnt];split<;>omega
  rw[<-hcnt]at hbd;generalize (x.1,x.2.took)=x2 at t4 kx1 hbd;subst hy;refine aa fun y hy=>?_;simp;subst hy;simp only[aR];have hw3:IntKind.i64.wrap (r-3)=r-3:=bJ (by omega) (by omega);refine EJ [0,1,5,8,9,10] (fun(_:Unit) k=>[.pointer (some ⟨M,0,none⟩),.int .i64 n,vo,.int .i64 b,.int .i64 r,.int .i64 k]) (fun _ k h5=>Tg ri s M vs W vo h5 (up (fun _=>tgI s n b) k x2)) cnt ()
   rfl (by omega) rfl t4 (fun _ _=>rfl) (fun v k h5 hk m=>by
    by_cases hn:1<n
    ·rw[if_pos hn]at hcnt;by_cases hk2:k<cnt
     ·have e1:(k:Int)<r-3:=by omega
      simp[hw3,e1,hk2];omega
     have e1:¬(k:Int)<r-3:=by omega
     simp[hw3,e1,hk2]
    rw[if_neg hn]at hcnt;have e2:¬k<cnt:=by omega
    by_cases e1:(k:Int)<r-3
    ·simp[hw3,e1,e2];omega
    simp[hw3,e1,e2]) ?_ ?_
  ·rintro _ k h5 hltk t5 K3 hK3;have hn2:1<n:=by
    rw[hcnt]at hltk;split at hltk
    ·assumption
    omega
   have kx3:=(Ci (s:=s) (b:=b) kx1 k).mono (d:=4000) (by omega);have e5:up (fun _=>tgI s n b) (k+1) x2=tgI s n b (up (fun _=>tgI s n b) k x2):=rfl;rw[e5]at hK3;generalize up (fun _=>tgI s n b) k x2=x at t5 kx3 hK3;have hxl:=kx3.len;have hid:tgI s n b x=_:=tgI.eq_1 s n b x;have hwn:IntKind.i64.wrap ((n:Int)-1)=(n:Int)-1:=bJ (by omega) (by omega);simp only[aR];refine aa fun y hy=>?_;simp[hwn];refine aj (by kernel_rfl) (t5.take kx3.ok (by omega) (k:=(n:Int)-1) (by omega) (by omega)) ?_;rintro _ h6 ⟨rfl,t6⟩;obtain⟨q0,q1⟩:=cc (s:=s) (at_:=x.2.at_) (n:=(n:Int)-1) (by omega);generalize aG s x.2.at_ ((n:Int)-1)=q at hid q0 q1;have hwq:IntKind.i64.wrap (1+q)=1+q:=bJ (by omega) (by omega)
   simp[hwq];subst hy;refine aa fun y hy=>?_;refine mA (fun ρ h'=>∃(t:Nat) (m':MS) (v0 v:Value),tgI s n b x=nY x b t m'/\t<=1000/\Tg ri s M vs W vo h' (x.1,m')/\ρ=[(0,.pointer (some ⟨M,0,none⟩)),(1,.int .i64 n),(5,vo),(8,.int .i64 b),(9,.int .i64 r),(10,.int .i64 k),(11,.int .i64 t),(57,.int .i64 q),(62,v0),(64,v)]) ?_ ?_
   ·intro K4 hK4;refine aa fun w hw=>?_;by_cases c1:1+q<=b
    ·rw[if_pos c1]at hid;simp[c1];refine aj (by kernel_rfl) (t6.take kx3.ok.took (by omega) (k:=2) (by decide) (by decide)) ?_;rintro _ h7 ⟨rfl,t7⟩;have hx:(x.1,x.2.took).2.at_=x.2.at_+1:=rfl;rw[hx];simp;subst hw;by_cases c2:aG s (x.2.at_+1) 2=0
     ·rw[if_pos c2]at hid;refine aw (by simp[c2]) ?_;simp;refine hK4 _ _ ⟨min (b+1) (n-1),_,.bool true,.int .i64 (aG s (x.2.at_+1) 2),hid,by omega,t7,?_⟩;rw[hwn,show IntKind.i64.wrap ((b:Int)+1)=(b:Int)+1 from bJ (by omega) (by omega)];rw[show(if(n:Int)-1<(b:Int)+1 then(n:Int)-1 else(b:Int)+1)=((min (b+1) (n-1):Nat):Int) by split<;>omega]
     rw[if_neg c2]at hid;refine au (by simp[c2]) ?_;simp;refine hK4 _ _ ⟨(1+q).toNat,_,.bool true,.int .i64 (aG s (x.2.at_+1) 2),hid,by omega,t7,?_⟩;rw[show(((1+q).toNat:Nat):Int)=1+q by omega]
    rw[if_neg c1]at hid;simp[c1];subst hw;refine au (by simp) ?_;simp;refine hK4 _ _ ⟨(1+q).toNat,_,.bool false,undef,hid,by omega,t6,?_⟩;rw[show(((1+q).toNat:Nat):Int)=1+q by omega]
   rintro _ h7 ⟨t,m',v0,v,e,ht,t7,rfl⟩;subst hy;obtain⟨vr,hvr,put⟩:=t7.put (p:=b) (b:=t) (by show b<x.1.length;omega) (by have:=kx3.row b;show(nth x.1 b).length<=_;omega) (by omega);have hix:=t7.idx (k:=.i64) (i:=b) (by omega) (by show(b:Int)<x.1.length;omega);simp only[LY]at hix;simp[hix,hvr];refine put rfl (fun _=>rfl) (fun _=>rfl) (fun _ _=>rfl) (fun _ _=>rfl) fun u v' h8 t8=>?_;exact hK3 () _ _ rfl rfl (by rw[e];exact t8)
  rintro _ h5 t5;simp;refine hK2 () _ _ rfl rfl (by rw[hbd];exact t5)
 rintro _ h3 t3;rw[<-htd]at t3;simp;subst hz;simp;refine hK _ _ ?_;obtain⟨W',o,rv,g,w,q⟩:=t3;obtain⟨W2,g2,w2,fr⟩:=w.own.sK (fun k=>decide (3<=k.1)&&decide (k.1<8));obtain⟨vb,vl,lb,bb⟩:=w.box;refine⟨W2,_,View.le_trans g g2,⟨w2,w.src.mono g2,vb,vl,lb,bb.frame fun k hk=>?_⟩,?_,fun k hk h8=>by simp[hk,h8],?_⟩
 ·have:¬3<=k.1:=by omega
  simp[this]
 ·intro k hk;have h1:3<=k.1:=by omega
  have h2:¬k.1<8:=by omega
  simp[h2];exact q.res k hk
 refine mq (fr (k:=(3,0)) (by decide) q.top) rfl q.len fun i h1 h2 cs hr=>?_;obtain⟨e,_⟩:cs=[(rv[i]).v]/\_:=hr;refine⟨_,e,?_⟩;have:=fr (k:=(4,i)) (by simp) (q.row i h2);rwa [ak h1,ak h2]at this
end Go.Proofs.YtbkdlhkoiagbbaaGreat
namespace Go.Proofs.YtbkdlhkoiagbbaaGreat
open Go Go.Lft
section
structure Grw (b k:Nat) (m m':MS):Prop where
 at0:m.at_<=m'.at_
 at1:m'.at_<=m.at_+k
 n0:m.next<=m'.next
 n1:m'.next<=m.next+k
 ps:m'.ps=m.ps
 live:m'.live.length<=m.live.length+k
 len:m'.blocks.length=m.blocks.length
 els : ∀i,i≠b->nth m'.blocks i=nth m.blocks i
 ins:(nth m'.blocks b).ins.length<=(nth m.blocks b).ins.length+k
 phis:(nth m'.blocks b).phis=(nth m.blocks b).phis
 term:(nth m'.blocks b).term=(nth m.blocks b).term
variable {s:List Int} {m m' m2:MS} {b c k l:Nat}
theorem Grw.refl:Grw b 0 m m:=⟨LG _,LG _,Oa _,by omega,rfl,LG _,rfl,fun _ _=>rfl,LG _,rfl,rfl⟩
theorem Grw.trans (g:Grw b k m m') (h:Grw b l m' m2):Grw b (k+l) m m2:=
 ⟨L9 g.at0 h.at0,by have:=g.at1;have:=h.at1;omega,Int.le_trans g.n0 h.n0,by have:=g.n1;have:=h.n1;omega,h.ps.trans g.ps,by have:=g.live;have:=h.live;omega,h.len.trans g.len,fun i hi=>(h.els i hi).trans (g.els i hi),by have:=g.ins;have:=h.ins;omega,h.phis.trans g.phis,h.term.trans g.term⟩
theorem Grw.mono(g:Grw b k m m')(h:k<=l):Grw b l m m':=
 ⟨g.at0,by have:=g.at1;omega,g.n0,by have:=g.n1;omega,g.ps,by have:=g.live;omega,g.len,g.els,by have:=g.ins;omega,g.phis,g.term⟩
theorem Grw.took (g:Grw b k m m'):Grw b (k+1) m m'.took:=g.trans ⟨by show _<=m'.at_+1;omega,LG _,Oa _,by show m'.next<=_;omega,rfl,by show m'.live.length<=_;omega,rfl,fun _ _=>rfl,by show(nth m'.blocks b).ins.length<=_;omega,rfl,rfl⟩
theorem Grw.aJ (g:Grw b k m m'):Grw b (k+1) m m'.aJ:=g.trans ⟨LG _,by show m'.at_<=_;omega,by show _<=m'.next+1;omega,Oa _,rfl,by show m'.live.length<=_;omega,rfl,fun _ _=>rfl,by show(nth m'.blocks b).ins.length<=_;omega,rfl,rfl⟩
theorem Grw.add {i:InsD} (hb:b<m.blocks.length) (g:Grw b k m m'):Grw b (k+2) m (m'.add b i):=by
 have hb':b<m'.blocks.length:=by rw[g.len];exact hb
 have e:nth (m'.add b i).blocks b={ nth m'.blocks b with ins:=(nth m'.blocks b).ins++[i] }:=by show nth (m'.blocks.set b _) b=_;rw[aF hb',if_pos rfl]
 refine g.trans ⟨LG _,by show m'.at_<=_;omega,Oa _,by show m'.next<=_;omega,rfl,?_,mB,fun j hj=>?_,?_,by rw[e],by rw[e]⟩
 ·show(m'.live++dc i).length<=_;have h2:(dc i).length<=2:=by
   unfold dc;repeat' split
   all_goals simp
  rw[LH];omega
 ·show nth (m'.blocks.set b _) j=_;rcases LI j m'.blocks.length with hl | hl
  ·rw[aF hl,if_neg (fun e=>hj e.symm)]
  rw[cB (by simpa using hl),cB hl]
 rw[e];show((nth m'.blocks b).ins++[i]).length<=_;rw[LH,LJ];omega
theorem Grw.constant {n:Int} (hb:b<m.blocks.length) (g:Grw b k m m'):Grw b (k+3) m (m'.constant b n):=g.aJ.add hb
theorem Grw.two {op x y:Int} (hb:b<m.blocks.length) (g:Grw b k m m'):Grw b (k+3) m (m'.two b op x y):=g.aJ.add hb
theorem Grw.ka(hb:b<m.blocks.length)(g:Grw b k m m'):Grw b (k+10) m (aK s m' b).2:=by
 unfold aK;repeat' split
 ·exact(g.took.took.constant hb).mono (by omega)
 ·exact(g.took.took.took.took.took.constant hb).mono (by omega)
 exact(g.took.took.took).mono (by omega)
theorem Grw.addr(hb:b<m.blocks.length)(g:Grw b k m m'):Grw b (k+30) m (nT s m' b).2:=by
 unfold nT;simp only;split
 ·exact(((((g.took.constant hb).took.ka hb).constant hb).two hb).two hb).mono (by omega)
 exact((g.took.constant hb).took).mono (by omega)
theorem Grw.off(g:Grw b k m m'):Grw b (k+4) m (offS s m').2:=by
 unfold offS;split
 ·exact g.took.took.took.took
 exact g.took.took.mono (by omega)
theorem Grw.memory{st:Bool}(hb:b<m.blocks.length)(g:Grw b k m m'):Grw b (k+60) m (jw s m' b st):=by
 unfold jw;simp only;split
 ·exact((((g.addr hb).off.ka hb)).add hb).mono (by omega)
 exact(((g.addr hb).off.aJ).add hb).mono (by omega)
theorem Grw.bin{op:Int}(hb:b<m.blocks.length)(g:Grw b k m m'):Grw b (k+60) m (binS s m' b op):=by
 unfold binS;simp only;split
 ·exact((((g.ka hb).ka hb).took.took.constant hb).two hb).mono (by omega)
 exact(((g.ka hb).ka hb).took.two hb).mono (by omega)
theorem Grw.div(hb:b<m.blocks.length)(g:Grw b k m m'):Grw b (k+60) m (divS s m' b):=by
 unfold divS;simp only;split
 ·exact((((g.ka hb).took.constant hb).took.took.constant hb).two hb).mono (by omega)
 exact(((g.ka hb).took.constant hb).took.two hb).mono (by omega)
theorem Grw.args (hb:b<m.blocks.length) {x:List Int × MS} (g:Grw b k m x.2) : ∀n,Grw b (k+10*n) m (up (iR s b) n x).2
 | 0=>g
 | n+1=>((Grw.args hb g n).ka hb).mono (by omega)
theorem Grw.call(hb:b<m.blocks.length)(g:Grw b k m m'):Grw b (k+70) m (nZ s m' b):=by unfold nZ;simp only;have ht:=cc (s:=s) (at_:=m'.at_) (n:=5) (by decide);have g2:=Grw.args (s:=s) hb (x:=([],m'.took)) g.took (aG s m'.at_ 5).toNat;exact(g2.aJ.took.add hb).mono (by omega)
theorem Grw.jJ(hb:b<m.blocks.length)(g:Grw b k m m'):Grw b (k+80) m (aQ s b m'):=by
 unfold aQ;simp only;repeat' split
 ·exact(g.took.bin hb).mono (by omega)
 ·unfold ltuS;exact(((g.took.ka hb).ka hb).two hb).mono (by omega)
 ·exact(g.took.div hb).mono (by omega)
 ·exact(g.took.memory hb).mono (by omega)
 ·exact(g.took.call hb).mono (by omega)
 ·unfold xI;exact(((g.took.ka hb).ka hb).aJ.aJ.add hb).mono (by omega)
 exact(g.took.took.took.constant hb).mono (by omega)
theorem Grw.jh (hb:b<m.blocks.length) (g:Grw b k m m') : ∀n,Grw b (k+80*n) m (up (fun _=>aQ s b) n m')
 | 0=>g
 | n+1=>((Grw.jh hb g n).jJ hb).mono (by omega)
theorem Grw.II{to:List Int}(hb:b<m.blocks.length)(g:Grw b k m m'):Grw b (k+40) m (jd s to b m').2:=by
 unfold jd;simp only;repeat' split
 ·exact g.took.took.mono (by omega)
 ·exact(g.took.ka hb).mono (by omega)
 ·exact g.took.mono (by omega)
 ·exact g.mono (by omega)
 ·exact((((g.ka hb).took.ka hb)).aJ.took.add hb).mono (by omega)
 ·exact(g.ka hb).took.mono (by omega)
 exact(((g.ka hb).constant hb).two hb).mono (by omega)
def MS.f (m:MS):an:=⟨m.ps,m.blocks⟩
def MS.gO (m:MS) (b:Nat) (l:List Int):MS:={ m with blocks:=m.blocks.set b { nth m.blocks b with term:={ (nth m.blocks b).term with to:=l } } }
def iO (s:List Int) (m:MS) (b:Nat):Int:=
 if 1<(bf m.f b).length then aG s m.at_ 4 else if aG s m.at_ 6=0 then 1 else 0
def fS (b:Nat) (m:MS):MS:={ m.aJ with blocks:=m.blocks.set b { nth m.blocks b with phis:=(nth m.blocks b).phis++[⟨m.next,[]⟩] } }
def fW (s:List Int) (k:Nat) (x:List Int × MS):List Int × MS:=
 (x.1.set (k+1) (iO s x.2 (k+1)),up (fun _=>fS (k+1)) (iO s x.2 (k+1)).toNat x.2.took)
def p8 (f:an) (n:Nat):List BL:=rows (fun a=>dw f (a:Int)) n
def sr (dn:BL) (away:List BL) (b n:Nat):Bool:=up (fun a r=>r&&(decide (a=b)||nth dn a||nth (nth away a) b)) n (!nth dn b)
def jq (m:MS) (dn:BL) (away:List BL) (b:Nat) (a:Nat) (l:List Int):List Int:=
 if decide (a≠b)&&(!nth dn a||nth (nth away a) b) then l
 else l++(nth m.blocks a).phis.map PhiD.dst++(nth m.blocks a).ins.flatMap dc
def mo (m:MS) (dn:BL) (away:List BL) (b n:Nat):List Int:=up (jq m dn away b) n (rows (fun i=>(i:Int)) m.ps.toNat)
def jx (s:List Int) (to:List (List Int)) (n:Nat) (dn:BL) (away:List BL) (b:Nat) (m:MS):MS:=
 let m1:MS:={ m with live:=mo m dn away b n }
 pq s (nth to b) b (up (fun _=>aQ s b) (aG s m1.at_ 7).toNat m1.took)
def cf (s:List Int) (to:List (List Int)) (n:Nat) (b:Nat) (x:BL × MS):BL × MS:=
 if sr x.1 (p8 x.2.f n) b n then(x.1.set b true,jx s to n (x.1.set b true) (p8 x.2.f n) b x.2) else x
def dT (s:List Int) (p:List Int) (k:Nat) (x:List InD × MS):List InD × MS:=
 let b:=(nth p k).toNat
 let l:=jj x.2.f b
 let r:List Int × MS:=if l.length=0 then([x.2.next],x.2.took.took.constant b (kS s x.2)) else(l,x.2)
 (x.1++[⟨nth p k,nth r.1 (aG s r.2.at_ r.1.length).toNat⟩],r.2.took)
def MS.rq (m:MS) (b i:Nat) (l:List InD):MS:={ m with blocks:=m.blocks.set b { nth m.blocks b with phis:=(nth m.blocks b).phis.set i { nth (nth m.blocks b).phis i with ins:=l } } }
def phi3 (s:List Int) (b:Nat) (p:List Int) (i:Nat) (m:MS):MS:=(up (dT s p) p.length ([],m)).2.rq b i (up (dT s p) p.length ([],m)).1
def blk3 (s:List Int) (phis:List Int) (k:Nat) (m:MS):MS:=up (phi3 s (k+1) (bf m.f ((k+1:Nat):Int))) (nth phis (k+1)).toNat m
def uO (s:List Int):MS:=⟨2,aG s 0 5,[],aG s 0 5,[]⟩
def bC (s:List Int):Nat:=(1+aG s 1 9).toNat
def jl (s:List Int):TgS:=oY s (bC s) (uO s)
def rP:BlkD:=⟨[],[],⟨0,[],[],⟨0⟩⟩⟩
def rH (s:List Int):MS:=up (fun b m=>m.gO b (nth (jl s).1 b)) (bC s) { (jl s).2 with blocks:=List.replicate (bC s) rP }
def jX (s:List Int):List Int × MS:=up (fW s) (bC s-1) (List.replicate (bC s) 0,rH s)
def xX (s:List Int):BL × MS:=up (fun _=>up (cf s (jl s).1 (bC s)) (bC s)) (bC s) (List.replicate (bC s) false,(jX s).2)
def oC (s:List Int):MS:=up (blk3 s (jX s).1) (bC s-1) (xX s).2
def qS (s:List Int):an:=(oC s).f
end
section
variable {s:List Int} {M:Nat} {vs:Value} {W0:View} {h:Heap} {o0:Own} {m:MS} {u:Value} {ds:List Int}
structure Reads (M:Nat) (m:MS) (h:Heap) (vb vl:Value):Prop where
 ps:ao (vw h) ⟨M,2,none⟩=some (.int .i64 m.ps)
 nx:ao (vw h) ⟨M,4,none⟩=some (.int .i64 m.next)
 cb:ao (vw h) ⟨M,3,none⟩=some vb
 cl:ao (vw h) ⟨M,5,none⟩=some vl
 f:Un.ev (vw h) (.al 2) (.pointer (some ⟨M,2,none⟩))=some (.agg #[.int .i64 m.ps,vb])
 blk:SlRd (vw h) vb m.blocks
 live:SlRd (vw h) vl m.live
theorem Reads.rd{vb vl:Value}(r:Reads M m h vb vl)(hp:I64 m.ps):Rd (vw h) (.agg #[.int .i64 m.ps,vb]) m.f:=⟨_,rfl,[.int .i64 m.ps],[vb],rfl,⟨rfl,hp⟩,vb,rfl,r.blk⟩
theorem Mk.reads{W:View}{o:Own}(w:Mk s M vs W h o m){vb vl:Value}{lb:List BlkM}(bb:MkB M vs m o vb vl lb):Reads M m h vb vl:=by
 have c2:ao (vw h) ⟨M,2,none⟩=some (.int .i64 m.ps):=bb.cell w.own (i:=2) (by decide);have c3:ao (vw h) ⟨M,3,none⟩=some vb:=bb.cell w.own (i:=3) (by decide);refine⟨c2,bb.cell w.own (i:=4) (by decide),c3,bb.cell w.own (i:=5) (by decide),?_,?_,w.own.now bb.live⟩
 ·have hat:=w.own.dI bb.box;obtain⟨cs,⟨cur,e,fz,g1,g2,g3⟩,he,_⟩:=w.own.atW bb.box;have:gj (vw h) ⟨M,2,none⟩ [.int .i64 m.ps,vb]:=⟨cur,e,fz,rfl,g2,by
   have g3:(cur.toList.drop 0).take cs.length=cs:=g3;have he:cs=mkL vs m.at_ m.ps vb m.next vl:=he;rw[NM]at g3;have hd:cs.drop 2=(cur.toList.drop 2).take (cs.length-2):=by have:=congrArg (List.drop 2) g3;rw[Nk]at this;exact this.symm
   have hl:cs.length=6:=by rw[he];rfl
   have h2:(cs.drop 2).take 2=(cur.toList.drop 2).take 2:=by rw[hd,hl,M9];rfl
   show(cur.toList.drop 2).take 2=_;rw[<-h2,he];rfl⟩;have:=gz this 2 0 #[] rfl;simp only[Un.ev,vP,L3];rw[this];simp
 refine mq (w.own.now bb.blk) rfl bb.len fun i h1 h2 cs hr=>?_;have:=AR hr (p:=(nth m.blocks i).phis) (i:=(nth m.blocks i).ins) (by have:=w.own.now (bb.phis i h2);rwa [ak h1]at this) (by have:=w.own.now (bb.ins i h2);rwa [ak h1]at this);have ht:=bb.term i h2;rw[ak h1]at ht;rw[ht]at this;rw[<-ak h2];exact this
theorem Nz.reads (n:Nz s M vs W0 h o0 m u ds) : ∃vb vl,Reads M m h vb vl:=by obtain⟨W,o,g,w,f,sl⟩:=n;obtain⟨vb,vl,lb,bb⟩:=w.box;exact⟨vb,vl,w.reads bb⟩
theorem Nz.at{α:Type}[Rep α](n:Nz s M vs W0 h o0 m u ds){k:Key}(h3:3<=k.1){e:TypeId}{v:Value}{l:List α}(hk:o0 k=it e v l):SlRd (vw h) v l:=by obtain⟨W,o,g,w,f,sl⟩:=n;exact w.own.now ((f k h3).trans hk)
end
end Go.Proofs.YtbkdlhkoiagbbaaGreat
