/- A part of the proof: Mn, Mo, Mp, Mq, Mr, Ms, Mt, Mu, Mv, Mw, Mx, My, Mz, Na, Nb, Nc, Da, Db, Dd, Ea, Ec, Ed, Ee. -/
import Derived.Test.YtbkdlhkoiagbbaaGreatZSTells4
set_option linter.unusedSimpArgs false
set_option linter.unusedVariables false
namespace Go.Proofs.YtbkdlhkoiagbbaaGreat
open Go Go.Lft
theorem BlkM.tY:Part BlkM (List Int) 4 (fun d=>d.term.to) (fun d x=>{ d with term:={ d.term with to:=x } }):=(Part.snd (Part.snd ((Part.snd (Part.snd (Part.fst Part.all))).via (α:=Cat Int (Cat (List Int) (Cat (List Int) I32))) (f:=fun d:da=>Cat.mk d.kind (Cat.mk d.args (Cat.mk d.to d.imm))) (g':=da.to) (s':=fun d x=>{ d with to:=x }) (fun _=>rfl) fun _ _=>rfl))).via (fun _=>rfl) fun _ _=>rfl
section
variable {s:List Int} {M:Nat} {vs:Value} {W0:View} {h:Heap} {o0:Own} {m:MS} {u:Value} {ds:List Int}
variable{po:OP}{ty:TypeId}{us:List (Nat × Value)}
theorem Nz.Ie{α:Type}[r:Rep α](n:Nz s M vs W0 h o0 m u ds){k:Key}{e:TypeId}{i:Nat}{v:Value}{l:List α}{t:TypeId}{x y:Operand}{d:α}{w:Value}{K:Value->Heap->Prop}(h3:3<=k.1)(hk:o0 k=it e v l)(hi:i<l.length)(hsz:cC Tryz.prog t=some (Rep.n α))(hx:asg us x = .pointer (some ((slA v).add (i*Rep.n α))))(hy:asg us y=w)(hr : ∀W,Rd W w d)(hK : ∀h',Nz s M vs W0 h' (o0.upd k (it e v (l.set i d))) m u ds->K undef h'):@Lft.step po Tryz.prog (.store t x y) ty us h K:=by
 obtain⟨W,o,g1,wk,f,sl⟩:=n;refine wk.own.ky (k:=k) (v:=v) (l:=l) (i:=i) (d:=d) ((f k h3).trans hk) hsz hx hy hi (hr W) fun h' w' _=>hK h' ?_;obtain⟨vb,vl,lb,bb⟩:=wk.box;refine⟨W,_,g1,⟨w',wk.src,vb,vl,lb,bb.frame fun q hq=>Own.ab (by rintro rfl;omega)⟩,fun q hq=>?_,sl⟩;unfold Own.upd;split
 ·rfl
 exact f q hq
variable{W:View}{vb:Value}{lb:List BlkM}{b:Nat}{ty2:TypeId}
theorem Mk.Db{o:Own}(w:Mk s M vs W h o m){vl:Value}(bb:MkB M vs m o vb vl lb){l:List Int}{v:Value}{x y:Operand}{K:Value->Heap->Prop}(hb:b<m.blocks.length)(hsz:cC Tryz.prog ty2=some 1)(hx:asg us x = .pointer (some (((slA vb).add (b*6)).add 4)))(hy:asg us y=v)(hr:SlRd W v l)(hK : ∀h' o',Mk s M vs W h' o' (m.gO b l)->(∀k:Key,3<=k.1->o' k=o k)->K undef h'):@Lft.step po Tryz.prog (.store ty2 x y) ty us h K:=by
 have hbl:b<lb.length:=by rw[bb.len];exact hb
 refine w.own.je (k:=(0,2)) (α:=BlkM) BlkM.tY (v:=vb) (l:=lb) (i:=b) (d:=l) bb.blk hsz hx hy hbl (fy.2 hr) fun h7 w7 _=>?_;have ht:=bb.term b hb;rw[ak hbl]at ht;refine hK h7 _ ⟨w7,w.src,vb,vl,_,bb.bj hb (x':={ nth m.blocks b with term:={ (nth m.blocks b).term with to:=l } }) (y':={ lb[b]with term:={ lb[b].term with to:=l } }) (by rw[<-ht]) Own.af ?_ ?_ fun q h1 _ _=>Own.ab h1⟩ (ni (by decide))
 ·rw[Own.ab (by simp),bb.phis b hb,ak hbl]
 rw[Own.ab (by simp),bb.ins b hb,ak hbl]
end
theorem rj {to:List (List Int)} {m:MS} : ∀k,(up (fun b m=>MS.gO m b (nth to b)) k m).blocks.length=m.blocks.length
 | 0=>rfl
 | k+1=>by show(List.set _ _ _).length=_;rw[LN];exact rj k
variable{M n:Nat}{vs vt vr:Value}{W0:View}{o0:Own}{to:List (List Int)}{Q:Post}{ρ:Env}
theorem Im{s:List Int}{h:Heap}{m:MS}(hto:SlRd W0 vt to)(hn:to.length=n)(x:Nx s M vs W0 h o0 m)(hlen:m.blocks.length=n)(hn2:n<=100)(h0:aZ [2,3,4,5,6] ρ=[(2,vr),(3,.pointer (some ⟨M,0,none⟩)),(4,.int .i64 n),(5,vt),(6,.int .i64 0)])(hQ : ∀h',Nx s M vs W0 h' o0 (up (fun b m=>m.gO b (nth to b)) n m)->Q .normal [(2,vr),(3,.pointer (some ⟨M,0,none⟩)),(4,.int .i64 n),(5,vt),(6,.int .i64 n)] h'):
  LC.wp Tryz.prog (.block 0 (.loop L.ax.l1)) Q ρ h:=by
 simp only[aR];refine aO [2,3,4,5,6] (fun(_:Unit) k=>[vr,.pointer (some ⟨M,0,none⟩),.int .i64 n,vt,.int .i64 k]) (fun _ k h2=>Nx s M vs W0 h2 o0 (up (fun b m=>m.gO b (nth to b)) k m)) n ()
  rfl (by omega) h0 x (fun _ _=>rfl) (fun v k h2 hk m=>by simp) ?_ ?_
 ·rintro _ b h2 hlt x2 K2 hK2;have hlb:(up (fun b m=>MS.gO m b (nth to b)) b m).blocks.length=n:=(rj b).trans hlen;have e2:up (fun b m=>MS.gO m b (nth to b)) (b+1) m=(up (fun b m=>MS.gO m b (nth to b)) b m).gO b (nth to b):=rfl;rw[e2]at hK2;generalize up (fun b m=>MS.gO m b (nth to b)) b m=m2 at x2 hK2 hlb;obtain⟨rv,hrv⟩:=hto.rows;obtain⟨hr1,hr2⟩:=hrv b (by omega);obtain⟨W,o,g,w,f⟩:=x2;obtain⟨vb,vl,lb,bb⟩:=w.box;have rd:=w.reads bb;have ito:=(hto.mono g).mono w.own.wle;simp only[aR];refine bF (vw h2) (View.le_refl _) ?_;simp(disch:=omega)[rd.cb,rd.blk.idxn (N:=6) rfl,ito.idx1 rfl,hr1 _ (View.le_trans g w.own.wle)];refine w.Db bb (b:=b) (l:=nth to b) (by omega) (by kernel_rfl) rfl rfl (hr2.mono g) fun h3 o3 w3 f3=>?_;exact hK2 () _ _ rfl rfl ⟨W,o3,g,w3,fun k hk=>(f3 k hk).trans (f k hk)⟩
 rintro _ h2 x2;exact hQ h2 x2
theorem sub_le{H K L:View}(h:H.sub K)(k:K.le L):H.sub L:=fun b o hb=>by obtain⟨o',h1,h2⟩:=h b o hb;exact⟨o',k _ _ h1,h2⟩
variable{W:View}
theorem Owns.E3{h:Heap}{o:Own}{k:Key}{B:Nat}{e:TypeId}{l:List Value}(w:Owns W h o)(hk:o k=bx e B (RawN.mk (n:=n) l)): ∃cur,h[B]? = some (.cells cur e (0,0))/\∃r,cur.toList=l++r:=by
 obtain⟨hb,xs,⟨hl,hown⟩,hel⟩:=w.get (k:=k) (v:=.slice (some ⟨B,0,none⟩) 1 1) (l:=[RawN.mk (n:=n) l]) hk;have h0:=hel 0 (by simp);simp only[Ny,NM,NJ,LJ,OB]at h0 hl;rw[LV (by omega)]at h0;obtain⟨h0,_,_⟩:xs=l/\_:=h0;subst h0;rcases hown with⟨h1,_⟩ | ⟨g,cap,cur,h1,h2,h3,h4,h5,h6⟩
 ·cases h1
 simp only[Value.slice.injEq,LF,Addr.mk.injEq]at h1;obtain⟨⟨rfl,_⟩,_⟩:=h1;refine⟨cur,h2,cur.toList.drop (1*Rep.n (RawN n)),?_⟩;have h6:cur.toList.take (1*Rep.n (RawN n))=xs:=by simpa using h6
 rw[<-h6,NB]
section
variable {s:List Int} {M:Nat} {vs:Value} {W:View} {h:Heap} {o:Own} {m:MS} {vb vl:Value} {lb:List BlkM}
theorem MkB.FQ(w:Owns W h o)(bb:MkB M vs m o vb vl lb): ∃H:View,H.sub (vw h)/\ao H ⟨M,3,none⟩=some vb/\SlRd H vb lb/\
  ∀h2 o2,Owns W h2 o2->MkB M vs m.aJ o2 vb vl lb->(∀X:View,X.le (vw h)->X M=none->X.le (vw h2))->∃X:View,H.sub X/\W.le X/\X.le (vw h2)/\SlRd X vb lb/\∀i,i<m.blocks.length->Av X (nth lb i).phis.v:=by
 obtain⟨cur,hM,r,hr⟩:=Owns.E3 w bb.box;have aM:=w.av (0,0) _ bb.box;have aM:W M=none:=aM M rfl;have avb:=w.av (0,2) _ bb.blk;have hne : ∀b,vb.ownBlock=some b->b≠M:=fun b hb e=>by have:=w.dj (0,2) (0,0) _ _ b bb.blk bb.box hb (by rw[e];rfl);simp at this
 obtain⟨w6,s6⟩:=w.freeze bb.blk;have hYM:(W.plus vb h) M=none:=by unfold View.plus;rw[if_neg (fun e=>hne M e rfl)];exact aM
 have hYle:(W.plus vb h).le (vw h):=w6.wle;let P:Obj:=.cells #[vs,.int .i64 m.at_,.int .i64 m.ps,vb] T.aN (0,0);have hpre : ∀{c:Array Value} {r:List Value} {nx:Int},c.toList=mkL vs m.at_ m.ps vb nx vl++r->(Obj.cells c T.aN (0,0)=P\/∃c1 c2 t fz,P = .cells c1 t fz/\Obj.cells c T.aN (0,0) = .cells c2 t fz/\∃r:List Value,c2.toList=c1.toList++r):=fun{c r nx} hc=>.inr ⟨_,c,_,_,rfl,rfl,[.int .i64 nx,vl]++r,by rw[hc];rfl⟩;refine⟨fun b=>if b=M then some P else(W.plus vb h) b,fun b x hb=>?_,?_,?_,fun h2 o2 w2 b2 keep=>?_⟩
 ·dsimp only at hb;split at hb
  ·rename_i e;cases hb;subst e;exact⟨_,hM,hpre hr⟩
  exact⟨x,hYle b x hb,.inl rfl⟩
 ·simp[ao,P]
 ·refine s6.mono fun b x hb=>?_;show(if b=M then some P else(W.plus vb h) b)=_;rw[if_neg]
  ·exact hb
  rintro rfl;rw[hYM]at hb;cases hb
 obtain⟨cur2,hM2,r2,hr2⟩:=Owns.E3 w2 b2.box;have hY2:=keep _ hYle hYM;refine⟨fun b=>if b=M then h2[M]? else(W.plus vb h) b,fun b x hb=>?_,fun b x hb=>?_,fun b x hb=>?_,s6.mono fun b x hb=>?_,fun i hi b hb=>?_⟩
 ·dsimp only at hb;split at hb
  ·rename_i e;cases hb;subst e;exact⟨_,by simp[hM2],hpre hr2⟩
  rename_i e;exact⟨x,by simpa[e]using hb,.inl rfl⟩
 ·have e:b≠M:=by rintro rfl;rw[aM]at hb;cases hb
  show(if b=M then h2[M]? else(W.plus vb h) b)=_;rw[if_neg e];exact eD avb b x hb
 ·dsimp only at hb;split at hb
  ·rename_i e;subst e;exact hb
  exact hY2 b x hb
 ·have e:b≠M:=by rintro rfl;rw[hYM]at hb;cases hb
  show(if b=M then h2[M]? else(W.plus vb h) b)=_;rw[if_neg e];exact hb
 have e:b≠M:=fun e=>by have:=w.dj (1,i) (0,0) _ _ b (bb.phis i hi) bb.box hb (by rw[e];rfl);simp at this
 show(if b=M then h2[M]? else(W.plus vb h) b)=_;rw[if_neg e];exact w6.av (1,i) _ ((Own.ab (by simp)).trans (bb.phis i hi)) b hb
theorem Mk.Jf(w:Mk s M vs W h o m)(bb:MkB M vs m o vb vl lb)(h0:0<=m.next)(h1:m.next<=1000000000):
  az Tryz.prog N.bN #[.pointer (some ⟨M,0,none⟩)] h (fun u h'=>u = .int .i64 m.next/\∃o',Mk s M vs W h' o' m.aJ/\MkB M vs m.aJ o' vb vl lb/\(∀k:Key,3<=k.1->o' k=o k)/\∀X:View,X.le (vw h)->X M=none->X.le (vw h')):=by refine(Ap w.own bb.box h0 h1).mono ?_;rintro u h' ⟨rfl,w2,keep⟩;exact⟨rfl,_,⟨w2,w.src,vb,vl,lb,bb.at⟩,bb.at,ni (by decide),keep⟩
end
theorem Nz.ext{s:List Int}{M:Nat}{vs:Value}{W0:View}{h h':Heap}{o0:Own}{m:MS}{u:Value}{ds:List Int}(n:Nz s M vs W0 h o0 m u ds)(hle:(vw h).le (vw h')):Nz s M vs W0 h' o0 m u ds:=by obtain⟨W,o,g,w,f,sl⟩:=n;exact⟨W,o,g,⟨w.own.ext' hle,w.src,w.box⟩,f,sl⟩
structure Sz (n a p i:Nat) (m:MS):Prop where
 at_:m.at_<=a
 n0:0<=m.next
 next:m.next<=a
 live:m.live.length<=a
 ps0:0<=m.ps
 ps1:m.ps<=4
 len:m.blocks.length=n
 phis : ∀j,(nth m.blocks j).phis.length<=p
 ins : ∀j,(nth m.blocks j).ins.length<=i
theorem Sz.mono{n a p i a' p' i':Nat}{m:MS}(z:Sz n a p i m)(h1:a<=a')(h2:p<=p')(h3:i<=i'):Sz n a' p' i' m:=
 ⟨L9 z.at_ h1,z.n0,by have:=z.next;omega,L9 z.live h1,z.ps0,z.ps1,z.len,fun j=>L9 (z.phis j) h2,fun j=>L9 (z.ins j) h3⟩
theorem Sz.ok {n a p i:Nat} {m:MS} (z:Sz n a p i m) (h:i<=a):m.ok a:=⟨z.at_,z.n0,z.next,z.live,fun j=>L9 (z.ins j) h⟩
theorem Sz.took {n a p i:Nat} {m:MS} (z:Sz n a p i m):Sz n (a+1) p i m.took:=⟨by have:=z.at_;show m.at_+1<=_;omega,z.n0,by have:=z.next;show m.next<=_;omega,by have:=z.live;show m.live.length<=_;omega,z.ps0,z.ps1,z.len,z.phis,z.ins⟩
variable{b:Nat}
theorem Sz.bj{a p i:Nat}{m:MS}(z:Sz n a p i m){x:BlkD}(h1:x.phis.length<=p)(h2:x.ins.length<=i):Sz n a p i { m with blocks:=m.blocks.set b x }:=by
 refine⟨z.at_,z.n0,z.next,z.live,z.ps0,z.ps1,by show(m.blocks.set b x).length=_;rw[LN];exact z.len,fun j=>?_,fun j=>?_⟩;all_goals
  show List.length (α:=_) _<=_
  rcases LI j m.blocks.length with hl | hl
  ·simp only[aF hl]
   split
   ·assumption
   ·first | exact z.phis j | exact z.ins j
  ·first
    | (have:=z.phis j;rw[cB hl]at this;rw[cB (by simpa using hl)];exact this)
    | (have:=z.ins j;rw[cB hl]at this;rw[cB (by simpa using hl)];exact this)
theorem Sz.fS {n a p i b:Nat} {m:MS} (z:Sz n a p i m):Sz n (a+1) (p+1) i (fS b m):=by have h1:Sz n (a+1) (p+1) i m.aJ:=⟨by have:=z.at_;show m.at_<=_;omega,by have:=z.n0;show 0<=m.next+1;omega,by have:=z.next;show m.next+1<=_;omega,by have:=z.live;show m.live.length<=_;omega,z.ps0,z.ps1,z.len,fun j=>by have:=z.phis j;show(nth m.blocks j).phis.length<=_;omega,z.ins⟩;exact h1.bj (b:=b) (x:={ nth m.blocks b with phis:=(nth m.blocks b).phis++[⟨m.next,[]⟩] }) (by have:=z.phis b;show((nth m.blocks b).phis++[_]).length<=_;rw[LH,LJ];omega) (z.ins b)
theorem Sz.pG {n a p i b:Nat} {m:MS} (z:Sz n a p i m) : ∀k,Sz n (a+k) (p+k) i (up (fun _=>Go.Proofs.YtbkdlhkoiagbbaaGreat.fS b) k m)
 | 0=>z
 | k+1=>(Sz.pG z k).fS
section
variable {s:List Int} {M:Nat} {vs:Value} {W0:View} {h:Heap} {o0:Own} {m:MS}
variable{vp:Value}{lp:List Int}
theorem HT{a p i cnt:Nat}{vq:Value}(x:Nx s M vs W0 h o0 m)(hk:o0 (5,0)=it T.int vp lp)(z:Sz n a p i m)(hb:b<n)(hlp:lp.length=n)(hcnt:nth lp b=cnt)(hc:cnt<=10)(hn:n<=100)(ha:a<=100000)(hp:p<=100000)(h0:aZ [2,3,4,5,7,8,9,10] ρ=[(2,vr),(3,.pointer (some ⟨M,0,none⟩)),(4,.int .i64 n),(5,vt),(7,vp),(8,.int .i64 b),(9,vq),(10,.int .i64 0)])(hQ : ∀h',Nx s M vs W0 h' o0 (up (fun _=>fS b) cnt m)->Q .normal [(2,vr),(3,.pointer (some ⟨M,0,none⟩)),(4,.int .i64 n),(5,vt),(7,vp),(8,.int .i64 b),(9,vq),(10,.int .i64 cnt)] h'):
  LC.wp Tryz.prog (.block 4 (.loop L.ax.l3)) Q ρ h:=by
 simp only[aR];refine aO [2,3,4,5,7,8,9,10] (fun(_:Unit) k=>[vr,.pointer (some ⟨M,0,none⟩),.int .i64 n,vt,vp,.int .i64 b,vq,.int .i64 k]) (fun _ k h2=>Nx s M vs W0 h2 o0 (up (fun _=>fS b) k m)) cnt ()
  rfl (by omega) h0 x (fun _ _=>rfl) (fun v k h2 hk2 m=>by have sp:=m.z.at (by decide) hk;have e:=sp.int (View.le_refl _) (i:=b) (by omega);rw[hcnt]at e;simp(disch:=omega)[sp.idx1 rfl,e]) ?_ ?_
 ·rintro _ k h2 hlt x2 K2 hK2;have z2:=z.pG (b:=b) k;have e2:up (fun _=>fS b) (k+1) m=fS b (up (fun _=>fS b) k m):=rfl;rw[e2]at hK2;generalize up (fun _=>fS b) k m=m2 at x2 hK2 z2;have hbl:b<m2.blocks.length:=by rw[z2.len];exact hb
  obtain⟨W,o,g,w,f⟩:=x2;obtain⟨vb,vl,lb,bb⟩:=w.box;have hbb:b<lb.length:=by rw[bb.len];exact hbl
  obtain⟨H,hH,c3,sH,FQ⟩:=bb.FQ w.own;have a1:=(sH.at hbb).part BlkM.km;have a2:ao H (((slA vb).add (b*6)).add 0)=some (nth lb b).phis.v:=by rw[ak hbb];exact a1.raw
  have sb:=sH.bound;simp only[aR];refine D3 H hH ?_;simp(disch:=omega)[c3,sH.idxn (N:=6) rfl,a2];refine aj (by kernel_rfl) (w.Jf bb z2.n0 (by have:=z2.next;omega)) ?_;rintro _ h3 ⟨rfl,o3,w3,b3,f3,keep⟩;obtain⟨X,hHX,hWX,hX,sX,avX⟩:=FQ h3 o3 w3.own b3 keep;refine⟨sub_le hHX hX,?_⟩;refine aE (z:=.agg #[.int .i64 0,.slice none 0 0]) (places:=[(0,1),(1,1)]) (vs:=[(0,.int .i64 m2.next)]) (cs:=#[.int .i64 m2.next,.slice none 0 0]) (by kernel_rfl) (by kernel_rfl) (by simp) (by rfl) ?_;refine⟨sub_le hHX hX,?_⟩;have i64:I64 m2.next:=by have:=z2.n0;have:=z2.next;constructor<;>omega
  have hph:=z2.phis b;refine lg (α:=PhiD) (W:=W) (d:=⟨m2.next,[]⟩) El.gM rfl (uU i64 fo) fun u5 h5 src hle5 hs5=>⟨sub_le hHX (View.le_trans hX hle5),?_⟩;refine(w3.own.ext' hle5).bw (k:=(1,b)) (α:=PhiD) (v:=(nth lb b).phis.v) (l:=(nth m2.blocks b).phis) (l2:=[⟨m2.next,[]⟩]) (b3.phis b hbl) El.gM rfl rfl src (by simp;omega) (by simp;omega) fun v6 h6 w6 m6=>⟨sub_le hHX (m6.view (View.le_trans hX hle5) (avX b hbl)).1,?_⟩;have hv6:=(w6.cells (k:=(1,b)) Own.af).2
  refine w6.je (k:=(0,2)) (α:=BlkM) BlkM.km (v:=vb) (l:=lb) (i:=b) (d:=⟨v6⟩) b3.blk (by kernel_rfl) rfl rfl hbb (qx.2 ⟨rfl,hv6⟩) fun h7 w7 _=>?_;have b7:=b3.bj (b:=b) hbl (x':={ nth m2.blocks b with phis:=(nth m2.blocks b).phis++[⟨m2.next,[]⟩] }) (y':={ lb[b]with phis:=⟨v6⟩ }) (o':=(o3.upd (1,b) (it T.cE v6 ((nth m2.blocks b).phis++[⟨m2.next,[]⟩]))).upd (0,2) (it T.ay vb (lb.set b { lb[b]with phis:=⟨v6⟩ }))) (by rw[<-bb.term b hbl,ak hbb]) Own.af ((Own.ab (by simp)).trans Own.af) (by rw[Own.ab (by simp),Own.ab (by simp),b3.ins b hbl,ak hbb];rfl) (fun q h1 h2 h3=>by rw[Own.ab h1,Own.ab h2]);refine hK2 () _ _ rfl rfl ⟨W,_,g,⟨w7,w.src,vb,vl,_,b7⟩,fun k hk=>?_⟩;rw[Own.ab (by rintro rfl;simp at hk),Own.ab (by rintro rfl;simp at hk)];exact(f3 k hk).trans (f k hk)
 rintro _ h2 x2;exact hQ h2 x2
end
variable{po:OP}{ty:TypeId}{us:List (Nat × Value)}
theorem Nz.wm{s:List Int}{h:Heap}{m:MS}{u:Value}{ds:List Int}{α:Type}[r:Rep α](n:Nz s M vs W0 h o0 m u ds){k:Key}{e:TypeId}{i:Nat}{v:Value}{l:List α}{t:TypeId}{x y:Operand}{d:α}{w:Value}{K:Value->Heap->Prop}(h1:Rep.n α=1)(h3:3<=k.1)(hk:o0 k=it e v l)(hi:i<l.length)(hsz:cC Tryz.prog t=some 1)(hx:asg us x = .pointer (some ((slA v).add i)))(hy:asg us y=w)(hr : ∀W,Rd W w d)(hK : ∀h',Nz s M vs W0 h' (o0.upd k (it e v (l.set i d))) m u ds->K undef h'):@Lft.step po Tryz.prog (.store t x y) ty us h K:=
 n.Ie h3 hk hi (by rw[hsz,h1]) (by rw[hx,h1,MP]) hy hr hK
theorem qI{s:List Int}{m:MS}:0<=iO s m b/\iO s m b<=3:=by
 unfold iO;have:=cc (s:=s) (at_:=m.at_) (n:=4) (by decide);repeat' split
 all_goals omega
theorem Fe{l:List Int}{i:Nat}{x:Int}(h:nth l i=x)(hi:i<l.length):l.set i x=l:=by rw[<-h,ak hi];exact MT hi
structure Ph (n a k:Nat) (x:List Int × MS):Prop where
 z:Sz n (a+10*k) (3*k) 0 x.2
 len:x.1.length=n
 zero : ∀j,k<j->nth x.1 j=0
 rng : ∀j,0<=nth x.1 j/\nth x.1 j<=3
theorem vf{s:List Int}{a k:Nat}{x:List Int × MS}(p:Ph n a k x):Ph n a (k+1) (fW s k x):=by
 obtain⟨c0,c1⟩:=qI (s:=s) (m:=x.2) (b:=k+1);have hset : ∀j,nth (x.1.set (k+1) (iO s x.2 (k+1))) j=if k+1=j/\j<x.1.length then iO s x.2 (k+1) else nth x.1 j:=fun j=>by
  rcases LI j x.1.length with hl | hl
  ·rw[aF hl];by_cases e:k+1=j
   ·rw[if_pos e,if_pos ⟨e,hl⟩]
   rw[if_neg e,if_neg (fun q=>e q.1)]
  rw[cB (by simpa using hl),if_neg (by omega),cB hl]
 refine⟨?_,?_,fun j hj=>?_,fun j=>?_⟩
 ·have:=(p.z.took).pG (b:=k+1) (iO s x.2 (k+1)).toNat;exact this.mono (by omega) (by omega) (LG _)
 ·show(x.1.set _ _).length=_;rw[LN];exact p.len
 ·show nth (x.1.set _ _) j=_;rw[hset,if_neg (by omega)];exact p.zero j (by omega)
 show 0<=nth (x.1.set _ _) j/\nth (x.1.set _ _) j<=3;rw[hset];split
 ·exact⟨c0,c1⟩
 exact p.rng j
theorem zl {s:List Int} {n a:Nat} {x:List Int × MS} (p:Ph n a 0 x) : ∀k,Ph n a k (up (fW s) k x)
 | 0=>p
 | k+1=>vf (zl p k)
variable{vp:Value}
theorem Hn{s:List Int}{h:Heap}{a:Nat}{x0:List Int × MS}(x:Nx s M vs W0 h (o0.upd (5,0) (it T.int vp x0.1)) x0.2)(p0:Ph n a 0 x0)(hn1:1<=n)(hn:n<=100)(ha:a<=10000)(h0:aZ [2,3,4,5,7,8] ρ=[(2,vr),(3,.pointer (some ⟨M,0,none⟩)),(4,.int .i64 n),(5,vt),(7,vp),(8,.int .i64 1)])(hQ : ∀h',Nx s M vs W0 h' (o0.upd (5,0) (it T.int vp (up (fW s) (n-1) x0).1)) (up (fW s) (n-1) x0).2->Q .normal [(2,vr),(3,.pointer (some ⟨M,0,none⟩)),(4,.int .i64 n),(5,vt),(7,vp),(8,.int .i64 n)] h'):
  LC.wp Tryz.prog (.block 2 (.loop L.ax.l2)) Q ρ h:=by
 simp only[aR];refine vh [2,3,4,5,7,8] (fun(_:Unit) k=>[vr,.pointer (some ⟨M,0,none⟩),.int .i64 n,vt,vp,.int .i64 ((k+1:Nat):Int)]) (fun _ k h2=>Nx s M vs W0 h2 (o0.upd (5,0) (it T.int vp (up (fW s) k x0).1)) (up (fW s) k x0).2) (n-1) 1 ()
  rfl (by omega) h0 x (fun _ _=>rfl) (fun v k h2 hk2 m=>by simp;omega) ?_ ?_
 ·rintro _ k h2 hlt x2 K2 hK2;have p2:=zl (s:=s) p0 k;have e2:up (fW s) (k+1) x0=fW s k (up (fW s) k x0):=rfl;have p3:=vf (s:=s) p2;rw[e2]at hK2;generalize up (fW s) k x0=y at x2 hK2 p2 p3;obtain⟨lp,m⟩:=y;have z:Sz n (a+10*k) (3*k) 0 m:=p2.z;have x2:Nx s M vs W0 h2 (o0.upd (5,0) (it T.int vp lp)) m:=x2;have q:m.ok (a+10*k):=z.ok (by omega);have hlen:lp.length=n:=p2.len;simp only[aR];refine aa fun y hy=>?_;obtain⟨vb,vl,rd⟩:=x2.z.reads;simp[rd.f];refine aj (by kernel_rfl) (oP (b:=((k+1:Nat):Int)) (rd.rd ⟨by have:=z.ps0;show _<=m.ps;omega,by have:=z.ps1;show m.ps<=_;omega⟩) (by show m.blocks.length<=_;rw[z.len];omega)) ?_;rintro vq h3 ⟨hle3,hq⟩;have n3:=x2.z.ext hle3
  have hcd:iO s m (k+1)=_:=iO.eq_1 s m (k+1);obtain⟨pl,hpl⟩ : ∃pl:Nat,pl=(bf m.f ((k+1:Nat):Int)).length:=⟨_,rfl⟩;have hql : ∀{Q:View},Un.ev Q .len vq=some (.int .i64 pl):=fun{Q}=>by rw[hpl];exact hq.len
  rw[<-hpl]at hcd;clear hq x2 rd hpl;subst hy;refine aa fun y hy=>?_;have fin : ∀(h':Heap) (ρ:Env),Nz s M vs W0 h' (o0.upd (5,0) (it T.int vp (lp.set (k+1) (iO s m (k+1))))) m.took (.slice none 0 0) []->Lft.look ρ 2=some vr->Lft.look ρ 3=some (.pointer (some ⟨M,0,none⟩))->Lft.look ρ 4=some (.int .i64 n)->Lft.look ρ 5=some vt->Lft.look ρ 7=some vp->Lft.look ρ 8=some (.int .i64 ((k+1:Nat):Int))->Lft.look ρ 9=some vq->
    LC.wp Tryz.prog y (dJ 3 (gr K2 (dJ 2 Q))) ρ h':=by
   intro h' ρ n' r2 r3 r4 r5 r7 r8 r9;subst hy;refine aa fun y hy=>?_;simp;subst hy;obtain⟨c0,c1⟩:=qI (s:=s) (m:=m) (b:=k+1);refine HT (vr:=vr) (vt:=vt) (b:=k+1) (cnt:=(iO s m (k+1)).toNat) (vq:=vq) n'.x Own.af z.took (by omega) (by rw[LN];exact hlen) (by rw[aF (by omega),if_pos rfl];omega) (by omega) hn (by omega) (by omega) ?_ fun h4 x4=>?_
   ·simp[aZ,ag,ah,r2,r3,r4,r5,r7,r8,r9]
   simp;exact hK2 () _ _ rfl rfl x4
  refine aa fun w hw=>?_;simp[hql];subst hw;by_cases c1:1<pl
  ·rw[if_pos c1]at hcd;refine aw (by simp;omega) ?_;simp;refine aj (by kernel_rfl) (fD n3 q (by omega) (k:=4) (by decide) (by decide)) ?_;rintro _ h4 ⟨rfl,n4⟩;have sp:=n4.at (k:=(5,0)) (by decide) Own.af;simp(disch:=omega)[sp.idx1 rfl];refine n4.wm (k:=(5,0)) (α:=Int) (i:=k+1) (d:=aG s m.at_ 4) rfl (by decide) Own.af (by omega) (by kernel_rfl) rfl rfl (fun W=>dr.2 ⟨rfl,by have:=cc (s:=s) (at_:=m.at_) (n:=4) (by decide);constructor<;>omega⟩) fun h5 n5=>?_;refine fin h5 _ (n5.re fun q=>by rw[cz,hcd]) ?_ ?_ ?_ ?_ ?_ ?_ ?_;all_goals simp
  rw[if_neg c1]at hcd;refine au (by simp;omega) ?_;refine aa fun w hw=>?_;simp;refine aj (by kernel_rfl) (fD n3 q (by omega) (k:=6) (by decide) (by decide)) ?_;rintro _ h4 ⟨rfl,n4⟩;simp;subst hw;by_cases c2:aG s m.at_ 6=0
  ·rw[if_pos c2]at hcd;refine aw (by simp[c2]) ?_;have sp:=n4.at (k:=(5,0)) (by decide) Own.af;simp(disch:=omega)[sp.idx1 rfl];refine n4.wm (k:=(5,0)) (α:=Int) (i:=k+1) (d:=1) rfl (by decide) Own.af (by omega) (by kernel_rfl) rfl rfl (fun W=>dr.2 ⟨rfl,by decide,by decide⟩) fun h5 n5=>?_;refine fin h5 _ (n5.re fun q=>by rw[cz,hcd]) ?_ ?_ ?_ ?_ ?_ ?_ ?_;all_goals simp
  rw[if_neg c2]at hcd;refine au (by simp[c2]) ?_;simp;have e:lp.set (k+1) (iO s m (k+1))=lp:=by rw[hcd];exact Fe (p2.zero (k+1) (by omega)) (by omega)
  refine fin h4 _ (n4.re fun q=>by rw[e]) ?_ ?_ ?_ ?_ ?_ ?_ ?_;all_goals simp
 rintro _ h2 x2;have e:n-1+1=n:=by omega
 have:=hQ h2 x2;simpa[e]using this
section
variable {s:List Int} {M:Nat} {vs:Value} {W0:View} {h:Heap} {o0:Own} {m:MS}
theorem GQ{a p i:Nat}(z:Sz n a p i m):I64 m.ps:=by have:=z.ps0;have:=z.ps1;constructor<;>omega
variable{vd va:Value}
theorem Hx{a p i:Nat}{r:Bool}{t:Nat}(x:Nx s M vs W0 h (o0.upd (7,0) (it T.lh va ([]:List BL))) m)(hfree:o0 (7,0)=none)(z:Sz n a p i m)(hn:n<=100)(h0:aZ [2,3,4,5,7,11,12,13,14,15,16] ρ=[(2,vr),(3,.pointer (some ⟨M,0,none⟩)),(4,.int .i64 n),(5,vt),(7,vp),(11,vd),(12,.int .i64 t),(13,.int .i64 b),(14,.bool r),(15,va),(16,.int .i64 0)])(hQ : ∀h' W' va,W0.le W'->Nx s M vs W' h' o0 m->SlRd W' va (p8 m.f n)->Q .normal [(2,vr),(3,.pointer (some ⟨M,0,none⟩)),(4,.int .i64 n),(5,vt),(7,vp),(11,vd),(12,.int .i64 t),(13,.int .i64 b),(14,.bool r),(15,va),(16,.int .i64 n)] h'):
  LC.wp Tryz.prog (.block 10 (.loop L.ax.l6)) Q ρ h:=by
 simp only[aR];refine aO [2,3,4,5,7,11,12,13,14,15,16] (fun(va:Value) k=>[vr,.pointer (some ⟨M,0,none⟩),.int .i64 n,vt,vp,vd,.int .i64 t,.int .i64 b,.bool r,va,.int .i64 k]) (fun va k h2=>Nx s M vs W0 h2 (o0.upd (7,0) (it T.lh va (rows (fun a=>dw m.f (a:Int)) k))) m) n va
  rfl (by omega) h0 x (fun _ _=>rfl) (fun v k h2 hk2 m=>by simp) ?_ ?_
 ·rintro va k h2 hlt x2 K2 hK2;simp only[aR];obtain⟨vb,vl,rd⟩:=x2.z.reads;simp[rd.f];refine aj (by kernel_rfl) (nr (wo:=(k:Int)) (rd.rd (GQ z)) (by show m.blocks.length<=_;rw[z.len];omega)) ?_;rintro ur h3 ⟨hle3,hur⟩;obtain⟨W,o,g,w,f⟩:=x2;have w3:=w.own.ext hle3;have hW3:=aH (h':=h3) w.own.wle;have hur:=hur.mono (eC W h2 h3);generalize grow W h2 h3=W3 at w3 hW3 hur;refine w3.fg (k:=(7,0)) (α:=BL) (d:=dw m.f (k:Int)) ((f _ (by decide)).trans Own.af) El.pM rfl (fy.2 hur) (by simp;omega) (by simp;omega) (fun _=>rfl) (fun _=>rfl) fun u v' h4 w4 _=>?_;obtain⟨vb,vl,lb,bb⟩:=w.box;refine hK2 v' _ _ rfl rfl ⟨W3,_,View.le_trans g hW3,⟨w4,w.src.mono hW3,vb,vl,lb,bb.frame fun q hq=>Own.ab (by rintro rfl;simp at hq)⟩,fun q hq=>?_⟩;rw[eG];unfold Own.upd;split
  ·rfl
  rename_i e;rw[f q hq,Own.ab e]
 rintro va h2 ⟨W,o,g,w,f⟩;have hk:=(f (7,0) (by decide)).trans Own.af;obtain⟨w2,sl⟩:=w.own.freeze hk;have hWp:=eD (h:=h2) (w.own.av _ _ hk);obtain⟨vb,vl,lb,bb⟩:=w.box;refine hQ h2 _ va (View.le_trans g hWp) ⟨_,_,View.le_refl _,⟨w2,w.src.mono hWp,vb,vl,lb,bb.frame fun q hq=>Own.ab (by rintro rfl;simp at hq)⟩,fun q hq=>?_⟩ sl;by_cases e:q=(7,0)
 ·rw[e,Own.af,hfree]
 rw[Own.ab e,f q hq,Own.ab e]
variable{dn:BL}{away:List BL}
theorem Hq{r:Bool}{t:Nat}(sd:SlRd (vw h) vd dn)(sa:SlRd (vw h) va away)(hb:b<n)(hdn:dn.length=n)(hal:away.length=n)(har : ∀i,i<n->(nth away i).length=n)(hn:n<=100)(h0:aZ [2,3,4,5,7,11,12,13,14,15,17] ρ=[(2,vr),(3,.pointer (some ⟨M,0,none⟩)),(4,.int .i64 n),(5,vt),(7,vp),(11,vd),(12,.int .i64 t),(13,.int .i64 b),(14,.bool r),(15,va),(17,.int .i64 0)])(hQ:Q .normal [(2,vr),(3,.pointer (some ⟨M,0,none⟩)),(4,.int .i64 n),(5,vt),(7,vp),(11,vd),(12,.int .i64 t),(13,.int .i64 b),(14,.bool (up (fun a r=>r&&(decide (a=b)||nth dn a||nth (nth away a) b)) n r)),(15,va),(17,.int .i64 n)] h):
  LC.wp Tryz.prog (.block 12 (.loop L.ax.l7)) Q ρ h:=by
 simp only[aR];refine aO [2,3,4,5,7,11,12,13,14,15,17] (fun(r:Bool) k=>[vr,.pointer (some ⟨M,0,none⟩),.int .i64 n,vt,vp,vd,.int .i64 t,.int .i64 b,.bool r,va,.int .i64 k]) (fun r2 k h2=>h2=h/\r2=up (fun a r=>r&&(decide (a=b)||nth dn a||nth (nth away a) b)) k r) n r
  rfl (by omega) h0 ⟨rfl,rfl⟩ (fun _ _=>rfl) (fun v k h2 hk2 m=>by simp) ?_ ?_
 ·rintro r2 k h2 hlt ⟨rfl,hr2⟩ K2 hK2;have e:up (fun a r=>r&&(decide (a=b)||nth dn a||nth (nth away a) b)) (k+1) r=(r2&&(decide (k=b)||nth dn k||nth (nth away k) b)):=by rw[hr2];rfl
  rw[e]at hK2;clear e hr2;obtain⟨rv,hrv⟩:=sa.rows;obtain⟨ha1,ha2⟩:=hrv k (by omega);have hl:=har k hlt;have hkb : ∀{A:Type},True:=trivial;simp only[aR];cases r2 with
  | false=>simp;exact hK2 false _ _ rfl rfl ⟨rfl,rfl⟩
  | true=>
   by_cases c:k=b
   ·subst c;simp;exact hK2 true _ _ rfl rfl ⟨rfl,by simp⟩
   have c':¬((k:Int)=(b:Int)):=by omega
   cases hd:nth dn k with
   | true=>simp(disch:=omega)[c,c',sd.idx1 rfl,sd.bool (View.le_refl _),hd];exact hK2 true _ _ rfl rfl ⟨rfl,by simp[hd]⟩
   | false=>simp(disch:=omega)[c,c',sd.idx1 rfl,sd.bool (View.le_refl _),hd,sa.idx1 rfl,ha1 _ (View.le_refl _),ha2.idx1 rfl,ha2.bool (View.le_refl _)];exact hK2 _ _ _ rfl rfl ⟨rfl,by simp[hd,c]⟩
 rintro r2 h2 ⟨rfl,rfl⟩;exact hQ
end
def MS.cT (m:MS) (l:List Int):MS:={ m with live:=l }
section
variable {s:List Int} {M:Nat} {vs:Value} {W0:View} {h:Heap} {o0:Own} {m:MS}
variable{vb:Value}{lb:List BlkM}{ty2:TypeId}
theorem Mk.yz{po2:OP}{o:Own}(w:Mk s M vs W h o m){vl:Value}(bb:MkB M vs m o vb vl lb){l2:List Int}{u:Value}{x y c1 c2:Operand}{us2:Value->List (Nat × Value)}{K:Value->Value->Heap->Prop}(src:SrcT (vw h) W u l2)(hl:m.live.length+l2.length<=1000000)(hx:asg us x=vl)(hy:asg us y=u)(hc1 : ∀v,asg (us2 v) c1 = .pointer (some ⟨M,5,none⟩))(hc2 : ∀v,asg (us2 v) c2=v)(hK : ∀v h' o',Mk s M vs W h' o' (m.cT (m.live++l2))->(∀k:Key,3<=k.1->o' k=o k)->K v undef h'):
  @Lft.step po Tryz.prog (.call ⟨.builtin .append,#[x,y],#[T.aS,T.aS]⟩) ty us h fun v h2=>@Lft.step po2 Tryz.prog (.store T.aS c1 c2) ty2 (us2 v) h2 fun w h3=>K v w h3:=by
 refine w.own.bw (k:=(0,1)) (α:=Int) (v:=vl) (l:=m.live) (l2:=l2) bb.live El.aS hx hy src (by omega) (by omega) fun v h2 w2 _=>?_;have hv:=(w2.cells (k:=(0,1)) Own.af).2;refine w2.bu (k:=(0,0)) (n:=5) (i:=5) (e:=T.aN) (B:=M) (l:=mkL vs m.at_ m.ps vb m.next vl) ((Own.ab (by simp)).trans bb.box) (by decide) (by kernel_rfl) (hc1 v) (hc2 v) hv fun h3 w3 _=>?_;refine hK v h3 _ ⟨w3,w.src,vb,v,lb,⟨rfl,rfl,(Own.ab (by simp)).trans ((Own.ab (by simp)).trans bb.blk),bb.len,bb.term,fun i hi=>?_,fun i hi=>?_⟩⟩ fun k hk=>?_
 ·exact(Own.ab (by simp)).trans ((Own.ab (by simp)).trans (bb.phis i hi))
 ·exact(Own.ab (by simp)).trans ((Own.ab (by simp)).trans (bb.ins i hi))
 rw[Own.ab (by rintro rfl;simp at hk),Own.ab (by rintro rfl;simp at hk)]
variable{vd va:Value}
theorem HM{a p i c:Nat}{r:Bool}{t:Nat}(x:Nx s M vs W0 h o0 (m.cT []))(z:Sz n a p i m)(hc:m.ps=c)(h0:aZ [2,3,4,5,7,11,12,13,15,18] ρ=[(2,vr),(3,.pointer (some ⟨M,0,none⟩)),(4,.int .i64 n),(5,vt),(7,vp),(11,vd),(12,.int .i64 t),(13,.int .i64 b),(15,va),(18,.int .i64 0)])(hQ : ∀h',Nx s M vs W0 h' o0 (m.cT (rows (fun i=>(i:Int)) c))->Q .normal [(2,vr),(3,.pointer (some ⟨M,0,none⟩)),(4,.int .i64 n),(5,vt),(7,vp),(11,vd),(12,.int .i64 t),(13,.int .i64 b),(15,va),(18,.int .i64 c)] h'):
  LC.wp Tryz.prog (.block 14 (.loop L.ax.l8)) Q ρ h:=by
 have hc4:c<=4:=by have:=z.ps1;omega
 simp only[aR];refine aO [2,3,4,5,7,11,12,13,15,18] (fun(_:Unit) k=>[vr,.pointer (some ⟨M,0,none⟩),.int .i64 n,vt,vp,vd,.int .i64 t,.int .i64 b,va,.int .i64 k]) (fun _ k h2=>Nx s M vs W0 h2 o0 (m.cT (rows (fun i=>(i:Int)) k))) c ()
  rfl (by omega) h0 x (fun _ _=>rfl) (fun v k h2 hk2 x2=>by obtain⟨vb,vl,rd⟩:=x2.z.reads;have e:(m.cT (rows (fun i=>(i:Int)) k)).ps=c:=hc;simp[rd.ps,e]) ?_ ?_
 ·rintro _ k h2 hlt x2 K2 hK2;obtain⟨W,o,g,w,f⟩:=x2;obtain⟨vb,vl,lb,bb⟩:=w.box;have rd:=w.reads bb;simp only[aR];simp[rd.cl];refine lg (α:=Int) (W:=W) (d:=(k:Int)) El.aS rfl (dr.2 ⟨rfl,by constructor<;>omega⟩) fun u5 h5 src hle5 hs5=>?_;have w5:Mk s M vs W h5 o (m.cT (rows (fun i=>(i:Int)) k)):=⟨w.own.ext' hle5,w.src,w.box⟩
  refine w5.yz bb src (by show(rows _ k).length+1<=_;simp;omega) rfl rfl (fun _=>rfl) (fun _=>rfl) fun v h6 o6 w6 f6=>?_;refine hK2 () _ _ rfl rfl ⟨W,o6,g,?_,fun k hk=>(f6 k hk).trans (f k hk)⟩;rw[eG];exact w6
 rintro _ h2 x2;exact hQ h2 x2
theorem Fq{a p i ai:Nat}{t:Nat}{lv:List Int}(x:Nx s M vs W0 h o0 (m.cT lv))(z:Sz n a p i m)(hai:ai<n)(hn:n<=100)(hl:lv.length<=100000)(hp:p<=100000)(h0:aZ [2,3,4,5,7,11,12,13,15,19,20] ρ=[(2,vr),(3,.pointer (some ⟨M,0,none⟩)),(4,.int .i64 n),(5,vt),(7,vp),(11,vd),(12,.int .i64 t),(13,.int .i64 b),(15,va),(19,.int .i64 ai),(20,.int .i64 0)])(hQ : ∀h':Heap,Nx s M vs W0 h' o0 (m.cT (lv++(nth m.blocks ai).phis.map PhiD.dst))->Q .normal [(2,vr),(3,.pointer (some ⟨M,0,none⟩)),(4,.int .i64 n),(5,vt),(7,vp),(11,vd),(12,.int .i64 t),(13,.int .i64 b),(15,va),(19,.int .i64 ai),(20,.int .i64 (nth m.blocks ai).phis.length)] h'):
  LC.wp Tryz.prog (.block 18 (.loop L.ax.l10)) Q ρ h:=by
 have hpl:=z.phis ai;have hlen:ai<m.blocks.length:=by rw[z.len];exact hai
 simp only[aR];have read : ∀{h2:Heap} {lv2:List Int} {vb vl:Value},Reads M (m.cT lv2) h2 vb vl->∃vph,ao (vw h2) (((slA vb).add (ai*6)).add 0)=some vph/\SlRd (vw h2) vph (nth m.blocks ai).phis/\Bn.ev (.idx 6) vb (.int .i64 ai)=some (.pointer (some ((slA vb).add (ai*6)))):=by intro h2 lv2 vb vl rd;have hb:=rd.blk;have hl2:ai<(m.cT lv2).blocks.length:=hlen;obtain⟨vph,h1⟩:=((hb.at hl2).part BlkD.km).sl;have h2:=h1.2;have e:(m.cT lv2).blocks[ai]=nth m.blocks ai:=(ak hl2).symm;rw[e]at h2;exact⟨vph,h1.1,h2,by have:=hb.idxn (N:=6) rfl (k:=.i64) (i:=ai) (by omega) (by omega);simpa using this⟩
 refine aO [2,3,4,5,7,11,12,13,15,19,20] (fun(_:Unit) k=>[vr,.pointer (some ⟨M,0,none⟩),.int .i64 n,vt,vp,vd,.int .i64 t,.int .i64 b,va,.int .i64 ai,.int .i64 k]) (fun _ k h2=>Nx s M vs W0 h2 o0 (m.cT (lv++((nth m.blocks ai).phis.take k).map PhiD.dst))) (nth m.blocks ai).phis.length ()
  rfl (by omega) h0 (by simpa using x) (fun _ _=>rfl) (fun v k h2 hk2 x2=>by obtain⟨vb,vl,rd⟩:=x2.z.reads;obtain⟨vph,r1,r2,r3⟩:=read rd;simp[rd.cb,r3,r1,r2.len]) ?_ ?_
 ·rintro _ k h2 hlt x2 K2 hK2;obtain⟨W,o,g,w,f⟩:=x2;obtain⟨vb,vl,lb,bb⟩:=w.box;have rd:=w.reads bb;obtain⟨vph,r1,r2,r3⟩:=read rd;have r4:ao (vw h2) (((slA vph).add (k*2)).add 0)=some (.int .i64 (nth m.blocks ai).phis[k].dst):=((r2.at hlt).part PhiD.kQ).int;have i64:=((r2.at hlt).part PhiD.kQ).rng;have r5:Bn.ev (.idx 2) vph (.int .i64 k)=some (.pointer (some ((slA vph).add (k*2)))):=by have:=r2.idxn (N:=2) rfl (k:=.i64) (i:=k) (by omega) (by omega);simpa using this
  simp only[aR];refine bF (vw h2) (View.le_refl _) ?_;simp[rd.cl,rd.cb,r3,r1,r4,r5];refine lg (α:=Int) (W:=W) (d:=(nth m.blocks ai).phis[k].dst) El.aS rfl (dr.2 ⟨rfl,i64⟩) fun u5 h5 src hle5 hs5=>⟨hle5,?_⟩;have w5:Mk s M vs W h5 o (m.cT (lv++((nth m.blocks ai).phis.take k).map PhiD.dst)):=⟨w.own.ext' hle5,w.src,w.box⟩;refine w5.yz bb src (by show(lv++_).length+1<=_;simp;omega) rfl rfl (fun _=>rfl) (fun _=>rfl) fun v h6 o6 w6 f6=>?_;refine hK2 () _ _ rfl rfl ⟨W,o6,g,?_,fun k hk=>(f6 k hk).trans (f k hk)⟩;rw[L8 hlt,N5,<-List.append_assoc];exact w6
 rintro _ h2 x2;rw[MK]at x2;exact hQ h2 x2
end
theorem AV{l:List InsD}:(l.flatMap dc).length<=2*l.length:=by
 induction l with
 | nil=>simp
 | cons a l ih=>
  have:(dc a).length<=2:=by
   unfold dc;repeat' split
   all_goals simp
  simp only[NU,LH,Nl];omega
section
variable {s:List Int} {M:Nat} {vs:Value} {W0:View} {h:Heap} {o0:Own} {m:MS}
variable{vd va:Value}
theorem Fz{a p i ai:Nat}{t:Nat}{lv:List Int}(x:Nx s M vs W0 h o0 (m.cT lv))(z:Sz n a p i m)(hai:ai<n)(hn:n<=100)(hl:lv.length<=100000)(hi:i<=100000)(h0:aZ [2,3,4,5,7,11,12,13,15,19,21] ρ=[(2,vr),(3,.pointer (some ⟨M,0,none⟩)),(4,.int .i64 n),(5,vt),(7,vp),(11,vd),(12,.int .i64 t),(13,.int .i64 b),(15,va),(19,.int .i64 ai),(21,.int .i64 0)])(hQ : ∀h':Heap,Nx s M vs W0 h' o0 (m.cT (lv++(nth m.blocks ai).ins.flatMap dc))->Q .normal [(2,vr),(3,.pointer (some ⟨M,0,none⟩)),(4,.int .i64 n),(5,vt),(7,vp),(11,vd),(12,.int .i64 t),(13,.int .i64 b),(15,va),(19,.int .i64 ai),(21,.int .i64 (nth m.blocks ai).ins.length)] h'):
  LC.wp Tryz.prog (.block 20 (.loop L.ax.l11)) Q ρ h:=by
 have hil:=z.ins ai;have hlen:ai<m.blocks.length:=by rw[z.len];exact hai
 simp only[aR];have read : ∀{h2:Heap} {lv2:List Int} {vb vl:Value},Reads M (m.cT lv2) h2 vb vl->∃vi,ao (vw h2) (((slA vb).add (ai*6)).add 1)=some vi/\SlRd (vw h2) vi (nth m.blocks ai).ins/\Bn.ev (.idx 6) vb (.int .i64 ai)=some (.pointer (some ((slA vb).add (ai*6)))):=by intro h2 lv2 vb vl rd;have hb:=rd.blk;have hl2:ai<(m.cT lv2).blocks.length:=hlen;obtain⟨vi,h1⟩:=((hb.at hl2).part BlkD.jr).sl;have h2:=h1.2;have e:(m.cT lv2).blocks[ai]=nth m.blocks ai:=(ak hl2).symm;rw[e]at h2;exact⟨vi,h1.1,h2,by have:=hb.idxn (N:=6) rfl (k:=.i64) (i:=ai) (by omega) (by omega);simpa using this⟩
 refine aO [2,3,4,5,7,11,12,13,15,19,21] (fun(_:Unit) k=>[vr,.pointer (some ⟨M,0,none⟩),.int .i64 n,vt,vp,vd,.int .i64 t,.int .i64 b,va,.int .i64 ai,.int .i64 k]) (fun _ k h2=>Nx s M vs W0 h2 o0 (m.cT (lv++((nth m.blocks ai).ins.take k).flatMap dc))) (nth m.blocks ai).ins.length ()
  rfl (by omega) h0 (by simpa using x) (fun _ _=>rfl) (fun v k h2 hk2 x2=>by obtain⟨vb,vl,rd⟩:=x2.z.reads;obtain⟨vi,r1,r2,r3⟩:=read rd;simp[rd.cb,r3,r1,r2.len]) ?_ ?_
 ·rintro _ k h2 hlt x2 K2 hK2;obtain⟨vb,vl,rd⟩:=x2.z.reads;obtain⟨vi,r1,r2,r3⟩:=read rd;obtain⟨ux,hux,huxr⟩:=r2.wh rfl (N:=5) rfl hlt;have r5:Bn.ev (.idx 5) vi (.int .i64 k)=some (.pointer (some ((slA vi).add (k*5)))):=by have:=r2.idxn (N:=5) rfl (k:=.i64) (i:=k) (by omega) (by omega);simpa using this
  simp only[aR];refine aa fun y hy=>?_;simp[rd.cb,r3,r1,r5,hux _ (View.le_refl _)];refine aj (by kernel_rfl) (oZ huxr) ?_;rintro um h3 ⟨hle3,hum,-⟩;clear rd r1 r2 r3 r5 hux;obtain⟨W,o,g,w,f⟩:=x2;have w3:=w.own.ext hle3;have hW3:=aH (h':=h3) w.own.wle;have hum:=hum.mono (eC W h2 h3);generalize grow W h2 h3=W3 at w3 hW3 hum;have w4:Mk s M vs W3 h3 o (m.cT (lv++((nth m.blocks ai).ins.take k).flatMap dc)):=⟨w3,w.src.mono hW3,w.box⟩;obtain⟨vb,vl,lb,bb⟩:=w4.box;have rd:=w4.reads bb;subst hy;simp[rd.cl];have hfl:=AV (l:=(nth m.blocks ai).ins.take k);have hml:(dc (nth (nth m.blocks ai).ins k)).length<=2:=by
   unfold dc;repeat' split
   all_goals simp
  refine w4.yz bb (hum.src w3.wle) (by show(lv++_).length+_<=_;simp at hfl ⊢;omega) rfl rfl (fun _=>rfl) (fun _=>rfl) fun v h6 o6 w6 f6=>?_;refine hK2 () _ _ rfl rfl ⟨W3,o6,View.le_trans g hW3,?_,fun k hk=>(f6 k hk).trans (f k hk)⟩;rw[L8 hlt,NX,OZ,<-List.append_assoc,<-ak hlt];exact w6
 rintro _ h2 x2;rw[MK]at x2;exact hQ h2 x2
variable{dn:BL}{away:List BL}
theorem Er{a p i:Nat}(z:Sz n a p i m){ai:Nat}{l:List Int}:(jq m dn away b ai l).length<=l.length+p+2*i:=by
 unfold jq;split
 ·omega
 have h1:=z.phis ai;have h2:=z.ins ai;have h3:=AV (l:=(nth m.blocks ai).ins);simp only[LH,L6];omega
theorem nj {n a p i:Nat} (z:Sz n a p i m) {dn:BL} {away:List BL} {b:Nat} {l:List Int} : ∀k,(up (jq m dn away b) k l).length<=l.length+(p+2*i)*k
 | 0=>LG _
 | k+1=>by have:=nj z (dn:=dn) (away:=away) (b:=b) (l:=l) k;have h2:=Er z (dn:=dn) (away:=away) (b:=b) (ai:=k) (l:=up (jq m dn away b) k l);show(jq m dn away b k (up (jq m dn away b) k l)).length<=_;rw[Ot];omega
theorem H3{a p i:Nat}{t:Nat}{l0:List Int}(x:Nx s M vs W0 h o0 (m.cT l0))(z:Sz n a p i m)(hd:o0 (6,0)=it T.bool vd dn)(sa:SlRd W0 va away)(hb:b<n)(hdn:dn.length=n)(hal:away.length=n)(har : ∀i,i<n->(nth away i).length=n)(hn:n<=10)(hl:l0.length<=10)(hp:p<=1000)(hi:i<=3000)(h0:aZ [2,3,4,5,7,11,12,13,15,19] ρ=[(2,vr),(3,.pointer (some ⟨M,0,none⟩)),(4,.int .i64 n),(5,vt),(7,vp),(11,vd),(12,.int .i64 t),(13,.int .i64 b),(15,va),(19,.int .i64 0)])(hQ : ∀h':Heap,Nx s M vs W0 h' o0 (m.cT (up (jq m dn away b) n l0))->Q .normal [(2,vr),(3,.pointer (some ⟨M,0,none⟩)),(4,.int .i64 n),(5,vt),(7,vp),(11,vd),(12,.int .i64 t),(13,.int .i64 b),(15,va),(19,.int .i64 n)] h'):
  LC.wp Tryz.prog (.block 16 (.loop L.ax.l9)) Q ρ h:=by
 simp only[aR];refine aO [2,3,4,5,7,11,12,13,15,19] (fun(_:Unit) k=>[vr,.pointer (some ⟨M,0,none⟩),.int .i64 n,vt,vp,vd,.int .i64 t,.int .i64 b,va,.int .i64 k]) (fun _ k h2=>Nx s M vs W0 h2 o0 (m.cT (up (jq m dn away b) k l0))) n ()
  rfl (by omega) h0 x (fun _ _=>rfl) (fun v k h2 hk2 x2=>by simp) ?_ ?_
 ·rintro _ k h2 hlt x2 K2 hK2;have e2:up (jq m dn away b) (k+1) l0=jq m dn away b k (up (jq m dn away b) k l0):=rfl;rw[e2]at hK2;have hll:=nj z (dn:=dn) (away:=away) (b:=b) (l:=l0) k;have hll:(up (jq m dn away b) k l0).length<=80000:=by have:(p+2*i)*k<=7000*10:=N0 (by omega) (by omega);omega
  generalize up (jq m dn away b) k l0=lv at x2 hK2 hll;have hla:jq m dn away b k lv=_:=jq.eq_1 m dn away b k lv;have sd:=x2.z.at (by decide) hd;have sa2:=sa.mono x2.z.le;obtain⟨rv,hrv⟩:=sa2.rows;obtain⟨ha1,ha2⟩:=hrv k (by omega);have hal2:=har k hlt;simp only[aR];refine aa fun y hy=>?_;have fin : ∀ρ,Lft.look ρ 2=some vr->Lft.look ρ 3=some (.pointer (some ⟨M,0,none⟩))->Lft.look ρ 4=some (.int .i64 n)->Lft.look ρ 5=some vt->Lft.look ρ 7=some vp->Lft.look ρ 11=some vd->Lft.look ρ 12=some (.int .i64 t)->Lft.look ρ 13=some (.int .i64 b)->Lft.look ρ 15=some va->Lft.look ρ 19=some (.int .i64 k)->(decide (k≠b)&&(!nth dn k||nth (nth away k) b))=false->
    LC.wp Tryz.prog y (dJ 17 (gr K2 (dJ 16 Q))) ρ h2:=by
   intro ρ r2 r3 r4 r5 r7 r11 r12 r13 r15 r19 hc;subst hy;rw[if_neg (by rw[hc];simp)]at hla;refine aa fun y hy=>?_;refine aa fun w hw=>?_;simp;subst hw;refine Fq (vr:=vr) (vt:=vt) (vp:=vp) (vd:=vd) (va:=va) (t:=t) (b:=b) (ai:=k) x2 z hlt (by omega) (by omega) (by omega) ?_ fun h3 x3=>?_
   ·simp[aZ,ag,ah,r2,r3,r4,r5,r7,r11,r12,r13,r15,r19]
   simp;subst hy;refine aa fun w hw=>?_;simp;subst hw;have hph:=z.phis k;refine Fz (vr:=vr) (vt:=vt) (vp:=vp) (vd:=vd) (va:=va) (t:=t) (b:=b) (ai:=k) x3 z hlt (by omega) (by simp;omega) (by omega) ?_ fun h4 x4=>?_
   ·simp[aZ,ag,ah]
   simp;refine hK2 () _ _ rfl rfl (by rw[hla];exact x4)
  refine aa fun w hw=>?_;by_cases c:k=b
  ·subst c;simp;subst hw;refine au (by simp) ?_;simp;refine fin _ ?_ ?_ ?_ ?_ ?_ ?_ ?_ ?_ ?_ ?_ (by simp);all_goals simp
  have c':¬((k:Int)=(b:Int)):=by omega
  cases hd2:nth dn k with
  | false=>simp(disch:=omega)[c,c',sd.idx1 rfl,sd.bool (View.le_refl _),hd2];subst hw;refine aw (by simp) ?_;simp;refine hK2 () _ _ rfl rfl ?_;rw[if_pos (by simp[c,hd2])]at hla;rw[hla];exact x2
  | true=>
   simp(disch:=omega)[c,c',sd.idx1 rfl,sd.bool (View.le_refl _),hd2,sa2.idx1 rfl,ha1 _ (View.le_refl _),ha2.idx1 rfl,ha2.bool (View.le_refl _)];subst hw;cases hw2:nth (nth away k) b with
   | true=>refine aw (by simp[hw2]) ?_;simp;refine hK2 () _ _ rfl rfl ?_;rw[if_pos (by simp[c,hd2,hw2])]at hla;rw[hla];exact x2
   | false=>refine au (by simp[hw2]) ?_;simp;refine fin _ ?_ ?_ ?_ ?_ ?_ ?_ ?_ ?_ ?_ ?_ (by simp[c,hd2,hw2]);all_goals simp
 rintro _ h2 x2;exact hQ h2 x2
end
structure B2 (n a p:Nat) (x:BL × MS):Prop where
 z:Sz n a p 700 x.2
 len:x.1.length=n
 none : ∀j,j<n->nth x.1 j=false->(nth x.2.blocks j).ins.length=0
variable{dn:BL}{away:List BL}
theorem xf{a p:Nat}{m:MS}(z:Sz n a p 700 m)(hn:n<=10)(hp:p<=100):(mo m dn away b n).length<=15100:=by have:=nj z (dn:=dn) (away:=away) (b:=b) (l:=rows (fun i=>(i:Int)) m.ps.toNat) n;rw[fP]at this;have h2:(p+2*700)*n<=1500*10:=N0 (by omega) hn;have:=z.ps1;unfold mo;omega
theorem oL{m:MS}{j:Nat}{t:da}(hb:b<m.blocks.length):nth (m.zj b t).blocks j=if b=j then{ nth m.blocks b with term:=t } else nth m.blocks j:=by
 show nth (m.blocks.set b _) j=_;rcases LI j m.blocks.length with hl | hl
 ·rw[aF hl]
 rw[cB (by simpa using hl),cB hl,if_neg (by omega)]
theorem Bz{s:List Int}{a p:Nat}{m:MS}(z:Sz n a p 700 m)(hb:b<n)(h0:(nth m.blocks b).ins.length=0)(hn:n<=10)(hp:p<=100)(ha:16000<=a):
  Sz n (a+600) p 700 (jx s to n dn away b m)/\∀j,j≠b->(nth (jx s to n dn away b m).blocks j).ins=(nth m.blocks j).ins:=by
 have hll:=xf (dn:=dn) (away:=away) (b:=b) z hn hp;have ht:=cc (s:=s) (at_:=m.at_) (n:=7) (by decide);have hbl:b<m.blocks.length:=by rw[z.len];exact hb
 obtain⟨m1,hm1⟩ : ∃m1:MS,m1=MS.took { m with live:=mo m dn away b n }:=⟨_,rfl⟩;have z1:Sz n (a+1) p 700 m1:=by rw[hm1];exact Sz.took ⟨z.at_,z.n0,z.next,by show(mo m dn away b n).length<=_;omega,z.ps0,z.ps1,z.len,z.phis,z.ins⟩
 have hl1:m1.live.length<=15100:=by rw[hm1];exact hll
 have e1 : ∀j,nth m1.blocks j=nth m.blocks j:=fun j=>by rw[hm1];rfl
 have hb1:b<m1.blocks.length:=by rw[z1.len];exact hb
 have g:=((Grw.refl (b:=b) (m:=m1)).jh (s:=s) hb1 (aG s m.at_ 7).toNat).II (s:=s) (to:=nth to b) hb1;have g:=g.mono (l:=520) (by omega);have e:jx s to n dn away b m=pq s (nth to b) b (up (fun _=>aQ s b) (aG s m.at_ 7).toNat m1):=by rw[hm1];rfl
 rw[e];unfold pq;generalize jd s (nth to b) b (up (fun _=>aQ s b) (aG s m.at_ 7).toNat m1)=r at g;have hbr:b<r.2.blocks.length:=by rw[g.len];exact hb1
 have hown:=g.ins;rw[e1,h0]at hown;refine⟨⟨?_,?_,?_,?_,?_,?_,?_,fun j=>?_,fun j=>?_⟩,fun j hj=>?_⟩
 ·show r.2.at_<=_;have:=g.at1;have:=z1.at_;omega
 ·show 0<=r.2.next;have:=g.n0;have:=z1.n0;omega
 ·show r.2.next<=_;have:=g.n1;have:=z1.next;omega
 ·show r.2.live.length<=_;have:=g.live;omega
 ·show 0<=r.2.ps;rw[g.ps];exact z1.ps0
 ·show r.2.ps<=4;rw[g.ps];exact z1.ps1
 ·show(r.2.blocks.set b _).length=n;rw[LN,g.len];exact z1.len
 ·rw[oL hbr];split
  ·rename_i e;subst e;show(nth r.2.blocks b).phis.length<=_;rw[g.phis];exact z1.phis b
  rename_i e;rw[g.els j (fun q=>e q.symm)];exact z1.phis j
 ·rw[oL hbr];split
  ·rename_i e;subst e;show(nth r.2.blocks b).ins.length<=_;omega
  rename_i e;rw[g.els j (fun q=>e q.symm)];exact z1.ins j
 rw[oL hbr,if_neg (fun q=>hj q.symm),g.els j hj,e1]
theorem qK{s:List Int}{a p:Nat}{x:BL × MS}(q:B2 n a p x)(hb:b<n)(hn:n<=10)(hp:p<=100)(ha:16000<=a)(h0:sr x.1 (p8 x.2.f n) b n=true->nth x.1 b=false):B2 n (a+600) p (cf s to n b x):=by
 unfold cf;split
 ·rename_i hr;obtain⟨z2,e2⟩:=Bz (s:=s) (to:=to) (dn:=x.1.set b true) (away:=p8 x.2.f n) q.z hb (q.none b hb (h0 hr)) hn hp ha;refine⟨z2,by show(x.1.set b true).length=n;rw[LN];exact q.len,fun j hj h=>?_⟩;have h:nth (x.1.set b true) j=false:=h;rw[aF (by rw[q.len];exact hj)]at h;split at h
  ·cases h
  rename_i e;show(nth (jx _ _ _ _ _ _ _).blocks j).ins.length=0;rw[e2 j (fun r=>e r.symm)];exact q.none j hj h
 exact⟨q.z.mono (by omega) (LG _) (LG _),q.len,q.none⟩
theorem GI {f:Nat->Bool} : ∀(n:Nat) (r:Bool),up (fun a r=>r&&f a) n r=true->r=true
 | 0,r,h=>h
 | n+1,r,h=>by have h:(up (fun a r=>r&&f a) n r&&f n)=true:=h;simp only[LK]at h;exact GI n r h.1
theorem pI(h:sr dn away b n=true):nth dn b=false:=by unfold sr at h;have:=GI _ _ h;simpa using this
section
variable {s:List Int} {M:Nat} {vs:Value} {W0:View} {h:Heap} {o0:Own} {m:MS}
variable{vd va:Value}
theorem Ge{k c:Nat}{t:Nat}(x:Nx s M vs W0 h o0 m)(hfree:o0 (9,0)=none)(hm:m.ok c)(hc:c<=100000)(hk:k<=100)(hb:b<m.blocks.length)(h0:aZ [2,3,4,5,7,11,12,13,15,23,24] ρ=[(2,vr),(3,.pointer (some ⟨M,0,none⟩)),(4,.int .i64 n),(5,vt),(7,vp),(11,vd),(12,.int .i64 t),(13,.int .i64 b),(15,va),(23,.int .i64 k),(24,.int .i64 0)])(hQ : ∀h':Heap,Nx s M vs W0 h' o0 (up (fun _=>aQ s b) k m)->Q .normal [(2,vr),(3,.pointer (some ⟨M,0,none⟩)),(4,.int .i64 n),(5,vt),(7,vp),(11,vd),(12,.int .i64 t),(13,.int .i64 b),(15,va),(23,.int .i64 k),(24,.int .i64 k)] h'):
  LC.wp Tryz.prog (.block 22 (.loop L.ax.l12)) Q ρ h:=by
 have oks : ∀j,(up (fun _=>aQ s b) j m).ok (c+80*j)/\(up (fun _=>aQ s b) j m).blocks.length=m.blocks.length:=by
  intro j;induction j with
  | zero=>exact⟨hm,rfl⟩
  | succ j ih=>exact⟨(ih.1.jJ (s:=s) (b:=b)).mono (by omega),(nU (s:=s) (b:=b)).trans ih.2⟩
 simp only[aR];refine aO [2,3,4,5,7,11,12,13,15,23,24] (fun(_:Unit) j=>[vr,.pointer (some ⟨M,0,none⟩),.int .i64 n,vt,vp,vd,.int .i64 t,.int .i64 b,va,.int .i64 k,.int .i64 j]) (fun _ j h2=>Nx s M vs W0 h2 o0 (up (fun _=>aQ s b) j m)) k ()
  rfl (by omega) h0 x (fun _ _=>rfl) (fun v k h2 hk2 x2=>by simp) ?_ ?_
 ·rintro _ j h2 hlt x2 K2 hK2;obtain⟨q1,q2⟩:=oks j;have e2:up (fun _=>aQ s b) (j+1) m=aQ s b (up (fun _=>aQ s b) j m):=rfl;rw[e2]at hK2;generalize up (fun _=>aQ s b) j m=m2 at x2 hK2 q1 q2;simp only[aR];simp;refine aj (by kernel_rfl) (vz x2 (b:=b) (by omega) q1 (by omega) hfree) ?_;rintro _ h3 x3;exact hK2 () _ _ rfl rfl x3
 rintro _ h2 x2;exact hQ h2 x2
end
theorem Nx.up{s:List Int}{h:Heap}{m:MS}(x:Nx s M vs W h o0 m)(hW:W0.le W):Nx s M vs W0 h o0 m:=by obtain⟨W',o,g,w,f⟩:=x;exact⟨W',o,View.le_trans hW g,w,f⟩
theorem Nx.re{s:List Int}{h:Heap}{o0':Own}{m:MS}(x:Nx s M vs W h o0 m)(he : ∀k,o0' k=o0 k):Nx s M vs W h o0' m:=by obtain⟨W',o,g,w,f⟩:=x;exact⟨W',o,g,w,fun k hk=>(f k hk).trans (he k).symm⟩
theorem Nx.dy {po:OP} {s:List Int} {M:Nat} {vs:Value} {W0:View} {h:Heap} {o0:Own} {m:MS} {α:Type} [r:Rep α] {ty e t:TypeId} {us:List (Nat × Value)} {k:Key} {bytes:Nat} {z:Value} {K:Value->Heap->Prop} (x:Nx s M vs W0 h o0 m) (h3:3<=k.1) (hk:o0 k=none) (hT:ff Tryz.prog t e (Rep.n α) bytes z)
  (hK : ∀v h',v.oneCell'=true->Nx s M vs W0 h' (o0.upd k (it e v ([]:List α))) m->K v h'):@Lft.step po Tryz.prog (.buildSlice t 0 #[]) ty us h K:=by
 obtain⟨W,o,g,w,f⟩:=x;refine w.own.dy (k:=k) (α:=α) ((f k h3).trans hk) hT fun v h2 hle2 hv w2 _=>hK v h2 hv ?_;obtain⟨vb,vl,lb,bb⟩:=w.box;refine⟨W,_,g,⟨w2,w.src,vb,vl,lb,bb.frame fun q hq=>Own.ab (by rintro rfl;omega)⟩,fun q hq=>?_⟩;unfold Own.upd;split
 ·rfl
 exact f q hq
variable{ty2:TypeId}
theorem Nx.Fc{po2:OP}{s:List Int}{h:Heap}{m:MS}{us2:Value->List (Nat × Value)}{c1 c2:Operand}{K:Value->Value->Heap->Prop}(x:Nx s M vs W0 h o0 m)(hc1 : ∀v,asg (us2 v) c1 = .pointer (some ⟨M,5,none⟩))(hc2 : ∀v,asg (us2 v) c2=v)(hK : ∀v h',Nx s M vs W0 h' o0 (m.cT [])->K v undef h'):@Lft.step po Tryz.prog (.buildSlice T.aS 0 #[]) ty us h fun v h2=>@Lft.step po2 Tryz.prog (.store T.aS c1 c2) ty2 (us2 v) h2 fun w h3=>K v w h3:=by
 obtain⟨W,o,g,w,f⟩:=x;obtain⟨vb,vl,lb,bb⟩:=w.box;have w1:=w.own.sub (o':=o.upd (0,1) none) fun j i hj=>by
  unfold Own.upd at hj;split at hj
  ·cases hj
  exact hj
 refine w1.dy (k:=(0,1)) (α:=Int) Own.af El.aS fun v h2 hle2 hv w2 _=>?_;have w2:=w2.congr (o':=o.upd (0,1) (it T.int v ([]:List Int))) fun q=>by unfold Own.upd;split<;>rfl
 refine w2.bu (k:=(0,0)) (n:=5) (i:=5) (e:=T.aN) (B:=M) (l:=mkL vs m.at_ m.ps vb m.next vl) ((Own.ab (by simp)).trans bb.box) (by decide) (by kernel_rfl) (hc1 v) (hc2 v) hv fun h3 w3 _=>?_;refine hK v h3 ⟨W,_,g,⟨w3,w.src,vb,v,lb,⟨rfl,rfl,(Own.ab (by simp)).trans ((Own.ab (by simp)).trans bb.blk),bb.len,bb.term,fun i hi=>?_,fun i hi=>?_⟩⟩,fun k hk=>?_⟩
 ·exact(Own.ab (by simp)).trans ((Own.ab (by simp)).trans (bb.phis i hi))
 ·exact(Own.ab (by simp)).trans ((Own.ab (by simp)).trans (bb.ins i hi))
 rw[Own.ab (by rintro rfl;simp at hk),Own.ab (by rintro rfl;simp at hk)];exact f k hk
section
variable {s:List Int} {M:Nat} {vs:Value} {W0:View} {h:Heap} {o0:Own} {m:MS}
variable{vd:Value}
theorem Hf{a p:Nat}{t:Nat}{x0:BL × MS}(x:Nx s M vs W0 h (o0.upd (6,0) (it T.bool vd x0.1)) x0.2)(hto:SlRd W0 vt to)(htl:to.length=n)(f7:o0 (7,0)=none)(f90:o0 (9,0)=none)(f91:o0 (9,1)=none)(q:B2 n a p x0)(hn:n<=10)(hp:p<=100)(ha:16000<=a)(ha2:a<=90000)(h0:aZ [2,3,4,5,7,11,12,13] ρ=[(2,vr),(3,.pointer (some ⟨M,0,none⟩)),(4,.int .i64 n),(5,vt),(7,vp),(11,vd),(12,.int .i64 t),(13,.int .i64 0)])(hQ : ∀h':Heap,Nx s M vs W0 h' (o0.upd (6,0) (it T.bool vd (up (cf s to n) n x0).1)) (up (cf s to n) n x0).2->Q .normal [(2,vr),(3,.pointer (some ⟨M,0,none⟩)),(4,.int .i64 n),(5,vt),(7,vp),(11,vd),(12,.int .i64 t),(13,.int .i64 n)] h'):
  LC.wp Tryz.prog (.block 8 (.loop L.ax.l5)) Q ρ h:=by
 have oks : ∀j,j<=n->B2 n (a+600*j) p (up (cf s to n) j x0):=by
  intro j;induction j with
  | zero=>intro _;exact q
  | succ j ih=>intro hj;have:=qK (s:=s) (to:=to) (b:=j) (ih (by omega)) (by omega) hn hp (by omega) fun h=>pI h;exact⟨this.z.mono (by omega) (LG _) (LG _),this.len,this.none⟩
 simp only[aR];refine aO [2,3,4,5,7,11,12,13] (fun(_:Unit) j=>[vr,.pointer (some ⟨M,0,none⟩),.int .i64 n,vt,vp,vd,.int .i64 t,.int .i64 j]) (fun _ j h2=>Nx s M vs W0 h2 (o0.upd (6,0) (it T.bool vd (up (cf s to n) j x0).1)) (up (cf s to n) j x0).2) n ()
  rfl (by omega) h0 x (fun _ _=>rfl) (fun v k h2 hk2 x2=>by simp) ?_ ?_
 ·rintro _ b h2 hlt x2 K2 hK2;have q2:=oks b (by omega);have e2:up (cf s to n) (b+1) x0=cf s to n b (up (cf s to n) b x0):=rfl;rw[e2]at hK2;generalize up (cf s to n) b x0=y at x2 hK2 q2;obtain⟨dn,m⟩:=y;have x2:Nx s M vs W0 h2 (o0.upd (6,0) (it T.bool vd dn)) m:=x2;have z:Sz n (a+600*b) p 700 m:=q2.z;have hdn:dn.length=n:=q2.len;have hbs:cf s to n b (dn,m)=_:=cf.eq_1 s to n b (dn,m);simp only at hbs;have sd:=x2.z.at (by decide) Own.af;simp only[aR];refine aa fun y hy=>?_;simp(disch:=omega)[sd.idx1 rfl,sd.bool (View.le_refl _)];subst hy;refine aa fun y hy=>?_;simp;refine x2.dy (k:=(7,0)) (α:=BL) (by decide) ((Own.ab (by simp)).trans f7) El.pM fun va h3 hva x3=>?_;clear sd;subst hy;refine aa fun y hy=>?_;refine aa fun w hw=>?_;simp;subst hw;refine Hx (vr:=vr) (vt:=vt) (vp:=vp) (vd:=vd) (t:=t) (b:=b) (r:=!nth dn b) x3 ((Own.ab (by simp)).trans f7) z (by omega) (by simp[aZ,ag,ah]) fun h4 W4 va hW4 x4 sa=>?_;clear x3 hva x2;have hal:(p8 m.f n).length=n:=by unfold p8;simp
  have har : ∀i,i<n->(nth (p8 m.f n) i).length=n:=fun i hi=>by unfold p8;rw[eQ hi,lD];exact z.len
  generalize p8 m.f n=away at sa hbs hal har;simp;subst hy;refine aa fun y hy=>?_;refine aa fun w hw=>?_;simp;subst hw;have sd:=x4.z.at (by decide) Own.af;refine Hq (M:=M) (n:=n) (b:=b) (vr:=vr) (vt:=vt) (vp:=vp) (vd:=vd) (va:=va) (t:=t) (r:=!nth dn b) sd (sa.mono x4.z.le) hlt hdn hal har (by omega) (by simp[aZ,ag,ah]) ?_;have hrd:up (fun a r=>r&&(decide (a=b)||nth dn a||nth (nth away a) b)) n (!nth dn b)=sr dn away b n:=rfl;rw[hrd];simp;subst hy;refine aa fun y hy=>?_;refine aa fun w hw=>?_;simp;subst hw;cases hr:sr dn away b n with
  | false=>rw[hr]at hbs;rw[if_neg (by simp)]at hbs;refine aw (by simp) ?_;simp;refine hK2 () _ _ rfl rfl ?_;rw[hbs];exact x4.up hW4
  | true=>
   rw[hr]at hbs;rw[if_pos rfl]at hbs;have hnb:=pI hr;have hib:=q2.none b hlt hnb;refine au (by simp) ?_;simp;subst hy;refine aa fun y hy=>?_;simp(disch:=omega)[sd.idx1 rfl];refine x4.z.wm (k:=(6,0)) (α:=Bool) (i:=b) (d:=true) rfl (by decide) Own.af (by omega) (by kernel_rfl) rfl rfl (fun W=>uv.2 rfl) fun h5 n5=>?_;have x5:Nx s M vs W4 h5 (o0.upd (6,0) (it T.bool vd (dn.set b true))) m:=n5.x.re fun q=>by rw[cz]
   clear n5 x4 sd;subst hy;refine aa fun y hy=>?_;simp;refine x5.Fc (fun _=>rfl) (fun _=>rfl) fun v6 h6 x6=>?_;subst hy;obtain⟨c,hc⟩ : ∃c:Nat,m.ps=c:=⟨m.ps.toNat,by have:=z.ps0;omega⟩;have hc4:c<=4:=by have:=z.ps1;omega
   refine aa fun y hy=>?_;refine aa fun w hw=>?_;simp;subst hw;refine HM (n:=n) (b:=b) (vr:=vr) (vt:=vt) (vp:=vp) (vd:=vd) (va:=va) (t:=t) (r:=true) x6 z hc (by simp[aZ,ag,ah]) fun h7 x7=>?_;simp;subst hy;refine aa fun y hy=>?_;refine aa fun w hw=>?_;simp;subst hw;refine H3 (n:=n) (b:=b) (vr:=vr) (vt:=vt) (vp:=vp) (vd:=vd) (va:=va) (t:=t) (dn:=dn.set b true) (away:=away) x7 z Own.af sa hlt (by rw[LN];exact hdn) hal har hn (by simp;omega) (by omega) (by omega) (by simp[aZ,ag,ah]) fun h8 x8=>?_;have hlv:up (jq m (dn.set b true) away b) n (rows (fun i=>(i:Int)) c)=mo m (dn.set b true) away b n:=by unfold mo;rw[hc];rfl
   rw[hlv]at x8;have hll:=xf (dn:=dn.set b true) (away:=away) (b:=b) z hn hp;have hdo:jx s to n (dn.set b true) away b m=pq s (nth to b) b (up (fun _=>aQ s b) (aG s m.at_ 7).toNat (MS.took (m.cT (mo m (dn.set b true) away b n)))):=rfl;rw[hdo]at hbs;obtain⟨m1,hm1⟩ : ∃m1,m1=m.cT (mo m (dn.set b true) away b n):=⟨_,rfl⟩;have z1:Sz n (a+600*b) p 700 m1:=by rw[hm1];exact⟨z.at_,z.n0,z.next,by show(mo _ _ _ _ _).length<=_;omega,z.ps0,z.ps1,z.len,z.phis,z.ins⟩
   have ea:m.at_=m1.at_:=by rw[hm1];rfl
   rw[<-hm1]at x8 hbs;rw[ea]at hbs;clear hlv hdo hm1 ea x7 x6 x5;simp;subst hy;refine aa fun y hy=>?_;simp;refine aj (by kernel_rfl) (fD x8.z (z1.ok (by omega)) (by omega) (k:=7) (by decide) (by decide)) ?_;rintro _ h9 ⟨rfl,n9⟩;obtain⟨t0,t1⟩:=cc (s:=s) (at_:=m1.at_) (n:=7) (by decide);generalize aG s m1.at_ 7=kk at hbs t0 t1;obtain⟨k,rfl⟩ : ∃k:Nat,kk=k:=⟨kk.toNat,by omega⟩;rw[show((k:Int)).toNat=k by omega]at hbs;subst hy;refine aa fun y hy=>?_;refine aa fun w hw=>?_;simp;subst hw;have zok:=(z1.took).ok (show 700<=_ by omega);refine Ge (n:=n) (b:=b) (k:=k) (c:=a+600*b+1) (vr:=vr) (vt:=vt) (vp:=vp) (vd:=vd) (va:=va) (t:=t) n9.x ((Own.ab (by simp)).trans f90) zok (by omega) (by omega) (by show b<m1.blocks.length;rw[z1.len];exact hlt) (by simp[aZ,ag,ah]) fun h10 x10=>?_;have oks2 : ∀j,(up (fun _=>aQ s b) j m1.took).ok (a+600*b+1+80*j)/\(up (fun _=>aQ s b) j m1.took).blocks.length=n:=by
    intro j;induction j with
    | zero=>exact⟨zok,z1.len⟩
    | succ j ih=>exact⟨(ih.1.jJ (s:=s) (b:=b)).mono (by omega),(nU (s:=s) (b:=b)).trans ih.2⟩
   obtain⟨k1,k2⟩:=oks2 k;generalize up (fun _=>aQ s b) k m1.took=m2 at x10 hbs k1 k2;obtain⟨rv,hrv⟩:=hto.rows;obtain⟨hr1,hr2⟩:=hrv b (by omega);have ito:=(hto.mono hW4).mono x10.z.le;simp;subst hy;simp(disch:=omega)[ito.idx1 rfl,hr1 _ (View.le_trans hW4 x10.z.le)];refine aj (by kernel_rfl) (JP x10 (b:=b) (by omega) k1 (by omega) ((Own.ab (by simp)).trans f91) (hr2.mono hW4)) ?_;rintro _ h11 x11;refine hK2 () _ _ rfl rfl ?_;rw[hbs];exact x11.up hW4
 rintro _ h2 x2;exact hQ h2 x2
end
section
structure GdB (x:BlkD):Prop where
 ins : ∀i∈x.ins,i.args.length<=10
 args:x.term.args.length<=10
 to:x.term.to.length<=1000
 phis : ∀p∈x.phis,p.ins.length<=1000
def Gd (m:MS):Prop:=∀j,j<m.blocks.length->GdB (nth m.blocks j)
variable {s:List Int} {m:MS} {b:Nat}
theorem Gd.took (g:Gd m):Gd m.took:=g
theorem Gd.aJ (g:Gd m):Gd m.aJ:=g
theorem Gd.bj(g:Gd m){x:BlkD}(hx:b<m.blocks.length->GdB x):Gd { m with blocks:=m.blocks.set b x }:=fun j hj=>by
 have hj:j<m.blocks.length:=by simpa using hj
 show GdB (nth (m.blocks.set b x) j);rw[aF hj];split
 ·rename_i e;exact hx (by omega)
 exact g j hj
theorem Gd.add (g:Gd m) {i:InsD} (hi:i.args.length<=10):Gd (m.add b i):=by
 have:=g.bj (b:=b) (x:={ nth m.blocks b with ins:=(nth m.blocks b).ins++[i] }) fun hb=>⟨fun j hj=>by
  rcases LP.1 hj with h | h
  ·exact(g b hb).ins j h
  rw[LM]at h;rw[h];exact hi,(g b hb).args,(g b hb).to,(g b hb).phis⟩;exact this
theorem Gd.constant (g:Gd m) {n:Int}:Gd (m.constant b n):=g.aJ.add (by show 0<=10;omega)
theorem Gd.two (g:Gd m) {op x y:Int}:Gd (m.two b op x y):=g.aJ.add (by show 2<=10;omega)
theorem Gd.aK (g:Gd m):Gd (aK s m b).2:=by
 unfold Go.Proofs.YtbkdlhkoiagbbaaGreat.aK;repeat' split
 ·exact g.took.took.constant
 ·exact g.took.took.took.took.took.constant
 exact g.took.took.took
theorem Gd.addr(g:Gd m):Gd (nT s m b).2:=by
 unfold nT;simp only;split
 ·exact g.took.constant.took.aK.constant.two.two
 exact g.took.constant.took
theorem Gd.off(g:Gd m):Gd (offS s m).2:=by
 unfold offS;split
 ·exact g.took.took.took.took
 exact g.took.took
theorem Gd.memory(g:Gd m){st:Bool}:Gd (jw s m b st):=by
 unfold jw;simp only;split
 ·exact g.addr.off.aK.add (by show 2<=10;omega)
 exact g.addr.off.aJ.add (by show 1<=10;omega)
theorem Gd.bin(g:Gd m){op:Int}:Gd (binS s m b op):=by
 unfold binS;simp only;split
 ·exact g.aK.aK.took.took.constant.two
 exact g.aK.aK.took.two
theorem Gd.div(g:Gd m):Gd (divS s m b):=by
 unfold divS;simp only;split
 ·exact g.aK.took.constant.took.took.constant.two
 exact g.aK.took.constant.took.two
theorem Gd.args {x:List Int × MS} (g:Gd x.2) : ∀n,Gd (up (iR s b) n x).2/\(up (iR s b) n x).1.length=x.1.length+n
 | 0=>⟨g,rfl⟩
 | n+1=>⟨(Gd.args g n).1.aK,by show((up (iR s b) n x).1++[_]).length=_;rw[LH,(Gd.args g n).2,LJ];omega⟩
theorem Gd.call(g:Gd m):Gd (nZ s m b):=by unfold nZ;simp only;have ht:=cc (s:=s) (at_:=m.at_) (n:=5) (by decide);obtain⟨g2,l2⟩:=Gd.args (s:=s) (b:=b) (x:=([],m.took)) g.took (aG s m.at_ 5).toNat;refine g2.aJ.took.add ?_;show(up (iR s b) (aG s m.at_ 5).toNat ([],m.took)).1.length<=10;rw[l2];simp;omega
theorem Gd.jJ(g:Gd m):Gd (aQ s b m):=by
 unfold aQ;simp only;repeat' split
 ·exact g.took.bin
 ·unfold ltuS;exact g.took.aK.aK.two
 ·exact g.took.div
 ·exact g.took.memory
 ·exact g.took.call
 ·unfold xI;exact g.took.aK.aK.aJ.aJ.add (by show 2<=10;omega)
 exact g.took.took.took.constant
theorem Gd.jh (g:Gd m) : ∀n,Gd (up (fun _=>aQ s b) n m)
 | 0=>g
 | n+1=>(Gd.jh g n).jJ
theorem Gd.Ku(g:Gd m){to:List Int}(ht:to.length<=1000):Gd (pq s to b m):=by
 have h:Gd (jd s to b m).2/\(jd s to b m).1.args.length<=10/\(jd s to b m).1.to.length<=1000:=by
  unfold jd;simp only;repeat' split
  ·exact⟨g.took.took,by show 0<=10;omega,by show 0<=1000;omega⟩
  ·exact⟨g.took.aK,by show 1<=10;omega,by show 0<=1000;omega⟩
  ·exact⟨g.took,by show 0<=10;omega,by show 0<=1000;omega⟩
  ·exact⟨g,by show 0<=10;omega,ht⟩
  ·exact⟨g.aK.took.aK.aJ.took.add (by show 2<=10;omega),by show 1<=10;omega,ht⟩
  ·exact⟨g.aK.took,by show 1<=10;omega,ht⟩
  exact⟨g.aK.constant.two,by show 1<=10;omega,ht⟩
 obtain⟨h1,h2,h3⟩:=h;exact h1.bj fun hb=>⟨(h1 b hb).ins,h2,h3,(h1 b hb).phis⟩
theorem Gd.gO (g:Gd m) {l:List Int} (hl:l.length<=1000):Gd (m.gO b l):=g.bj fun hb=>⟨(g b hb).ins,(g b hb).args,hl,(g b hb).phis⟩
theorem Gd.fS (g:Gd m):Gd (Go.Proofs.YtbkdlhkoiagbbaaGreat.fS b m):=by
 have:=g.aJ.bj (b:=b) (x:={ nth m.blocks b with phis:=(nth m.blocks b).phis++[⟨m.next,[]⟩] }) fun hb=>⟨(g b hb).ins,(g b hb).args,(g b hb).to,fun p hp=>by
  rcases LP.1 hp with h | h
  ·exact(g b hb).phis p h
  rw[LM]at h;rw[h];show 0<=1000;omega⟩;exact this
theorem Gd.pG (g:Gd m) : ∀n,Gd (up (fun _=>Go.Proofs.YtbkdlhkoiagbbaaGreat.fS b) n m)
 | 0=>g
 | n+1=>(Gd.pG g n).fS
theorem Gd.rq (g:Gd m) {i:Nat} {l:List InD} (hl:l.length<=1000):Gd (m.rq b i l):=g.bj fun hb=>⟨(g b hb).ins,(g b hb).args,(g b hb).to,fun p hp=>by
 rcases MY hp with h | h
 ·exact(g b hb).phis p h
 rw[h];exact hl⟩
theorem Gd.smF{a p i:Nat}(g:Gd m)(z:Sz n a p i m)(hn:n<=10000)(hp:p<=10000)(hi:i<=10000):SmF m.f:=by refine⟨by show m.blocks.length<=_;rw[z.len];exact hn,fun j hj=>?_⟩;have hj:j<m.blocks.length:=hj;have h:=g j hj;have e:nth m.f.blocks j=nth m.blocks j:=rfl;rw[e];exact⟨L9 (z.phis j) hp,L9 (z.ins j) hi,by have:=h.args;omega,by have:=h.to;omega,fun k hk=>by have:=h.phis _ (bc hk);omega,fun k hk=>by have:=h.ins _ (bc hk);omega⟩
theorem uJ {f:an} : ∀n,∀t∈thTo f n,t.mks.length<=1000
 | 0,t,h=>by cases h
 | n+1,t,h=>by
  rw[iE]at h;rcases LP.1 h with h | h
  ·exact uJ n t h
  unfold thB at h;simp only[LP,LM,rows,MR,M7]at h;rcases h with(⟨i,_,rfl⟩ | ⟨i,_,rfl⟩) | rfl
  ·show 1<=1000;omega
  ·show(dc _).length<=1000;unfold dc;repeat' split
   all_goals simp
  show 0<=1000;omega
theorem zI {n a p i:Nat} (z:Sz n a p i m) : ∀k,(thTo m.f k).length<=(p+i+1)*k
 | 0=>LG _
 | k+1=>by have h1:=zI z k;have h2:=z.phis k;have h3:=z.ins k;have e:nth m.f.blocks k=nth m.blocks k:=rfl;rw[iE,LH,Ot];unfold thB;simp only[LH,fP,LJ,e];omega
theorem rK{a p i:Nat}(z:Sz n a p i m)(hn:n<=10)(hp:p<=1000)(hi:i<=3000):(aL m.f).length<=60000:=by
 have h1:=zI z n;have h2:(p+i+1)*n<=5000*10:=N0 (by omega) hn;have e:aL m.f=thTo m.f n:=by unfold aL;rw[show m.f.blocks.length=n from z.len]
 rw[e];omega
theorem vc{a p i:Nat}(z:Sz n a p i m)(hn:n<=10)(hp:p<=1000)(hi:i<=3000):(jj m.f b).length<=70000000:=by
 have h:=xw (l:=aL m.f) (f:=m.f) (b:=b) (c:=1000) (uJ _) (out:=rows (fun i=>(i:Int)) m.f.params.toNat);have h2:=rK z hn hp hi;have h3:m.f.params.toNat<=4:=by have:=z.ps1;show m.ps.toNat<=4;omega
 rw[fP]at h;have e:jj m.f b=(aL m.f).foldl (fj m.f b) (rows (fun i=>(i:Int)) m.f.params.toNat):=rfl;rw[e];omega
end
structure P3 (n a p i:Nat) (m:MS):Prop where
 z:Sz n a p i m
 g:Gd m
theorem P3.mono {n a p i a' p' i':Nat} {m:MS} (q:P3 n a p i m) (h1:a<=a') (h2:p<=p') (h3:i<=i'):P3 n a' p' i' m:=⟨q.z.mono h1 h2 h3,q.g⟩
theorem Sz.const{a p i:Nat}{m:MS}{k:Int}(z:Sz n a p i m):Sz n (a+3) p (i+1) (m.constant b k):=by have h1:Sz n (a+3) p (i+1) { m.aJ with live:=m.live++dc (conD m.next k) }:=⟨by have:=z.at_;show m.at_<=_;omega,by have:=z.n0;show 0<=m.next+1;omega,by have:=z.next;show m.next+1<=_;omega,by have:=z.live;show(m.live++[m.next]).length<=_;rw[LH,LJ];omega,z.ps0,z.ps1,z.len,z.phis,fun j=>by have:=z.ins j;show(nth m.blocks j).ins.length<=_;omega⟩;exact h1.bj (b:=b) (x:={ nth m.blocks b with ins:=(nth m.blocks b).ins++[conD m.next k] }) (z.phis b) (by have:=z.ins b;show((nth m.blocks b).ins++[_]).length<=_;rw[LH,LJ];omega)
theorem Sz.rq {n a p i b j:Nat} {m:MS} {l:List InD} (z:Sz n a p i m):Sz n a p i (m.rq b j l):=
 z.bj (by show((nth m.blocks b).phis.set j _).length<=_;rw[LN];exact z.phis b) (z.ins b)
def rowS (s:List Int) (b:Nat) (m:MS):List Int × MS:=if(jj m.f b).length=0 then([m.next],m.took.took.constant b (kS s m)) else(jj m.f b,m)
theorem EN{s:List Int}{m:MS}:0<(rowS s b m).1.length:=by
 unfold rowS;split
 ·show 0<1;omega
 show 0<(jj m.f b).length;omega
theorem GR{s:List Int}{a p i:Nat}{m:MS}(z:Sz n a p i m)(hn:n<=10)(hp:p<=1000)(hi:i<=3000):(rowS s b m).1.length<=70000000:=by
 unfold rowS;split
 ·show 1<=70000000;omega
 exact vc z hn hp hi
theorem Cl{s:List Int}{a p i:Nat}{m:MS}(q:P3 n a p i m):P3 n (a+5) p (i+1) (rowS s b m).2:=by
 unfold rowS;split
 ·exact⟨(q.z.took.took.const).mono (by omega) (LG _) (LG _),q.g.took.took.constant⟩
 exact q.mono (by omega) (LG _) (by omega)
theorem DV{s:List Int}{p:List Int}{k:Nat}{x:List InD × MS}(h:nth p k=b):dT s p k x=(x.1++[⟨b,nth (rowS s b x.2).1 (aG s (rowS s b x.2).2.at_ (rowS s b x.2).1.length).toNat⟩],(rowS s b x.2).2.took):=by unfold dT;rw[h];rfl
theorem kh {s:List Int} {n a p i:Nat} {pl:List Int} {x:List InD × MS} (q:P3 n a p i x.2) : ∀k,P3 n (a+6*k) p (i+k) (up (dT s pl) k x).2/\(up (dT s pl) k x).1.length=x.1.length+k
 | 0=>⟨q,rfl⟩
 | k+1=>by
  obtain⟨h1,h2⟩:=kh (pl:=pl) q k;have h3:=Cl (s:=s) (b:=(nth pl k).toNat) h1;refine⟨?_,?_⟩
  ·have e:(up (dT s pl) (k+1) x).2=(rowS s (nth pl k).toNat (up (dT s pl) k x).2).2.took:=rfl;rw[e];exact⟨(h3.z.took).mono (by omega) (LG _) (by omega),h3.g.took⟩
  have e:(up (dT s pl) (k+1) x).1=(up (dT s pl) k x).1++[⟨nth pl k,nth (rowS s (nth pl k).toNat (up (dT s pl) k x).2).1 (aG s (rowS s (nth pl k).toNat (up (dT s pl) k x).2).2.at_ (rowS s (nth pl k).toNat (up (dT s pl) k x).2).1.length).toNat⟩]:=rfl;rw[e,LH,h2,LJ];omega
variable{pl:List Int}
theorem Hv{s:List Int}{a p i j:Nat}{m:MS}(q:P3 n a p i m)(hp:pl.length<=9):P3 n (a+54) p (i+9) (phi3 s b pl j m):=by obtain⟨h1,h2⟩:=kh (s:=s) (pl:=pl) (x:=([],m)) q pl.length;exact⟨(h1.z.rq).mono (by omega) (LG _) (by omega),h1.g.rq (by rw[h2];show 0+_<=_;omega)⟩
theorem nM {s:List Int} {n a p i b:Nat} {pl:List Int} {m:MS} (q:P3 n a p i m) (hp:pl.length<=9) : ∀k,P3 n (a+54*k) p (i+9*k) (up (phi3 s b pl) k m)
 | 0=>q
 | k+1=>(Hv (nM q hp k) hp).mono (by omega) (LG _) (by omega)
theorem Fb{H:View}{a b:Int}(ha:I64 a)(hb:I64 b):Rd H (.agg #[.int .i64 a,.int .i64 b]) (InD.mk a b):=⟨_,rfl,[.int .i64 a],[.int .i64 b],rfl,⟨rfl,ha⟩,rfl,hb⟩
section
variable {s:List Int} {M:Nat} {vs:Value} {W0:View} {h:Heap} {o0:Own} {m:MS}
theorem Nx.HK(x:Nx s M vs W0 h o0 m){h':Heap}{k:Key}{u:Value}{l:List Int}(h3:3<=k.1)(hk:o0 k=none)(hle:(vw h).le (vw h'))(hb : ∀b,u.ownBlock=some b->h.size<=b)(ho:OwnT nothing h' T.int u l):Nx s M vs W0 h' (o0.upd k (it T.int u l)) m:=by
 obtain⟨W,o,g,w,f⟩:=x;have w2:=w.own.add (k:=k) ((f k h3).trans hk) (AP (W':=W) ho) hle hb;obtain⟨vb,vl,lb,bb⟩:=w.box;refine⟨W,_,g,⟨w2,w.src,vb,vl,lb,bb.frame fun q hq=>Own.ab (by rintro rfl;omega)⟩,fun q hq=>?_⟩;unfold Own.upd;split
 ·rfl
 exact f q hq
theorem Nx.freeze {α:Type} [r:Rep α] {k:Key} {e:TypeId} {v:Value} {l:List α} (x:Nx s M vs W0 h (o0.upd k (it e v l)) m) (h3:3<=k.1) (hk:o0 k=none) : ∃W',W0.le W'/\Nx s M vs W' h o0 m/\SlRd W' v l:=by
 obtain⟨W,o,g,w,f⟩:=x;have hk2:=(f k h3).trans Own.af;obtain⟨w2,sl⟩:=w.own.freeze hk2;have hWp:=eD (h:=h) (w.own.av _ _ hk2);obtain⟨vb,vl,lb,bb⟩:=w.box;refine⟨_,View.le_trans g hWp,⟨_,_,View.le_refl _,⟨w2,w.src.mono hWp,vb,vl,lb,bb.frame fun q hq=>Own.ab (by rintro rfl;omega)⟩,fun q hq=>?_⟩,sl⟩;by_cases e2:q=k
 ·rw[e2,Own.af,hk]
 rw[Own.ab e2,f q hq,Own.ab e2]
theorem Nx.fg {po po2:OP} {α:Type} [r:Rep α] {k:Key} {e t ty ty2:TypeId} {bytes:Nat} {z:Value} {v:Value} {l:List α} (x:Nx s M vs W0 h o0 m) (h3:3<=k.1) (hk:o0 k=it e v l) {a y y2:Operand} {us:List (Nat × Value)} {us2:Value->List (Nat × Value)} {u:Value} {d:α} {K:Value->Value->Heap->Prop} (hT:ff Tryz.prog t e (Rep.n α) bytes z) (hx:asg us a=u) (hr : ∀W,Rd W u d)
  (hb:(l.length+1)*bytes<=140737488355328) (hb2:l.length+1<=140737488355328) (hy : ∀u,asg (us2 u) y=v) (hy2 : ∀u,asg (us2 u) y2=u)
  (hK : ∀u v' h',Nx s M vs W0 h' (o0.upd k (it e v' (l++[d]))) m->K u v' h') :
  @Lft.step po Tryz.prog (.buildSlice t 1 #[(0,a)]) ty us h fun u h2=>@Lft.step po2 Tryz.prog (.call ⟨.builtin .append,#[y,y2],#[t,t]⟩) ty2 (us2 u) h2 fun v' h3=>K u v' h3:=by
 obtain⟨W,o,g,w,f⟩:=x;refine w.own.fg (k:=k) (d:=d) ((f k h3).trans hk) hT hx (hr W) hb hb2 hy hy2 fun u v' h' w2 _=>hK u v' h' ?_;obtain⟨vb,vl,lb,bb⟩:=w.box;refine⟨W,_,g,⟨w2,w.src,vb,vl,lb,bb.frame fun q hq=>Own.ab (by rintro rfl;omega)⟩,fun q hq=>?_⟩;unfold Own.upd;split
 ·rfl
 exact f q hq
variable{vd:Value}
theorem Gv{a p i j:Nat}{vq vi:Value}(x:Nx s M vs W0 h (o0.upd (7,2) (it T.bI vi ([]:List InD))) m)(f71:o0 (7,1)=none)(q:P3 n a p i m)(hn:n<=10)(ha:a<=500000)(hia:i<=a)(hp:p<=100)(hi:i<=2000)(hq:SlRd W0 vq pl)(hpl:pl.length<=9)(hpr : ∀k,k<pl.length->∃c:Nat,nth pl k=c/\c<n)(h0:aZ [2,3,4,5,7,11,25,26,27,28,29] ρ=[(2,vr),(3,.pointer (some ⟨M,0,none⟩)),(4,.int .i64 n),(5,vt),(7,vp),(11,vd),(25,.int .i64 b),(26,vq),(27,.int .i64 j),(28,vi),(29,.int .i64 0)])(hQ : ∀(h':Heap) vi,Nx s M vs W0 h' (o0.upd (7,2) (it T.bI vi (up (dT s pl) pl.length ([],m)).1)) (up (dT s pl) pl.length ([],m)).2->Q .normal [(2,vr),(3,.pointer (some ⟨M,0,none⟩)),(4,.int .i64 n),(5,vt),(7,vp),(11,vd),(25,.int .i64 b),(26,vq),(27,.int .i64 j),(28,vi),(29,.int .i64 pl.length)] h'):
  LC.wp Tryz.prog (.block 28 (.loop L.ax.l15)) Q ρ h:=by
 simp only[aR];refine aO [2,3,4,5,7,11,25,26,27,28,29] (fun(vi:Value) k=>[vr,.pointer (some ⟨M,0,none⟩),.int .i64 n,vt,vp,vd,.int .i64 b,vq,.int .i64 j,vi,.int .i64 k]) (fun vi k h2=>Nx s M vs W0 h2 (o0.upd (7,2) (it T.bI vi (up (dT s pl) k ([],m)).1)) (up (dT s pl) k ([],m)).2) pl.length vi
  rfl (by omega) h0 x (fun _ _=>rfl) (fun v k h2 hk2 x2=>by simp[hq.len]) ?_ ?_
 ·rintro vi k h2 hlt x2 K2 hK2;obtain⟨q2,hl2⟩:=kh (s:=s) (pl:=pl) (x:=([],m)) q k;obtain⟨c,hc,hcn⟩:=hpr k hlt;have e2:up (dT s pl) (k+1) ([],m)=dT s pl k (up (dT s pl) k ([],m)):=rfl;rw[e2,DV hc]at hK2;have hl2:(up (dT s pl) k ([],m)).1.length<=9:=by rw[hl2];simp;omega
  generalize up (dT s pl) k ([],m)=y at x2 hK2 q2 hl2;obtain⟨il,m2⟩:=y;have q2:P3 n (a+54) p (i+9) m2:=P3.mono q2 (by omega) (LG _) (by omega);have hl2:il.length<=9:=hl2;have x2:Nx s M vs W0 h2 (o0.upd (7,2) (it T.bI vi il)) m2:=x2;simp only at hK2;have hcell : ∀{h':Heap},W0.le (vw h')->ao (vw h') ((slA vq).add k)=some (.int .i64 c):=fun g=>by rw[hq.int g hlt,hc]
  have hcell0:ao W0 ((slA vq).add k)=some (.int .i64 c):=by rw[hq.int (View.le_refl _) hlt,hc]
  have hrow:rowS s c m2=_:=rowS.eq_1 s c m2;have hq3:=Cl (s:=s) (b:=c) q2;have hpos:=EN (s:=s) (b:=c) (m:=m2);have hrl0:=GR (s:=s) (b:=c) q2.z hn (by omega) (by omega);simp only[aR];refine aa fun y hy=>?_;obtain⟨vb,vl,rd⟩:=x2.z.reads;refine bF (vw h2) (View.le_refl _) ?_;simp(disch:=omega)[rd.f,(hq.mono x2.z.le).idx1 rfl,hcell x2.z.le];have hth:(aL m2.f).length<=60000:=rK q2.z hn (by omega) (by omega)
  refine aj (by kernel_rfl) (zx (b:=c) (rd.rd (GQ q2.z)) (q2.g.smF q2.z (by omega) (by omega) (by omega)) ⟨q2.z.ps0,by have:=q2.z.ps1;show m2.ps<=_;omega⟩ (by show c<m2.blocks.length;rw[q2.z.len];exact hcn) (uJ _) (by omega)) ?_;rintro u3 h3 ⟨hle3,hb3,ho3⟩;have x3:=x2.HK (k:=(7,1)) (by decide) ((Own.ab (by simp)).trans f71) hle3 hb3 ho3;clear rd x2 ho3 hb3;generalize jj m2.f c=sl at x3 hrow;subst hy;refine aa fun y hy=>?_;have fin : ∀(v30:Value) (h':Heap) (ρ:Env),Nx s M vs W0 h' ((o0.upd (7,2) (it T.bI vi il)).upd (7,1) (it T.int v30 (rowS s c m2).1)) (rowS s c m2).2->Lft.look ρ 2=some vr->Lft.look ρ 3=some (.pointer (some ⟨M,0,none⟩))->Lft.look ρ 4=some (.int .i64 n)->Lft.look ρ 5=some vt->Lft.look ρ 7=some vp->Lft.look ρ 11=some vd->Lft.look ρ 25=some (.int .i64 b)->Lft.look ρ 26=some vq->Lft.look ρ 27=some (.int .i64 j)->Lft.look ρ 28=some vi->Lft.look ρ 29=some (.int .i64 k)->Lft.look ρ 30=some v30->
    LC.wp Tryz.prog y (dJ 29 (gr K2 (dJ 28 Q))) ρ h':=by
   intro v30 h' ρ x4 r2 r3 r4 r5 r7 r11 r25 r26 r27 r28 r29 r30;subst hy;generalize rowS s c m2=r at x4 hK2 hq3 hpos hrl0;obtain⟨W4,hW4,x4,s4⟩:=x4.freeze (by decide) ((Own.ab (by simp)).trans f71);have hrl:=s4.bound;refine bF W4 x4.z.le ?_;simp(disch:=omega)[ag,ah,r2,r3,r4,r5,r7,r11,r25,r26,r27,r28,r29,r30,(hq.mono hW4).idx1 rfl,ae hW4 hcell0,s4.len];refine aj (by kernel_rfl) (fD x4.z (hq3.z.ok (by omega)) (by omega) (k:=(r.1.length:Int)) (by omega) (by omega)) ?_;rintro _ h5 ⟨rfl,n5⟩;refine⟨n5.le,?_⟩;obtain⟨t0,t1⟩:=cc (s:=s) (at_:=r.2.at_) (n:=(r.1.length:Int)) (by omega);generalize aG s r.2.at_ (r.1.length:Int)=tv at t0 t1 hK2;have hrng:=s4.range (i:=tv.toNat) (by omega);simp(disch:=omega)[ag,ah,r2,r3,r4,r5,r7,r11,r25,r26,r27,r28,r29,r30,s4.idx1 rfl,s4.int (View.le_refl _)];refine aE (z:=.agg #[.int .i64 0,.int .i64 0]) (places:=[(0,1),(1,1)]) (vs:=[(0,.int .i64 c),(1,.int .i64 (nth r.1 tv.toNat))]) (cs:=#[.int .i64 c,.int .i64 (nth r.1 tv.toNat)]) (by kernel_rfl) (by kernel_rfl) (by simp) (by rfl) ?_;refine n5.x.fg (k:=(7,2)) (α:=InD) (d:=⟨c,nth r.1 tv.toNat⟩) (by decide) Own.af El.bZ rfl (fun W=>Fb ⟨by omega,by omega⟩ hrng) (by omega) (by omega) (fun _=>rfl) (fun _=>rfl) fun u v' h6 x6=>?_;refine hK2 v' _ _ ?_ ?_ ((x6.re fun q=>by rw[cz]).up hW4)
   ·simp[ag,ah,r29]
   simp[aZ,ag,ah,r2,r3,r4,r5,r7,r11,r25,r26,r27,r28,r29]
  have hsl:=(x3.z.at (k:=(7,1)) (by decide) Own.af).len (K:=vw h3);have hlen3 : ∀{Q:View},Un.ev Q .len u3=some (.int .i64 sl.length):=fun{Q}=>(x3.z.at (k:=(7,1)) (by decide) Own.af).len;refine aa fun w hw=>?_;simp[hlen3];subst hw;by_cases c0:sl.length=0
  ·have c0':sl=[]:=LO c0;rw[if_pos c0]at hrow;refine aw (by simp[c0,c0']) ?_;refine bF W0 x3.z.le ?_;simp(disch:=omega)[hq.idx1 rfl,hcell0];refine aj (by kernel_rfl) (yx x3.z (q2.z.ok (by omega)) (by omega)) ?_;rintro _ h4 ⟨rfl,n4⟩;refine⟨n4.le,?_⟩;refine aj (by kernel_rfl) (gW n4 (b:=c) (by show c<m2.blocks.length;rw[q2.z.len];exact hcn) (q2.z.took.took.ok (by omega)) (by omega) pJ) ?_;rintro _ h5 ⟨rfl,n5⟩;have i64:I64 m2.next:=by have:=q2.z.n0;have:=q2.z.next;constructor<;>omega
   subst c0';refine n5.x.fg (k:=(7,1)) (α:=Int) (d:=m2.next) (by decide) Own.af El.aS rfl (fun W=>dr.2 ⟨rfl,i64⟩) (by simp) (by simp) (fun _=>rfl) (fun _=>rfl) fun u v' h6 x6=>?_;refine fin v' h6 _ ?_ ?_ ?_ ?_ ?_ ?_ ?_ ?_ ?_ ?_ ?_ ?_ ?_
   ·rw[hrow];exact x6.re fun q=>by rw[cz];rfl
   all_goals simp
  rw[if_neg c0]at hrow;have c0':¬sl=[]:=fun e=>c0 (by rw[e];rfl);refine au (by simp[c0']) ?_;simp;refine fin u3 h3 _ ?_ ?_ ?_ ?_ ?_ ?_ ?_ ?_ ?_ ?_ ?_ ?_ ?_
  ·rw[hrow];exact x3
  all_goals simp
 rintro vi h2 x2;exact hQ h2 vi x2
end
def Pc (lp:List Int) (m:MS):Prop:=∀j,((nth m.blocks j).phis.length:Int)=nth lp j
variable{lp:List Int}
theorem Pc.grw{m m':MS}{k:Nat}(p:Pc lp m)(g:Grw b k m m'):Pc lp m':=fun j=>by
 by_cases e:j=b
 ·subst e;rw[g.phis];exact p j
 rw[g.els j e];exact p j
theorem Pc.bj{m:MS}{x:BlkD}(p:Pc lp m)(hx:x.phis.length=(nth m.blocks b).phis.length):Pc lp { m with blocks:=m.blocks.set b x }:=fun j=>by
 show((nth (m.blocks.set b x) j).phis.length:Int)=_;rcases LI j m.blocks.length with hl | hl
 ·rw[aF hl];split
  ·rename_i e;subst e;rw[hx];exact p b
  exact p j
 rw[cB (by simpa using hl)];have:=p j;rwa [cB hl]at this
theorem Pc.jx {s:List Int} {to:List (List Int)} {n b:Nat} {dn:BL} {away:List BL} {lp:List Int} {m:MS} (p:Pc lp m) (hb:b<m.blocks.length):Pc lp (jx s to n dn away b m):=by have p1:Pc lp (MS.took { m with live:=mo m dn away b n }):=p;have hb1:b<(MS.took { m with live:=mo m dn away b n }).blocks.length:=hb;have g:=((Grw.refl (b:=b) (m:=MS.took { m with live:=mo m dn away b n })).jh (s:=s) hb1 (aG s m.at_ 7).toNat).II (s:=s) (to:=nth to b) hb1;exact(p1.grw g).bj rfl
theorem Pc.cf {s:List Int} {to:List (List Int)} {n b:Nat} {lp:List Int} {x:BL × MS} (p:Pc lp x.2) (hb:b<x.2.blocks.length):Pc lp (cf s to n b x).2:=by
 unfold Go.Proofs.YtbkdlhkoiagbbaaGreat.cf;split
 ·exact p.jx hb
 exact p
theorem Pc.rowS {s:List Int} {b:Nat} {lp:List Int} {m:MS} (p:Pc lp m) (hb:b<m.blocks.length):Pc lp (rowS s b m).2:=by
 unfold Go.Proofs.YtbkdlhkoiagbbaaGreat.rowS;split
 ·have p1:Pc lp m.took.took:=p;exact p1.grw ((Grw.refl (b:=b) (m:=m.took.took)).constant hb)
 exact p
theorem DH{s:List Int}{m:MS}:(rowS s b m).2.blocks.length=m.blocks.length:=by
 unfold rowS;split
 ·exact dP
 rfl
theorem Pc.kh {s:List Int} {pl:List Int} {lp:List Int} {x:List InD × MS} (p:Pc lp x.2) (hb : ∀k,k<pl.length->(nth pl k).toNat<x.2.blocks.length) : ∀k,k<=pl.length->Pc lp (up (dT s pl) k x).2/\(up (dT s pl) k x).2.blocks.length=x.2.blocks.length
 | 0,_=>⟨p,rfl⟩
 | k+1,h=>by obtain⟨h1,h2⟩:=Pc.kh (s:=s) p hb k (by omega);have e:(up (dT s pl) (k+1) x).2=(Go.Proofs.YtbkdlhkoiagbbaaGreat.rowS s (nth pl k).toNat (up (dT s pl) k x).2).2.took:=rfl;rw[e];exact⟨h1.rowS (by rw[h2];exact hb k (by omega)),(mS).trans (DH.trans h2)⟩
theorem Pc.phi3 {s:List Int} {b j:Nat} {pl:List Int} {lp:List Int} {m:MS} (p:Pc lp m) (hb : ∀k,k<pl.length->(nth pl k).toNat<m.blocks.length):Pc lp (phi3 s b pl j m)/\(phi3 s b pl j m).blocks.length=m.blocks.length:=by obtain⟨h1,h2⟩:=Pc.kh (s:=s) (pl:=pl) (x:=([],m)) p hb pl.length (LG _);exact⟨h1.bj (by simp),by show(List.set _ _ _).length=_;rw[LN];exact h2⟩
theorem Pc.nM {s:List Int} {b:Nat} {pl:List Int} {lp:List Int} {m:MS} (p:Pc lp m) (hb : ∀k,k<pl.length->(nth pl k).toNat<m.blocks.length) : ∀k,Pc lp (up (Go.Proofs.YtbkdlhkoiagbbaaGreat.phi3 s b pl) k m)/\(up (Go.Proofs.YtbkdlhkoiagbbaaGreat.phi3 s b pl) k m).blocks.length=m.blocks.length
 | 0=>⟨p,rfl⟩
 | k+1=>by obtain⟨h1,h2⟩:=Pc.nM (s:=s) (b:=b) p hb k;obtain⟨h3,h4⟩:=Pc.phi3 (s:=s) (b:=b) (j:=k) h1 (fun k hk=>by rw[h2];exact hb k hk);exact⟨h3,h4.trans h2⟩
theorem vK {p:Nat->Bool} : ∀(n:Nat) (v:Int),v∈sift p (fun a=>(a:Int)) n->∃c:Nat,v=c/\c<n
 | 0,v,h=>by cases h
 | n+1,v,h=>by
  cases hp:p n with
  | true=>
   rw[jk hp]at h;rcases LP.1 h with h | h
   ·obtain⟨c,h1,h2⟩:=vK n v h;exact⟨c,h1,by omega⟩
   rw[LM]at h;exact⟨n,h,by omega⟩
  | false=>rw[hZ hp]at h;obtain⟨c,h1,h2⟩:=vK n v h;exact⟨c,h1,by omega⟩
theorem zA{p:Nat->Bool}(n k:Nat)(hk:k<(sift p (fun a=>(a:Int)) n).length): ∃c:Nat,nth (sift p (fun a=>(a:Int)) n) k=c/\c<n:=vK n _ (bc hk)
section
variable {s:List Int} {M:Nat} {vs:Value} {W0:View} {h:Heap} {o0:Own} {m:MS}
theorem Nx.KN{α:Type}[r:Rep α](x:Nx s M vs W0 h o0 m){h':Heap}{u:Value}{l:List α}(hle:(vw h).le (vw h'))(hs:SlRd (fresh h h') u l): ∃W',W0.le W'/\Nx s M vs W' h' o0 m/\SlRd W' u l:=by obtain⟨W,o,g,w,f⟩:=x;have hW:=aH (h':=h') w.own.wle;exact⟨_,View.le_trans g hW,⟨_,o,View.le_refl _,⟨w.own.ext hle,w.src.mono hW,w.box⟩,f⟩,hs.mono (eC W h h')⟩
variable{vb:Value}{lb:List BlkM}
theorem Mk.Kv{o:Own}(w:Mk s M vs W h o m){vl:Value}(bb:MkB M vs m o vb vl lb){i:Nat}{l:List InD}{v:Value}{x y:Operand}{K:Value->Heap->Prop}(hb:b<m.blocks.length)(hi:i<(nth m.blocks b).phis.length)(hsz:cC Tryz.prog ty2=some 1)(hx:asg us x = .pointer (some (((slA (nth lb b).phis.v).add (i*2)).add 1)))(hy:asg us y=v)(hr:SlRd W v l)(hK : ∀h' o',Mk s M vs W h' o' (m.rq b i l)->(∀k:Key,3<=k.1->o' k=o k)->K undef h'):@Lft.step po Tryz.prog (.store ty2 x y) ty us h K:=by
 have hbl:b<lb.length:=by rw[bb.len];exact hb
 refine w.own.je (k:=(1,b)) (α:=PhiD) PhiD.jr (v:=(nth lb b).phis.v) (l:=(nth m.blocks b).phis) (i:=i) (d:=l) (bb.phis b hb) hsz hx hy hi (fy.2 hr) fun h7 w7 _=>?_;have hs:lb.set b (nth lb b)=lb:=by rw[ak hbl];exact MT hbl
 have b7:=bb.bj hb (x':={ nth m.blocks b with phis:=(nth m.blocks b).phis.set i { nth (nth m.blocks b).phis i with ins:=l } }) (y':=nth lb b) (o':=o.upd (1,b) (it T.cE (nth lb b).phis.v ((nth m.blocks b).phis.set i { (nth m.blocks b).phis[i]with ins:=l }))) (bb.term b hb) (by rw[hs,Own.ab (by simp)];exact bb.blk) (by rw[Own.af,ak hi]) (by rw[Own.ab (by simp)];exact bb.ins b hb) (fun q h1 h2 h3=>Own.ab h2);rw[hs]at b7;exact hK h7 _ ⟨w7,w.src,vb,vl,lb,b7⟩ fun k hk=>Own.ab (by rintro rfl;simp at hk)
end
section
variable {s:List Int} {M:Nat} {vs:Value} {W0:View} {h:Heap} {o0:Own} {m:MS}
variable{vd:Value}
theorem Fm{a p i cnt:Nat}{vq:Value}(x:Nx s M vs W0 h o0 m)(h5:o0 (5,0)=it T.int vp lp)(f71:o0 (7,1)=none)(f72:o0 (7,2)=none)(q:P3 n a p i m)(pc:Pc lp m)(hlp:lp.length=n)(hb:b<n)(hcnt:nth lp b=cnt)(hc3:cnt<=3)(hn:n<=10)(ha:a<=400000)(hia:i<=a)(hp:p<=100)(hi:i<=1900)(hq:SlRd W0 vq pl)(hpl:pl.length<=9)(hpr : ∀k,k<pl.length->∃c:Nat,nth pl k=c/\c<n)(h0:aZ [2,3,4,5,7,11,25,26,27] ρ=[(2,vr),(3,.pointer (some ⟨M,0,none⟩)),(4,.int .i64 n),(5,vt),(7,vp),(11,vd),(25,.int .i64 b),(26,vq),(27,.int .i64 0)])(hQ : ∀h':Heap,Nx s M vs W0 h' o0 (up (phi3 s b pl) cnt m)->Q .normal [(2,vr),(3,.pointer (some ⟨M,0,none⟩)),(4,.int .i64 n),(5,vt),(7,vp),(11,vd),(25,.int .i64 b),(26,vq),(27,.int .i64 cnt)] h'):
  LC.wp Tryz.prog (.block 26 (.loop L.ax.l14)) Q ρ h:=by
 simp only[aR];refine aO [2,3,4,5,7,11,25,26,27] (fun(_:Unit) k=>[vr,.pointer (some ⟨M,0,none⟩),.int .i64 n,vt,vp,vd,.int .i64 b,vq,.int .i64 k]) (fun _ k h2=>Nx s M vs W0 h2 o0 (up (phi3 s b pl) k m)) cnt ()
  rfl (by omega) h0 x (fun _ _=>rfl) (fun v k h2 hk2 x2=>by have sp:=x2.z.at (by decide) h5;have e:=sp.int (View.le_refl _) (i:=b) (by omega);rw[hcnt]at e;simp(disch:=omega)[sp.idx1 rfl,e]) ?_ ?_
 ·rintro _ k h2 hlt x2 K2 hK2;have hpn : ∀j,j<pl.length->(nth pl j).toNat<m.blocks.length:=fun j hj=>by obtain⟨c,h1,h2⟩:=hpr j hj;rw[h1,q.z.len];simpa using h2
  have q2:=(nM (s:=s) (b:=b) q hpl k).mono (a':=a+200) (p':=p) (i':=i+30) (by omega) (LG _) (by omega);obtain⟨pc2,hlen2⟩:=Pc.nM (s:=s) (b:=b) pc hpn k;have e2:up (phi3 s b pl) (k+1) m=phi3 s b pl k (up (phi3 s b pl) k m):=rfl;rw[e2]at hK2;generalize up (phi3 s b pl) k m=m2 at x2 hK2 q2 pc2 hlen2;have hpn2 : ∀j,j<pl.length->(nth pl j).toNat<m2.blocks.length:=fun j hj=>by rw[hlen2];exact hpn j hj
  obtain⟨pc3,hlen3⟩:=Pc.kh (s:=s) (pl:=pl) (x:=([],m2)) pc2 hpn2 pl.length (LG _);simp only[aR];refine aa fun y hy=>?_;simp;refine x2.dy (k:=(7,2)) (α:=InD) (by decide) f72 El.bZ fun vi h3 hvi x3=>?_;subst hy;refine aa fun y hy=>?_;refine aa fun w hw=>?_;simp;subst hw;refine Gv (vr:=vr) (vt:=vt) (vp:=vp) (vd:=vd) (vq:=vq) (vi:=vi) (b:=b) (j:=k) x3 f71 q2 hn (by omega) (by omega) hp (by omega) hq hpl hpr (by simp[aZ,ag,ah]) fun h4 vi x4=>?_;obtain⟨W4,hW4,x4,s4⟩:=x4.freeze (by decide) f72;have e3:phi3 s b pl k m2=(up (dT s pl) pl.length ([],m2)).2.rq b k (up (dT s pl) pl.length ([],m2)).1:=rfl;rw[e3]at hK2;have hb4:b<(up (dT s pl) pl.length ([],m2)).2.blocks.length:=by rw[hlen3];show b<m2.blocks.length;rw[hlen2,q.z.len];exact hb
  have hph:((nth (up (dT s pl) pl.length ([],m2)).2.blocks b).phis.length:Int)=cnt:=(pc3 b).trans hcnt;generalize up (dT s pl) pl.length ([],m2)=r at x4 hK2 s4 hb4 hph;obtain⟨W,o,g,w,f⟩:=x4;obtain⟨vb,vl,lb,bb⟩:=w.box;have rd:=w.reads bb;have hbb:b<lb.length:=by rw[bb.len];exact hb4
  have sb:=w.own.now bb.blk;have sbb:=sb.bound;have c1:ao (vw h4) (((slA vb).add (b*6)).add 0)=some (nth lb b).phis.v:=by have:=((sb.at hbb).part BlkM.km).raw;rw[ak hbb];exact this
  have sph:=w.own.now (bb.phis b hb4);simp;subst hy;have r5:Bn.ev (.idx 2) (nth lb b).phis.v (.int .i64 k)=some (.pointer (some ((slA (nth lb b).phis.v).add (k*2)))):=by have:=sph.idxn (N:=2) rfl (k:=.i64) (i:=k) (by omega) (by omega);simpa using this
  simp(disch:=omega)[rd.cb,sb.idxn (N:=6) rfl,c1,r5];refine w.Kv bb (b:=b) (i:=k) (l:=r.1) hb4 (by omega) (by kernel_rfl) rfl rfl (s4.mono g) fun h5 o5 w5 f5=>?_;refine hK2 () _ _ rfl rfl ?_;exact⟨W,o5,View.le_trans hW4 g,w5,fun q hq=>(f5 q hq).trans (f q hq)⟩
 rintro _ h2 x2;exact hQ h2 x2
theorem Ij{a p i k:Nat}{m:MS}(q:P3 n a p i m)(pc:Pc lp m)(hr : ∀j,nth lp j<=3)(hn:n<=9):P3 n (a+162) p (i+27) (blk3 s lp k m)/\Pc lp (blk3 s lp k m):=by
 have hpl:(bf m.f ((k+1:Nat):Int)).length<=n:=by have:=ij (p:=fun a=>decide (((k+1:Nat):Int)∈(nth m.f.blocks a).term.to)) (x:=fun a=>(a:Int)) m.f.blocks.length;rw[show m.f.blocks.length=n from q.z.len]at this;unfold bf;rw[show m.f.blocks.length=n from q.z.len];exact this
 have hpn : ∀j,j<(bf m.f ((k+1:Nat):Int)).length->(nth (bf m.f ((k+1:Nat):Int)) j).toNat<m.blocks.length:=fun j hj=>by obtain⟨c,h1,h2⟩:=zA _ j hj;have h1:nth (bf m.f ((k+1:Nat):Int)) j=c:=h1;rw[h1];have h2:c<m.blocks.length:=h2;simpa using h2
 have h3:=hr (k+1);unfold blk3;exact⟨(nM q (by omega) _).mono (by omega) (LG _) (by omega),(Pc.nM pc hpn _).1⟩
theorem yw {n a p i:Nat} {lp:List Int} {m:MS} (q:P3 n a p i m) (pc:Pc lp m) (hr : ∀j,nth lp j<=3) (hn:n<=9) : ∀k,P3 n (a+162*k) p (i+27*k) (up (blk3 s lp) k m)/\Pc lp (up (blk3 s lp) k m)
 | 0=>⟨q,pc⟩
 | k+1=>by obtain⟨h1,h2⟩:=yw q pc hr hn k;obtain⟨h3,h4⟩:=Ij (s:=s) (k:=k) h1 h2 hr hn;exact⟨h3.mono (by omega) (LG _) (by omega),h4⟩
theorem FO{a p i:Nat}(x:Nx s M vs W0 h o0 m)(h5:o0 (5,0)=it T.int vp lp)(f71:o0 (7,1)=none)(f72:o0 (7,2)=none)(q:P3 n a p i m)(pc:Pc lp m)(hlp:lp.length=n)(hr : ∀j,0<=nth lp j/\nth lp j<=3)(hn1:1<=n)(hn:n<=9)(ha:a<=300000)(hia:i<=a)(hp:p<=100)(hi:i<=1000)(h0:aZ [2,3,4,5,7,11,25] ρ=[(2,vr),(3,.pointer (some ⟨M,0,none⟩)),(4,.int .i64 n),(5,vt),(7,vp),(11,vd),(25,.int .i64 1)])(hQ : ∀h':Heap,Nx s M vs W0 h' o0 (up (blk3 s lp) (n-1) m)->Q .normal [(2,vr),(3,.pointer (some ⟨M,0,none⟩)),(4,.int .i64 n),(5,vt),(7,vp),(11,vd),(25,.int .i64 n)] h'):
  LC.wp Tryz.prog (.block 24 (.loop L.ax.l13)) Q ρ h:=by
 simp only[aR];refine vh [2,3,4,5,7,11,25] (fun(_:Unit) k=>[vr,.pointer (some ⟨M,0,none⟩),.int .i64 n,vt,vp,vd,.int .i64 ((k+1:Nat):Int)]) (fun _ k h2=>Nx s M vs W0 h2 o0 (up (blk3 s lp) k m)) (n-1) 1 ()
  rfl (by omega) h0 x (fun _ _=>rfl) (fun v k h2 hk2 m=>by simp;omega) ?_ ?_
 ·rintro _ k h2 hlt x2 K2 hK2;obtain⟨q2,pc2⟩:=yw (s:=s) q pc (fun j=>(hr j).2) hn k;have e2:up (blk3 s lp) (k+1) m=blk3 s lp k (up (blk3 s lp) k m):=rfl;rw[e2]at hK2;generalize up (blk3 s lp) k m=m2 at x2 hK2 q2 pc2;have hb2:blk3 s lp k m2=_:=blk3.eq_1 s lp k m2;rw[hb2]at hK2;simp only[aR];refine aa fun y hy=>?_;obtain⟨vb,vl,rd⟩:=x2.z.reads;simp[rd.f];refine aj (by kernel_rfl) (oP (b:=((k+1:Nat):Int)) (rd.rd (GQ q2.z)) (by show m2.blocks.length<=_;rw[q2.z.len];omega)) ?_;rintro vq h3 ⟨hle3,hq⟩;obtain⟨W3,hW3,x3,sq⟩:=x2.KN hle3 hq;clear rd hq;have hpl:(bf m2.f ((k+1:Nat):Int)).length<=n:=by have:=ij (p:=fun a=>decide (((k+1:Nat):Int)∈(nth m2.f.blocks a).term.to)) (x:=fun a=>(a:Int)) m2.f.blocks.length;unfold bf;rw[show m2.f.blocks.length=n from q2.z.len]at this ⊢;exact this
  have hpr : ∀j,j<(bf m2.f ((k+1:Nat):Int)).length->∃c:Nat,nth (bf m2.f ((k+1:Nat):Int)) j=c/\c<n:=fun j hj=>by obtain⟨c,h1,h2⟩:=zA _ j hj;exact⟨c,h1,by rw[show m2.f.blocks.length=n from q2.z.len]at h2;exact h2⟩
  generalize bf m2.f ((k+1:Nat):Int)=pl at sq hpl hpr hK2;obtain⟨r0,r1⟩:=hr (k+1);subst hy;refine aa fun y hy=>?_;simp;subst hy;refine Fm (vr:=vr) (vt:=vt) (vp:=vp) (vd:=vd) (vq:=vq) (b:=k+1) (cnt:=(nth lp (k+1)).toNat) x3 h5 f71 f72 q2 pc2 hlp (by omega) (by omega) (by omega) (by omega) (by omega) (by omega) hp (by omega) sq (by omega) hpr (by simp[aZ,ag,ah]) fun h4 x4=>?_;simp;refine hK2 () _ _ rfl rfl (x4.up hW3)
 rintro _ h2 x2;have e:n-1+1=n:=by omega
 have:=hQ h2 x2;simpa[e]using this
theorem BI{a p:Nat}{x0:BL × MS}(q:B2 n a p x0)(hn:n<=10)(hp:p<=100)(ha:16000<=a): ∀j,j<=n->B2 n (a+600*j) p (up (cf s to n) j x0):=by
 intro j;induction j with
 | zero=>intro _;exact q
 | succ j ih=>intro hj;have:=qK (s:=s) (to:=to) (b:=j) (ih (by omega)) (by omega) hn hp (by omega) fun h=>pI h;exact⟨this.z.mono (by omega) (LG _) (LG _),this.len,this.none⟩
theorem G8{a p:Nat}{x0:BL × MS}(q:B2 n a p x0)(hn:n<=10)(hp:p<=100)(ha:16000<=a)(j:Nat):B2 n (a+600*n*j) p (up (fun _=>up (cf s to n) n) j x0):=by
 induction j with
 | zero=>exact q
 | succ j ih=>have:=BI (s:=s) (to:=to) ih hn hp (by omega) n (LG _);exact⟨this.z.mono (by rw[Ot];omega) (LG _) (LG _),this.len,this.none⟩
theorem HF{a p:Nat}{x0:BL × MS}(x:Nx s M vs W0 h (o0.upd (6,0) (it T.bool vd x0.1)) x0.2)(hto:SlRd W0 vt to)(htl:to.length=n)(f7:o0 (7,0)=none)(f90:o0 (9,0)=none)(f91:o0 (9,1)=none)(q:B2 n a p x0)(hn:n<=9)(hp:p<=100)(ha:16000<=a)(ha2:a<=30000)(h0:aZ [2,3,4,5,7,11,12] ρ=[(2,vr),(3,.pointer (some ⟨M,0,none⟩)),(4,.int .i64 n),(5,vt),(7,vp),(11,vd),(12,.int .i64 0)])(hQ : ∀h':Heap,Nx s M vs W0 h' (o0.upd (6,0) (it T.bool vd (up (fun _=>up (cf s to n) n) n x0).1)) (up (fun _=>up (cf s to n) n) n x0).2->Q .normal [(2,vr),(3,.pointer (some ⟨M,0,none⟩)),(4,.int .i64 n),(5,vt),(7,vp),(11,vd),(12,.int .i64 n)] h'):
  LC.wp Tryz.prog (.block 6 (.loop L.ax.l4)) Q ρ h:=by
 simp only[aR];refine aO [2,3,4,5,7,11,12] (fun(_:Unit) j=>[vr,.pointer (some ⟨M,0,none⟩),.int .i64 n,vt,vp,vd,.int .i64 j]) (fun _ j h2=>Nx s M vs W0 h2 (o0.upd (6,0) (it T.bool vd (up (fun _=>up (cf s to n) n) j x0).1)) (up (fun _=>up (cf s to n) n) j x0).2) n ()
  rfl (by omega) h0 x (fun _ _=>rfl) (fun v k h2 hk2 x2=>by simp) ?_ ?_
 ·rintro _ t h2 hlt x2 K2 hK2;have q2:=G8 (s:=s) (to:=to) q (by omega) hp ha t;have hbd:600*n*t<=5400*9:=N0 (by omega) (by omega);have e2:up (fun _=>up (cf s to n) n) (t+1) x0=up (cf s to n) n (up (fun _=>up (cf s to n) n) t x0):=rfl;rw[e2]at hK2;generalize up (fun _=>up (cf s to n) n) t x0=y at x2 hK2 q2;simp only[aR];refine aa fun y hy=>?_;simp;subst hy;refine Hf (vr:=vr) (vt:=vt) (vp:=vp) (vd:=vd) (t:=t) x2 hto htl f7 f90 f91 q2 (by omega) hp (by omega) (by omega) (by simp[aZ,ag,ah]) fun h3 x3=>?_;simp;exact hK2 () _ _ rfl rfl x3
 rintro _ h2 x2;exact hQ h2 x2
end
section
variable {s:List Int}
theorem kv:1<=bC s/\bC s<=9:=by have:=cc (s:=s) (at_:=1) (n:=9) (by decide);unfold bC;omega
theorem DF:((bC s:Nat):Int)=1+aG s 1 9:=by have:=cc (s:=s) (at_:=1) (n:=9) (by decide);unfold bC;omega
theorem zv:(uO s).ok 4:=by have:=cc (s:=s) (at_:=0) (n:=5) (by decide);refine⟨by show 2<=4;omega,by show 0<=aG s 0 5;omega,by show aG s 0 5<=_;omega,by show 0<=4;omega,fun i=>?_⟩;show(nth ([]:List BlkD) i).ins.length<=4;rw[cB (by simp)];show 0<=4;omega
theorem zd:TgK (bC s) 112 (jl s):=by
 obtain⟨h1,h2⟩:=kv (s:=s);have k1:TgK (bC s) 4 (List.replicate (bC s) [],uO s):=⟨by simp,fun i=>by
  rcases LI i (bC s)with hi | hi
  ·rw[aA hi];show 0<=4;omega
  rw[cB (by simpa using hi)];show 0<=4;omega,zv⟩;exact(Cc (s:=s) (yL (s:=s) k1 (bC s-1)) (bC s)).mono (by omega)
def p7 (m m':MS):Prop:=m'.ps=m.ps/\m'.blocks=m.blocks/\m'.next=m.next/\m'.live=m.live
theorem FC{m:MS}{k:Nat}{x:TgS}(h:p7 m x.2):p7 m (tgA s k x).2:=by unfold tgA;split<;>exact h
theorem FR{m:MS}{x:TgS}(h:p7 m x.2):p7 m (tgI s n b x).2:=by
 unfold tgI;simp only;repeat' split
 all_goals exact h
theorem E2{m:MS}{x:TgS}(h:p7 m x.2):p7 m (tgB s n b x).2:=
 sf (fun x:TgS=>p7 m x.2) (fun _ _ h=>FR h) _ _ h
theorem uP:p7 (uO s) (jl s).2:=
 sf (fun x:TgS=>p7 (uO s) x.2) (fun _ _ h=>E2 h) _ _ (sf (fun x:TgS=>p7 (uO s) x.2) (fun _ _ h=>FC h) _ _ ⟨rfl,rfl,rfl,rfl⟩)
theorem Ae {m:MS} {a n:Nat} {to:List (List Int)} (z:Sz n a 0 0 m) (g:Gd m) (pc : ∀j,(nth m.blocks j).phis.length=0) (ht : ∀j,(nth to j).length<=1000) : ∀k,Sz n a 0 0 (up (fun b m=>MS.gO m b (nth to b)) k m)/\Gd (up (fun b m=>MS.gO m b (nth to b)) k m)
 | 0=>⟨z,g⟩
 | k+1=>by obtain⟨h1,h2⟩:=Ae z g pc ht k;exact⟨h1.bj (h1.phis k) (h1.ins k),h2.gO (ht k)⟩
theorem sU{j:Nat}:(nth (List.replicate n rP) j).phis.length=0/\(nth (List.replicate n rP) j).ins.length=0:=by
 rcases LI j n with hj | hj
 ·rw[aA hj];exact⟨rfl,rfl⟩
 rw[cB (by simpa using hj)];exact⟨rfl,rfl⟩
theorem zG:Sz (bC s) 200 0 0 (rH s)/\Gd (rH s):=by
 have k:=zd (s:=s);have e:=uP (s:=s);have t:=cc (s:=s) (at_:=0) (n:=5) (by decide);refine Ae ⟨?_,?_,?_,?_,?_,?_,?_,fun j=>?_,fun j=>?_⟩ (fun j hj=>?_) (fun j=>(sU).1) (fun j=>by have:=k.row j;omega) _
 ·show(jl s).2.at_<=200;have:=k.ok.at_;omega
 ·exact k.ok.n0
 ·show(jl s).2.next<=_;have:=k.ok.next;omega
 ·show(jl s).2.live.length<=200;have:=k.ok.live;omega
 ·show 0<=(jl s).2.ps;rw[e.1];show 0<=aG s 0 5;omega
 ·show(jl s).2.ps<=4;rw[e.1];show aG s 0 5<=4;omega
 ·show(List.replicate (bC s) rP).length=_;simp
 ·show(nth (List.replicate (bC s) rP) j).phis.length<=0;rw[(sU).1];omega
 ·show(nth (List.replicate (bC s) rP) j).ins.length<=0;rw[(sU).2];omega
 have hj:j<bC s:=by simpa using hj
 show GdB (nth (List.replicate (bC s) rP) j);rw[aA hj];exact⟨fun i h=>(by cases h),by show 0<=10;omega,by show 0<=1000;omega,fun i h=>(by cases h)⟩
theorem oR {m:MS} {b:Nat} (hb:b<m.blocks.length) : ∀c j,(nth (up (fun _=>fS b) c m).blocks j).phis.length=(nth m.blocks j).phis.length+(if j=b then c else 0)/\(up (fun _=>fS b) c m).blocks.length=m.blocks.length
 | 0,j=>⟨by show(nth m.blocks j).phis.length=_;split<;>omega,rfl⟩
 | c+1,j=>by
  obtain⟨h1,h2⟩:=oR hb c j;obtain⟨h3,_⟩:=oR hb c b;have e:(up (fun _=>fS b) (c+1) m).blocks=(up (fun _=>fS b) c m).blocks.set b { nth (up (fun _=>fS b) c m).blocks b with phis:=(nth (up (fun _=>fS b) c m).blocks b).phis++[⟨(up (fun _=>fS b) c m).next,[]⟩] }:=rfl;rw[e];refine⟨?_,by rw[LN];exact h2⟩;rcases LI j m.blocks.length with hl | hl
  ·rw[aF (by rw[h2];exact hl)];by_cases ej:b=j
   ·subst ej;rw[if_pos rfl,if_pos rfl];rw[if_pos rfl]at h3;show(_++[_]).length=_;rw[LH,h3,LJ];omega
   rw[if_neg ej,if_neg (fun q=>ej q.symm)];rw[if_neg (fun q=>ej q.symm)]at h1;exact h1
  rw[cB (by rw[LN,h2];exact hl),cB hl,if_neg (by omega)];rfl
theorem yl {n a:Nat} {x:List Int × MS} (p:Ph n a 0 x) (pc:Pc x.1 x.2) (g:Gd x.2) : ∀k,k<n->Pc (up (fW s) k x).1 (up (fW s) k x).2/\Gd (up (fW s) k x).2
 | 0,_=>⟨pc,g⟩
 | k+1,hk=>by
  obtain⟨h1,h2⟩:=yl p pc g k (by omega);have q:=zl (s:=s) p k;have e:up (fW s) (k+1) x=fW s k (up (fW s) k x):=rfl;rw[e];generalize up (fW s) k x=y at h1 h2 q;obtain⟨c0,c1⟩:=qI (s:=s) (m:=y.2) (b:=k+1);have hb:k+1<y.2.took.blocks.length:=by show k+1<y.2.blocks.length;rw[q.z.len];exact hk
  refine⟨fun j=>?_,h2.took.pG _⟩;have h3:=(oR hb (iO s y.2 (k+1)).toNat j).1;show((nth (up (fun _=>fS (k+1)) (iO s y.2 (k+1)).toNat y.2.took).blocks j).phis.length:Int)=nth (y.1.set (k+1) (iO s y.2 (k+1))) j;rw[h3];have h4:=h1 j;have h5:nth y.2.took.blocks j=nth y.2.blocks j:=rfl;rw[h5];rcases LI j y.1.length with hl | hl
  ·rw[aF hl];by_cases ej:k+1=j
   ·subst ej;rw[if_pos rfl,if_pos rfl];rw[q.zero (k+1) (by omega)]at h4;omega
   rw[if_neg ej,if_neg (fun r=>ej r.symm)];omega
  have e1:nth (y.1.set (k+1) (iO s y.2 (k+1))) j=default:=cB (by simpa using hl);have e2:nth y.1 j=default:=cB hl;rw[e1];rw[e2]at h4;have:=q.len;rw[if_neg (by omega)];omega
theorem rR:Ph (bC s) 200 (bC s-1) (jX s)/\Pc (jX s).1 (jX s).2/\Gd (jX s).2:=by
 obtain⟨h1,h2⟩:=kv (s:=s);obtain⟨z,g⟩:=zG (s:=s);have hz : ∀j,nth (List.replicate (bC s) (0:Int)) j=0:=fun j=>by
  rcases LI j (bC s)with hj | hj
  ·rw[aA hj]
  rw[cB (by simpa using hj)];rfl
 have p0:Ph (bC s) 200 0 (List.replicate (bC s) (0:Int),rH s):=⟨z,by simp,fun j _=>hz j,fun j=>by rw[hz];omega⟩;have pc:Pc (List.replicate (bC s) (0:Int)) (rH s):=fun j=>by have:=z.phis j;rw[hz];omega
 obtain⟨q1,q2⟩:=yl (s:=s) p0 pc g (bC s-1) (by omega);exact⟨zl p0 _,q1,q2⟩
theorem Gd.jx {to:List (List Int)} {n b:Nat} {dn:BL} {away:List BL} {m:MS} (g:Gd m) (ht:(nth to b).length<=1000):Gd (jx s to n dn away b m):=by have g1:Gd (MS.took { m with live:=mo m dn away b n }):=g;exact(Gd.jh g1 _).Ku ht
theorem Gd.cf {to:List (List Int)} {n b:Nat} {x:BL × MS} (g:Gd x.2) (ht:(nth to b).length<=1000):Gd (cf s to n b x).2:=by
 unfold Go.Proofs.YtbkdlhkoiagbbaaGreat.cf;split
 ·exact g.jx ht
 exact g
structure M4 (n a p:Nat) (lp:List Int) (x:BL × MS):Prop where
 b2:B2 n a p x
 gd:Gd x.2
 pc:Pc lp x.2
theorem M4.step{to:List (List Int)}{n a p b:Nat}{lp:List Int}{x:BL × MS}(q:M4 n a p lp x)(hb:b<n)(hn:n<=10)(hp:p<=100)(ha:16000<=a)(ht : ∀j,(nth to j).length<=1000):M4 n (a+600) p lp (cf s to n b x):=
 ⟨qK q.b2 hb hn hp ha fun h=>pI h,q.gd.cf (ht b),q.pc.cf (by rw[q.b2.z.len];exact hb)⟩
theorem M4.blk{a p:Nat}{x:BL × MS}(q:M4 n a p lp x)(hn:n<=10)(hp:p<=100)(ha:16000<=a)(ht : ∀j,(nth to j).length<=1000)(k:Nat)(hk:k<=n):M4 n (a+600*k) p lp (up (Go.Proofs.YtbkdlhkoiagbbaaGreat.cf s to n) k x):=by
 induction k with
 | zero=>exact q
 | succ k ih=>have:=(ih (by omega)).step (s:=s) (to:=to) (b:=k) (by omega) hn hp (by omega) ht;exact⟨⟨this.b2.z.mono (by omega) (LG _) (LG _),this.b2.len,this.b2.none⟩,this.gd,this.pc⟩
theorem M4.turn{a p:Nat}{x:BL × MS}(q:M4 n a p lp x)(hn:n<=10)(hp:p<=100)(ha:16000<=a)(ht : ∀j,(nth to j).length<=1000)(k:Nat):M4 n (a+600*n*k) p lp (up (fun _=>up (Go.Proofs.YtbkdlhkoiagbbaaGreat.cf s to n) n) k x):=by
 induction k with
 | zero=>exact q
 | succ k ih=>have:=ih.blk (s:=s) (to:=to) hn hp (by omega) ht n (LG _);exact⟨⟨this.b2.z.mono (by rw[Ot];omega) (LG _) (LG _),this.b2.len,this.b2.none⟩,this.gd,this.pc⟩
theorem Ac:B2 (bC s) 16000 27 (List.replicate (bC s) false,(jX s).2):=by obtain⟨h1,h2⟩:=kv (s:=s);obtain⟨p,_,_⟩:=rR (s:=s);refine⟨p.z.mono (by omega) (by omega) (by omega),by simp,fun j hj _=>?_⟩;have:=p.z.ins j;show(nth (jX s).2.blocks j).ins.length=0;omega
theorem A1:P3 (bC s) 70000 27 700 (xX s).2/\Pc (jX s).1 (xX s).2:=by
 obtain⟨h1,h2⟩:=kv (s:=s);obtain⟨p,pc,g⟩:=rR (s:=s);have ht : ∀j,(nth (jl s).1 j).length<=1000:=fun j=>by have:=(zd (s:=s)).row j;omega
 have q0:M4 (bC s) 16000 27 (jX s).1 (List.replicate (bC s) false,(jX s).2):=⟨Ac,g,pc⟩;have q:=q0.turn (s:=s) (to:=(jl s).1) (by omega) (by omega) (by omega) ht (bC s);have hbd:600*bC s*bC s<=5400*9:=N0 (by omega) (by omega);exact⟨⟨q.b2.z.mono (by omega) (LG _) (LG _),q.gd⟩,q.pc⟩
theorem rz:P3 (bC s) 72000 27 1000 (oC s):=by obtain⟨h1,h2⟩:=kv (s:=s);obtain⟨p,_,_⟩:=rR (s:=s);obtain⟨q,pc⟩:=A1 (s:=s);have:=(yw (s:=s) q pc (fun j=>(p.rng j).2) h2 (bC s-1)).1;exact this.mono (by omega) (LG _) (by omega)
theorem zX:0<=(qS s).params/\(qS s).params<=4:=⟨(rz (s:=s)).z.ps0,(rz (s:=s)).z.ps1⟩
end
section
variable {s:List Int} {M:Nat} {vs:Value} {W:View} {h:Heap} {o:Own} {m:MS}
variable{vb:Value}{lb:List BlkM}
theorem MkB.boxed{vl:Value}(bb:MkB M vs m o vb vl lb)(m':MS)(h1:m'.blocks=m.blocks)(h2:m'.live=m.live):MkB M vs m' (o.upd (0,0) (bx T.aN M (RawN.mk (n:=5) (mkL vs m'.at_ m'.ps vb m'.next vl)))) vb vl lb:=
 ⟨rfl,by rw[h2];exact bb.live,bb.blk,by rw[h1];exact bb.len,by rw[h1];exact bb.term,by rw[h1];exact fun i hi=>bb.phis i hi,by rw[h1];exact fun i hi=>bb.ins i hi⟩
end
def iL (R:Nat) (i10:Own):Own:=fun k=>if k=(8,0) then bx T.ar R (RawN.mk (n:=1) [.int .i64 0,.slice none 0 0]) else if 10<=k.1 then i10 k else none
structure FnB (o:Own) (vb:Value) (lb:List BlkM) (f:an):Prop where
 blk:o (0,2)=it T.ay vb lb
 len:lb.length=f.blocks.length
 term : ∀i,i<f.blocks.length->(nth lb i).term=(nth f.blocks i).term
 phis : ∀i,i<f.blocks.length->o (1,i)=it T.cE (nth lb i).phis.v (nth f.blocks i).phis
 ins : ∀i,i<f.blocks.length->o (2,i)=it T.cg (nth lb i).ins.v (nth f.blocks i).ins
variable{vb:Value}{lb:List BlkM}
theorem Jm{H:View}{f:an}(h0:SlRd H vb lb)(hl:lb.length=f.blocks.length)(ht : ∀i,i<f.blocks.length->(nth lb i).term=(nth f.blocks i).term)(h1 : ∀i,i<f.blocks.length->SlRd H (nth lb i).phis.v (nth f.blocks i).phis)(h2 : ∀i,i<f.blocks.length->SlRd H (nth lb i).ins.v (nth f.blocks i).ins):SlRd H vb f.blocks:=by refine mq h0 rfl hl fun i g1 g2 cs hr=>?_;have:=AR hr (p:=(nth f.blocks i).phis) (i:=(nth f.blocks i).ins) (by have:=h1 i g2;rwa [ak g1]at this) (by have:=h2 i g2;rwa [ak g1]at this);have ht:=ht i g2;rw[ak g1]at ht;rw[ht]at this;rw[<-ak g2];exact this
theorem FnB.freeze{h:Heap}{o:Own}{f:an}(b:FnB o vb lb f)(w:Owns W h o)(ho : ∀k:Key,3<=k.1->o k=o0 k)(ho0 : ∀k:Key,k.1<3->o0 k=none): ∃W',W.le W'/\Owns W' h o0/\SlRd W' vb f.blocks:=by
 obtain⟨W17,hW17,w17,fr⟩:=w.sK (fun k=>decide (k.1<3));refine⟨W17,hW17,w17.sub fun k i hk=>?_,Jm (fr (k:=(0,2)) (by simp) b.blk) b.len b.term (fun i hi=>fr (k:=(1,i)) (by simp) (b.phis i hi)) fun i hi=>fr (k:=(2,i)) (by simp) (b.ins i hi)⟩;rcases LI k.1 3 with e | e
 ·rw[ho0 k e]at hk;cases hk
 have h2:¬k.1<3:=by omega
 simp only[h2,decide_false,Nw,if_false];rw[ho k e];exact hk
theorem GV{s:List Int}{h:Heap}(w0:Owns W h o0)(ho0 : ∀k:Key,k.1<10->o0 k=none)(hs:SlRd W vs s):
  az Tryz.prog N.ax #[vs] h (fun u h'=>∃W' o vb lb,W.le W'/\Owns W' h' o/\(∀k:Key,3<=k.1->o k=o0 k)/\FnB o vb lb (qS s)/\u = .agg #[.int .i64 (qS s).params,vb]):=by
 refine aq (args:=[vs]) follows F.ax E.ax (LD (by kernel_rfl)) fun K hK=>?_;have hs0:=hs;obtain⟨sa,sc,rfl,_⟩:=hs0;dsimp only[L.ax];refine aa fun z hz=>?_;simp;refine w0.kF (k:=(8,0)) (n:=1) (z:=.agg #[.int .i64 0,.slice none 0 0]) (ho0 _ (by decide)) (by kernel_rfl) rfl (by decide) (by simp[Value.cells,Value.oneCell']) fun h1 q1 w1=>?_;generalize h.size=R at w1;subst hz;refine aa fun z hz=>?_;simp;refine aE (z:=.agg #[.slice none 0 0,.int .i64 0,.int .i64 0,.slice none 0 0,.int .i64 0,.slice none 0 0]) (places:=[(0,1),(1,1),(2,2),(4,1),(5,1)]) (vs:=[(0,.slice sa s.length sc)]) (cs:=#[.slice sa s.length sc,.int .i64 0,.int .i64 0,.slice none 0 0,.int .i64 0,.slice none 0 0]) (by kernel_rfl) (by kernel_rfl) (by simp) (by rfl) ?_;generalize s.length=sl at hs;refine j6 rfl ?_;have hbx:(h1.push (.cells (Value.agg #[.slice sa sl sc,.int .i64 0,.int .i64 0,.slice none 0 0,.int .i64 0,.slice none 0 0]).cells T.aN))[h1.size]? = some (.cells (Value.agg #[.slice sa sl sc,.int .i64 0,.int .i64 0,.slice none 0 0,.int .i64 0,.slice none 0 0]).cells T.aN (0,0)):=by simp
 have hle2:=bm h1 (.cells (Value.agg #[.slice sa sl sc,.int .i64 0,.int .i64 0,.slice none 0 0,.int .i64 0,.slice none 0 0]).cells T.aN);have hbg : ∀b,(Value.slice (some ⟨h1.size,0,none⟩) 1 1).ownBlock=some b->h1.size<=b:=fun b hb=>by simp only[Value.ownBlock,LF]at hb;omega
 show LC.wp Tryz.prog z _ _ (h1.push (.cells (Value.agg #[.slice sa sl sc,.int .i64 0,.int .i64 0,.slice none 0 0,.int .i64 0,.slice none 0 0]).cells T.aN));generalize h1.push (.cells (Value.agg #[.slice sa sl sc,.int .i64 0,.int .i64 0,.slice none 0 0,.int .i64 0,.slice none 0 0]).cells T.aN)=h2 at hbx hle2;have w2:=w1.add (k:=(0,0)) ((Own.ab (by simp)).trans (ho0 _ (by decide))) (iq (W:=W) (d:=RawN.mk (n:=5) [.slice sa sl sc,.int .i64 0,.int .i64 0,.slice none 0 0,.int .i64 0,.slice none 0 0]) hbx (eP rfl (by simp[Value.oneCell'])) (by decide)) hle2 hbg;generalize h1.size=M at w2;generalize hvs:Value.slice sa sl sc=vs at hs w2;obtain⟨m0,hm0⟩ : ∃m0:MS,m0=⟨0,0,[],0,[]⟩:=⟨_,rfl⟩;obtain⟨o2,ho2⟩ : ∃o2:Own,o2=fun k=>if k=(0,0) then bx T.aN M (RawN.mk (n:=5) (mkL vs 0 0 (.slice none 0 0) 0 (.slice none 0 0))) else if k=(0,1) then it T.int (.slice none 0 0) ([]:List Int) else if k=(0,2) then it T.ay (.slice none 0 0) ([]:List BlkM) else iL R o0 k:=⟨_,rfl⟩;have w2:Owns W h2 o2:=w2.nils fun k i hk=>by
  rw[ho2]at hk;dsimp only at hk;split at hk
  ·rename_i e;rw[e];exact .inl hk
  rename_i e0;split at hk
  ·cases hk;exact .inr ⟨rfl,OwnT.nil (α:=Int) _ _ _⟩
  split at hk
  ·cases hk;exact .inr ⟨rfl,OwnT.nil (α:=BlkM) _ _ _⟩
  refine .inl ?_;rw[Own.ab e0];by_cases e8:k=(8,0)
  ·subst e8;exact hk
  rw[Own.ab e8];unfold iL at hk;rw[if_neg e8]at hk;split at hk
  ·exact hk
  cases hk
 have w2:Mk s M vs W h2 o2 m0:=⟨w2,hs,.slice none 0 0,.slice none 0 0,[],by rw[ho2,hm0];rfl,by rw[ho2,hm0];rfl,by rw[ho2];rfl,by rw[hm0];rfl,fun i hi=>by rw[hm0]at hi;simp at hi,fun i hi=>by rw[hm0]at hi;simp at hi,fun i hi=>by rw[hm0]at hi;simp at hi⟩;have f2 : ∀k:Key,3<=k.1->o2 k=iL R o0 k:=fun k hk=>by rw[ho2];dsimp only;rw[if_neg (by rintro rfl;simp at hk),if_neg (by rintro rfl;simp at hk),if_neg (by rintro rfl;simp at hk)]
 clear w1 hbx hbg hle2 q1 ho2;subst hz;refine aa fun z hz=>?_;simp;refine aj (by kernel_rfl) (w2.take (by rw[hm0];decide) (n:=5) (by decide) (by decide)) ?_;rintro _ h3 ⟨rfl,o3,w3,f3⟩;have tv:=cc (s:=s) (at_:=m0.at_) (n:=5) (by decide);obtain⟨vb,vl,lb,bb⟩:=w3.box;refine w3.own.bu (k:=(0,0)) (n:=5) (i:=2) (e:=T.aN) (B:=M) (l:=mkL vs m0.took.at_ m0.took.ps vb m0.took.next vl) bb.box (by decide) (by kernel_rfl) rfl rfl rfl fun h4 w4 _=>?_;have b4:=bb.boxed ⟨m0.took.at_,aG s m0.at_ 5,m0.took.blocks,m0.took.next,m0.took.live⟩ rfl rfl
 subst hz;refine aa fun z hz=>?_;have w4:Mk s M vs W h4 _ _:=⟨w4,w3.src,vb,vl,lb,b4⟩;have rd:=w4.reads b4;simp[rd.ps];refine w4.own.bu (k:=(0,0)) (n:=5) (i:=4) (e:=T.aN) (B:=M) (l:=mkL vs m0.took.at_ (aG s m0.at_ 5) vb m0.took.next vl) b4.box (by decide) (by kernel_rfl) rfl rfl rfl fun h5 w5 _=>?_;have b5:=b4.boxed ⟨m0.took.at_,aG s m0.at_ 5,m0.took.blocks,aG s m0.at_ 5,m0.took.live⟩ rfl rfl
 have w5:Mk s M vs W h5 _ _:=⟨w5,w3.src,vb,vl,lb,b5⟩;obtain⟨o5,ho5⟩ : ∃o5,o5=(o3.upd (0,0) (bx T.aN M (RawN.mk (n:=5) (mkL vs m0.took.at_ (aG s m0.at_ 5) vb m0.took.next vl)))).upd (0,0) (bx T.aN M (RawN.mk (n:=5) (mkL vs m0.took.at_ (aG s m0.at_ 5) vb (aG s m0.at_ 5) vl))):=⟨_,rfl⟩;have f5 : ∀k:Key,3<=k.1->o5 k=iL R o0 k:=fun k hk=>by rw[ho5,Own.ab (by rintro rfl;simp at hk),Own.ab (by rintro rfl;simp at hk),f3 k hk,f2 k hk]
 rw[hm0]at w5;have w5:Mk s M vs W h5 o5 ⟨1,aG s 0 5,[],aG s 0 5,[]⟩:=by rw[ho5,hm0];exact w5
 clear b5 b4 rd w4 bb w3 f3 w2 f2 ho5 hvs;subst hz;refine aa fun z hz=>?_;simp;refine aj (by kernel_rfl) (w5.take (show 1<=_ by omega) (n:=9) (by decide) (by decide)) ?_;rintro _ h6 ⟨rfl,o6,w6,f6⟩;have w6:Mk s M vs W h6 o6 (uO s):=w6;have f6 : ∀k:Key,3<=k.1->o6 k=iL R o0 k:=fun k hk=>(f6 k hk).trans (f5 k hk);clear w5 f5;have hN:=DF (s:=s)
 obtain⟨n1,n2⟩:=kv (s:=s);have hw:IntKind.i64.wrap (1+aG s 1 9)=(bC s:Nat):=by rw[hN];exact bJ (by omega) (by omega)
 simp[hw];subst hz;refine aa fun z hz=>?_;simp;refine aj (by kernel_rfl) (BQ (ri:=iL R o0) w6 (fun k hk=>f6 k (by omega)) (fun k h1 h2=>(f6 k h1).trans (by unfold iL;rw[if_neg (by rintro rfl;simp at h2),if_neg (by omega)])) (n:=bC s) zv (by omega) n1 (by omega)) ?_;rintro vt h7 ⟨W7,o7,g7,w7,r7,e7,st⟩;have w7:Mk s M vs W7 h7 o7 (jl s).2:=w7;have st:SlRd W7 vt (jl s).1:=st;have f7 : ∀k:Key,3<=k.1->o7 k=iL R o0 k:=fun k hk=>by
  by_cases e:8<=k.1
  ·exact r7 k e
  rw[e7 k hk (by omega)];unfold iL;rw[if_neg (by rintro rfl;simp at e),if_neg (by omega)]
 clear r7 e7 w6 f6;have k1:=zd (s:=s);have s4:=uP (s:=s);subst hz;refine aa fun z hz=>?_;simp;refine lx (α:=BlkM) (W:=W7) (k:=.i64) (n:=bC s) (d:=⟨⟨.slice none 0 0⟩,⟨.slice none 0 0⟩,⟨0,[],[],⟨0⟩⟩⟩) El.fH (by rfl) (by rfl) ⟨[.slice none 0 0],_,rfl,⟨rfl,rfl⟩,[.slice none 0 0],_,rfl,⟨rfl,rfl⟩,[.int .i64 0],_,rfl,⟨rfl,by decide,by decide⟩,[.slice none 0 0],_,rfl,⟨_,rfl,fo⟩,[.slice none 0 0],_,rfl,⟨_,rfl,fo⟩,rfl,by decide,by decide⟩ (by omega) (by omega) fun vb8 h8 ob8 m8 hle8 hb8=>?_;obtain⟨vb,vl,lb,bb⟩:=w7.box;have wa:=w7.own.sub (o':=o7.upd (0,2) none) fun j i hj=>by
  unfold Own.upd at hj;split at hj
  ·cases hj
  exact hj
 have wb:=wa.add (k:=(0,2)) Own.af ob8 hle8 (fun b hb=>by rw[hb8]at hb;cases hb;exact LG _);have hv8:=(wb.cells (k:=(0,2)) Own.af).2;obtain⟨o8,ho8⟩ : ∃o8:Own,o8=fun k=>if k.1=1/\k.2<bC s then it T.cE (.slice none 0 0) ([]:List PhiD) else if k.1=2/\k.2<bC s then it T.cg (.slice none 0 0) ([]:List InsD) else o7.upd (0,2) (it T.ay vb8 (List.replicate (bC s) (BlkM.mk ⟨.slice none 0 0⟩ ⟨.slice none 0 0⟩ ⟨0,[],[],⟨0⟩⟩))) k:=⟨_,rfl⟩;have w8:Owns W7 h8 o8:=wb.nils fun k i hk=>by
  rw[ho8]at hk;dsimp only at hk;split at hk
  ·cases hk;exact .inr ⟨rfl,OwnT.nil (α:=PhiD) _ _ _⟩
  split at hk
  ·cases hk;exact .inr ⟨rfl,OwnT.nil (α:=InsD) _ _ _⟩
  refine .inl ?_;by_cases e:k=(0,2)
  ·subst e;rw[Own.af]at hk ⊢;exact hk
  rw[Own.ab e]at hk;rw[Own.ab e,Own.ab e];exact hk
 have c8 : ∀k:Key,¬(k.1=1/\k.2<bC s)->¬(k.1=2/\k.2<bC s)->o8 k=o7.upd (0,2) (it T.ay vb8 (List.replicate (bC s) (BlkM.mk ⟨.slice none 0 0⟩ ⟨.slice none 0 0⟩ ⟨0,[],[],⟨0⟩⟩))) k:=fun k h1 h2=>by rw[ho8];dsimp only;rw[if_neg h1,if_neg h2]
 refine w8.bu (k:=(0,0)) (n:=5) (i:=3) (e:=T.aN) (B:=M) (l:=mkL vs (jl s).2.at_ (jl s).2.ps vb (jl s).2.next vl) (by rw[c8 _ (by simp) (by simp),Own.ab (by simp)];exact bb.box) (by decide) (by kernel_rfl) rfl rfl hv8 fun h9 w9 _=>?_;obtain⟨o9,ho9⟩ : ∃o9:Own,o9=o8.upd (0,0) (bx T.aN M (RawN.mk (n:=5) (mkL vs (jl s).2.at_ (jl s).2.ps vb8 (jl s).2.next vl))):=⟨_,rfl⟩;have w9:Owns W7 h9 o9:=by rw[ho9];exact w9
 have b9:MkB M vs { (jl s).2 with blocks:=List.replicate (bC s) rP } o9 vb8 vl (List.replicate (bC s) (BlkM.mk ⟨.slice none 0 0⟩ ⟨.slice none 0 0⟩ ⟨0,[],[],⟨0⟩⟩)):=by
  rw[ho9];refine⟨rfl,?_,?_,by simp,fun i hi=>?_,fun i hi=>?_,fun i hi=>?_⟩
  ·rw[Own.ab (by simp),c8 _ (by simp) (by simp),Own.ab (by simp)];exact bb.live
  ·rw[Own.ab (by simp),c8 _ (by simp) (by simp),Own.af]
  ·have hi:i<bC s:=by simpa using hi
   rw[aA hi,aA hi];rfl
  ·have hi:i<bC s:=by simpa using hi
   rw[Own.ab (by simp),ho8];dsimp only;rw[if_pos ⟨rfl,hi⟩,aA hi,aA hi];rfl
  have hi:i<bC s:=by simpa using hi
  rw[Own.ab (by simp),ho8];dsimp only;rw[if_neg (by simp),if_pos ⟨rfl,hi⟩,aA hi,aA hi];rfl
 have x9:Nx s M vs W7 h9 (iL R o0) { (jl s).2 with blocks:=List.replicate (bC s) rP }:=⟨W7,o9,View.le_refl _,⟨w9,w7.src,vb8,vl,_,b9⟩,fun k hk=>by rw[ho9,Own.ab (by rintro rfl;simp at hk),c8 _ (by omega) (by omega),Own.ab (by rintro rfl;simp at hk)];exact f7 k hk⟩;clear b9 w9 ho9 c8 w8 ho8 wb wa hv8 bb ob8 m8 hle8 hb8 w7 f7;subst hz;refine aa fun z hz=>?_;refine aa fun y hy=>?_;simp;subst hy;refine Im (vr:=.pointer (some ⟨R,0,none⟩)) st k1.len x9 (by simp) (by omega) (by simp[aZ,ag,ah]) fun h10 x10=>?_;have x10:Nx s M vs W7 h10 (iL R o0) (rH s):=x10
 clear x9;simp;subst hz;refine aa fun z hz=>?_;simp;obtain⟨Wa,oa,ga,wa,fa⟩:=x10;refine lx (α:=Int) (W:=Wa) (k:=.i64) (n:=bC s) (d:=0) El.aS (by rfl) (by rfl) ⟨rfl,by decide,by decide⟩ (by omega) (by omega) fun vp h11 ob11 m11 hle11 hb11=>?_;have x11:Nx s M vs W7 h11 ((iL R o0).upd (5,0) (it T.int vp (List.replicate (bC s) (0:Int)))) (rH s):=by
  have w11:=wa.own.add (k:=(5,0)) ((fa _ (by decide)).trans rfl) ob11 hle11 (fun b hb=>by rw[hb11]at hb;cases hb;exact LG _);obtain⟨vb,vl,lb,bb⟩:=wa.box;refine⟨Wa,_,ga,⟨w11,wa.src,vb,vl,lb,bb.frame fun q hq=>Own.ab (by rintro rfl;simp at hq)⟩,fun q hq=>?_⟩;unfold Own.upd;split
  ·rfl
  exact fa q hq
 clear wa fa ob11 m11 hb11;subst hz;refine aa fun z hz=>?_;refine aa fun y hy=>?_;simp;subst hy;obtain⟨z2,g2⟩:=zG (s:=s);have p0:Ph (bC s) 200 0 (List.replicate (bC s) (0:Int),rH s):=by
  have hz : ∀j,nth (List.replicate (bC s) (0:Int)) j=0:=fun j=>by
   rcases LI j (bC s)with hj | hj
   ·rw[aA hj]
   rw[cB (by simpa using hj)];rfl
  exact⟨z2,by simp,fun j _=>hz j,fun j=>by show 0<=nth (List.replicate _ (0:Int)) j/\nth (List.replicate _ (0:Int)) j<=3;rw[hz];omega⟩
 refine Hn (x0:=(List.replicate (bC s) (0:Int),rH s)) (vr:=.pointer (some ⟨R,0,none⟩)) (vt:=vt) (vp:=vp) x11 p0 n1 (by omega) (by omega) (by simp[aZ,ag,ah]) fun h12 x12=>?_;have x12:Nx s M vs W7 h12 ((iL R o0).upd (5,0) (it T.int vp (jX s).1)) (jX s).2:=x12;obtain⟨ph,pc,g3⟩:=rR (s:=s);clear p0 x11 z2 g2;simp;subst hz;refine aa fun z hz=>?_;simp;obtain⟨Wa,oa,ga,wa,fa⟩:=x12;refine lx (α:=Bool) (W:=Wa) (k:=.i64) (n:=bC s) (d:=false) El.lh (by rfl) (by rfl) rfl (by omega) (by omega) fun vd h13 ob13 m13 hle13 hb13=>?_;have x13:Nx s M vs W7 h13 (((iL R o0).upd (5,0) (it T.int vp (jX s).1)).upd (6,0) (it T.bool vd (List.replicate (bC s) false))) (jX s).2:=by
  have w13:=wa.own.add (k:=(6,0)) ((fa _ (by decide)).trans rfl) ob13 hle13 (fun b hb=>by rw[hb13]at hb;cases hb;exact LG _);obtain⟨vb,vl,lb,bb⟩:=wa.box;refine⟨Wa,_,ga,⟨w13,wa.src,vb,vl,lb,bb.frame fun q hq=>Own.ab (by rintro rfl;simp at hq)⟩,fun q hq=>?_⟩;unfold Own.upd;split
  ·rfl
  exact fa q hq
 clear wa fa ob13 m13 hb13;subst hz;refine aa fun z hz=>?_;refine aa fun y hy=>?_;simp;subst hy;refine HF (a:=16000) (p:=27) (x0:=(List.replicate (bC s) false,(jX s).2)) (vr:=.pointer (some ⟨R,0,none⟩)) (vp:=vp) x13 st k1.len rfl rfl rfl Ac n2 (by omega) (by omega) (by omega) (by simp[aZ,ag,ah]) fun h14 x14=>?_;have x14:Nx s M vs W7 h14 (((iL R o0).upd (5,0) (it T.int vp (jX s).1)).upd (6,0) (it T.bool vd (xX s).1)) (xX s).2:=x14;obtain⟨q4,pc4⟩:=A1 (s:=s);clear x13 pc g3;simp;subst hz;refine aa fun z hz=>?_;refine aa fun y hy=>?_;simp;subst hy;refine FO (vr:=.pointer (some ⟨R,0,none⟩)) (vt:=vt) (vp:=vp) (vd:=vd) (lp:=(jX s).1) x14 ((Own.ab (by simp)).trans Own.af) rfl rfl q4 pc4 ph.len ph.rng n1 n2 (by omega) (by omega) (by omega) (by omega) (by simp[aZ,ag,ah]) fun h15 x15=>?_;have x15:Nx s M vs W7 h15 (((iL R o0).upd (5,0) (it T.int vp (jX s).1)).upd (6,0) (it T.bool vd (xX s).1)) (oC s):=x15
 have q5:=rz (s:=s);clear x14 q4 pc4 ph;simp;subst hz;refine aa fun z hz=>?_;obtain⟨Wa,oa,ga,wa,fa⟩:=x15;obtain⟨vb,vl,lb,bb⟩:=wa.box;have rd:=wa.reads bb
 simp[rd.f];have hvb:vb.oneCell'=true:=rd.blk.cells.2;refine wa.own.ez (k:=(8,0)) (α:=RawN 1) (β:=RawN 1) Part.all (B:=R) (D:=RawN.mk (n:=1) [.int .i64 0,.slice none 0 0]) (d:=RawN.mk (n:=1) [.int .i64 (oC s).ps,vb]) ((fa _ (by decide)).trans rfl) (by kernel_rfl) rfl rfl (eP rfl (by intro c hc;simp only[L4,MF,or_false]at hc;rcases hc with rfl | rfl<;>first | rfl | exact hvb)) fun h16 w16 _=>?_;have c16:=w16.dI (k:=(8,0)) (n:=1) (l:=[.int .i64 (oC s).ps,vb]) Own.af
 have c16:Un.ev (vw h16) (.al 2) (.pointer (some ⟨R,0,none⟩))=some (.agg #[.int .i64 (oC s).ps,vb]):=c16;have b16:=bb.frame (o':=oa.upd (8,0) (bx T.ar R (RawN.mk (n:=1) [.int .i64 (oC s).ps,vb]))) fun q hq=>Own.ab (by rintro rfl;simp at hq);have w16:Mk s M vs Wa h16 _ (oC s):=⟨w16,wa.src,vb,vl,lb,b16⟩
 have rd16:=w16.reads b16;subst hz;simp[c16];refine hK _ _ ⟨Wa,fun k=>if 3<=k.1 then o0 k else if k=(0,2)\/k.1=1\/k.1=2 then oa k else none,vb,lb,View.le_trans g7 ga,w16.own.sub fun k i hk=>?_,fun k hk=>if_pos hk,⟨?_,b16.len,b16.term,fun i hi=>?_,fun i hi=>?_⟩,rfl⟩
 ·split at hk
  ·rename_i e3;rcases LI k.1 10 with e | e
   ·rw[ho0 k e]at hk;cases hk
   have h1:oa k=o0 k:=(fa k (by omega)).trans (by rw[Own.ab (by rintro rfl;simp at e),Own.ab (by rintro rfl;simp at e)];unfold iL;rw[if_neg (by rintro rfl;simp at e),if_pos e]);rw[Own.ab (by rintro rfl;simp at e),h1];exact hk
  rename_i e3;split at hk
  ·rw[Own.ab (by rintro rfl;simp at e3)];exact hk
  cases hk
 ·have:=b16.blk;rw[Own.ab (by simp)]at this;simpa using this
 ·have:=b16.phis i hi;rw[Own.ab (by simp)]at this;exact(by simp:_=oa (1,i)).trans this
 have:=b16.ins i hi;rw[Own.ab (by simp)]at this;exact(by simp:_=oa (2,i)).trans this
theorem Hr{s:List Int}{h:Heap}(w0:Owns W h o0)(ho0 : ∀k:Key,k.1<10->o0 k=none)(hs:SlRd W vs s):
  az Tryz.prog N.ax #[vs] h (fun u h'=>∃W',W.le W'/\Owns W' h' o0/\Rd W' u (qS s)):=by refine(GV w0 ho0 hs).mono ?_;rintro u h' ⟨W1,o,vb,lb,hW,w,ho,b,rfl⟩;obtain⟨W2,hW2,w2,sb⟩:=b.freeze w ho fun k hk=>ho0 k (by omega);have mp:=zX (s:=s);have mi:I64 (qS s).params:=⟨by omega,by omega⟩;exact⟨W2,View.le_trans hW hW2,w2,⟨_,rfl,[.int .i64 (qS s).params],[vb],rfl,⟨rfl,mi⟩,vb,rfl,sb⟩⟩
end Go.Proofs.YtbkdlhkoiagbbaaGreat
namespace Go.Lft
open Go
variable {po:OP}
theorem Dr {P:Program} {t ty e:TypeId} {us:List (Nat × Value)} {h:Heap} {K:Value->Heap->Prop} {x:Operand} {B n sz:Nat} (ht:P.underlying t=some (.array n e)) (hz:cC P e=some sz) (hx:asg us x = .pointer (some ⟨B,0,none⟩)) (hk:K (.slice (some ⟨B,0,none⟩) n n) h):step P (.slice t x none none none) ty us h K:=by refine dR (dt fun w hw=>⟨.slice (some ⟨B,0,none⟩) n n,w,?_,Same.refl _,by rw[hw];exact hk⟩);have e3:=run_sizeOf (w:=w) hz;simp only[bL,execOp,hx];simp[Instr.sliceAt,Instr.sureAddr,run_underlying ht,Instr.sliceBounds,e3,Addr.add]
end Go.Lft
namespace Go.Proofs.YtbkdlhkoiagbbaaGreat
open Go Go.Lft
structure TB (c:Nat) (x:BlkD):Prop where
 phis:x.phis.length<=c
 ins:x.ins.length<=c
 args:x.term.args.length<=c
 to:x.term.to.length<=c
 pin : ∀p∈x.phis,p.ins.length<=c
 iar : ∀i∈x.ins,i.args.length<=c
structure TF (c:Nat) (f:an):Prop where
 len:f.blocks.length<=12
 blk : ∀x∈f.blocks,TB c x
theorem TB.mono {c d:Nat} {x:BlkD} (t:TB c x) (h:c<=d):TB d x:=⟨L9 t.phis h,L9 t.ins h,L9 t.args h,L9 t.to h,fun p hp=>L9 (t.pin p hp) h,fun i hi=>L9 (t.iar i hi) h⟩
theorem TF.mono {c d:Nat} {f:an} (t:TF c f) (h:c<=d):TF d f:=⟨t.len,fun x hx=>(t.blk x hx).mono h⟩
theorem TF.sm {c:Nat} {f:an} (t:TF c f) (h:c<=10000):SmF f:=by refine⟨by have:=t.len;omega,fun i hi=>?_⟩;have q:=t.blk _ (bc hi);exact⟨by have:=q.phis;omega,by have:=q.ins;omega,by have:=q.args;omega,by have:=q.to;omega,fun k hk=>by have:=q.pin _ (bc hk);omega,fun k hk=>by have:=q.iar _ (bc hk);omega⟩
theorem HS {s:List Int}:TF 1000 (qS s):=by have q:=rz (s:=s);have hn:=kv (s:=s);refine⟨by show(oC s).blocks.length<=_;rw[q.z.len];omega,fun x hx=>?_⟩;obtain⟨j,hj,rfl⟩:=LQ hx;have hj:j<(oC s).blocks.length:=hj;have g:=q.g j hj;have this:TB 1000 (nth (oC s).blocks j):=⟨by have:=q.z.phis j;omega,q.z.ins j,by have:=g.args;omega,g.to,fun p hp=>g.phis p hp,fun i hi=>by have:=g.ins i hi;omega⟩;rw[ak hj]at this;exact this
structure Tu (R F X:Nat) (i10:Own) (c:Nat) (W0:View) (vbk:Value) (bl:List BlkD) (W:View) (o:Own) (ps:Int) (vp vi va vt:Value) (kd im:Int) (lp:List PhiD) (li:List InsD) (la lt:List Int):Prop where
 le:W0.le W
 res:o (8,0)=bx T.ar R (RawN.mk (n:=1) [.int .i64 0,.slice none 0 0])
 fn:o (8,1)=bx T.ar F (RawN.mk (n:=1) [.int .i64 ps,vbk])
 blk:o (3,0)=it T.ay vbk bl
 box:o (3,1)=bx T.ay X (RawN.mk (n:=5) [vp,vi,.int .i64 kd,va,vt,.int .i32 im])
 ins:o (3,2)=it T.cg vi li
 phis:o (3,3)=it T.cE vp lp
 free:o (4,0)=none
 fr : ∀k:Key,10<=k.1->o k=i10 k
 ra:SlRd W va la
 rt:SlRd W vt lt
 ips:I64 ps
 ikd:I64 kd
 iim:-2147483648<=im/\im<=2147483647
 tb:TB c ⟨lp,li,⟨kd,la,lt,⟨im⟩⟩⟩
def TuE (R F X:Nat) (i10:Own) (c:Nat) (W0:View) (vbk:Value) (bl:List BlkD) (h:Heap):Prop:=∃W o ps vp vi va vt kd im lp li la lt,Tu R F X i10 c W0 vbk bl W o ps vp vi va vt kd im lp li la lt/\Owns W h o
theorem TuE.mono {R F X:Nat} {i10:Own} {c d:Nat} {W0:View} {vbk:Value} {bl:List BlkD} {h:Heap} (t:TuE R F X i10 c W0 vbk bl h) (hd:c<=d):TuE R F X i10 d W0 vbk bl h:=by obtain⟨W,o,ps,vp,vi,va,vt,kd,im,lp,li,la,lt,t,w⟩:=t;exact⟨W,o,ps,vp,vi,va,vt,kd,im,lp,li,la,lt,⟨t.le,t.res,t.fn,t.blk,t.box,t.ins,t.phis,t.free,t.fr,t.ra,t.rt,t.ips,t.ikd,t.iim,t.tb.mono hd⟩,w⟩
section
variable {R F X c:Nat} {i10:Own} {W0 W:View} {vbk:Value} {bl:List BlkD} {h:Heap} {o:Own} {ps:Int} {vp vi va vt:Value} {kd im:Int} {lp:List PhiD} {li:List InsD} {la lt:List Int}
theorem Tu.wider (t:Tu R F X i10 c W0 vbk bl W o ps vp vi va vt kd im lp li la lt) {W':View} (hW:W.le W'):Tu R F X i10 c W0 vbk bl W' o ps vp vi va vt kd im lp li la lt:=
 ⟨View.le_trans t.le hW,t.res,t.fn,t.blk,t.box,t.ins,t.phis,t.free,t.fr,t.ra.mono hW,t.rt.mono hW,t.ips,t.ikd,t.iim,t.tb⟩
theorem Tu.more (t:Tu R F X i10 c W0 vbk bl W o ps vp vi va vt kd im lp li la lt) {d:Nat} (hd:c<=d):Tu R F X i10 d W0 vbk bl W o ps vp vi va vt kd im lp li la lt:=
 ⟨t.le,t.res,t.fn,t.blk,t.box,t.ins,t.phis,t.free,t.fr,t.ra,t.rt,t.ips,t.ikd,t.iim,t.tb.mono hd⟩
variable {po:OP} {ty t2:TypeId} {us:List (Nat × Value)} {x y:Operand} {K:Value->Heap->Prop}
theorem Tu.DO (t:Tu R F X i10 c W0 vbk bl W o ps vp vi va vt kd im lp li la lt) (w:Owns W h o) {p:Int} (hp:I64 p) (hsz:cC Tryz.prog t2=some 1) (hx:asg us x = .pointer (some ⟨F,0,none⟩)) (hy:asg us y = .int .i64 p) (hK : ∀h',TuE R F X i10 c W0 vbk bl h'->K undef h'):@Lft.step po Tryz.prog (.store t2 x y) ty us h K:=
 w.bu (k:=(8,1)) (n:=1) (i:=0) t.fn (by decide) hsz hx hy rfl fun h' w' _=>hK h' ⟨W,_,p,vp,vi,va,vt,kd,im,lp,li,la,lt,⟨t.le,(Own.ab (by simp)).trans t.res,Own.af,(Own.ab (by simp)).trans t.blk,(Own.ab (by simp)).trans t.box,(Own.ab (by simp)).trans t.ins,(Own.ab (by simp)).trans t.phis,(Own.ab (by simp)).trans t.free,fun k hk=>(Own.ab (by rintro rfl;simp at hk)).trans (t.fr k hk),t.ra,t.rt,hp,t.ikd,t.iim,t.tb⟩,w'⟩
theorem Tu.G5 (t:Tu R F X i10 c W0 vbk bl W o ps vp vi va vt kd im lp li la lt) (w:Owns W h o) {p:Int} (hp:I64 p) (hsz:cC Tryz.prog t2=some 1) (hx:asg us x = .pointer (some ⟨X,2,none⟩)) (hy:asg us y = .int .i64 p) (hK : ∀h',TuE R F X i10 c W0 vbk bl h'->K undef h'):@Lft.step po Tryz.prog (.store t2 x y) ty us h K:=
 w.bu (k:=(3,1)) (n:=5) (i:=2) t.box (by decide) hsz hx hy rfl fun h' w' _=>hK h' ⟨W,_,ps,vp,vi,va,vt,p,im,lp,li,la,lt,⟨t.le,(Own.ab (by simp)).trans t.res,(Own.ab (by simp)).trans t.fn,(Own.ab (by simp)).trans t.blk,Own.af,(Own.ab (by simp)).trans t.ins,(Own.ab (by simp)).trans t.phis,(Own.ab (by simp)).trans t.free,fun k hk=>(Own.ab (by rintro rfl;simp at hk)).trans (t.fr k hk),t.ra,t.rt,t.ips,hp,t.iim,⟨t.tb.phis,t.tb.ins,t.tb.args,t.tb.to,t.tb.pin,t.tb.iar⟩⟩,w'⟩
theorem Tu.Db (t:Tu R F X i10 c W0 vbk bl W o ps vp vi va vt kd im lp li la lt) (w:Owns W h o) {v:Value} {l:List Int} (hv:SlRd W v l) (hl:l.length<=c) (hsz:cC Tryz.prog t2=some 1) (hx:asg us x = .pointer (some ⟨X,4,none⟩)) (hy:asg us y=v) (hK : ∀h',TuE R F X i10 c W0 vbk bl h'->K undef h'):@Lft.step po Tryz.prog (.store t2 x y) ty us h K:=
 w.bu (k:=(3,1)) (n:=5) (i:=4) t.box (by decide) hsz hx hy hv.cells.2 fun h' w' _=>hK h' ⟨W,_,ps,vp,vi,va,v,kd,im,lp,li,la,l,⟨t.le,(Own.ab (by simp)).trans t.res,(Own.ab (by simp)).trans t.fn,(Own.ab (by simp)).trans t.blk,Own.af,(Own.ab (by simp)).trans t.ins,(Own.ab (by simp)).trans t.phis,(Own.ab (by simp)).trans t.free,fun k hk=>(Own.ab (by rintro rfl;simp at hk)).trans (t.fr k hk),t.ra,hv,t.ips,t.ikd,t.iim,⟨t.tb.phis,t.tb.ins,t.tb.args,hl,t.tb.pin,t.tb.iar⟩⟩,w'⟩
theorem Tu.Bs {β:Type} [Rep β] {off:Nat} {g:InsD->β} {s:InsD->β->InsD} (p:Part InsD β off g s) (t:Tu R F X i10 c W0 vbk bl W o ps vp vi va vt kd im lp li la lt) (w:Owns W h o) {j:Nat} {v:Value} {d:β} (hj:j<li.length) (hr:Rd W v d) (hs:(s li[j] d).args.length<=c) (hsz:cC Tryz.prog t2=some (Rep.n β)) (hx:asg us x = .pointer (some (((slA vi).add (j*5)).add off))) (hy:asg us y=v) (hK : ∀h',TuE R F X i10 c W0 vbk bl h'->K undef h'):@Lft.step po Tryz.prog (.store t2 x y) ty us h K:=
 w.je (k:=(3,2)) (α:=InsD) p (v:=vi) (l:=li) (i:=j) t.ins hsz hx hy hj hr fun h' w' _=>hK h' ⟨W,_,ps,vp,vi,va,vt,kd,im,lp,li.set j (s li[j] d),la,lt,⟨t.le,(Own.ab (by simp)).trans t.res,(Own.ab (by simp)).trans t.fn,(Own.ab (by simp)).trans t.blk,(Own.ab (by simp)).trans t.box,Own.af,(Own.ab (by simp)).trans t.phis,(Own.ab (by simp)).trans t.free,fun k hk=>(Own.ab (by rintro rfl;simp at hk)).trans (t.fr k hk),t.ra,t.rt,t.ips,t.ikd,t.iim,⟨t.tb.phis,by rw[LN];exact t.tb.ins,t.tb.args,t.tb.to,t.tb.pin,fun i hi=>by
   rcases MY hi with q | q
   ·exact t.tb.iar i q
   rw[q];exact hs⟩⟩,w'⟩
theorem Tu.GK (t:Tu R F X i10 c W0 vbk bl W o ps vp vi va vt kd im lp li la lt) (w:Owns W h o) {j:Nat} {v:Value} {d:List InD} (hj:j<lp.length) (hr:SlRd W v d) (hs:d.length<=c) (hsz:cC Tryz.prog t2=some 1) (hx:asg us x = .pointer (some (((slA vp).add (j*2)).add 1))) (hy:asg us y=v) (hK : ∀h',TuE R F X i10 c W0 vbk bl h'->K undef h'):@Lft.step po Tryz.prog (.store t2 x y) ty us h K:=
 w.je (k:=(3,3)) (α:=PhiD) PhiD.jr (v:=vp) (l:=lp) (i:=j) t.phis hsz hx hy hj (fy.2 hr) fun h' w' _=>hK h' ⟨W,_,ps,vp,vi,va,vt,kd,im,lp.set j { lp[j]with ins:=d },li,la,lt,⟨t.le,(Own.ab (by simp)).trans t.res,(Own.ab (by simp)).trans t.fn,(Own.ab (by simp)).trans t.blk,(Own.ab (by simp)).trans t.box,(Own.ab (by simp)).trans t.ins,Own.af,(Own.ab (by simp)).trans t.free,fun k hk=>(Own.ab (by rintro rfl;simp at hk)).trans (t.fr k hk),t.ra,t.rt,t.ips,t.ikd,t.iim,⟨by rw[LN];exact t.tb.phis,t.tb.ins,t.tb.args,t.tb.to,fun i hi=>by
   rcases MY hi with q | q
   ·exact t.tb.pin i q
   rw[q];exact hs,t.tb.iar⟩⟩,w'⟩
theorem Tu.HA (t:Tu R F X i10 c W0 vbk bl W o ps vp vi va vt kd im lp li la lt) {v:Value} {l:List InsD} (w:Owns W h (o.upd (3,2) (it T.cg v l))) (hl:l.length<=c) (ha : ∀i∈l,i.args.length<=c) (hsz:cC Tryz.prog t2=some 1) (hx:asg us x = .pointer (some ⟨X,1,none⟩)) (hy:asg us y=v) (hK : ∀h',TuE R F X i10 c W0 vbk bl h'->K undef h'):@Lft.step po Tryz.prog (.store t2 x y) ty us h K:=
 w.bu (k:=(3,1)) (n:=5) (i:=1) ((Own.ab (by simp)).trans t.box) (by decide) hsz hx hy (w.cells (k:=(3,2)) Own.af).2 fun h' w' _=>hK h' ⟨W,_,ps,vp,v,va,vt,kd,im,lp,l,la,lt,⟨t.le,(Own.ab (by simp)).trans ((Own.ab (by simp)).trans t.res),(Own.ab (by simp)).trans ((Own.ab (by simp)).trans t.fn),(Own.ab (by simp)).trans ((Own.ab (by simp)).trans t.blk),Own.af,(Own.ab (by simp)).trans Own.af,(Own.ab (by simp)).trans ((Own.ab (by simp)).trans t.phis),(Own.ab (by simp)).trans ((Own.ab (by simp)).trans t.free),fun k hk=>(Own.ab (by rintro rfl;simp at hk)).trans ((Own.ab (by rintro rfl;simp at hk)).trans (t.fr k hk)),t.ra,t.rt,t.ips,t.ikd,t.iim,⟨t.tb.phis,hl,t.tb.args,t.tb.to,t.tb.pin,ha⟩⟩,w'⟩
theorem Tu.Hh (t:Tu R F X i10 c W0 vbk bl W o ps vp vi va vt kd im lp li la lt) {v:Value} {l:List PhiD} (w:Owns W h (o.upd (3,3) (it T.cE v l))) (hl:l.length<=c) (ha : ∀i∈l,i.ins.length<=c) (hsz:cC Tryz.prog t2=some 1) (hx:asg us x = .pointer (some ⟨X,0,none⟩)) (hy:asg us y=v) (hK : ∀h',TuE R F X i10 c W0 vbk bl h'->K undef h'):@Lft.step po Tryz.prog (.store t2 x y) ty us h K:=
 w.bu (k:=(3,1)) (n:=5) (i:=0) ((Own.ab (by simp)).trans t.box) (by decide) hsz hx hy (w.cells (k:=(3,3)) Own.af).2 fun h' w' _=>hK h' ⟨W,_,ps,v,vi,va,vt,kd,im,l,li,la,lt,⟨t.le,(Own.ab (by simp)).trans ((Own.ab (by simp)).trans t.res),(Own.ab (by simp)).trans ((Own.ab (by simp)).trans t.fn),(Own.ab (by simp)).trans ((Own.ab (by simp)).trans t.blk),Own.af,(Own.ab (by simp)).trans ((Own.ab (by simp)).trans t.ins),(Own.ab (by simp)).trans Own.af,(Own.ab (by simp)).trans ((Own.ab (by simp)).trans t.free),fun k hk=>(Own.ab (by rintro rfl;simp at hk)).trans ((Own.ab (by rintro rfl;simp at hk)).trans (t.fr k hk)),t.ra,t.rt,t.ips,t.ikd,t.iim,⟨hl,t.tb.ins,t.tb.args,t.tb.to,ha,t.tb.iar⟩⟩,w'⟩
end
theorem C9 {H:View} {u:Value} {d:BlkD} (h:Rd H u d) : ∃vp vi va vt,u = .agg #[vp,vi,.int .i64 d.term.kind,va,vt,.int .i32 d.term.imm.v]/\SlRd H vp d.phis/\SlRd H vi d.ins/\SlRd H va d.term.args/\SlRd H vt d.term.to/\I64 d.term.kind/\-2147483648<=d.term.imm.v/\d.term.imm.v<=2147483647:=by
 obtain⟨cs,rfl,c1,r1,e1,⟨vp,rfl,h1⟩,c2,r2,e2,⟨vi,rfl,h2⟩,c3,r3,e3,⟨rfl,h3⟩,c4,r4,e4,⟨va,rfl,h4⟩,c5,r5,e5,⟨vt,rfl,h5⟩,h6,h7⟩:=h;subst e5 e4 e3 e2;have he:cs.toList=[vp,vi,.int .i64 d.term.kind,va,vt,.int .i32 d.term.imm.v]:=by rw[e1,h6];rfl
 refine⟨vp,vi,va,vt,?_,h1,h2,h4,h5,h3,h7⟩;rw[<-Array.toList_inj.1 (he.trans rfl:cs.toList = #[vp,vi,Value.int .i64 d.term.kind,va,vt,.int .i32 d.term.imm.v].toList)]
theorem Owns.elW {W:View} {h:Heap} {o:Own} {k:Key} {α:Type} [r:Rep α] {e:TypeId} {v:Value} {l:List α} (w:Owns W h o) (hk:o k=it e v l) {i:Nat} (hi:i<l.length) : ∃cs,gj (vw h) ((slA v).add (i*Rep.n α)) cs/\cs.length=Rep.n α/\Rep.rd W cs l[i]:=by
 obtain⟨hb,xs,⟨hl,hown⟩,hel⟩:=w.get hk;have h0:=hel i hi;have hle:i*Rep.n α+Rep.n α<=l.length*Rep.n α:=by rw[<-Nat.succ_mul];exact L7 _ hi
 have hcl:((xs.drop (i*Rep.n α)).take (Rep.n α)).length=Rep.n α:=by simp;omega
 rcases hown with⟨rfl,hn⟩ | ⟨g,cap,cur,rfl,h2,h3,h4,h5,h6⟩
 ·omega
 have hadd:(slA (.slice (some ⟨g,0,none⟩) l.length cap)).add (i*Rep.n α)=⟨g,i*Rep.n α,none⟩:=by show(⟨g,0,none⟩:Addr).add _=_;simp[Addr.z]
 rw[hadd];refine⟨_,⟨cur,e,(0,0),rfl,h2,?_⟩,hcl,h0⟩;rw[hcl,<-h6,Nk,M9,MO (by omega)]
theorem Owns.ldW {W:View} {h:Heap} {o:Own} {k:Key} {α:Type} [r:Rep α] {e:TypeId} {v:Value} {l:List α} (w:Owns W h o) (hk:o k=it e v l) (ha:Rep.agg α=true) {N:Nat} (hn:Rep.n α=N) {i:Nat} (hi:i<l.length) : ∃u,Un.ev (vw h) (.al N) (.pointer (some ((slA v).add (i*N))))=some u/\Rd W u l[i]:=by
 subst hn;obtain⟨cs,h1,h2,h3⟩:=Owns.elW w hk hi;have:=gz h1 cs.length 0 #[] (by omega);refine⟨.agg cs.toArray,?_,?_⟩
 ·simp only[Un.ev,vP,L3];rw[h2]at this;rw[this];simp
 unfold Rd;rw[if_pos ha];exact⟨_,rfl,by simpa using h3⟩
theorem Owns.insW {W:View} {h:Heap} {o:Own} {k:Key} {e:TypeId} {v:Value} {l:List InsD} (w:Owns W h o) (hk:o k=it e v l) {i:Nat} (hi:i<l.length) : ∃va,ao (vw h) (((slA v).add (i*5)).add 3)=some va/\SlRd W va l[i].args:=by obtain⟨cs,h1,h2,h3⟩:=Owns.elW w hk hi;have hn:Rep.n InsD=5:=rfl;rw[hn]at h1;obtain⟨c1,r1,e1,⟨rfl,q1⟩,c2,r2,e2,⟨rfl,q2⟩,c3,r3,e3,⟨rfl,q3⟩,c4,r4,e4,⟨va,rfl,q4⟩,q5,q6⟩:=h3;subst e4 e3 e2 e1;exact⟨va,jH h1 (by rfl),q4⟩
theorem Owns.phiW {W:View} {h:Heap} {o:Own} {k:Key} {e:TypeId} {v:Value} {l:List PhiD} (w:Owns W h o) (hk:o k=it e v l) {i:Nat} (hi:i<l.length) : ∃va,ao (vw h) (((slA v).add (i*2)).add 1)=some va/\SlRd W va l[i].ins:=by obtain⟨cs,h1,h2,h3⟩:=Owns.elW w hk hi;have hn:Rep.n PhiD=2:=rfl;rw[hn]at h1;obtain⟨c1,r1,e1,⟨rfl,q1⟩,va,rfl,q4⟩:=h3;subst e1;exact⟨va,jH h1 (by rfl),q4⟩
theorem mV {po:OP} {a b:Int} (ha:I64 a) (hb:I64 b) {ty:TypeId} {us:List (Nat × Value)} {h:Heap} {x:Operand} {K:Value->Heap->Prop} (hx:asg us x = .agg #[.int .i64 a,.int .i64 b])
  (hk : ∀h',(vw h).le (vw h')->(∀Y:View,Y h.size=h'[h.size]?->SlRd Y (.slice (some ⟨h.size,0,none⟩) 1 1) [InD.mk a b])->K (.slice (some ⟨h.size,0,none⟩) 1 1) h'):@Lft.step po Tryz.prog (.buildSlice T.bZ 1 #[(0,x)]) ty us h K:=by
 refine pB (n:=1) (size:=2) (vs:=[(0,.agg #[.int .i64 a,.int .i64 b])]) (cs:=#[.int .i64 a,.int .i64 b]) El.bZ (by decide) (by simp[hx]) (by kernel_rfl) (hk _ (bm _ _) fun Y hY=>?_);have hb2:Y h.size=some (.cells #[.int .i64 a,.int .i64 b] T.bI (0,0)):=by rw[hY];simp
 refine⟨some ⟨h.size,0,none⟩,1,rfl,LG _,by simp,.inr ⟨⟨h.size,0,none⟩,rfl,rfl,fun i hi=>?_⟩⟩;have:i=0:=by simpa using hi
 subst this;have e:(⟨h.size,0,none⟩:Addr).add (0*Rep.n InD)=⟨h.size,0,none⟩:=by rw[Ny];rfl
 rw[e];exact oW (d:=InD.mk a b) (v:=.agg #[.int .i64 a,.int .i64 b]) (fz:=(0,0)) hb2 (Fb ha hb)
theorem Owns.cut {W:View} {h:Heap} {o:Own} {k:Key} {α:Type} [r:Rep α] {e:TypeId} {v:Value} {l:List α} (w:Owns W h o) (hk:o k=it e v l) {N:Nat} (hN:Rep.n α=N) {j:Nat} (hj:j<l.length) : ∃v1 v2,Bn.ev .hi v (.int .i64 j)=some v1/\Bn.ev (.lo N) v (.int .i64 ((j:Int)+1))=some v2/\Owns W h (o.upd k (it e v1 (l.take j)))/\SrcT (vw h) W v2 (l.drop (j+1)):=by
 subst hN;obtain⟨hb,xs,⟨hl,hown⟩,hel⟩:=w.get hk;rcases hown with⟨rfl,hn⟩ | ⟨g,cap,cur,rfl,h2,h3,h4,h5,h6⟩
 ·omega
 have hjn:j*Rep.n α+Rep.n α<=l.length*Rep.n α:=by rw[<-Nat.succ_mul];exact L7 _ hj
 have hcn:l.length*Rep.n α<=cap*Rep.n α:=L7 _ h3;refine⟨.slice (some ⟨g,0,none⟩) j cap,.slice (if cap=j+1 then some ⟨g,0,none⟩ else(some ⟨g,0,none⟩:Option Addr).map (·.add ((j+1)*Rep.n α))) (l.length-(j+1)) (cap-(j+1)),?_,?_,?_,?_⟩
 ·simp only[Bn.ev,vL,vI,L3];rw[if_pos ⟨by omega,by omega⟩];simp
 ·simp only[Bn.ev,vL,vI,L3];rw[if_pos ⟨by omega,by omega⟩];have:((j:Int)+1).toNat=j+1:=by omega
  simp only[this]
 ·refine w.lQ hk (h':=h) (v':=.slice (some ⟨g,0,none⟩) j cap) (l':=l.take j) ⟨by simp;omega,xs.take (j*Rep.n α),⟨?_,.inr ⟨g,cap,cur,?_,h2,?_,h4,h5,?_⟩⟩,fun i hi=>?_⟩ ⟨⟨LG _,fun _ _ _=>rfl⟩,.inl rfl⟩
  ·simp only[MA];rw[hl];rw[MO (by omega),MO (by omega)]
  ·rw[MA,MO (by omega)]
  ·simp;omega
  ·rw[MA,MO (by omega),<-h6,M9,MO (by omega)]
  have him:i<min j l.length:=by simpa using hi
  have hi:i<j/\i<l.length:=⟨by omega,by omega⟩;have:=hel i hi.2;rw[Ol];have e2:((xs.take (j*Rep.n α)).drop (i*Rep.n α)).take (Rep.n α)=(xs.drop (i*Rep.n α)).take (Rep.n α):=by
   have h7:i*Rep.n α+Rep.n α<=j*Rep.n α:=by rw[<-Nat.succ_mul];exact L7 _ hi.1
   rw[Nk,M9,MO (by omega)]
  rw[e2];exact this
 have hld:(l.drop (j+1)).length=l.length-(j+1):=by simp
 refine⟨_,_,by rw[hld],?_,xs.drop ((j+1)*Rep.n α),?_,?_,fun i hi=>?_⟩
 ·intro hn;split at hn
  ·cases hn
  cases hn
 ·rw[ME,hl,hld,Nat.sub_mul]
 ·intro ad had i x hx;split at had
  ·rename_i hc;have:l.length=j+1:=by omega
   rw[MG (by rw[hl,this];exact LG _)]at hx;simp at hx
  simp only[Option.map_some,LF]at had;subst had;have e3:(((⟨g,0,none⟩:Addr).add ((j+1)*Rep.n α)).add i)=⟨g,(j+1)*Rep.n α+i,none⟩:=by simp[Addr.z]
  rw[e3];have hx2:xs[(j+1)*Rep.n α+i]? = some x:=by rw[List.getElem?_drop]at hx;exact hx
  have hlt:(j+1)*Rep.n α+i<xs.length:=by
   rcases LI ((j+1)*Rep.n α+i) xs.length with q | q
   ·exact q
   rw[List.getElem?_eq_none q]at hx2;cases hx2
  have h2v:vw h g=some (.cells cur e (0,0)):=h2;simp only[ao,h2v];rw[<-h6,List.getElem?_take_of_lt (by omega)]at hx2;simpa using hx2
 have hi:j+1+i<l.length:=by rw[hld]at hi;omega
 have:=hel (j+1+i) hi;rw[N9];rw[NG,show(j+1)*Rep.n α+i*Rep.n α=(j+1+i)*Rep.n α by rw[<-Nat.add_mul]];exact this
end Go.Proofs.YtbkdlhkoiagbbaaGreat
namespace Go.Proofs.YtbkdlhkoiagbbaaGreat
open Go Go.Lft
def pr:Nat->Nat->Nat
 | 0,i=>2*i+1
 | b+1,i=>2*pr b i
theorem Ca : ∀{b c i j:Nat},pr b i=pr c j->b=c/\i=j
 | 0,0,i,j,h=>⟨rfl,by unfold pr at h;omega⟩
 | 0,c+1,i,j,h=>by unfold pr at h;omega
 | b+1,0,i,j,h=>by unfold pr at h;omega
 | b+1,c+1,i,j,h=>by have h:2*pr b i=2*pr c j:=h;have:=Ca (show pr b i=pr c j by omega);exact⟨by omega,this.2⟩
variable{b:Nat}
theorem Ak{c i j:Nat}:pr b i=pr c j↔b=c/\i=j:=⟨Ca,fun h=>by rw[h.1,h.2]⟩
structure PhO where
 dst:Int
 ins:Raw
instance:Rep PhO:=Rep.via fun d=>Cat.mk d.dst d.ins
instance:Inhabited PhO:=⟨⟨0,default⟩⟩
theorem PhO.jr:Part PhO Raw 1 PhO.ins (fun d x=>{ d with ins:=x }):=(Part.snd Part.all).via (fun _=>rfl) fun _ _=>rfl
structure InO where
 op:Int
 dst:Int
 two:Int
 args:Raw
 imm:I32
instance:Rep InO:=Rep.via fun d=>Cat.mk d.op (Cat.mk d.dst (Cat.mk d.two (Cat.mk d.args d.imm)))
instance:Inhabited InO:=⟨⟨0,0,0,default,default⟩⟩
structure TmO where
 kind:Int
 args:Raw
 to:Raw
 imm:I32
instance:Rep TmO:=Rep.via fun d=>Cat.mk d.kind (Cat.mk d.args (Cat.mk d.to d.imm))
instance:Inhabited TmO:=⟨⟨0,default,default,default⟩⟩
theorem TmO.tY:Part TmO Raw 2 TmO.to (fun d x=>{ d with to:=x }):=(Part.snd (Part.snd (Part.fst Part.all))).via (fun _=>rfl) fun _ _=>rfl
structure BkO where
 phis:Raw
 ins:Raw
 term:TmO
instance:Rep BkO:=Rep.via fun d=>Cat.mk d.phis (Cat.mk d.ins d.term)
instance:Inhabited BkO:=⟨⟨default,default,default⟩⟩
theorem BkO.km:Part BkO Raw 0 BkO.phis (fun d x=>{ d with phis:=x }):=(Part.fst Part.all).via (fun _=>rfl) fun _ _=>rfl
theorem BkO.kz:Part BkO TmO 2 BkO.term (fun d x=>{ d with term:=x }):=(Part.snd (Part.snd Part.all)).via (fun _=>rfl) fun _ _=>rfl
section
variable {H:View} {cs:List Value}
theorem C6{d:PhO}{l:List InD}(h:Rep.rd H cs d)(hl:SlRd H d.ins.v l):Rep.rd H cs (PhiD.mk d.dst l):=by obtain⟨c1,r1,e1,h1,h2,_⟩:=h;have h2:r1=[d.ins.v]:=h2;exact⟨c1,r1,e1,h1,d.ins.v,h2,hl⟩
theorem HP{d:InO}{l:List Int}(h:Rep.rd H cs d)(hl:SlRd H d.args.v l):Rep.rd H cs (InsD.mk d.op d.dst d.two l d.imm):=by obtain⟨c1,r1,e1,h1,c2,r2,e2,h2,c3,r3,e3,h3,c4,r4,e4,⟨h4,_⟩,h5⟩:=h;have h4:c4=[d.args.v]:=h4;exact⟨c1,r1,e1,h1,c2,r2,e2,h2,c3,r3,e3,h3,c4,r4,e4,⟨d.args.v,h4,hl⟩,h5⟩
theorem Ha{d:BkO}{p:List PhiD}{i:List InsD}{a t:List Int}(h:Rep.rd H cs d)(hp:SlRd H d.phis.v p)(hi:SlRd H d.ins.v i)(ha:SlRd H d.term.args.v a)(ht:SlRd H d.term.to.v t):Rep.rd H cs (BlkD.mk p i ⟨d.term.kind,a,t,d.term.imm⟩):=by obtain⟨c1,r1,e1,⟨h1,_⟩,c2,r2,e2,⟨h2,_⟩,c3,r3,e3,h3,c4,r4,e4,⟨h4,_⟩,c5,r5,e5,⟨h5,_⟩,h6⟩:=h;have h1:c1=[d.phis.v]:=h1;have h2:c2=[d.ins.v]:=h2;have h4:c4=[d.term.args.v]:=h4;have h5:c5=[d.term.to.v]:=h5;exact⟨c1,r1,e1,⟨d.phis.v,h1,hp⟩,c2,r2,e2,⟨d.ins.v,h2,hi⟩,c3,r3,e3,h3,c4,r4,e4,⟨d.term.args.v,h4,ha⟩,c5,r5,e5,⟨d.term.to.v,h5,ht⟩,h6⟩
end
structure Bv where
 p:Value
 i:Value
 a:Value
 t:Value
 pin:Nat->Value
 iar:Nat->Value
def phO (V:Bv) (d:BlkD) (i:Nat):PhO:=⟨(nth d.phis i).dst,⟨V.pin i⟩⟩
def inO (V:Bv) (d:BlkD) (i:Nat):InO:=⟨(nth d.ins i).op,(nth d.ins i).dst,(nth d.ins i).two,⟨V.iar i⟩,(nth d.ins i).imm⟩
def tmO (V:Bv) (d:BlkD):TmO:=⟨d.term.kind,⟨V.a⟩,⟨V.t⟩,d.term.imm⟩
def bkO (V:Bv) (d:BlkD):BkO:=⟨⟨V.p⟩,⟨V.i⟩,tmO V d⟩
structure BO (K:Nat) (o:Own) (b:Nat) (V:Bv) (d:BlkD):Prop where
 phis:o (K+1,b)=it T.cE V.p (rows (phO V d) d.phis.length)
 ins:o (K+2,b)=it T.cg V.i (rows (inO V d) d.ins.length)
 args:o (K+3,b)=it T.int V.a d.term.args
 to:o (K+4,b)=it T.int V.t d.term.to
 pin : ∀i,i<d.phis.length->o (K+5,pr b i)=it T.bI (V.pin i) (nth d.phis i).ins
 iar : ∀i,i<d.ins.length->o (K+6,pr b i)=it T.int (V.iar i) (nth d.ins i).args
structure FnO (K:Nat) (o:Own) (vb:Value) (V:Nat->Bv) (f:an):Prop where
 blk:o (K,0)=it T.ay vb (rows (fun b=>bkO (V b) (nth f.blocks b)) f.blocks.length)
 bo : ∀b,b<f.blocks.length->BO K o b (V b) (nth f.blocks b)
def OfB (K b:Nat) (k:Key):Prop:=(k.2=b/\K+1<=k.1/\k.1<=K+4)\/∃i,k.2=pr b i/\(k.1=K+5\/k.1=K+6)
section
variable {K:Nat} {o o':Own} {b c:Nat} {V:Bv} {d:BlkD}
theorem BO.congr(w:BO K o b V d)(h : ∀k,OfB K b k->o' k=o k):BO K o' b V d:=
 ⟨(h _ (.inl ⟨rfl,by simp,by simp⟩)).trans w.phis,(h _ (.inl ⟨rfl,by simp,by simp⟩)).trans w.ins,(h _ (.inl ⟨rfl,by simp,by simp⟩)).trans w.args,(h _ (.inl ⟨rfl,by simp,by simp⟩)).trans w.to,
  fun i hi=>(h _ (.inr ⟨i,rfl,.inl rfl⟩)).trans (w.pin i hi),fun i hi=>(h _ (.inr ⟨i,rfl,.inr rfl⟩)).trans (w.iar i hi)⟩
theorem yP(hbc:b≠c){k:Key}(h:OfB K b k):¬OfB K c k:=by
 intro g;rcases h with⟨h1,h2,h3⟩ | ⟨i,h1,h2⟩<;>rcases g with⟨g1,g2,g3⟩ | ⟨j,g1,g2⟩
 ·omega
 ·omega
 ·omega
 exact hbc (Ca (h1.symm.trans g1)).1
theorem ja{k:Key}(h:OfB K b k):K+1<=k.1/\k.1<=K+6:=by rcases h with⟨h1,h2,h3⟩ | ⟨i,h1,h2⟩<;>omega
end
section
variable {H:View} {vb:Value} {V:Nat->Bv} {f:an}
theorem CV{V:Bv}{d:BlkD}(h0:SlRd H V.p (rows (phO V d) d.phis.length))(h1 : ∀i,i<d.phis.length->SlRd H (V.pin i) (nth d.phis i).ins):SlRd H V.p d.phis:=by
 refine mq h0 rfl (by simp) fun i g1 g2 cs hr=>?_;have e:(rows (phO V d) d.phis.length)[i]=phO V d i:=by simp[rows]
 rw[e]at hr;have:=C6 hr (h1 i g2);rw[<-ak g2];exact this
theorem FG{V:Bv}{d:BlkD}(h0:SlRd H V.i (rows (inO V d) d.ins.length))(h1 : ∀i,i<d.ins.length->SlRd H (V.iar i) (nth d.ins i).args):SlRd H V.i d.ins:=by
 refine mq h0 rfl (by simp) fun i g1 g2 cs hr=>?_;have e:(rows (inO V d) d.ins.length)[i]=inO V d i:=by simp[rows]
 rw[e]at hr;have:=HP hr (h1 i g2);rw[<-ak g2];exact this
theorem Cs(h0:SlRd H vb (rows (fun b=>bkO (V b) (nth f.blocks b)) f.blocks.length))(hp : ∀b,b<f.blocks.length->SlRd H (V b).p (nth f.blocks b).phis)(hi : ∀b,b<f.blocks.length->SlRd H (V b).i (nth f.blocks b).ins)(ha : ∀b,b<f.blocks.length->SlRd H (V b).a (nth f.blocks b).term.args)(ht : ∀b,b<f.blocks.length->SlRd H (V b).t (nth f.blocks b).term.to):SlRd H vb f.blocks:=by
 refine mq h0 rfl (by simp) fun b g1 g2 cs hr=>?_;have e:(rows (fun b=>bkO (V b) (nth f.blocks b)) f.blocks.length)[b]=bkO (V b) (nth f.blocks b):=by simp[rows]
 rw[e]at hr;have:=Ha hr (hp b g2) (hi b g2) (ha b g2) (ht b g2);rw[<-ak g2];exact this
end
section
variable {W:View} {h:Heap} {K:Nat} {o o':Own} {vb:Value} {V:Nat->Bv} {f:an} {b:Nat}
theorem FnO.rd(w:Owns W h o)(g:FnO K o vb V f):SlRd (vw h) vb f.blocks:=
 Cs (w.now g.blk) (fun b hb=>CV (w.now (g.bo b hb).phis) fun i hi=>w.now ((g.bo b hb).pin i hi)) (fun b hb=>FG (w.now (g.bo b hb).ins) fun i hi=>w.now ((g.bo b hb).iar i hi)) (fun b hb=>w.now (g.bo b hb).args) fun b hb=>w.now (g.bo b hb).to
theorem FnO.rdF(w:Owns W h o)(g:FnO K o vb V f)(hp:I64 f.params):Rd (vw h) (.agg #[.int .i64 f.params,vb]) f:=
 ⟨_,rfl,[.int .i64 f.params],[vb],rfl,⟨rfl,hp⟩,vb,rfl,g.rd w⟩
theorem FnO.congr (g:FnO K o vb V f) (h : ∀k:Key,K<=k.1->k.1<=K+6->o' k=o k):FnO K o' vb V f:=
 ⟨(h _ (LG _) (by simp)).trans g.blk,fun b hb=>(g.bo b hb).congr fun k hk=>by have:=ja hk;exact h k (by omega) (by omega)⟩
theorem FnO.upd (g:FnO K o vb V f) {k:Key} {x:Option Lft.Item} (h:k.1<K\/K+6<k.1):FnO K (o.upd k x) vb V f:=
 g.congr fun q h1 h2=>Own.ab (by rintro rfl;omega)
def bj (f:an) (b:Nat) (d:BlkD):an:=⟨f.params,f.blocks.set b d⟩
theorem ku{d:BlkD}:(bj f b d).blocks.length=f.blocks.length:=LN
theorem qH{d:BlkD}(hb:b<f.blocks.length)(c:Nat):nth (bj f b d).blocks c=if b=c then d else nth f.blocks c:=by
 unfold bj;dsimp only;rcases LI c f.blocks.length with h | h
 ·exact aF h
 rw[cB (by rw[LN];exact h),cB h,if_neg (by omega)]
theorem Bc(hb:b<f.blocks.length):bj f b (nth f.blocks b)=f:=by unfold bj;rw[ak hb,MT hb]
theorem yB{d e:BlkD}:bj (bj f b d) b e=bj f b e:=by unfold bj;rw[OH]
theorem FnO.setB(g:FnO K o vb V f)(hb:b<f.blocks.length){d:BlkD}(h0:o' (K,0)=o (K,0))(ho : ∀k,K+1<=k.1->k.1<=K+6->¬OfB K b k->o' k=o k)(hk:tmO (V b) d=tmO (V b) (nth f.blocks b))(hd:BO K o' b (V b) d):FnO K o' vb V (bj f b d):=by
 have hn:=fun c=>qH (d:=d) hb c;refine⟨?_,fun c hc=>?_⟩
 ·rw[h0,g.blk,ku];congr 1;refine M6 fun c _=>?_;rw[hn];split
  ·rename_i e;subst e;unfold bkO;rw[hk]
  rfl
 rw[ku]at hc;rw[hn];split
 ·rename_i e;subst e;exact hd
 rename_i e;exact(g.bo c hc).congr fun k hk=>by have:=ja hk;exact ho k (by omega) (by omega) (yP (fun q=>e q.symm) hk)
theorem FnO.freeze(g:FnO K o vb V f)(w:Owns W h o): ∃W',W.le W'/\Owns W' h (fun k=>if K<=k.1/\k.1<=K+6 then .none else o k)/\SlRd W' vb f.blocks:=by
 obtain⟨W',hW,w',s⟩:=Owns.sK w fun k=>decide (K<=k.1/\k.1<=K+6);refine⟨W',hW,w'.congr fun k=>?_,?_⟩
 ·by_cases e:K<=k.1/\k.1<=K+6
  ·rw[if_pos e,if_pos (decide_eq_true e)]
  rw[if_neg e,if_neg (by rw[decide_eq_false e];exact Bool.false_ne_true)]
 refine Cs (s (by simp) g.blk) (fun b hb=>CV (s (by simp) (g.bo b hb).phis) fun i hi=>s (by simp) ((g.bo b hb).pin i hi)) (fun b hb=>FG (s (by simp) (g.bo b hb).ins) fun i hi=>s (by simp) ((g.bo b hb).iar i hi)) (fun b hb=>s (by simp) (g.bo b hb).args) fun b hb=>s (by simp) (g.bo b hb).to
end
theorem dV{β:Type}{x:Nat->β}{n i:Nat}(h:i<(rows x n).length):(rows x n)[i]=x i:=by simp[rows]
theorem lS{β:Type}{x y:Nat->β}{n i:Nat}{z:β}(hi:i<n)(hz:z=y i)(h : ∀j,j<n->j≠i->x j=y j):(rows x n).set i z=rows y n:=by
 refine MJ (by simp) fun j g1 g2=>?_;have hj:j<n:=by simpa using g2
 rw[Od,dV,dV];split
 ·rename_i e;subst e;exact hz
 rename_i e;exact h j hj fun q=>e q.symm
def cJ (d:BlkD) (i:Nat) (p:PhiD):BlkD:={ d with phis:=d.phis.set i p }
def gO (d:BlkD) (l:List Int):BlkD:={ d with term:={ d.term with to:=l } }
section
variable {K:Nat} {o o':Own} {b i:Nat} {V:Bv} {d:BlkD}
theorem BO.IE(w:BO K o b V d)(hi:i<d.phis.length){l:List InD}(ho : ∀k,o' k=o.upd (K+5,pr b i) (it T.bI (V.pin i) l) k):BO K o' b V (cJ d i ⟨(nth d.phis i).dst,l⟩):=by
 have hl:(cJ d i ⟨(nth d.phis i).dst,l⟩).phis.length=d.phis.length:=LN;have hn:=fun j (hj:j<d.phis.length)=>aF (l:=d.phis) (i:=i) (j:=j) (x:=⟨(nth d.phis i).dst,l⟩) hj;refine⟨?_,?_,?_,?_,fun j hj=>?_,fun j hj=>?_⟩
 ·rw[ho,Own.ab (by simp),w.phis,hl];congr 1;refine M6 fun j hj=>?_;unfold phO cJ;dsimp only;rw[hn j (M7.1 hj)];split
  ·rename_i e;subst e;rfl
  rfl
 ·rw[ho,Own.ab (by simp)];exact w.ins
 ·rw[ho,Own.ab (by simp)];exact w.args
 ·rw[ho,Own.ab (by simp)];exact w.to
 ·rw[hl]at hj;rw[ho];unfold cJ;dsimp only;rw[hn j hj];split
  ·rename_i e;subst e;rw[Own.af]
  rename_i e;rw[Own.ab (by simp[Ak];exact fun q=>e q.symm),w.pin j hj]
 rw[ho,Own.ab (by simp)];exact w.iar j hj
theorem BO.Ko(w:BO K o b V d){l:List Int}(ho : ∀k,o' k=o.upd (K+4,b) (it T.int V.t l) k):BO K o' b V (gO d l):=
 ⟨by rw[ho,Own.ab (by simp)];exact w.phis,by rw[ho,Own.ab (by simp)];exact w.ins,by rw[ho,Own.ab (by simp)];exact w.args,by rw[ho,Own.af];rfl,fun j hj=>by rw[ho,Own.ab (by simp)];exact w.pin j hj,fun j hj=>by rw[ho,Own.ab (by simp)];exact w.iar j hj⟩
end
section
variable {K:Nat} {o o':Own} {vb:Value} {V:Nat->Bv} {f:an} {b i:Nat}
theorem FnO.wr(g:FnO K o vb V f)(hb:b<f.blocks.length){k:Key}{x:Option Lft.Item}(hk:OfB K b k)(ho : ∀q,o' q=o.upd k x q){d:BlkD}(ht:tmO (V b) d=tmO (V b) (nth f.blocks b))(hd:BO K o' b (V b) d):FnO K o' vb V (bj f b d):=
 g.setB hb (by rw[ho,Own.ab (by rintro rfl;have:=ja hk;simp at this;omega)]) (fun q _ _ h=>by rw[ho,Own.ab (by rintro rfl;exact h hk)]) ht hd
end
def phR (pin:Nat->Value) (l:List PhiD) (i:Nat):PhO:=⟨(nth l i).dst,⟨pin i⟩⟩
def inR (iar:Nat->Value) (l:List InsD) (i:Nat):InO:=⟨(nth l i).op,(nth l i).dst,(nth l i).two,⟨iar i⟩,(nth l i).imm⟩
structure PhsO (K:Nat) (o:Own) (b:Nat) (v:Value) (pin:Nat->Value) (l:List PhiD):Prop where
 row:o (K+1,b)=it T.cE v (rows (phR pin l) l.length)
 pin : ∀i,i<l.length->o (K+5,pr b i)=it T.bI (pin i) (nth l i).ins
structure InsO (K:Nat) (o:Own) (b:Nat) (v:Value) (iar:Nat->Value) (l:List InsD):Prop where
 row:o (K+2,b)=it T.cg v (rows (inR iar l) l.length)
 iar : ∀i,i<l.length->o (K+6,pr b i)=it T.int (iar i) (nth l i).args
theorem Cu{α:Type}[Inhabited α]{l:List α}{x:α}{i:Nat}:nth (l++[x]) i=if i<l.length then nth l i else if i=l.length then x else default:=by
 split
 ·rename_i h;rw[ak (l:=l++[x]) (i:=i) (by simp;omega),ak h,Nv h]
 split
 ·rename_i h h2;subst h2;rw[ak (l:=l++[x]) (i:=l.length) (by simp),Ni (LG _)];simp
 exact cB (by simp;omega)
theorem gk{α:Type}[Inhabited α]{l:List α}{x:α}:nth (l++[x]) l.length=x:=by rw[Cu,if_neg (OA _),if_pos rfl]
theorem fX{α:Type}[Inhabited α]{l:List α}{x:α}{i:Nat}(h:i<l.length):nth (l++[x]) i=nth l i:=by rw[Cu,if_pos h]
theorem iK{β:Type}{x y:Nat->β}{n:Nat}(h : ∀i,i<n->x i=y i):rows x n=rows y n:=M6 fun i hi=>h i (M7.1 hi)
section
variable {K b:Nat} {o o':Own} {v v':Value} {pin iar:Nat->Value}
theorem PhsO.push{l:List PhiD}{p:PhiD}{u:Value}(w:PhsO K o b v pin l)(h1:o' (K+1,b)=it T.cE v' (rows (phR pin l) l.length++[⟨p.dst,⟨u⟩⟩]))(h2:o' (K+5,pr b l.length)=it T.bI u p.ins)(h3 : ∀i,i<l.length->o' (K+5,pr b i)=o (K+5,pr b i)):PhsO K o' b v' (fun i=>if i=l.length then u else pin i) (l++[p]):=by
 refine⟨?_,fun i hi=>?_⟩
 ·rw[h1,LH,LJ,eG];congr 1;congr 1
  ·refine iK fun i hi=>?_;unfold phR;dsimp only;rw[fX hi,if_neg (by omega)]
  unfold phR;dsimp only;rw[gk,if_pos rfl]
 rw[LH,LJ]at hi;rcases LI i l.length with h | h
 ·rw[h3 i h,if_neg (by omega),fX h];exact w.pin i h
 have e:i=l.length:=by omega
 subst e;rw[h2,if_pos rfl,gk]
theorem InsO.push{l:List InsD}{p:InsD}{u:Value}(w:InsO K o b v iar l)(h1:o' (K+2,b)=it T.cg v' (rows (inR iar l) l.length++[⟨p.op,p.dst,p.two,⟨u⟩,p.imm⟩]))(h2:o' (K+6,pr b l.length)=it T.int u p.args)(h3 : ∀i,i<l.length->o' (K+6,pr b i)=o (K+6,pr b i)):InsO K o' b v' (fun i=>if i=l.length then u else iar i) (l++[p]):=by
 refine⟨?_,fun i hi=>?_⟩
 ·rw[h1,LH,LJ,eG];congr 1;congr 1
  ·refine iK fun i hi=>?_;unfold inR;dsimp only;rw[fX hi,if_neg (by omega)]
  unfold inR;dsimp only;rw[gk,if_pos rfl]
 rw[LH,LJ]at hi;rcases LI i l.length with h | h
 ·rw[h3 i h,if_neg (by omega),fX h];exact w.iar i h
 have e:i=l.length:=by omega
 subst e;rw[h2,if_pos rfl,gk]
theorem BO.of{p:List PhiD}{i:List InsD}{t:da}{va vt vp vi:Value}(wp:PhsO K o b vp pin p)(wi:InsO K o b vi iar i)(ha:o (K+3,b)=it T.int va t.args)(ht:o (K+4,b)=it T.int vt t.to):BO K o b ⟨vp,vi,va,vt,pin,iar⟩ ⟨p,i,t⟩:=
 ⟨wp.row,wi.row,ha,ht,wp.pin,wi.iar⟩
end
variable{K:Nat}
theorem FnO.push{o o':Own}{vb vb':Value}{V:Nat->Bv}{Vn:Bv}{ps:Int}{l:List BlkD}{d:BlkD}{x:BkO}(g:FnO K o vb V ⟨ps,l⟩)(hx:x=bkO Vn d)(h1:o' (K,0)=it T.ay vb' (rows (fun b=>bkO (V b) (nth l b)) l.length++[x]))(h2 : ∀b,b<l.length->∀k,OfB K b k->o' k=o k)(h3:BO K o' l.length Vn d):FnO K o' vb' (fun b=>if b=l.length then Vn else V b) ⟨ps,l++[d]⟩:=by
 refine⟨?_,fun b hb=>?_⟩
 ·dsimp only;rw[h1,LH,LJ,eG];congr 1;congr 1
  ·refine iK fun i hi=>?_;rw[fX hi,if_neg (by omega)]
  rw[gk,if_pos rfl,hx]
 have hb:b<(l++[d]).length:=hb;rw[LH,LJ]at hb;dsimp only;rcases LI b l.length with h | h
 ·rw[if_neg (by omega),fX h];exact(g.bo b h).congr (h2 b h)
 have e:b=l.length:=by omega
 subst e;rw[if_pos rfl,gk];exact h3
variable{W:View}
theorem Owns.pO{po:OP}{P:Program}{h:Heap}{o:Own}{k:Key}{ty:TypeId}{us:List (Nat × Value)}{α:Type}[r:Rep α]{e:TypeId}{v:Value}{t:TypeId}{bytes:Nat}{z:Value}{x y:Operand}{u:Value}{l2:List α}{K:Value->Heap->Prop}(w:Owns W h o)(hk:o k=it e v ([]:List α))(hT:ff P t e (Rep.n α) bytes z)(hx:asg us x=v)(hy:asg us y=u)(hs:SlRd W u l2)(hb:l2.length*bytes<=140737488355328)(hK : ∀v' h',Owns W h' (o.upd k (it e v' l2))->v'.oneCell'=true->(∀X:View,X.le (vw h)->Av X v->X.le (vw h'))->K v' h'):@Lft.step po P (.call ⟨.builtin .append,#[x,y],#[t,t]⟩) ty us h K:=
 w.bw (k:=k) (l:=([]:List α)) (l2:=l2) hk hT hx hy (hs.src w.wle) (by simpa using hb) (by have:=hs.bound;simpa using this) fun v' h' w' m=>by exact hK v' h' w' ((w'.cells (k:=k) Own.af).2) fun X hX hA=>(m.view hX hA).1
theorem ofB1:OfB K b (K+1,b):=.inl ⟨rfl,by simp,by simp⟩
theorem ofB2:OfB K b (K+2,b):=.inl ⟨rfl,by simp,by simp⟩
theorem ofB3:OfB K b (K+3,b):=.inl ⟨rfl,by simp,by simp⟩
theorem ofB4:OfB K b (K+4,b):=.inl ⟨rfl,by simp,by simp⟩
theorem ofB5{i:Nat}:OfB K b (K+5,pr b i):=.inr ⟨i,rfl,.inl rfl⟩
theorem ofB6{i:Nat}:OfB K b (K+6,pr b i):=.inr ⟨i,rfl,.inr rfl⟩
theorem Gx{H:View}{d:Int}{v:Value}(h1:I64 d)(h2:v.oneCell'=true):Rd H (.agg #[.int .i64 d,v]) (PhO.mk d ⟨v⟩):=⟨_,rfl,[.int .i64 d],[v],rfl,⟨rfl,h1⟩,rfl,h2⟩
theorem I2{H:View}{op d two:Int}{imm:I32}{v:Value}(h:I64 op/\I64 d/\I64 two/\-2147483648<=imm.v/\imm.v<=2147483647)(h2:v.oneCell'=true):Rd H (.agg #[.int .i64 op,.int .i64 d,.int .i64 two,v,.int .i32 imm.v]) (InO.mk op d two ⟨v⟩ imm):=
 ⟨_,rfl,[.int .i64 op],_,rfl,⟨rfl,h.1⟩,[.int .i64 d],_,rfl,⟨rfl,h.2.1⟩,[.int .i64 two],_,rfl,⟨rfl,h.2.2.1⟩,[v],_,rfl,⟨rfl,h2⟩,rfl,h.2.2.2⟩
theorem Fj{H:View}{vp vi va vt:Value}{kd:Int}{imm:I32}(h1:vp.oneCell'=true)(h2:vi.oneCell'=true)(h3:va.oneCell'=true)(h4:vt.oneCell'=true)(h5:I64 kd)(h6:-2147483648<=imm.v/\imm.v<=2147483647):Rd H (.agg #[vp,vi,.int .i64 kd,va,vt,.int .i32 imm.v]) (BkO.mk ⟨vp⟩ ⟨vi⟩ ⟨kd,⟨va⟩,⟨vt⟩,imm⟩):=
 ⟨_,rfl,[vp],_,rfl,⟨rfl,h1⟩,[vi],_,rfl,⟨rfl,h2⟩,[.int .i64 kd],_,rfl,⟨rfl,h5⟩,[va],_,rfl,⟨rfl,h3⟩,[vt],_,rfl,⟨rfl,h4⟩,rfl,h6⟩
structure Wt (W:View) (h:Heap) (K:Nat) (ob:Own) (vb:Value) (V:Nat->Bv) (f:an):Prop where
 ex : ∃o,Owns W h o/\FnO K o vb V f/\∀k:Key,(k.1<K\/K+6<k.1)->o k=ob k
section
variable {W:View} {h:Heap} {K:Nat} {ob:Own} {vb:Value} {V:Nat->Bv} {f:an}
theorem Wt.wle (w:Wt W h K ob vb V f):W.le (vw h):=let ⟨_,w,_⟩:=w.ex;w.wle
theorem Wt.blks(w:Wt W h K ob vb V f):SlRd (vw h) vb f.blocks:=let ⟨_,w,g,_⟩:=w.ex;g.rd w
theorem Wt.raw (w:Wt W h K ob vb V f) {k:Key} (hk:k.1<K\/K+6<k.1) {n:Nat} {e:TypeId} {B:Nat} {l:List Value} (hb:ob k=bx e B (RawN.mk (n:=n) l)) {i:Nat} (hi:i<=n):ao (vw h) ⟨B,i,none⟩=some (l.getD i undef):=
 let ⟨o,w,g,r⟩:=w.ex
 w.raw (k:=k) ((r k hk).trans hb) hi
theorem Wt.dI (w:Wt W h K ob vb V f) {k:Key} (hk:k.1<K\/K+6<k.1) {n:Nat} {e:TypeId} {B:Nat} {l:List Value} (hb:ob k=bx e B (RawN.mk (n:=n) l)):Un.ev (vw h) (.al (n+1)) (.pointer (some ⟨B,0,none⟩))=some (.agg l.toArray):=
 let ⟨o,w,g,r⟩:=w.ex
 w.dI (k:=k) ((r k hk).trans hb)
theorem FnO.cur{o:Own}{d:BlkD}(g:FnO K o vb V (bj f b d))(hb:b<f.blocks.length):BO K o b (V b) d:=by have:=g.bo b (by rw[ku];exact hb);rw[qH hb,if_pos rfl]at this;exact this
section
variable {b i:Nat} {d:BlkD}
theorem Wt.phN(w:Wt W h K ob vb V (bj f b d))(hb:b<f.blocks.length):SlRd (vw h) (V b).p (rows (phO (V b) d) d.phis.length):=let ⟨_,w,g,_⟩:=w.ex;w.now (g.cur hb).phis
theorem Wt.to (w:Wt W h K ob vb V (bj f b d)) (hb:b<f.blocks.length):SlRd (vw h) (V b).t d.term.to:=let ⟨_,w,g,_⟩:=w.ex;w.now (g.cur hb).to
theorem Wt.pin (w:Wt W h K ob vb V (bj f b d)) (hb:b<f.blocks.length) (hi:i<d.phis.length):SlRd (vw h) ((V b).pin i) (nth d.phis i).ins:=let ⟨_,w,g,_⟩:=w.ex;w.now ((g.cur hb).pin i hi)
theorem Wt.wr {h':Heap} {o:Own} (g:FnO K o vb V (bj f b d)) (r : ∀k:Key,(k.1<K\/K+6<k.1)->o k=ob k) (hb:b<f.blocks.length) {k:Key} {x:Option Lft.Item} {d':BlkD} (w:Owns W h' (o.upd k x)) (hk:OfB K b k) (ht:tmO (V b) d'=tmO (V b) d) (hd:BO K (o.upd k x) b (V b) d'):Wt W h' K ob vb V (bj f b d'):=by
 refine⟨_,w,?_,fun q hq=>?_⟩
 ·have:=g.wr (by rw[ku];exact hb) hk (fun _=>rfl) (by rw[qH hb,if_pos rfl];exact ht) hd;rw[yB]at this;exact this
 have:=ja hk;rw[Own.ab (by rintro rfl;omega)];exact r q hq
variable {po:OP} {P:Program} {ty t:TypeId} {us:List (Nat × Value)} {x y:Operand} {Kc:Value->Heap->Prop} {v:Int}
theorem Wt.pf(w:Wt W h K ob vb V (bj f b d))(hb:b<f.blocks.length)(hi:i<d.phis.length){k:Nat}(hk:k<(nth d.phis i).ins.length)(hsz:cC P t=some 1)(hx:asg us x = .pointer (some (((slA ((V b).pin i)).add (k*2)).add 0)))(hy:asg us y = .int .i64 v)(hv:I64 v)(hK : ∀h',Wt W h' K ob vb V (bj f b (cJ d i ⟨(nth d.phis i).dst,(nth d.phis i).ins.set k ⟨v,(nth (nth d.phis i).ins k).val⟩⟩))->Kc undef h'):@Lft.step po P (.store t x y) ty us h Kc:=by obtain⟨o,w,g,r⟩:=w.ex;refine w.je (k:=(K+5,pr b i)) (α:=InD) InD.mE (v:=(V b).pin i) (l:=(nth d.phis i).ins) (i:=k) (d:=v) ((g.cur hb).pin i hi) hsz hx hy hk (dr.2 ⟨rfl,hv⟩) fun h' w' _=>hK h' ?_;refine Wt.wr g r hb w' ofB5 rfl ((g.cur hb).IE hi fun _=>?_);rw[ak hk]
theorem Wt.tt(w:Wt W h K ob vb V (bj f b d))(hb:b<f.blocks.length){k:Nat}(hk:k<d.term.to.length)(hsz:cC P t=some 1)(hx:asg us x = .pointer (some ((slA (V b).t).add k)))(hy:asg us y = .int .i64 v)(hv:I64 v)(hK : ∀h',Wt W h' K ob vb V (bj f b (gO d (d.term.to.set k v)))->Kc undef h'):@Lft.step po P (.store t x y) ty us h Kc:=by obtain⟨o,w,g,r⟩:=w.ex;refine w.ky (k:=(K+4,b)) (α:=Int) (v:=(V b).t) (l:=d.term.to) (i:=k) (d:=v) (g.cur hb).to hsz (by rw[hx];rw[show k*Rep.n Int=k from MP k]) hy hk (dr.2 ⟨rfl,hv⟩) fun h' w' _=>hK h' ?_;exact Wt.wr g r hb w' ofB4 rfl ((g.cur hb).Ko fun _=>rfl)
end
end
section
variable {W:View} {h:Heap} {K:Nat} {ob:Own} {vb:Value} {V:Nat->Bv} {f:an} {b i:Nat} {d:BlkD}
theorem Wt.ixP(w:Wt W h K ob vb V (bj f b d))(hb:b<f.blocks.length)(hi:i<d.phis.length):Bn.ev (.idx 2) (V b).p (.int .i64 i)=some (.pointer (some ((slA (V b).p).add (i*2)))):=
 (w.phN hb).idxn (N:=2) rfl (M3 _) (by simp;omega)
theorem Wt.ixT(w:Wt W h K ob vb V (bj f b d))(hb:b<f.blocks.length){k:Nat}(hk:k<d.term.to.length):Bn.ev (.idx 1) (V b).t (.int .i64 k)=some (.pointer (some ((slA (V b).t).add k)))/\ao (vw h) ((slA (V b).t).add k)=some (.int .i64 (nth d.term.to k))/\I64 (nth d.term.to k):=
 ⟨(w.to hb).idx1 rfl (M3 _) (by omega),(w.to hb).int (View.le_refl _) hk,by have:=((w.to hb).at hk).rng;rw[ak hk];exact this⟩
theorem Wt.ixN(w:Wt W h K ob vb V (bj f b d))(hb:b<f.blocks.length)(hi:i<d.phis.length){k:Nat}(hk:k<(nth d.phis i).ins.length):Bn.ev (.idx 2) ((V b).pin i) (.int .i64 k)=some (.pointer (some ((slA ((V b).pin i)).add (k*2))))/\ao (vw h) (((slA ((V b).pin i)).add (k*2)).add 0)=some (.int .i64 (nth (nth d.phis i).ins k).frm)/\ao (vw h) (((slA ((V b).pin i)).add (k*2)).add 1)=some (.int .i64 (nth (nth d.phis i).ins k).val)/\I64 (nth (nth d.phis i).ins k).frm/\I64 (nth (nth d.phis i).ins k).val:=by have a:=(w.pin hb hi).at hk;rw[<-ak hk]at a;exact⟨(w.pin hb hi).idxn (N:=2) rfl (M3 _) (by omega),(a.part InD.mE).int,(a.part InD.rn).int,(a.part InD.mE).rng,(a.part InD.rn).rng⟩
end
section
variable {W:View} {h:Heap} {K:Nat} {ob:Own} {vb:Value} {V:Nat->Bv} {f:an} {b i:Nat} {d:BlkD}
theorem Wt.drop{k:Key}{x:Option Lft.Item}(w:Wt W h K (ob.upd k x) vb V f)(hk:ob k=none)(hf:k.1<K\/K+6<k.1):Wt W h K ob vb V f:=by
 obtain⟨o,w,g,r⟩:=w.ex;refine⟨fun q=>if q=k then none else o q,w.sub fun q i hq=>?_,g.congr fun q h1 h2=>if_neg (by rintro rfl;omega),fun q hq=>?_⟩
 ·split at hq
  ·cases hq
  exact hq
 by_cases e:q=k
 ·exact(if_pos e).trans (by rw[e];exact hk.symm)
 exact(if_neg e).trans (by rw[r q hq,Own.ab e])
end
def dq {α:Type} [Inhabited α] (g:α->α) (l:List α) (k:Nat):List α:=rows (fun i=>if i<k then g (nth l i) else nth l i) l.length
section
variable {α:Type} [Inhabited α] {g:α->α} {l:List α} {k:Nat}
theorem iB:(dq g l k).length=l.length:=by simp[dq]
theorem jC:dq g l 0=l:=by unfold dq;refine MJ (by simp) fun i h1 h2=>?_;rw[dV,if_neg (MC _),ak h2]
theorem kf:dq g l l.length=l.map g:=by
 unfold dq;refine MJ (by simp) fun i h1 h2=>?_;have hi:i<l.length:=by simpa using h2
 rw[dV,if_pos hi,ak hi,NC]
theorem pN{i:Nat}(hi:i<l.length):nth (dq g l k) i=if i<k then g (nth l i) else nth l i:=by unfold dq;exact eQ hi
theorem iC(hk:k<l.length):nth (dq g l k) k=nth l k:=by rw[pN hk,if_neg (OA _)]
theorem jB(hk:k<l.length):(dq g l k).set k (g (nth l k))=dq g l (k+1):=by
 unfold dq;refine lS hk (by rw[if_pos (Oy k)]) fun j hj hne=>?_;by_cases h:j<k
 ·rw[if_pos h,if_pos (by omega)]
 rw[if_neg h,if_neg (by omega)]
end
theorem yb{α:Type}[Rep α]{n:Nat}(k:Key){v:Value}{l:List α}{h:Heap}{o:Own}(w:Owns W h o)(hk:o k=none)(hv:SlRd W v l):
  ∃a m c,v = .slice a m c/\(a=none->l=[]):=by
 obtain⟨a,cap,rfl,h1,h2,h3⟩:=hv;exact⟨_,_,_,rfl,fun e=>by
  subst e;rcases h3 with h3 | ⟨ad,h3,_⟩
  ·first | exact h3 | exact LO (by simpa using h3)
  cases h3⟩
theorem Owns.past{h:Heap}{cur o':Own}(w:Owns W h cur){P:Key->Prop}(he : ∀k,¬P k->cur k=o' k)(hn : ∀k,P k->o' k=none):Owns W h o':=w.sub fun k i hk=>by
 by_cases p:P k
 ·rw[hn k p]at hk;cases hk
 rw[he k p];exact hk
theorem Bo(k:Key){v:Value}{l:List InD}{h:Heap}{o:Own}(w:Owns W h o)(hk:o k=none)(hv:SlRd W v l)(hb:l.length<=1000000):
  az Tryz.prog N.dQ #[v] h (fun u h'=>Owns W h' (o.upd k (it T.bI u l))/\u.oneCell'=true/\(vw h).le (vw h')):=by
 refine aq (args:=[v]) follows F.dQ E.dQ (LD (by kernel_rfl)) fun K hK=>?_;dsimp only[L.dQ];obtain⟨a,m,c,rfl,hn⟩:=yb (n:=0) k w hk hv;refine aa fun z hz=>?_;simp;subst hz;refine aa fun z hz=>?_;refine aa fun y hy=>?_;simp;refine Ag U.bZ rfl rfl ?_;subst hy;by_cases ha:a=none
 ·have hl:=hn ha;subst ha;subst hl;simp;refine hK _ _ ⟨Owns.nils w fun q i hq=>?_,rfl,View.le_refl _⟩;by_cases e:q=k
  ·subst e;rw[Own.af]at hq;cases hq;exact .inr ⟨rfl,OwnT.nil (α:=InD) _ h T.bI⟩
  rw[Own.ab e]at hq;exact .inl hq
 have hi:a.isNone=false:=by cases a<;>simp at ha ⊢
 simp[hi];subst hz;refine aa fun z hz=>?_;simp;refine w.dy (k:=k) (α:=InD) hk El.bZ fun v1 h1 hle1 hv1 w1 av1=>?_;refine Owns.pO w1 (k:=k) (α:=InD) (v:=v1) (u:=.slice a m c) (l2:=l) Own.af El.bZ (by simp) (by simp) hv (by omega) fun v2 h2 w2 hv2 m2=>?_;subst hz;simp;refine hK _ _ ⟨w2.congr fun q=>?_,hv2,m2 _ hle1 (av1 _ (View.le_refl _))⟩;unfold Own.upd;split<;>rfl
theorem oG(k:Key){v:Value}{l:List Int}{h:Heap}{o:Own}(w:Owns W h o)(hk:o k=none)(hv:SlRd W v l)(hb:l.length<=1000000):
  az Tryz.prog N.dD #[v] h (fun u h'=>Owns W h' (o.upd k (it T.int u l))/\u.oneCell'=true/\(vw h).le (vw h')):=by
 refine aq (args:=[v]) follows F.dD E.dD (LD (by kernel_rfl)) fun K hK=>?_;dsimp only[L.dD];obtain⟨a,m,c,rfl,hn⟩:=yb (n:=0) k w hk hv;refine aa fun z hz=>?_;simp;subst hz;refine aa fun z hz=>?_;refine aa fun y hy=>?_;simp;refine Ag U.aS rfl rfl ?_;subst hy;by_cases ha:a=none
 ·have hl:=hn ha;subst ha;subst hl;simp;refine hK _ _ ⟨Owns.nils w fun q i hq=>?_,rfl,View.le_refl _⟩;by_cases e:q=k
  ·subst e;rw[Own.af]at hq;cases hq;exact .inr ⟨rfl,OwnT.nil (α:=Int) _ h T.int⟩
  rw[Own.ab e]at hq;exact .inl hq
 have hi:a.isNone=false:=by cases a<;>simp at ha ⊢
 simp[hi];subst hz;refine aa fun z hz=>?_;simp;refine w.dy (k:=k) (α:=Int) hk El.aS fun v1 h1 hle1 hv1 w1 av1=>?_;refine Owns.pO w1 (k:=k) (α:=Int) (v:=v1) (u:=.slice a m c) (l2:=l) Own.af El.aS (by simp) (by simp) hv (by omega) fun v2 h2 w2 hv2 m2=>?_;subst hz;simp;refine hK _ _ ⟨w2.congr fun q=>?_,hv2,m2 _ hle1 (av1 _ (View.le_refl _))⟩;unfold Own.upd;split<;>rfl
theorem D0(K:Nat)(k:Key){p:PhiD}{u:Value}{h:Heap}{o:Own}(w:Owns W h o)(hk:o k=none)(hkK:k.1≠K+8)(ht : ∀i,10<=i->o (K+8,i)=none)(hr:Rd W u p)(hb:p.ins.length<=1000000):
  az Tryz.prog N.dz #[u] h (fun r h'=>∃v,r = .agg #[.int .i64 p.dst,v]/\v.oneCell'=true/\I64 p.dst/\Owns W h' (o.upd k (it T.bI v p.ins))):=by
 refine aq (args:=[u]) follows F.dz E.dz (LD (by kernel_rfl)) fun Kc hK=>?_;dsimp only[L.dz];obtain⟨vi,rfl,hd,si⟩:=Ii hr;have k1:k≠(K+8,10):=by rintro rfl;exact hkK rfl
 have k2:k≠(K+8,11):=by rintro rfl;exact hkK rfl
 refine aa fun z hz=>?_;simp;refine w.uo (k:=(K+8,10)) (n:=1) (l:=[.int .i64 p.dst,vi]) (ht 10 (by decide)) rfl rfl (by decide) (gV si.cells.2) fun B h1 hle1 w1=>?_;refine w1.kF (k:=(K+8,11)) (n:=1) (z:=.agg #[.int .i64 0,.slice none 0 0]) ((Own.ab (by simp)).trans (ht 11 (by decide))) (by kernel_rfl) rfl (by decide) (by simp[Value.cells,Value.oneCell']) fun h2 q2 w2=>?_;generalize h1.size=R at w2;have c1:ao (vw h2) ⟨B,1,none⟩=some vi:=w2.raw (k:=(K+8,10)) (e:=T.cE) (n:=1) (by rw[Own.ab (by simp),Own.af]) (i:=1) (by decide);subst hz;refine aa fun z hz=>?_;simp[c1];refine aj (by kernel_rfl) (Bo k w2 (by rw[Own.ab k2,Own.ab k1];exact hk) si hb) ?_;rintro v h3 ⟨w3,hv,_⟩;refine w3.bu (k:=(K+8,10)) (n:=1) (i:=1) (e:=T.cE) (B:=B) (l:=[.int .i64 p.dst,vi]) (by rw[Own.ab k1.symm,Own.ab (by simp),Own.af]) (by decide) (by kernel_rfl) rfl rfl hv fun h4 w4 _=>?_;subst hz;refine aa fun z hz=>?_;have c2:Un.ev (vw h4) (.al 2) (.pointer (some ⟨B,0,none⟩))=some (.agg #[.int .i64 p.dst,v]):=w4.dI (k:=(K+8,10)) (n:=1) Own.af
 simp[c2];refine w4.ez (k:=(K+8,11)) (e:=T.cE) (B:=R) (D:=RawN.mk (n:=1) [.int .i64 0,.slice none 0 0]) Part.all (d:=RawN.mk (n:=1) [.int .i64 p.dst,v]) (by rw[Own.ab (by simp),Own.ab k2.symm,Own.af];rfl) (by kernel_rfl) rfl rfl (eP rfl (gV hv)) fun h5 w5 _=>?_;have c3:Un.ev (vw h5) (.al 2) (.pointer (some ⟨R,0,none⟩))=some (.agg #[.int .i64 p.dst,v]):=w5.dI (k:=(K+8,11)) (n:=1) Own.af;subst hz;simp[c3];refine hK _ _ ⟨v,rfl,hv,hd,Owns.past w5 (P:=fun q=>q=(K+8,10)\/q=(K+8,11)) (fun q hq=>?_) fun q hq=>?_⟩
 ·have e1:q≠(K+8,10):=fun e=>hq (.inl e);have e2:q≠(K+8,11):=fun e=>hq (.inr e)
  rw[Own.ab e2,Own.ab e1];unfold Own.upd;split
  ·rfl
  rfl
 rcases hq with rfl | rfl
 ·rw[Own.ab k1.symm];exact ht 10 (by decide)
 rw[Own.ab k2.symm];exact ht 11 (by decide)
theorem DQ(K:Nat)(k:Key){p:InsD}{u:Value}{h:Heap}{o:Own}(w:Owns W h o)(hk:o k=none)(hkK:k.1≠K+8)(ht : ∀i,10<=i->o (K+8,i)=none)(hr:Rd W u p)(hb:p.args.length<=1000000):
  az Tryz.prog N.dB #[u] h (fun r h'=>∃v,r = .agg #[.int .i64 p.op,.int .i64 p.dst,.int .i64 p.two,v,.int .i32 p.imm.v]/\v.oneCell'=true/\(I64 p.op/\I64 p.dst/\I64 p.two/\-2147483648<=p.imm.v/\p.imm.v<=2147483647)/\Owns W h' (o.upd k (it T.int v p.args))):=by
 refine aq (args:=[u]) follows F.dB E.dB (LD (by kernel_rfl)) fun Kc hK=>?_;dsimp only[L.dB];obtain⟨vi,rfl,hd,si⟩:=uD hr;have k1:k≠(K+8,10):=by rintro rfl;exact hkK rfl
 have k2:k≠(K+8,11):=by rintro rfl;exact hkK rfl
 have five : ∀{v:Value},v.oneCell'=true->∀c∈[Value.int .i64 p.op,.int .i64 p.dst,.int .i64 p.two,v,.int .i32 p.imm.v],c.oneCell'=true:=fun hv c hc=>by simp only[L4,MF,or_false]at hc;rcases hc with rfl | rfl | rfl | rfl | rfl<;>first | rfl | exact hv
 refine aa fun z hz=>?_;simp;refine w.uo (k:=(K+8,10)) (n:=4) (l:=[.int .i64 p.op,.int .i64 p.dst,.int .i64 p.two,vi,.int .i32 p.imm.v]) (ht 10 (by decide)) rfl rfl (by decide) (five si.cells.2) fun B h1 hle1 w1=>?_;refine w1.kF (k:=(K+8,11)) (n:=4) (z:=.agg #[.int .i64 0,.int .i64 0,.int .i64 0,.slice none 0 0,.int .i32 0]) ((Own.ab (by simp)).trans (ht 11 (by decide))) (by kernel_rfl) rfl (by decide) (by simp[Value.cells,Value.oneCell']) fun h2 q2 w2=>?_;generalize h1.size=R at w2;have c1:ao (vw h2) ⟨B,3,none⟩=some vi:=w2.raw (k:=(K+8,10)) (e:=T.cg) (n:=4) (by rw[Own.ab (by simp),Own.af]) (i:=3) (by decide);subst hz;refine aa fun z hz=>?_;simp[c1];refine aj (by kernel_rfl) (oG k w2 (by rw[Own.ab k2,Own.ab k1];exact hk) si hb) ?_;rintro v h3 ⟨w3,hv,_⟩;refine w3.bu (k:=(K+8,10)) (n:=4) (i:=3) (e:=T.cg) (B:=B) (l:=[.int .i64 p.op,.int .i64 p.dst,.int .i64 p.two,vi,.int .i32 p.imm.v]) (by rw[Own.ab k1.symm,Own.ab (by simp),Own.af]) (by decide) (by kernel_rfl) rfl rfl hv fun h4 w4 _=>?_;subst hz;refine aa fun z hz=>?_;have c2:Un.ev (vw h4) (.al 5) (.pointer (some ⟨B,0,none⟩))=some (.agg #[.int .i64 p.op,.int .i64 p.dst,.int .i64 p.two,v,.int .i32 p.imm.v]):=w4.dI (k:=(K+8,10)) (n:=4) Own.af
 simp[c2];refine w4.ez (k:=(K+8,11)) (e:=T.cg) (B:=R) (D:=RawN.mk (n:=4) [.int .i64 0,.int .i64 0,.int .i64 0,.slice none 0 0,.int .i32 0]) Part.all (d:=RawN.mk (n:=4) [.int .i64 p.op,.int .i64 p.dst,.int .i64 p.two,v,.int .i32 p.imm.v]) (by rw[Own.ab (by simp),Own.ab k2.symm,Own.af];rfl) (by kernel_rfl) rfl rfl (eP rfl (five hv)) fun h5 w5 _=>?_;have c3:Un.ev (vw h5) (.al 5) (.pointer (some ⟨R,0,none⟩))=some (.agg #[.int .i64 p.op,.int .i64 p.dst,.int .i64 p.two,v,.int .i32 p.imm.v]):=w5.dI (k:=(K+8,11)) (n:=4) Own.af;subst hz;simp[c3];refine hK _ _ ⟨v,rfl,hv,hd,Owns.past w5 (P:=fun q=>q=(K+8,10)\/q=(K+8,11)) (fun q hq=>?_) fun q hq=>?_⟩
 ·have e1:q≠(K+8,10):=fun e=>hq (.inl e);have e2:q≠(K+8,11):=fun e=>hq (.inr e)
  rw[Own.ab e2,Own.ab e1];unfold Own.upd;split
  ·rfl
  rfl
 rcases hq with rfl | rfl
 ·rw[Own.ab k1.symm];exact ht 10 (by decide)
 rw[Own.ab k2.symm];exact ht 11 (by decide)
structure CpP (K b:Nat) (o o':Own) (u:Value) (pin:Nat->Value) (l:List PhiD):Prop where
 phs:PhsO K o' b u pin l
 fr : ∀k,k≠(K+1,b)->(∀i,k≠(K+5,pr b i))->o' k=o k
 fp : ∀i,l.length<=i->o' (K+5,pr b i)=none
structure CpI (K b:Nat) (o o':Own) (u:Value) (iar:Nat->Value) (l:List InsD):Prop where
 ins:InsO K o' b u iar l
 fr : ∀k,k≠(K+2,b)->(∀i,k≠(K+6,pr b i))->o' k=o k
 fi : ∀i,l.length<=i->o' (K+6,pr b i)=none
section
variable {K b:Nat} {o o' o2:Own} {u u' v:Value} {pin iar:Nat->Value}
theorem CpP.push {l:List PhiD} {p:PhiD} (c:CpP K b o o' u pin l) (ho : ∀k,o2 k=((o'.upd (K+5,pr b l.length) (it T.bI v p.ins)).upd (K+1,b) (it T.cE u' (rows (phR pin l) l.length++[⟨p.dst,⟨v⟩⟩]))) k):CpP K b o o2 u' (fun i=>if i=l.length then v else pin i) (l++[p]):=by
 refine⟨c.phs.push ?_ ?_ fun i hi=>?_,fun k h1 h2=>?_,fun i hi=>?_⟩
 ·rw[ho,Own.af]
 ·rw[ho,Own.ab (by simp),Own.af]
 ·rw[ho,Own.ab (by simp),Own.ab (by simp[Ak];omega)]
 ·rw[ho,Own.ab h1,Own.ab (h2 _)];exact c.fr k h1 h2
 rw[LH,LJ]at hi;rw[ho,Own.ab (by simp),Own.ab (by simp[Ak];omega)];exact c.fp i (by omega)
theorem CpI.push {l:List InsD} {p:InsD} (c:CpI K b o o' u iar l) (ho : ∀k,o2 k=((o'.upd (K+6,pr b l.length) (it T.int v p.args)).upd (K+2,b) (it T.cg u' (rows (inR iar l) l.length++[⟨p.op,p.dst,p.two,⟨v⟩,p.imm⟩]))) k):CpI K b o o2 u' (fun i=>if i=l.length then v else iar i) (l++[p]):=by
 refine⟨c.ins.push ?_ ?_ fun i hi=>?_,fun k h1 h2=>?_,fun i hi=>?_⟩
 ·rw[ho,Own.af]
 ·rw[ho,Own.ab (by simp),Own.af]
 ·rw[ho,Own.ab (by simp),Own.ab (by simp[Ak];omega)]
 ·rw[ho,Own.ab h1,Own.ab (h2 _)];exact c.fr k h1 h2
 rw[LH,LJ]at hi;rw[ho,Own.ab (by simp),Own.ab (by simp[Ak];omega)];exact c.fi i (by omega)
end
theorem uW{α:Type}[Inhabited α]{l:List α}{k:Nat}(h:k<l.length):l.take (k+1)=l.take k++[nth l k]:=by rw[L8 h,ak h]
theorem yD(K b:Nat){l:List PhiD}{v:Value}{h:Heap}{o:Own}(w:Owns W h o)(hn : ∀k,OfB K b k->o k=none)(ht : ∀k:Key,k.1=K+8->o k=none)(hs:SlRd W v l)(hl:l.length<=10000)(hp : ∀i,i<l.length->(nth l i).ins.length<=10000):
  az Tryz.prog N.cH #[v,.func (.func N.dz) #[] #[]] h (fun u h'=>∃o' pin,Owns W h' o'/\CpP K b o o' u pin l):=by
 refine aq (args:=[v,.func (.func N.dz) #[] #[]]) follows F.cH E.cH (LD (by kernel_rfl)) fun Kc hK=>?_;dsimp only[L.cH];refine aa fun z hz=>?_;simp;subst hz;refine aa fun z hz=>?_;simp;subst hz;refine aa fun z hz=>?_;have s0:=hs.mono w.wle;simp[s0.len];have w1:=Owns.nils w (o':=o.upd (K+1,b) (it T.cE (.slice none 0 0) ([]:List PhO))) (fun q i hq=>by
  by_cases e:q=(K+1,b)
  ·subst e;rw[Own.af]at hq;cases hq;exact .inr ⟨rfl,OwnT.nil (α:=PhO) _ h T.cE⟩
  rw[Own.ab e]at hq;exact .inl hq)
 have c1:CpP K b o (o.upd (K+1,b) (it T.cE (.slice none 0 0) ([]:List PhO))) (.slice none 0 0) (fun _=>.slice none 0 0) (l.take 0):=
  ⟨⟨Own.af,fun i hi=>absurd hi (MC _)⟩,fun k h1 _=>Own.ab h1,fun i _=>(Own.ab (by simp)).trans (hn _ ofB5)⟩
 refine a6 [1,5,8,9,10] (fun(u:Value) k=>[.func (.func N.dz) #[] #[],u,v,.int .i64 l.length,.int .i64 k]) (fun u k h2=>∃o' pin,Owns W h2 o'/\CpP K b o o' u pin (l.take k)) l.length (.slice none 0 0)
  rfl (by omega) rfl ⟨_,_,w1,c1⟩ (fun _ _=>rfl) (fun u k h2 hk _=>by simp) ?_ ?_
 ·rintro u k h2 hk ⟨o2,pin,w2,c2⟩ K2 hK2;have hlk:(l.take k).length=k:=by rw[MA];omega
  have s2:=hs.mono w2.wle;have ht2 : ∀q:Key,q.1=K+8->o2 q=none:=fun q hq=>by rw[c2.fr q (by rintro rfl;simp at hq) (fun i=>by rintro rfl;simp at hq)];exact ht q hq
  obtain⟨ux,hux,rux⟩:=hs.wh rfl (N:=2) rfl hk;refine aa fun y hy=>?_;simp(disch:=omega)[s2.idxn (N:=2) rfl,hux _ w2.wle];refine w2.nI (k:=(K+8,1)) (α:=PhiD) (n:=2) (ht2 _ rfl) rux rfl (z:=.agg #[.int .i64 0,.slice none 0 0]) (by kernel_rfl) rfl (by kernel_rfl) (by decide) (fun _=>by simp) (fun _=>by simp) fun h3 q3 w3=>?_;generalize h2.size=X at w3;obtain⟨uy,huy,ruy⟩:=Owns.ldW w3 (k:=(K+8,1)) (v:=.slice (some ⟨X,0,none⟩) 1 1) (l:=[nth l k]) Own.af rfl (N:=2) rfl (i:=0) (by simp);have huy:Un.ev (vw h3) (.al 2) (.pointer (some ⟨X,0,none⟩))=some uy:=by simpa[slA]using huy
  have ruy:Rd W uy (nth l k):=ruy;subst hy;simp[huy];refine j0 (ops:=[.tmp 16]) rfl (by kernel_rfl) (D0 K (K+5,pr b k) w3 ((Own.ab (by simp)).trans (c2.fp k (by omega))) (by simp) (fun i hi=>(Own.ab (by simp;omega)).trans (ht2 _ rfl)) ruy (by have:=hp k hk;omega)) ?_;rintro _ h4 ⟨vn,rfl,hvn,hd,w4⟩;refine w4.fg (k:=(K+1,b)) (α:=PhO) (v:=u) (l:=rows (phR pin (l.take k)) (l.take k).length) (d:=⟨(nth l k).dst,⟨vn⟩⟩) (by rw[Own.ab (by simp),Own.ab (by simp)];exact c2.phs.row) El.gM rfl (Gx hd hvn) (by simp;omega) (by simp;omega) (fun _=>rfl) (fun _=>rfl) fun u5 v5 h5 w5 _=>?_;refine hK2 v5 _ _ rfl rfl ⟨_,_,Owns.past w5 (o':=(o2.upd (K+5,pr b (l.take k).length) (it T.bI vn (nth l k).ins)).upd (K+1,b) (it T.cE v5 (rows (phR pin (l.take k)) (l.take k).length++[⟨(nth l k).dst,⟨vn⟩⟩]))) (P:=fun q=>q=(K+8,1)) (fun q hq=>?_) fun q hq=>?_,by rw[uW hk];exact c2.push fun _=>rfl⟩
  ·rw[hlk];by_cases e1:q=(K+1,b)
   ·subst e1;rw[Own.af,Own.af]
   rw[Own.ab e1,Own.ab e1];by_cases e2:q=(K+5,pr b k)
   ·subst e2;rw[Own.af,Own.af]
   rw[Own.ab e2,Own.ab e2,Own.ab hq]
  subst hq;rw[Own.ab (by simp),Own.ab (by simp)];exact ht2 _ rfl
 rintro u h2 ⟨o2,pin,w2,c2⟩;rw[MK]at c2;rw[bT,hz];clear hz z;simp;exact hK _ _ ⟨o2,pin,w2,c2⟩
theorem yA(K b:Nat){l:List InsD}{v:Value}{h:Heap}{o:Own}(w:Owns W h o)(hn : ∀i,o (K+6,pr b i)=none)(ht : ∀k:Key,k.1=K+8->o k=none)(hs:SlRd W v l)(hl:l.length<=10000)(hp : ∀i,i<l.length->(nth l i).args.length<=10000):
  az Tryz.prog N.cI #[v,.func (.func N.dB) #[] #[]] h (fun u h'=>∃o' iar,Owns W h' o'/\CpI K b o o' u iar l):=by
 refine aq (args:=[v,.func (.func N.dB) #[] #[]]) follows F.cI E.cI (LD (by kernel_rfl)) fun Kc hK=>?_;dsimp only[L.cI];refine aa fun z hz=>?_;simp;subst hz;refine aa fun z hz=>?_;simp;subst hz;refine aa fun z hz=>?_;have s0:=hs.mono w.wle;simp[s0.len];have w1:=Owns.nils w (o':=o.upd (K+2,b) (it T.cg (.slice none 0 0) ([]:List InO))) (fun q i hq=>by
  by_cases e:q=(K+2,b)
  ·subst e;rw[Own.af]at hq;cases hq;exact .inr ⟨rfl,OwnT.nil (α:=InO) _ h T.cg⟩
  rw[Own.ab e]at hq;exact .inl hq)
 have c1:CpI K b o (o.upd (K+2,b) (it T.cg (.slice none 0 0) ([]:List InO))) (.slice none 0 0) (fun _=>.slice none 0 0) (l.take 0):=
  ⟨⟨Own.af,fun i hi=>absurd hi (MC _)⟩,fun k h1 _=>Own.ab h1,fun i _=>(Own.ab (by simp)).trans (hn i)⟩
 refine a6 [1,5,8,9,10] (fun(u:Value) k=>[.func (.func N.dB) #[] #[],u,v,.int .i64 l.length,.int .i64 k]) (fun u k h2=>∃o' iar,Owns W h2 o'/\CpI K b o o' u iar (l.take k)) l.length (.slice none 0 0)
  rfl (by omega) rfl ⟨_,_,w1,c1⟩ (fun _ _=>rfl) (fun u k h2 hk _=>by simp) ?_ ?_
 ·rintro u k h2 hk ⟨o2,iar,w2,c2⟩ K2 hK2;have hlk:(l.take k).length=k:=by rw[MA];omega
  have s2:=hs.mono w2.wle;have ht2 : ∀q:Key,q.1=K+8->o2 q=none:=fun q hq=>by rw[c2.fr q (by rintro rfl;simp at hq) (fun i=>by rintro rfl;simp at hq)];exact ht q hq
  obtain⟨ux,hux,rux⟩:=hs.wh rfl (N:=5) rfl hk;refine aa fun y hy=>?_;simp(disch:=omega)[s2.idxn (N:=5) rfl,hux _ w2.wle];refine w2.nI (k:=(K+8,1)) (α:=InsD) (n:=5) (ht2 _ rfl) rux rfl (z:=.agg #[.int .i64 0,.int .i64 0,.int .i64 0,.slice none 0 0,.int .i32 0]) (by kernel_rfl) rfl (by kernel_rfl) (by decide) (fun _=>by simp) (fun _=>by simp) fun h3 q3 w3=>?_;generalize h2.size=X at w3;obtain⟨uy,huy,ruy⟩:=Owns.ldW w3 (k:=(K+8,1)) (v:=.slice (some ⟨X,0,none⟩) 1 1) (l:=[nth l k]) Own.af rfl (N:=5) rfl (i:=0) (by simp);have huy:Un.ev (vw h3) (.al 5) (.pointer (some ⟨X,0,none⟩))=some uy:=by simpa[slA]using huy
  have ruy:Rd W uy (nth l k):=ruy;subst hy;simp[huy];refine j0 (ops:=[.tmp 16]) rfl (by kernel_rfl) (DQ K (K+6,pr b k) w3 ((Own.ab (by simp)).trans (c2.fi k (by omega))) (by simp) (fun i hi=>(Own.ab (by simp;omega)).trans (ht2 _ rfl)) ruy (by have:=hp k hk;omega)) ?_;rintro _ h4 ⟨vn,rfl,hvn,hd,w4⟩;refine w4.fg (k:=(K+2,b)) (α:=InO) (v:=u) (l:=rows (inR iar (l.take k)) (l.take k).length) (d:=⟨(nth l k).op,(nth l k).dst,(nth l k).two,⟨vn⟩,(nth l k).imm⟩) (by rw[Own.ab (by simp),Own.ab (by simp)];exact c2.ins.row) El.jf rfl (I2 hd hvn) (by simp;omega) (by simp;omega) (fun _=>rfl) (fun _=>rfl) fun u5 v5 h5 w5 _=>?_;refine hK2 v5 _ _ rfl rfl ⟨_,_,Owns.past w5 (o':=(o2.upd (K+6,pr b (l.take k).length) (it T.int vn (nth l k).args)).upd (K+2,b) (it T.cg v5 (rows (inR iar (l.take k)) (l.take k).length++[⟨(nth l k).op,(nth l k).dst,(nth l k).two,⟨vn⟩,(nth l k).imm⟩]))) (P:=fun q=>q=(K+8,1)) (fun q hq=>?_) fun q hq=>?_,by rw[uW hk];exact c2.push fun _=>rfl⟩
  ·rw[hlk];by_cases e1:q=(K+2,b)
   ·subst e1;rw[Own.af,Own.af]
   rw[Own.ab e1,Own.ab e1];by_cases e2:q=(K+6,pr b k)
   ·subst e2;rw[Own.af,Own.af]
   rw[Own.ab e2,Own.ab e2,Own.ab hq]
  subst hq;rw[Own.ab (by simp),Own.ab (by simp)];exact ht2 _ rfl
 rintro u h2 ⟨o2,iar,w2,c2⟩;rw[MK]at c2;rw[bT,hz];clear hz z;simp;exact hK _ _ ⟨o2,iar,w2,c2⟩
theorem xY{a b c d:Value}{k i:Int}(ha:a.oneCell'=true)(hb:b.oneCell'=true)(hc:c.oneCell'=true)(hd:d.oneCell'=true): ∀x∈[a,b,Value.int .i64 k,c,d,.int .i32 i],x.oneCell'=true:=by intro x hx;simp only[L4,MF,or_false]at hx;rcases hx with rfl | rfl | rfl | rfl | rfl | rfl<;>first | rfl | assumption
theorem DG(K b:Nat){x:BlkD}{u:Value}{h:Heap}{o:Own}(w:Owns W h o)(hn : ∀k,OfB K b k->o k=none)(ht : ∀k:Key,k.1=K+8->o k=none)(h9 : ∀i,10<=i->o (K+9,i)=none)(hr:Rd W u x)(sm:SmB x):
  az Tryz.prog N.eL #[u] h (fun r h'=>∃o' V,r = .agg #[V.p,V.i,.int .i64 x.term.kind,V.a,V.t,.int .i32 x.term.imm.v]/\V.p.oneCell'=true/\V.i.oneCell'=true/\V.a.oneCell'=true/\V.t.oneCell'=true/\I64 x.term.kind/\(-2147483648<=x.term.imm.v/\x.term.imm.v<=2147483647)/\Owns W h' o'/\BO K o' b V x/\∀k,¬OfB K b k->o' k=o k):=by
 refine aq (args:=[u]) follows F.eL E.eL (LD (by kernel_rfl)) fun Kc hK=>?_;dsimp only[L.eL];obtain⟨vp,vi,va,vt,rfl,sp,si,sa,st,ik,im⟩:=C9 hr;have far : ∀{k:Key} {i:Nat},OfB K b k->k≠(K+9,i):=fun h e=>by have:=ja h;rw[e]at this;simp at this
 refine aa fun z hz=>?_;simp;refine w.uo (k:=(K+9,10)) (n:=5) (l:=[vp,vi,.int .i64 x.term.kind,va,vt,.int .i32 x.term.imm.v]) (h9 10 (by decide)) rfl rfl (by decide) (xY sp.cells.2 si.cells.2 sa.cells.2 st.cells.2) fun B h1 hle1 w1=>?_;refine w1.kF (k:=(K+9,11)) (n:=5) (z:=.agg #[.slice none 0 0,.slice none 0 0,.int .i64 0,.slice none 0 0,.slice none 0 0,.int .i32 0]) ((Own.ab (by simp)).trans (h9 11 (by decide))) (by kernel_rfl) rfl (by decide) (by simp[Value.cells,Value.oneCell']) fun h2 q2 w2=>?_;generalize h1.size=R at w2;obtain⟨o2,ho2⟩ : ∃o2,o2=(o.upd (K+9,10) (bx T.ay B (RawN.mk (n:=5) [vp,vi,.int .i64 x.term.kind,va,vt,.int .i32 x.term.imm.v]))).upd (K+9,11) (bx T.ay R (RawN.mk (n:=5) [.slice none 0 0,.slice none 0 0,.int .i64 0,.slice none 0 0,.slice none 0 0,.int .i32 0])):=⟨_,rfl⟩;have w2:Owns W h2 o2:=by rw[ho2];exact w2
 have bB:o2 (K+9,10)=bx T.ay B (RawN.mk (n:=5) [vp,vi,.int .i64 x.term.kind,va,vt,.int .i32 x.term.imm.v]):=by rw[ho2,Own.ab (by simp),Own.af]
 have bR:o2 (K+9,11)=bx T.ay R (RawN.mk (n:=5) [.slice none 0 0,.slice none 0 0,.int .i64 0,.slice none 0 0,.slice none 0 0,.int .i32 0]):=by rw[ho2,Own.af]
 have bO : ∀k,k≠(K+9,10)->k≠(K+9,11)->o2 k=o k:=fun k e1 e2=>by rw[ho2,Own.ab e2,Own.ab e1]
 clear ho2 w1;have c0:ao (vw h2) ⟨B,0,none⟩=some vp:=w2.raw (k:=(K+9,10)) (n:=5) bB (i:=0) (by decide);subst hz;refine aa fun z hz=>?_;simp[c0];refine aj (by kernel_rfl) (yD K b w2 (fun k hk=>by rw[bO k (far hk) (far hk)];exact hn k hk) (fun k hk=>by rw[bO k (by rintro rfl;simp at hk) (by rintro rfl;simp at hk)];exact ht k hk) sp sm.phis sm.phi) ?_;rintro u3 h3 ⟨o3,pin,w3,cp⟩;have hu3:=(w3.cells cp.phs.row).2
 have n1 : ∀i,(K+9,i)≠(K+1,b):=fun i=>by simp
 have n5 : ∀i j,(K+9,i)≠(K+5,pr b j):=fun i j=>by simp
 refine w3.bu (k:=(K+9,10)) (n:=5) (i:=0) (e:=T.ay) (B:=B) (l:=[vp,vi,.int .i64 x.term.kind,va,vt,.int .i32 x.term.imm.v]) (by rw[cp.fr _ (n1 _) (n5 _)];exact bB) (by decide) (by kernel_rfl) rfl rfl hu3 fun h4 w4 _=>?_;have c1:ao (vw h4) ⟨B,1,none⟩=some vi:=w4.raw (k:=(K+9,10)) (n:=5) Own.af (i:=1) (by decide);subst hz;refine aa fun z hz=>?_;simp[c1];refine aj (by kernel_rfl) (yA K b w4 (fun i=>by rw[Own.ab (by simp),cp.fr _ (by simp) (fun j=>by simp),bO _ (by simp) (by simp)];exact hn _ ofB6) (fun k hk=>by rw[Own.ab (by rintro rfl;simp at hk),cp.fr _ (by rintro rfl;simp at hk) (fun i=>by rintro rfl;simp at hk),bO _ (by rintro rfl;simp at hk) (by rintro rfl;simp at hk)];exact ht k hk) si sm.ins sm.inn) ?_;rintro u5 h5 ⟨o5,iar,w5,ci⟩;have hu5:=(w5.cells ci.ins.row).2
 have n2 : ∀i,(K+9,i)≠(K+2,b):=fun i=>by simp
 have n6 : ∀i j,(K+9,i)≠(K+6,pr b j):=fun i j=>by simp
 refine w5.bu (k:=(K+9,10)) (n:=5) (i:=1) (e:=T.ay) (B:=B) (l:=[u3,vi,.int .i64 x.term.kind,va,vt,.int .i32 x.term.imm.v]) (by rw[ci.fr _ (n2 _) (n6 _),Own.af];rfl) (by decide) (by kernel_rfl) rfl rfl hu5 fun h6 w6 _=>?_;have c3:ao (vw h6) ⟨B,3,none⟩=some va:=w6.raw (k:=(K+9,10)) (n:=5) Own.af (i:=3) (by decide);have c4:ao (vw h6) ⟨B,4,none⟩=some vt:=w6.raw (k:=(K+9,10)) (n:=5) Own.af (i:=4) (by decide);have e3:o5 (K+3,b)=none:=by rw[ci.fr _ (by simp) (fun j=>by simp),Own.ab (by simp),cp.fr _ (by simp) (fun j=>by simp),bO _ (by simp) (by simp)];exact hn _ ofB3
 have e4:o5 (K+4,b)=none:=by rw[ci.fr _ (by simp) (fun j=>by simp),Own.ab (by simp),cp.fr _ (by simp) (fun j=>by simp),bO _ (by simp) (by simp)];exact hn _ ofB4
 have hR5:o5 (K+9,11)=bx T.ay R (RawN.mk (n:=5) [.slice none 0 0,.slice none 0 0,.int .i64 0,.slice none 0 0,.slice none 0 0,.int .i32 0]):=by rw[ci.fr _ (n2 _) (n6 _),Own.ab (by simp),cp.fr _ (n1 _) (n5 _)];exact bR
 subst hz;refine aa fun z hz=>?_;refine bF (vw h6) (View.le_refl _) ?_;simp[c3,c4];refine aj (by kernel_rfl) (oG (K+3,b) w6 (by rw[Own.ab (by simp)];exact e3) sa (by have:=sm.args;omega)) ?_;rintro ua h7 ⟨w7,hua,hle7⟩;refine⟨hle7,?_⟩;refine aj (by kernel_rfl) (oG (K+4,b) w7 (by rw[Own.ab (by simp),Own.ab (by simp)];exact e4) st (by have:=sm.to;omega)) ?_;rintro ut h8 ⟨w8,hut,hle8⟩;refine w8.bu (k:=(K+9,10)) (n:=5) (i:=3) (e:=T.ay) (B:=B) (l:=[u3,u5,.int .i64 x.term.kind,va,vt,.int .i32 x.term.imm.v]) (by rw[Own.ab (by simp),Own.ab (by simp),Own.af];rfl) (by decide) (by kernel_rfl) rfl rfl hua fun h9' w9 _=>?_;refine w9.bu (k:=(K+9,10)) (n:=5) (i:=4) (e:=T.ay) (B:=B) (l:=[u3,u5,.int .i64 x.term.kind,ua,vt,.int .i32 x.term.imm.v]) (by rw[Own.af];rfl) (by decide) (by kernel_rfl) rfl rfl hut fun h10 w10 _=>?_;have c6:Un.ev (vw h10) (.al 6) (.pointer (some ⟨B,0,none⟩))=some (.agg #[u3,u5,.int .i64 x.term.kind,ua,ut,.int .i32 x.term.imm.v]):=w10.dI (k:=(K+9,10)) (n:=5) Own.af;subst hz;refine aa fun z hz=>?_;simp[c6];refine w10.ez (k:=(K+9,11)) (e:=T.ay) (B:=R) (D:=RawN.mk (n:=5) [.slice none 0 0,.slice none 0 0,.int .i64 0,.slice none 0 0,.slice none 0 0,.int .i32 0]) Part.all (d:=RawN.mk (n:=5) [u3,u5,.int .i64 x.term.kind,ua,ut,.int .i32 x.term.imm.v]) (by rw[Own.ab (by simp),Own.ab (by simp),Own.ab (by simp),Own.ab (by simp),Own.ab (by simp)];exact hR5) (by kernel_rfl) rfl rfl (eP rfl (xY hu3 hu5 hua hut)) fun h11 w11 _=>?_;have c7:Un.ev (vw h11) (.al 6) (.pointer (some ⟨R,0,none⟩))=some (.agg #[u3,u5,.int .i64 x.term.kind,ua,ut,.int .i32 x.term.imm.v]):=w11.dI (k:=(K+9,11)) (n:=5) Own.af
 subst hz;simp[c7];obtain⟨oF,f1,f2,f3,f4⟩ : ∃oF:Own,(∀k,(k=(K+9,10)\/k=(K+9,11))->oF k=none)/\oF (K+3,b)=it T.int ua x.term.args/\oF (K+4,b)=it T.int ut x.term.to/\∀k,¬(k=(K+9,10)\/k=(K+9,11))->k≠(K+3,b)->k≠(K+4,b)->oF k=o5 k:=
  ⟨fun k=>if k=(K+9,10)\/k=(K+9,11) then none else if k=(K+3,b) then it T.int ua x.term.args else if k=(K+4,b) then it T.int ut x.term.to else o5 k,
   fun k hk=>if_pos hk,(if_neg (by simp)).trans (if_pos rfl),(if_neg (by simp)).trans ((if_neg (by simp)).trans (if_pos rfl)),fun k h1 h2 h3=>(if_neg h1).trans ((if_neg h2).trans (if_neg h3))⟩;have nf : ∀{k},OfB K b k->¬(k=(K+9,10)\/k=(K+9,11)):=fun h e=>by rcases e with e | e<;>exact far h e
 refine hK _ _ ⟨oF,⟨u3,u5,ua,ut,pin,iar⟩,rfl,hu3,hu5,hua,hut,ik,im,Owns.past w11 (P:=fun k=>k=(K+9,10)\/k=(K+9,11)) (fun k hk=>?_) f1,?_,fun k hk=>?_⟩
 ·have h1:k≠(K+9,10):=fun e=>hk (.inl e);have h2:k≠(K+9,11):=fun e=>hk (.inr e)
  rw[Own.ab h2,Own.ab h1,Own.ab h1];by_cases e4:k=(K+4,b)
  ·subst e4;rw[Own.af,f3]
  rw[Own.ab e4];by_cases e3:k=(K+3,b)
  ·subst e3;rw[Own.af,f2]
  rw[Own.ab e3,Own.ab h1,f4 k hk e3 e4]
 ·refine BO.of (p:=x.phis) (i:=x.ins) (t:=x.term) ⟨?_,fun i hi=>?_⟩ ⟨?_,fun i hi=>?_⟩ f2 f3
  ·rw[f4 _ (nf ofB1) (by simp) (by simp),ci.fr _ (by simp) (fun j=>by simp),Own.ab (by simp)];exact cp.phs.row
  ·rw[f4 _ (nf ofB5) (by simp) (by simp),ci.fr _ (by simp) (fun j=>by simp),Own.ab (by simp)];exact cp.phs.pin i hi
  ·rw[f4 _ (nf ofB2) (by simp) (by simp)];exact ci.ins.row
  rw[f4 _ (nf ofB6) (by simp) (by simp)];exact ci.ins.iar i hi
 by_cases e:k=(K+9,10)\/k=(K+9,11)
 ·rw[f1 k e];rcases e with rfl | rfl
  ·exact(h9 10 (by decide)).symm
  exact(h9 11 (by decide)).symm
 rw[f4 k e (by rintro rfl;exact hk ofB3) (by rintro rfl;exact hk ofB4),ci.fr k (by rintro rfl;exact hk ofB2) (fun j=>by rintro rfl;exact hk ofB6),Own.ab (fun q=>e (.inl q)),cp.fr k (by rintro rfl;exact hk ofB1) (fun j=>by rintro rfl;exact hk ofB5),bO k (fun q=>e (.inl q)) (fun q=>e (.inr q))]
structure CpB (K:Nat) (o o':Own) (u:Value) (V:Nat->Bv) (ps:Int) (l:List BlkD):Prop where
 fno:FnO K o' u V ⟨ps,l⟩
 fr : ∀k:Key,(k.1<K\/K+6<k.1)->o' k=o k
 free : ∀b,l.length<=b->∀k,OfB K b k->o' k=none
theorem yv(K:Nat)(ps:Int){l:List BlkD}{v:Value}{h:Heap}{o:Own}(w:Owns W h o)(hn : ∀k:Key,K<=k.1->k.1<=K+6->o k=none)(ht : ∀k:Key,k.1=K+8->o k=none)(h9 : ∀k:Key,k.1=K+9->o k=none)(hs:SlRd W v l)(hl:l.length<=10000)(hp : ∀i,i<l.length->SmB (nth l i)):
  az Tryz.prog N.bP #[v,.func (.func N.eL) #[] #[]] h (fun u h'=>∃o' V,Owns W h' o'/\CpB K o o' u V ps l):=by
 refine aq (args:=[v,.func (.func N.eL) #[] #[]]) follows F.bP E.bP (LD (by kernel_rfl)) fun Kc hK=>?_;dsimp only[L.bP];refine aa fun z hz=>?_;simp;subst hz;refine aa fun z hz=>?_;simp;subst hz;refine aa fun z hz=>?_;have s0:=hs.mono w.wle;simp[s0.len];have w1:=Owns.nils w (o':=o.upd (K,0) (it T.ay (.slice none 0 0) ([]:List BkO))) (fun q i hq=>by
  by_cases e:q=(K,0)
  ·subst e;rw[Own.af]at hq;cases hq;exact .inr ⟨rfl,OwnT.nil (α:=BkO) _ h T.ay⟩
  rw[Own.ab e]at hq;exact .inl hq)
 have c1:CpB K o (o.upd (K,0) (it T.ay (.slice none 0 0) ([]:List BkO))) (.slice none 0 0) (fun _=>⟨.slice none 0 0,.slice none 0 0,.slice none 0 0,.slice none 0 0,fun _=>.slice none 0 0,fun _=>.slice none 0 0⟩) ps (l.take 0):=
  ⟨⟨Own.af,fun b hb=>absurd hb (MC _)⟩,fun k hk=>Own.ab (by rintro rfl;dsimp only at hk;omega),fun b _ k hk=>by have:=ja hk;rw[Own.ab (by rintro rfl;simp at this;omega)];exact hn k (by omega) (by omega)⟩
 refine a6 [1,5,8,9,10] (fun(u:Value) k=>[.func (.func N.eL) #[] #[],u,v,.int .i64 l.length,.int .i64 k]) (fun u k h2=>∃o' V,Owns W h2 o'/\CpB K o o' u V ps (l.take k)) l.length (.slice none 0 0)
  rfl (by omega) rfl ⟨_,_,w1,c1⟩ (fun _ _=>rfl) (fun u k h2 hk _=>by simp) ?_ ?_
 ·rintro u k h2 hk ⟨o2,V,w2,c2⟩ K2 hK2;have hlk:(l.take k).length=k:=by rw[MA];omega
  have s2:=hs.mono w2.wle;have ht2 : ∀q:Key,q.1=K+8->o2 q=none:=fun q hq=>by rw[c2.fr q (by omega)];exact ht q hq
  have h92 : ∀q:Key,q.1=K+9->o2 q=none:=fun q hq=>by rw[c2.fr q (by omega)];exact h9 q hq
  obtain⟨ux,hux,rux⟩:=hs.wh rfl (N:=6) rfl hk;refine aa fun y hy=>?_;simp(disch:=omega)[s2.idxn (N:=6) rfl,hux _ w2.wle];refine w2.nI (k:=(K+9,1)) (α:=BlkD) (n:=6) (h92 _ rfl) rux rfl (z:=.agg #[.slice none 0 0,.slice none 0 0,.int .i64 0,.slice none 0 0,.slice none 0 0,.int .i32 0]) (by kernel_rfl) rfl (by kernel_rfl) (by decide) (fun _=>by simp) (fun _=>by simp) fun h3 q3 w3=>?_;generalize h2.size=X at w3;obtain⟨uy,huy,ruy⟩:=Owns.ldW w3 (k:=(K+9,1)) (v:=.slice (some ⟨X,0,none⟩) 1 1) (l:=[nth l k]) Own.af rfl (N:=6) rfl (i:=0) (by simp);have huy:Un.ev (vw h3) (.al 6) (.pointer (some ⟨X,0,none⟩))=some uy:=by simpa[slA]using huy
  have ruy:Rd W uy (nth l k):=ruy;have hne : ∀q:Key,OfB K k q->q≠(K+9,1):=fun q hq e=>by have:=ja hq;rw[e]at this;simp at this
  subst hy;simp[huy];refine j0 (ops:=[.tmp 16]) rfl (by kernel_rfl) (DG K k w3 (fun q hq=>by rw[Own.ab (hne q hq)];exact c2.free k (by omega) q hq) (fun q hq=>by rw[Own.ab (by rintro rfl;simp at hq)];exact ht2 q hq) (fun i hi=>by rw[Own.ab (by simp;omega)];exact h92 _ rfl) ruy (hp k hk)) ?_;rintro _ h4 ⟨o4,Vn,rfl,g1,g2,g3,g4,ik,im,w4,bo,fr4⟩;have nK:¬OfB K k (K,0):=fun h=>by have:=ja h;simp at this;omega
  refine w4.fg (k:=(K,0)) (α:=BkO) (v:=u) (l:=rows (fun b=>bkO (V b) (nth (l.take k) b)) (l.take k).length) (d:=bkO Vn (nth l k)) (by rw[fr4 _ nK,Own.ab (by simp)];exact c2.fno.blk) El.fH rfl (Fj g1 g2 g3 g4 ik im) (by simp;omega) (by simp;omega) (fun _=>rfl) (fun _=>rfl) fun u5 v5 h5 w5 _=>?_;refine hK2 v5 _ _ rfl rfl ⟨fun q=>if q=(K+9,1) then none else(o4.upd (K,0) (it T.ay v5 (rows (fun b=>bkO (V b) (nth (l.take k) b)) (l.take k).length++[bkO Vn (nth l k)]))) q,fun b=>if b=(l.take k).length then Vn else V b,w5.sub fun q i hq=>?_,?_⟩
  ·split at hq
   ·cases hq
   exact hq
  obtain⟨oF,hoF⟩ : ∃oF:Own,oF=fun q=>if q=(K+9,1) then none else(o4.upd (K,0) (it T.ay v5 (rows (fun b=>bkO (V b) (nth (l.take k) b)) (l.take k).length++[bkO Vn (nth l k)]))) q:=⟨_,rfl⟩;rw[<-hoF];have f1 : ∀q,q≠(K+9,1)->oF q=(o4.upd (K,0) (it T.ay v5 (rows (fun b=>bkO (V b) (nth (l.take k) b)) (l.take k).length++[bkO Vn (nth l k)]))) q:=fun q hq=>by rw[hoF];exact if_neg hq
  have f2:oF (K+9,1)=none:=by rw[hoF];exact if_pos rfl
  have far : ∀q,q≠(K+9,1)->q≠(K,0)->¬OfB K k q->oF q=o2 q:=fun q h1 h2 h3=>by rw[f1 q h1,Own.ab h2,fr4 q h3,Own.ab h1]
  have nb : ∀{b:Nat} {q:Key},OfB K b q->q≠(K+9,1)/\q≠(K,0):=fun h=>by have:=ja h;exact⟨by rintro rfl;simp at this,by rintro rfl;simp at this;omega⟩
  rw[uW hk];refine⟨c2.fno.push (Vn:=Vn) (d:=nth l k) (x:=bkO Vn (nth l k)) rfl ?_ (fun b hb q hq=>?_) ?_,fun q hq=>?_,fun b hb q hq=>?_⟩
  ·rw[f1 _ (by simp),Own.af]
  ·exact far q (nb hq).1 (nb hq).2 (yP (by omega) hq)
  ·rw[hlk];exact bo.congr fun q hq=>by rw[f1 q (nb hq).1,Own.ab (nb hq).2]
  ·by_cases e:q=(K+9,1)
   ·rw[e,f2];exact(h9 _ rfl).symm
   rw[far q e (by rintro rfl;dsimp only at hq;omega) (fun h=>by have:=ja h;omega)];exact c2.fr q hq
  rw[LH,LJ]at hb;rw[far q (nb hq).1 (nb hq).2 (yP (by omega) hq)];exact c2.free b (by omega) q hq
 rintro u h2 ⟨o2,V,w2,c2⟩;rw[MK]at c2;rw[bT,hz];clear hz z;simp;exact hK _ _ ⟨o2,V,w2,c2⟩
theorem JT(K:Nat){f:an}{v:Value}{h:Heap}{o:Own}(w:Owns W h o)(hn : ∀k:Key,K<=k.1->k.1<=K+9->o k=none)(hr:Rd W v f)(sm:SmF f):
  az Tryz.prog N.iW #[v] h (fun r h'=>∃o' vb V,r = .agg #[.int .i64 f.params,vb]/\I64 f.params/\Owns W h' o'/\FnO K o' vb V f/\(∀k:Key,(k.1<K\/K+6<k.1)->o' k=o k)/\∀b,f.blocks.length<=b->∀k,OfB K b k->o' k=none):=by
 refine aq (args:=[v]) follows F.iW E.iW (LD (by kernel_rfl)) fun Kc hK=>?_;dsimp only[L.iW];obtain⟨vb,rfl,ip,sb⟩:=v7 hr;refine aa fun z hz=>?_;simp;refine w.uo (k:=(K+7,0)) (n:=1) (l:=[.int .i64 f.params,vb]) (hn _ (by simp) (by simp)) rfl rfl (by decide) (gV sb.cells.2) fun B h1 hle1 w1=>?_;refine w1.kF (k:=(K+7,1)) (n:=1) (z:=.agg #[.int .i64 0,.slice none 0 0]) ((Own.ab (by simp)).trans (hn _ (by simp) (by simp))) (by kernel_rfl) rfl (by decide) (by simp[Value.cells,Value.oneCell']) fun h2 q2 w2=>?_;generalize h1.size=R at w2;have c1:ao (vw h2) ⟨B,1,none⟩=some vb:=w2.raw (k:=(K+7,0)) (e:=T.ar) (n:=1) (by rw[Own.ab (by simp),Own.af]) (i:=1) (by decide);subst hz;refine aa fun z hz=>?_;simp[c1];refine aj (by kernel_rfl) (yv K f.params w2 (fun k h1 h2=>by rw[Own.ab (by rintro rfl;simp at h2),Own.ab (by rintro rfl;simp at h2)];exact hn k h1 (by omega)) (fun k hk=>by rw[Own.ab (by rintro rfl;simp at hk),Own.ab (by rintro rfl;simp at hk)];exact hn k (by omega) (by omega)) (fun k hk=>by rw[Own.ab (by rintro rfl;simp at hk),Own.ab (by rintro rfl;simp at hk)];exact hn k (by omega) (by omega)) sb sm.len sm.blk) ?_;rintro u3 h3 ⟨o3,V,w3,c3⟩;have hu3:=(w3.cells c3.fno.blk).2
 refine w3.bu (k:=(K+7,0)) (n:=1) (i:=1) (e:=T.ar) (B:=B) (l:=[.int .i64 f.params,vb]) (by rw[c3.fr _ (by simp),Own.ab (by simp),Own.af]) (by decide) (by kernel_rfl) rfl rfl hu3 fun h4 w4 _=>?_;have c2:Un.ev (vw h4) (.al 2) (.pointer (some ⟨B,0,none⟩))=some (.agg #[.int .i64 f.params,u3]):=w4.dI (k:=(K+7,0)) (n:=1) Own.af;subst hz;refine aa fun z hz=>?_;simp[c2];refine w4.ez (k:=(K+7,1)) (e:=T.ar) (B:=R) (D:=RawN.mk (n:=1) [.int .i64 0,.slice none 0 0]) Part.all (d:=RawN.mk (n:=1) [.int .i64 f.params,u3]) (by rw[Own.ab (by simp),c3.fr _ (by simp),Own.af];rfl) (by kernel_rfl) rfl rfl (eP rfl (gV hu3)) fun h5 w5 _=>?_;have c3':Un.ev (vw h5) (.al 2) (.pointer (some ⟨R,0,none⟩))=some (.agg #[.int .i64 f.params,u3]):=w5.dI (k:=(K+7,1)) (n:=1) Own.af
 subst hz;simp[c3'];have hf:(⟨f.params,f.blocks⟩:an)=f:=rfl;refine hK _ _ ⟨fun q=>if q.1=K+7 then none else o3 q,u3,V,rfl,ip,w5.sub fun q i hq=>?_,c3.fno.congr fun q h1 h2=>if_neg (by omega),fun q hq=>?_,fun b hb q hq=>?_⟩
 ·split at hq
  ·cases hq
  rename_i e;rw[Own.ab (by rintro rfl;exact e rfl),Own.ab (by rintro rfl;exact e rfl)];exact hq
 ·by_cases e:q.1=K+7
  ·exact(if_pos e).trans (hn q (by omega) (by omega)).symm
  refine(if_neg e).trans ?_;rw[c3.fr q hq,Own.ab (by rintro rfl;exact e rfl),Own.ab (by rintro rfl;exact e rfl)]
 have:=ja hq;refine(if_neg (by omega)).trans (c3.free b hb q hq)
end Go.Proofs.YtbkdlhkoiagbbaaGreat
