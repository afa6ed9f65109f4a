/- A part of the proof: Hc, Pa, Pb, Pd, Pc, Pe, Pf, Pg, Ph, Hd, He, Hf, Hg, Hi, Hj, Hk, Ra, Ka, Kb, Wu, Wv, Kc, Ma, Mb, Mc, Md, Me. -/
import Derived.Test.YtbkdlhkoiagbbaaGreatZSTells2
import Derived.ChangeKeysEq
set_option linter.unusedSimpArgs false
set_option linter.unusedVariables false
namespace Go.Proofs.YtbkdlhkoiagbbaaGreat
open Go Go.Lft
abbrev Sh:=Int × Int × Int × Int
def encS (s:Sh):Value:=.agg #[.int .i64 s.1,.int .i64 s.2.1,.int .i64 s.2.2.1,.int .i64 s.2.2.2]
def gJ:Int->Option Sh:=putM (putM (putM (putM (putM (fun _=>none) 1 (0,0,1,1)) 2 (1,1,2,2)) 3 (1,1,2,65)) 4 (0,1,0,0)) 5 (0,0,0,0)
theorem pg{po:OP}{ty:TypeId}{us:List (Nat × Value)}{h:Heap}{K:Value->Heap->Prop}{a b c d:Int}(hk:K (encS (a,b,c,d)) h):
  Lft.step Tryz.prog (.build T.dK #[(0,.const (.int .i64 a)),(1,.const (.int .i64 b)),(2,.const (.int .i64 c)),(3,.const (.int .i64 d))]) ty us h K:=
 aE (z:=.agg #[.int .i64 0,.int .i64 0,.int .i64 0,.int .i64 0]) (places:=[(0,1),(1,1),(2,1),(3,1)]) (vs:=[(0,.int .i64 a),(1,.int .i64 b),(2,.int .i64 c),(3,.int .i64 d)]) (cs:=#[.int .i64 a,.int .i64 b,.int .i64 c,.int .i64 d]) (by kernel_rfl) (by kernel_rfl) (by simp only[List.map_toArray,NK,List.map_nil,xe]) (by rfl) hk
theorem kU{po:OP}{ty:TypeId}{us:List (Nat × Value)}{h:Heap}{K:Value->Heap->Prop}{x y:Operand}{r:Nat}{f:Int->Option Sh}{j:Int}{s:Sh}(hx:asg us x = .map (some r))(hy:asg us y=encS s)(m:gX (.int .i64) h r (mapE encS f))(hk : ∀h':Heap,Kept h h' (some r)->gX (.int .i64) h' r (mapE encS (putM f j s))->K undef h'):Lft.step Tryz.prog (.insert T.eF x (.const (.int .i64 j)) y) ty us h K:=
 xZ (v:=encS s) (.inr rfl) U.eF U.int hx rfl hy mC m _ qX.1 qX.2 fun h' hs ho hm=>hk h' (Kept.upd hs ho) hm
theorem xx{h:Heap}:az Tryz.prog N.fE #[] h (fun v h'=>v = .map (some h.size)/\(vw h).le (vw h')/\gX (.int .i64) h' h.size (mapE encS gJ)):=by
 refine aq (args:=[]) follows F.fE E.fE (LD (by kernel_rfl)) fun K hK=>?_;simp[L.fE];refine qk ?_;have m0:gX (.int .i64) (h.push (.map #[] 0)) h.size (mapE encS fun _=>none):=by rw[xj];exact gX.none (by simp)
 have hle:=bm h (.map #[] 0);generalize h.push (.map #[] 0)=h0 at m0 hle;refine pg (kU (s:=(0,0,1,1)) rfl rfl m0 fun h1 k1 m1=>?_);refine pg (kU (s:=(1,1,2,2)) rfl rfl m1 fun h2 k2 m2=>?_);refine pg (kU (s:=(1,1,2,65)) rfl rfl m2 fun h3 k3 m3=>?_);refine pg (kU (s:=(0,1,0,0)) rfl rfl m3 fun h4 k4 m4=>?_);refine pg (kU (s:=(0,0,0,0)) rfl rfl m4 fun h5 k5 m5=>?_);refine hK _ _ ⟨rfl,fun b o hb=>?_,m5⟩;have hlt:=View.lt (View.le_refl (vw h)) hb;have kk:=(((k1.trans k2).trans k3).trans k4).trans k5;show h5[b]? = _;rw[kk.block b (OJ hlt (gQ hle)) (by simp;omega)];exact hle b o hb
def n8 (t:da):Bool:=match gJ t.kind with
 | some s=>bU t.args.length s.1 s.2.1&&bU t.to.length s.2.2.1 s.2.2.2
 | none=>false
def insS (ps b:Int) (x:BlkD) (i:Nat) (m:MW):Except Tr MW:=
 if bU (nth x.ins i).op 1 18&&bU (nth x.ins i).args.length (gR (nth x.ins i).op).1 (gR (nth x.ins i).op).2 then allS ps (dc (nth x.ins i)) b i m else .error (10,b,i)
def phiS (ps b:Int) (x:BlkD) (i:Nat) (m:MW):Except Tr MW:=allS ps [(nth x.phis i).dst] b (-1-i) m
def endS (n b:Int) (x:BlkD) (m:MW):Except Tr MW:=
 if n8 x.term then(if x.term.to.all (fun t=>bU t 1 (n-1)) then .ok m else .error (14,b,x.ins.length)) else .error (10,b,x.ins.length)
def blkS (f:an) (b:Nat) (m:MW):Except Tr MW:=
 match upE (phiS f.params b (nth f.blocks b)) (nth f.blocks b).phis.length m with
 | .error t=>.error t
 | .ok m1=>match upE (insS f.params b (nth f.blocks b)) (nth f.blocks b).ins.length m1 with
  | .error t=>.error t
  | .ok m2=>endS f.blocks.length b (nth f.blocks b) m2
def ma (f:an) (m:MW):Except Tr MW:=upE (blkS f) f.blocks.length m
theorem EM{Kb r:Nat}{vb:Value}{f:an}{m:MW}{h:Heap}(k:Lk h Kb r vb f m):
  iZ Tryz.prog N.aV #[.pointer (some ⟨Kb,0,none⟩)] h (fun _ h'=>∃m',ma f m = .ok m'/\Lk h' Kb r vb f m'/\Kept h h' (some r))
   (fun ch h'=>∃t,ma f m = .error t/\ch=trV t/\Kept h h' (some r)):=by
 refine iP (args:=[.pointer (some ⟨Kb,0,none⟩)]) follows F.aV E.aV (LD (by kernel_rfl)) fun K Kp hK hKp=>?_;have hbb:=k.rb.bound;simp[L.aV,ae cA k.c1,k.rb.len];refine a6 [0,18,19,20] (fun(_:Unit) b=>[.pointer (some ⟨Kb,0,none⟩),vb,.int .i64 f.blocks.length,.int .i64 b]) (fun _ b h1=>∃m',upE (blkS f) b m = .ok m'/\Lk h1 Kb r vb f m'/\Kept h h1 (some r)) f.blocks.length ()
  rfl (by omega) rfl ⟨m,rfl,k,Kept.refl _ _⟩ (fun _ _=>rfl) (fun v i h1 hk m=>by simp) ?_ ?_
 ·rintro _ b h1 hltb ⟨m1,hm1,k1,kp1⟩ K2 hK2;have hst:=ju hm1;have her : ∀{t},blkS f b m1 = .error t->ma f m = .error t:=fun e=>oK hm1 hltb e;obtain⟨u,hu,hur⟩:=k1.rb.wh rfl (N:=6) rfl hltb;rw[blkS]at hst her;have hr1:=k1.map.lt
  generalize hx:nth f.blocks b=x at hst her hur;refine aa fun z hz=>?_;simp(disch:=omega)[k1.rb.idxn (N:=6) rfl,hu _ cA];refine fm (z:=.agg #[.slice none 0 0,.slice none 0 0,.int .i64 0,.slice none 0 0,.slice none 0 0,.int .i32 0]) (by kernel_rfl) rfl (by kernel_rfl) hur (fun _=>by simp) (fun _=>by simp) fun h2 hle2 hsz2 hat=>?_;have k2:=k1.ext hle2;have kp2:=kp1.trans (Kept.of_le hle2);have hat2:=hat (skip r h2) (Kept.of_le hle2).skip (jT (by omega));obtain⟨vp,vi,va,vt,bp,bi,bk,ba,bt⟩:=ib hat2;generalize h1.size=B at bp bi bk ba bt;subst hz;refine aa fun z hz=>?_;simp[ae cA bp.1,bp.2.len];have bph:=bp.2.bound
  have bin:=bi.2.bound;have bto:=bt.2.bound;refine a6 [0,2,3,18,19,20,26,27,28] (fun(_:Unit) i=>[.pointer (some ⟨Kb,0,none⟩),.int .i64 b,.pointer (some ⟨B,0,none⟩),vb,.int .i64 f.blocks.length,.int .i64 b,vp,.int .i64 x.phis.length,.int .i64 i])
   (fun _ i h3=>∃m',upE (phiS f.params b x) i m1 = .ok m'/\Lk h3 Kb r vb f m'/\Kept h2 h3 (some r)) x.phis.length ()
   rfl (by omega) rfl ⟨m1,rfl,k2,Kept.refl _ _⟩ (fun _ _=>rfl) (fun v i h1 hk m=>by simp) ?_ ?_
  ·rintro _ i h3 hlti ⟨m3,hm3,k3,kp3⟩ K3 hK3;have bp3:=bp.2.mono kp3.skip;obtain⟨u5,hu5,hur5⟩:=bp3.wh rfl (N:=2) rfl hlti;have hr3:=k3.map.lt;have hst3:=ju hm3;have her3 : ∀{t},phiS f.params b x i m3 = .error t->upE (phiS f.params b x) x.phis.length m1 = .error t:=fun e=>oK hm3 hlti e;rw[phiS]at hst3 her3;refine aa fun y hy=>?_;simp(disch:=omega)[bp3.idxn (N:=2) rfl,hu5 _ cA];refine fm (z:=.agg #[.int .i64 0,.slice none 0 0]) (by kernel_rfl) rfl (by kernel_rfl) hur5 (fun _=>by simp) (fun _=>by simp) fun h4 hle4 hsz4 hat4=>?_;have hat4':=hat4 (skip r h4) (Kept.of_le hle4).skip (jT (by omega))
   obtain⟨c0,_⟩:=Dj hat4';have rd:=(hat4'.part PhiD.kQ).rng;generalize nth x.phis i=q at c0 rd hst3 her3;generalize h3.size=B3 at c0;subst hy;simp[ae cA c0];refine lA (X:=nothing) (ds:=[q.dst]) (vs:=[.int .i64 q.dst]) rfl El.aS (by simp) ⟨dr.2 ⟨rfl,rd⟩,trivial⟩ dg rfl (by omega) fun u6 h5 hle5 hsz5 hu6 _=>?_;have k5:=(k3.ext hle4).ext hle5
   have kp5:=(kp3.trans (Kept.of_le hle4)).trans (Kept.of_le hle5);have hr5:=k5.map.lt;simp(disch:=omega);refine dZ (by kernel_rfl) (GO k5 (hu6 _ dg (jT (by omega)))) ?_ ?_
   ·rintro _ h6 ⟨m6,hm6,k6,kp6⟩;exact hK3 () _ _ rfl rfl ⟨m6,by rw[hst3,hm6],k6,kp5.trans kp6⟩
   rintro _ h6 ⟨t,ht,rfl,kp6⟩;exact⟨.inl rfl,hKp _ _ ⟨t,her (by rw[her3 ht]),rfl,(kp2.trans kp5).trans kp6⟩⟩
  rintro _ h3 ⟨m3,hm3,k3,kp3⟩;simp only[hm3]at hst her;simp;subst hz;refine aa fun z hz=>?_;have bi3:=bi.2.mono kp3.skip;have ci3:=ae kp3.Dc bi.1;have kp03:=kp2.trans kp3;simp[ci3,bi3.len];refine a6 [0,2,3,18,19,20,43,44,45] (fun(_:Unit) i=>[.pointer (some ⟨Kb,0,none⟩),.int .i64 b,.pointer (some ⟨B,0,none⟩),vb,.int .i64 f.blocks.length,.int .i64 b,vi,.int .i64 x.ins.length,.int .i64 i])
   (fun _ i h4=>∃m',upE (insS f.params b x) i m3 = .ok m'/\Lk h4 Kb r vb f m'/\Kept h3 h4 (some r)) x.ins.length ()
   rfl (by omega) rfl ⟨m3,rfl,k3,Kept.refl _ _⟩ (fun _ _=>rfl) (fun v i h1 hk m=>by simp) ?_ ?_
  ·rintro _ i h4 hlti ⟨m4,hm4,k4,kp4⟩ K3 hK3;have bi4:=bi3.mono kp4.skip;obtain⟨u5,hu5,hur5⟩:=bi4.wh rfl (N:=5) rfl hlti;have hr4:=k4.map.lt;have hst4:=ju hm4;have her4 : ∀{t},insS f.params b x i m4 = .error t->upE (insS f.params b x) x.ins.length m3 = .error t:=fun e=>oK hm4 hlti e;rw[insS]at hst4 her4;refine aa fun y hy=>?_;simp(disch:=omega)[bi4.idxn (N:=5) rfl,hu5 _ cA];refine fm (z:=.agg #[.int .i64 0,.int .i64 0,.int .i64 0,.slice none 0 0,.int .i32 0]) (by kernel_rfl) rfl (by kernel_rfl) hur5 (fun _=>by simp) (fun _=>by simp) fun h5 hle5 hsz5 hat5=>?_;have hat5':=hat5 (skip r h5) (Kept.of_le hle5).skip (jT (by omega))
   obtain⟨c0,c1,c2,va5,ca5⟩:=rJ hat5';have k5:=k4.ext hle5;have kp5:=kp4.trans (Kept.of_le hle5);have whole : ∃w,Un.ev (vw h5) (.al 5) (.pointer (some ⟨h4.size,0,none⟩))=some w/\Rd (vw h5) w (nth x.ins i):=by obtain⟨w,w1,w2⟩:=(hat5'.mono cA).al rfl;exact⟨w,w1,w2⟩
   obtain⟨w,w1,w2⟩:=whole;generalize nth x.ins i=q at c0 c1 c2 ca5 hst4 her4 w2;generalize h4.size=B4 at c0 c1 c2 ca5 w1;subst hy;refine aa fun y hy=>?_;simp[ae cA c0];refine aj (by kernel_rfl) kl ?_;rintro _ _ ⟨rfl,rfl⟩;refine dZ (by kernel_rfl) iG ?_ ?_;rotate_left
   ·rintro _ _ ⟨e,rfl,rfl⟩;exact⟨.inl rfl,hKp _ _ ⟨_,her (by rw[her4 (by rw[if_neg (by simp[e])])]),rfl,kp03.trans kp5⟩⟩
   rintro _ _ ⟨e1,rfl⟩;subst hy;refine aa fun y hy=>?_;simp[ae cA c0];refine aj (by kernel_rfl) Ah ?_;rintro _ _ ⟨rfl,rfl⟩;simp;subst hy;refine aa fun y hy=>?_;simp[ae cA ca5.1,ca5.2.len];refine aj (by kernel_rfl) kl ?_;rintro _ _ ⟨rfl,rfl⟩;refine dZ (by kernel_rfl) iG ?_ ?_;rotate_left
   ·rintro _ _ ⟨e,rfl,rfl⟩;exact⟨.inl rfl,hKp _ _ ⟨_,her (by rw[her4 (by rw[if_neg (by simp[e])])]),rfl,kp03.trans kp5⟩⟩
   rintro _ _ ⟨e2,rfl⟩;subst hy;simp[w1];refine aj (by kernel_rfl) (FY w2) ?_;rintro u6 h6 ⟨hle6,hu6⟩;have k6:=k5.ext hle6;have kp6:=kp5.trans (Kept.of_le hle6);rw[if_pos (by simp[e1,e2])]at hst4 her4;have hr5:=k5.map.lt;refine dZ (by kernel_rfl) (GO k6 (hu6.mono fun b o hb=>?_)) ?_ ?_
   ·unfold fresh at hb;unfold Lft.skip;split at hb
    ·cases hb
    rw[if_neg (by omega)];exact hb
   ·rintro _ h7 ⟨m7,hm7,k7,kp7⟩;exact hK3 () _ _ rfl rfl ⟨m7,by rw[hst4,hm7],k7,kp6.trans kp7⟩
   rintro _ h7 ⟨t,ht,rfl,kp7⟩;exact⟨.inl rfl,hKp _ _ ⟨t,her (by rw[her4 ht]),rfl,(kp03.trans kp6).trans kp7⟩⟩
  rintro _ h4 ⟨m4,hm4,k4,kp4⟩;simp only[hm4]at hst her;simp;subst hz;refine aa fun z hz=>?_;have kp24:=kp3.trans kp4;have hr4:=k4.map.lt;have ck4:=ae kp24.skip bk;have hc : ∀{h5:Heap},Kept h4 h5 (some r)->(skip r h4).le (vw h5):=fun hk=>hk.Dc;have cellsS : ∀o:Option Sh,((o.map encS).getD (.agg #[.int .i64 0,.int .i64 0,.int .i64 0,.int .i64 0]))=encS (o.getD (0,0,0,0)):=fun o=>by cases o<;>rfl
  have hone : ∀s:Sh,∀c∈(encS s).cells.toList,c.oneCell'=true:=fun s=>by simp[encS,Value.oneCell']
  refine mA (fun ρ h5=>∃(B5:Nat) (v79 v83:Value) (tl:Env),ρ=[(0,.pointer (some ⟨Kb,0,none⟩)),(2,.int .i64 b),(3,.pointer (some ⟨B,0,none⟩)),(10,.pointer (some ⟨B5,0,none⟩)),(11,.bool (gJ x.term.kind).isSome),(18,vb),(19,.int .i64 f.blocks.length),(20,.int .i64 b),(43,vi),
    (44,.int .i64 x.ins.length),(45,.int .i64 x.ins.length),(79,v79),(82,.int .i64 x.term.kind),(83,v83)]++tl/\Lk h5 Kb r vb f m4/\Kept h4 h5 (some r)/\B5≠r/\h5[B5]? = some (.cells (encS ((gJ x.term.kind).getD (0,0,0,0))).cells T.dK (0,0))) ?_ ?_
  ·intro K3 hK3;refine bF (skip r h4) cA ?_;simp[ck4];refine⟨?_,?_⟩
   ·refine aj (by kernel_rfl) xx ?_;rintro _ h5 ⟨rfl,hle5,hm5⟩;have hs5:=gQ hle5;refine⟨hc (Kept.of_le hle5),?_,?_⟩
    ·refine lZ (z:=.agg #[.int .i64 0,.int .i64 0,.int .i64 0,.int .i64 0]) U.eF U.int (by kernel_rfl) (by simp<;>rfl) (by simp<;>rfl) mC hm5 ?_;rw[oy,cellsS,OS];simp;refine jO (n:=4) (v:=encS ((gJ x.term.kind).getD (0,0,0,0))) (z:=.agg #[.int .i64 0,.int .i64 0,.int .i64 0,.int .i64 0]) (by kernel_rfl) rfl (by kernel_rfl) rfl (hone _) (fun _=>by simp) (fun _=>by simp) fun h6 hle6 hsz6 hb6=>?_;exact hK3 _ _ ⟨_,_,_,_,rfl,(k4.ext hle5).ext hle6,(Kept.of_le hle5).trans (Kept.of_le hle6),by omega,hb6⟩
    refine eZ (z:=.agg #[.int .i64 0,.int .i64 0,.int .i64 0,.int .i64 0]) (by kernel_rfl) ?_;have hle6:=bm h5 (.cells (Value.cells (.agg #[.int .i64 0,.int .i64 0,.int .i64 0,.int .i64 0])) T.dK);have hb6:(h5.push (.cells (Value.cells (.agg #[.int .i64 0,.int .i64 0,.int .i64 0,.int .i64 0])) T.dK))[h5.size]? = some (.cells (Value.cells (.agg #[.int .i64 0,.int .i64 0,.int .i64 0,.int .i64 0])) T.dK (0,0)):=by simp
    have hs6:(h5.push (.cells (Value.cells (.agg #[.int .i64 0,.int .i64 0,.int .i64 0,.int .i64 0])) T.dK)).size=h5.size+1:=by simp
    generalize h5.push (.cells (Value.cells (.agg #[.int .i64 0,.int .i64 0,.int .i64 0,.int .i64 0])) T.dK)=h6 at hle6 hb6 hs6;refine⟨hc ((Kept.of_le hle5).trans (Kept.of_le hle6)),?_⟩;refine lZ (z:=.agg #[.int .i64 0,.int .i64 0,.int .i64 0,.int .i64 0]) U.eF U.int (by kernel_rfl) (by simp<;>rfl) (by simp<;>rfl) mC (hm5.ext hle6) ?_;rw[oy,cellsS,OS];simp;refine eR (g:=h5.size) (o:=0) (n:=4) (v:=encS ((gJ x.term.kind).getD (0,0,0,0))) (by kernel_rfl) rfl rfl rfl (hone _) hb6 (by simp) fun h7 hs7 ⟨row,hb7,hrow⟩ ho7=>?_;have hrow2:row=(encS ((gJ x.term.kind).getD (0,0,0,0))).cells:=by rw[<-Array.toList_inj,hrow];simp
    rw[hrow2]at hb7;have kp7:Kept h4 h7 (some r):=⟨by omega,fun q hq hne=>by rw[ho7 q (by omega)];exact hle6 _ _ (hle5 _ _ (Array.getElem?_eq_getElem hq)) |>.trans (Array.getElem?_eq_getElem hq).symm⟩;exact hK3 _ _ ⟨_,_,_,_,rfl,k4.kept kp7 (((k4.map.ext hle5).ext hle6).same (ho7 r (by omega))),kp7,by omega,hb7⟩
   refine eZ (z:=.agg #[.int .i64 0,.int .i64 0,.int .i64 0,.int .i64 0]) (by kernel_rfl) ?_;have hle5:=bm h4 (.cells (Value.cells (.agg #[.int .i64 0,.int .i64 0,.int .i64 0,.int .i64 0])) T.dK);have hb5:(h4.push (.cells (Value.cells (.agg #[.int .i64 0,.int .i64 0,.int .i64 0,.int .i64 0])) T.dK))[h4.size]? = some (.cells (Value.cells (.agg #[.int .i64 0,.int .i64 0,.int .i64 0,.int .i64 0])) T.dK (0,0)):=by simp
   have hs5:(h4.push (.cells (Value.cells (.agg #[.int .i64 0,.int .i64 0,.int .i64 0,.int .i64 0])) T.dK)).size=h4.size+1:=by simp
   generalize h4.push (.cells (Value.cells (.agg #[.int .i64 0,.int .i64 0,.int .i64 0,.int .i64 0])) T.dK)=h5 at hle5 hb5 hs5;refine⟨hc (Kept.of_le hle5),?_⟩;refine aj (by kernel_rfl) xx ?_;rintro _ h6 ⟨rfl,hle6,hm6⟩;have hs6:=gQ hle6;refine⟨hc ((Kept.of_le hle5).trans (Kept.of_le hle6)),?_⟩;refine lZ (z:=.agg #[.int .i64 0,.int .i64 0,.int .i64 0,.int .i64 0]) U.eF U.int (by kernel_rfl) (by simp<;>rfl) (by simp<;>rfl) mC hm6 ?_;rw[oy,cellsS,OS];simp;refine eR (g:=h4.size) (o:=0) (n:=4) (v:=encS ((gJ x.term.kind).getD (0,0,0,0))) (by kernel_rfl) rfl rfl rfl (hone _) (hle6 _ _ hb5) (by simp) fun h7 hs7 ⟨row,hb7,hrow⟩ ho7=>?_;have hrow2:row=(encS ((gJ x.term.kind).getD (0,0,0,0))).cells:=by rw[<-Array.toList_inj,hrow];simp
   rw[hrow2]at hb7;have kp7:Kept h4 h7 (some r):=⟨by omega,fun q hq hne=>by rw[ho7 q (by omega)];exact hle6 _ _ (hle5 _ _ (Array.getElem?_eq_getElem hq)) |>.trans (Array.getElem?_eq_getElem hq).symm⟩;exact hK3 _ _ ⟨_,_,_,_,rfl,k4.kept kp7 (((k4.map.ext hle5).ext hle6).same (ho7 r (by omega))),kp7,by omega,hb7⟩
  rintro ρ h5 ⟨B5,v79,v83,tl,rfl,k5,kp5,hB5,hb5⟩;subst hz;refine aa fun z hz=>?_;have kp25:=kp24.trans kp5;have ci5:=ae kp25.skip bi.1;have bi5:=bi.2.mono kp25.skip;have ca5:=ae kp25.skip ba.1;have ba5:=ba.2.mono kp25.skip;have ct5:=ae kp25.skip bt.1;have bt5:=bt.2.mono kp25.skip;have hb5':skip r h5 B5=some (.cells (encS ((gJ x.term.kind).getD (0,0,0,0))).cells T.dK (0,0)):=by rw[jT hB5];exact hb5
  generalize hsh:(gJ x.term.kind).getD (0,0,0,0)=s at hb5';have d0:ao (skip r h5) ⟨B5,0,none⟩=some (.int .i64 s.1):=bW hb5' rfl;have d1:ao (skip r h5) ⟨B5,1,none⟩=some (.int .i64 s.2.1):=bW hb5' rfl;have d2:ao (skip r h5) ⟨B5,2,none⟩=some (.int .i64 s.2.2.1):=bW hb5' rfl;have d3:ao (skip r h5) ⟨B5,3,none⟩=some (.int .i64 s.2.2.2):=bW hb5' rfl;have hto:n8 x.term=((gJ x.term.kind).isSome&&(bU x.term.args.length s.1 s.2.1&&bU x.term.to.length s.2.2.1 s.2.2.2)):=by rw[n8,<-hsh];cases gJ x.term.kind<;>rfl
  refine bF (skip r h5) cA ?_;have bad:n8 x.term=false->∀ch,ch=trV (10,(b:Int),(x.ins.length:Int))->Kp ch h5:=fun e ch hch=>hKp _ _ ⟨_,her (by rw[endS,if_neg (by simp[e])]),hch,kp03.trans (kp4.trans kp5)⟩;have good:n8 x.term=true->∀tl:Env,@LC.wp (ppOf Kp) Tryz.prog z (dJ 1 (gr K2 (dJ 0 (@fq [] K)))) ([(0,.pointer (some ⟨Kb,0,none⟩)),(2,.int .i64 b),(3,.pointer (some ⟨B,0,none⟩)),(10,.pointer (some ⟨B5,0,none⟩)),(11,.bool true),(18,vb),(19,.int .i64 f.blocks.length),(20,.int .i64 b),(43,vi),
   (44,.int .i64 x.ins.length),(45,.int .i64 x.ins.length),(79,v79),(82,.int .i64 x.term.kind),(83,v83)]++tl) h5:=by
   intro hgood tl;subst hz;have ct5':=ae cA ct5;have cb5:=k5.c1;have hne:0<f.blocks.length:=by omega
   simp[ct5',bt5.len];refine a6 [0,2,3,18,19,20,116,117,118] (fun(_:Unit) i=>[.pointer (some ⟨Kb,0,none⟩),.int .i64 b,.pointer (some ⟨B,0,none⟩),vb,.int .i64 f.blocks.length,.int .i64 b,vt,.int .i64 x.term.to.length,.int .i64 i])
    (fun _ i h6=>h6=h5/\∀j,j<i->bU (nth x.term.to j) 1 (f.blocks.length-1)=true) x.term.to.length ()
    rfl (by omega) (by simp[aZ,ag,ah]) ⟨rfl,fun j hj=>by omega⟩ (fun _ _=>rfl) (fun v i h1 hk m=>by simp) ?_ ?_
   ·rintro _ i h5 hlti ⟨rfl,hpre⟩ K3 hK3;refine aa fun y hy=>?_;simp(disch:=omega)[bt5.idx1 rfl,bt5.int cA];subst hy;refine bF (skip r h5) cA ?_;simp(disch:=omega)[ci5,bi5.len,cb5,k5.rb.len];refine aj (by kernel_rfl) kl ?_;rintro _ _ ⟨rfl,rfl⟩;refine⟨cA,?_⟩;refine dZ (by kernel_rfl) iG ?_ ?_
    ·rintro _ _ ⟨e,rfl⟩;refine hK3 () _ _ rfl rfl ⟨rfl,fun j hj=>?_⟩;rcases LI j i with h | h
     ·exact hpre j h
     have:j=i:=by omega
     subst this;exact e
    rintro ch _ ⟨e,hch,rfl⟩;refine⟨.inr fun _=>trivial,hKp _ _ ⟨_,her ?_,hch,kp03.trans (kp4.trans kp5)⟩⟩;rw[endS,if_pos hgood,if_neg];intro ha;rw[M8.1 ha _ (bc hlti)]at e;cases e
   rintro _ h5 ⟨rfl,hpre⟩;simp;refine hK2 () _ _ rfl rfl ⟨m4,?_,k5,kp03.trans (kp4.trans kp5)⟩;rw[hst,endS,if_pos hgood,if_pos];rw[M8];intro y hy;obtain⟨j,hj,rfl⟩:=LQ hy;rw[<-ak hj];exact hpre j hj
  cases hso:(gJ x.term.kind).isSome with
  | false=>
   simp[ci5,bi5.len,d0,d1,d2,d3,ca5,ba5.len,ct5,bt5.len,ag,ah];refine dZ (by kernel_rfl) iG ?_ ?_
   ·rintro _ _ ⟨e,_⟩;cases e
   rintro ch _ ⟨_,hch,rfl⟩;exact⟨.inr fun _=>trivial,bad (by rw[hto,hso];rfl) _ hch⟩
  | true=>
   rw[hso,N7]at hto;simp[ci5,bi5.len,d0,d1,d2,d3,ca5,ba5.len,ct5,bt5.len,ag,ah];refine aj (by kernel_rfl) kl ?_;rintro _ _ ⟨rfl,rfl⟩;refine⟨cA,?_⟩;cases hw1:bU x.term.args.length s.1 s.2.1 with
   | false=>
    simp[ag,ah];refine dZ (by kernel_rfl) iG ?_ ?_
    ·rintro _ _ ⟨e,_⟩;cases e
    rintro ch _ ⟨_,hch,rfl⟩;exact⟨.inr fun _=>trivial,bad (by rw[hto,hw1];rfl) _ hch⟩
   | true=>
    simp[ag,ah];refine aj (by kernel_rfl) kl ?_;rintro _ _ ⟨rfl,rfl⟩;refine⟨cA,?_⟩;refine dZ (by kernel_rfl) iG ?_ ?_
    ·rintro _ _ ⟨e,rfl⟩;exact good (by rw[hto,hw1,e];rfl) _
    rintro ch _ ⟨e,hch,rfl⟩;exact⟨.inr fun _=>trivial,bad (by rw[hto,hw1,e];rfl) _ hch⟩
 rintro _ h1 ⟨m1,hm1,k1,kp1⟩;simp;exact hK _ _ ⟨m1,hm1,k1,kp1⟩
theorem pW : ∀{a b:List Int},a.Pairwise (· < ·)->b.Pairwise (· < ·)->(∀x,x∈a↔x∈b)->a=b
 | [],[],_,_,_=>rfl
 | [],y::b,_,_,h=>by have:=(h y).2 (LR ..);cases this
 | x::a,[],_,_,h=>by have:=(h x).1 (LR ..);cases this
 | x::a,y::b,ha,hb,h=>by
  obtain⟨a1,a2⟩:=N3.1 ha;obtain⟨b1,b2⟩:=N3.1 hb;have e:x=y:=by
   rcases L4.1 ((h x).1 (LR ..))with e | h1
   ·exact e
   rcases L4.1 ((h y).2 (LR ..))with e | h2
   ·exact e.symm
   have:=a1 y h2;have:=b1 x h1;omega
  subst e;rw[pW a2 b2 fun z=>?_];constructor
  ·intro hz;rcases L4.1 ((h z).1 (LS _ hz))with e | h1
   ·have:=a1 z hz;omega
   exact h1
  intro hz;rcases L4.1 ((h z).2 (LS _ hz))with e | h1
  ·have:=b1 z hz;omega
  exact h1
theorem yM(l:List Int):(om l).Pairwise (·<=·):=by have:=OW (le:=fun x y:Int=>decide (x<=y)) (fun a b c h1 h2=>by simp at *;omega) (fun a b=>by simp;omega) l;exact this.imp fun h=>by simpa using h
theorem get!_nth{l:List Int}{i:Nat}:l.toArray[i]! = nth l i:=by simp[nth,List.getD_eq_getElem?_getD]
theorem uR{l:List Int}(hs:l.Pairwise (·<=·)){i j:Nat}(hij:i<=j)(hj:j<l.length):nth l i<=nth l j:=by
 rw[ak (by omega),ak hj];rcases LI i j with h | h
 ·exact List.pairwise_iff_getElem.1 hs i j (by omega) hj h
 have:i=j:=by omega
 subst this;exact Oa _
theorem uE{l:List Int}(hs:l.Pairwise (·<=·)):(Lib.compact l).Pairwise (· < ·):=by unfold Lib.compact Lib.compactUpTo;rw[NT,List.pairwise_filter];refine(OY (n:=l.length)).imp_of_mem fun{i j} hi hj hij ki kj=>?_;simp only[M7]at hi hj;simp only[Lib.keeps,get!_nth,decide_eq_true_eq]at kj;rw[get!_nth,get!_nth];have h1:=uR hs (i:=i) (j:=j-1) (by omega) (by omega);have h2:=uR hs (i:=j-1) (j:=j) (by omega) hj;rcases kj with h | h<;>omega
theorem ud{l:List Int}{x:Int}:x∈Lib.compact l↔x∈l:=by
 refine⟨pj,fun hx=>?_⟩;obtain⟨j,hj,rfl⟩:=LQ hx;have key : ∀j,j<l.length->nth l j∈Lib.compact l:=by
  intro j;induction j with
  | zero=>intro h;unfold Lib.compact Lib.compactUpTo;refine MR.2 ⟨0,NP.2 ⟨by simpa using h,by simp[Lib.keeps]⟩,get!_nth⟩
  | succ j ih=>
   intro h;by_cases he:nth l (j+1)=nth l j
   ·rw[he];exact ih (by omega)
   unfold Lib.compact Lib.compactUpTo;refine MR.2 ⟨j+1,NP.2 ⟨by simpa using h,by simp only[Lib.keeps,get!_nth,decide_eq_true_eq];exact .inr (by simpa using he)⟩,get!_nth⟩
 rw[<-ak hj];exact key j hj
theorem kZ{β:Type}{p:Nat->Bool}{x:Nat->β}{n:Nat}{y:β}:y∈sift p x n↔∃i,i<n/\p i=true/\x i=y:=by rw[kE];simp[and_assoc]
theorem zh{row:List Int}{n:Int}:(ln row n).Pairwise (· < ·):=uE (yM _)
theorem sO{row:List Int}{n x:Int}:x∈ln row n↔x∈row/\0<=x/\x<n:=by
 rw[ln,ud,om,OM,kZ];simp only[oo,LK,decide_eq_true_eq];constructor
 ·rintro⟨i,hi,h,rfl⟩;exact⟨bc hi,h⟩
 rintro⟨h,h1⟩;obtain⟨i,hi,rfl⟩:=LQ h;exact⟨i,hi,by rw[ak hi];exact h1,ak hi⟩
theorem fl{g:Gr}{a b:Int}:eH g a b=true↔(0<=a/\a<g.length/\0<=b/\b<g.length)/\b∈nth g a.toNat:=by simp[eH]
theorem tG{p:Nat->Bool}{n:Nat}:(sift p (fun b=>(b:Int)) n).Pairwise (· < ·):=by rw[kE,NT,List.pairwise_filter];exact OY.imp fun h _ _=>by omega
theorem gg{g:Gr}{a b:Int}:b∈dC g a↔eH g a b=true:=by
 rw[dC,kZ];constructor
 ·rintro⟨i,_,h,rfl⟩;exact h
 intro h;have:=(fl.1 h).1;exact⟨b.toNat,by omega,by rw[LX (by omega)];exact h,LX (by omega)⟩
theorem nH{g:Gr}{a:Int}:(dC g a).Pairwise (· < ·):=tG
theorem lP{g:Gr}{a:Nat}(ha:a<g.length):nth (cN g) a=dC g a:=by rw[cN,eQ ha];refine pW zh nH fun x=>?_;rw[sO,gg,fl,LY];exact⟨fun⟨h1,h2,h3⟩=>⟨⟨by omega,by omega,h2,h3⟩,h1⟩,fun⟨⟨_,_,h2,h3⟩,h1⟩=>⟨h1,h2,h3⟩⟩
theorem zr{f k:Nat->List Int}{n:Nat}(h : ∀a,a<n->f a=k a):iV f n=iV k n:=by
 induction n with
 | zero=>rfl
 | succ n ih=>rw[ic,ic,ih fun a ha=>h a (by omega),h n (by omega)]
theorem nc{g:Gr}:fU g=iV (fun a=>dC g a) g.length:=zr fun a ha=>lP ha
theorem Ei{g:Gr}{e:Int × Int}:e∈fU g↔eH g e.1 e.2=true:=by
 rw[nc,iV,Oe];simp only[M7,MR];constructor
 ·rintro⟨a,ha,b,hb,rfl⟩;exact gg.1 hb
 intro h;have:=(fl.1 h).1;exact⟨e.1.toNat,by omega,e.2,gg.2 (by rw[LX (by omega)];exact h),by rw[LX (by omega)]⟩
theorem GG{l:List (Int × Int)}: ∀{p:Gr} {i:Nat},i<p.length->nth (l.foldl fO p) i=nth p i++(l.filter fun e=>decide (e.2.toNat=i)).map Prod.fst:=by
 induction l with
 | nil=>intro p i _;simp
 | cons e l ih=>
  intro p i hi;rw[MU,ih (by simpa[fO]using hi),fO,aF hi,Oc];split
  ·rename_i h;simp[h]
  rename_i h;simp[h]
theorem filter_one{l:List Int}(hs:l.Pairwise (· < ·)){b:Int}:l.filter (fun x=>decide (x=b))=if b∈l then[b] else[]:=by
 induction l with
 | nil=>simp
 | cons x l ih=>
  obtain⟨h1,h2⟩:=N3.1 hs;rw[Oc,ih h2];by_cases hx:x=b
  ·subst hx;have:¬x∈l:=fun h=>by have:=h1 x h;omega
   simp[this]
  simp[hx,Ne.symm hx]
theorem GD{f:Nat->List Int}(hf : ∀a,(f a).Pairwise (· < ·))(hp : ∀a,∀x∈f a,0<=x){b n:Nat}:((iV f n).filter fun e=>decide (e.2.toNat=b)).map Prod.fst=sift (fun a=>decide ((b:Int)∈f a)) (fun a=>(a:Int)) n:=by
 induction n with
 | zero=>rfl
 | succ n ih=>
  rw[ic,Oh,N5,ih];have e1:((f n).map fun b=>((n:Int),b)).filter (fun e=>decide (e.2.toNat=b))=((f n).filter fun x=>decide (x=(b:Int))).map fun b=>((n:Int),b):=by rw[O3];congr 1;refine OT fun x hx=>?_;have:=hp n x hx;simp only[Function.comp,decide_eq_decide];omega
  rw[e1,filter_one (hf n)];by_cases h:(b:Int)∈f n
  ·rw[if_pos h,jk (by simpa using h)];rfl
  rw[if_neg h,hZ (by simpa using h)];simp
theorem oB{g:Gr}:(cO g).length=g.length:=by rw[cO,mh];simp
theorem oV{g:Gr}:cO g=fT g:=by
 refine xu (by rw[oB,uV]) fun b hb=>?_;rw[oB]at hb;rw[cO,GG (by simpa using hb),aA hb,MB,fT,eQ hb,nc,GD (fun _=>nH) (fun a x hx=>by have:=(fl.1 (gg.1 hx)).1;omega)];have e:(fun a:Nat=>decide ((b:Int)∈dC g a))=fun a:Nat=>eH g a b:=by funext a;rw[MH];simp[gg]
 rw[e]
theorem D1{g:Gr}{a b:Int}(hb:0<=b/\b<g.length):a∈nth (cO g) b.toNat↔eH g a b=true:=by
 rw[oV,fT,eQ (by omega),kZ];constructor
 ·rintro⟨i,_,h,rfl⟩;rwa [LX hb.1]at h
 intro h;have:=(fl.1 h).1;exact⟨a.toNat,by omega,by rw[LX (by omega),LX (by omega)];exact h,LX (by omega)⟩
structure Le (x y:List Bool):Prop where
 len:y.length=x.length
 le : ∀i,nth x i=true->nth y i=true
theorem Le.refl(x:List Bool):Le x x:=⟨rfl,fun _ h=>h⟩
theorem Le.trans {x y z:List Bool} (h:Le x y) (k:Le y z):Le x z:=⟨k.len.trans h.len,fun i e=>k.le i (h.le i e)⟩
theorem Le.antisymm{x y:List Bool}(h:Le x y)(k:Le y x):x=y:=by refine xu h.len.symm fun i _=>?_;rw[MH];exact⟨h.le i,k.le i⟩
theorem Le.dv : ∀{x y:List Bool},Le x y->x=y\/dv y<dv x
 | [],y,h=>.inl (LO h.len).symm
 | a::x,y,h=>by
  match y,h with
  | [],h=>have:=h.len;simp at this
  | b::y,h=>
   have h2:Le x y:=⟨by simpa using h.len,fun i e=>by have:=h.le (i+1);simpa[nth]using this (by simpa[nth]using e)⟩;have h0:a=true->b=true:=fun e=>by have:=h.le 0;simpa[nth]using this (by simpa[nth]using e)
   unfold Go.Proofs.YtbkdlhkoiagbbaaGreat.dv;rcases h2.dv with rfl | h3
   ·cases a<;>cases b<;>simp at h0 ⊢
   unfold Go.Proofs.YtbkdlhkoiagbbaaGreat.dv at h3;cases a<;>cases b<;>simp at h0 ⊢<;>omega
theorem JR{x:List Bool}{i:Nat}{b:Bool}(hb:nth x i=true->b=true):Le x (x.set i b):=by
 refine⟨by simp,fun j hj=>?_⟩;rcases LI j x.length with h | h
 ·rw[aF h];split
  ·rename_i e;subst e;exact hb hj
  exact hj
 rw[cB h]at hj;cases hj
theorem xR {f:Nat->List Bool->List Bool} (hf : ∀k x,Le x (f k x)) (x:List Bool) : ∀n m,n<=m->Le (up f n x) (up f m x)
  | n,0,h=>by
                  obtain rfl:n=0:=by omega
                  exact Le.refl _
  | n,m+1,h=>by
    rcases LI n (m+1)with h1 | h1
    · exact(xR hf x n m (by omega)).trans (hf m _)
    · obtain rfl:n=m+1:=by omega
      exact Le.refl _
theorem IZ{f:Nat->List Bool->List Bool}(hf : ∀k x,Le x (f k x)){x:List Bool}{n:Nat}(h:up f n x=x): ∀k,k<n->f k x=x:=by
 have key : ∀k,k<=n->up f k x=x:=fun k hk=>by have h1:=xR hf x k n hk;rw[h]at h1;have h2:=xR hf x 0 k (NA _);exact(h2.antisymm h1).symm
 intro k hk;have h1:=key (k+1) (by omega);rw[up,key k (by omega)]at h1;exact h1
theorem As {β:Type} {F:β->β} : ∀(n:Nat) (x:β),up (fun _=>F) (n+1) x=up (fun _=>F) n (F x)
 | 0,x=>rfl
 | n+1,x=>by show F (up (fun _=>F) (n+1) x)=F (up (fun _=>F) n (F x));rw[As n x]
theorem Bf {β:Type} {F:β->β} {x:β} (h:F x=x) : ∀n,up (fun _=>F) n x=x
 | 0=>rfl
 | n+1=>by show F (up (fun _=>F) n x)=x;rw[Bf h n,h]
theorem GS {F:List Bool->List Bool} (hF : ∀x,Le x (F x)) : ∀(n:Nat) (x:List Bool),dv x<=n->F (up (fun _=>F) n x)=up (fun _=>F) n x
 | 0,x,h=>by
  rcases(hF x).dv with e | e
  ·exact e.symm
  omega
 | n+1,x,h=>by
  rw[As];rcases(hF x).dv with e | e
  ·rw[<-e,Bf e.symm];exact e.symm
  exact GS hF n _ (by omega)
inductive Re (g:Gr) (gone:Int):Nat->Prop
 | root:0<g.length->gone≠0->Re g gone 0
 | step {a b:Nat}:Re g gone a->eH g a b=true->(b:Int)≠gone->Re g gone b
theorem Re.lt{g:Gr}{gone:Int}{b:Nat}(h:Re g gone b):b<g.length:=by
 cases h with
 | root h _=>exact h
 | step _ h _=>have:=(fl.1 h).1;omega
variable{gone:Int}
theorem Re.ne{g:Gr}{b:Nat}(h:Re g gone b):(b:Int)≠gone:=by
 cases h with
 | root _ h=>exact fun e=>h e.symm
 | step _ _ h=>exact h
theorem Re.all{g:Gr}{b:Nat}(h:Re g gone b):Re g (-1) b:=by
 induction h with
 | root h _=>exact .root h (by decide)
 | step _ h _ ih=>exact .step ih h (by omega)
theorem vF{l:List Int}{i:Nat}{x:List Bool}:Le x (uz gone l i x):=JR fun h=>by rw[h];rfl
theorem tI{g:Gr}{a:Nat}{x:List Bool}:Le x (outBlock g gone a x):=by
 unfold outBlock;split
 ·exact xR (fun k x=>vF) x 0 _ (NA _)
 exact Le.refl _
theorem tA{g:Gr}{x:List Bool}:Le x (na g gone x):=xR (fun k x=>tI) x 0 _ (NA _)
theorem yI{β:Type}(I:β->Prop){f:Nat->β->β}{n:Nat}(hf : ∀k x,k<n->I x->I (f k x)){x:β}(hx:I x):I (up f n x):=by
 have : ∀m,m<=n->I (up f m x):=by
  intro m;induction m with
  | zero=>exact fun _=>hx
  | succ m ih=>exact fun h=>hf _ _ (by omega) (ih (by omega))
 exact this n (LG _)
theorem yX{g:Gr}{b:Nat}:nth (mT g gone) b=true↔Re g gone b:=by
 by_cases h0:g.length=0\/gone=0
 ·rw[mT,if_pos h0];constructor
  ·intro h;rcases LI b g.length with h1 | h1
   ·rw[aA h1]at h;cases h
   rw[cB (by simpa using h1)]at h;cases h
  intro h;exfalso;induction h with
  | root h1 h2=>rcases h0 with h0 | h0;omega;exact h2 h0
  | step _ _ _ ih=>exact ih
 rw[mT,if_neg h0];have hg:g.length≠0:=fun e=>h0 (.inl e);have hgone:gone≠0:=fun e=>h0 (.inr e)
 have hinit:((List.replicate g.length false).set 0 true).length=g.length:=by simp
 constructor
 ·have hI : ∀x:List Bool,(∀b,nth x b=true->Re g gone b)->∀b,nth (na g gone x) b=true->Re g gone b:=by
   intro x hx;refine yI (fun x:List Bool=>∀b,nth x b=true->Re g gone b) (fun a x ha hx=>?_) hx;unfold outBlock;split
   ·rename_i hxa;have hra:=hx a hxa;refine yI (fun x:List Bool=>∀b,nth x b=true->Re g gone b) (fun i x hi hx=>?_) hx;intro b hb;have hm:=bc hi;have hed:=gg.1 hm;have hrng:=(fl.1 hed).1;unfold uz at hb;rcases LI b x.length with h1 | h1
    ·rw[aF h1]at hb;split at hb
     ·rename_i e;rcases(ML _ _).mp hb with h2 | h2
      ·rw[e]at h2;exact hx b h2
      have eb:(b:Int)=nth (dC g a) i:=by omega
      exact .step hra (by rw[eb];exact hed) (by rw[eb];simpa using h2)
     exact hx b hb
    rw[cB (by simpa using h1)]at hb;cases hb
   exact hx
  exact yI (fun x:List Bool=>∀b,nth x b=true->Re g gone b) (fun _ x _ hx=>hI x hx) (fun b hb=>by
   rcases LI b g.length with h1 | h1
   ·rw[aF (by simpa using h1)]at hb;split at hb
    ·rename_i e;subst e;exact .root (by omega) hgone
    rw[aA h1]at hb;cases hb
   rw[cB (by simpa using h1)]at hb;cases hb) b
 intro h;have hfix:=GS (F:=na g gone) (fun x=>tA) g.length ((List.replicate g.length false).set 0 true) (by
  have:=yj (t:=List.replicate g.length false) (i:=0);have h2:dv (List.replicate g.length false)=g.length:=by simp[dv]
  omega);have hle:=xR (f:=fun _=>na g gone) (fun _ x=>tA) ((List.replicate g.length false).set 0 true) 0 g.length (NA _);generalize up (fun _=>na g gone) g.length ((List.replicate g.length false).set 0 true)=x at hfix hle;have hxl:x.length=g.length:=hle.len.trans hinit;induction h with
 | root h1 _=>exact hle.le 0 (by show nth ((List.replicate g.length false).set 0 true) 0=true;rw[aF (by simpa using h1),if_pos rfl])
 | step ha he hb ih=>rename_i a b;have hrng:=(fl.1 he).1;have h1:=IZ (fun k x=>tI) hfix a (by omega);rw[outBlock,if_pos ih]at h1;obtain⟨i,hi,e⟩:=LQ (gg.2 he);have h2:=IZ (fun k x=>vF) h1 i hi;rw[<-ak hi]at e;unfold uz at h2;rw[e]at h2;have h3:=congrArg (fun l=>nth l b) h2;simp only[LY]at h3;rw[aF (by omega),if_pos rfl]at h3;rw[<-h3];simp[hb]
theorem oH{g:Gr}{a b:Nat}:domC g a b=true↔Re g (-1) a/\Re g (-1) b/\¬Re g a b:=by
 rw[domC];simp only[LK,ML,NI,decide_eq_true_eq,yX,MN,ne_eq];constructor
 ·rintro⟨⟨h1,h2⟩,h3⟩;refine⟨h1,h2,?_⟩;rcases h3 with h3 | h3
  ·exact fun h=>h.ne h3.symm
  exact h3
 rintro⟨h1,h2,h3⟩;exact⟨⟨h1,h2⟩,.inr h3⟩
def Bef (l:List Int) (u v:Int):Prop:=∃p q,l=p++u::q/\v∈q
theorem Bef.app{l:List Int}{u v:Int}(h:Bef l u v)(t:List Int):Bef (l++t) u v:=by obtain⟨p,q,rfl,hv⟩:=h;exact⟨p,q++t,by simp,Ng _ hv⟩
theorem Bef.pre{l:List Int}{u v:Int}(h:Bef l u v)(t:List Int):Bef (t++l) u v:=by obtain⟨p,q,rfl,hv⟩:=h;exact⟨t++p,q,by simp,hv⟩
theorem Bef.CT{l t:List Int}{u v:Int}(hu:u∈l)(hv:v∈t):Bef (l++t) u v:=by obtain⟨p,q,rfl⟩:=List.append_of_mem hu;exact⟨p,q++t,by simp,M5 _ hv⟩
theorem Bef.mem{l:List Int}{u v:Int}(h:Bef l u v):u∈l/\v∈l:=by obtain⟨p,q,rfl,hv⟩:=h;exact⟨by simp,by simp[hv]⟩
inductive Adv (nx:Int->List Int) (l:List Int) (u:Int):Int->Prop
 | self:Adv nx l u u
 | step {p q:Int}:Adv nx l u p->q∈nx p->Bef l q p->Adv nx l u q
theorem Adv.app {nx:Int->List Int} {l:List Int} {u v:Int} (h:Adv nx l u v) (t:List Int):Adv nx (l++t) u v:=by
 induction h with
 | self=>exact .self
 | step _ h1 h2 ih=>exact .step ih h1 (h2.app t)
theorem Adv.pre {nx:Int->List Int} {l:List Int} {u v:Int} (h:Adv nx l u v) (t:List Int):Adv nx (t++l) u v:=by
 induction h with
 | self=>exact .self
 | step _ h1 h2 ih=>exact .step ih h1 (h2.pre t)
theorem Adv.trans{nx:Int->List Int}{l:List Int}{u v w:Int}(h:Adv nx l u v)(k:Adv nx l v w):Adv nx l u w:=by
 induction k with
 | self=>exact h
 | step _ h1 h2 ih=>exact .step ih h1 h2
def vis (s:List Bool × List Int) (x:Int):Prop:=nth s.1 x.toNat=true
structure Told (nx:Int->List Int) (m:Nat) (a:Int) (s s':List Bool × List Int) (new:List Int):Prop where
 out:s'.2=s.2++new
 len:s'.1.length=s.1.length
 nodup:new.Nodup
 visd : ∀x,0<=x->(vis s' x↔vis s x\/x∈new)
 fresh : ∀x∈new,¬vis s x/\0<=x/\x<m
 last : ∃t,new=t++[a]
 clos : ∀x∈new,∀y∈nx x,vis s' y
 par : ∀x∈new,x≠a->∃p∈new,x∈nx p/\Bef new x p
 desc : ∀x∈new,Adv nx new a x
 ret : ∀x∈new,∀y∈nx x,y∈new->Bef new y x\/Adv nx new y x
structure Half (nx:Int->List Int) (m:Nat) (a:Int) (k:Nat) (s s':List Bool × List Int) (new:List Int):Prop where
 out:s'.2=s.2++new
 len:s'.1.length=s.1.length
 nodup:new.Nodup
 visd : ∀x,0<=x->(vis s' x↔vis s x\/x=a\/x∈new)
 fresh : ∀x∈new,¬vis s x/\(0<=x/\x<m)/\x≠a
 clos : ∀x∈new,∀y∈nx x,vis s' y
 done : ∀j,j<k->vis s' (nth (nx a) j)
 par : ∀x∈new,x∈nx a\/∃p∈new,x∈nx p/\Bef new x p
 desc : ∀x∈new,∃b∈new,b∈nx a/\Adv nx new b x
 ret : ∀x∈new,∀y∈nx x,y∈new->Bef new y x\/Adv nx new y x
theorem xQ {nx:Int->List Int} {m:Nat} (hnx : ∀a:Int,0<=a->a<m->∀y∈nx a,0<=y/\y<m) : ∀(n:Nat) (a:Int) (s:List Bool × List Int),0<=a->a<m->s.1.length=m->nth s.1 a.toNat=false->dv s.1<=n->
  ∃new,Told nx m a s (jM nx n a s) new
 | 0,a,s,h0,h1,hl,hf,hc=>by exfalso;have:=jD (t:=s.1) (i:=a.toNat) (by omega) hf;omega
 | n+1,a,s,h0,h1,hl,hf,hc=>by
  have hfs:=jD (t:=s.1) (i:=a.toNat) (by omega) hf;rw[ko];have half : ∀k,k<=(nx a).length->∃new,Half nx m a k s (up (cL nx n a) k (s.1.set a.toNat true,s.2)) new/\dv (up (cL nx n a) k (s.1.set a.toNat true,s.2)).1<=n:=by
   intro k;induction k with
   | zero=>
    intro _;refine⟨[],⟨by simp[up],by simp[up],by simp,fun x hx=>?_,by simp,by simp,by simp,by simp,by simp,by simp⟩,by simp only[up];omega⟩;unfold vis;show nth (s.1.set a.toNat true) x.toNat=true↔_;rcases LI x.toNat s.1.length with hlt | hge
    ·rw[aF hlt];split
     ·rename_i e;have:x=a:=by omega
      simp[this]
     rename_i e;have:x≠a:=fun h=>e (by rw[h]);simp[this]
    rw[cB (by simpa using hge),cB hge];have:x≠a:=by omega
    simp[this]
   | succ k ih=>
    intro hk;obtain⟨new,H,hcn⟩:=ih (by omega);rw[up];generalize up (cL nx n a) k (s.1.set a.toNat true,s.2)=z at H hcn;have hb:=hnx a h0 h1 (nth (nx a) k) (bc (by omega));have hbm:nth (nx a) k∈nx a:=bc (by omega);have hzl:z.1.length=m:=H.len.trans hl;rw[cL];split
    ·rename_i hv;refine⟨new,{ H with done:=fun j hj=>?_ },hcn⟩;rcases LI j k with h | h
     ·exact H.done j h
     obtain rfl:j=k:=by omega
     exact hv
    rename_i hv;obtain⟨new',T⟩:=xQ hnx n (nth (nx a) k) z hb.1 hb.2 hzl (by simpa using hv) hcn;have hkeep:=(oA (nx:=nx) (m:=m) (c:=n) n (nth (nx a) k) z ⟨hzl,hcn⟩).2;generalize jM nx n (nth (nx a) k) z=z' at T hkeep;obtain⟨t,ht⟩:=T.last;have hbn:nth (nx a) k∈new':=by rw[ht];simp
    have up : ∀y,0<=y->vis z y->vis z' y:=fun y hy h=>(T.visd y hy).2 (.inl h);have hnv : ∀x∈new,vis z x:=fun x hx=>(H.visd x (H.fresh x hx).2.1.1).2 (.inr (.inr hx))
    refine⟨new++new',⟨?_,?_,?_,?_,?_,?_,?_,?_,?_,?_⟩,hkeep⟩
    ·rw[T.out,H.out,L5]
    ·rw[T.len,H.len]
    ·exact Nq.2 ⟨H.nodup,T.nodup,fun x hx y hy e=>by subst e;exact(T.fresh x hy).1 (hnv x hx)⟩
    ·intro x hx;rw[T.visd x hx,H.visd x hx,LP];constructor
     ·rintro((h | h | h) | h)
      ·exact .inl h
      ·exact .inr (.inl h)
      ·exact .inr (.inr (.inl h))
      exact .inr (.inr (.inr h))
     rintro(h | h | h | h)
     ·exact .inl (.inl h)
     ·exact .inl (.inr (.inl h))
     ·exact .inl (.inr (.inr h))
     exact .inr h
    ·intro x hx;rcases LP.1 hx with hx | hx
     ·exact H.fresh x hx
     obtain⟨g1,g2⟩:=T.fresh x hx;refine⟨fun h=>g1 ((H.visd x g2.1).2 (.inl h)),g2,fun e=>g1 ((H.visd x g2.1).2 (.inr (.inl e)))⟩
    ·intro x hx y hy;rcases LP.1 hx with hx | hx
     ·have hxr:=(H.fresh x hx).2.1;exact up y (hnx x hxr.1 hxr.2 y hy).1 (H.clos x hx y hy)
     exact T.clos x hx y hy
    ·intro j hj;rcases LI j k with h | h
     ·exact up _ (hnx a h0 h1 _ (bc (by omega))).1 (H.done j h)
     obtain rfl:j=k:=by omega
     exact(T.visd _ hb.1).2 (.inr hbn)
    ·intro x hx;rcases LP.1 hx with hx | hx
     ·rcases H.par x hx with h | ⟨p,hp,h2,h3⟩
      ·exact .inl h
      exact .inr ⟨p,Ng _ hp,h2,h3.app _⟩
     by_cases e:x=nth (nx a) k
     ·exact .inl (e▸hbm)
     obtain⟨p,hp,h2,h3⟩:=T.par x hx e;exact .inr ⟨p,M5 _ hp,h2,h3.pre _⟩
    ·intro x hx;rcases LP.1 hx with hx | hx
     ·obtain⟨b,hb,h2,h3⟩:=H.desc x hx;exact⟨b,Ng _ hb,h2,h3.app _⟩
     exact⟨_,M5 _ hbn,hbm,(T.desc x hx).pre _⟩
    intro x hx y hy hyn;rcases LP.1 hx with hx | hx<;>rcases LP.1 hyn with hyn | hyn
    ·exact(H.ret x hx y hy hyn).imp (·.app _) (·.app _)
    ·exact absurd (H.clos x hx y hy) (T.fresh y hyn).1
    ·exact .inl (Bef.CT hyn hx)
    exact(T.ret x hx y hy hyn).imp (·.pre _) (·.pre _)
  obtain⟨new,H,hcn⟩:=half (nx a).length (LG _);generalize up (cL nx n a) (nx a).length (s.1.set a.toNat true,s.2)=z at H hcn;have hda : ∀y∈nx a,vis z y:=by intro y hy;obtain⟨j,hj,rfl⟩:=LQ hy;have:=H.done j hj;rwa [ak hj]at this
  have hadv : ∀x∈new,Adv nx (new++[a]) a x:=by intro x hx;obtain⟨b,hb,h2,h3⟩:=H.desc x hx;exact(Adv.step .self h2 (Bef.CT hb (by simp))).trans (h3.app _)
  refine⟨new++[a],⟨?_,H.len,?_,?_,?_,⟨new,rfl⟩,?_,?_,?_,?_⟩⟩
  ·simp only[H.out,L5]
  ·refine Nq.2 ⟨H.nodup,by simp,fun x hx y hy e=>?_⟩;simp only[LM]at hy;exact(H.fresh x hx).2.2 (e.trans hy)
  ·intro x hx;show nth z.1 x.toNat=true↔_;have:=H.visd x hx;unfold vis at this ⊢;rw[this];simp only[LP,LM];constructor
   ·rintro(h | h | h)
    ·exact .inl h
    ·exact .inr (.inr h)
    exact .inr (.inl h)
   rintro(h | h | h)
   ·exact .inl h
   ·exact .inr (.inr h)
   exact .inr (.inl h)
  ·intro x hx;rcases LP.1 hx with hx | hx
   ·exact⟨(H.fresh x hx).1,(H.fresh x hx).2.1⟩
   simp only[LM]at hx;subst hx;exact⟨by unfold vis;rw[hf];simp,h0,h1⟩
  ·intro x hx y hy;rcases LP.1 hx with hx | hx
   ·exact H.clos x hx y hy
   simp only[LM]at hx;subst hx;exact hda y hy
  ·intro x hx hne;rcases LP.1 hx with hx | hx
   ·rcases H.par x hx with h | ⟨p,hp,h2,h3⟩
    ·exact⟨a,by simp,h,Bef.CT hx (by simp)⟩
    exact⟨p,Ng _ hp,h2,h3.app _⟩
   simp only[LM]at hx;exact absurd hx hne
  ·intro x hx;rcases LP.1 hx with hx | hx
   ·exact hadv x hx
   simp only[LM]at hx;subst hx;exact .self
  intro x hx y hy hyn;rcases LP.1 hyn with hn | hn
  ·rcases LP.1 hx with hx | hx
   ·exact(H.ret x hx y hy hn).imp (·.app _) (·.app _)
   simp only[LM]at hx;subst hx;exact .inl (Bef.CT hn (by simp))
  simp only[LM]at hn;subst hn;rcases LP.1 hx with hx | hx
  ·exact .inr (hadv x hx)
  simp only[LM]at hx;subst hx;exact .inr .self
end Go.Proofs.YtbkdlhkoiagbbaaGreat
namespace Go.Proofs.YtbkdlhkoiagbbaaGreat.Chk
inductive Anc (o:Nat->Nat) (x:Nat):Nat->Prop
 | self:Anc o x x
 | up {b:Nat}:b≠0->Anc o x (o b)->Anc o x b
theorem qO{o:Nat->Nat}{x:Nat}:Anc o x 0↔x=0:=by
 constructor
 ·intro h;cases h with
  | self=>rfl
  | up h _=>exact absurd rfl h
 rintro rfl;exact .self
variable{b:Nat}
theorem nP{o:Nat->Nat}{x:Nat}(hb:b≠0):Anc o x b↔x=b\/Anc o x (o b):=by
 constructor
 ·intro h;cases h with
  | self=>exact .inl rfl
  | up _ h=>exact .inr h
 rintro(rfl | h)
 ·exact .self
 exact .up hb h
theorem Anc.trans{o:Nat->Nat}{x y:Nat}(h:Anc o x y)(k:Anc o y b):Anc o x b:=by
 induction k with
 | self=>exact h
 | up hb _ ih=>exact .up hb ih
theorem Anc.total{o:Nat->Nat}{x y:Nat}(h:Anc o x b)(k:Anc o y b):Anc o x y\/Anc o y x:=by
 induction h with
 | self=>exact .inr k
 | up hb h ih=>
  cases k with
  | self=>exact .inl (.up hb h)
  | up _ k=>exact ih k
structure Ch (R:Nat->Prop) (r:Nat->Nat) (E:Nat->Nat->Prop) (f:Nat->Nat) (D:Nat->Nat->Prop):Prop where
 inj : ∀a b,R a->R b->r a=r b->a=b
 R0:R 0
 r0:r 0=0
 hf : ∀x,R x->x≠0->R (f x)/\E (f x) x/\r (f x)<r x
 d1 : ∀d b a,D d b->d≠b->E a b->R a->D d a
 d0 : ∀d,D d 0->d=0
def Ok (Pr:Nat->Prop) (x:Nat):Prop:=x=0\/Pr x
structure Inv (R:Nat->Prop) (r:Nat->Nat) (E:Nat->Nat->Prop) (f:Nat->Nat) (D:Nat->Nat->Prop) (k:Nat) (o:Nat->Nat) (Pr:Nat->Prop):Prop where
 pr : ∀b,Pr b->R b/\b≠0/\Ok Pr (o b)/\r (o b)<r b
 all : ∀b,R b->b≠0->r b<k->Pr b
 fok : ∀b,Pr b->Ok Pr (f b)
 K : ∀b,Pr b->∀x,(∀a,E a b->R a->Ok Pr a->Anc o x a)->Anc o x (o b)
 FP : ∀b,Pr b->∀y,Anc o y (o b)->k<=r y->Anc o y (f b)
 FP2 : ∀b,Pr b->r b<k->Anc o (o b) (f b)
 S : ∀b,Pr b->∀d,D d b->d≠b->Anc o d (o b)
section
variable {R:Nat->Prop} {r:Nat->Nat} {E:Nat->Nat->Prop} {f:Nat->Nat} {D:Nat->Nat->Prop} {k:Nat} {o:Nat->Nat} {Pr:Nat->Prop}
theorem Inv.okR(I:Inv R r E f D k o Pr)(C:Ch R r E f D){x:Nat}(h:Ok Pr x):R x:=by
 rcases h with rfl | h
 ·exact C.R0
 exact(I.pr x h).1
theorem Inv.anc(I:Inv R r E f D k o Pr){x:Nat}(h:Anc o x b):Ok Pr b->Ok Pr x/\(x=b\/r x<r b):=by
 induction h with
 | self=>exact fun hb=>⟨hb,.inl rfl⟩
 | up hb _ ih=>
  intro hok;rcases hok with rfl | hp
  ·exact absurd rfl hb
  obtain⟨_,_,h3,h4⟩:=I.pr _ hp;obtain⟨h5,h6⟩:=ih h3;refine⟨h5,.inr ?_⟩;rcases h6 with rfl | h6
  ·exact h4
  omega
theorem Inv.dom(I:Inv R r E f D k o Pr)(C:Ch R r E f D){d:Nat}(hb:Ok Pr b)(h:D d b):Anc o d b:=by
 by_cases e:d=b
 ·subst e;exact .self
 rcases hb with rfl | hb
 ·exact absurd (C.d0 d h) e
 exact .up (I.pr b hb).2.1 (I.S b hb d h e)
def upd (o:Nat->Nat) (c q:Nat):Nat->Nat:=fun b=>if b=c then q else o b
def add (Pr:Nat->Prop) (c:Nat):Nat->Prop:=fun b=>b=c\/Pr b
theorem jY{c q x:Nat}(h:¬Anc o c b):Anc (upd o c q) x b↔Anc o x b:=by
 constructor
 ·intro k;induction k with
  | self=>exact .self
  | up hb k ih=>
   rename_i b;have hne:b≠c:=fun e=>h (e▸.self);have e:upd o c q b=o b:=by unfold upd;rw[if_neg hne]
   rw[e]at ih k;exact .up hb (ih fun hc=>h (.up hb hc))
 intro k;induction k with
 | self=>exact .self
 | up hb k ih=>
  rename_i b;have hne:b≠c:=fun e=>h (e▸.self);have e:upd o c q b=o b:=by unfold upd;rw[if_neg hne]
  exact .up hb (by rw[e];exact ih fun hc=>h (.up hb hc))
theorem JG{c q x:Nat}(hc:c≠0)(hq:¬Anc o c q):Anc (upd o c q) x c↔x=c\/Anc o x q:=by rw[nP hc,show upd o c q c=q by simp[upd],jY hq]
theorem Inv.HX(I:Inv R r E f D k o Pr){x y:Nat}(hx:Ok Pr x)(hy:Ok Pr y)(h1:Anc o x y)(h2:Anc o y x):x=y:=by have e1:=(I.anc h1 hy).2;have e2:=(I.anc h2 hx).2;omega
theorem Inv.below(I:Inv R r E f D k o Pr){c q x:Nat}(hpc:Pr c)(hq:¬Anc o c q)(h:Anc o c b):Ok Pr b->(Anc (upd o c q) x b↔(Anc o x b/\Anc o c x)\/Anc o x q):=by
 have hc:=(I.pr c hpc).2.1;induction h with
 | self=>
  intro hb;rw[JG hc hq];constructor
  ·rintro(rfl | h)
   ·exact .inl ⟨.self,.self⟩
   exact .inr h
  rintro(⟨h1,h2⟩ | h)
  ·exact .inl (I.HX (I.anc h1 hb).1 hb h1 h2)
  exact .inr h
 | up hb h ih=>
  rename_i b;intro hok;have hpb:Pr b:=hok.resolve_left hb;obtain⟨_,_,h3,h4⟩:=I.pr b hpb;have hne:b≠c:=fun e=>by
   subst e;rcases(I.anc h h3).2 with e | e
   ·rw[<-e]at h4;omega
   omega
  have e:upd o c q b=o b:=by unfold upd;rw[if_neg hne]
  rw[nP hb,e,ih h3,nP hb];constructor
  ·rintro(rfl | ⟨h1,h2⟩ | h1)
   ·exact .inl ⟨.inl rfl,.up hb h⟩
   ·exact .inl ⟨.inr h1,h2⟩
   exact .inr h1
  rintro(⟨rfl | h1,h2⟩ | h1)
  ·exact .inl rfl
  ·exact .inr (.inl ⟨h1,h2⟩)
  exact .inr (.inr h1)
structure Turn (R:Nat->Prop) (r:Nat->Nat) (E:Nat->Nat->Prop) (o:Nat->Nat) (Pr:Nat->Prop) (c q:Nat):Prop where
 ok:Ok Pr q
 q : ∀x,Anc o x q↔∀a,E a c->R a->Ok Pr a->Anc o x a
theorem Inv.fc(I:Inv R r E f D k o Pr)(C:Ch R r E f D){c:Nat}(hR:R c)(hc:c≠0)(hk:r c=k):Ok Pr (f c):=by
 obtain⟨h1,_,h3⟩:=C.hf c hR hc;by_cases e:f c=0
 ·exact .inl e
 exact .inr (I.all _ h1 e (by omega))
theorem Turn.lt{c q:Nat}(T:Turn R r E o Pr c q)(I:Inv R r E f D k o Pr)(C:Ch R r E f D)(hR:R c)(hc:c≠0)(hk:r c=k):r q<r c/\Anc o q (f c):=by
 obtain⟨h1,h2,h3⟩:=C.hf c hR hc;have h4:=(T.q q).1 .self (f c) h2 h1 (I.fc C hR hc hk);have:=(I.anc h4 (I.fc C hR hc hk)).2;refine⟨?_,h4⟩;rcases this with e | e
 ·rw[e];exact h3
 omega
theorem Inv.turn(I:Inv R r E f D k o Pr)(C:Ch R r E f D){c q:Nat}(hR:R c)(hc:c≠0)(hk:r c=k)(T:Turn R r E o Pr c q):Inv R r E f D (k+1) (upd o c q) (add Pr c):=by
 obtain⟨f1,f2,f3⟩:=C.hf c hR hc;have hfok:=I.fc C hR hc hk;obtain⟨hlt,hqf⟩:=T.lt I C hR hc hk;have hq:¬Anc o c q:=fun h=>by
  have:=(I.anc h T.ok).2;rcases this with e | e
  ·rw[e]at hlt;omega
  omega
 have hcf:¬Anc o c (f c):=fun h=>by
  have:=(I.anc h hfok).2;rcases this with e | e
  ·rw[<-e]at f3;omega
  omega
 have okm : ∀x,Ok Pr x->Ok (add Pr c) x:=fun x h=>h.imp id .inr;have up_ne : ∀b,b≠c->upd o c q b=o b:=fun b hb=>by unfold upd;rw[if_neg hb]
 have up_c:upd o c q c=q:=by simp[upd]
 have hpc : ∀b,Ok Pr b->Anc o c b->Pr c:=fun b hb h=>((I.anc h hb).1).resolve_left hc;have mono : ∀b,Ok Pr b->∀x,Anc (upd o c q) x b->Anc o x b:=by
  intro b hb x h;by_cases hcb:Anc o c b
  ·have hp:=hpc b hb hcb;rcases(I.below hp hq hcb hb).1 h with⟨h1,_⟩ | h1
   ·exact h1
   exact(Anc.up hc (I.K c hp x ((T.q x).1 h1))).trans hcb
  exact(jY hcb).1 h
 have stay : ∀b,Ok Pr b->∀x,Anc o x b->(Anc o c b->Anc o c x\/Anc o x q)->Anc (upd o c q) x b:=by
  intro b hb x h h2;by_cases hcb:Anc o c b
  ·refine(I.below (hpc b hb hcb) hq hcb hb).2 ?_;rcases h2 hcb with h3 | h3
   ·exact .inl ⟨h,h3⟩
   exact .inr h3
  exact(jY hcb).2 h
 have domc : ∀n b,r b<=n->Ok Pr b->Anc o c b->∀d,D d b->r d<r c->D d c:=by
  intro n;induction n with
  | zero=>
   intro b hb hok hcb d hd hlt;have:=(I.anc hcb hok).2;rcases this with rfl | h
   ·exact hd
   omega
  | succ n ih=>
   intro b hb hok hcb d hd hlt;by_cases e:c=b
   ·subst e;exact hd
   have hb0:b≠0:=fun e0=>by subst e0;exact e (qO.1 hcb)
   have hpb:=hok.resolve_left hb0;have hcb':Anc o c (o b):=((nP hb0).1 hcb).resolve_left e;obtain⟨g1,g2,g3⟩:=C.hf b (I.pr b hpb).1 hb0;have hlb:=(I.anc hcb hok).2;have hdb:d≠b:=fun e2=>by subst e2;omega
   exact ih (f b) (by omega) (I.fok b hpb) (I.FP b hpb c hcb' (by omega)) d (C.d1 d b (f b) hd hdb g2 g1) hlt
 have domq : ∀d,D d c->d≠c->Anc o d q:=by intro d hd hne;refine(T.q d).2 fun a ha hRa hoka=>?_;exact I.dom C hoka (C.d1 d c a hd hne ha hRa)
 refine⟨?_,?_,?_,?_,?_,?_,?_⟩
 ·rintro b (rfl | hb)
  ·rw[up_c];exact⟨hR,hc,okm _ T.ok,hlt⟩
  by_cases e:b=c
  ·subst e;rw[up_c];exact⟨hR,hc,okm _ T.ok,hlt⟩
  rw[up_ne b e];obtain⟨h1,h2,h3,h4⟩:=I.pr b hb;exact⟨h1,h2,okm _ h3,h4⟩
 ·intro b hRb hb0 hlt;by_cases e:r b=k
  ·exact .inl (C.inj b c hRb hR (by omega))
  exact .inr (I.all b hRb hb0 (by omega))
 ·rintro b (rfl | hb)
  ·exact okm _ hfok
  exact okm _ (I.fok b hb)
 ·intro b hb x hx;have hx' : ∀a,E a b->R a->Ok Pr a->Anc o x a:=fun a h1 h2 h3=>mono a h3 x (hx a h1 h2 (okm a h3));by_cases e:b=c
  ·subst e;rw[up_c,jY hq];exact(T.q x).2 hx'
  have hpb:Pr b:=hb.resolve_left e;rw[up_ne b e];obtain⟨h1,h2,h3,h4⟩:=I.pr b hpb;have hxo:=I.K b hpb x hx';refine stay (o b) h3 x hxo fun hco=>?_;rcases Anc.total hxo hco with h5 | h5
  ·obtain⟨g1,g2,g3⟩:=C.hf b h1 h2;have hcf2:=I.FP b hpb c hco (by omega);have hxf:=hx (f b) g2 g1 (okm _ (I.fok b hpb));rcases(I.below (hpc _ h3 hco) hq hcf2 (I.fok b hpb)).1 hxf with⟨_,h6⟩ | h6
   ·exact .inl h6
   exact .inr h6
  exact .inl h5
 ·intro b hb y hy hky;by_cases e:b=c
  ·subst e;rw[up_c,jY hq]at hy;exact(jY hcf).2 (hy.trans hqf)
  have hpb:Pr b:=hb.resolve_left e;rw[up_ne b e]at hy;obtain⟨h1,h2,h3,h4⟩:=I.pr b hpb;have hyf:=I.FP b hpb y (mono _ h3 y hy) (by omega);refine stay (f b) (I.fok b hpb) y hyf fun hcf2=>?_;rcases Anc.total hyf hcf2 with h5 | h5
  ·exfalso;have:=(I.anc h5 (.inr (hpc _ (I.fok b hpb) hcf2))).2;rcases this with e2 | e2
   ·subst e2;omega
   omega
  exact .inl h5
 ·intro b hb hlt;by_cases e:b=c
  ·subst e;rw[up_c];exact(jY hcf).2 hqf
  have hpb:Pr b:=hb.resolve_left e;rw[up_ne b e];obtain⟨h1,h2,h3,h4⟩:=I.pr b hpb;obtain⟨g1,g2,g3⟩:=C.hf b h1 h2;have hbk:r b<k:=by
   rcases LI (r b) k with h | h
   ·exact h
   exact absurd (C.inj b c h1 hR (by omega)) e
  have h5:=I.FP2 b hpb hbk;refine(jY fun hcf2=>?_).2 h5;have:=(I.anc hcf2 (I.fok b hpb)).2;rcases this with e2 | e2
  ·rw[<-e2]at g3;omega
  omega
 intro b hb d hd hne;by_cases e:b=c
 ·subst e;rw[up_c,jY hq];exact domq d hd hne
 have hpb:Pr b:=hb.resolve_left e;rw[up_ne b e];obtain⟨h1,h2,h3,h4⟩:=I.pr b hpb;have hdo:=I.S b hpb d hd hne;refine stay (o b) h3 d hdo fun hco=>?_;rcases Anc.total hdo hco with h5 | h5
 ·have hpcc:=hpc _ h3 hco;rcases(I.anc h5 (.inr hpcc)).2 with e2 | e2
  ·subst e2;exact .inl .self
  exact .inr (domq d (domc (r b) b (LG _) (.inr hpb) (.up h2 hco) d hd e2) fun e3=>by subst e3;omega)
 exact .inl h5
theorem Inv.again(I:Inv R r E f D k o Pr)(hk : ∀b,R b->r b<k):Inv R r E f D 0 o Pr:=by refine⟨I.pr,fun b hR h0 h=>I.all b hR h0 (hk b hR),I.fok,I.K,fun b hb y hy _=>?_,fun b _ h=>absurd h (by omega),I.S⟩;exact hy.trans (I.FP2 b hb (hk b (I.pr b hb).1))
theorem Inv.start:Inv R r E f D 0 o (fun _=>False):=
 ⟨fun _ h=>h.elim,fun _ _ _ h=>absurd h (by omega),fun _ h=>h.elim,fun _ h=>h.elim,fun _ h=>h.elim,fun _ h=>h.elim,fun _ h=>h.elim⟩
theorem Inv.Ke(I:Inv R r E f D k o Pr){c q:Nat}(T:Turn R r E o Pr c q)(hp:Pr c):q=o c\/r q<r (o c):=by have:=I.K c hp q ((T.q q).1 .self);exact(I.anc this (I.pr c hp).2.2.1).2
end
end Go.Proofs.YtbkdlhkoiagbbaaGreat.Chk
namespace Go.Proofs.YtbkdlhkoiagbbaaGreat
open Go Go.Lft
section
open Go Go.Lft Chk
variable{n:Nat}
theorem FV{β:Type}{f k:Nat->β->β}(I:β->Prop)(h : ∀i x,i<n->I x->f i x=k i x)(hI : ∀i x,i<n->I x->I (f i x)){x:β}(hx:I x):up f n x=up k n x:=by
 have key : ∀m,m<=n->up f m x=up k m x/\I (up f m x):=by
  intro m;induction m with
  | zero=>exact fun _=>⟨rfl,hx⟩
  | succ m ih=>intro hm;obtain⟨h1,h2⟩:=ih (by omega);exact⟨by rw[up,up,<-h1,h m _ (by omega) h2],hI _ _ (by omega) h2⟩
 exact(key n (LG _)).1
theorem tL {nx nx':Int->List Int} {m:Nat} (hnx : ∀a:Int,0<=a->a<m->nx a=nx' a/\∀y∈nx a,0<=y/\y<m) : ∀(n:Nat) (a:Int) (s:List Bool × List Int),0<=a->a<m->jM nx n a s=jM nx' n a s
 | 0,_,_,_,_=>rfl
 | n+1,a,s,h0,h1=>by
  obtain⟨e,hr⟩:=hnx a h0 h1;rw[ko,ko,<-e];have:up (cL nx n a) (nx a).length (s.1.set a.toNat true,s.2)=up (cL nx' n a) (nx a).length (s.1.set a.toNat true,s.2):=by refine FV (fun _=>True) (fun i x hi _=>?_) (fun _ _ _ _=>trivial) trivial;unfold cL;rw[<-e];obtain⟨g0,g1⟩:=hr _ (bc hi);rw[tL hnx n _ x g0 g1]
  rw[this]
theorem yf{g:Gr}{a y:Int}(h:y∈dC g a):0<=y/\y<g.length:=by have:=(fl.1 (gg.1 h)).1;omega
theorem Cy{g:Gr}{a:Int}(h0:0<=a)(h1:a<g.length):nx (cN g) a=dC g a:=by unfold nx;rw[lP (by omega),LX h0]
theorem F5{g:Gr}:a8 g=lj (dC g) g.length:=by
 unfold a8 lj;split
 ·rfl
 rw[tL (m:=g.length) (fun a h0 h1=>⟨Cy h0 h1,fun y hy=>yf (by rwa [Cy h0 h1]at hy)⟩) _ _ _ (by omega) (by omega)]
structure Ord (g:Gr) (order:List Int):Prop where
 nodup:order.Nodup
 mem : ∀x:Nat,(x:Int)∈order↔Re g (-1) x
 rng : ∀x∈order,0<=x/\x<g.length
 head:order[0]? = some 0
 par : ∀x∈order,x≠0->∃p∈order,eH g p x=true/\order.idxOf p<order.idxOf x
 ret : ∀x∈order,∀y∈order,eH g x y=true->order.idxOf y<=order.idxOf x->∃l,Adv (dC g) l y x/\∀u v,Bef l u v->order.idxOf v<order.idxOf u
theorem rZ{l:List Int}(hn:l.Nodup){u v:Int}(h:Bef l u v):l.reverse.idxOf v<l.reverse.idxOf u:=by
 obtain⟨p,q,rfl,hv⟩:=h;have hu:u∉q:=by have:=(Nq.1 hn).2.1;exact(OD.1 this).1
 rw[List.reverse_append,List.reverse_cons,L5];have h1:(q.reverse++([u]++p.reverse)).idxOf v<q.reverse.length:=by rw[Oq,if_pos (by simpa using hv)];exact OG (by simpa using hv)
 have h2:(q.reverse++([u]++p.reverse)).idxOf u=q.reverse.length:=by rw[Oq,if_neg (by simpa using hu)];simp
 omega
theorem jS{g:Gr}(hg:0<g.length):Ord g (a8 g):=by
 have hT:=xQ (nx:=dC g) (m:=g.length) (fun a _ _ y hy=>yf hy) g.length 0 (List.replicate g.length false,[]) (by omega) (by omega) (by simp) (aA (by simpa using hg)) (by simp[dv]);have ho:a8 g=(jM (dC g) g.length 0 (List.replicate g.length false,[])).2.reverse:=by rw[F5,lj,if_neg (by omega)]
 obtain⟨new,T⟩:=hT;have hout:=T.out;simp only[MB]at hout;rw[ho,hout];have hv0 : ∀x:Int,¬vis (List.replicate g.length false,([]:List Int)) x:=by
  intro x h;unfold vis at h;simp only at h;rcases LI x.toNat g.length with h1 | h1
  ·rw[aA h1]at h;cases h
  rw[cB (by simpa using h1)]at h;cases h
 have hvis : ∀x,0<=x->(vis (jM (dC g) g.length 0 (List.replicate g.length false,[])) x↔x∈new):=fun x hx=>by rw[T.visd x hx];exact⟨fun h=>h.resolve_left (hv0 x),.inr⟩
 obtain⟨t,ht⟩:=T.last;have h0:(0:Int)∈new:=by rw[ht];simp
 have hre : ∀x∈new,Re g (-1) x.toNat:=by
  intro x hx;have:=T.desc x hx;clear hx;induction this with
  | self=>exact .root hg (by decide)
  | step _ h1 h2 ih=>have hpr:=T.fresh _ h2.mem.2;have hqr:=T.fresh _ h2.mem.1;have he:=gg.1 h1;refine .step ih ?_ (by omega);rwa [LX hpr.2.1,LX hqr.2.1]
 refine⟨by simpa[List.Nodup,List.pairwise_reverse,ne_comm]using T.nodup,fun x=>?_,fun x hx=>(T.fresh x (by simpa using hx)).2,?_,?_,?_⟩
 ·rw[List.mem_reverse];constructor
  ·intro h;simpa using hre x h
  intro h;induction h with
  | root _ _=>exact h0
  | step _ he _ ih=>exact(hvis _ (by omega)).1 (T.clos _ ih _ (gg.2 he))
 ·rw[ht,List.reverse_append];rfl
 ·intro x hx hne;obtain⟨p,hp,h1,h2⟩:=T.par x (by simpa using hx) hne;exact⟨p,by simpa using hp,gg.1 h1,rZ T.nodup h2⟩
 intro x hx y hy he hle;rcases T.ret x (by simpa using hx) y (gg.2 he) (by simpa using hy)with h | h
 ·have:=rZ T.nodup h;omega
 exact⟨new,h,fun u v huv=>rZ T.nodup huv⟩
theorem tq{order:List Int}(hn:order.Nodup)(hr : ∀x∈order,0<=x/\x<(n:Int)){x:Nat}(hx:x<n):nth (gh n order) x=if(x:Int)∈order then(order.idxOf (x:Int):Int) else -1:=by
 have key : ∀k,k<=order.length->(up (fun i l=>l.set (nth order i).toNat (i:Int)) k (List.replicate n (-1))).length=n/\nth (up (fun i l=>l.set (nth order i).toNat (i:Int)) k (List.replicate n (-1))) x=if(x:Int)∈order.take k then(order.idxOf (x:Int):Int) else -1:=by
  intro k;induction k with
  | zero=>intro _;exact⟨by simp[up],by rw[up,aA hx];simp⟩
  | succ k ih=>
   intro hk;obtain⟨h1,h2⟩:=ih (by omega);rw[up];refine⟨by simpa using h1,?_⟩;rw[aF (by omega),L8 (by omega),h2];have hmem:order[k]∈order:=MD _;have hrk:=hr _ hmem;rw[ak (show k<order.length by omega)];by_cases e:order[k].toNat=x
   ·have e2:order[k]=(x:Int):=by omega
    rw[if_pos e,if_pos (by rw[<-e2];exact M5 _ (LM.2 rfl)),<-e2,NV hn]
   rw[if_neg e];have e2:¬(x:Int)=order[k]:=fun h=>e (by omega);simp only[LP,LM,e2,or_false]
 have:=(key order.length (LG _)).2;rw[LV (LG _)]at this;exact this
end
section
open Go Go.Lft Chk
def st (out:List Int):Nat->Nat:=fun b=>(nth out b).toNat
def pd (out:List Int):Nat->Prop:=fun b=>b<out.length/\0<=nth out b
def rk (g:Gr) (x:Nat):Nat:=(a8 g).idxOf (x:Int)
def Eg (g:Gr) (a b:Nat):Prop:=eH g a b=true
def Dm (g:Gr) (d b:Nat):Prop:=domC g d b=true
def Rg (g:Gr) (x:Nat):Prop:=Re g (-1) x
section
variable {g:Gr}
theorem C8{x:Nat}(h:Rg g x):rk g x<(a8 g).length:=OG (((jS (Nat.lt_of_le_of_lt (NA _) h.lt)).mem x).2 h)
theorem Rg.pos{x:Nat}(h:Rg g x):0<g.length:=Nat.lt_of_le_of_lt (NA _) h.lt
theorem Ih{x:Nat}(h:Rg g x):rk g x<g.length:=OJ (C8 h) qe
variable{b:Nat}
theorem Cg{a:Nat}(ha:Rg g a)(hb:Rg g b)(h:rk g a=rk g b):a=b:=by
 have O:=jS ha.pos;have h1:=NO (C8 ha);have h2:=NO (C8 hb);have:(a:Int)=(b:Int):=by rw[<-h1,<-h2];congr 1
 omega
theorem uA(hg:0<g.length):rk g 0=0:=by
 have O:=jS hg;unfold rk;have hl:0<(a8 g).length:=by
  have:=O.head;rcases N2 (a8 g).length with h | h
  ·rw[LO h]at this;cases this
  exact h
 have h0:=O.head;rw[List.getElem?_eq_getElem hl]at h0;have h1:(a8 g)[0]=0:=Option.some.inj h0;have:=NV O.nodup 0 hl;rw[h1]at this;exact this
theorem rU{x:Nat}(h:Rg g x):nth (gh g.length (a8 g)) x=(rk g x:Int):=by have O:=jS h.pos;rw[tq O.nodup O.rng h.lt,if_pos ((O.mem x).2 h)];rfl
theorem BG{x:Nat}(hx:x<g.length)(h:¬Rg g x):nth (gh g.length (a8 g)) x=-1:=by have O:=jS (g:=g) (by omega);rw[tq O.nodup O.rng hx,if_neg fun e=>h ((O.mem x).1 e)]
theorem HB(hg:0<g.length): ∃f:Nat->Nat,∀x,Rg g x->x≠0->Rg g (f x)/\Eg g (f x) x/\rk g (f x)<rk g x:=by
 have O:=jS hg;have : ∀x,∃p,Rg g x->x≠0->Rg g p/\Eg g p x/\rk g p<rk g x:=by
  intro x;by_cases h:Rg g x/\x≠0
  ·obtain⟨p,hp,h1,h2⟩:=O.par x ((O.mem x).2 h.1) (by omega);have hr:=O.rng p hp;have e:((p.toNat:Nat):Int)=p:=LX hr.1;refine⟨p.toNat,fun _ _=>⟨(O.mem _).1 (by rw[e];exact hp),by unfold Eg;rw[e];exact h1,by unfold rk;rw[e];exact h2⟩⟩
  exact⟨0,fun h1 h2=>absurd ⟨h1,h2⟩ h⟩
 exact⟨fun x=>(this x).choose,fun x=>(this x).choose_spec⟩
theorem KG(hg:0<g.length){f:Nat->Nat}(hf : ∀x,Rg g x->x≠0->Rg g (f x)/\Eg g (f x) x/\rk g (f x)<rk g x):Ch (Rg g) (rk g) (Eg g) f (Dm g) where
 inj:=fun a b ha hb h=>Cg ha hb h
 R0:=.root hg (by decide)
 r0:=uA hg
 hf:=hf
 d1:=fun d b a hd hne he ha=>by
  obtain⟨h1,h2,h3⟩:=oH.1 hd
  exact oH.2 ⟨h1,ha,fun h=>h3 (.step h he (by omega))⟩
 d0:=fun d hd=>by
  obtain⟨h1,h2,h3⟩:=oH.1 hd
  rcases N2 d with h | h
  ·exact h
  ·exact absurd (.root hg (by omega)) h3
structure Good (g:Gr) (f:Nat->Nat) (k:Nat) (out:List Int):Prop where
 len:out.length=g.length
 rng : ∀b,b<g.length->nth out b=-1\/(0<=nth out b/\nth out b<g.length)
 inv:Inv (Rg g) (rk g) (Eg g) f (Dm g) k (st out) (pd out)
variable {f:Nat->Nat} {k:Nat} {out:List Int}
theorem Good.Aw(G:Good g f k out)(C:Ch (Rg g) (rk g) (Eg g) f (Dm g)){x:Nat}(h:Ok (pd out) x):Rg g x/\x<g.length:=⟨G.inv.okR C h,(G.inv.okR C h).lt⟩
theorem oD (G:Good g f k out) (C:Ch (Rg g) (rk g) (Eg g) f (Dm g)) : ∀(fuel a b:Nat),Ok (pd out) a->Ok (pd out) b->rk g a+rk g b<fuel->
  ∃c:Nat,kP out (gh g.length (a8 g)) fuel a b=some (c:Int)/\Ok (pd out) c/\∀x,Anc (st out) x c↔Anc (st out) x a/\Anc (st out) x b
 | 0,a,b,_,_,h=>by omega
 | fuel+1,a,b,ha,hb,h=>by
  obtain⟨ra,la⟩:=G.Aw C ha;obtain⟨rb,lb⟩:=G.Aw C hb;have hg:=ra.pos;have hnl:(gh g.length (a8 g)).length=g.length:=by rw[gh,yq List.length (fun _ _=>by simp)];simp
  have hol:=G.len;rw[kP,if_pos (by omega),LY,LY,rU ra,rU rb];have step : ∀a b:Nat,Ok (pd out) a->Ok (pd out) b->rk g b<rk g a->a≠0/\nth out a=((st out a:Nat):Int)/\Ok (pd out) (st out a)/\rk g (st out a)<rk g a/\∀x,Anc (st out) x (st out a)/\Anc (st out) x b↔Anc (st out) x a/\Anc (st out) x b:=by
   intro a b ha hb hlt;have ha0:a≠0:=fun e=>by subst e;rw[uA hg]at hlt;omega
   have hpa:=ha.resolve_left ha0;obtain⟨_,_,h3,h4⟩:=G.inv.pr a hpa;refine⟨ha0,(LX hpa.2).symm,h3,h4,fun x=>⟨fun⟨h5,h6⟩=>⟨.up ha0 h5,h6⟩,fun⟨h5,h6⟩=>⟨?_,h6⟩⟩⟩;rcases(nP ha0).1 h5 with rfl | h7
   ·have:=(G.inv.anc h6 hb).2;rcases this with e | e
    ·subst e;omega
    omega
   exact h7
  by_cases h1:rk g b<rk g a
  ·rw[if_pos (by omega)];obtain⟨ha0,e,h3,h4,h5⟩:=step a b ha hb h1;rw[e];obtain⟨c,h6,h7,h8⟩:=oD G C fuel (st out a) b h3 hb (by omega);exact⟨c,h6,h7,fun x=>(h8 x).trans (h5 x)⟩
  rw[if_neg (by omega)];by_cases h2:rk g a<rk g b
  ·rw[if_pos (by omega)];obtain⟨hb0,e,h3,h4,h5⟩:=step b a hb ha h2;rw[e];obtain⟨c,h6,h7,h8⟩:=oD G C fuel a (st out b) ha h3 (by omega);exact⟨c,h6,h7,fun x=>(h8 x).trans (by rw[and_comm,h5 x,and_comm])⟩
  rw[if_neg (by omega)];have e:a=b:=Cg ra rb (by omega);subst e;exact⟨a,rfl,ha,fun x=>by simp⟩
def Bst (out:List Int) (best:Int) (Q:Nat->Prop):Prop:=
 (best=-1/\∀a,¬Q a)\/∃c:Nat,best=(c:Int)/\Ok (pd out) c/\(∃a,Q a)/\∀x,Anc (st out) x c↔∀a,Q a->Anc (st out) x a
def Cons (g:Gr) (out:List Int) (a:Nat):Prop:=Rg g a/\Ok (pd out) a
theorem pL{best:Int}{Q Q':Nat->Prop}(h : ∀a,Q a↔Q' a)(b:Bst out best Q):Bst out best Q':=by have:Q=Q':=funext fun a=>propext (h a);rw[<-this];exact b
theorem rm (G:Good g f k out) (C:Ch (Rg g) (rk g) (Eg g) f (Dm g)) : ∀(l:List Int) (best:Int) (Q:Nat->Prop),Bst out best Q->(∀a∈l,0<=a/\a<(g.length:Int))->
  ∃best',bstS out (gh g.length (a8 g)) g.length l best=some best'/\Bst out best' fun a=>Q a\/((a:Int)∈l/\Cons g out a)
 | [],best,Q,hB,_=>⟨best,rfl,pL (fun a=>by simp) hB⟩
 | a::l,best,Q,hB,hl=>by
  obtain⟨h0,h1⟩:=hl a (LR ..);have hl':=fun x hx=>hl x (LS _ hx);obtain⟨n,rfl⟩:=Nr h0;have hn:n<g.length:=by omega
  have hol:=G.len;rw[bstS,if_pos ⟨h0,h1⟩,LY];have hcons:(nth (gh g.length (a8 g)) n<0\/((n:Int)≠0/\nth out n<0))↔¬Cons g out n:=by
   by_cases hr:Rg g n
   ·rw[rU hr];constructor
    ·rintro(h | ⟨h2,h3⟩)
     ·omega
     rintro⟨_,h4 | h4⟩
     ·omega
     have:=h4.2;omega
    intro h;right;refine⟨fun e=>h ⟨hr,.inl (by omega)⟩,?_⟩;rcases Int.lt_or_le (nth out n) 0 with h2 | h2
    ·exact h2
    exact absurd ⟨hr,.inr ⟨by omega,h2⟩⟩ h
   rw[BG hn hr];exact⟨fun _ h=>hr h.1,fun _=>.inl (by omega)⟩
  by_cases hc:Cons g out n
  ·rw[if_neg fun h=>hcons.1 h hc];rcases hB with⟨rfl,hQ⟩ | ⟨c,rfl,hok,hex,hq⟩
   ·rw[if_pos (by decide)];obtain⟨b',h2,h3⟩:=rm G C l n (fun a=>a=n) (.inr ⟨n,rfl,hc.2,⟨n,rfl⟩,fun x=>by simp⟩) hl';refine⟨b',h2,pL (fun a=>?_) h3⟩;constructor
    ·rintro(rfl | ⟨h4,h5⟩)
     ·exact .inr ⟨LR ..,hc⟩
     exact .inr ⟨LS _ h4,h5⟩
    rintro(h4 | ⟨h4,h5⟩)
    ·exact absurd h4 (hQ a)
    rcases L4.1 h4 with h4 | h4
    ·exact .inl (by omega)
    exact .inr ⟨h4,h5⟩
   rw[if_neg (by omega)];obtain⟨rc,_⟩:=G.Aw C hok;obtain⟨d,h2,h3,h4⟩:=oD G C (2*g.length+2) c n hok hc.2 (by have:=Ih rc;have:=Ih hc.1;omega);rw[h2];simp only[L3];obtain⟨b',h5,h6⟩:=rm G C l d (fun a=>Q a\/a=n) (.inr ⟨d,rfl,h3,⟨n,.inr rfl⟩,fun x=>by
    rw[h4,hq];constructor
    ·rintro⟨h7,h8⟩ a (ha | rfl)
     ·exact h7 a ha
     exact h8
    intro h7;exact⟨fun a ha=>h7 a (.inl ha),h7 n (.inr rfl)⟩⟩) hl';refine⟨b',h5,pL (fun a=>?_) h6⟩;constructor
   ·rintro((h7 | rfl) | ⟨h7,h8⟩)
    ·exact .inl h7
    ·exact .inr ⟨LR ..,hc⟩
    exact .inr ⟨LS _ h7,h8⟩
   rintro(h7 | ⟨h7,h8⟩)
   ·exact .inl (.inl h7)
   rcases L4.1 h7 with h7 | h7
   ·exact .inl (.inr (by omega))
   exact .inr ⟨h7,h8⟩
  rw[if_pos (hcons.2 hc)];obtain⟨b',h2,h3⟩:=rm G C l best Q hB hl';refine⟨b',h2,pL (fun a=>?_) h3⟩;constructor
  ·rintro(h4 | ⟨h4,h5⟩)
   ·exact .inl h4
   exact .inr ⟨LS _ h4,h5⟩
  rintro(h4 | ⟨h4,h5⟩)
  ·exact .inl h4
  rcases L4.1 h4 with h6 | h6
  ·exact absurd ((show a=n by omega)▸h5) hc
  exact .inr ⟨h6,h5⟩
theorem DB(G:Good g f k out)(C:Ch (Rg g) (rk g) (Eg g) f (Dm g)){c:Nat}(hR:Rg g c)(hc:c≠0)(hk:rk g c=k):
  ∃q:Nat,bstS out (gh g.length (a8 g)) g.length (nth (cO g) c) (-1)=some (q:Int)/\Turn (Rg g) (rk g) (Eg g) (st out) (pd out) c q:=by
 have hlt:=hR.lt;obtain⟨best,h1,h2⟩:=rm G C (nth (cO g) c) (-1) (fun _=>False) (.inl ⟨rfl,fun _ h=>h⟩) (sR (fun e he=>(nd he).1) (fun i x hx=>by
  rcases LI i g.length with hi | hi
  ·rw[aA hi]at hx;cases hx
  rw[cB (by simpa using hi)]at hx;cases hx) c);have hm : ∀a:Nat,(a:Int)∈nth (cO g) c↔Eg g a c:=fun a=>by have:=D1 (g:=g) (a:=a) (b:=c) ⟨by omega,by omega⟩;rwa [LY]at this
 obtain⟨f1,f2,f3⟩:=C.hf c hR hc;rcases h2 with⟨_,h3⟩ | ⟨q,rfl,hok,_,hq⟩
 ·exact absurd (.inr ⟨(hm _).2 f2,f1,G.inv.fc C hR hc hk⟩) (h3 (f c))
 refine⟨q,h1,hok,fun x=>?_⟩;rw[hq];constructor
 ·intro h a h4 h5 h6;exact h a (.inr ⟨(hm a).2 h4,h5,h6⟩)
 rintro h a (h4 | ⟨h4,h5,h6⟩)
 ·exact h4.elim
 exact h a ((hm a).1 h4) h5 h6
end
end
section
open Go Go.Lft Chk
def oI (w:Nat->Nat):Nat->Nat
 | 0=>0
 | n+1=>oI w n+w n
theorem F8 {w w':Nat->Nat} : ∀{n:Nat},(∀b,b<n->w' b<=w b)->oI w' n<=oI w n
 | 0,_=>LG _
 | n+1,h=>Nat.add_le_add (F8 fun b hb=>h b (by omega)) (h n (by omega))
theorem Gi {w w':Nat->Nat} {c:Nat} : ∀{n:Nat},(∀b,b<n->w' b<=w b)->c<n->w' c<w c->oI w' n<oI w n
 | 0,_,h,_=>by omega
 | n+1,h,hc,hlt=>by
  rcases LI c n with h1 | h1
  ·have:=Gi (n:=n) (fun b hb=>h b (by omega)) h1 hlt;have:=h n (by omega);simp only[oI];omega
  obtain rfl:c=n:=by omega
  have:=F8 (n:=c) fun b hb=>h b (by omega);simp only[oI];omega
theorem xD {w:Nat->Nat} {m:Nat} : ∀{n:Nat},(∀b,b<n->w b<=m)->oI w n<=n*m
 | 0,_=>by simp[oI]
 | n+1,h=>by
  have:=xD (n:=n) fun b hb=>h b (by omega);have:=h n (by omega)
  rw[oI,MX];omega
section
variable {g:Gr} {f:Nat->Nat} {k:Nat} {out:List Int}
def wt (g:Gr) (out:List Int) (b:Nat):Nat:=if nth out b<0 then g.length else rk g (st out b)
def mu (g:Gr) (out:List Int):Nat:=oI (wt g out) g.length
theorem Good.set (G:Good g f k out) (C:Ch (Rg g) (rk g) (Eg g) f (Dm g)) {c q:Nat} (hR:Rg g c) (hc:c≠0) (hk:rk g c=k) (T:Turn (Rg g) (rk g) (Eg g) (st out) (pd out) c q) (ch:Bool) :
  Good g f (k+1) (setS out ch c q).1/\mu g (setS out ch c q).1<=mu g out/\((setS out ch c q).2=true->ch=true\/mu g (setS out ch c q).1<mu g out)/\((setS out ch c q).2=false->ch=false/\(setS out ch c q).1=out/\st out c=q/\pd out c):=by
 have hlt:=hR.lt;have hol:=G.len;obtain⟨hq,hqn⟩:=G.Aw C T.ok;have I:=G.inv.turn C hR hc hk T;by_cases e:nth out c=q
 ·have hs:setS out ch c q=(out,ch):=by simp[setS,e]
  rw[hs];have hst:upd (st out) c q=st out:=by
   funext b;unfold upd;split
   ·rename_i hb;subst hb;simp[st,e]
   rfl
  have hpd:add (pd out) c=pd out:=by
   funext b;refine propext ⟨fun h=>?_,.inr⟩;rcases h with rfl | h
   ·exact⟨by omega,by omega⟩
   exact h
  rw[hst,hpd]at I;exact⟨⟨G.len,G.rng,I⟩,LG _,.inl,fun h=>⟨h,rfl,by simp[st,e],by omega,by omega⟩⟩
 have hs:setS out ch c q=(out.set c q,true):=by simp[setS,e]
 rw[hs];have hn : ∀b,b<g.length->nth (out.set c q) b=if c=b then(q:Int) else nth out b:=fun b hb=>aF (by omega);have hst:st (out.set c q)=upd (st out) c q:=by
  funext b;unfold upd st;rcases LI b out.length with hb | hb
  ·rw[aF hb];by_cases h:c=b
   ·rw[if_pos h,if_pos h.symm];simp
   rw[if_neg h,if_neg (Ne.symm h)]
  rw[cB (by simpa using hb),cB hb,if_neg (by omega)]
 have hpd:pd (out.set c q)=add (pd out) c:=by
  funext b;refine propext ?_;unfold pd add;rw[LN];constructor
  ·rintro⟨h1,h2⟩;rw[aF h1]at h2;by_cases h:c=b
   ·exact .inl h.symm
   rw[if_neg h]at h2;exact .inr ⟨h1,h2⟩
  rintro(rfl | ⟨h1,h2⟩)
  ·exact⟨by omega,by rw[aF (by omega),if_pos rfl];omega⟩
  refine⟨h1,?_⟩;rw[aF h1];split
  ·omega
  exact h2
 have hw : ∀b,b<g.length->wt g (out.set c q) b<=wt g out b/\(b=c->wt g (out.set c q) b<wt g out b):=by
  intro b hb;by_cases h:c=b
  ·subst h;have e1:wt g (out.set c q) c=rk g q:=by unfold wt;rw[hn c hb,if_pos rfl,if_neg (by omega),hst];simp[upd]
   have e2:rk g q<wt g out c:=by
    unfold wt;split
    ·exact Ih hq
    rename_i h1;have hp:pd out c:=⟨by omega,by omega⟩;rcases G.inv.Ke T hp with h2 | h2
    ·exfalso;have:=LX hp.2;unfold st at h2;omega
    exact h2
   omega
  have e1:wt g (out.set c q) b=wt g out b:=by unfold wt st;rw[hn b hb,if_neg h]
  exact⟨by omega,fun e=>absurd e.symm h⟩
 have hmu:mu g (out.set c q)<mu g out:=Gi (fun b hb=>(hw b hb).1) hlt ((hw c hlt).2 rfl);refine⟨⟨by simpa using hol,fun b hb=>?_,by rw[hst,hpd];exact I⟩,by show mu g (out.set c q)<=_;omega,fun _=>.inr hmu,fun h=>by cases h⟩;rw[hn b hb];split
 ·right;omega
 exact G.rng b hb
theorem wC (C:Ch (Rg g) (rk g) (Eg g) f (Dm g)) : ∀(l:List Int) (k:Nat) (out:List Int) (ch:Bool),l=(a8 g).drop k->1<=k->k<=(a8 g).length->Good g f k out->
  ∃out' ch',qF (gh g.length (a8 g)) (cO g) g.length l (out,ch)=some (out',ch')/\Good g f (a8 g).length out'/\mu g out'<=mu g out/\(ch'=true->ch=true\/mu g out'<mu g out)/\
   (ch'=false->ch=false/\out'=out/\∀c:Nat,(c:Int)∈l->pd out c/\Turn (Rg g) (rk g) (Eg g) (st out) (pd out) c (st out c))
 | [],k,out,ch,hl,_,hk,G=>by
  have hk2:(a8 g).length<=k:=by have:=congrArg List.length hl;simp only[N6,ME]at this;omega
  obtain rfl:k=(a8 g).length:=by omega
  exact⟨out,ch,rfl,G,LG _,.inl,fun h=>⟨h,rfl,by simp⟩⟩
 | b::l,k,out,ch,hl,h1,hk,G=>by
  have hlt:k<(a8 g).length:=by have:=congrArg List.length hl;simp only[Nl,ME]at this;omega
  rw[MV hlt]at hl;obtain⟨hb,hl2⟩:=List.cons.inj hl;have hmem:b∈a8 g:=by rw[hb];exact MD _
  have hg:0<g.length:=by have:=qe (g:=g);omega
  have O:=jS hg;have hr:=O.rng b hmem;obtain⟨c,rfl⟩:=Nr hr.1;have hR:Rg g c:=(O.mem c).1 hmem;have hrk:rk g c=k:=by unfold rk;rw[hb,NV O.nodup]
  have hc0:c≠0:=fun e=>by subst e;rw[uA hg]at hrk;omega
  obtain⟨q,h3,T⟩:=DB G C hR hc0 hrk;rw[qF,if_pos hr,LY];simp only;rw[h3];simp only[L3];obtain⟨g1,g2,g3,g4⟩:=G.set C hR hc0 hrk T ch;have e:setS out ch c q=((setS out ch c q).1,(setS out ch c q).2):=rfl;rw[e];generalize hs1:(setS out ch c q).1=o1 at g1 g2 g3 g4;generalize hs2:(setS out ch c q).2=c1 at g3 g4;obtain⟨out',ch',k1,k2,k3,k4,k5⟩:=wC C l (k+1) o1 c1 hl2 (by omega) (by omega) g1;refine⟨out',ch',k1,k2,by omega,fun h=>?_,fun h=>?_⟩
  ·rcases k4 h with h4 | h4
   ·rcases g3 h4 with h5 | h5
    ·exact .inl h5
    exact .inr (by omega)
   exact .inr (by omega)
  obtain⟨h4,rfl,h6⟩:=k5 h;obtain⟨h7,rfl,h8,h9⟩:=g4 h4;refine⟨h7,rfl,fun x hx=>?_⟩;rcases L4.1 hx with hx | hx
  ·obtain rfl:x=c:=by omega
   exact⟨h9,h8▸T⟩
  exact h6 x hx
theorem Good.one(hg:0<g.length)(G:Good g f 0 out):Good g f 1 out:=by have I:=G.inv;have h0 : ∀b,Rg g b->b≠0->¬rk g b<1:=fun b hR hb h=>hb (Cg hR (.root hg (by decide)) (by rw[uA hg];omega));exact⟨G.len,G.rng,⟨I.pr,fun b hR hb h=>absurd h (h0 b hR hb),I.fok,I.K,fun b hb y hy _=>I.FP b hb y hy (by omega),fun b hb h=>absurd h (h0 b (I.pr b hb).1 (I.pr b hb).2.1),I.S⟩⟩
structure oq (g:Gr) (f:Nat->Nat) (l:List Int):Prop where
 good:Good g f (a8 g).length l
 turn : ∀c,Rg g c->c≠0->pd l c/\Turn (Rg g) (rk g) (Eg g) (st l) (pd l) c (st l c)
theorem xC (hg:0<g.length) (C:Ch (Rg g) (rk g) (Eg g) f (Dm g)) : ∀(fuel:Nat) (out:List Int),Good g f 0 out->mu g out<fuel->
  ∃l,mZ (gh g.length (a8 g)) (cO g) g.length ((a8 g).drop (min 1 (a8 g).length)) fuel out=some l/\oq g f l
 | 0,_,_,h=>by omega
 | fuel+1,out,G,h=>by
  have O:=jS hg;have hlen:0<(a8 g).length:=by
   rcases N2 (a8 g).length with h | h
   ·have:=O.head;rw[LO h]at this;cases this
   exact h
  have hm:min 1 (a8 g).length=1:=by omega
  rw[mZ,hm];obtain⟨out',ch',k1,k2,k3,k4,k5⟩:=wC C ((a8 g).drop 1) 1 out false rfl (LG _) hlen (G.one hg);rw[k1];simp only[L3];cases ch' with
  | true=>rw[if_pos rfl];have:=xC hg C fuel out' ⟨k2.len,k2.rng,k2.inv.again fun b hb=>C8 hb⟩ (by rcases k4 rfl with h1 | h1;cases h1;omega);rwa [hm]at this
  | false=>
   rw[if_neg (by simp)];obtain⟨_,rfl,h6⟩:=k5 rfl;refine⟨_,rfl,k2,fun c hR hc=>h6 c ?_⟩;have hmem:=(O.mem c).2 hR;obtain⟨i,hi,e⟩:=LQ hmem;have hi0:i≠0:=fun h0=>by subst h0;have:=O.head;rw[List.getElem?_eq_getElem hi]at this;have:=Option.some.inj this;omega
   rw[<-e];refine List.mem_iff_getElem.2 ⟨i-1,by rw[ME];omega,?_⟩;rw[N9];congr 1;omega
theorem xF(hg:0<g.length): ∃f,Ch (Rg g) (rk g) (Eg g) f (Dm g)/\∃l,xG g (g.length*g.length+1)=some l/\oq g f l:=by
 obtain⟨f,hf⟩:=HB hg;have C:=KG hg hf;refine⟨f,C,?_⟩;refine xC hg C _ _ ⟨by simp,fun b hb=>.inl (aA hb),?_⟩ ?_
 ·have:pd (List.replicate g.length (-1))=fun _=>False:=by funext b;refine propext ⟨fun⟨h1,h2⟩=>?_,fun h=>h.elim⟩;rw[aA (by simpa using h1)]at h2;omega
  rw[this];exact Inv.start
 have:=xD (w:=wt g (List.replicate g.length (-1))) (m:=g.length) (n:=g.length) fun b hb=>by unfold wt;rw[aA hb,if_pos (by omega)];exact LG _
 unfold mu;omega
theorem oq.anc {l:List Int} (I:oq g f l) (C:Ch (Rg g) (rk g) (Eg g) f (Dm g)) {x b:Nat} (hb:Rg g b):Anc (st l) x b↔Dm g x b:=by
 have hok : ∀b,Rg g b->Ok (pd l) b:=fun b h=>by
  by_cases e:b=0
  ·exact .inl e
  exact .inr (I.turn b h e).1
 constructor
 ·intro h;have hx:=(I.good.Aw C (I.good.inv.anc h (hok b hb)).1).1;refine oH.2 ⟨hx,hb,fun hre=>?_⟩;have key : ∀b,Re g x b->¬Anc (st l) x b:=by
   intro b hre;induction hre with
   | root h1 h2=>intro h;have:=qO.1 h;omega
   | step ha he hne ih=>
    rename_i a b;intro h;by_cases e:b=0
    ·subst e;have:=qO.1 h;omega
    have hRb:Rg g b:=.step ha.all he (by omega);have h3:=((nP e).1 h).resolve_left (by omega);exact ih (((I.turn b hRb e).2.q x).1 h3 a he ha.all (hok a ha.all))
  exact key b hre h
 intro h;exact I.good.inv.dom C (hok b hb) h
end
end
section
open Go Go.Lft Chk
variable{n:Nat}
theorem HZ{p:Nat->Bool}:yd p n=true↔∃i,i<n/\p i=true:=by
 unfold yd;induction n with
 | zero=>simp[up]
 | succ n ih=>
  rw[up,FB,ML,ih];constructor
  ·rintro(⟨i,h1,h2⟩ | h)
   ·exact⟨i,by omega,h2⟩
   exact⟨n,by omega,h⟩
  rintro⟨i,h1,h2⟩;rcases LI i n with h | h
  ·exact .inl ⟨i,h,h2⟩
  obtain rfl:i=n:=by omega
  exact .inr h2
theorem CM{p:Nat->Bool}:tH p n=true↔∀i,i<n->p i=true:=by
 unfold tH;induction n with
 | zero=>simp[up]
 | succ n ih=>
  rw[up,Cp,LK,ih];constructor
  ·rintro⟨h1,h2⟩ i hi;rcases LI i n with h | h
   ·exact h1 i h
   obtain rfl:i=n:=by omega
   exact h2
  intro h;exact⟨fun i hi=>h i (by omega),h n (by omega)⟩
section
variable {g:Gr} {f:Nat->Nat} {l:List Int}
variable{b:Nat}
theorem oq.none(I:oq g f l)(hb:b<g.length)(h:¬Rg g b\/b=0):nth l b=-1:=by
 rcases I.good.rng b hb with h1 | h1
 ·exact h1
 exfalso;have:=I.good.inv.pr b ⟨by rw[I.good.len];exact hb,h1.1⟩;rcases h with h | h
 ·exact h this.1
 exact this.2.1 h
theorem DJ{a:Int}(ha:0<=a): ∀k,ou l a k (-1)=false
 | 0=>rfl
 | k+1=>by rw[ou,if_neg (by omega),if_pos (.inl (by omega))]
theorem uL (I:oq g f l) (C:Ch (Rg g) (rk g) (Eg g) f (Dm g)) {a:Nat} : ∀(k b:Nat),Rg g b->rk g b<k->(ou l a k b=true↔Anc (st l) a b)
 | 0,b,_,h=>by omega
 | k+1,b,hb,h=>by
  have hlt:=hb.lt;have hll:=I.good.len;rw[ou];by_cases e:(b:Int)=a
  ·rw[if_pos e];have:a=b:=by omega
   subst this;exact⟨fun _=>.self,fun _=>rfl⟩
  rw[if_neg e,if_neg (by omega),LY];by_cases h0:b=0
  ·subst h0;rw[I.none hlt (.inr rfl),DJ (by omega),qO];constructor
   ·intro h;cases h
   intro h;omega
  obtain⟨hp,_⟩:=I.turn b hb h0;obtain⟨h1,h2,h3,h4⟩:=I.good.inv.pr b hp;have e2:nth l b=((st l b:Nat):Int):=(LX hp.2).symm;rw[e2,uL I C k (st l b) (I.good.inv.okR C h3) (by omega),nP h0];exact⟨.inr,fun h=>h.resolve_left (by omega)⟩
theorem rM(I:oq g f l)(C:Ch (Rg g) (rk g) (Eg g) f (Dm g)){a:Nat}(ha:a<g.length)(hb:Rg g b):eU l a b=domC g a b:=by have hlt:=hb.lt;have hll:=I.good.len;rw[eU,decide_eq_true (by omega),N7,MH,uL I C _ _ hb (by have:=Ih hb;omega),I.anc C hb];rfl
end
end
theorem GP{l:List Int}{x:Int}{v:Value}{h:Heap}(hl:SlRd (vw h) v l):az Tryz.prog N.slices_Index_int #[v,.int .i64 x] h (fun u h'=>(∃r:Int,u = .int .i64 r/\(0<=r↔x∈l))/\h'=h):=by
 refine aq (args:=[v,.int .i64 x]) follows F.slices_Index_int E.slices_Index_int (LD (by kernel_rfl)) fun K hK=>?_;have bl:=hl.bound;simp[L.slices_Index_int,hl.len];refine a6 [0,1,7,8] (fun(_:Unit) i=>[v,.int .i64 x,.int .i64 l.length,.int .i64 i]) (fun _ i h1=>h1=h/\∀j,j<i->nth l j≠x) l.length ()
  rfl (by omega) rfl ⟨rfl,fun j hj=>by omega⟩ (fun _ _=>rfl) (fun v i h1 hk m=>by simp) ?_ ?_
 ·rintro _ i h hlt ⟨rfl,hpre⟩ K2 hK2;simp(disch:=omega)[hl.idx1 rfl,hl.int (View.le_refl _)];refine⟨fun e=>hK _ _ ⟨⟨i,rfl,by simp;rw[e];exact bc hlt⟩,rfl⟩,fun e=>hK2 () _ _ rfl rfl ⟨rfl,fun j hj=>?_⟩⟩;rcases LI j i with h | h
  ·exact hpre j h
  have:j=i:=by omega
  subst this;exact fun e2=>e e2.symm
 rintro _ h ⟨rfl,hpre⟩;simp;refine hK _ _ ⟨⟨-1,rfl,by simp;intro hm;obtain⟨j,hj,e⟩:=LQ hm;exact hpre j hj (by rw[ak hj];exact e)⟩,rfl⟩
theorem Ar{l:List Int}{x:Int}{v:Value}{h:Heap}(hl:SlRd (vw h) v l):az Tryz.prog N.slices_Contains_int #[v,.int .i64 x] h (fun u h'=>u = .bool (l.contains x)/\h'=h):=by refine aq (args:=[v,.int .i64 x]) follows F.slices_Contains_int E.slices_Contains_int (LD (by kernel_rfl)) fun K hK=>?_;simp[L.slices_Contains_int];refine aj (by kernel_rfl) (GP hl) ?_;rintro _ _ ⟨⟨r,rfl,hr⟩,rfl⟩;simp;exact hK _ _ ⟨by simp[<-hr],rfl⟩
def ofG (l:List BlkD):Gr:=rows (fun i=>ln (nth l i).term.to l.length) l.length
theorem uM{l:List BlkD}{v:Value}{p:Int}{h:Heap}(hv:SlRd (vw h) v l)(hl:l.length<=1000000)(hs : ∀i,i<l.length->(nth l i).term.to.length<=1000000):
  az Tryz.prog N.iN #[.agg #[.int .i64 p,v]] h (fun u h'=>(vw h).le (vw h')/\SlRd (fresh h h') u (ofG l)):=by
 refine aq (args:=[.agg #[.int .i64 p,v]]) follows F.iN E.iN (LD (by kernel_rfl)) fun K hK=>?_;obtain⟨hvc,hvo⟩:=hv.cells;simp[L.iN];refine j6 (v:=.agg #[.int .i64 p,v]) (by simp) ?_;have hle1:=bm h (.cells (Value.agg #[.int .i64 p,v]).cells T.ar);have hc1:ao (vw (h.push (.cells (Value.agg #[.int .i64 p,v]).cells T.ar))) ⟨h.size,1,none⟩=some v:=bW (c:=#[.int .i64 p,v]) (T:=T.ar) (fz:=(0,0)) (by simp[vw,Value.cells]) rfl;generalize h.push (.cells (Value.agg #[.int .i64 p,v]).cells T.ar)=h1 at hle1 hc1;have hv1:=hv.mono hle1;simp[hc1,hv1.len];refine Mine.made (α:=List Int) (V:=nothing) (W:=nothing) (h0:=h1) (n:=l.length) (d:=[]) El.dh (View.le_refl _) (fun _ _ h=>by cases h) (Old.nothing _ _) (by simp<;>rfl) (by simp<;>rfl) Fo (by omega) (by omega) fun o h2 m hle2 _=>?_;have hc2:=ae hle2 hc1
 have hv2:=hv1.mono hle2;simp[hc2,hv2.len];refine a6 [1,3,11,12,13] (fun(_:View) k=>[.pointer (some ⟨h.size,0,none⟩),o,v,.int .i64 l.length,.int .i64 k]) (fun W k h3=>Mine nothing h1 h3 W T.aS o (rows (fun i=>ln (nth l i).term.to l.length) k++List.replicate (l.length-k) [])) l.length nothing
  rfl (by omega) rfl m (fun _ _=>rfl) (fun v k h1 hk m=>by simp) ?_ ?_
 ·rintro W a h3 hlta m K2 hK2;have hle3:=m.old;have hc3:=ae hle3 hc1;have hv3:=hv1.mono hle3;obtain⟨u,hu1,hu2⟩:=hv3.wh rfl (N:=6) rfl hlta;have hal:=hs a hlta;have hl5:(rows (fun i=>ln (nth l i).term.to l.length) a++List.replicate (l.length-a) ([]:List Int)).length=l.length:=by simp;omega
  refine aa fun z hz=>?_;simp(disch:=omega)[hv3.idxn (N:=6) rfl,hu1 _ (View.le_refl _)];refine fm (z:=.agg #[.slice none 0 0,.slice none 0 0,.int .i64 0,.slice none 0 0,.slice none 0 0,.int .i32 0]) (by kernel_rfl) rfl (by kernel_rfl) hu2 (fun _=>by simp) (fun _=>by simp) fun h4 hle4 hsz4 hat=>?_;obtain⟨vp,vi,va,vt,bp,bi,bk,ba,bt⟩:=ib (hat (vw h4) hle4 rfl);have hc4:=ae hle4 hc3;have hv4:=hv3.mono hle4;subst hz;simp[bt.1,hc4,hv4.len];refine aj (by kernel_rfl) (Cx bt.2 (by omega)) ?_;rintro r h5 ⟨W',mr⟩;have m5:=(m.ext' hle4).ext mr.old;have hr:=mr.fresh.mono (eC W _ _);simp(disch:=omega)[m5.now.idx1 rfl];refine m5.put1 (α:=List Int) (i:=a) (by kernel_rfl) rfl (by simp) (by simp<;>rfl) (by omega) (fy.2 hr) fun h6 m6=>hK2 (grow W h4 h5) _ _ rfl rfl ?_;rw[lS (x:=fun i=>ln (nth l i).term.to l.length) hlta]at m6;exact m6
 rintro W h3 m;simp at m;simp;exact hK _ _ ⟨View.le_trans hle1 m.old,m.fresh.mono (nA hle1)⟩
def ly (w:Int × Int) (idom:List Int) (blk at_:Int):Bool:=(decide (w.1=blk)&&(decide (w.2<at_)||decide (w.2<0)))||(!decide (w.1=blk)&&eU idom w.1 blk)
def useS (ps:Int) (m:MW) (idom:List Int) (v blk place at_ told:Int):Except Tr Unit:=
 if 0<=v/\v<ps then .ok () else match m v with
  | none=>.error (13,told,place)
  | some w=>if ly w idom blk at_ then .ok () else .error (13,told,place)
theorem BM{Kb r:Nat}{vb vd:Value}{f:an}{m:MW}{idom:List Int}{h:Heap}{p5 p6:Addr}{v blk place at_ told:Int}(k:Lk h Kb r vb f m)(h5:ao (vw h) p5=some (.pointer (some ⟨Kb,0,none⟩)))(h6:ao (vw h) p6=some vd)(hd:SlRd (vw h) vd idom):
  iZ Tryz.prog N.aU #[.int .i64 v,.int .i64 blk,.int .i64 place,.int .i64 at_,.int .i64 told,.pointer (some p5),.pointer (some p6)] h (fun _ h'=>useS f.params m idom v blk place at_ told = .ok ()/\(vw h).le (vw h'))
   (fun ch h'=>∃t,useS f.params m idom v blk place at_ told = .error t/\ch=trV t/\(vw h).le (vw h')):=by
 refine iP (args:=[.int .i64 v,.int .i64 blk,.int .i64 place,.int .i64 at_,.int .i64 told,.pointer (some p5),.pointer (some p6)]) follows F.aU E.aU (LD (by kernel_rfl)) fun K Kp hK hKp=>?_;dsimp only[L.aU];by_cases hp:0<=v/\v<f.params
 ·simp[h5,ae cA k.c0,hp];exact hK _ _ ⟨by simp[useS,hp],View.le_refl _⟩
 have hu:useS f.params m idom v blk place at_ told=match m v with
   | none=>.error (13,told,place)
   | some w=>if ly w idom blk at_ then .ok () else .error (13,told,place):=by rw[useS,if_neg hp]
 rw[hu]at hK hKp;refine aa fun z hz=>?_;have hc:(decide (0<=v)&&decide (v<f.params))=false:=by rw[MN];intro e;exact hp (by simpa using e)
 simp[h5,ae cA k.c0,hc];subst hz;refine aa fun z hz=>?_;simp[h5,ae cA k.c2];refine lZ (z:=.agg #[.int .i64 0,.int .i64 0]) U.gn U.int (by kernel_rfl) (by simp<;>rfl) (by simp<;>rfl) mC k.map ?_;have cellsW:((mapE encW m (.int .i64 v))).getD (.agg #[.int .i64 0,.int .i64 0])=encW ((m v).getD (0,0)):=by rw[oy];cases m v<;>rfl
 have isW:(mapE encW m (.int .i64 v)).isSome=(m v).isSome:=by rw[oy];cases m v<;>rfl
 rw[cellsW,isW];simp;refine jO (n:=2) (v:=encW ((m v).getD (0,0))) (z:=.agg #[.int .i64 0,.int .i64 0]) (by kernel_rfl) rfl (by kernel_rfl) rfl (by simp[encW,Value.oneCell']) (fun _=>by simp) (fun _=>by simp) fun h3 hle3 hsz3 hb3=>?_;have d0:ao (vw h3) ⟨h.size,0,none⟩=some (.int .i64 ((m v).getD (0,0)).1):=bW (show vw h3 h.size=_ from hb3) rfl;have d1:ao (vw h3) ⟨h.size,1,none⟩=some (.int .i64 ((m v).getD (0,0)).2):=bW (show vw h3 h.size=_ from hb3) rfl;have h63:=ae hle3 h6;have hd3:=hd.mono hle3;generalize h.size=B at d0 d1;subst hz;have fin : ∀(ok:Bool) (h4:Heap) (ρ:Env) (z:LC),(vw h).le (vw h4)->(∀w,m v=some w->ok=ly w idom blk at_)->(m v=none->ok=false)->z = .reg false (.loud [65,66,67] [] [(65,.tmp 13),(66,.tmp 4),(67,.tmp 2)] none [] false (.call ⟨.value (.func N.fI),#[.tmp 65,.const (.int .i64 13),.tmp 66,.tmp 67],#[T.bool,T.mW,T.int,T.int]⟩) 0 (some 68) false (.fin [] [] []))->
   Lft.look ρ 13=some (.bool ok)->Lft.look ρ 4=some (.int .i64 told)->Lft.look ρ 2=some (.int .i64 place)->@LC.wp (ppOf Kp) Tryz.prog z (@fq [] K) ρ h4:=by
  rintro ok h4 ρ _ hle4 hs hn rfl e13 e4 e2;simp[e13,e4,e2];refine dZ (by kernel_rfl) iG ?_ ?_
  ·rintro _ _ ⟨e,rfl⟩;refine hK _ _ ⟨?_,hle4⟩;cases hm:m v with
   | none=>rw[hn hm]at e;cases e
   | some w=>simp only;rw[if_pos (by rw[<-hs w hm];exact e)]
  rintro _ _ ⟨e,rfl,rfl⟩;refine⟨.inl rfl,hKp _ _ ⟨_,?_,rfl,hle4⟩⟩;cases hm:m v with
  | none=>rfl
  | some w=>simp only;rw[if_neg (by rw[<-hs w hm,e];simp)]
 refine aa fun z hz=>?_;cases hm:m v with
 | none=>rw[hm]at d0 d1;simp[d0,d1];refine fin false _ _ _ hle3 (fun w hw=>by rw[hm]at hw;cases hw) (fun _=>rfl) hz ?_ ?_ ?_<;>simp
 | some w=>
  rw[hm]at d0 d1;simp at d0 d1;by_cases c1:w.1=blk
  ·by_cases c2:w.2<at_
   ·simp[d0,d1,c1,c2];refine fin true _ _ _ hle3 (fun w' hw=>by rw[hm]at hw;cases hw;simp[ly,c1,c2]) (fun e=>by simp[hm]at e) hz ?_ ?_ ?_<;>simp
   by_cases c3:w.2<0
   ·simp[d0,d1,c1,c2,c3];refine fin true _ _ _ hle3 (fun w' hw=>by rw[hm]at hw;cases hw;simp[ly,c1,c2,c3]) (fun e=>by simp[hm]at e) hz ?_ ?_ ?_<;>simp
   simp[d0,d1,c1,c2,c3];refine fin false _ _ _ hle3 (fun w' hw=>by rw[hm]at hw;cases hw;simp[ly,c1,c2,c3]) (fun e=>by simp[hm]at e) hz ?_ ?_ ?_<;>simp
  simp[d0,d1,c1,h63];refine aj (by kernel_rfl) (zc hd3) ?_;rintro _ h4 ⟨rfl,hle4⟩;refine fin _ _ _ _ (View.le_trans hle3 hle4) (fun w' hw=>by rw[hm]at hw;cases hw;simp[ly,c1];rfl) (fun e=>by simp[hm]at e) hz ?_ ?_ ?_<;>simp
def kW (x:PhiD) (row:List Int) (b:Nat):Bool:=decide (0<b)&&decide ((x.ins.length:Int)=(row.length:Int))
def xp (x:PhiD) (row:List Int) (j:Nat):Bool:=decide ((nth x.ins j).frm=nth row j)
def AT (x:PhiD) (row:List Int) (b:Nat):Bool:=kW x row b&&tH (xp x row) x.ins.length
def uAll (g:Nat->Except Tr Unit) (n:Nat):Except Tr Unit:=upE (fun i _=>g i) n ()
def phiU (f:an) (m:MW) (idom:List Int) (preds:Gr) (b i:Nat):Except Tr Unit:=
 let x:=nth (nth f.blocks b).phis i
 if AT x (nth preds b) b then uAll (fun j=>useS f.params m idom (nth x.ins j).val (nth x.ins j).frm (-1-i) (nth f.blocks (nth x.ins j).frm.toNat).ins.length b) x.ins.length else .error (16,b,-1-i)
def insU (f:an) (m:MW) (idom:List Int) (b i:Nat):Except Tr Unit:=
 uAll (fun j=>useS f.params m idom (nth (nth (nth f.blocks b).ins i).args j) b i i b) (nth (nth f.blocks b).ins i).args.length
def endU (f:an) (m:MW) (idom:List Int) (b:Nat):Except Tr Unit:=
 uAll (fun j=>useS f.params m idom (nth (nth f.blocks b).term.args j) b (nth f.blocks b).ins.length (nth f.blocks b).ins.length b) (nth f.blocks b).term.args.length
def andE (x y:Except Tr Unit):Except Tr Unit:=match x with | .ok _=>y | .error t=>.error t
def blkU (f:an) (m:MW) (idom:List Int) (preds:Gr) (b:Nat):Except Tr Unit:=
 andE (uAll (phiU f m idom preds b) (nth f.blocks b).phis.length) (andE (uAll (insU f m idom b) (nth f.blocks b).ins.length) (endU f m idom b))
def td (f:an) (b:Nat):Except Tr Unit:=if decide ((b:Int)∈a8 (ofG f.blocks)) then .ok () else .error (15,b,0)
def qR (f:an) (m:MW) (idom:List Int):Except Tr Unit:=
 andE (uAll (td f) f.blocks.length) (uAll (blkU f m idom (cO (ofG f.blocks))) f.blocks.length)
variable{n:Nat}
theorem nD{g:Nat->Except Tr Unit}{k:Nat}{t:Tr}(h:uAll g k = .ok ())(hk:k<n)(he:g k = .error t):uAll g n = .error t:=oK h hk he
theorem kC{g:Nat->Except Tr Unit}{k:Nat}(h:uAll g k = .ok ()):uAll g (k+1)=g k:=ju h
variable{H:View}
theorem EW{B:Nat}{u v:Value}(h0:ao H ⟨B,0,none⟩=some u)(h1:ao H ⟨B,1,none⟩=some v):Un.ev H (.al 2) (.pointer (some ⟨B,0,none⟩))=some (.agg #[u,v]):=by simp[Un.ev,vP,dS,h0,h1]
theorem EI{l:List BlkD}(hl:l.length<=1000000)(hs : ∀i,i<l.length->(nth l i).term.to.length<=1000000):Sm (ofG l):=by
 have hlen:(ofG l).length=l.length:=by simp[ofG]
 refine⟨by omega,fun i hi=>?_⟩;rw[hlen]at hi;rw[ofG,eQ hi];exact L9 xm (hs i hi)
theorem HY{Kb r:Nat}{vb:Value}{f:an}{m:MW}{idom:List Int}{fuel:Nat}{h:Heap}(k:Lk h Kb r vb f m)(hn:f.blocks.length<=1000000)(hto : ∀i,i<f.blocks.length->(nth f.blocks i).term.to.length<=1000000)(hd:xG (ofG f.blocks) fuel=some idom):
  iZ Tryz.prog N.aD #[.pointer (some ⟨Kb,0,none⟩)] h (fun _ h'=>qR f m idom = .ok ()/\(vw h).le (vw h')) (fun ch h'=>∃t,qR f m idom = .error t/\ch=trV t/\(vw h).le (vw h')):=by
 refine iP (args:=[.pointer (some ⟨Kb,0,none⟩)]) follows F.aD E.aD (LD (by kernel_rfl)) fun K Kp hK hKp=>?_;have hbb:=k.rb.bound;have hsm:=EI hn hto;have hgl:(ofG f.blocks).length=f.blocks.length:=by simp[ofG]
 dsimp only[L.aD];refine aa fun z hz=>?_;simp;refine j6 (v:=.pointer (some ⟨Kb,0,none⟩)) (by simp) ?_;have hle1:=bm h (.cells (Value.cells (.pointer (some ⟨Kb,0,none⟩))) T.ml);have h51:ao (vw (h.push (.cells (Value.cells (.pointer (some ⟨Kb,0,none⟩))) T.ml))) ⟨h.size,0,none⟩=some (.pointer (some ⟨Kb,0,none⟩)):=by simp[ao,vw]
 generalize h.push (.cells (Value.cells (.pointer (some ⟨Kb,0,none⟩))) T.ml)=h1 at hle1 h51;generalize h.size=B at h51;have k1:=k.ext hle1;subst hz;refine aa fun z hz=>?_;simp[h51,EW (ae cA k1.c0) (ae cA k1.c1)];refine aj (by kernel_rfl) (uM (k1.rb.mono cA) hn hto) ?_;rintro vg h2 ⟨hle2,hg⟩;have hg2:=hg.mono (iz _ _)
 subst hz;refine aa fun z hz=>?_;simp;refine aj (by kernel_rfl) (zR hg2 hsm) ?_;rintro vo h3 ⟨hle3,ho⟩;have ho3:=ho.mono (iz _ _);have hg3:=hg2.mono hle3;have hle13:=View.le_trans hle2 hle3;have k3:=k1.ext hle13;have h53:=ae hle13 h51;have hle03:=View.le_trans hle1 hle13;subst hz;refine aa fun z hz=>?_;simp[h53,ae cA k3.c1,k3.rb.len];refine a6 [0,1,2,3,35,36] (fun(_:Unit) b=>[.pointer (some ⟨Kb,0,none⟩),.pointer (some ⟨B,0,none⟩),vg,vo,.int .i64 f.blocks.length,.int .i64 b]) (fun _ b h4=>h4=h3/\uAll (td f) b = .ok ()) f.blocks.length ()
  rfl (by omega) rfl ⟨rfl,rfl⟩ (fun _ _=>rfl) (fun v i h1 hk m=>by simp) ?_ ?_
 ·rintro _ b h3 hlt ⟨rfl,hpre⟩ K2 hK2;simp;refine aj (by kernel_rfl) (Ar ho3) ?_;rintro _ _ ⟨rfl,rfl⟩;simp;refine dZ (by kernel_rfl) iG ?_ ?_
  ·rintro _ _ ⟨e,rfl⟩;exact hK2 () _ _ rfl rfl ⟨rfl,by rw[kC hpre,td,if_pos e]⟩
  rintro _ _ ⟨e,rfl,rfl⟩;exact⟨.inl rfl,hKp _ _ ⟨_,by rw[qR,nD hpre hlt (by rw[td,if_neg (by rw[e];simp)])];rfl,rfl,hle03⟩⟩
 rintro _ h3 ⟨rfl,hreach⟩;have hus:qR f m idom=uAll (blkU f m idom (cO (ofG f.blocks))) f.blocks.length:=by rw[qR,hreach];rfl
 rw[hus]at hK hKp;simp;subst hz;refine aa fun z hz=>?_;simp;refine aj (by kernel_rfl) (vN hg3 hsm) ?_;rintro vp h4 ⟨hle4,hp⟩;have hp4:=hp.mono (iz _ _);refine aj (by kernel_rfl) (H0 (hg3.mono hle4) hsm hd) ?_;rintro vi h5 ⟨W,mi⟩;have hi5:=mi.now;refine fm (α:=List Int) (z:=.slice none 0 0) (X:=vw h5) (by kernel_rfl) rfl (by kernel_rfl) (fy.2 hi5) (fun _=>by simp) (fun _=>by simp) fun h6 hle6 hsz6 hat=>?_;obtain⟨vd,hvd,hd6⟩:=(hat (vw h6) hle6 rfl).sl;generalize h5.size=C at hvd;subst hz;have hle36:=View.le_trans hle4 (View.le_trans mi.old hle6)
 have hp6:=hp4.mono (View.le_trans mi.old hle6);have k6:=k3.ext hle36;have h56:=ae hle36 h53;have hle06:=View.le_trans hle03 hle36;have hpl:(cO (ofG f.blocks)).length=f.blocks.length:=by rw[oB,hgl]
 have hin : ∀b,∀x∈nth (cO (ofG f.blocks)) b,0<=x/\x<f.blocks.length:=by
  rw[<-hgl];exact sR (fun e he=>(nd he).1) (fun i x hx=>by
   rcases LI i (ofG f.blocks).length with hi | hi
   ·rw[aA hi]at hx;cases hx
   rw[cB (by simpa using hi)]at hx;cases hx)
 generalize cO (ofG f.blocks)=preds at hp6 hpl hin hK hKp;obtain⟨pv,hpv⟩:=hp6.rows;simp[h56,ae cA k6.c1,k6.rb.len];refine a6 [1,5,7,54,55,56] (fun(_:Unit) b=>[.pointer (some ⟨B,0,none⟩),vp,.func (.func N.aU) #[] #[.pointer (some ⟨B,0,none⟩),.pointer (some ⟨C,0,none⟩)],vb,.int .i64 f.blocks.length,.int .i64 b]) (fun _ b h7=>(vw h6).le (vw h7)/\uAll (blkU f m idom preds) b = .ok ()) f.blocks.length ()
  rfl (by omega) rfl ⟨View.le_refl _,rfl⟩ (fun _ _=>rfl) (fun v i h1 hk m=>by simp) ?_ ?_
 ·rintro _ b h7 hltb ⟨hle7,hpre⟩ K2 hK2;have k7:=k6.ext hle7;have rb7:=k7.rb.mono cA;obtain⟨u,hu,hur⟩:=rb7.wh rfl (N:=6) rfl hltb;obtain⟨pc,pr⟩:=hpv b (by omega);have hst:=kC hpre;have her : ∀{t},blkU f m idom preds b = .error t->uAll (blkU f m idom preds) f.blocks.length = .error t:=fun e=>nD hpre hltb e;refine aa fun z hz=>?_;simp(disch:=omega)[rb7.idxn (N:=6) rfl,hu _ (View.le_refl _)];refine fm (z:=.agg #[.slice none 0 0,.slice none 0 0,.int .i64 0,.slice none 0 0,.slice none 0 0,.int .i32 0]) (by kernel_rfl) rfl (by kernel_rfl) hur (fun _=>by simp) (fun _=>by simp) fun h8 hle8 hsz8 hat=>?_;obtain⟨wp,wi,wa,wt,bp,bi,bk,ba,bt⟩:=ib (hat (vw h8) hle8 rfl);generalize h7.size=D at bp bi bk ba bt;subst hz;have hle68:=View.le_trans hle7 hle8
  have bph:=bp.2.bound;have bin:=bi.2.bound;have bar:=ba.2.bound;refine aa fun z hz=>?_;simp[bp.1,bp.2.len];refine a6 [1,5,7,8,9,54,55,56,62,63,64] (fun(_:Unit) i=>[.pointer (some ⟨B,0,none⟩),vp,.func (.func N.aU) #[] #[.pointer (some ⟨B,0,none⟩),.pointer (some ⟨C,0,none⟩)],.int .i64 b,.pointer (some ⟨D,0,none⟩),vb,.int .i64 f.blocks.length,.int .i64 b,wp,.int .i64 (nth f.blocks b).phis.length,.int .i64 i])
   (fun _ i h9=>(vw h8).le (vw h9)/\uAll (phiU f m idom preds b) i = .ok ()) (nth f.blocks b).phis.length ()
   rfl (by omega) rfl ⟨View.le_refl _,rfl⟩ (fun _ _=>rfl) (fun v i h1 hk m=>by simp) ?_ ?_
  ·rintro _ i h9 hlti ⟨hle9,hpre9⟩ K3 hK3;have hst9:=kC hpre9;have her9 : ∀{t},phiU f m idom preds b i = .error t->blkU f m idom preds b = .error t:=fun e=>by rw[blkU,nD hpre9 hlti e];rfl
   have bp9:=bp.2.mono hle9;obtain⟨u9,hu9,hur9⟩:=bp9.wh rfl (N:=2) rfl hlti;refine aa fun y hy=>?_;simp(disch:=omega)[bp9.idxn (N:=2) rfl,hu9 _ (View.le_refl _)];refine fm (z:=.agg #[.int .i64 0,.slice none 0 0]) (by kernel_rfl) rfl (by kernel_rfl) hur9 (fun _=>by simp) (fun _=>by simp) fun h10 hle10 hsz10 hat10=>?_;obtain⟨_,wq,cq⟩:=Dj (hat10 (vw h10) hle10 rfl);simp only[phiU]at hst9 her9;generalize nth (nth f.blocks b).phis i=x at cq hst9 her9;generalize h9.size=D10 at cq;have bq:=cq.2.bound
   subst hy;refine aa fun y hy=>?_;have hle610:=View.le_trans hle68 (View.le_trans hle9 hle10);have hp10:=hp6.mono hle610;have pr10:=pr.mono hle610;have hbase:(decide (0<b)&&decide ((x.ins.length:Int)=((nth preds b).length:Int)))=kW x (nth preds b) b:=rfl;simp(disch:=omega)[cq.1,cq.2.len,hp10.idx1 rfl,pc _ hle610,pr10.len];rw[hbase];subst hy;refine aa fun y hy=>?_;simp[cq.1,cq.2.len];refine a6 [1,5,7,8,9,10,11,12,54,55,56,62,63,64,83,84,85] (fun(_:Unit) j=>[.pointer (some ⟨B,0,none⟩),vp,.func (.func N.aU) #[] #[.pointer (some ⟨B,0,none⟩),.pointer (some ⟨C,0,none⟩)],.int .i64 b,.pointer (some ⟨D,0,none⟩),.int .i64 i,.pointer (some ⟨D10,0,none⟩),
     .bool (kW x (nth preds b) b&&tH (xp x (nth preds b)) j),vb,.int .i64 f.blocks.length,.int .i64 b,wp,.int .i64 (nth f.blocks b).phis.length,.int .i64 i,wq,.int .i64 x.ins.length,.int .i64 j])
    (fun _ j h11=>(vw h10).le (vw h11)) x.ins.length ()
    rfl (by omega) (by simp[aZ];intro _;rfl) (View.le_refl _) (fun _ _=>rfl) (fun v i h1 hk m=>by simp) ?_ ?_
   ·rintro _ j h11 hltj hle11 K4 hK4;have cq11:=cq.2.mono hle11;obtain⟨u11,hu11,hur11⟩:=cq11.wh rfl (N:=2) rfl hltj;refine aa fun q hq=>?_;simp(disch:=omega)[cq11.idxn (N:=2) rfl,hu11 _ (View.le_refl _)];refine fm (z:=.agg #[.int .i64 0,.int .i64 0]) (by kernel_rfl) rfl (by kernel_rfl) hur11 (fun _=>by simp) (fun _=>by simp) fun h12 hle12 hsz12 hat12=>?_;obtain⟨e0,e1⟩:=Fu (hat12 (vw h12) hle12 rfl);generalize h11.size=D12 at e0 e1;subst hq;have hle612:=View.le_trans hle610 (View.le_trans hle11 hle12)
    have hp12:=hp6.mono hle612;have pr12:=pr.mono hle612;cases hfit:kW x (nth preds b) b&&tH (xp x (nth preds b)) j with
    | false=>simp;refine hK4 () _ _ rfl ?_ (View.le_trans hle11 hle12);rw[vO,<-Bool.and_assoc,hfit];rfl
    | true=>
     have hlen:x.ins.length=(nth preds b).length:=by simp only[LK,kW,decide_eq_true_eq]at hfit;omega
     simp(disch:=omega)[e0,hp12.idx1 rfl,pc _ hle612,pr12.idx1 rfl,pr12.int (View.le_refl _)];refine hK4 () _ _ rfl ?_ (View.le_trans hle11 hle12);rw[vO,<-Bool.and_assoc,hfit];rfl
   rintro _ h11 hle11;have hfs:(kW x (nth preds b) b&&tH (xp x (nth preds b)) x.ins.length)=AT x (nth preds b) b:=rfl;rw[hfs];simp;subst hy;refine aa fun y hy=>?_;simp(disch:=omega);have hle011:=View.le_trans hle06 (View.le_trans hle610 hle11)
   refine dZ (by kernel_rfl) iG ?_ ?_;rotate_left
   ·rintro _ _ ⟨e,rfl,rfl⟩;exact⟨.inl rfl,hKp _ _ ⟨_,her (her9 (by rw[if_neg (by rw[e];simp)])),rfl,hle011⟩⟩
   rintro _ h11 ⟨efit,rfl⟩;rw[if_pos efit]at hst9;have her9' : ∀{t},uAll (fun j=>useS f.params m idom (nth x.ins j).val (nth x.ins j).frm (-1-i) (nth f.blocks (nth x.ins j).frm.toNat).ins.length b) x.ins.length = .error t->blkU f m idom preds b = .error t:=fun e=>her9 (by rw[if_pos efit];exact e);have hlen:x.ins.length=(nth preds b).length:=by simp only[LK,AT,kW,decide_eq_true_eq]at efit;omega
   have hfrm : ∀j,j<x.ins.length->0<=(nth x.ins j).frm/\(nth x.ins j).frm<f.blocks.length:=fun j hj=>by have h1:=CM.1 (LK _ _▸efit:_/\_).2 j hj;simp only[xp,decide_eq_true_eq]at h1;rw[h1];exact hin b _ (bc (by omega))
   subst hy;have cq11:=cq.2.mono hle11;simp[ae hle11 cq.1,cq11.len];refine a6 [1,5,7,8,9,10,11,54,55,56,62,63,64,110,111,112] (fun(_:Unit) j=>[.pointer (some ⟨B,0,none⟩),vp,.func (.func N.aU) #[] #[.pointer (some ⟨B,0,none⟩),.pointer (some ⟨C,0,none⟩)],.int .i64 b,.pointer (some ⟨D,0,none⟩),.int .i64 i,.pointer (some ⟨D10,0,none⟩),
     vb,.int .i64 f.blocks.length,.int .i64 b,wp,.int .i64 (nth f.blocks b).phis.length,.int .i64 i,wq,.int .i64 x.ins.length,.int .i64 j])
    (fun _ j h12=>(vw h11).le (vw h12)/\uAll (fun j=>useS f.params m idom (nth x.ins j).val (nth x.ins j).frm (-1-i) (nth f.blocks (nth x.ins j).frm.toNat).ins.length b) j = .ok ()) x.ins.length ()
    rfl (by omega) rfl ⟨View.le_refl _,rfl⟩ (fun _ _=>rfl) (fun v i h1 hk m=>by simp) ?_ ?_
   ·rintro _ j h12 hltj ⟨hle12,hpre12⟩ K4 hK4;have hst12:=kC hpre12;have cq12:=cq11.mono hle12;obtain⟨u12,hu12,hur12⟩:=cq12.wh rfl (N:=2) rfl hltj;refine aa fun q hq=>?_;simp(disch:=omega)[cq12.idxn (N:=2) rfl,hu12 _ (View.le_refl _)];refine fm (z:=.agg #[.int .i64 0,.int .i64 0]) (by kernel_rfl) rfl (by kernel_rfl) hur12 (fun _=>by simp) (fun _=>by simp) fun h13 hle13 hsz13 hat13=>?_;obtain⟨e0,e1⟩:=Fu (hat13 (vw h13) hle13 rfl);generalize h12.size=D13 at e0 e1;have hf:=hfrm j hltj
    generalize hxj:nth x.ins j=w at e0 e1 hst12 hf;subst hq;have hle613:=View.le_trans hle610 (View.le_trans hle11 (View.le_trans hle12 hle13));have k13:=k6.ext hle613;have rb13:=k13.rb.mono cA;have h513:=ae hle613 h56;obtain⟨ul,hul⟩:=(((rb13.at (i:=w.frm.toNat) (by omega)).part BlkD.jr)).sl;rw[<-ak (by omega)]at hul;have hul1:ao (vw h13) (((slA vb).add (w.frm.toNat*6)).add 1)=some ul:=hul.1;refine bF (vw h13) (View.le_refl _) ?_;simp(disch:=omega)[e0,e1,h513,ae cA k13.c1,rb13.idxn (N:=6) rfl,hul1,hul.2.len];refine sV (ops:=[.tmp 118,.tmp 120,.tmp 122,.tmp 133,.tmp 134]) rfl (by kernel_rfl) (BM k13 h513 (ae hle613 hvd) (hd6.mono hle613)) ?_ ?_
    ·rintro _ h14 ⟨e,hle14⟩;exact hK4 () _ _ rfl rfl ⟨View.le_trans hle12 (View.le_trans hle13 hle14),by rw[hst12];exact e⟩
    rintro _ h14 ⟨t,e,rfl,hle14⟩;exact⟨.inr fun _=>trivial,hKp _ _ ⟨t,her (her9' (nD hpre12 hltj (by rw[hxj];exact e))),rfl,View.le_trans hle06 (View.le_trans hle613 hle14)⟩⟩
   rintro _ h12 ⟨hle12,hpre12⟩;simp;exact hK3 () _ _ rfl rfl ⟨View.le_trans hle9 (View.le_trans hle10 (View.le_trans hle11 hle12)),by rw[hst9];exact hpre12⟩
  rintro _ h9 ⟨hle9,hpre9⟩;have hbu:blkU f m idom preds b=andE (uAll (insU f m idom b) (nth f.blocks b).ins.length) (endU f m idom b):=by rw[blkU,hpre9];rfl
  rw[hbu]at hst her;simp;subst hz;refine aa fun z hz=>?_;have bi9:=bi.2.mono hle9;simp[ae hle9 bi.1,bi9.len];refine a6 [1,5,7,8,9,54,55,56,139,140,141] (fun(_:Unit) i=>[.pointer (some ⟨B,0,none⟩),vp,.func (.func N.aU) #[] #[.pointer (some ⟨B,0,none⟩),.pointer (some ⟨C,0,none⟩)],.int .i64 b,.pointer (some ⟨D,0,none⟩),vb,.int .i64 f.blocks.length,.int .i64 b,wi,.int .i64 (nth f.blocks b).ins.length,.int .i64 i])
   (fun _ i h10=>(vw h9).le (vw h10)/\uAll (insU f m idom b) i = .ok ()) (nth f.blocks b).ins.length ()
   rfl (by omega) rfl ⟨View.le_refl _,rfl⟩ (fun _ _=>rfl) (fun v i h1 hk m=>by simp) ?_ ?_
  ·rintro _ i h10 hlti ⟨hle10,hpre10⟩ K3 hK3;have hst10:=kC hpre10;have her10 : ∀{t},insU f m idom b i = .error t->uAll (blkU f m idom preds) f.blocks.length = .error t:=fun e=>her (by rw[nD hpre10 hlti e];rfl);have bi10:=bi9.mono hle10
   obtain⟨u10,hu10,hur10⟩:=bi10.wh rfl (N:=5) rfl hlti;refine aa fun y hy=>?_;simp(disch:=omega)[bi10.idxn (N:=5) rfl,hu10 _ (View.le_refl _)];refine fm (z:=.agg #[.int .i64 0,.int .i64 0,.int .i64 0,.slice none 0 0,.int .i32 0]) (by kernel_rfl) rfl (by kernel_rfl) hur10 (fun _=>by simp) (fun _=>by simp) fun h11 hle11 hsz11 hat11=>?_;obtain⟨_,_,_,wq,cq⟩:=rJ (hat11 (vw h11) hle11 rfl);rw[insU]at hst10 her10;generalize nth (nth f.blocks b).ins i=x at cq hst10 her10;generalize h10.size=D11 at cq;have bq:=cq.2.bound;subst hy;simp[cq.1,cq.2.len];refine a6 [1,5,7,8,9,17,54,55,56,139,140,141,147,148,149] (fun(_:Unit) j=>[.pointer (some ⟨B,0,none⟩),vp,.func (.func N.aU) #[] #[.pointer (some ⟨B,0,none⟩),.pointer (some ⟨C,0,none⟩)],.int .i64 b,.pointer (some ⟨D,0,none⟩),.int .i64 i,vb,.int .i64 f.blocks.length,.int .i64 b,wi,.int .i64 (nth f.blocks b).ins.length,.int .i64 i,wq,.int .i64 x.args.length,.int .i64 j])
    (fun _ j h12=>(vw h11).le (vw h12)/\uAll (fun j=>useS f.params m idom (nth x.args j) b i i b) j = .ok ()) x.args.length ()
    rfl (by omega) rfl ⟨View.le_refl _,rfl⟩ (fun _ _=>rfl) (fun v i h1 hk m=>by simp) ?_ ?_
   ·rintro _ j h12 hltj ⟨hle12,hpre12⟩ K4 hK4;have hst12:=kC hpre12;have cq12:=cq.2.mono hle12;have hle612:=View.le_trans hle68 (View.le_trans hle9 (View.le_trans hle10 (View.le_trans hle11 hle12)));have k12:=k6.ext hle612;have h512:=ae hle612 h56;simp(disch:=omega)[cq12.idx1 rfl,cq12.int (View.le_refl _)];refine sV (ops:=[.tmp 154,.tmp 155,.tmp 156,.tmp 157,.tmp 158]) rfl (by kernel_rfl) (BM k12 h512 (ae hle612 hvd) (hd6.mono hle612)) ?_ ?_
    ·rintro _ h14 ⟨e,hle14⟩;exact hK4 () _ _ rfl rfl ⟨View.le_trans hle12 hle14,by rw[hst12];exact e⟩
    rintro _ h14 ⟨t,e,rfl,hle14⟩;exact⟨.inl rfl,hKp _ _ ⟨t,her10 (nD hpre12 hltj e),rfl,View.le_trans hle06 (View.le_trans hle612 hle14)⟩⟩
   rintro _ h12 ⟨hle12,hpre12⟩;simp;exact hK3 () _ _ rfl rfl ⟨View.le_trans hle10 (View.le_trans hle11 hle12),by rw[hst10];exact hpre12⟩
  rintro _ h10 ⟨hle10,hpre10⟩;have hbu2:andE (uAll (insU f m idom b) (nth f.blocks b).ins.length) (endU f m idom b)=endU f m idom b:=by rw[hpre10];rfl
  rw[hbu2]at hst her;rw[endU]at hst her;simp;subst hz;have ba10:=ba.2.mono (View.le_trans hle9 hle10);have ca10:=ae (View.le_trans hle9 hle10) ba.1;have bi10:=bi9.mono hle10;have ci10:=ae (View.le_trans hle9 hle10) bi.1;simp[ca10,ba10.len];refine a6 [1,5,7,8,9,54,55,56,164,165,166] (fun(_:Unit) j=>[.pointer (some ⟨B,0,none⟩),vp,.func (.func N.aU) #[] #[.pointer (some ⟨B,0,none⟩),.pointer (some ⟨C,0,none⟩)],.int .i64 b,.pointer (some ⟨D,0,none⟩),vb,.int .i64 f.blocks.length,.int .i64 b,wa,.int .i64 (nth f.blocks b).term.args.length,.int .i64 j])
   (fun _ j h12=>(vw h10).le (vw h12)/\uAll (fun j=>useS f.params m idom (nth (nth f.blocks b).term.args j) b (nth f.blocks b).ins.length (nth f.blocks b).ins.length b) j = .ok ()) (nth f.blocks b).term.args.length ()
   rfl (by omega) rfl ⟨View.le_refl _,rfl⟩ (fun _ _=>rfl) (fun v i h1 hk m=>by simp) ?_ ?_
  ·rintro _ j h12 hltj ⟨hle12,hpre12⟩ K4 hK4;have hst12:=kC hpre12;have ba12:=ba10.mono hle12;have bi12:=bi10.mono hle12;have ci12:=ae hle12 ci10;have hle612:=View.le_trans hle68 (View.le_trans hle9 (View.le_trans hle10 hle12));have k12:=k6.ext hle612;have h512:=ae hle612 h56;simp(disch:=omega)[ba12.idx1 rfl,ba12.int (View.le_refl _),ci12,bi12.len];refine sV (ops:=[.tmp 171,.tmp 172,.tmp 175,.tmp 178,.tmp 179]) rfl (by kernel_rfl) (BM k12 h512 (ae hle612 hvd) (hd6.mono hle612)) ?_ ?_
   ·rintro _ h14 ⟨e,hle14⟩;exact hK4 () _ _ rfl rfl ⟨View.le_trans hle12 hle14,by rw[hst12];exact e⟩
   rintro _ h14 ⟨t,e,rfl,hle14⟩;exact⟨.inl rfl,hKp _ _ ⟨t,her (nD hpre12 hltj e),rfl,View.le_trans hle06 (View.le_trans hle612 hle14)⟩⟩
  rintro _ h12 ⟨hle12,hpre12⟩;simp;exact hK2 () _ _ rfl rfl ⟨View.le_trans hle7 (View.le_trans hle8 (View.le_trans hle9 (View.le_trans hle10 hle12))),by rw[hst];exact hpre12⟩
 rintro _ h7 ⟨hle7,hpre⟩;simp;exact hK _ _ ⟨hpre,View.le_trans hle06 hle7⟩
def EH (t:Tr):FrameMode:=.panicking [{ v:=.iface T.gI (.agg #[.int .i64 t.1,.int .i64 t.2.1,.int .i64 t.2.2]),recovered:=true }]
variable{b:Nat}
theorem E8{a c:Nat}{t:Tr}{h:Heap}{ra rb rc:Array Value}{ea eb ec:TypeId}(ha:h[a]? = some (.cells ra ea (0,0)))(hb:h[b]? = some (.cells rb eb (0,0)))(hc:h[c]? = some (.cells rc ec (0,0)))(sa:ra.size=1)(sb:rb.size=1)(sc:rc.size=1)(hab:a≠b)(hac:a≠c)(hbc:b≠c):qf Tryz.prog N.cG #[.pointer (some ⟨a,0,none⟩),.pointer (some ⟨b,0,none⟩),.pointer (some ⟨c,0,none⟩)] (.panicking (trV t)) h
   (fun u' h'=>u'=EH t/\h'[a]? = some (.cells #[.int .i64 t.1] ea (0,0))/\h'[b]? = some (.cells #[.int .i64 t.2.1] eb (0,0))/\h'[c]? = some (.cells #[.int .i64 t.2.2] ec (0,0))/\h.size<=h'.size/\∀k,k<h.size->k≠a->k≠b->k≠c->h'[k]? = h[k]?):=by
 refine oO (args:=[.pointer (some ⟨a,0,none⟩),.pointer (some ⟨b,0,none⟩),.pointer (some ⟨c,0,none⟩)]) (t:=6) (L:=L.cG.body.tail) (tys:=#[]) follows F.cG Q.cG (by kernel_rfl) (by kernel_rfl) (by kernel_rfl) (LD (by kernel_rfl)) E.oT (by kernel_rfl) (by kernel_rfl) (LD (by kernel_rfl)) ?_;have ala:a<h.size:=(Array.getElem?_eq_some_iff.1 ha).1;have alb:b<h.size:=(Array.getElem?_eq_some_iff.1 hb).1;have alc:c<h.size:=(Array.getElem?_eq_some_iff.1 hc).1;have hrec:jU (.panicking (trV t))=(.iface T.gI (.agg #[.int .i64 t.1,.int .i64 t.2.1,.int .i64 t.2.2]),EH t):=rfl;rw[hrec];simp[L.cG,LC.tail];refine Aq (ms:=#[]) (by kernel_rfl) rfl (.inr ⟨_,_,rfl,rfl⟩) ?_;simp;refine Ef (d:=(Tryz.prog.underlying T.gI).getD .bool) (by kernel_rfl) (by kernel_rfl) rfl ?_;simp;refine jO (n:=3) (z:=.agg #[.int .i64 0,.int .i64 0,.int .i64 0]) (v:=.agg #[.int .i64 t.1,.int .i64 t.2.1,.int .i64 t.2.2]) (by kernel_rfl) rfl (by kernel_rfl) rfl (by simp[Value.oneCell']) (fun _=>by simp) (fun _=>by simp) fun h1 hle1 hs1 hb1=>?_;generalize hD:h.size=D at hb1 hs1;obtain⟨H,hH⟩ : ∃H:View,H=fun k=>if k=D then h1[k]? else none:=⟨_,rfl⟩;have hHle : ∀h2:Heap,h2[D]? = h1[D]?->H.le (vw h2):=fun h2 e k o hk=>by
  rw[hH]at hk;simp only at hk;split at hk
  ·rename_i e2;subst e2;show h2[_]? = _;rw[e];exact hk
  cases hk
 have hHD:H D=some (.cells #[.int .i64 t.1,.int .i64 t.2.1,.int .i64 t.2.2] T.gI (0,0)):=by rw[hH];simp only[if_true];exact hb1
 have d0:ao H ⟨D,0,none⟩=some (.int .i64 t.1):=bW hHD rfl;have d1:ao H ⟨D,1,none⟩=some (.int .i64 t.2.1):=bW hHD rfl;have d2:ao H ⟨D,2,none⟩=some (.int .i64 t.2.2):=bW hHD rfl;refine bF H (hHle h1 rfl) ?_;simp[d0,d1,d2];refine eR (g:=a) (o:=0) (n:=1) (v:=.int .i64 t.1) (by kernel_rfl) rfl rfl rfl (by simp[Value.oneCell']) (hle1 _ _ ha) (by omega) fun h2 hs2 ⟨row2,hr2,he2⟩ ho2=>?_;refine⟨hHle h2 (ho2 D (by omega)),?_⟩;refine eR (g:=b) (o:=0) (n:=1) (v:=.int .i64 t.2.1) (by kernel_rfl) rfl rfl rfl (by simp[Value.oneCell']) ((ho2 b (Ne.symm hab)).trans (hle1 _ _ hb)) (by omega) fun h3 hs3 ⟨row3,hr3,he3⟩ ho3=>?_;refine⟨hHle h3 ((ho3 D (by omega)).trans (ho2 D (by omega))),?_⟩;refine eR (g:=c) (o:=0) (n:=1) (v:=.int .i64 t.2.2) (by kernel_rfl) rfl rfl rfl (by simp[Value.oneCell']) ((ho3 c (Ne.symm hbc)).trans ((ho2 c (Ne.symm hac)).trans (hle1 _ _ hc))) (by omega) fun h4 hs4 ⟨row4,hr4,he4⟩ ho4=>?_;have one : ∀{row r:Array Value} {v:Value},v.cells = #[v]->r.size=1->row.toList=r.toList.take 0++v.cells.toList++r.toList.drop (0+1)->row = #[v]:=by intro row r v hv hr he;rw[<-Array.toList_inj,he,hv,NN,MB,MG (by simp[hr])];simp
 rw[one rfl sa he2]at hr2;rw[one rfl sb he3]at hr3;rw[one rfl sc he4]at hr4;refine⟨?_,?_,hr4,by omega,fun k hk h1' h2' h3'=>?_⟩
 ·rw[ho4 a hac,ho3 a hab];exact hr2
 ·rw[ho4 b hbc];exact hr3
 rw[ho4 k h3',ho3 k h2',ho2 k h1'];exact(hle1 k h[k] (Array.getElem?_eq_getElem (by omega))).trans (Array.getElem?_eq_getElem (by omega)).symm
theorem Br{a c:Nat}{h:Heap}:qf Tryz.prog N.cG #[.pointer (some ⟨a,0,none⟩),.pointer (some ⟨b,0,none⟩),.pointer (some ⟨c,0,none⟩)] .returning h (fun u' h'=>u' = .returning/\h'=h):=by refine oO (args:=[.pointer (some ⟨a,0,none⟩),.pointer (some ⟨b,0,none⟩),.pointer (some ⟨c,0,none⟩)]) (t:=6) (L:=L.cG.body.tail) (tys:=#[]) follows F.cG Q.cG (by kernel_rfl) (by kernel_rfl) (by kernel_rfl) (LD (by kernel_rfl)) E.oT (by kernel_rfl) (by kernel_rfl) (LD (by kernel_rfl)) ?_;have hrec:jU .returning=(.nilIface,.returning):=rfl;rw[hrec];simp[L.cG,LC.tail];refine Aq (ms:=#[]) (by kernel_rfl) rfl (.inl ⟨rfl,rfl⟩) ?_;simp
def manyN (f:an) (k:Nat):Int:=up (fun i n=>n+(((nth f.blocks i).phis.length:Int)+(nth f.blocks i).ins.length)) k f.blocks.length
def CK (f:an):Int:=manyN f f.blocks.length
def qd (g:Gr):List Int:=(xG g (g.length*g.length+1)).getD []
def xt (f:an):Except Tr MW->Except Tr Unit
 | .error t=>.error t
 | .ok m=>qR f m (qd (ofG f.blocks))
def mg (f:an):Except Tr Unit:=
 if bU f.params 0 4=false then .error (1,0,0)
 else if f.blocks.length=0 then .error (14,0,0)
 else if ¬(f.blocks.length<=512/\CK f<=4096) then .error (2,0,0)
 else xt f (ma f (fun _=>none))
def ir (f:an):Tr:=match mg f with
 | .ok _=>(0,0,0)
 | .error t=>t
theorem HD{f:an}{k:Nat}:0<=manyN f k:=by
 unfold manyN;induction k with
 | zero=>simp[up]
 | succ k ih=>rw[up];omega
theorem ED{f:an}{m m':MW}(h:ma f m = .ok m'): ∀i,i<f.blocks.length->(nth f.blocks i).term.to.length<=65:=by
 intro i hi;have key : ∀n,n<=f.blocks.length->∃s,upE (blkS f) n m = .ok s:=fun n hn=>by
  cases e:upE (blkS f) n m with
  | ok s=>exact⟨s,rfl⟩
  | error t=>rw[ma,zn hn e]at h;cases h
 obtain⟨s,hs⟩:=key i (by omega);obtain⟨s',hs'⟩:=key (i+1) hi;rw[ju hs,blkS]at hs';split at hs'
 ·cases hs'
 split at hs'
 ·cases hs'
 rw[endS]at hs';split at hs'
 ·rename_i hok;rw[n8]at hok;split at hok
  ·rename_i sh hsh;simp only[bU,LK,decide_eq_true_eq]at hok;have:sh.2.2.2<=65:=by
    simp only[gJ,putM]at hsh;repeat' (split at hsh)
    all_goals first | (cases hsh;done) | (cases hsh;decide)
   omega
  cases hok
 cases hs'
theorem Gs{g:Gr}(hg:0<g.length):xG g (g.length*g.length+1)=some (qd g):=by obtain⟨_,_,l,hl,_⟩:=xF hg;rw[qd,hl];rfl
theorem one_cell{row r:Array Value}{v:Value}(hv:v.cells = #[v])(hr:r.size=1)(he:row.toList=r.toList.take 0++v.cells.toList++r.toList.drop (0+1)):row = #[v]:=by rw[<-Array.toList_inj,he,hv,NN,MB,MG (by simp[hr])];simp
structure SmB (x:BlkD):Prop where
 phis:x.phis.length<=10000
 ins:x.ins.length<=10000
 args:x.term.args.length<=10000
 to:x.term.to.length<=10000
 phi : ∀i,i<x.phis.length->(nth x.phis i).ins.length<=10000
 inn : ∀i,i<x.ins.length->(nth x.ins i).args.length<=10000
structure SmF (f:an):Prop where
 len:f.blocks.length<=10000
 blk : ∀i,i<f.blocks.length->SmB (nth f.blocks i)
theorem Hm{f:an}{v:Value}{h:Heap}(hv:Rd (vw h) v f)(hsm:SmF f):
  az Tryz.prog N.gH #[v] h (fun u h'=>u = .tuple #[.int .i64 (ir f).1,.int .i64 (ir f).2.1,.int .i64 (ir f).2.2]/\(vw h).le (vw h')):=by
 refine pU (args:=[v]) (g:=N.cG) (t:=9) (capops:=#[.tmp 2,.tmp 3,.tmp 4]) (tys:=#[])
  (Mid:=fun ρ hh=>ρ=[(0,v),(1,.pointer (some ⟨h.size,0,none⟩)),(2,.pointer (some ⟨h.size+1,0,none⟩)),(3,.pointer (some ⟨h.size+2,0,none⟩)),(4,.pointer (some ⟨h.size+3,0,none⟩))]/\hh.size=h.size+4/\(vw h).le (vw hh)/\At (vw hh) ⟨h.size,0,none⟩ f/\
   hh[h.size+1]? = some (.cells #[.int .i64 0] T.mW (0,0))/\hh[h.size+2]? = some (.cells #[.int .i64 0] T.int (0,0))/\hh[h.size+3]? = some (.cells #[.int .i64 0] T.int (0,0)))
  follows F.gH B.gH (by kernel_rfl) (by kernel_rfl) (by kernel_rfl) (by kernel_rfl) (by kernel_rfl) (by kernel_rfl) (LD (by kernel_rfl)) (by kernel_rfl) E.kN (by kernel_rfl) E.iD (by kernel_rfl) R.wU (LD (by kernel_rfl)) ?_ ?_
 ·simp[L.kN];refine gm rfl hv fun h1 e1 hle1 hs1 hat=>?_;refine eZ (z:=.int .i64 0) (by kernel_rfl) ?_;refine eZ (z:=.int .i64 0) (by kernel_rfl) ?_;refine eZ (z:=.int .i64 0) (by kernel_rfl) ?_;have q1:=bm h1 (.cells (Value.int .i64 0).cells T.mW);generalize e2:h1.push (.cells (Value.int .i64 0).cells T.mW)=h2 at q1;have b2:h2[h1.size]? = some (.cells #[.int .i64 0] T.mW (0,0)):=by rw[<-e2];simp
  have s2:h2.size=h1.size+1:=by rw[<-e2];simp
  have q2:=bm h2 (.cells (Value.int .i64 0).cells T.int);generalize e3:h2.push (.cells (Value.int .i64 0).cells T.int)=h3 at q2;have b3:h3[h2.size]? = some (.cells #[.int .i64 0] T.int (0,0)):=by rw[<-e3];simp
  have s3:h3.size=h2.size+1:=by rw[<-e3];simp
  have q3:=bm h3 (.cells (Value.int .i64 0).cells T.int);generalize e4:h3.push (.cells (Value.int .i64 0).cells T.int)=h4 at q3;have b4:h4[h3.size]? = some (.cells #[.int .i64 0] T.int (0,0)):=by rw[<-e4];simp
  have s4:h4.size=h3.size+1:=by rw[<-e4];simp
  have hsz:h1.size=h.size+1:=hs1;have e22:h2.size=h.size+2:=by omega
  have e32:h3.size=h.size+3:=by omega
  rw[hsz]at b2;rw[e22]at b3;rw[e32]at b4;rw[e22,e32,hsz];simp;exact⟨by omega,View.le_trans hle1 (View.le_trans q1 (View.le_trans q2 q3)),hat.mono (View.le_trans q1 (View.le_trans q2 q3)),q3 _ _ (q2 _ _ b2),q3 _ _ b3,b4⟩
 rintro ρ hh ⟨rfl,hs,hle,hat,hb1,hb2,hb3⟩;refine⟨[.pointer (some ⟨h.size+1,0,none⟩),.pointer (some ⟨h.size+2,0,none⟩),.pointer (some ⟨h.size+3,0,none⟩)],by simp[rD],
  ⟨fun ch h2=>∃t,mg f = .error t/\ch=trV t/\(vw hh).le (vw h2),fun ρ=>Lft.look ρ 2=some (.pointer (some ⟨h.size+1,0,none⟩))/\Lft.look ρ 3=some (.pointer (some ⟨h.size+2,0,none⟩))/\Lft.look ρ 4=some (.pointer (some ⟨h.size+3,0,none⟩))⟩,?_,?_⟩;rotate_left
 ·rintro ch ρ2 h2 ⟨t,ht,rfl,hle2⟩ ⟨l2,l3,l4⟩;refine⟨_,E8 (hle2 _ _ hb1) (hle2 _ _ hb2) (hle2 _ _ hb3) rfl rfl rfl (by omega) (by omega) (by omega),?_⟩;rintro u' h3 ⟨rfl,g1,g2,g3,gs,go⟩;have c1:ao (vw h3) ⟨h.size+1,0,none⟩=some (.int .i64 t.1):=bW (show vw h3 _=_ from g1) rfl;have c2:ao (vw h3) ⟨h.size+2,0,none⟩=some (.int .i64 t.2.1):=bW (show vw h3 _=_ from g2) rfl;have c3:ao (vw h3) ⟨h.size+3,0,none⟩=some (.int .i64 t.2.2):=bW (show vw h3 _=_ from g3) rfl;refine⟨rfl,[.int .i64 t.1,.int .i64 t.2.1,.int .i64 t.2.2],by simp[R.gH,l2,l3,l4,c1,c2,c3],?_⟩;refine⟨by simp[ir,ht],fun b o hb=>?_⟩;have hlt:=View.lt (View.le_refl (vw h)) hb;show h3[b]? = _;have hb2':=hle2 _ _ (hle _ _ hb);have hlt2:=View.lt (View.le_refl (vw h2)) hb2';rw[go b hlt2 (by omega) (by omega) (by omega)];exact hb2'
 obtain⟨cp,vb,cb⟩:=fM hat;have hbb:=cb.2.bound;have bad : ∀{t:Tr} {ch:List PanicEntry} {h2:Heap},mg f = .error t->ch=trV t->(vw hh).le (vw h2)->∃t,mg f = .error t/\ch=trV t/\(vw hh).le (vw h2):=fun a b c=>⟨_,a,b,c⟩;simp only[lV,Et];dsimp only[L.iD];refine aa fun z hz=>?_;simp[cp];refine aj (by kernel_rfl) kl ?_;rintro _ _ ⟨rfl,rfl⟩;refine dZ (by kernel_rfl) iG ?_ ?_;rotate_left
 ·rintro _ _ ⟨e,rfl,rfl⟩;exact⟨.inl rfl,bad (by rw[mg,if_pos e]) rfl (View.le_refl _)⟩
 rintro _ hh ⟨e1,rfl⟩;have e1':¬bU f.params 0 4=false:=by rw[e1];simp
 subst hz;refine aa fun z hz=>?_;simp[cb.1,cb.2.len];refine dZ (by kernel_rfl) iG ?_ ?_;rotate_left
 ·rintro _ _ ⟨e,rfl,rfl⟩;exact⟨.inl rfl,bad (by rw[mg,if_neg e1',if_pos (by simpa using e)]) rfl (View.le_refl _)⟩
 rintro _ hh ⟨e2,rfl⟩;have e2':¬f.blocks.length=0:=by intro e;rw[e]at e2;simp at e2
 subst hz;refine aa fun z hz=>?_;simp[cb.1,cb.2.len];subst hz;refine aa fun z hz=>?_;simp[cb.1,cb.2.len];refine a6 [1,2,3,4,5,23,24,25] (fun(_:Unit) k=>[.pointer (some ⟨h.size,0,none⟩),.pointer (some ⟨h.size+1,0,none⟩),.pointer (some ⟨h.size+2,0,none⟩),.pointer (some ⟨h.size+3,0,none⟩),.int .i64 (manyN f k),vb,.int .i64 f.blocks.length,.int .i64 k])
  (fun _ k h1=>(vw hh).le (vw h1)/\manyN f k<=f.blocks.length+k*2000000) f.blocks.length ()
  rfl (by omega) rfl ⟨View.le_refl _,by simp[manyN,up]⟩ (fun _ _=>rfl) (fun v i h1 hk m=>by simp) ?_ ?_
 ·rintro _ k h1 hlt ⟨hle1,hmk⟩ K2 hK2;have cb1:=cb.2.mono hle1;obtain⟨u,hu,hur⟩:=cb1.wh rfl (N:=6) rfl hlt;refine aa fun y hy=>?_;simp(disch:=omega)[cb1.idxn (N:=6) rfl,hu _ (View.le_refl _)];refine fm (z:=.agg #[.slice none 0 0,.slice none 0 0,.int .i64 0,.slice none 0 0,.slice none 0 0,.int .i32 0]) (by kernel_rfl) rfl (by kernel_rfl) hur (fun _=>by simp) (fun _=>by simp) fun h2 hle2 hsz2 hat2=>?_;obtain⟨vp,vi,va,vt,bp,bi,_⟩:=ib (hat2 (vw h2) hle2 rfl);have bph:=bp.2.bound
  have bih:=bi.2.bound;have hm1:manyN f (k+1)=manyN f k+(((nth f.blocks k).phis.length:Int)+(nth f.blocks k).ins.length):=rfl;have h0:=HD (f:=f) (k:=k);subst hy;simp[bp.1,bp.2.len,bi.1,bi.2.len];have s1:=(hsm.blk k hlt).phis;have s2:=(hsm.blk k hlt).ins;have s0:=hsm.len;rw[bJ (a:=((nth f.blocks k).phis.length:Int)+(nth f.blocks k).ins.length) (by omega) (by omega),bJ (by omega) (by omega)];exact hK2 () _ _ rfl (by rw[hm1];rfl) ⟨View.le_trans hle1 hle2,by rw[hm1];omega⟩
 rintro _ h1 ⟨hle1,hmk⟩;simp;subst hz;refine aa fun z hz=>?_;have cb1:=cb.2.mono hle1;have cc1:=ae hle1 cb.1;have cp1:=ae hle1 cp;simp[cc1,cb1.len];have hms:manyN f f.blocks.length=CK f:=rfl;rw[hms];refine dZ (by kernel_rfl) iG ?_ ?_;rotate_left
 ·rintro _ _ ⟨e,rfl,rfl⟩;refine⟨.inl rfl,bad ?_ rfl hle1⟩;rw[mg,if_neg e1',if_neg e2',if_pos];intro e3;simp at e;omega
 rintro _ h1 ⟨e3,rfl⟩;have e3':¬¬(f.blocks.length<=512/\CK f<=4096):=by simp at e3;omega
 have hchk:mg f=xt f (ma f (fun _=>none)):=by rw[mg,if_neg e1',if_neg e2',if_neg e3']
 subst hz;refine aa fun z hz=>?_;simp[EW cp1 cc1];refine qk ?_;have hle2:=bm h1 (.map #[] 0);have hm2:gX (.int .i64) (h1.push (.map #[] 0)) h1.size (mapE encW fun _=>none):=by rw[xj];exact gX.none (by simp)
 have hs2:(h1.push (.map #[] 0)).size=h1.size+1:=by simp
 generalize h1.push (.map #[] 0)=h2 at hle2 hm2 hs2;refine aE (z:=.agg #[.int .i64 0,.slice none 0 0,.map none]) (places:=[(0,2),(2,1)]) (vs:=[(0,.agg #[.int .i64 f.params,vb]),(1,.map (some h1.size))]) (cs:=#[.int .i64 f.params,vb,.map (some h1.size)]) (by kernel_rfl) (by kernel_rfl) (by simp) (by rfl) ?_;refine j6 (v:=.agg #[.int .i64 f.params,vb,.map (some h1.size)]) rfl ?_;have hle3:=bm h2 (.cells (Value.cells (.agg #[.int .i64 f.params,vb,.map (some h1.size)])) T.iX);have hbk:(h2.push (.cells (Value.cells (.agg #[.int .i64 f.params,vb,.map (some h1.size)])) T.iX))[h2.size]? = some (.cells #[.int .i64 f.params,vb,.map (some h1.size)] T.iX (0,0)):=by simp
 have hs3:(h2.push (.cells (Value.cells (.agg #[.int .i64 f.params,vb,.map (some h1.size)])) T.iX)).size=h2.size+1:=by simp
 generalize h2.push (.cells (Value.cells (.agg #[.int .i64 f.params,vb,.map (some h1.size)])) T.iX)=h3 at hle3 hbk hs3;subst hz;have hsk:skip h1.size h3 h2.size=some (.cells #[.int .i64 f.params,vb,.map (some h1.size)] T.iX (0,0)):=by rw[jT (by omega)];exact hbk
 have hle13:=View.le_trans hle2 hle3;have hle1k:(vw h1).le (skip h1.size h3):=fun b o hb=>by have hlt:=View.lt (View.le_refl (vw h1)) hb;rw[jT (by omega)];exact hle13 b o hb
 have k3:Lk h3 h2.size h1.size vb f (fun _=>none):=⟨bW hsk rfl,bW hsk rfl,bW hsk rfl,cb1.mono hle1k,hm2.ext hle3⟩;generalize h2.size=Kb at k3;generalize hr:h1.size=r at k3;have hkk : ∀{h':Heap},Kept h3 h' (some r)->(vw hh).le (vw h'):=fun kp b o hb=>by have h1b:=hle1 b o hb;have hlt:=View.lt (View.le_refl (vw h1)) h1b;have h3b:=hle13 b o h1b;have hlt3:=View.lt (View.le_refl (vw h3)) h3b;show _=_;exact(kp.block b hlt3 (by simp;omega)).trans h3b
 refine aa fun z hz=>?_;simp;refine dZ (by kernel_rfl) (EM k3) ?_ ?_;rotate_left
 ·rintro _ h4 ⟨t,ht,rfl,kp4⟩;exact⟨.inl rfl,bad (by rw[hchk,ht];rfl) rfl (hkk kp4)⟩
 rintro _ h4 ⟨m4,hm4,k4,kp4⟩;have hto:=ED hm4;rw[hm4]at hchk;have hchk:mg f=qR f m4 (qd (ofG f.blocks)):=hchk;subst hz;refine aa fun z hz=>?_;simp;have hgl:(ofG f.blocks).length=f.blocks.length:=by simp[ofG]
 refine dZ (by kernel_rfl) (HY k4 (L9 hsm.len (by decide)) (fun i hi=>L9 (hto i hi) (by decide)) (Gs (by omega))) ?_ ?_;rotate_left
 ·rintro _ h5 ⟨t,ht,rfl,hle5⟩;exact⟨.inl rfl,bad (by rw[hchk,ht]) rfl (View.le_trans (hkk kp4) hle5)⟩
 rintro _ h5 ⟨hus,hle5⟩;have hle05:=View.le_trans (hkk kp4) hle5;subst hz;simp;refine eR (g:=h.size+1) (o:=0) (n:=1) (v:=.int .i64 0) (by kernel_rfl) rfl rfl rfl (by simp[Value.oneCell']) (hle05 _ _ hb1) (by simp) fun h6 hs6 ⟨row6,hr6,he6⟩ ho6=>?_;refine eR (g:=h.size+2) (o:=0) (n:=1) (v:=.int .i64 0) (by kernel_rfl) rfl rfl rfl (by simp[Value.oneCell']) ((ho6 _ (by omega)).trans (hle05 _ _ hb2)) (by simp) fun h7 hs7 ⟨row7,hr7,he7⟩ ho7=>?_;refine eR (g:=h.size+3) (o:=0) (n:=1) (v:=.int .i64 0) (by kernel_rfl) rfl rfl rfl (by simp[Value.oneCell']) ((ho7 _ (by omega)).trans ((ho6 _ (by omega)).trans (hle05 _ _ hb3))) (by simp) fun h8 hs8 ⟨row8,hr8,he8⟩ ho8=>?_;rw[one_cell rfl rfl he6]at hr6;rw[one_cell rfl rfl he7]at hr7;rw[one_cell rfl rfl he8]at hr8;refine⟨_,Br,?_⟩;rintro u' h9 ⟨rfl,rfl⟩;have c1:ao (vw h9) ⟨h.size+1,0,none⟩=some (.int .i64 0):=bW (show vw h9 _=_ from(ho8 _ (by omega)).trans ((ho7 _ (by omega)).trans hr6)) rfl
 have c2:ao (vw h9) ⟨h.size+2,0,none⟩=some (.int .i64 0):=bW (show vw h9 _=_ from(ho8 _ (by omega)).trans hr7) rfl;have c3:ao (vw h9) ⟨h.size+3,0,none⟩=some (.int .i64 0):=bW (show vw h9 _=_ from hr8) rfl;refine⟨rfl,[.int .i64 0,.int .i64 0,.int .i64 0],by simp[R.gH,c1,c2,c3],?_⟩;have htold:ir f=(0,0,0):=by rw[ir,hchk,hus]
 refine⟨by simp[htold],fun b o hb=>?_⟩;have hlt:=View.lt (View.le_refl (vw h)) hb;show h9[b]? = _;rw[ho8 b (by omega),ho7 b (by omega),ho6 b (by omega)];exact hle05 _ _ (hle _ _ hb)
structure Th where
 blk:Int
 place:Int
 mks:List Int
 tks:List Int
 deriving Inhabited
def phiT (f:an) (b i:Nat):Th:=⟨b,-1-i,[(nth (nth f.blocks b).phis i).dst],(nth (nth f.blocks b).phis i).ins.map InD.val⟩
def insT (f:an) (b i:Nat):Th:=⟨b,i,dc (nth (nth f.blocks b).ins i),(nth (nth f.blocks b).ins i).args⟩
def endT (f:an) (b:Nat):Th:=⟨b,(nth f.blocks b).ins.length,[],(nth f.blocks b).term.args⟩
def thB (f:an) (b:Nat):List Th:=rows (phiT f b) (nth f.blocks b).phis.length++rows (insT f b) (nth f.blocks b).ins.length++[endT f b]
def thTo (f:an) (n:Nat):List Th:=up (fun b l=>l++thB f b) n []
def aL (f:an):List Th:=thTo f f.blocks.length
theorem iE{f:an}:thTo f (n+1)=thTo f n++thB f n:=rfl
theorem lI {α β:Type} (I:β->Prop) {f:β->α->β} (hf : ∀x a,I x->I (f x a)) : ∀(l:List α) (x:β),I x->I (l.foldl f x)
 | [],_,h=>h
 | a::l,x,h=>lI I hf l _ (hf x a h)
theorem zg{x:Int}:-9223372036854775808<=IntKind.i64.wrap x/\IntKind.i64.wrap x<=9223372036854775807:=by rw[IntKind.wrap_i64];omega
theorem FT{β:Type}{x:Nat->β}{y:β}:y∈rows x n↔∃i,i<n/\y=x i:=by simp only[rows,MR,M7];exact⟨fun⟨i,h,e⟩=>⟨i,h,e.symm⟩,fun⟨i,h,e⟩=>⟨i,h,e.symm⟩⟩
theorem dX{f:an}{t:Th}:t∈thTo f n↔∃b,b<n/\t∈thB f b:=by
 induction n with
 | zero=>simp[thTo,up]
 | succ n ih=>
  rw[iE,LP,ih];constructor
  ·rintro(⟨b,h1,h2⟩ | h)
   ·exact⟨b,by omega,h2⟩
   exact⟨n,by omega,h⟩
  rintro⟨b,h1,h2⟩;rcases LI b n with h | h
  ·exact .inl ⟨b,h,h2⟩
  rw[show b=n by omega]at h2;exact .inr h2
theorem eN{f:an}{t:Th}:t∈thB f b↔(∃i,i<(nth f.blocks b).phis.length/\t=phiT f b i)\/(∃i,i<(nth f.blocks b).ins.length/\t=insT f b i)\/t=endT f b:=by simp only[thB,LP,FT,LM,or_assoc]
theorem Bh{i:InsD}:(dc i).length<=2:=by unfold dc;split<;>(try split)<;>simp
structure ThOk (f:an) (t:Th):Prop where
 blk:0<=t.blk/\t.blk<f.blocks.length
 place:-10000<=t.place/\t.place<=10000
 mks:t.mks.length<=10000
 tks:t.tks.length<=10000
 ins:0<=t.place->t.mks≠[]->t.place<(nth f.blocks t.blk.toNat).ins.length
theorem oS{f:an}(hsm:SmF f){t:Th}(h:t∈aL f):ThOk f t:=by
 obtain⟨b,hb,h⟩:=dX.1 h;have s:=hsm.blk b hb;have sp:=s.phis;have si:=s.ins;rcases eN.1 h with⟨i,hi,rfl⟩ | ⟨i,hi,rfl⟩ | rfl
 ·exact⟨⟨by simp[phiT],by simp[phiT];omega⟩,by simp only[phiT];omega,by simp[phiT],by simpa[phiT]using s.phi i hi,fun h=>by simp only[phiT]at h;omega⟩
 ·refine⟨⟨by simp[insT],by simp[insT];omega⟩,by simp only[insT];omega,L9 Bh (by decide),s.inn i hi,fun _ _=>by simp[insT];omega⟩
 exact⟨⟨by simp[endT],by simp[endT];omega⟩,by simp only[endT];omega,by simp[endT],s.args,fun _ h=>absurd rfl h⟩
theorem zp {f:an} (hsm:SmF f) : ∀{n:Nat},n<=f.blocks.length->(thTo f n).length<=n*20001
 | 0,_=>by simp[thTo,up]
 | n+1,h=>by have ih:=zp hsm (n:=n) (by omega);have s:=hsm.blk n (by omega);have sp:=s.phis;have si:=s.ins;rw[iE,LH,thB];simp only[LH,fP,LJ];omega
theorem oZ{d:InsD}{v:Value}{h:Heap}(hd:Rd (vw h) v d):az Tryz.prog N.gC #[v] h (fun u h'=>(vw h).le (vw h')/\SlRd (fresh h h') u (dc d)/\(d.op=16->u = .slice none 0 0)):=by
 refine aq (args:=[v]) follows F.gC E.gC (LD (by kernel_rfl)) fun K hK=>?_;simp[L.gC];refine gm rfl hd fun h1 _ hle1 hsz1 hat=>?_;obtain⟨c0,c1,c2,va,ca⟩:=rJ hat;have r1:=(hat.part InsD.kQ).rng;have r2:=(hat.part InsD.An).rng;simp[c0];refine⟨fun e1=>hK _ _ ⟨hle1,by simpa[dc,e1]using fo,fun _=>rfl⟩,fun e1=>⟨fun e2=>?_,fun e2=>?_⟩⟩
 ·simp[c1,c2];refine lA (X:=nothing) (ds:=[d.dst,d.two]) (vs:=[.int .i64 d.dst,.int .i64 d.two]) rfl El.aS (by simp) ⟨dr.2 ⟨rfl,r1⟩,dr.2 ⟨rfl,r2⟩,trivial⟩ dg rfl (by omega) fun u h2 hle2 hsz2 hu _=>?_;exact hK _ _ ⟨View.le_trans hle1 hle2,by simpa[dc,e2]using hu _ dg (by unfold fresh;rw[if_neg (by omega)]),fun e=>absurd e e1⟩
 simp[c1];refine lA (X:=nothing) (ds:=[d.dst]) (vs:=[.int .i64 d.dst]) rfl El.aS (by simp) ⟨dr.2 ⟨rfl,r1⟩,trivial⟩ dg rfl (by omega) fun u h2 hle2 hsz2 hu _=>?_;exact hK _ _ ⟨View.le_trans hle1 hle2,by simpa[dc,e1,e2]using hu _ dg (by unfold fresh;rw[if_neg (by omega)]),fun e=>absurd e e1⟩
def mF (op n:Int):Bool:=if op=1 then decide (n=0) else if op=15 then decide (n=1) else if op=17 then decide (n<=4) else decide (n=2)
theorem DL{op n:Int}{h:Heap}:az Tryz.prog N.fw #[.int .i64 op,.int .i64 n] h (fun v h'=>v = .bool (mF op n)/\h'=h):=by refine aq (args:=[.int .i64 op,.int .i64 n]) follows F.fw E.fw (LD (by kernel_rfl)) fun K hK=>?_;simp[L.fw];refine⟨fun h1=>hK _ _ ⟨by simp[mF,h1],rfl⟩,fun h1=>⟨fun h2=>hK _ _ ⟨by simp[mF,h1,h2],rfl⟩,fun h2=>⟨fun h3=>hK _ _ ⟨by simp[mF,h1,h2,h3],rfl⟩,fun h3=>hK _ _ ⟨by simp[mF,h1,h2,h3],rfl⟩⟩⟩⟩
theorem ES{B:Nat}{d:da}(h:At H ⟨B,0,none⟩ d): ∃va vt,ao H ⟨B,0,none⟩=some (.int .i64 d.kind)/\Sl H ⟨B,1,none⟩ va d.args/\Sl H ⟨B,2,none⟩ vt d.to:=by obtain⟨va,h4⟩:=(h.part da.qn).sl;obtain⟨vt,h5⟩:=(h.part da.tY).sl;exact⟨va,vt,by simpa using(h.part da.wz).int,by simpa using h4,by simpa using h5⟩
def jG (t:da):Bool:=
 if t.kind=1 then decide ((t.args.length:Int)=0)&&decide ((t.to.length:Int)=1)
 else if t.kind=2 then decide ((t.args.length:Int)=1)&&decide ((t.to.length:Int)=2)
 else if t.kind=3 then decide ((t.args.length:Int)=1)&&decide ((2:Int)<=t.to.length)&&decide ((t.to.length:Int)<=65)
 else if t.kind=4 then decide ((t.args.length:Int)<=1)&&decide ((t.to.length:Int)=0)
 else if t.kind=5 then decide ((t.args.length:Int)=0)&&decide ((t.to.length:Int)=0) else false
theorem Ir{d:da}{v:Value}{h:Heap}(hd:Rd (vw h) v d):az Tryz.prog N.ia #[v] h (fun u h'=>u = .bool (jG d)/\(vw h).le (vw h')):=by
 refine aq (args:=[v]) follows F.ia E.ia (LD (by kernel_rfl)) fun K hK=>?_;dsimp only[L.ia];refine aa fun z hz=>?_;simp;refine gm rfl hd fun h1 _ hle1 hsz1 hat=>?_;obtain⟨va,vt,c0,ba,bt⟩:=ES hat;generalize h.size=B at c0 ba bt;subst hz;by_cases k1:d.kind=1
 ·simp[c0,ba.1,ba.2.len,bt.1,bt.2.len,k1];exact hK _ _ ⟨by simp[jG,k1],hle1⟩
 by_cases k2:d.kind=2
 ·simp[c0,ba.1,ba.2.len,bt.1,bt.2.len,k1,k2];exact hK _ _ ⟨by simp[jG,k1,k2],hle1⟩
 by_cases k3:d.kind=3
 ·simp[c0,ba.1,ba.2.len,bt.1,bt.2.len,k1,k2,k3];exact hK _ _ ⟨by simp[jG,k1,k2,k3],hle1⟩
 by_cases k4:d.kind=4
 ·simp[c0,ba.1,ba.2.len,bt.1,bt.2.len,k1,k2,k3,k4];exact hK _ _ ⟨by simp[jG,k1,k2,k3,k4],hle1⟩
 by_cases k5:d.kind=5
 ·simp[c0,ba.1,ba.2.len,bt.1,bt.2.len,k1,k2,k3,k4,k5];exact hK _ _ ⟨by simp[jG,k1,k2,k3,k4,k5],hle1⟩
 simp[c0,ba.1,ba.2.len,bt.1,bt.2.len,k1,k2,k3,k4,k5];exact hK _ _ ⟨by simp[jG,k1,k2,k3,k4,k5],hle1⟩
def bf (f:an) (b:Int):List Int:=sift (fun a=>decide (b∈(nth f.blocks a).term.to)) (fun a=>(a:Int)) f.blocks.length
theorem uu{v:Value}{l:List BlkD}(h:SlRd H v l){i:Nat}(hi:i<l.length): ∃u,Sl H ((((slA v).add (i*6)).add 2).add 2) u (nth l i).term.to:=by rw[ak hi];exact((((h.at hi).part BlkD.kz).part da.tY)).sl
theorem oP{f:an}{b:Int}{v:Value}{h:Heap}(hv:Rd (vw h) v f)(hn:f.blocks.length<=1000000):
  az Tryz.prog N.ee #[v,.int .i64 b] h (fun u h'=>(vw h).le (vw h')/\SlRd (fresh h h') u (bf f b)):=by
 refine aq (args:=[v,.int .i64 b]) follows F.ee E.ee (LD (by kernel_rfl)) fun K hK=>?_;dsimp only[L.ee];refine aa fun z hz=>?_;simp;refine gm rfl hv fun h1 _ hle1 hsz1 hat=>?_;obtain⟨_,vb,cb⟩:=fM hat;generalize h.size=B at cb;subst hz;refine aa fun z hz=>?_;simp;refine qT (α:=Int) El.aS fun h2 hle2 hsz2 own2=>?_;have m0:=Mine.empty (V:=nothing) (W:=nothing) (View.le_refl (vw h1)) hle2 dg (Old.nothing _ _) own2;generalize Value.slice (some ⟨h1.size,0,none⟩) 0 0=v0 at m0;have cb2:=cb.2;have cc2:=cb.1;subst hz;refine aa fun z hz=>?_;simp;refine aO [1,2,5,6] (fun(r:Value) k=>[.int .i64 b,.pointer (some ⟨B,0,none⟩),r,.int .i64 k]) (fun r k h3=>Mine nothing h1 h3 nothing T.int r (sift (fun a=>decide (b∈(nth f.blocks a).term.to)) (fun a=>(a:Int)) k)) f.blocks.length v0
  rfl (by omega) rfl m0 (fun _ _=>rfl) (fun v k h3 hk m=>by simp[ae m.old cc2,(cb2.mono m.old).len]) ?_ ?_
 ·rintro r k h3 hlt m K2 hK2;have hle3:=m.old;have cb3:=cb2.mono hle3;obtain⟨w,hw⟩:=uu cb3 hlt;have hwb:=hw.2.bound;have hsl:=ij (p:=fun a=>decide (b∈(nth f.blocks a).term.to)) (x:=fun a=>(a:Int)) k;refine aa fun y hy=>?_;simp(disch:=omega)[ae hle3 cc2,cb3.idxn (N:=6) rfl,hw.1];subst hy;simp;refine aO [1,2,5,6,7,8] (fun(_:Unit) j=>[.int .i64 b,.pointer (some ⟨B,0,none⟩),r,.int .i64 k,w,.int .i64 j]) (fun _ j h4=>h4=h3/\∀i,i<j->nth (nth f.blocks k).term.to i≠b) (nth f.blocks k).term.to.length ()
   rfl (by omega) rfl ⟨rfl,fun i hi=>by omega⟩ (fun _ _=>rfl) (fun v j h4 hk m=>by simp[hw.2.len]) ?_ ?_
  ·rintro _ j h3 hltj ⟨rfl,hpre⟩ K3 hK3;simp(disch:=omega)[hw.2.idx1 rfl,hw.2.int (View.le_refl _)];refine⟨fun e=>?_,fun e=>hK3 () _ _ rfl rfl ⟨rfl,fun i hi=>?_⟩⟩
   ·have hmem:b∈(nth f.blocks k).term.to:=e▸bc hltj;refine m.push (d:=(k:Int)) El.aS (by simp<;>rfl) (mN (by omega) (by omega)) (by omega) (by omega) (fun _=>by simp) (fun _=>by simp) fun u v' h5 m'=>?_;exact hK2 v' _ _ rfl rfl (by rw[jk (by simpa using hmem)];exact m')
   rcases LI i j with h | h
   ·exact hpre i h
   have:i=j:=by omega
   subst this;exact e
  rintro _ h3 ⟨rfl,hpre⟩;have hmem:¬b∈(nth f.blocks k).term.to:=fun hm=>by obtain⟨i,hi,e⟩:=LQ hm;exact hpre i hi (by rw[ak hi];exact e)
  simp;exact hK2 r _ _ rfl rfl (by rw[hZ (by simpa using hmem)];exact m)
 rintro r h3 m;simp;subst hz;simp;exact hK _ _ ⟨View.le_trans hle1 m.old,m.fresh.mono (nA hle1)⟩
theorem F4{u:Value}{d:da}(h:Rd H u d): ∃va vt,u = .agg #[.int .i64 d.kind,va,vt,.int .i32 d.imm.v]/\SlRd H va d.args/\SlRd H vt d.to:=by
 obtain⟨cs,rfl,c1,r1,e1,⟨rfl,h1⟩,c2,r2,e2,⟨va,rfl,h2⟩,c3,r3,e3,⟨vt,rfl,h3⟩,h4,h5⟩:=h;subst e3 e2;have he:cs.toList=[.int .i64 d.kind,va,vt,.int .i32 d.imm.v]:=by rw[e1,h4];rfl
 refine⟨va,vt,?_,h2,h3⟩;rw[<-Array.toList_inj.1 (he.trans rfl:cs.toList = #[Value.int .i64 d.kind,va,vt,.int .i32 d.imm.v].toList)]
theorem Ii{u:Value}{d:PhiD}(h:Rd H u d): ∃vi,u = .agg #[.int .i64 d.dst,vi]/\I64 d.dst/\SlRd H vi d.ins:=by obtain⟨cs,rfl,c1,r1,e1,⟨rfl,hd⟩,vi,h2,h3⟩:=h;exact⟨vi,by rw[<-Array.toList_inj.1 ((by rw[e1,h2];rfl):cs.toList = #[Value.int .i64 d.dst,vi].toList)],hd,h3⟩
theorem uD{u:Value}{d:InsD}(h:Rd H u d): ∃va,u = .agg #[.int .i64 d.op,.int .i64 d.dst,.int .i64 d.two,va,.int .i32 d.imm.v]/\(I64 d.op/\I64 d.dst/\I64 d.two/\-2147483648<=d.imm.v/\d.imm.v<=2147483647)/\SlRd H va d.args:=by obtain⟨cs,rfl,c1,r1,e1,⟨rfl,h1⟩,c2,r2,e2,⟨rfl,h2⟩,c3,r3,e3,⟨rfl,h3⟩,c4,r4,e4,⟨va,rfl,h4⟩,h5,h6⟩:=h;subst e4 e3 e2;exact⟨va,by rw[<-Array.toList_inj.1 ((by rw[e1,h5];rfl):cs.toList = #[Value.int .i64 d.op,.int .i64 d.dst,.int .i64 d.two,va,.int .i32 d.imm.v].toList)],⟨h1,h2,h3,h6⟩,h4⟩
theorem uU{d:Int}{v:Value}{l:List InD}(h1:I64 d)(h2:SlRd H v l):Rd H (.agg #[.int .i64 d,v]) (PhiD.mk d l):=⟨_,rfl,[.int .i64 d],[v],rfl,⟨rfl,h1⟩,v,rfl,h2⟩
theorem Ba{op d two:Int}{imm:I32}{v:Value}{l:List Int}(h:I64 op/\I64 d/\I64 two/\-2147483648<=imm.v/\imm.v<=2147483647)(h2:SlRd H v l):Rd H (.agg #[.int .i64 op,.int .i64 d,.int .i64 two,v,.int .i32 imm.v]) (InsD.mk op d two l imm):=
 ⟨_,rfl,[.int .i64 op],_,rfl,⟨rfl,h.1⟩,[.int .i64 d],_,rfl,⟨rfl,h.2.1⟩,[.int .i64 two],_,rfl,⟨rfl,h.2.2.1⟩,[v],_,rfl,⟨v,rfl,h2⟩,rfl,h.2.2.2⟩
theorem rB{vp vi va vt:Value}{p:List PhiD}{i:List InsD}{a t:List Int}{kd:Int}{imm:I32}(h1:SlRd H vp p)(h2:SlRd H vi i)(h3:SlRd H va a)(h4:SlRd H vt t)(h5:I64 kd)(h6:-2147483648<=imm.v/\imm.v<=2147483647):Rd H (.agg #[vp,vi,.int .i64 kd,va,vt,.int .i32 imm.v]) (BlkD.mk p i ⟨kd,a,t,imm⟩):=
 ⟨_,rfl,[vp],_,rfl,⟨vp,rfl,h1⟩,[vi],_,rfl,⟨vi,rfl,h2⟩,[.int .i64 kd],_,rfl,⟨rfl,h5⟩,[va],_,rfl,⟨va,rfl,h3⟩,[vt],_,rfl,⟨vt,rfl,h4⟩,rfl,h6⟩
theorem mq{α β:Type}[Rep α][Rep β]{v:Value}{l:List α}{l2:List β}(h:SlRd H v l)(hn:Rep.n α=Rep.n β)(hl:l.length=l2.length)(hc : ∀i (h1:i<l.length) (h2:i<l2.length) cs,Rep.rd H cs l[i]->Rep.rd H cs l2[i]):SlRd H v l2:=by
 obtain⟨a,cap,rfl,h1,h2,h3⟩:=h;refine⟨a,cap,by rw[hl],by omega,by omega,?_⟩;rcases h3 with rfl | ⟨ad,rfl,hs,hat⟩
 ·left;exact LO (by rw[<-hl];rfl)
 refine .inr ⟨ad,rfl,hs,fun i hi=>?_⟩;obtain⟨cs,g1,g2⟩:=hat i (by omega);rw[<-hn];exact⟨cs,g1,hc i (by omega) hi cs g2⟩
theorem v7{u:Value}{f:an}(h:Rd H u f): ∃vb,u = .agg #[.int .i64 f.params,vb]/\I64 f.params/\SlRd H vb f.blocks:=by obtain⟨cs,rfl,c1,r1,e1,⟨rfl,h1⟩,vb,h2,h3⟩:=h;exact⟨vb,by rw[<-Array.toList_inj.1 ((by rw[e1,h2];rfl):cs.toList = #[Value.int .i64 f.params,vb].toList)],h1,h3⟩
theorem gV{a:Value}{v:Int}(ha:a.oneCell'=true): ∀c∈[Value.int .i64 v,a],c.oneCell'=true:=by intro c hc;simp only[L4,MF,or_false]at hc;rcases hc with rfl | rfl<;>first | rfl | exact ha
abbrev Q3:=Cat Int (Cat Int Int)
instance:Inhabited Q3:=⟨⟨0,0,0⟩⟩
theorem CH{u:Value}{d:Q3}(h:Rd H u d):u = .agg #[.int .i64 d.a,.int .i64 d.b.a,.int .i64 d.b.b]/\I64 d.a/\I64 d.b.a/\I64 d.b.b:=by obtain⟨cs,rfl,c1,r1,e1,⟨rfl,h1⟩,c2,c3,rfl,⟨rfl,h2⟩,rfl,h3⟩:=h;exact⟨by rw[<-Array.toList_inj.1 ((by rw[e1];rfl):cs.toList = #[Value.int .i64 d.a,.int .i64 d.b.a,.int .i64 d.b.b].toList)],h1,h2,h3⟩
end Go.Proofs.YtbkdlhkoiagbbaaGreat
namespace Go.Lft
open Go Go.MapKept
def two (a b:Int):Value:=.agg #[.int .i64 a,.int .i64 b]
variable{b:Int}
theorem yN{a c d:Int}:two a b=two c d↔a=c/\b=d:=by simp[two]
structure Tw (P:Program) (k t:TypeId):Prop where
 hk:P.underlying k=some (.array 2 t)
 ht:P.underlying t=some (.int .i64)
 hs:P.cellsOf t=1
section
variable {P:Program} {k t:TypeId} {w:World}
theorem lK(q:Tw P k t){a:Int}{i:Nat}{v:Value}(hi:(#[Value.int .i64 a,.int .i64 b])[i]? = some v):(Go.part t #[.int .i64 a,.int .i64 b] i).run P w = .ok v w:=
 run_part_plain w (by simp[Program.plainKey,q.ht]) hi
theorem pV(q:Tw P k t){e:Bool}{a:Int}{n:Nat}:(Instr.checkKey e (n+2) k (two a b)).run P w = .ok () w:=by obtain⟨i,hi⟩:=info_of_underlying q.ht;unfold Instr.checkKey two;simp only[Sem.run_bind,run_underlying q.hk,Result.andThen_ok];simp only[Std.Legacy.Range.forIn_eq_forIn_range',Std.Legacy.Range.size,OX,Nat.add_one_sub_one,Nat.div_one];have h0:=lK (w:=w) q (a:=a) (b:=b) (i:=0) (v:=.int .i64 a) rfl;have h1:=lK (w:=w) q (a:=a) (b:=b) (i:=1) (v:=.int .i64 b) rfl;have hc : ∀x:Int,(Instr.checkKey e (n+1) t (.int .i64 x)).run P w = .ok () w:=fun x=>MapKept.run_checkKey (d:=.int .i64) q.ht (mC (j:=x)) e n;simp[List.range',Go.run_sizeOf w hi,q.hs,h0,h1,hc,Result.andThen]
theorem uQ(q:Tw P k t){a c d:Int}:(Op.equal k (two a b) (two c d)).run P w = .ok (decide (a=c/\b=d)) w:=by
 obtain⟨i,hi⟩:=info_of_underlying q.ht;unfold Op.equal two;rw[show Op.maxDepth=9998+1+1 from rfl,run_equalIn_array w _ _ _ q.hk hi,q.hs];have h0:=lK (w:=w) q (a:=a) (b:=b) (i:=0) (v:=.int .i64 a) rfl;have h1:=lK (w:=w) q (a:=a) (b:=b) (i:=1) (v:=.int .i64 b) rfl;have g0:=lK (w:=w) q (a:=c) (b:=d) (i:=0) (v:=.int .i64 c) rfl;have g1:=lK (w:=w) q (a:=c) (b:=d) (i:=1) (v:=.int .i64 d) rfl;have he : ∀x y:Int,(Op.equalIn (9998+1) t (.int .i64 x) (.int .i64 y)).run P w = .ok (x == y) w:=fun x y=>run_equalIn_int w 9998 t .i64 .i64 x y q.ht;by_cases e1:a=c
 ·subst e1;by_cases e2:b=d
  ·subst e2;simp[List.range,List.range.loop,Op.eqItems,h0,h1,he,Result.andThen]
  simp[List.range,List.range.loop,Op.eqItems,h0,h1,g0,g1,he,e2,Result.andThen]
 simp[List.range,List.range.loop,Op.eqItems,h0,h1,g0,g1,he,e1,Result.andThen]
structure Map2 (h:Heap) (r:Nat) (f:Int->Int->Option Value):Prop where
 ex : ∃es clock,h[r]? = some (.map es clock)/\(∀x∈es.toList,∃a b,x.key=two a b)/\(∀(i j:Nat) (x y:MapEntry),es[i]? = some x->es[j]? = some y->x.key=y.key->i=j)/\∀a b v,(∃x∈es.toList,x.key=two a b/\x.val=v)↔f a b=some v
theorem Map2.same{h h':Heap}{r:Nat}{f}(m:Map2 h r f)(e:h'[r]? = h[r]?):Map2 h' r f:=by obtain⟨es,c,h1,h2⟩:=m.ex;exact⟨es,c,by rw[e];exact h1,h2⟩
theorem Map2.ext{h h':Heap}{r:Nat}{f}(m:Map2 h r f)(hle:(vw h).le (vw h')):Map2 h' r f:=by obtain⟨es,c,h1,h2⟩:=m.ex;exact⟨es,c,hle _ _ h1,h2⟩
theorem Map2.none {h:Heap} {r:Nat} (hr:h[r]? = some (.map #[] 0)):Map2 h r fun _ _=>.none:=
 ⟨#[],0,hr,by simp,by simp,by simp⟩
theorem IQ (q:Tw P k t) {a b:Int} : ∀(l:List MapEntry) (i:Nat),(∀x∈l,∃a b,x.key=two a b)->
  ((Instr.findAsking k (two a b) l i).run P w = .ok .none w/\∀x∈l,x.key≠two a b)\/∃j e,(Instr.findAsking k (two a b) l i).run P w = .ok (some (i+j,e.val)) w/\l[j]? = some e/\e.key=two a b
 | [],_,_=>.inl ⟨by simp[Instr.findAsking],by simp⟩
 | e::es,i,h=>by
  obtain⟨c,d,hcd⟩:=h e (.head _);by_cases hx:a=c/\b=d
  ·refine .inr ⟨0,e,?_,rfl,by rw[hcd,yN];exact⟨hx.1.symm,hx.2.symm⟩⟩;simp[Instr.findAsking,hcd,uQ q,hx,Result.andThen]
  have hne:e.key≠two a b:=fun g=>hx (by rw[hcd,yN]at g;exact⟨g.1.symm,g.2.symm⟩);have hs:(Instr.findAsking k (two a b) (e::es) i).run P w=(Instr.findAsking k (two a b) es (i+1)).run P w:=by simp[Instr.findAsking,hcd,uQ q,hx,Result.andThen]
  rcases IQ q es (i+1) (fun x hx=>h x (.tail _ hx))with⟨h1,h2⟩ | ⟨j,e',h1,h2,h3⟩
  ·refine .inl ⟨by rw[hs,h1],fun x hx=>?_⟩;cases hx with
   | head=>exact hne
   | tail _ hx=>exact h2 x hx
  exact .inr ⟨j+1,e',by rw[hs,h1];congr 3;omega,by simpa using h2,h3⟩
theorem xU(q:Tw P k t){a:Int}{l:List MapEntry}(h : ∀x∈l,∃a b,x.key=two a b):
  ((Instr.findKey k (two a b) l).run P w = .ok .none w/\∀x∈l,x.key≠two a b)\/∃j e,(Instr.findKey k (two a b) l).run P w = .ok (some (j,e.val)) w/\l[j]? = some e/\e.key=two a b:=by
 cases l with
 | nil=>exact .inl ⟨by simp[Instr.findKey,run_underlying q.hk,Instr.findNow,Result.andThen],by simp⟩
 | cons x l=>
  have hf:Instr.findNow (.array 2 t) (two a b) (x::l) 0 = .none:=by simp[Instr.findNow,Instr.sameNow,two]
  have he:(Instr.findKey k (two a b) (x::l)).run P w=(Instr.findAsking k (two a b) (x::l) 0).run P w:=by simp[Instr.findKey,run_underlying q.hk,hf,Result.andThen]
  rw[he];simpa using IQ q (a:=a) (b:=b) (x::l) 0 h
end
section
variable {po:OP} {pp:PP} {P:Program} {k t e:TypeId} {ty mt:TypeId} {us:List (Nat × Value)} {h:Heap} {K:Value->Heap->Prop} {r:Nat} {f:Int->Int->Option Value}
theorem Az{x y:Operand}{a:Int}{z:Value}(q:Tw P k t)(ht:P.underlying mt=some (.map k e))(hz:(P.info? e).map (·.zero)=some (some z))(hx:asg us x = .map (some r))(hy:asg us y=two a b)(m:Map2 h r f)(hk:K (.tuple #[(f a b).getD z,.bool (f a b).isSome]) h):step P (.lookup mt x y true) ty us h K:=by
 obtain⟨es,c,h1,h2,h3,h4⟩:=m.ex;simp only[LL]at hz;obtain⟨i,hi,hz⟩:=hz;refine dR (dt fun w hw=>⟨_,w,?_,Same.refl _,by rw[hw];exact hk⟩);have hz':(zeroValue e).run P w = .ok z w:=by simp[zeroValue,typeInfo,hi,hz]
 rw[<-hw]at h1;simp only[bL,execOp,hx,hy];have hc : ∀b',(Instr.checkKey b' 10000 k (two a b)).run P w = .ok () w:=fun b'=>pV q (n:=9998);rcases xU (w:=w) q (a:=a) (b:=b) h2 with⟨g1,g2⟩ | ⟨j,x,g1,g2,g3⟩
 ·have hf:f a b = .none:=by
   cases hfu:f a b with
   | none=>rfl
   | some v=>obtain⟨x,hx,e1,_⟩:=(h4 a b v).2 hfu;exact absurd e1 (g2 x hx)
  simp[Instr.lookup,run_underlying ht,MapKept.run_getObj_map h1,hc,g1,Result.andThen,hf,hz']
 have hf:f a b=some x.val:=(h4 a b x.val).1 ⟨x,MI g2,g3,rfl⟩;simp[Instr.lookup,run_underlying ht,MapKept.run_getObj_map h1,hc,g1,Result.andThen,hf]
theorem Hd{x y p:Operand}{a:Int}{v:Value}(q:Tw P k t)(ht:P.underlying mt=some (.map k e))(hx:asg us x = .map (some r))(hy:asg us y=two a b)(hp:asg us p=v)(m:Map2 h r f)(hn:f a b = .none)(hk : ∀h':Heap,h'.size=h.size->(∀b,b≠r->h'[b]? = h[b]?)->Map2 h' r (fun c d=>if c=a/\d=b then some v else f c d)->K undef h'):step P (.mapUpdate mt x y p) ty us h K:=by
 obtain⟨es,c,h1,h2,h3,h4⟩:=m.ex;refine dR (mY fun w hw=>?_);subst hw;have hc : ∀b',(Instr.checkKey b' 10000 k (two a b)).run P w = .ok () w:=fun b'=>pV q (n:=9998);have hoth:=(MapKept.heap_set (o':=.map (es.push { key:=two a b,val:=v,born:=c }) (c+1)) h1)
 rcases xU (w:=w) q (a:=a) (b:=b) h2 with⟨g1,g2⟩ | ⟨j,x,g1,g2,g3⟩
 ·refine⟨{ w with heap:=w.heap.setIfInBounds r (.map (es.push { key:=two a b,val:=v,born:=c }) (c+1)) },?_,Same.qy rfl rfl rfl (by simp) h1 (by simp) (fun k _ hne=>hoth.2 k hne),hk _ (by simp) hoth.2 ⟨_,_,hoth.1,?_,?_,?_⟩⟩
  ·simp only[bL,execOp,hx,hy,hp];simp[Instr.mapUpdate,run_underlying ht,MapKept.run_getObj_map h1,hc,g1,MapKept.run_setObj_map _ h1,Result.andThen]
  ·intro x hx;simp only[On,LP,LM]at hx;rcases hx with hx | rfl
   ·exact h2 x hx
   exact⟨a,b,rfl⟩
  ·intro i j x y hi hj hxy;rw[Array.getElem?_push]at hi hj;by_cases ei:i=es.size<;>by_cases ej:j=es.size
   ·omega
   ·rw[if_pos ei]at hi;rw[if_neg ej]at hj;cases hi;exact absurd hxy.symm (g2 y (by have:=MI (l:=es.toList) (i:=j) (by simpa using hj);exact this))
   ·rw[if_neg ei]at hi;rw[if_pos ej]at hj;cases hj;exact absurd hxy (g2 x (by have:=MI (l:=es.toList) (i:=i) (by simpa using hi);exact this))
   rw[if_neg ei]at hi;rw[if_neg ej]at hj;exact h3 i j x y hi hj hxy
  intro c' d' p;constructor
  ·rintro⟨x,hx,e1,e2⟩;simp only[On,LP,LM]at hx;rcases hx with hx | rfl
   ·rw[if_neg (fun e=>g2 x hx (by rw[e1,e.1,e.2]))];exact(h4 c' d' p).1 ⟨x,hx,e1,e2⟩
   simp only[yN]at e1 e2;rw[if_pos ⟨e1.1.symm,e1.2.symm⟩,e2]
  intro hp;by_cases hcd:c'=a/\d'=b
  ·rw[if_pos hcd]at hp;cases hp;exact⟨{ key:=two a b,val:=v,born:=c },by simp,by simp[hcd.1,hcd.2],rfl⟩
  rw[if_neg hcd]at hp;obtain⟨x,hx,e⟩:=(h4 c' d' p).2 hp;exact⟨x,by simp[show x∈es from by simpa using hx],e⟩
 have:=(h4 a b x.val).1 ⟨x,MI g2,g3,rfl⟩;rw[hn]at this;cases this
end
theorem Owns.turn{W:View}{h h':Heap}{o:Own}{r:Nat}{x x':Obj}(w:Owns W h o)(hr:W r=some x)(hx : ∀c T fz,x≠.cells c T fz)(hr':h'[r]? = some x')(hs:h'.size=h.size)(ho : ∀k,k≠r->h'[k]? = h[k]?):Owns (W.set r x') h' o:=by
 have hle:W.fG.le (W.set r x'):=fun b y hb=>by
  unfold View.set;split
  ·rename_i e;subst e;unfold View.fG at hb;rw[hr]at hb;cases x<;>first | (exact absurd rfl (hx _ _ _)) | cases hb
  exact View.zz _ _ hb
 have hne : ∀{k i b},o k=some i->i.v.ownBlock=some b->b≠r:=fun hk hb e=>by have:=w.av _ _ hk _ hb;rw[e,hr]at this;cases this
 refine⟨fun b y hb=>?_,fun k i hk=>?_,fun k i hk b hb=>?_,w.dj⟩
 ·unfold View.set at hb;split at hb
  ·rename_i e;subst e;cases hb;exact hr'
  rename_i e;show h'[b]? = _;rw[ho b e];exact w.wle b y hb
 ·have h1:=w.own k i hk;have h2:@OwnT i.α i.rep (W.set r x') h i.e i.v i.l:=let ⟨b,xs,h1,h2⟩:=h1;⟨b,xs,h1,fun j hj=>i.rep.mono hle (i.rep.fG (h2 j hj))⟩;exact @OwnT.same i.α i.rep _ _ _ _ _ _ h2 fun b hb=>ho b (hne hk hb)
 unfold View.set;rw[if_neg (hne hk hb)];exact w.av k i hk b hb
end Go.Lft
namespace Go.Proofs.YtbkdlhkoiagbbaaGreat
open Go Go.Lft
theorem sD{β:Type}{p:β->Bool}{l:List β}{k:Nat}{x:β}(h:l[k]? = some x):(l.take (k+1)).filter p=(l.take k).filter p++if p x then[x] else[]:=by rw[M0,h,Oh];simp[Oc]
def od (g:Gr) (e:Int × Int):Bool:=decide (1<(nth (cN g) e.1.toNat).length)&&decide (1<(nth (cO g) e.2.toNat).length)
def ji (g:Gr):List (Int × Int):=(fU g).filter (od g)
theorem Al{g:Gr}{vg:Value}{h:Heap}(hg:SlRd (vw h) vg g)(hs:Sm g):
  az Tryz.prog N.ep #[vg] h (fun v h'=>(vw h).le (vw h')/\SlRd (fresh h h') v (ji g)):=by
 refine tN (args:=[vg]) follows F.ep E.ep (LD (by kernel_rfl)) fun K hK=>?_;have hel:=qm hs;have hs1:=hs.1;have hcl:=hC (g:=g);have hpl:(cO g).length=g.length:=by rw[cO,mh];simp
 simp[L.ep];refine aj (by kernel_rfl) (wQ hg hs) ?_;rintro vr h1 ⟨W1,m1⟩;have hle1:=m1.old;have hr:=m1.now;refine aj (by kernel_rfl) (vN (hg.mono hle1) hs) ?_;rintro vp h2 ⟨hle2,hp⟩;have hp:=hp.mono (iz _ _);have hr:=hr.mono hle2;refine eZ (z:=.slice none 0 0) (by kernel_rfl) ?_;refine eZ (z:=.slice none 0 0) (by kernel_rfl) ?_;have hR0:((h2.push (.cells (Value.slice none 0 0).cells T.dh)).push (.cells (Value.slice none 0 0).cells T.dh))[h2.size]? = some (.cells #[.slice none 0 0] T.dh (0,0)):=by rw[Array.getElem?_push,if_neg (by simp),Array.getElem?_push_size];rfl
 have hP0:((h2.push (.cells (Value.slice none 0 0).cells T.dh)).push (.cells (Value.slice none 0 0).cells T.dh))[h2.size+1]? = some (.cells #[.slice none 0 0] T.dh (0,0)):=by rw[show h2.size+1=(h2.push (.cells (Value.slice none 0 0).cells T.dh)).size by simp];exact Array.getElem?_push_size
 have hle3:(vw h2).le (vw ((h2.push (.cells (Value.slice none 0 0).cells T.dh)).push (.cells (Value.slice none 0 0).cells T.dh))):=View.le_trans (bm _ _) (bm _ _);have hsz3:((h2.push (.cells (Value.slice none 0 0).cells T.dh)).push (.cells (Value.slice none 0 0).cells T.dh)).size=h2.size+2:=by simp
 simp only[Array.size_push];generalize (h2.push (.cells (Value.slice none 0 0).cells T.dh)).push (.cells (Value.slice none 0 0).cells T.dh)=h3 at hR0 hP0 hle3 hsz3;obtain⟨c1,o1⟩:=hr.cells;obtain⟨c2,o2⟩:=hp.cells;refine eR (g:=h2.size) (o:=0) (n:=1) (v:=vr) (by kernel_rfl) (by simp) (by simp) (by rw[c1];rfl) (by rw[c1];simpa using o1) hR0 (by simp) fun h4 hsz4 ⟨row,hR4,he⟩ hoth4=>?_;have hrow:row = #[vr]:=by rw[<-Array.toList_inj,he,c1];rfl
 rw[hrow]at hR4;refine eR (g:=h2.size+1) (o:=0) (n:=1) (e:=T.dh) (cur:=#[.slice none 0 0]) (v:=vp) (by kernel_rfl) (by simp) (by simp) (by rw[c2];rfl) (by rw[c2];simpa using o2) (by rw[hoth4 _ (by omega)];exact hP0) (by simp) fun h5 hsz5 ⟨row2,hP5,he2⟩ hoth5=>?_;have hrow2:row2 = #[vp]:=by rw[<-Array.toList_inj,he2,c2];rfl
 rw[hrow2]at hP5;have hR5:h5[h2.size]? = some (.cells #[vr] T.dh (0,0)):=by rw[hoth5 _ (by omega)];exact hR4
 have hle5:(vw h2).le (vw h5):=fun b o hb=>by have hlt:=View.lt (View.le_refl (vw h2)) hb;show h5[b]? = _;rw[hoth5 b (by omega),hoth4 b (by omega)];exact hle3 b o hb
 refine eZ (z:=.slice none 0 0) (by kernel_rfl) ?_;refine aj (by kernel_rfl) zQ ?_;rintro _ _ ⟨rfl,rfl⟩;rw[hg.cells.1];have hle6:(vw h5).le (vw ((h5.push (.cells (Value.slice none 0 0).cells T.j8)).push (.cells #[vg] T.dh))):=View.le_trans (bm _ _) (bm _ _);have hB6:((h5.push (.cells (Value.slice none 0 0).cells T.j8)).push (.cells #[vg] T.dh))[h5.size]? = some (.cells #[.slice none 0 0] T.j8 (0,0)):=by rw[Array.getElem?_push,if_neg (by simp),Array.getElem?_push_size];rfl
 have hG6:((h5.push (.cells (Value.slice none 0 0).cells T.j8)).push (.cells #[vg] T.dh))[h5.size+1]? = some (.cells #[vg] T.dh (0,0)):=by rw[show h5.size+1=(h5.push (.cells (Value.slice none 0 0).cells T.j8)).size by simp];exact Array.getElem?_push_size
 simp only[Array.size_push];generalize (h5.push (.cells (Value.slice none 0 0).cells T.j8)).push (.cells #[vg] T.dh)=h6 at hle6 hB6 hG6;have h5W:(vw h5).le (skip h5.size h6):=Iq hle6 (View.dH (View.le_refl _) (LG _));have h2W:=View.le_trans hle5 h5W;have h0W:(vw h).le (skip h5.size h6):=View.le_trans (View.le_trans hle1 hle2) h2W;have hp6:ao (skip h5.size h6) ⟨h5.size+1,0,none⟩=some vg:=bW (c:=#[vg]) (T:=T.dh) (fz:=(0,0)) (by rw[jT (by omega)];exact hG6) rfl;have hcR:ao (skip h5.size h6) ⟨h2.size,0,none⟩=some vr:=bW (h5W _ _ hR5) rfl;have hcP:ao (skip h5.size h6) ⟨h2.size+1,0,none⟩=some vp:=bW (h5W _ _ hP5) rfl;have hrW:=hr.mono h2W;have hpW:=hp.mono h2W;have hWle:(skip h5.size h6).le (vw h6):=cA;have hWB:skip h5.size h6 h5.size=none:=DP;generalize skip h5.size h6=W0 at h5W h2W h0W hp6 hcR hcP hrW hpW hWle hWB;obtain⟨rv,hrv⟩:=hrW.rows;obtain⟨pv,hpv⟩:=hpW.rows;refine uK (enc:=Ab) (all:=fU g) (gf:=N.bX) (caps:=[.pointer (some ⟨h5.size+1,0,none⟩)]) W0 W0 (fun e k W h'=>e=none/\∃v,Bx W h' h5.size T.j8 T.lM v (((fU g).take k).filter (od g)))
  rfl (by kernel_rfl) (tT (hg.mono h0W) hp6 hs) (fun _=>rfl) (View.le_refl _) (fun e k=>⟨fun⟨_,rv,r⟩=>r.wle,fun⟨a,rv,r⟩ _ h1 h2 _=>⟨a,rv,r.move h1 h2⟩⟩) ⟨rfl,_,Bx.start hWle hWB hB6⟩
  (fun x h1=>by simp[Ab,dk];rfl) ?_ ?_ ?_
 ·rintro k e W h7 hag hk ⟨_,v,r⟩ K2 hK2 _;have he:=nd (MI hk);have hk1:k<(fU g).length:=(List.getElem?_eq_some_iff.1 hk).1;have hfl:(((fU g).take k).filter (od g)).length<=k:=by have:=N8 (od g) ((fU g).take k);rw[MA]at this;omega
  have hst:=sD (p:=od g) hk;have hW0W:W0.le W:=fun b o hb=>by rw[hag b (View.lt hWle hb)];exact hb
  have hWh:=View.le_trans hW0W r.wle;obtain⟨cr,rr⟩:=hrv e.1.toNat (by omega);obtain⟨cp,rp⟩:=hpv e.2.toNat (by omega);have hcE:od g e=(decide (1<(nth (cN g) e.1.toNat).length)&&decide (1<(nth (cO g) e.2.toNat).length)):=rfl;by_cases hc1:1<(nth (cN g) e.1.toNat).length
  ·by_cases hc2:1<(nth (cO g) e.2.toNat).length
   ·rw[decide_eq_true hc1,decide_eq_true hc2]at hcE;simp(disch:=omega)[ae hWh hcR,ae hWh hcP,hrW.idx1 rfl,hpW.idx1 rfl,cr _ hWh,cp _ hWh,rr.len,rp.len,show(1:Int)<((nth (cN g) e.1.toNat).length:Int) by omega,show(1:Int)<((nth (cO g) e.2.toNat).length:Int) by omega,eV,r.cell];refine aE (z:=.agg #[.int .i64 0,.int .i64 0]) (places:=[(0,1),(1,1)]) (vs:=[(0,.int .i64 e.1),(1,.int .i64 e.2)]) (cs:=#[.int .i64 e.1,.int .i64 e.2]) (by kernel_rfl) (by kernel_rfl) (by simp) rfl ?_;refine r.push (d:=e) El.j8 (by kernel_rfl) (by simp<;>rfl) (uC.2 ⟨rfl,⟨by omega,by omega⟩,by omega,by omega⟩) (by omega) (by omega) (fun _=>by simp) (fun _=>by simp) (fun _ _=>by simp) (fun _ _=>by simp) fun u v' h6 r6=>hK2 _ _ ⟨rfl,v',?_⟩;rw[hst,hcE];exact r6
   rw[decide_eq_true hc1,decide_eq_false hc2]at hcE;simp(disch:=omega)[ae hWh hcR,ae hWh hcP,hrW.idx1 rfl,hpW.idx1 rfl,cr _ hWh,cp _ hWh,rr.len,rp.len,show(1:Int)<((nth (cN g) e.1.toNat).length:Int) by omega,show ¬(1:Int)<((nth (cO g) e.2.toNat).length:Int) by omega,eV];refine hK2 _ _ ⟨rfl,v,?_⟩;rw[hst,hcE];simpa using r
  rw[decide_eq_false hc1]at hcE;simp(disch:=omega)[ae hWh hcR,ae hWh hcP,hrW.idx1 rfl,hpW.idx1 rfl,cr _ hWh,cp _ hWh,rr.len,rp.len,show ¬(1:Int)<((nth (cN g) e.1.toNat).length:Int) by omega,eV];refine hK2 _ _ ⟨rfl,v,?_⟩;rw[hst,hcE];simpa using r
 ·rintro W h7 hag ⟨_,v,r⟩;rw[LV (LG _)]at r;have hW0W:W0.le W:=fun b o hb=>by rw[hag b (View.lt hWle hb)];exact hb
  simp[r.cell];intro h8 hsw;have hWW:=View.le_trans h0W hW0W;exact⟨_,rfl,hK _ _ ⟨hsw.ext (View.le_trans hWW r.wle),hsw.rd (r.fresh hWW)⟩⟩
 rintro e k W h1 hag ⟨hne,_⟩;cases hne
section
variable {g:Gr}
theorem tS:ji g=jF g:=by
 unfold ji jF;rw[nc];have key : ∀n,n<=g.length->(iV (fun a=>dC g a) n).filter (od g)=up (fun a l=>l++lB g (fT g) a) n []:=by
  intro n;induction n with
  | zero=>exact fun _=>rfl
  | succ n ih=>
   intro hn;rw[ic,Oh,ih (by omega),up];congr 1;rw[lB,kE,O3];have e1:dC g n=(List.range (dC g n).length).map fun i=>nth (dC g n) i:=by refine MJ (by simp) fun i h1 h2=>?_;simp[ak h1]
   conv=>lhs;rw[e1]
   rw[O3,N4];have e2:(List.range (dC g n).length).filter ((od g∘fun b=>((n:Int),b))∘fun i=>nth (dC g n) i)=(List.range (dC g n).length).filter (tP g (fT g) n):=by refine OT fun i hi=>?_;simp only[Function.comp,od,tP,oV,LY];have hcn:=lP (g:=g) (a:=n) (by omega);rw[MH];simp only[LK,decide_eq_true_eq,hcn];omega
   rw[e2];rfl
 exact key g.length (LG _)
theorem wY{e:Int × Int}:e∈ji g↔eH g e.1 e.2=true/\1<(dC g e.1).length/\1<(nth (fT g) e.2.toNat).length:=by
 unfold ji;rw[NP,Ei];constructor
 ·rintro⟨h1,h2⟩;have hr:=fl.1 h1;simp only[od,oV,LK,decide_eq_true_eq]at h2;have hc:=lP (g:=g) (a:=e.1.toNat) (by omega);rw[LX hr.1.1]at hc;rw[hc]at h2;exact⟨h1,h2⟩
 rintro⟨h1,h2⟩;have hr:=fl.1 h1;have hc:=lP (g:=g) (a:=e.1.toNat) (by omega);rw[LX hr.1.1]at hc;refine⟨h1,?_⟩;simp only[od,oV,LK,decide_eq_true_eq,hc];exact h2
theorem tD {f:Nat->List Int} (hf : ∀a,(f a).Nodup) : ∀n,(iV f n).Nodup
 | 0=>by simp[iV]
 | n+1=>by
  rw[ic];refine Nq.2 ⟨tD hf n,?_,?_⟩
  ·exact List.Pairwise.map _ (fun x y h e=>h (Prod.mk.inj e).2) (hf n)
  intro x hx y hy;rw[iV,Oe]at hx;obtain⟨a,ha,hx⟩:=hx;simp only[MR]at hx hy;obtain⟨b,_,rfl⟩:=hx;obtain⟨c,_,rfl⟩:=hy;intro e;have:=(Prod.mk.inj e).1;have:=M7.1 ha;omega
theorem nS:(ji g).Nodup:=by unfold ji;rw[nc];exact(tD (fun a=>nH.imp fun h=>by omega) _).filter _
end
def mkL (vs:Value) (at_:Nat) (ps:Int) (vb:Value) (nx:Int) (vl:Value):List Value:=[vs,.int .i64 at_,.int .i64 ps,vb,.int .i64 nx,vl]
def rawV (s:List Int) (at_:Nat):Int:=if at_<s.length then nth s at_ else 0
def aG (s:List Int) (at_:Nat) (n:Int):Int:=((rawV s at_).tmod n+n).tmod n
theorem cc{s:List Int}{at_:Nat}{n:Int}(hn:0<n):0<=aG s at_ n/\aG s at_ n<n:=by have b1:=ON (rawV s at_) hn;exact⟨Ns _ (by omega),M1 _ hn⟩
theorem HH{W:View}{h:Heap}{o:Own}{M at_:Nat}{vs vb vl:Value}{ps nx n:Int}{s:List Int}(w:Owns W h o)(hk:o (0,0)=bx T.aN M (RawN.mk (n:=5) (mkL vs at_ ps vb nx vl)))(hs:SlRd W vs s)(h1:at_<=1000000000)(hn:0<n)(hn2:n<=1000000000):
  az Tryz.prog N.b8 #[.pointer (some ⟨M,0,none⟩),.int .i64 n] h (fun u h'=>u = .int .i64 (aG s at_ n)/\Owns W h' (o.upd (0,0) (bx T.aN M (RawN.mk (n:=5) (mkL vs (at_+1) ps vb nx vl))))):=by
 refine aq (args:=[.pointer (some ⟨M,0,none⟩),.int .i64 n]) follows F.b8 E.b8 (LD (by kernel_rfl)) fun K hK=>?_;have c0:ao (vw h) ⟨M,0,none⟩=some vs:=w.raw hk (i:=0) (by decide);have c1:ao (vw h) ⟨M,1,none⟩=some (.int .i64 at_):=w.raw hk (i:=1) (by decide);dsimp only[L.b8];refine aa fun z hz=>?_;simp;subst hz;refine aa fun z hz=>?_;simp;subst hz;refine aa fun z hz=>?_;have hsl : ∀{Q:View},Un.ev Q .len vs=some (.int .i64 s.length):=fun{Q}=>hs.len
 refine mA (fun ρ h2=>h2=h/\I64 (rawV s at_)/\ρ=[(0,.pointer (some ⟨M,0,none⟩)),(1,.int .i64 n),(4,.int .i64 0),(5,.int .i64 (rawV s at_))]) ?_ ?_
 ·intro K2 hK2;by_cases c:at_<s.length
  ·have hs2:=hs.mono w.wle;have hr:=hs.range (i:=at_) c;have e:rawV s at_=nth s at_:=if_pos c;rw[e]at hK2;simp(disch:=omega)[c0,c1,hsl,c,hs2.idx1 rfl,hs2.int (View.le_refl _)];exact hK2 _ _ ⟨rfl,hr,rfl⟩
  have e:rawV s at_=0:=if_neg c;rw[e]at hK2;simp[c0,c1,hsl,c];exact hK2 _ _ ⟨rfl,⟨by decide,by decide⟩,rfl⟩
 rintro _ h2 ⟨rfl,hx,rfl⟩;subst hz;refine aa fun z hz=>?_;simp(disch:=omega)[c1];refine w.bu (k:=(0,0)) (n:=5) (i:=1) (e:=T.aN) (B:=M) (l:=mkL vs at_ ps vb nx vl) hk (by decide) (by kernel_rfl) rfl rfl rfl fun h3 w3 _=>?_;subst hz;have b1:=ON (rawV s at_) hn;have b2:=M1 (rawV s at_) hn;have hw:IntKind.i64.wrap ((rawV s at_).tmod n+n)=(rawV s at_).tmod n+n:=bJ (by omega) (by omega);have hne:¬n=0:=by omega
 simp[hw,hne];refine hK _ _ ⟨rfl,w3.congr fun q=>?_⟩;rfl
theorem Ap{W:View}{h:Heap}{o:Own}{M at_:Nat}{vs vb vl:Value}{ps nx:Int}(w:Owns W h o)(hk:o (0,0)=bx T.aN M (RawN.mk (n:=5) (mkL vs at_ ps vb nx vl)))(h0:0<=nx)(h1:nx<=1000000000):
  az Tryz.prog N.bN #[.pointer (some ⟨M,0,none⟩)] h (fun u h'=>u = .int .i64 nx/\Owns W h' (o.upd (0,0) (bx T.aN M (RawN.mk (n:=5) (mkL vs at_ ps vb (nx+1) vl))))/\∀X:View,X.le (vw h)->X M=none->X.le (vw h')):=by
 refine aq (args:=[.pointer (some ⟨M,0,none⟩)]) follows F.bN E.bN (LD (by kernel_rfl)) fun K hK=>?_;have c4:ao (vw h) ⟨M,4,none⟩=some (.int .i64 nx):=w.raw hk (i:=4) (by decide);dsimp only[L.bN];refine aa fun z hz=>?_;simp;subst hz;refine aa fun z hz=>?_;simp(disch:=omega)[c4];refine w.bu (k:=(0,0)) (n:=5) (i:=4) (e:=T.aN) (B:=M) (l:=mkL vs at_ ps vb nx vl) hk (by decide) (by kernel_rfl) rfl rfl rfl fun h3 w3 hx3=>?_;have w3:Owns W h3 (o.upd (0,0) (bx T.aN M (RawN.mk (n:=5) (mkL vs at_ ps vb (nx+1) vl)))):=w3
 have c5:ao (vw h3) ⟨M,4,none⟩=some (.int .i64 (nx+1)):=w3.raw Own.af (i:=4) (by decide);subst hz;simp(disch:=omega)[c5];exact hK _ _ ⟨by congr 1,w3,hx3⟩
end Go.Proofs.YtbkdlhkoiagbbaaGreat
namespace Go.Lft
open Go
variable {po:OP}
theorem I5 {P:Program} {t ty:TypeId} {us:List (Nat × Value)} {h:Heap} {K:Value->Heap->Prop} {x:Operand} {n:Int} (hx:asg us x = .int .i64 n) (hk:K (.int .i64 (IntKind.i64.wrap (-n))) h):step P (.unOp .neg t x) ty us h K:=by refine dR (dt fun w hw=>⟨.int .i64 (IntKind.i64.wrap (-n)),w,?_,Same.refl _,by rw[hw];exact hk⟩);simp only[bL,execOp,hx];simp[Op.unary,Op.intArith]
end Go.Lft
namespace Go.Proofs.YtbkdlhkoiagbbaaGreat
open Go Go.Lft
structure MS where
 at_:Nat
 ps:Int
 blocks:List BlkD
 next:Int
 live:List Int
def MS.took (m:MS):MS:={ m with at_:=m.at_+1 }
def MS.aJ (m:MS):MS:={ m with next:=m.next+1 }
structure BlkM where
 phis:Raw
 ins:Raw
 term:da
instance:Rep BlkM:=Rep.via fun d=>Cat.mk d.phis (Cat.mk d.ins d.term)
instance:Inhabited BlkM:=⟨⟨default,default,default⟩⟩
theorem BlkM.km:Part BlkM Raw 0 BlkM.phis (fun d x=>{ d with phis:=x }):=(Part.fst Part.all).via (fun _=>rfl) fun _ _=>rfl
theorem BlkM.jr:Part BlkM Raw 1 BlkM.ins (fun d x=>{ d with ins:=x }):=(Part.snd (Part.fst Part.all)).via (fun _=>rfl) fun _ _=>rfl
theorem BlkM.kz:Part BlkM da 2 BlkM.term (fun d x=>{ d with term:=x }):=(Part.snd (Part.snd Part.all)).via (fun _=>rfl) fun _ _=>rfl
theorem AR {H:View} {cs:List Value} {d:BlkM} {p:List PhiD} {i:List InsD} (h:Rep.rd H cs d) (hp:SlRd H d.phis.v p) (hi:SlRd H d.ins.v i):Rep.rd H cs (BlkD.mk p i d.term):=by obtain⟨c1,r1,e1,⟨h1,_⟩,c2,r2,e2,⟨h2,_⟩,h3⟩:=h;have h1:c1=[d.phis.v]:=h1;have h2:c2=[d.ins.v]:=h2;exact⟨c1,r1,e1,⟨d.phis.v,h1,hp⟩,c2,r2,e2,⟨d.ins.v,h2,hi⟩,h3⟩
structure MkB (M:Nat) (vs:Value) (m:MS) (o:Own) (vb vl:Value) (lb:List BlkM):Prop where
 box:o (0,0)=bx T.aN M (RawN.mk (n:=5) (mkL vs m.at_ m.ps vb m.next vl))
 live:o (0,1)=it T.int vl m.live
 blk:o (0,2)=it T.ay vb lb
 len:lb.length=m.blocks.length
 term : ∀i,i<m.blocks.length->(nth lb i).term=(nth m.blocks i).term
 phis : ∀i,i<m.blocks.length->o (1,i)=it T.cE (nth lb i).phis.v (nth m.blocks i).phis
 ins : ∀i,i<m.blocks.length->o (2,i)=it T.cg (nth lb i).ins.v (nth m.blocks i).ins
structure Mk (s:List Int) (M:Nat) (vs:Value) (W:View) (h:Heap) (o:Own) (m:MS):Prop where
 own:Owns W h o
 src:SlRd W vs s
 box : ∃vb vl lb,MkB M vs m o vb vl lb
def Nx (s:List Int) (M:Nat) (vs:Value) (W:View) (h:Heap) (o:Own) (m:MS):Prop:=∃W' o',W.le W'/\Mk s M vs W' h o' m/\∀k:Key,3<=k.1->o' k=o k
variable {s:List Int} {M:Nat} {vs:Value} {W:View} {h:Heap} {o:Own} {m:MS}
theorem Mk.nx (w:Mk s M vs W h o m):Nx s M vs W h o m:=⟨W,o,View.le_refl _,w,fun _ _=>rfl⟩
theorem Nx.trans {W':View} {o':Own} (hW:W.le W') (ho : ∀k:Key,3<=k.1->o' k=o k) (n:Nx s M vs W' h o' m):Nx s M vs W h o m:=by obtain⟨W2,o2,h1,h2,h3⟩:=n;exact⟨W2,o2,View.le_trans hW h1,h2,fun k hk=>(h3 k hk).trans (ho k hk)⟩
theorem MkB.at {vb vl:Value} {lb:List BlkM} (b:MkB M vs m o vb vl lb) {at_:Nat} {next:Int}:MkB M vs { m with at_:=at_,next:=next } (o.upd (0,0) (bx T.aN M (RawN.mk (n:=5) (mkL vs at_ m.ps vb next vl)))) vb vl lb:=
 ⟨rfl,b.live,b.blk,b.len,b.term,fun i hi=>b.phis i hi,fun i hi=>b.ins i hi⟩
theorem ni {k:Key} {i:Option Lft.Item} (hk:k.1<3) : ∀q:Key,3<=q.1->o.upd k i q=o q:=fun q hq=>Own.ab fun e=>by rw[e]at hq;omega
theorem cz {k:Key} {i j:Option Lft.Item} (q:Key):(o.upd k i).upd k j q=o.upd k j q:=by unfold Own.upd;split<;>rfl
theorem Mk.take (w:Mk s M vs W h o m) {n:Int} (h1:m.at_<=1000000000) (hn:0<n) (hn2:n<=1000000000) :
  az Tryz.prog N.b8 #[.pointer (some ⟨M,0,none⟩),.int .i64 n] h (fun u h'=>u = .int .i64 (aG s m.at_ n)/\∃o',Mk s M vs W h' o' m.took/\∀k:Key,3<=k.1->o' k=o k):=by obtain⟨vb,vl,lb,b⟩:=w.box;refine(HH w.own b.box w.src h1 hn hn2).mono ?_;rintro u h' ⟨rfl,w2⟩;exact⟨rfl,_,⟨w2,w.src,vb,vl,lb,b.at⟩,ni (by decide)⟩
theorem Mk.fresh (w:Mk s M vs W h o m) (h0:0<=m.next) (h1:m.next<=1000000000) :
  az Tryz.prog N.bN #[.pointer (some ⟨M,0,none⟩)] h (fun u h'=>u = .int .i64 m.next/\∃o',Mk s M vs W h' o' m.aJ/\∀k:Key,3<=k.1->o' k=o k):=by obtain⟨vb,vl,lb,b⟩:=w.box;refine(Ap w.own b.box h0 h1).mono ?_;rintro u h' ⟨rfl,w2,-⟩;exact⟨rfl,_,⟨w2,w.src,vb,vl,lb,b.at⟩,ni (by decide)⟩
theorem mw {x:Int}:-2147483648<=IntKind.i32.wrap x/\IntKind.i32.wrap x<=2147483647:=by rw[IntKind.wrap_i32];omega
def kS (s:List Int) (m:MS):Int:=
 if aG s (m.at_+1) 8=0 then IntKind.i32.wrap (IntKind.i64.wrap (aG s m.at_ 1048576*4099))
 else if aG s (m.at_+1) 8=1 then IntKind.i32.wrap (IntKind.i64.wrap (-aG s m.at_ 1048576))
 else if aG s (m.at_+1) 8=2 then -2147483648
 else if aG s (m.at_+1) 8=3 then IntKind.i32.wrap ((aG s m.at_ 1048576).tmod 70000)
 else IntKind.i32.wrap (IntKind.i64.wrap ((aG s m.at_ 1048576).tmod 20-4))
theorem pJ:-2147483648<=kS s m/\kS s m<=2147483647:=by
 unfold kS;repeat' split
 all_goals first | exact mw | decide
theorem Mk.word (w:Mk s M vs W h o m) (h1:m.at_<=999999990) :
  az Tryz.prog N.cK #[.pointer (some ⟨M,0,none⟩)] h (fun u h'=>u = .int .i32 (kS s m)/\∃o',Mk s M vs W h' o' m.took.took/\∀k:Key,3<=k.1->o' k=o k):=by
 refine aq (args:=[.pointer (some ⟨M,0,none⟩)]) follows F.cK E.cK (LD (by kernel_rfl)) fun K hK=>?_;dsimp only[L.cK];refine aa fun z hz=>?_;simp;subst hz;refine aa fun z hz=>?_;simp;refine aj (by kernel_rfl) (w.take (by omega) (n:=1048576) (by decide) (by decide)) ?_;rintro _ h2 ⟨rfl,o2,w2,f2⟩;subst hz;refine aa fun z hz=>?_;simp;refine aj (by kernel_rfl) (w2.take (show m.at_+1<=_ by omega) (n:=8) (by decide) (by decide)) ?_;rintro _ h3 ⟨rfl,o3,w3,f3⟩;have hx:m.took.at_=m.at_+1:=rfl;rw[hx];have hf : ∀k:Key,3<=k.1->o3 k=o k:=fun k hk=>(f3 k hk).trans (f2 k hk);have hwd:kS s m=_:=kS.eq_1 s m
 generalize kS s m=r at hwd hK;generalize aG s (m.at_+1) 8=q at hwd;generalize aG s m.at_ 1048576=x at hwd;by_cases c0:q=0
 ·rw[if_pos c0]at hwd;simp[c0];exact hK _ _ ⟨by rw[hwd],_,w3,hf⟩
 rw[if_neg c0]at hwd;by_cases c1:q=1
 ·rw[if_pos c1]at hwd;simp[c1];refine I5 rfl ?_;simp;exact hK _ _ ⟨by rw[hwd],_,w3,hf⟩
 rw[if_neg c1]at hwd;by_cases c2:q=2
 ·rw[if_pos c2]at hwd;simp[c2];exact hK _ _ ⟨by rw[hwd],_,w3,hf⟩
 rw[if_neg c2]at hwd;by_cases c3:q=3
 ·rw[if_pos c3]at hwd;simp[c3];exact hK _ _ ⟨by rw[hwd],_,w3,hf⟩
 rw[if_neg c3]at hwd;simp[c0,c1,c2,c3];subst hz;simp;exact hK _ _ ⟨by rw[hwd],_,w3,hf⟩
end Go.Proofs.YtbkdlhkoiagbbaaGreat
namespace Go.Proofs.YtbkdlhkoiagbbaaGreat
open Go Go.Lft
def MS.add (m:MS) (b:Nat) (i:InsD):MS:={ m with blocks:=m.blocks.set b { nth m.blocks b with ins:=(nth m.blocks b).ins++[i] },live:=m.live++dc i }
def conD (v:Int) (n:Int):InsD:=⟨1,v,0,[],⟨n⟩⟩
def MS.constant (m:MS) (b:Nat) (n:Int):MS:=m.aJ.add b (conD m.next n)
def xy (s:List Int) (m:MS):Int:=nth m.live (if aG s (m.at_+1) 3=0 then m.live.length-1 else(aG s m.at_ m.live.length).toNat)
def Cv (s:List Int) (m:MS) (b:Nat):MS:=(m.took.took).constant b (kS s m)
def aK (s:List Int) (m:MS) (b:Nat):Int × MS:=
 if m.live.length=0 then(m.next,Cv s m b)
 else if aG s (m.at_+2) 9=0 then(m.next,Cv s m.took.took.took b)
 else(xy s m,m.took.took.took)
def MS.two (m:MS) (b:Nat) (op x y:Int):MS:=m.aJ.add b ⟨op,m.next,0,[x,y],⟨0⟩⟩
def binS (s:List Int) (m:MS) (b:Nat) (op:Int):MS:=
 let r1:=aK s m b
 let r2:=aK s r1.2 b
 if aG s r2.2.at_ 3=0 then
  (r2.2.took.took.constant b (IntKind.i32.wrap (IntKind.i64.wrap (aG s (r2.2.at_+1) 40-8)))).two b op r1.1 r2.2.next
 else r2.2.took.two b op r1.1 r2.1
def ltuS (s:List Int) (m:MS) (b:Nat):MS:=
 let r1:=aK s m b
 let r2:=aK s r1.2 b
 r2.2.two b 13 r1.1 r2.1
def divS (s:List Int) (m:MS) (b:Nat):MS:=
 let r1:=aK s m b
 let m2:=r1.2.took.constant b (IntKind.i32.wrap (aG s r1.2.at_ 12))
 if 0<aG s m2.at_ 3 then
  (m2.took.took.constant b (IntKind.i32.wrap (1+IntKind.i32.wrap (aG s (m2.at_+1) 12)))).two b 14 r1.1 m2.next
 else m2.took.two b 14 r1.1 r1.2.next
def xI (s:List Int) (m:MS) (b:Nat):MS:=
 let r1:=aK s m b
 let r2:=aK s r1.2 b
 r2.2.aJ.aJ.add b ⟨18,r2.2.next,r2.2.next+1,[r1.1,r2.1],⟨0⟩⟩
def iR (s:List Int) (b:Nat):Nat->List Int × MS->List Int × MS:=fun _ x=>(x.1++[(aK s x.2 b).1],(aK s x.2 b).2)
def nZ (s:List Int) (m:MS) (b:Nat):MS:=
 let r:=up (iR s b) (aG s m.at_ 5).toNat ([],m.took)
 r.2.aJ.took.add b ⟨17,r.2.next,0,r.1,⟨IntKind.i32.wrap (aG s r.2.at_ 5)⟩⟩
def nT (s:List Int) (m:MS) (b:Nat):Int × MS:=
 let m1:=m.took.constant b (IntKind.i32.wrap (aG s m.at_ 9))
 if aG s m1.at_ 3=0 then
  let r:=aK s m1.took b
  let m3:=(r.2.constant b 7).two b 5 r.1 r.2.next
  (m3.next,m3.two b 2 m.next (r.2.next+1))
 else(m.next,m1.took)
def offS (s:List Int) (m:MS):Int × MS:=
 if aG s (m.at_+1) 12=0 then(kS s m.took.took,m.took.took.took.took) else(IntKind.i32.wrap (aG s m.at_ 4),m.took.took)
def jw (s:List Int) (m:MS) (b:Nat) (store:Bool):MS:=
 let a:=nT s m b
 let i:=offS s a.2
 if store then(aK s i.2 b).2.add b ⟨16,0,0,[a.1,(aK s i.2 b).1],⟨i.1⟩⟩
 else i.2.aJ.add b ⟨15,i.2.next,0,[a.1],⟨i.1⟩⟩
def opsL:List Int:=[2,2,3,4,5,6,7,8,9,10,12,11]
def aQ (s:List Int) (b:Nat) (m:MS):MS:=
 let k:=aG s m.at_ 20
 if k<12 then binS s m.took b (nth opsL k.toNat)
 else if k=12 then ltuS s m.took b
 else if k=13 then divS s m.took b
 else if k<16 then jw s m.took b (decide (k=15))
 else if k=16 then nZ s m.took b
 else if k=17 then xI s m.took b
 else m.took.took.took.constant b (kS s m.took)
section
variable{b:Nat}
theorem Ad{H:View}{n:Nat}{cs:List Value}(hc:gj H ⟨b,0,none⟩ cs)(hl:cs.length=n):Un.ev H (.al n) (.pointer (some ⟨b,0,none⟩))=some (.agg cs.toArray):=by have:=gz hc n 0 #[] (by omega);simp only[Un.ev,vP,L3];rw[this];simp[<-hl]
theorem Dy{H:View}{n:Nat}{cs:Array Value}{t:TypeId}(hb:H b=some (.cells cs t (0,0)))(hl:cs.size=n):Un.ev H (.al n) (.pointer (some ⟨b,0,none⟩))=some (.agg cs):=by have:gj H ⟨b,0,none⟩ cs.toList:=⟨cs,t,(0,0),rfl,hb,by simp[LV]⟩;simpa using Ad this (by simpa using hl)
theorem MkB.Jv{s:List Int}{M:Nat}{vs:Value}{W:View}{h:Heap}{o:Own}{m:MS}{vb vl:Value}{lb:List BlkM}(w:Owns W h o)(b:MkB M vs m o vb vl lb):
  ∃X:View,W.le X/\X.le (vw h)/\(∀i,i<=5->ao X ⟨M,i,none⟩=some ((mkL vs m.at_ m.ps vb m.next vl).getD i undef))/\SlRd X vb lb/\Av X vl/\∀i,i<m.blocks.length->Av X (nth lb i).phis.v/\Av X (nth lb i).ins.v:=by obtain⟨w5,s5⟩:=w.freeze (k:=(0,0)) (v:=.slice (some ⟨M,0,none⟩) 1 1) (l:=[RawN.mk (n:=5) (mkL vs m.at_ m.ps vb m.next vl)]) b.box;have hb2:o.upd (0,0) none (0,2)=it T.ay vb lb:=b.blk;obtain⟨w6,s6⟩:=w5.freeze (k:=(0,2)) (v:=vb) (l:=lb) hb2;have s5:=s5.mono (eD (h:=h) (w5.av (0,2) _ hb2));refine⟨_,View.le_trans (eD (h:=h) (w.av (0,0) _ b.box)) (eD (h:=h) (w5.av (0,2) _ hb2)),w6.wle,fun i hi=>?_,s6,w6.av (0,1) _ b.live,fun i hi=>⟨w6.av (1,i) _ (b.phis i hi),w6.av (2,i) _ (b.ins i hi)⟩⟩;have:=((s5.at (i:=0) (by simp)).part (RawN.p (n:=5) (o:=i) hi)).raw;simpa[slA]using this
variable {s:List Int} {M:Nat} {vs:Value} {W:View} {h:Heap} {o:Own} {m:MS}
theorem MkB.cell{vb vl:Value}{lb:List BlkM}(w:Owns W h o)(b:MkB M vs m o vb vl lb){i:Nat}(hi:i<=5):ao (vw h) ⟨M,i,none⟩=some ((mkL vs m.at_ m.ps vb m.next vl).getD i undef):=w.raw b.box hi
theorem MkB.bj{vb vl:Value}{lb:List BlkM}(bb:MkB M vs m o vb vl lb)(hb:b<m.blocks.length){x':BlkD}{y':BlkM}{o':Own}(hy:y'.term=x'.term)(h02:o' (0,2)=it T.ay vb (lb.set b y'))(h1:o' (1,b)=it T.cE y'.phis.v x'.phis)(h2:o' (2,b)=it T.cg y'.ins.v x'.ins)(ho : ∀q:Key,q≠(0,2)->q≠(1,b)->q≠(2,b)->o' q=o q):MkB M vs { m with blocks:=m.blocks.set b x' } o' vb vl (lb.set b y'):=by
 have hbl:b<lb.length:=by rw[bb.len];exact hb
 refine⟨(ho _ (by simp) (by simp) (by simp)).trans bb.box,(ho _ (by simp) (by simp) (by simp)).trans bb.live,h02,by simp[bb.len],fun j hj=>?_,fun j hj=>?_,fun j hj=>?_⟩;all_goals
  have hj:j<m.blocks.length:=by simpa using hj
  have hjl:j<lb.length:=by rw[bb.len];exact hj
  show _=_
  simp only[aF hj,aF hjl]
  by_cases e:b=j
  ·subst e
   simp only[if_true]
   assumption
  ·simp only[if_neg e]
   first
    | exact bb.term j hj
    | exact(ho _ (by simp) (fun q=>e (by injection q with _ q;exact q.symm)) (by simp)).trans (bb.phis j hj)
    | exact(ho _ (by simp) (by simp) (fun q=>e (by injection q with _ q;exact q.symm))).trans (bb.ins j hj)
theorem Mk.value(w:Mk s M vs W h o m)(h1:m.at_<=999999990)(hl:m.live.length<=1000000000):
  az Tryz.prog N.dp #[.pointer (some ⟨M,0,none⟩)] h (fun u h'=>(m.live.length=0/\u = .tuple #[.int .i64 0,.bool false]/\h'=h)\/(m.live.length≠0/\u = .tuple #[.int .i64 (xy s m),.bool true]/\I64 (xy s m)/\∃o',Mk s M vs W h' o' m.took.took/\∀k:Key,3<=k.1->o' k=o k)):=by
 refine aq (args:=[.pointer (some ⟨M,0,none⟩)]) follows F.dp E.dp (LD (by kernel_rfl)) fun K hK=>?_;obtain⟨vb,vl,lb,b⟩:=w.box;have c5:ao (vw h) ⟨M,5,none⟩=some vl:=b.cell w.own (i:=5) (by decide);have hsl:=w.own.now b.live;dsimp only[L.dp];refine aa fun z hz=>?_;simp;subst hz;refine aa fun z hz=>?_;by_cases h0:m.live.length=0
 ·have h0':m.live=[]:=LO h0;simp[c5,hsl.len,h0];exact hK _ _ (.inl ⟨h0,rfl,rfl⟩)
 have h0':¬(m.live=[]):=fun e=>h0 (by rw[e];rfl);simp[c5,hsl.len,h0'];subst hz;refine aa fun z hz=>?_;simp[c5,hsl.len];refine aj (by kernel_rfl) (w.take (by omega) (n:=(m.live.length:Int)) (by omega) (by omega)) ?_;rintro _ h2 ⟨rfl,o2,w2,f2⟩;subst hz;refine aa fun z hz=>?_;simp;refine aj (by kernel_rfl) (w2.take (show m.at_+1<=_ by omega) (n:=3) (by decide) (by decide)) ?_;rintro _ h3 ⟨rfl,o3,w3,f3⟩;have hx:m.took.at_=m.at_+1:=rfl
 rw[hx];have hf : ∀k:Key,3<=k.1->o3 k=o k:=fun k hk=>(f3 k hk).trans (f2 k hk);have hv:xy s m=_:=xy.eq_1 s m
 obtain⟨vb3,vl3,lb3,b3⟩:=w3.box;have c53:ao (vw h3) ⟨M,5,none⟩=some vl3:=b3.cell w3.own (i:=5) (by decide);have hsl3:SlRd (vw h3) vl3 m.live:=w3.own.now b3.live;obtain⟨r0,r1⟩:=cc (s:=s) (at_:=m.at_) (n:=(m.live.length:Int)) (by omega);generalize aG s m.at_ m.live.length=x at hv r0 r1;generalize aG s (m.at_+1) 3=q at hv;obtain⟨i,hi,hvi,hii⟩ : ∃i:Nat,i<m.live.length/\xy s m=nth m.live i/\(i:Int)=if q=0 then(m.live.length:Int)-1 else x:=by
  by_cases c:q=0
  ·rw[if_pos c]at hv ⊢;exact⟨m.live.length-1,by omega,hv,by omega⟩
  rw[if_neg c]at hv ⊢;exact⟨x.toNat,by omega,hv,by omega⟩
 have h64:IntKind.i64.wrap ((m.live.length:Int)-1)=(m.live.length:Int)-1:=bJ (by omega) (by omega);have fin : ∀ρ:Env,ρ=[(0,.pointer (some ⟨M,0,none⟩)),(2,.int .i64 0),(3,.bool false),(4,.int .i64 i),(17,.int .i64 x),(19,.int .i64 q)]->LC.wp Tryz.prog z (fq [.tmp 2,.tmp 3] K) ρ h3:=by rintro _ rfl;subst hz;refine aa fun z hz=>?_;simp(disch:=omega)[c53,hsl3.idx1 rfl,hsl3.int (View.le_refl _)];subst hz;simp;exact hK _ _ (.inr ⟨h0,by rw[hvi],by rw[hvi];exact hsl3.range hi,o3,w3,hf⟩)
 by_cases c:q=0
 ·rw[if_pos c]at hii;simp[c,c53,hsl3.len,h64];refine fin _ ?_;rw[hii,c]
 rw[if_neg c]at hii;simp[c];refine fin _ ?_;rw[hii]
theorem Mk.add (w:Mk s M vs W h o m) {b:Nat} {i:InsD} {v:Value} (hb:b<m.blocks.length) (hi:Rd W v i) (hn:(nth m.blocks b).ins.length<=100000000) (hl:m.live.length<=100000000) :
    az Tryz.prog N.dA #[.pointer (some ⟨M,0,none⟩),.int .i64 b,v] h (fun u h'=>Nx s M vs W h' o (m.add b i)):=by
  refine aq (args:=[.pointer (some ⟨M,0,none⟩),.int .i64 b,v]) follows F.dA E.dA (LD (by kernel_rfl)) fun K hK=>?_
  obtain⟨vb,vl,lb,bb⟩:=w.box
  obtain⟨va,rfl,hir,hia⟩:=uD hi
  dsimp only[L.dA]
  refine aa fun z hz=>?_
  simp
  refine gm rfl (hi.mono w.own.wle) fun h1 e1 hle1 hs1 hat=>?_
  have w1:=w.own.ext hle1
  have hbx:(grow W h h1) h.size=some (.cells #[.int .i64 i.op,.int .i64 i.dst,.int .i64 i.two,va,.int .i32 i.imm.v] T.cg (0,0)):=by
    rw[cM (LG _),e1];simp[Value.cells]
  have hi1:=hi.mono (aH (h':=h1) w.own.wle)
  have src1:=w.src.mono (aH (h':=h1) w.own.wle)
  have hW1:=aH (h':=h1) w.own.wle
  clear hat e1
  have hld:=Dy hbx (n:=5) rfl
  generalize grow W h h1=W1 at w1 hld hi1 src1 hW1
  generalize h.size=B at hld
  subst hz
  refine aa fun z hz=>?_
  obtain⟨X,hWX,hX,cX,sX,avl,avX⟩:=bb.Jv (s:=s) w1
  have c3:ao X ⟨M,3,none⟩=some vb:=cX 3 (by decide)
  have hbl:b<lb.length:=by rw[bb.len];exact hb
  have a1:=(sX.at hbl).part BlkM.jr
  have hsv:=sX.bound
  have a2:ao X (((slA vb).add (b*6)).add 1)=some (nth lb b).ins.v:=by rw[ak hbl];exact a1.raw
  have hldX:Un.ev X (.al 5) (.pointer (some ⟨B,0,none⟩))=some (.agg #[.int .i64 i.op,.int .i64 i.dst,.int .i64 i.two,va,.int .i32 i.imm.v]):=by
    have:=cV (ρ:=fun _=>none) (e:=.un (.al 5) (.con (.pointer (some ⟨B,0,none⟩)))) hWX (by simpa using hld)
    simpa using this
  refine bF X hX ?_
  simp(disch:=omega)[c3,sX.idxn (N:=6) rfl,a2,hldX]
  refine lg (α:=InsD) (W:=W1) (d:=i) El.jf rfl hi1 fun u5 h5 src hle5 hs5=>⟨View.le_trans hX hle5,?_⟩
  refine(w1.ext' hle5).bw (k:=(2,b)) (α:=InsD) (v:=(nth lb b).ins.v) (l:=(nth m.blocks b).ins) (l2:=[i]) (bb.ins b hb) El.jf rfl rfl src (by simp;omega) (by simp;omega) fun v6 h6 w6 m6=>⟨(m6.view (View.le_trans hX hle5) (avX b hb).2).1,?_⟩
  have hv6:=(w6.cells (k:=(2,b)) Own.af).2
  refine w6.je (k:=(0,2)) (α:=BlkM) BlkM.jr (v:=vb) (l:=lb) (i:=b) (d:=⟨v6⟩) bb.blk (by kernel_rfl) rfl rfl hbl (qx.2 ⟨rfl,hv6⟩) fun h7 w7 _=>?_
  have b7:=bb.bj hb (x':={ nth m.blocks b with ins:=(nth m.blocks b).ins++[i] }) (y':={ lb[b]with ins:=⟨v6⟩ }) (o':=(o.upd (2,b) (it T.cg v6 ((nth m.blocks b).ins++[i]))).upd (0,2) (it T.ay vb (lb.set b { lb[b]with ins:=⟨v6⟩ }))) (by rw[<-bb.term b hb,ak hbl]) Own.af (by rw[<-ak hbl];exact bb.phis b hb) ((Own.ab (by simp)).trans Own.af) (fun q h1 h2 h3=>by rw[Own.ab h1,Own.ab h3])
  generalize hm7:({ m with blocks:=m.blocks.set b { nth m.blocks b with ins:=(nth m.blocks b).ins++[i] } }:MS)=m7 at b7
  have hadd:m.add b i={ m7 with live:=m.live++dc i }:=by rw[<-hm7];rfl
  have hl7:m7.live=m.live:=by rw[<-hm7]
  have hf7 : ∀k:Key,3<=k.1->((o.upd (2,b) (it T.cg v6 ((nth m.blocks b).ins++[i]))).upd (0,2) (it T.ay vb (lb.set b { lb[b]with ins:=⟨v6⟩ }))) k=o k:=fun k hk=>by
    rw[Own.ab (by rintro rfl;simp at hk),Own.ab (by rintro rfl;simp at hk)]
  generalize (o.upd (2,b) (it T.cg v6 ((nth m.blocks b).ins++[i]))).upd (0,2) (it T.ay vb (lb.set b { lb[b]with ins:=⟨v6⟩ }))=o7 at w7 b7 hf7
  generalize lb.set b { lb[b]with ins:=⟨v6⟩ }=lb7 at b7
  clear src avX m6
  subst hz
  refine aa fun z hz=>?_
  have hld7:Un.ev (vw h7) (.al 5) (.pointer (some ⟨B,0,none⟩))=some (.agg #[.int .i64 i.op,.int .i64 i.dst,.int .i64 i.two,va,.int .i32 i.imm.v]):=by
    have:=cV (ρ:=fun _=>none) (e:=.un (.al 5) (.con (.pointer (some ⟨B,0,none⟩)))) w7.wle (by simpa using hld)
    simpa using this
  simp[hld7]
  refine aj (by kernel_rfl) (oZ (hi1.mono w7.wle)) ?_
  rintro u8 h8 ⟨hle8,hu8,-⟩
  have w8:=w7.ext hle8
  have hu8:SlRd (grow W1 h7 h8) u8 (dc i):=hu8.mono (qU (LG _) (View.le_refl _))
  have hW8:=aH (h':=h8) w7.wle
  generalize grow W1 h7 h8=W8 at w8 hu8 hW8
  subst hz
  have c58:ao (vw h8) ⟨M,5,none⟩=some vl:=b7.cell w8 (i:=5) (by decide)
  have hmk:(dc i).length<=2:=by
                                         unfold dc;repeat' split
                                         all_goals simp
  simp[c58]
  refine w8.bw (k:=(0,1)) (α:=Int) (v:=vl) (l:=m.live) (l2:=dc i) (by rw[<-hl7];exact b7.live) El.aS rfl rfl (hu8.src w8.wle) (by omega) (by omega) fun v9 h9 w9 m9=>?_
  have hv9:=(w9.cells (k:=(0,1)) Own.af).2
  have hbx9:(o7.upd (0,1) (it T.int v9 (m.live++dc i))) (0,0)=bx T.aN M (RawN.mk (n:=5) (mkL vs m7.at_ m7.ps vb m7.next vl)):=b7.box
  refine w9.bu (k:=(0,0)) (n:=5) (i:=5) (e:=T.aN) (B:=M) (l:=mkL vs m7.at_ m7.ps vb m7.next vl) hbx9 (by decide) (by kernel_rfl) rfl rfl hv9 fun h10 w10 _=>?_
  refine hK _ _ ⟨W8,_,View.le_trans hW1 hW8,⟨w10,src1.mono hW8,vb,v9,lb7,?_⟩,fun k hk=>?_⟩
  · rw[hadd]
    exact⟨rfl,rfl,b7.blk,b7.len,b7.term,b7.phis,b7.ins⟩
  · rw[Own.ab (by rintro rfl;simp at hk),Own.ab (by rintro rfl;simp at hk)]
    exact hf7 k hk
end
section
structure MS.ok (c:Nat) (m:MS):Prop where
 at_:m.at_<=c
 n0:0<=m.next
 next:m.next<=c
 live:m.live.length<=c
 ins : ∀i,(nth m.blocks i).ins.length<=c
theorem MS.ok.mono{c d:Nat}{m:MS}(h:m.ok c)(hd:c<=d):m.ok d:=
 ⟨by have:=h.at_;omega,h.n0,by have:=h.next;omega,by have:=h.live;omega,fun i=>by have:=h.ins i;omega⟩
theorem MS.ok.took {c:Nat} {m:MS} (h:m.ok c):m.took.ok (c+1):=
 ⟨by have:=h.at_;show m.at_+1<=_;omega,h.n0,by have:=h.next;show m.next<=_;omega,by have:=h.live;show m.live.length<=_;omega,fun i=>by have:=h.ins i;show(nth m.blocks i).ins.length<=_;omega⟩
theorem MS.ok.aJ {c:Nat} {m:MS} (h:m.ok c):m.aJ.ok (c+1):=
 ⟨by have:=h.at_;show m.at_<=_;omega,by have:=h.n0;show 0<=m.next+1;omega,by have:=h.next;show m.next+1<=_;omega,by have:=h.live;show m.live.length<=_;omega,fun i=>by have:=h.ins i;show(nth m.blocks i).ins.length<=_;omega⟩
theorem DI{i:InsD}:(dc i).length<=2:=by
 unfold dc;repeat' split
 all_goals simp
theorem MS.ok.add {c b:Nat} {m:MS} {i:InsD} (h:m.ok c):(m.add b i).ok (c+2):=by
 refine⟨by have:=h.at_;show m.at_<=_;omega,h.n0,by have:=h.next;show m.next<=_;omega,?_,fun j=>?_⟩
 ·have:=h.live;have:=DI (i:=i);show(m.live++dc i).length<=_;rw[LH];omega
 show(nth (m.blocks.set b _) j).ins.length<=_;have hj:=h.ins j;rcases LI j m.blocks.length with hl | hl
 ·rw[aF hl];split
  ·rename_i e;subst e;rw[LH,LJ];omega
  omega
 rw[cB (by simpa using hl)];rw[cB hl]at hj;omega
theorem MS.ok.constant {c b:Nat} {m:MS} {n:Int} (h:m.ok c):(m.constant b n).ok (c+3):=h.aJ.add
theorem MS.ok.two {c b:Nat} {m:MS} {op x y:Int} (h:m.ok c):(m.two b op x y).ok (c+3):=h.aJ.add
variable {s:List Int} {M:Nat} {vs:Value} {W:View} {h:Heap} {o:Own} {m:MS}
theorem MS.ok.aK {c b:Nat} (h:m.ok c):(aK s m b).2.ok (c+10):=by
 unfold Go.Proofs.YtbkdlhkoiagbbaaGreat.aK;repeat' split
 ·exact(h.took.took.constant).mono (by omega)
 ·exact(h.took.took.took.took.took.constant).mono (by omega)
 exact(h.took.took.took).mono (by omega)
variable{b:Nat}
theorem mB{i:InsD}:(m.add b i).blocks.length=m.blocks.length:=by simp[MS.add]
theorem dY:(aK s m b).2.blocks.length=m.blocks.length:=by
 unfold aK;repeat' split
 all_goals simp[Cv,MS.constant,mB,MS.took,MS.aJ]
theorem Mk.constant (w:Mk s M vs W h o m) {b c:Nat} {n:Int} (hb:b<m.blocks.length) (hm:m.ok c) (hc:c<=1000000) (hn:-2147483648<=n/\n<=2147483647) :
  az Tryz.prog N.bA #[.pointer (some ⟨M,0,none⟩),.int .i64 b,.int .i32 n] h (fun u h'=>u = .int .i64 m.next/\Nx s M vs W h' o (m.constant b n)):=by
 refine aq (args:=[.pointer (some ⟨M,0,none⟩),.int .i64 b,.int .i32 n]) follows F.bA E.bA (LD (by kernel_rfl)) fun K hK=>?_;have q1:=hm.next;have q0:=hm.n0;dsimp only[L.bA];refine aa fun z hz=>?_;simp;subst hz;refine aa fun z hz=>?_;simp;refine aj (by kernel_rfl) (w.fresh q0 (by omega)) ?_;rintro _ h2 ⟨rfl,o2,w2,f2⟩;subst hz;refine aa fun z hz=>?_;simp;refine aE (z:=.agg #[.int .i64 0,.int .i64 0,.int .i64 0,.slice none 0 0,.int .i32 0]) (places:=[(0,1),(1,1),(2,1),(3,1),(4,1)]) (vs:=[(0,.int .i64 1),(1,.int .i64 m.next),(4,.int .i32 n)]) (cs:=#[.int .i64 1,.int .i64 m.next,.int .i64 0,.slice none 0 0,.int .i32 n]) (by kernel_rfl) (by kernel_rfl) (by simp) (by rfl) ?_;have hm2:=hm.aJ
 refine aj (by kernel_rfl) (w2.add (i:=conD m.next n) hb (Ba (imm:=⟨n⟩) ⟨⟨by decide,by decide⟩,⟨by omega,by omega⟩,⟨by decide,by decide⟩,hn⟩ fo) (by have:=hm2.ins b;omega) (by have:=hm2.live;omega)) ?_;rintro u3 h3 n3;subst hz;simp;exact hK _ _ ⟨rfl,n3.trans (View.le_refl _) f2⟩
theorem C7(w:Mk s M vs W h o m){c:Nat}(hb:b<m.blocks.length)(hm:m.ok c)(hc:c<=999990):
  az Tryz.prog N.dd #[.pointer (some ⟨M,0,none⟩),.int .i64 b] h (fun u h'=>u = .int .i64 (aK s m b).1/\I64 (aK s m b).1/\Nx s M vs W h' o (aK s m b).2):=by
 refine aq (args:=[.pointer (some ⟨M,0,none⟩),.int .i64 b]) follows F.dd E.dd (LD (by kernel_rfl)) fun K hK=>?_;have qa:=hm.at_;have ql:=hm.live;have hsd:aK s m b=_:=aK.eq_1 s m b;dsimp only[L.dd];refine aa fun z hz=>?_;simp;subst hz;refine aa fun z hz=>?_;simp;refine aj (by kernel_rfl) (w.value (by omega) (by omega)) ?_;rintro u h2 hu;have con : ∀{m2:MS} {o2:Own} {h2:Heap} {ρ:Env} {z:LC},Mk s M vs W h2 o2 m2->(∀k:Key,3<=k.1->o2 k=o k)->m2.ok (c+3)->b<m2.blocks.length->aK s m b=(m2.next,Cv s m2 b)->Lft.look ρ 0=some (.pointer (some ⟨M,0,none⟩))->Lft.look ρ 1=some (.int .i64 b)->
   LC.wp Tryz.prog (.seq (.reg false (.loud [19,20,21] [(19,(.tmp 0)),(20,(.tmp 1))] [(21,(.tmp 0))] none [] false (.call ⟨.value (.func N.cK),#[(.tmp 21)],#[T.pZ]⟩) 21 (some 22) true
   (.loud [] [] [(19,(.tmp 19)),(20,(.tmp 20)),(22,(.tmp 22))] none [] false (.call ⟨.value (.func N.bA),#[(.tmp 19),(.tmp 20),(.tmp 22)],#[T.pZ,3,21]⟩) 3 (some 23) true
    (.fin [4] [(4,(.tmp 23))] [])))) .ret) (gr (LC.wp Tryz.prog z (fq [.tmp 4] K)) (fq [.tmp 4] K)) ρ h2:=by intro m2 o2 h2 ρ z w2 f2 k2 b2 e2 r0 r1;refine aa fun y hy=>?_;simp[r0,r1];refine aj (by kernel_rfl) (w2.word (by have:=k2.at_;omega)) ?_;rintro _ h3 ⟨rfl,o3,w3,f3⟩;simp[ag,ah,r0,r1];refine aj (by kernel_rfl) (w3.constant (n:=kS s m2) b2 k2.took.took (by omega) pJ) ?_;rintro _ h4 ⟨rfl,n4⟩;subst hy;simp[ag,ah];refine hK _ _ ⟨by rw[e2];rfl,by rw[e2];have:=k2.n0;have:=k2.next;exact⟨by show _<=m2.next;omega,by show m2.next<=_;omega⟩,?_⟩;rw[e2];exact n4.trans (View.le_refl _) fun k hk=>(f3 k hk).trans (f2 k hk)
 rcases hu with⟨h0,rfl,rfl⟩ | ⟨h0,rfl,hi64,o2,w2,f2⟩
 ·rw[if_pos h0]at hsd;simp;subst hz;refine aa fun z hz=>?_;refine aa fun y hy=>?_;simp;subst hy;refine aw (by simp) ?_;exact con w (fun _ _=>rfl) (hm.mono (by omega)) hb hsd (by simp[ag,ah]) (by simp[ag,ah])
 rw[if_neg h0]at hsd;simp;subst hz;refine aa fun z hz=>?_;refine aa fun y hy=>?_;simp;have k2:=hm.took.took;refine aj (by kernel_rfl) (w2.take (by have:=k2.at_;omega) (n:=9) (by decide) (by decide)) ?_;rintro _ h3 ⟨rfl,o3,w3,f3⟩;have hx:m.took.took.at_=m.at_+2:=rfl;rw[hx];simp;subst hy;by_cases c9:aG s (m.at_+2) 9=0
 ·rw[if_pos c9]at hsd;refine aw (by simp[c9]) ?_;exact con w3 (fun k hk=>(f3 k hk).trans (f2 k hk)) k2.took hb hsd (by simp[ag,ah]) (by simp[ag,ah])
 rw[if_neg c9]at hsd;refine au (by simp[c9]) ?_;simp;subst hz;simp;refine hK _ _ ⟨by rw[hsd],by rw[hsd];exact hi64,?_⟩;rw[hsd];exact w3.nx.trans (View.le_refl _) fun k hk=>(f3 k hk).trans (f2 k hk)
end
end Go.Proofs.YtbkdlhkoiagbbaaGreat
