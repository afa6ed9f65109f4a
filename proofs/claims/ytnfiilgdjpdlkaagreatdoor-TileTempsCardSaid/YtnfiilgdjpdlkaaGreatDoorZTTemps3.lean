/- A part of the proof: Wt, Ha, Hb, Hc, Pa, Pb, Pd, Pc, Pe, Pf, Pg, Ph, Hd, He, Hf, Hg, LftO, Hi, Hj. -/
import Derived.Test.YtnfiilgdjpdlkaaGreatDoorZTTemps2
set_option linter.unusedSimpArgs false
set_option linter.unusedVariables false
namespace Go.Proofs.YtnfiilgdjpdlkaaGreatDoor
open Go Go.Lft
theorem vD{h h':Heap}{v v':Value}(m:kD h h' v v'){W:View}(hw:W.le (vw h))(ha:Av W v):W.le (vw h'):=(m.view hw ha).1
theorem FQ{g:Gr}{vg:Value}{h:Heap}{fuel:Nat}{l:List Int}(hg:SlRd (vw h) vg g)(hs:Sm g)(hl:vY g fuel=some l):
  aw Tryz.prog N.cK #[vg] h (fun v h'=>∃W,Mine nothing h h' W T.int v l):=by
 refine ao (args:=[vg]) follows F.cK E.cK (Kw (by kernel_rfl)) fun K hK=>?_;have hs1:=hs.1;simp[L.cK,hg.len];refine af (by kernel_rfl) (zK hg hs) ?_;rintro vo h1 ⟨hle1,ho⟩;have hoin:=@Cw g;have holen:=pI (g:=g);rw[vY]at hl;generalize bf g=order at ho hoin holen hl;refine Mine.made (V:=nothing) (W:=nothing) (h0:=h) (n:=g.length) (d:=(0:Int)) El.aP hle1 (fun _ _ h=>by cases h) (Old.nothing _ _) (by simp<;>rfl) (by simp<;>rfl) ⟨rfl,by omega,by omega⟩ (by omega) (by omega) fun vn h2 mn hle2 hbn=>?_;refine Mine.made (V:=nothing) (W:=nothing) (h0:=h) (n:=g.length) (d:=(0:Int)) El.aP mn.old (fun _ _ h=>by cases h) (Old.nothing _ _) (by simp<;>rfl) (by simp<;>rfl) ⟨rfl,by omega,by omega⟩ (by omega) (by omega) fun vi h3 mi hle3 hbi=>?_;have mn3:=mn.ext' hle3
 have hne:vn.ownBlock≠vi.ownBlock:=by have:=mn.own.lt hbn;rw[hbn,hbi];intro e;simp only[Kx]at e;omega
 have hle13:(vw h1).le (vw h3):=View.le_trans hle2 hle3;have av1n:Av (vw h1) vn:=fun b hb=>by rw[hbn]at hb;cases hb;exact View.cM (View.le_refl _) (Kz _)
 have av1i:Av (vw h1) vi:=fun b hb=>by rw[hbi]at hb;cases hb;exact View.cM hle2 (Kz _)
 refine aJ [0,3,4,5,25,26] (fun(_:Unit) k=>[vg,vo,vn,vi,.int .i64 g.length,.int .i64 k])
  (fun _ k h4=>Mine nothing h h4 nothing T.int vn (rows (fun _=>(-1:Int)) k++List.replicate (g.length-k) 0)/\Mine nothing h h4 nothing T.int vi (rows (fun _=>(-1:Int)) k++List.replicate (g.length-k) 0)/\(vw h1).le (vw h4)) g.length ()
  rfl (by omega) rfl ⟨by simpa using mn3,by simpa using mi,hle13⟩ (fun _ _=>rfl) (fun v k h1 hk m=>by simp) ?_ ?_
 ·rintro _ k h4 hlt ⟨m4n,m4i,hle4⟩ K2 hK2;have hlk:(rows (fun _=>(-1:Int)) k++List.replicate (g.length-k) (0:Int)).length=g.length:=by simp;omega
  simp(disch:=omega)[m4n.now.idx1 rfl,m4i.now.idx1 rfl];refine rm (W:=nothing) (i:=k) (d:=(-1:Int)) (by kernel_rfl) (by simp[show Rep.n Int=1 from rfl]) (by simp<;>rfl) m4n.own (by omega) (nY (by omega) (by omega)) fun h5 o5 mv5=>?_;have m5n:=m4n.jo o5 mv5;have m5i:=m4i.beside m5n mv5 (.inr (Ne.symm hne));refine rm (W:=nothing) (i:=k) (d:=(-1:Int)) (by kernel_rfl) (by simp[show Rep.n Int=1 from rfl]) (by simp<;>rfl) m5i.own (by omega) (nY (by omega) (by omega)) fun h6 o6 mv6=>?_;have m6i:=m5i.jo o6 mv6
  have m6n:=m5n.beside m6i mv6 (.inr hne);rw[vk (x:=fun _=>(-1:Int)) hlt]at m6i m6n;exact hK2 () _ _ rfl rfl ⟨m6n,m6i,vD mv6 (vD mv5 hle4 av1n) av1i⟩
 rintro _ h4 ⟨m4n,m4i,hle4⟩;have hrows:rows (fun _=>(-1:Int)) g.length=List.replicate g.length (-1):=by refine LU (by simp) fun i h1 h2=>?_;simp[rows]
 rw[hrows]at m4n m4i;simp only[NB,List.replicate_zero,L2]at m4n m4i;have ho1:=ho.mono (ko h h1);simp[ho1.len];refine aJ [0,3,4,5,36,37,38] (fun(_:Unit) k=>[vg,vo,vn,vi,vo,.int .i64 order.length,.int .i64 k])
  (fun _ k h5=>Mine nothing h h5 nothing T.int vn (up (fun i l=>l.set (nth order i).toNat (i:Int)) k (List.replicate g.length (-1)))/\Mine nothing h h5 nothing T.int vi (List.replicate g.length (-1))/\(vw h1).le (vw h5)) order.length ()
  rfl (by omega) rfl ⟨m4n,m4i,hle4⟩ (fun _ _=>rfl) (fun v k h1 hk m=>by simp) ?_ ?_
 ·rintro _ k h5 hlt ⟨m5n,m5i,hle5⟩ K2 hK2;have hlen5:(up (fun i l=>l.set (nth order i).toNat (i:Int)) k (List.replicate g.length (-1))).length=g.length:=by rw[xU List.length (fun _ _=>by simp)];simp
  have ho5:=ho1.mono hle5;obtain⟨e0,e1⟩:=hoin hlt;simp(disch:=omega)[ho5.idx1 rfl,ho5.int (View.le_refl _),m5n.now.idx1 rfl];refine rm (W:=nothing) (i:=(nth order k).toNat) (d:=(k:Int)) (by kernel_rfl) (by simp[show Rep.n Int=1 from rfl]) (by simp<;>rfl) m5n.own (by omega) (nY (by omega) (by omega)) fun h6 o6 mv6=>?_;have m6n:=m5n.jo o6 mv6
  exact hK2 () _ _ rfl rfl ⟨m6n,m5i.beside m6n mv6 (.inr (Ne.symm hne)),vD mv6 hle5 av1n⟩
 rintro _ h5 ⟨m5n,m5i,hle5⟩;have hnum:up (fun i l=>l.set (nth order i).toNat (i:Int)) order.length (List.replicate g.length (-1))=fK g.length order:=rfl;rw[hnum]at m5n;have hnl:(fK g.length order).length=g.length:=by rw[fK,xU List.length (fun _ _=>by simp)];simp
 simp;refine af (by kernel_rfl) (yK (hg.mono m5n.old) hs) ?_;rintro vp h6 ⟨hle6,hp⟩;have hpl:(dE g).length=g.length:=by rw[dE,nr];simp
 have hpin : ∀i,∀x∈nth (dE g) i,0<=x/\x<g.length:=rG (fun e he=>(oP he).1) (fun i x hx=>by
  rcases KB i g.length with hi | hi
  ·rw[aB hi]at hx;cases hx
  rw[de (by simpa using hi)]at hx;cases hx);have m6:=(m5i.ext' hle6).over;have hn6:SlRd (but vi h6) vn (fK g.length order):=(m5n.own.rd (V:=but vi h5) (fun _ _ h=>by cases h) (fun b hb=>by unfold but;rw[if_neg (fun e=>hne (hb.trans e.symm))])).mono (zU hle6)
 have hp6:SlRd (but vi h6) vp (dE g):=hp.mono fun b o hb=>by
  have hb2:=ko _ _ b o hb;unfold but;split
  ·rename_i e;have:=m5i.own.lt e;unfold fresh at hb;rw[if_pos this]at hb;cases hb
  exact hb2
 have ho6:SlRd (but vi h6) vo order:=ho1.mono (View.le_trans (ID hle5 av1i) (zU hle6));generalize hW:but vi h6=W at m6 hn6 hp6 ho6;generalize fK g.length order=number at hn6 hnl hl;generalize hpr:dE g=preds at hp6 hpl hpin hl;obtain⟨pv,hpv⟩:=hp6.rows;refine iV [3,4,5,9,10] (fun m ρ h7=>∃(out:List Int) (ch:Bool),ρ=[(3,vo),(4,vn),(5,vi),(9,vp),(10,.bool ch)]/\Mine (vw h) h h7 W T.int vi out/\out.length=g.length/\(∀i,i<g.length->-1<=nth out i/\nth out i<g.length)/\
  (ch=true->mq number preds g.length (order.drop (min 1 order.length)) m out=some l)/\(ch=false->out=l)) fuel
  ⟨_,true,rfl,m6,by simp,fun i hi=>by rw[aB hi];omega,fun _=>hl,fun h=>by cases h⟩ ?_;rintro m ρ h7 ⟨out,ch,rfl,m7,hol,hor,hch1,hch2⟩ K2 hK2;cases ch with
 | false=>simp[L.cK.l3,j0];have:=hch2 rfl;subst this;exact hK _ _ ⟨_,m7.Jq⟩
 | true=>
  have hit:=hch1 rfl;cases m with
  | zero=>cases hit
  | succ m=>
   rw[mq,KH]at hit;obtain⟨⟨out',ch'⟩,hsw,hfin⟩:=hit;simp only at hfin;simp[L.cK.l3,j0];have hmin:(if(order.length:Int)<1 then(order.length:Int) else 1)=((min 1 order.length:Nat):Int):=by split<;>omega
   obtain⟨u,hu,hur⟩:=ho6.drop (n:=min 1 order.length) (by omega) (kd:=.i64);rw[show Rep.n Int=1 from rfl]at hu;have hti : ∀j,j<(order.drop (min 1 order.length)).length->nth (order.drop (min 1 order.length)) j=nth order (min 1 order.length+j):=by intro j hj;rw[K7]at hj;rw[az (by rw[K7];omega),az (by omega),Ni]
   generalize order.drop (min 1 order.length)=tail at hur hti hsw hfin hK2;simp only[ho6.len,KS,H2,hmin,hu,hur.len,jK,dD];have hub:=hur.bound;simp;refine aJ [3,4,5,9,10,55,56,57] (fun(s:List Int × Bool) k=>[vo,vn,vi,vp,.bool s.2,u,.int .i64 tail.length,.int .i64 k])
    (fun s k h8=>Mine (vw h) h h8 W T.int vi s.1/\s.1.length=g.length/\(∀i,i<g.length->-1<=nth s.1 i/\nth s.1 i<g.length)/\qf number preds g.length (tail.drop k) s=some (out',ch')) tail.length (out,false)
    rfl (by omega) rfl ⟨m7,hol,hor,by simpa using hsw⟩ (fun _ _=>rfl) (fun v k h1 hk m=>by simp) ?_ ?_
   ·rintro⟨o8,c8⟩ k h8 hlt8 ⟨m8,hol8,hor8,hs8⟩ K3 hK3;simp only at m8 hol8 hor8;rw[KY hlt8,<-az hlt8,qf]at hs8;split at hs8;case isFalse=>cases hs8
    rename_i hb;rw[KH]at hs8;obtain⟨best,hbest,hs8⟩:=hs8;simp only at hbest hs8;have hb2:=AQ (by omega) hol8 hnl hor8 hbest;generalize hbe:nth tail k=b at hb hbest hs8;obtain⟨cv,rr⟩:=hpv b.toNat (by omega);have br:=rr.bound;simp(disch:=omega)[hur.idx1 rfl,hur.int m8.wle,hbe,hp6.idx1 rfl,cv _ m8.wle,rr.len];refine aJ [3,4,5,9,10,55,56,57,12,13,64,65,66] (fun(bst:Int) j=>[vo,vn,vi,vp,.bool c8,u,.int .i64 tail.length,.int .i64 k,.int .i64 b,.int .i64 bst,pv b.toNat,.int .i64 (nth preds b.toNat).length,.int .i64 j])
     (fun bst j h9=>Mine (vw h) h h9 W T.int vi o8/\(-1<=bst/\bst<g.length)/\bstS o8 number g.length ((nth preds b.toNat).drop j) bst=some best) (nth preds b.toNat).length (-1)
     rfl (by omega) rfl ⟨m8,by omega,by simpa using hbest⟩ (fun _ _=>rfl) (fun v k h1 hk m=>by simp) ?_ ?_
    ·rintro bst j h9 hlt9 ⟨m9,hb9,hs9⟩ K4 hK4;rw[KY hlt9,<-az hlt9,bstS]at hs9;have ha:=hpin _ _ (cj hlt9);rw[if_pos ha]at hs9;have hra:=rr.int m9.wle hlt9;generalize nth (nth preds b.toNat) j=a at hs9 ha hra;have hn9:=hn6.int m9.wle (i:=a.toNat) (by omega);have ho9:=m9.now.int (View.le_refl _) (i:=a.toNat) (by omega);have hi9:=m9.now;by_cases c1:nth number a.toNat<0
     ·rw[if_pos (.inl c1)]at hs9;simp(disch:=omega)[rr.idx1 rfl,hra,hn6.idx1 rfl,hn9,c1,hi9.idx1 rfl,ho9];exact hK4 bst _ _ rfl rfl ⟨m9,hb9,hs9⟩
     by_cases c2:a=0
     ·rw[if_neg (by rintro(h | h);exact c1 h;exact h.1 c2)]at hs9;subst c2;rw[Int.toNat_zero]at hn9 ho9 c1;simp(disch:=omega)[rr.idx1 rfl,hra,hn6.idx1 rfl,hn9,c1,hi9.idx1 rfl,ho9];refine⟨fun c4=>?_,fun c4=>?_⟩
      ·rw[if_pos c4]at hs9;exact hK4 _ _ _ rfl rfl ⟨m9,by omega,hs9⟩
      rw[if_neg (by omega),KH]at hs9;obtain⟨c,hc,hs9⟩:=hs9;have hcr:=iS hc;refine af (by kernel_rfl) (xj m9.now (hn6.mono m9.wle) hc) ?_;rintro _ _ ⟨rfl,rfl⟩;exact hK4 c _ _ rfl rfl ⟨m9,by omega,hs9⟩
     by_cases c3:nth o8 a.toNat<0
     ·rw[if_pos (.inr ⟨c2,c3⟩)]at hs9;simp(disch:=omega)[rr.idx1 rfl,hra,hn6.idx1 rfl,hn9,c1,c2,hi9.idx1 rfl,ho9,c3];exact hK4 bst _ _ rfl rfl ⟨m9,hb9,hs9⟩
     rw[if_neg (by rintro(h | h);exact c1 h;exact c3 h.2)]at hs9;simp(disch:=omega)[rr.idx1 rfl,hra,hn6.idx1 rfl,hn9,c1,c2,hi9.idx1 rfl,ho9,c3];refine⟨fun c4=>?_,fun c4=>?_⟩
     ·rw[if_pos c4]at hs9;exact hK4 _ _ _ rfl rfl ⟨m9,by omega,hs9⟩
     rw[if_neg (by omega),KH]at hs9;obtain⟨c,hc,hs9⟩:=hs9;have hcr:=iS hc;refine af (by kernel_rfl) (xj m9.now (hn6.mono m9.wle) hc) ?_;rintro _ _ ⟨rfl,rfl⟩;exact hK4 c _ _ rfl rfl ⟨m9,by omega,hs9⟩
    rintro bst h9 ⟨m9,hb9,hs9⟩;simp only[List.drop_length,bstS,Kx]at hs9;subst hs9;simp(disch:=omega)[m9.now.idx1 rfl,m9.now.int (View.le_refl _)];refine⟨fun e=>hK3 (o8,c8) _ _ rfl rfl ⟨m9,hol8,hor8,by rw[setS,if_neg (by simpa using e)]at hs8;exact hs8⟩,fun e=>?_⟩;refine m9.put1 (α:=Int) (i:=b.toNat) (by kernel_rfl) rfl (by simp) (by simp<;>rfl) (by omega) (nY (by omega) (by omega)) fun h10 m10=>hK3 (o8.set b.toNat bst,true) _ _ rfl rfl ⟨m10,by simpa using hol8,fun i hi=>?_,by rw[setS,if_pos e]at hs8;exact hs8⟩;simp only;rw[bn (by omega)];split
    ·exact hb9
    exact hor8 i hi
   rintro⟨o8,c8⟩ h8 ⟨m8,hol8,hor8,hs8⟩;simp only[List.drop_length,qf,Kx,LP]at hs8 m8 hol8 hor8;obtain⟨rfl,rfl⟩:=hs8;simp;refine hK2 m _ _ (by omega) ⟨_,_,rfl,m8,hol8,hor8,fun e=>?_,fun e=>?_⟩
   ·rw[if_pos e]at hfin;exact hfin
   rw[if_neg (by simp[e])]at hfin;exact Option.some.inj hfin
abbrev Tr:=Int × Int × Int
def trV (t:Tr):List PanicEntry:=[{ v:=.iface T.fX (.agg #[.int .i64 t.1,.int .i64 t.2.1,.int .i64 t.2.2]),recovered:=false }]
def cg (n a b:Int):Bool:=decide (a<=n)&&decide (n<=b)
variable{b:Int}
theorem jV{n a:Int}{h:Heap}:aw Tryz.prog N.fh #[.int .i64 n,.int .i64 a,.int .i64 b] h (fun v h'=>v = .bool (cg n a b)/\h'=h):=by refine ao (args:=[.int .i64 n,.int .i64 a,.int .i64 b]) follows F.fh E.fh (Kw (by kernel_rfl)) fun K hK=>?_;simp[L.fh];exact hK _ _ ⟨by by_cases h1:a<=n<;>simp[cg,h1],rfl⟩
theorem gR{ok:Bool}{e p:Int}{h:Heap}:iH Tryz.prog N.fw #[.bool ok,.int .i64 e,.int .i64 b,.int .i64 p] h (fun v h'=>ok=true/\h'=h) (fun ch h'=>ok=false/\ch=trV (e,b,p)/\h'=h):=by
 refine gX (args:=[.bool ok,.int .i64 e,.int .i64 b,.int .i64 p]) follows F.fw E.fw (Kw (by kernel_rfl)) fun K Kp hK hKp=>?_;cases ok with
 | true=>simp[L.fw];exact hK _ _ ⟨rfl,rfl⟩
 | false=>simp[L.fw];refine aq (z:=.agg #[.int .i64 0,.int .i64 0,.int .i64 0]) (places:=[(0,1),(1,1),(2,1)]) (vs:=[(0,.int .i64 e),(1,.int .i64 b),(2,.int .i64 p)]) (cs:=#[.int .i64 e,.int .i64 b,.int .i64 p]) (by kernel_rfl) (by kernel_rfl) (by simp) (by rfl) ?_;refine DZ (d:=(Tryz.prog.underlying T.fX).getD .bool) (by kernel_rfl) (by kernel_rfl) rfl ?_;simp;refine Du (t:=T.fX) (v:=.agg #[.int .i64 e,.int .i64 b,.int .i64 p]) rfl ?_;exact⟨.inl rfl,hKp _ _ ⟨rfl,rfl,rfl⟩⟩
def gp (op:Int):Int × Int:=if op=1 then(0,0) else if op=15 then(1,1) else if op=17 then(0,4) else(2,2)
theorem yW{op:Int}{h:Heap}:aw Tryz.prog N.eh #[.int .i64 op] h (fun v h'=>v = .tuple #[.int .i64 (gp op).1,.int .i64 (gp op).2]/\h'=h):=by refine ao (args:=[.int .i64 op]) follows F.eh E.eh (Kw (by kernel_rfl)) fun K hK=>?_;simp[L.eh];refine⟨fun h1=>hK _ _ ⟨by simp[gp,h1],rfl⟩,fun h1=>⟨fun h2=>hK _ _ ⟨by simp[gp,h1,h2],rfl⟩,fun h2=>⟨fun h3=>hK _ _ ⟨by simp[gp,h1,h2,h3],rfl⟩,fun h3=>hK _ _ ⟨by simp[gp,h1,h2,h3],rfl⟩⟩⟩⟩
def cQ (i:InsD):List Int:=if i.op=16 then[] else if i.op=18 then[i.dst,i.two] else[i.dst]
theorem zz{d:InsD}{v:Value}{h:Heap}(hd:Rd (vw h) v d):aw Tryz.prog N.fL #[v] h (fun u h'=>(vw h).le (vw h')/\SlRd (fresh h h') u (cQ d)):=by
 refine ao (args:=[v]) follows F.fL E.fL (Kw (by kernel_rfl)) fun K hK=>?_;simp[L.fL];refine iG rfl hd fun h1 _ hle1 hsz1 hat=>?_;obtain⟨c0,c1,c2,va,ca⟩:=kP hat;have r1:=(hat.part InsD.iN).rng;have r2:=(hat.part InsD.xe).rng;simp[c0];refine⟨fun e1=>hK _ _ ⟨hle1,by simpa[cQ,e1]using aI⟩,fun e1=>⟨fun e2=>?_,fun e2=>?_⟩⟩
 ·simp[c1,c2];refine kR (X:=nothing) (ds:=[d.dst,d.two]) (vs:=[.int .i64 d.dst,.int .i64 d.two]) rfl El.aP (by simp) ⟨bC.2 ⟨rfl,r1⟩,bC.2 ⟨rfl,r2⟩,trivial⟩ bs rfl (by omega) fun u h2 hle2 hsz2 hu _=>?_;exact hK _ _ ⟨View.le_trans hle1 hle2,by simpa[cQ,e2]using hu _ bs (by unfold fresh;rw[if_neg (by omega)])⟩
 simp[c1];refine kR (X:=nothing) (ds:=[d.dst]) (vs:=[.int .i64 d.dst]) rfl El.aP (by simp) ⟨bC.2 ⟨rfl,r1⟩,trivial⟩ bs rfl (by omega) fun u h2 hle2 hsz2 hu _=>?_;exact hK _ _ ⟨View.le_trans hle1 hle2,by simpa[cQ,e1,e2]using hu _ bs (by unfold fresh;rw[if_neg (by omega)])⟩
abbrev MW:=Int->Option (Int × Int)
def encW (w:Int × Int):Value:=.agg #[.int .i64 w.1,.int .i64 w.2]
variable{Kb:Nat}
theorem GB{ps n p:Int}{h:Heap}(h0:aj (vw h) ⟨Kb,0,none⟩=some (.int .i64 ps)):
  iH Tryz.prog N.du #[.pointer (some ⟨Kb,0,none⟩),.int .i64 n,.int .i64 b,.int .i64 p] h (fun _ h'=>cg n ps 8191=true/\h'=h) (fun ch h'=>cg n ps 8191=false/\ch=trV (11,b,p)/\h'=h):=by
 refine gX (args:=[.pointer (some ⟨Kb,0,none⟩),.int .i64 n,.int .i64 b,.int .i64 p]) follows F.du E.du (Kw (by kernel_rfl)) fun K Kp hK hKp=>?_;simp[L.du,h0];refine af (by kernel_rfl) jV ?_;rintro _ _ ⟨rfl,rfl⟩;refine dT (by kernel_rfl) gR ?_ ?_
 ·rintro _ _ ⟨e,rfl⟩;exact hK _ _ ⟨e,rfl⟩
 rintro _ _ ⟨e,rfl,rfl⟩;exact⟨.inl rfl,hKp _ _ ⟨e,rfl,rfl⟩⟩
theorem FK{r:Nat}{m:MW}{n p:Int}{h:Heap}(h2:aj (skip r h) ⟨Kb,2,none⟩=some (.map (some r)))(hm:dL (.int .i64) h r (mapE encW m)):
  iH Tryz.prog N.dx #[.pointer (some ⟨Kb,0,none⟩),.int .i64 n,.int .i64 b,.int .i64 p] h (fun _ h'=>m n=none/\dL (.int .i64) h' r (mapE encW (putM m n (b,p)))/\Kept h h' (some r))
   (fun ch h'=>m n≠none/\ch=trV (12,b,p)/\Kept h h' (some r)):=by
 refine gX (args:=[.pointer (some ⟨Kb,0,none⟩),.int .i64 n,.int .i64 b,.int .i64 p]) follows F.dx E.dx (Kw (by kernel_rfl)) fun K Kp hK hKp=>?_;simp[L.dx,ae cS h2];refine lz (z:=.agg #[.int .i64 0,.int .i64 0]) U.fM U.int (by kernel_rfl) (by simp<;>rfl) (by simp<;>rfl) fE hm ?_;simp;refine gS (n:=2) (z:=.agg #[.int .i64 0,.int .i64 0]) (v:=((m n).map encW).getD (.agg #[.int .i64 0,.int .i64 0])) (by kernel_rfl) rfl (by kernel_rfl) (by cases m n<;>rfl) (by cases m n<;>simp[encW,Value.oneCell']) (fun _=>by simp) (fun _=>by simp) fun h3 hle3 _ _=>?_;have k3:=Kept.of_le (b:=some r) hle3;have hm3:=hm.ext hle3;have h23:=ae k3.BB h2;refine dT (by kernel_rfl) gR ?_ ?_
 ·rintro _ _ ⟨e,rfl⟩;simp[h23];refine aq (z:=.agg #[.int .i64 0,.int .i64 0]) (places:=[(0,1),(1,1)]) (vs:=[(0,.int .i64 b),(1,.int .i64 p)]) (cs:=#[.int .i64 b,.int .i64 p]) (by kernel_rfl) (by kernel_rfl) (by simp) (by rfl) ?_;refine jX (v:=encW (b,p)) (.inl rfl) U.fM U.int (by simp<;>rfl) (by simp<;>rfl) (by simp<;>rfl) fE hm3 _ iR.1 iR.2 fun h4 hs4 ho4 hm4=>?_;exact hK _ _ ⟨by simpa using e,hm4,k3.trans (Kept.upd hs4 ho4)⟩
 rintro _ _ ⟨e,rfl,rfl⟩;exact⟨.inl rfl,hKp _ _ ⟨(by intro e2;rw[e2]at e;cases e),rfl,k3⟩⟩
def pn (b p:Int) (m:MW) (n:Int):Except Tr MW:=if(m n).isSome then .error (12,b,p) else .ok (putM m n (b,p))
def allS (ps:Int) (l:List Int) (b p:Int) (m:MW):Except Tr MW:=if l.all (fun n=>cg n ps 8191) then l.foldlM (pn b p) m else .error (11,b,p)
structure Lk (h:Heap) (Kb r:Nat) (vb:Value) (f:ak) (m:MW):Prop where
 c0:aj (skip r h) ⟨Kb,0,none⟩=some (.int .i64 f.params)
 c1:aj (skip r h) ⟨Kb,1,none⟩=some vb
 c2:aj (skip r h) ⟨Kb,2,none⟩=some (.map (some r))
 rb:SlRd (skip r h) vb f.blocks
 map:dL (.int .i64) h r (mapE encW m)
theorem Lk.kept{h h':Heap}{Kb r:Nat}{vb:Value}{f:ak}{m m':MW}(k:Lk h Kb r vb f m)(hk:Kept h h' (some r))(hm:dL (.int .i64) h' r (mapE encW m')):Lk h' Kb r vb f m':=
 ⟨ae hk.skip k.c0,ae hk.skip k.c1,ae hk.skip k.c2,k.rb.mono hk.skip,hm⟩
theorem Lk.ext {h h':Heap} {Kb r:Nat} {vb:Value} {f:ak} {m:MW} (k:Lk h Kb r vb f m) (hle:(vw h).le (vw h')):Lk h' Kb r vb f m:=
 k.kept (Kept.of_le hle) (k.map.ext hle)
theorem Fm{r:Nat}{vb vl:Value}{f:ak}{m:MW}{l:List Int}{p:Int}{h:Heap}(k:Lk h Kb r vb f m)(hl:SlRd (skip r h) vl l):
  iH Tryz.prog N.bR #[.pointer (some ⟨Kb,0,none⟩),vl,.int .i64 b,.int .i64 p] h (fun _ h'=>∃m',allS f.params l b p m = .ok m'/\Lk h' Kb r vb f m'/\Kept h h' (some r))
   (fun ch h'=>∃t,allS f.params l b p m = .error t/\ch=trV t/\Kept h h' (some r)):=by
 refine gX (args:=[.pointer (some ⟨Kb,0,none⟩),vl,.int .i64 b,.int .i64 p]) follows F.bR E.bR (Kw (by kernel_rfl)) fun K Kp hK hKp=>?_;have hlb:=hl.bound;simp[L.bR,hl.len];refine aJ [0,1,2,3,12,13,14] (fun(_:Unit) i=>[.pointer (some ⟨Kb,0,none⟩),vl,.int .i64 b,.int .i64 p,vl,.int .i64 l.length,.int .i64 i]) (fun _ i h1=>h1=h/\∀j,j<i->cg (nth l j) f.params 8191=true) l.length ()
  rfl (by omega) rfl ⟨rfl,fun j hj=>by omega⟩ (fun _ _=>rfl) (fun v i h1 hk m=>by simp) ?_ ?_
 ·rintro _ i _ hlt ⟨rfl,hpre⟩ K2 hK2;simp(disch:=omega)[hl.idx1 rfl,hl.int cS];refine dT (by kernel_rfl) (GB (ae cS k.c0)) ?_ ?_
  ·rintro _ _ ⟨e,rfl⟩;refine hK2 () _ _ rfl rfl ⟨rfl,fun j hj=>?_⟩;rcases KB j i with h | h
   ·exact hpre j h
   have:j=i:=by omega
   subst this;exact e
  rintro _ _ ⟨e,rfl,rfl⟩;refine⟨.inl rfl,hKp _ _ ⟨_,?_,rfl,Kept.refl _ _⟩⟩;rw[allS,if_neg];intro ha;rw[Lo.1 ha _ (cj hlt)]at e;cases e
 rintro _ h ⟨rfl,hpre⟩;have hall:allS f.params l b p m=l.foldlM (pn b p) m:=by rw[allS,if_pos];rw[Lo];intro x hx;obtain⟨j,hj,rfl⟩:=KV hx;rw[<-az hj];exact hpre j hj
 rw[hall]at hK hKp;simp[hl.len];refine aJ [0,2,3,24,25,26] (fun(_:Unit) i=>[.pointer (some ⟨Kb,0,none⟩),.int .i64 b,.int .i64 p,vl,.int .i64 l.length,.int .i64 i]) (fun _ i h1=>∃m',(l.take i).foldlM (pn b p) m = .ok m'/\Lk h1 Kb r vb f m'/\Kept h h1 (some r)) l.length ()
  rfl (by omega) rfl ⟨m,rfl,k,Kept.refl _ _⟩ (fun _ _=>rfl) (fun v i h1 hk m=>by simp) ?_ ?_
 ·rintro _ i h1 hlt ⟨m1,hm1,k1,kp1⟩ K2 hK2;have hl1:=hl.mono kp1.BB;have hst:=AJ hlt hm1;simp(disch:=omega)[hl1.idx1 rfl,hl1.int (View.le_refl _)];refine dT (by kernel_rfl) (FK k1.c2 k1.map) ?_ ?_
  ·rintro _ h2 ⟨e,hm2,kp2⟩;refine hK2 () _ _ rfl rfl ⟨_,by rw[hst,pn,e];rfl,k1.kept kp2 hm2,kp1.trans kp2⟩
  rintro _ h2 ⟨e,rfl,kp2⟩;refine⟨.inl rfl,hKp _ _ ⟨_,Dg (k:=i+1) (by rw[hst,pn,if_pos (Option.isSome_iff_ne_none.2 e)]),rfl,kp1.trans kp2⟩⟩
 rintro _ h1 ⟨m1,hm1,k1,kp1⟩;rw[Lz]at hm1;simp;exact hK _ _ ⟨m1,hm1,k1,kp1⟩
abbrev Sh:=Int × Int × Int × Int
def encS (s:Sh):Value:=.agg #[.int .i64 s.1,.int .i64 s.2.1,.int .i64 s.2.2.1,.int .i64 s.2.2.2]
def gh:Int->Option Sh:=putM (putM (putM (putM (putM (fun _=>none) 1 (0,0,1,1)) 2 (1,1,2,2)) 3 (1,1,2,65)) 4 (0,1,0,0)) 5 (0,0,0,0)
theorem oo{po:OP}{ty:TypeId}{us:List (Nat × Value)}{h:Heap}{K:Value->Heap->Prop}{a c d:Int}(hk:K (encS (a,b,c,d)) h):
  Lft.step Tryz.prog (.build T.dJ #[(0,.const (.int .i64 a)),(1,.const (.int .i64 b)),(2,.const (.int .i64 c)),(3,.const (.int .i64 d))]) ty us h K:=
 aq (z:=.agg #[.int .i64 0,.int .i64 0,.int .i64 0,.int .i64 0]) (places:=[(0,1),(1,1),(2,1),(3,1)]) (vs:=[(0,.int .i64 a),(1,.int .i64 b),(2,.int .i64 c),(3,.int .i64 d)]) (cs:=#[.int .i64 a,.int .i64 b,.int .i64 c,.int .i64 d]) (by kernel_rfl) (by kernel_rfl) (by simp only[List.map_toArray,LK,List.map_nil,wj]) (by rfl) hk
theorem kt{po:OP}{ty:TypeId}{us:List (Nat × Value)}{h:Heap}{K:Value->Heap->Prop}{x y:Operand}{r:Nat}{f:Int->Option Sh}{j:Int}{s:Sh}(hx:asg us x = .map (some r))(hy:asg us y=encS s)(m:dL (.int .i64) h r (mapE encS f))(hk : ∀h':Heap,Kept h h' (some r)->dL (.int .i64) h' r (mapE encS (putM f j s))->K undef h'):Lft.step Tryz.prog (.insert T.eo x (.const (.int .i64 j)) y) ty us h K:=
 jX (v:=encS s) (.inr rfl) U.eo U.int hx rfl hy fE m _ iR.1 iR.2 fun h' hs ho hm=>hk h' (Kept.upd hs ho) hm
theorem we{h:Heap}:aw Tryz.prog N.fl #[] h (fun v h'=>v = .map (some h.size)/\(vw h).le (vw h')/\dL (.int .i64) h' h.size (mapE encS gh)):=by
 refine ao (args:=[]) follows F.fl E.fl (Kw (by kernel_rfl)) fun K hK=>?_;simp[L.fl];refine lg ?_;have m0:dL (.int .i64) (h.push (.map #[] 0)) h.size (mapE encS fun _=>none):=by rw[oU];exact dL.none (by simp)
 have hle:=bM h (.map #[] 0);generalize h.push (.map #[] 0)=h0 at m0 hle;refine oo (kt (s:=(0,0,1,1)) rfl rfl m0 fun h1 k1 m1=>?_);refine oo (kt (s:=(1,1,2,2)) rfl rfl m1 fun h2 k2 m2=>?_);refine oo (kt (s:=(1,1,2,65)) rfl rfl m2 fun h3 k3 m3=>?_);refine oo (kt (s:=(0,1,0,0)) rfl rfl m3 fun h4 k4 m4=>?_);refine oo (kt (s:=(0,0,0,0)) rfl rfl m4 fun h5 k5 m5=>?_);refine hK _ _ ⟨rfl,fun b o hb=>?_,m5⟩;have hlt:=View.lt (View.le_refl (vw h)) hb;have kk:=(((k1.trans k2).trans k3).trans k4).trans k5;show h5[b]? = _;rw[kk.block b (Nb hlt (bW hle)) (by simp;omega)];exact hle b o hb
def nU (t:dm):Bool:=match gh t.kind with
 | some s=>cg t.args.length s.1 s.2.1&&cg t.to.length s.2.2.1 s.2.2.2
 | none=>false
def insS (ps b:Int) (x:BlkD) (i:Nat) (m:MW):Except Tr MW:=
 if cg (nth x.ins i).op 1 18&&cg (nth x.ins i).args.length (gp (nth x.ins i).op).1 (gp (nth x.ins i).op).2 then allS ps (cQ (nth x.ins i)) b i m else .error (10,b,i)
def phiS (ps b:Int) (x:BlkD) (i:Nat) (m:MW):Except Tr MW:=allS ps [(nth x.phis i).dst] b (-1-i) m
def endS (n b:Int) (x:BlkD) (m:MW):Except Tr MW:=
 if nU x.term then(if x.term.to.all (fun t=>cg t 1 (n-1)) then .ok m else .error (14,b,x.ins.length)) else .error (10,b,x.ins.length)
def blkS (f:ak) (b:Nat) (m:MW):Except Tr MW:=
 match upE (phiS f.params b (nth f.blocks b)) (nth f.blocks b).phis.length m with
 | .error t=>.error t
 | .ok m1=>match upE (insS f.params b (nth f.blocks b)) (nth f.blocks b).ins.length m1 with
  | .error t=>.error t
  | .ok m2=>endS f.blocks.length b (nth f.blocks b) m2
def lf (f:ak) (m:MW):Except Tr MW:=upE (blkS f) f.blocks.length m
theorem Dv{r:Nat}{vb:Value}{f:ak}{m:MW}{h:Heap}(k:Lk h Kb r vb f m):
  iH Tryz.prog N.aR #[.pointer (some ⟨Kb,0,none⟩)] h (fun _ h'=>∃m',lf f m = .ok m'/\Lk h' Kb r vb f m'/\Kept h h' (some r))
   (fun ch h'=>∃t,lf f m = .error t/\ch=trV t/\Kept h h' (some r)):=by
 refine gX (args:=[.pointer (some ⟨Kb,0,none⟩)]) follows F.aR E.aR (Kw (by kernel_rfl)) fun K Kp hK hKp=>?_;have hbb:=k.rb.bound;simp[L.aR,ae cS k.c1,k.rb.len];refine aJ [0,18,19,20] (fun(_:Unit) b=>[.pointer (some ⟨Kb,0,none⟩),vb,.int .i64 f.blocks.length,.int .i64 b]) (fun _ b h1=>∃m',upE (blkS f) b m = .ok m'/\Lk h1 Kb r vb f m'/\Kept h h1 (some r)) f.blocks.length ()
  rfl (by omega) rfl ⟨m,rfl,k,Kept.refl _ _⟩ (fun _ _=>rfl) (fun v i h1 hk m=>by simp) ?_ ?_
 ·rintro _ b h1 hltb ⟨m1,hm1,k1,kp1⟩ K2 hK2;have hst:=mF hm1;have her : ∀{t},blkS f b m1 = .error t->lf f m = .error t:=fun e=>xr hm1 hltb e;obtain⟨u,hu,hur⟩:=k1.rb.wh rfl (N:=6) rfl hltb;rw[blkS]at hst her;have hr1:=k1.map.lt
  generalize hx:nth f.blocks b=x at hst her hur;refine ab fun z hz=>?_;simp(disch:=omega)[k1.rb.idxn (N:=6) rfl,hu _ cS];refine dX (z:=.agg #[.slice none 0 0,.slice none 0 0,.int .i64 0,.slice none 0 0,.slice none 0 0,.int .i32 0]) (by kernel_rfl) rfl (by kernel_rfl) hur (fun _=>by simp) (fun _=>by simp) fun h2 hle2 hsz2 hat=>?_;have k2:=k1.ext hle2;have kp2:=kp1.trans (Kept.of_le hle2);have hat2:=hat (skip r h2) (Kept.of_le hle2).skip (lH (by omega));obtain⟨vp,vi,va,vt,bp,bi,bk,ba,bt⟩:=kl hat2;generalize h1.size=B at bp bi bk ba bt;subst hz;refine ab fun z hz=>?_;simp[ae cS bp.1,bp.2.len];have bph:=bp.2.bound
  have bin:=bi.2.bound;have bto:=bt.2.bound;refine aJ [0,2,3,18,19,20,26,27,28] (fun(_:Unit) i=>[.pointer (some ⟨Kb,0,none⟩),.int .i64 b,.pointer (some ⟨B,0,none⟩),vb,.int .i64 f.blocks.length,.int .i64 b,vp,.int .i64 x.phis.length,.int .i64 i])
   (fun _ i h3=>∃m',upE (phiS f.params b x) i m1 = .ok m'/\Lk h3 Kb r vb f m'/\Kept h2 h3 (some r)) x.phis.length ()
   rfl (by omega) rfl ⟨m1,rfl,k2,Kept.refl _ _⟩ (fun _ _=>rfl) (fun v i h1 hk m=>by simp) ?_ ?_
  ·rintro _ i h3 hlti ⟨m3,hm3,k3,kp3⟩ K3 hK3;have bp3:=bp.2.mono kp3.skip;obtain⟨u5,hu5,hur5⟩:=bp3.wh rfl (N:=2) rfl hlti;have hr3:=k3.map.lt;have hst3:=mF hm3;have her3 : ∀{t},phiS f.params b x i m3 = .error t->upE (phiS f.params b x) x.phis.length m1 = .error t:=fun e=>xr hm3 hlti e;rw[phiS]at hst3 her3;refine ab fun y hy=>?_;simp(disch:=omega)[bp3.idxn (N:=2) rfl,hu5 _ cS];refine dX (z:=.agg #[.int .i64 0,.slice none 0 0]) (by kernel_rfl) rfl (by kernel_rfl) hur5 (fun _=>by simp) (fun _=>by simp) fun h4 hle4 hsz4 hat4=>?_;have hat4':=hat4 (skip r h4) (Kept.of_le hle4).skip (lH (by omega))
   obtain⟨c0,_⟩:=yd hat4';have rd:=(hat4'.part PhiD.iN).rng;generalize nth x.phis i=q at c0 rd hst3 her3;generalize h3.size=B3 at c0;subst hy;simp[ae cS c0];refine kR (X:=nothing) (ds:=[q.dst]) (vs:=[.int .i64 q.dst]) rfl El.aP (by simp) ⟨bC.2 ⟨rfl,rd⟩,trivial⟩ bs rfl (by omega) fun u6 h5 hle5 hsz5 hu6 _=>?_;have k5:=(k3.ext hle4).ext hle5
   have kp5:=(kp3.trans (Kept.of_le hle4)).trans (Kept.of_le hle5);have hr5:=k5.map.lt;simp(disch:=omega);refine dT (by kernel_rfl) (Fm k5 (hu6 _ bs (lH (by omega)))) ?_ ?_
   ·rintro _ h6 ⟨m6,hm6,k6,kp6⟩;exact hK3 () _ _ rfl rfl ⟨m6,by rw[hst3,hm6],k6,kp5.trans kp6⟩
   rintro _ h6 ⟨t,ht,rfl,kp6⟩;exact⟨.inl rfl,hKp _ _ ⟨t,her (by rw[her3 ht]),rfl,(kp2.trans kp5).trans kp6⟩⟩
  rintro _ h3 ⟨m3,hm3,k3,kp3⟩;simp only[hm3]at hst her;simp;subst hz;refine ab fun z hz=>?_;have bi3:=bi.2.mono kp3.skip;have ci3:=ae kp3.BB bi.1;have kp03:=kp2.trans kp3;simp[ci3,bi3.len];refine aJ [0,2,3,18,19,20,43,44,45] (fun(_:Unit) i=>[.pointer (some ⟨Kb,0,none⟩),.int .i64 b,.pointer (some ⟨B,0,none⟩),vb,.int .i64 f.blocks.length,.int .i64 b,vi,.int .i64 x.ins.length,.int .i64 i])
   (fun _ i h4=>∃m',upE (insS f.params b x) i m3 = .ok m'/\Lk h4 Kb r vb f m'/\Kept h3 h4 (some r)) x.ins.length ()
   rfl (by omega) rfl ⟨m3,rfl,k3,Kept.refl _ _⟩ (fun _ _=>rfl) (fun v i h1 hk m=>by simp) ?_ ?_
  ·rintro _ i h4 hlti ⟨m4,hm4,k4,kp4⟩ K3 hK3;have bi4:=bi3.mono kp4.skip;obtain⟨u5,hu5,hur5⟩:=bi4.wh rfl (N:=5) rfl hlti;have hr4:=k4.map.lt;have hst4:=mF hm4;have her4 : ∀{t},insS f.params b x i m4 = .error t->upE (insS f.params b x) x.ins.length m3 = .error t:=fun e=>xr hm4 hlti e;rw[insS]at hst4 her4;refine ab fun y hy=>?_;simp(disch:=omega)[bi4.idxn (N:=5) rfl,hu5 _ cS];refine dX (z:=.agg #[.int .i64 0,.int .i64 0,.int .i64 0,.slice none 0 0,.int .i32 0]) (by kernel_rfl) rfl (by kernel_rfl) hur5 (fun _=>by simp) (fun _=>by simp) fun h5 hle5 hsz5 hat5=>?_;have hat5':=hat5 (skip r h5) (Kept.of_le hle5).skip (lH (by omega))
   obtain⟨c0,c1,c2,va5,ca5⟩:=kP hat5';have k5:=k4.ext hle5;have kp5:=kp4.trans (Kept.of_le hle5);have whole : ∃w,Un.ev (vw h5) (.au 5) (.pointer (some ⟨h4.size,0,none⟩))=some w/\Rd (vw h5) w (nth x.ins i):=by obtain⟨w,w1,w2⟩:=(hat5'.mono cS).au rfl;exact⟨w,w1,w2⟩
   obtain⟨w,w1,w2⟩:=whole;generalize nth x.ins i=q at c0 c1 c2 ca5 hst4 her4 w2;generalize h4.size=B4 at c0 c1 c2 ca5 w1;subst hy;refine ab fun y hy=>?_;simp[ae cS c0];refine af (by kernel_rfl) jV ?_;rintro _ _ ⟨rfl,rfl⟩;refine dT (by kernel_rfl) gR ?_ ?_;rotate_left
   ·rintro _ _ ⟨e,rfl,rfl⟩;exact⟨.inl rfl,hKp _ _ ⟨_,her (by rw[her4 (by rw[if_neg (by simp[e])])]),rfl,kp03.trans kp5⟩⟩
   rintro _ _ ⟨e1,rfl⟩;subst hy;refine ab fun y hy=>?_;simp[ae cS c0];refine af (by kernel_rfl) yW ?_;rintro _ _ ⟨rfl,rfl⟩;simp;subst hy;refine ab fun y hy=>?_;simp[ae cS ca5.1,ca5.2.len];refine af (by kernel_rfl) jV ?_;rintro _ _ ⟨rfl,rfl⟩;refine dT (by kernel_rfl) gR ?_ ?_;rotate_left
   ·rintro _ _ ⟨e,rfl,rfl⟩;exact⟨.inl rfl,hKp _ _ ⟨_,her (by rw[her4 (by rw[if_neg (by simp[e])])]),rfl,kp03.trans kp5⟩⟩
   rintro _ _ ⟨e2,rfl⟩;subst hy;simp[w1];refine af (by kernel_rfl) (zz w2) ?_;rintro u6 h6 ⟨hle6,hu6⟩;have k6:=k5.ext hle6;have kp6:=kp5.trans (Kept.of_le hle6);rw[if_pos (by simp[e1,e2])]at hst4 her4;have hr5:=k5.map.lt;refine dT (by kernel_rfl) (Fm k6 (hu6.mono fun b o hb=>?_)) ?_ ?_
   ·unfold fresh at hb;unfold Lft.skip;split at hb
    ·cases hb
    rw[if_neg (by omega)];exact hb
   ·rintro _ h7 ⟨m7,hm7,k7,kp7⟩;exact hK3 () _ _ rfl rfl ⟨m7,by rw[hst4,hm7],k7,kp6.trans kp7⟩
   rintro _ h7 ⟨t,ht,rfl,kp7⟩;exact⟨.inl rfl,hKp _ _ ⟨t,her (by rw[her4 ht]),rfl,(kp03.trans kp6).trans kp7⟩⟩
  rintro _ h4 ⟨m4,hm4,k4,kp4⟩;simp only[hm4]at hst her;simp;subst hz;refine ab fun z hz=>?_;have kp24:=kp3.trans kp4;have hr4:=k4.map.lt;have ck4:=ae kp24.skip bk;have hc : ∀{h5:Heap},Kept h4 h5 (some r)->(skip r h4).le (vw h5):=fun hk=>hk.BB;have cellsS : ∀o:Option Sh,((o.map encS).getD (.agg #[.int .i64 0,.int .i64 0,.int .i64 0,.int .i64 0]))=encS (o.getD (0,0,0,0)):=fun o=>by cases o<;>rfl
  have hone : ∀s:Sh,∀c∈(encS s).cells.toList,c.oneCell'=true:=fun s=>by simp[encS,Value.oneCell']
  refine ix (fun ρ h5=>∃(B5:Nat) (v79 v83:Value) (tl:Env),ρ=[(0,.pointer (some ⟨Kb,0,none⟩)),(2,.int .i64 b),(3,.pointer (some ⟨B,0,none⟩)),(10,.pointer (some ⟨B5,0,none⟩)),(11,.bool (gh x.term.kind).isSome),(18,vb),(19,.int .i64 f.blocks.length),(20,.int .i64 b),(43,vi),
    (44,.int .i64 x.ins.length),(45,.int .i64 x.ins.length),(79,v79),(82,.int .i64 x.term.kind),(83,v83)]++tl/\Lk h5 Kb r vb f m4/\Kept h4 h5 (some r)/\B5≠r/\h5[B5]? = some (.cells (encS ((gh x.term.kind).getD (0,0,0,0))).cells T.dJ (0,0))) ?_ ?_
  ·intro K3 hK3;refine aS (skip r h4) cS ?_;simp[ck4];refine⟨?_,?_⟩
   ·refine af (by kernel_rfl) we ?_;rintro _ h5 ⟨rfl,hle5,hm5⟩;have hs5:=bW hle5;refine⟨hc (Kept.of_le hle5),?_,?_⟩
    ·refine lz (z:=.agg #[.int .i64 0,.int .i64 0,.int .i64 0,.int .i64 0]) U.eo U.int (by kernel_rfl) (by simp<;>rfl) (by simp<;>rfl) fE hm5 ?_;rw[oh,cellsS,NU];simp;refine gS (n:=4) (v:=encS ((gh x.term.kind).getD (0,0,0,0))) (z:=.agg #[.int .i64 0,.int .i64 0,.int .i64 0,.int .i64 0]) (by kernel_rfl) rfl (by kernel_rfl) rfl (hone _) (fun _=>by simp) (fun _=>by simp) fun h6 hle6 hsz6 hb6=>?_;exact hK3 _ _ ⟨_,_,_,_,rfl,(k4.ext hle5).ext hle6,(Kept.of_le hle5).trans (Kept.of_le hle6),by omega,hb6⟩
    refine dS (z:=.agg #[.int .i64 0,.int .i64 0,.int .i64 0,.int .i64 0]) (by kernel_rfl) ?_;have hle6:=bM h5 (.cells (Value.cells (.agg #[.int .i64 0,.int .i64 0,.int .i64 0,.int .i64 0])) T.dJ);have hb6:(h5.push (.cells (Value.cells (.agg #[.int .i64 0,.int .i64 0,.int .i64 0,.int .i64 0])) T.dJ))[h5.size]? = some (.cells (Value.cells (.agg #[.int .i64 0,.int .i64 0,.int .i64 0,.int .i64 0])) T.dJ (0,0)):=by simp
    have hs6:(h5.push (.cells (Value.cells (.agg #[.int .i64 0,.int .i64 0,.int .i64 0,.int .i64 0])) T.dJ)).size=h5.size+1:=by simp
    generalize h5.push (.cells (Value.cells (.agg #[.int .i64 0,.int .i64 0,.int .i64 0,.int .i64 0])) T.dJ)=h6 at hle6 hb6 hs6;refine⟨hc ((Kept.of_le hle5).trans (Kept.of_le hle6)),?_⟩;refine lz (z:=.agg #[.int .i64 0,.int .i64 0,.int .i64 0,.int .i64 0]) U.eo U.int (by kernel_rfl) (by simp<;>rfl) (by simp<;>rfl) fE (hm5.ext hle6) ?_;rw[oh,cellsS,NU];simp;refine eX (g:=h5.size) (o:=0) (n:=4) (v:=encS ((gh x.term.kind).getD (0,0,0,0))) (by kernel_rfl) rfl rfl rfl (hone _) hb6 (by simp) fun h7 hs7 ⟨row,hb7,hrow⟩ ho7=>?_;have hrow2:row=(encS ((gh x.term.kind).getD (0,0,0,0))).cells:=by rw[<-Array.toList_inj,hrow];simp
    rw[hrow2]at hb7;have kp7:Kept h4 h7 (some r):=⟨by omega,fun q hq hne=>by rw[ho7 q (by omega)];exact hle6 _ _ (hle5 _ _ (KO hq)) |>.trans (KO hq).symm⟩;exact hK3 _ _ ⟨_,_,_,_,rfl,k4.kept kp7 (((k4.map.ext hle5).ext hle6).same (ho7 r (by omega))),kp7,by omega,hb7⟩
   refine dS (z:=.agg #[.int .i64 0,.int .i64 0,.int .i64 0,.int .i64 0]) (by kernel_rfl) ?_;have hle5:=bM h4 (.cells (Value.cells (.agg #[.int .i64 0,.int .i64 0,.int .i64 0,.int .i64 0])) T.dJ);have hb5:(h4.push (.cells (Value.cells (.agg #[.int .i64 0,.int .i64 0,.int .i64 0,.int .i64 0])) T.dJ))[h4.size]? = some (.cells (Value.cells (.agg #[.int .i64 0,.int .i64 0,.int .i64 0,.int .i64 0])) T.dJ (0,0)):=by simp
   have hs5:(h4.push (.cells (Value.cells (.agg #[.int .i64 0,.int .i64 0,.int .i64 0,.int .i64 0])) T.dJ)).size=h4.size+1:=by simp
   generalize h4.push (.cells (Value.cells (.agg #[.int .i64 0,.int .i64 0,.int .i64 0,.int .i64 0])) T.dJ)=h5 at hle5 hb5 hs5;refine⟨hc (Kept.of_le hle5),?_⟩;refine af (by kernel_rfl) we ?_;rintro _ h6 ⟨rfl,hle6,hm6⟩;have hs6:=bW hle6;refine⟨hc ((Kept.of_le hle5).trans (Kept.of_le hle6)),?_⟩;refine lz (z:=.agg #[.int .i64 0,.int .i64 0,.int .i64 0,.int .i64 0]) U.eo U.int (by kernel_rfl) (by simp<;>rfl) (by simp<;>rfl) fE hm6 ?_;rw[oh,cellsS,NU];simp;refine eX (g:=h4.size) (o:=0) (n:=4) (v:=encS ((gh x.term.kind).getD (0,0,0,0))) (by kernel_rfl) rfl rfl rfl (hone _) (hle6 _ _ hb5) (by simp) fun h7 hs7 ⟨row,hb7,hrow⟩ ho7=>?_;have hrow2:row=(encS ((gh x.term.kind).getD (0,0,0,0))).cells:=by rw[<-Array.toList_inj,hrow];simp
   rw[hrow2]at hb7;have kp7:Kept h4 h7 (some r):=⟨by omega,fun q hq hne=>by rw[ho7 q (by omega)];exact hle6 _ _ (hle5 _ _ (KO hq)) |>.trans (KO hq).symm⟩;exact hK3 _ _ ⟨_,_,_,_,rfl,k4.kept kp7 (((k4.map.ext hle5).ext hle6).same (ho7 r (by omega))),kp7,by omega,hb7⟩
  rintro ρ h5 ⟨B5,v79,v83,tl,rfl,k5,kp5,hB5,hb5⟩;subst hz;refine ab fun z hz=>?_;have kp25:=kp24.trans kp5;have ci5:=ae kp25.skip bi.1;have bi5:=bi.2.mono kp25.skip;have ca5:=ae kp25.skip ba.1;have ba5:=ba.2.mono kp25.skip;have ct5:=ae kp25.skip bt.1;have bt5:=bt.2.mono kp25.skip;have hb5':skip r h5 B5=some (.cells (encS ((gh x.term.kind).getD (0,0,0,0))).cells T.dJ (0,0)):=by rw[lH hB5];exact hb5
  generalize hsh:(gh x.term.kind).getD (0,0,0,0)=s at hb5';have d0:aj (skip r h5) ⟨B5,0,none⟩=some (.int .i64 s.1):=dc hb5' rfl;have d1:aj (skip r h5) ⟨B5,1,none⟩=some (.int .i64 s.2.1):=dc hb5' rfl;have d2:aj (skip r h5) ⟨B5,2,none⟩=some (.int .i64 s.2.2.1):=dc hb5' rfl;have d3:aj (skip r h5) ⟨B5,3,none⟩=some (.int .i64 s.2.2.2):=dc hb5' rfl;have hto:nU x.term=((gh x.term.kind).isSome&&(cg x.term.args.length s.1 s.2.1&&cg x.term.to.length s.2.2.1 s.2.2.2)):=by rw[nU,<-hsh];cases gh x.term.kind<;>rfl
  refine aS (skip r h5) cS ?_;have bad:nU x.term=false->∀ch,ch=trV (10,(b:Int),(x.ins.length:Int))->Kp ch h5:=fun e ch hch=>hKp _ _ ⟨_,her (by rw[endS,if_neg (by simp[e])]),hch,kp03.trans (kp4.trans kp5)⟩;have good:nU x.term=true->∀tl:Env,@LC.wp (ppOf Kp) Tryz.prog z (eY 1 (eU K2 (eY 0 (@dH [] K)))) ([(0,.pointer (some ⟨Kb,0,none⟩)),(2,.int .i64 b),(3,.pointer (some ⟨B,0,none⟩)),(10,.pointer (some ⟨B5,0,none⟩)),(11,.bool true),(18,vb),(19,.int .i64 f.blocks.length),(20,.int .i64 b),(43,vi),
   (44,.int .i64 x.ins.length),(45,.int .i64 x.ins.length),(79,v79),(82,.int .i64 x.term.kind),(83,v83)]++tl) h5:=by
   intro hgood tl;subst hz;have ct5':=ae cS ct5;have cb5:=k5.c1;have hne:0<f.blocks.length:=by omega
   simp[ct5',bt5.len];refine aJ [0,2,3,18,19,20,116,117,118] (fun(_:Unit) i=>[.pointer (some ⟨Kb,0,none⟩),.int .i64 b,.pointer (some ⟨B,0,none⟩),vb,.int .i64 f.blocks.length,.int .i64 b,vt,.int .i64 x.term.to.length,.int .i64 i])
    (fun _ i h6=>h6=h5/\∀j,j<i->cg (nth x.term.to j) 1 (f.blocks.length-1)=true) x.term.to.length ()
    rfl (by omega) (by simp[bF,ag,ah]) ⟨rfl,fun j hj=>by omega⟩ (fun _ _=>rfl) (fun v i h1 hk m=>by simp) ?_ ?_
   ·rintro _ i h5 hlti ⟨rfl,hpre⟩ K3 hK3;refine ab fun y hy=>?_;simp(disch:=omega)[bt5.idx1 rfl,bt5.int cS];subst hy;refine aS (skip r h5) cS ?_;simp(disch:=omega)[ci5,bi5.len,cb5,k5.rb.len];refine af (by kernel_rfl) jV ?_;rintro _ _ ⟨rfl,rfl⟩;refine⟨cS,?_⟩;refine dT (by kernel_rfl) gR ?_ ?_
    ·rintro _ _ ⟨e,rfl⟩;refine hK3 () _ _ rfl rfl ⟨rfl,fun j hj=>?_⟩;rcases KB j i with h | h
     ·exact hpre j h
     have:j=i:=by omega
     subst this;exact e
    rintro ch _ ⟨e,hch,rfl⟩;refine⟨.inr fun _=>trivial,hKp _ _ ⟨_,her ?_,hch,kp03.trans (kp4.trans kp5)⟩⟩;rw[endS,if_pos hgood,if_neg];intro ha;rw[Lo.1 ha _ (cj hlti)]at e;cases e
   rintro _ h5 ⟨rfl,hpre⟩;simp;refine hK2 () _ _ rfl rfl ⟨m4,?_,k5,kp03.trans (kp4.trans kp5)⟩;rw[hst,endS,if_pos hgood,if_pos];rw[Lo];intro y hy;obtain⟨j,hj,rfl⟩:=KV hy;rw[<-az hj];exact hpre j hj
  cases hso:(gh x.term.kind).isSome with
  | false=>
   simp[ci5,bi5.len,d0,d1,d2,d3,ca5,ba5.len,ct5,bt5.len,ag,ah];refine dT (by kernel_rfl) gR ?_ ?_
   ·rintro _ _ ⟨e,_⟩;cases e
   rintro ch _ ⟨_,hch,rfl⟩;exact⟨.inr fun _=>trivial,bad (by rw[hto,hso];rfl) _ hch⟩
  | true=>
   rw[hso,MB]at hto;simp[ci5,bi5.len,d0,d1,d2,d3,ca5,ba5.len,ct5,bt5.len,ag,ah];refine af (by kernel_rfl) jV ?_;rintro _ _ ⟨rfl,rfl⟩;refine⟨cS,?_⟩;cases hw1:cg x.term.args.length s.1 s.2.1 with
   | false=>
    simp[ag,ah];refine dT (by kernel_rfl) gR ?_ ?_
    ·rintro _ _ ⟨e,_⟩;cases e
    rintro ch _ ⟨_,hch,rfl⟩;exact⟨.inr fun _=>trivial,bad (by rw[hto,hw1];rfl) _ hch⟩
   | true=>
    simp[ag,ah];refine af (by kernel_rfl) jV ?_;rintro _ _ ⟨rfl,rfl⟩;refine⟨cS,?_⟩;refine dT (by kernel_rfl) gR ?_ ?_
    ·rintro _ _ ⟨e,rfl⟩;exact good (by rw[hto,hw1,e];rfl) _
    rintro ch _ ⟨e,hch,rfl⟩;exact⟨.inr fun _=>trivial,bad (by rw[hto,hw1,e];rfl) _ hch⟩
 rintro _ h1 ⟨m1,hm1,k1,kp1⟩;simp;exact hK _ _ ⟨m1,hm1,k1,kp1⟩
theorem pF : ∀{a b:List Int},a.Pairwise (· < ·)->b.Pairwise (· < ·)->(∀x,x∈a↔x∈b)->a=b
 | [],[],_,_,_=>rfl
 | [],y::b,_,_,h=>by have:=(h y).2 (KI ..);cases this
 | x::a,[],_,_,h=>by have:=(h x).1 (KI ..);cases this
 | x::a,y::b,ha,hb,h=>by
  obtain⟨a1,a2⟩:=NM.1 ha;obtain⟨b1,b2⟩:=NM.1 hb;have e:x=y:=by
   rcases KP.1 ((h x).1 (KI ..))with e | h1
   ·exact e
   rcases KP.1 ((h y).2 (KI ..))with e | h2
   ·exact e.symm
   have:=a1 y h2;have:=b1 x h1;omega
  subst e;rw[pF a2 b2 fun z=>?_];constructor
  ·intro hz;rcases KP.1 ((h z).1 (KJ _ hz))with e | h1
   ·have:=a1 z hz;omega
   exact h1
  intro hz;rcases KP.1 ((h z).2 (KJ _ hz))with e | h1
  ·have:=b1 z hz;omega
  exact h1
theorem yc(l:List Int):(nQ l).Pairwise (·<=·):=by have:=List.pairwise_mergeSort (le:=fun x y:Int=>decide (x<=y)) (fun a b c h1 h2=>by simp at *;omega) (fun a b=>by simp;omega) l;exact this.imp fun h=>by simpa using h
theorem get!_nth{l:List Int}{i:Nat}:l.toArray[i]! = nth l i:=by simp[nth,MU]
theorem vx{l:List Int}(hs:l.Pairwise (·<=·)){i j:Nat}(hij:i<=j)(hj:j<l.length):nth l i<=nth l j:=by
 rw[az (by omega),az hj];rcases KB i j with h | h
 ·exact List.pairwise_iff_getElem.1 hs i j (by omega) hj h
 have:i=j:=by omega
 subst this;exact Nd _
theorem vu{l:List Int}(hs:l.Pairwise (·<=·)):(Lib.compact l).Pairwise (· < ·):=by unfold Lib.compact Lib.compactUpTo;rw[List.pairwise_map,List.pairwise_filter];refine(List.pairwise_lt_range (n:=l.length)).imp_of_mem fun{i j} hi hj hij ki kj=>?_;simp only[LQ]at hi hj;simp only[Lib.keeps,get!_nth,decide_eq_true_eq]at kj;rw[get!_nth,get!_nth];have h1:=vx hs (i:=i) (j:=j-1) (by omega) (by omega);have h2:=vx hs (i:=j-1) (j:=j) (by omega) hj;rcases kj with h | h<;>omega
theorem tc{l:List Int}{x:Int}:x∈Lib.compact l↔x∈l:=by
 refine⟨n7,fun hx=>?_⟩;obtain⟨j,hj,rfl⟩:=KV hx;have key : ∀j,j<l.length->nth l j∈Lib.compact l:=by
  intro j;induction j with
  | zero=>intro h;unfold Lib.compact Lib.compactUpTo;refine LF.2 ⟨0,ML.2 ⟨by simpa using h,by simp[Lib.keeps]⟩,get!_nth⟩
  | succ j ih=>
   intro h;by_cases he:nth l (j+1)=nth l j
   ·rw[he];exact ih (by omega)
   unfold Lib.compact Lib.compactUpTo;refine LF.2 ⟨j+1,ML.2 ⟨by simpa using h,by simp only[Lib.keeps,get!_nth,decide_eq_true_eq];exact .inr (by simpa using he)⟩,get!_nth⟩
 rw[<-az hj];exact key j hj
theorem og{β:Type}{p:Nat->Bool}{x:Nat->β}{n:Nat}{y:β}:y∈sift p x n↔∃i,i<n/\p i=true/\x i=y:=by rw[oH];simp[and_assoc]
theorem yu{row:List Int}{n:Int}:(kK row n).Pairwise (· < ·):=vu (yc _)
theorem rL{row:List Int}{n x:Int}:x∈kK row n↔x∈row/\0<=x/\x<n:=by
 rw[kK,tc,nQ,NL,og];simp only[om,KE,decide_eq_true_eq];constructor
 ·rintro⟨i,hi,h,rfl⟩;exact⟨cj hi,h⟩
 rintro⟨h,h1⟩;obtain⟨i,hi,rfl⟩:=KV h;exact⟨i,hi,by rw[az hi];exact h1,az hi⟩
theorem iu{g:Gr}{a:Int}:mK g a b=true↔(0<=a/\a<g.length/\0<=b/\b<g.length)/\b∈nth g a.toNat:=by simp[mK]
theorem zA{p:Nat->Bool}{n:Nat}:(sift p (fun b=>(b:Int)) n).Pairwise (· < ·):=by rw[oH,List.pairwise_map,List.pairwise_filter];exact List.pairwise_lt_range.imp fun h _ _=>by omega
theorem gG{g:Gr}{a:Int}:b∈kL g a↔mK g a b=true:=by
 rw[kL,og];constructor
 ·rintro⟨i,_,h,rfl⟩;exact h
 intro h;have:=(iu.1 h).1;exact⟨b.toNat,by omega,by rw[KR (by omega)];exact h,KR (by omega)⟩
theorem qU{g:Gr}{a:Int}:(kL g a).Pairwise (· < ·):=zA
theorem vF{g:Gr}{a:Nat}(ha:a<g.length):nth (dB g) a=kL g a:=by rw[dB,gm ha];refine pF yu qU fun x=>?_;rw[rL,gG,iu,KT];exact⟨fun⟨h1,h2,h3⟩=>⟨⟨by omega,by omega,h2,h3⟩,h1⟩,fun⟨⟨_,_,h2,h3⟩,h1⟩=>⟨h1,h2,h3⟩⟩
theorem yZ{f k:Nat->List Int}{n:Nat}(h : ∀a,a<n->f a=k a):jN f n=jN k n:=by
 induction n with
 | zero=>rfl
 | succ n ih=>rw[jl,jl,ih fun a ha=>h a (by omega),h n (by omega)]
theorem Db{g:Gr}:iQ g=jN (fun a=>kL g a) g.length:=yZ fun a ha=>vF ha
theorem EH{l:List (Int × Int)}: ∀{p:Gr} {i:Nat},i<p.length->nth (l.foldl fB p) i=nth p i++(l.filter fun e=>decide (e.2.toNat=i)).map Prod.fst:=by
 induction l with
 | nil=>intro p i _;simp
 | cons e l ih=>
  intro p i hi;rw[K1,ih (by simpa[fB]using hi),fB,bn hi,Ns];split
  ·rename_i h;simp[h]
  rename_i h;simp[h]
theorem filter_one{l:List Int}(hs:l.Pairwise (· < ·)):l.filter (fun x=>decide (x=b))=if b∈l then[b] else[]:=by
 induction l with
 | nil=>simp
 | cons x l ih=>
  obtain⟨h1,h2⟩:=NM.1 hs;rw[Ns,ih h2];by_cases hx:x=b
  ·subst hx;have:¬x∈l:=fun h=>by have:=h1 x h;omega
   simp[this]
  simp[hx,Ne.symm hx]
theorem Fu{f:Nat->List Int}(hf : ∀a,(f a).Pairwise (· < ·))(hp : ∀a,∀x∈f a,0<=x){b n:Nat}:((jN f n).filter fun e=>decide (e.2.toNat=b)).map Prod.fst=sift (fun a=>decide ((b:Int)∈f a)) (fun a=>(a:Int)) n:=by
 induction n with
 | zero=>rfl
 | succ n ih=>
  rw[jl,NI,MK,ih];have e1:((f n).map fun b=>((n:Int),b)).filter (fun e=>decide (e.2.toNat=b))=((f n).filter fun x=>decide (x=(b:Int))).map fun b=>((n:Int),b):=by rw[List.filter_map];congr 1;refine NV fun x hx=>?_;have:=hp n x hx;simp only[Function.comp,decide_eq_decide];omega
  rw[e1,filter_one (hf n)];by_cases h:(b:Int)∈f n
  ·rw[if_pos h,mJ (by simpa using h)];rfl
  rw[if_neg h,ll (by simpa using h)];simp
theorem oB{g:Gr}:(dE g).length=g.length:=by rw[dE,nr];simp
theorem yQ{g:Gr}:dE g=rO g:=by
 refine wc (by rw[oB,A7]) fun b hb=>?_;rw[oB]at hb;rw[dE,EH (by simpa using hb),aB hb,Lr,rO,gm hb,Db,Fu (fun _=>qU) (fun a x hx=>by have:=(iu.1 (gG.1 hx)).1;omega)];have e:(fun a:Nat=>decide ((b:Int)∈kL g a))=fun a:Nat=>mK g a b:=by funext a;rw[K0];simp[gG]
 rw[e]
theorem Ce{g:Gr}{a:Int}(hb:0<=b/\b<g.length):a∈nth (dE g) b.toNat↔mK g a b=true:=by
 rw[yQ,rO,gm (by omega),og];constructor
 ·rintro⟨i,_,h,rfl⟩;rwa [KR hb.1]at h
 intro h;have:=(iu.1 h).1;exact⟨a.toNat,by omega,by rw[KR (by omega),KR (by omega)];exact h,KR (by omega)⟩
structure Le (x y:List Bool):Prop where
 len:y.length=x.length
 le : ∀i,nth x i=true->nth y i=true
theorem Le.refl(x:List Bool):Le x x:=⟨rfl,fun _ h=>h⟩
theorem Le.trans {x y z:List Bool} (h:Le x y) (k:Le y z):Le x z:=⟨k.len.trans h.len,fun i e=>k.le i (h.le i e)⟩
theorem Le.antisymm{x y:List Bool}(h:Le x y)(k:Le y x):x=y:=by refine wc h.len.symm fun i _=>?_;rw[K0];exact⟨h.le i,k.le i⟩
theorem Le.dA : ∀{x y:List Bool},Le x y->x=y\/dA y<dA x
 | [],y,h=>.inl (KN h.len).symm
 | a::x,y,h=>by
  match y,h with
  | [],h=>have:=h.len;simp at this
  | b::y,h=>
   have h2:Le x y:=⟨by simpa using h.len,fun i e=>by have:=h.le (i+1);simpa[nth]using this (by simpa[nth]using e)⟩;have h0:a=true->b=true:=fun e=>by have:=h.le 0;simpa[nth]using this (by simpa[nth]using e)
   unfold Go.Proofs.YtnfiilgdjpdlkaaGreatDoor.dA;rcases h2.dA with rfl | h3
   ·cases a<;>cases b<;>simp at h0 ⊢
   unfold Go.Proofs.YtnfiilgdjpdlkaaGreatDoor.dA at h3;cases a<;>cases b<;>simp at h0 ⊢<;>omega
theorem Ip{x:List Bool}{i:Nat}{b:Bool}(hb:nth x i=true->b=true):Le x (x.set i b):=by
 refine⟨by simp,fun j hj=>?_⟩;rcases KB j x.length with h | h
 ·rw[bn h];split
  ·rename_i e;subst e;exact hb hj
  exact hj
 rw[de h]at hj;cases hj
theorem wS {f:Nat->List Bool->List Bool} (hf : ∀k x,Le x (f k x)) (x:List Bool) : ∀n m,n<=m->Le (up f n x) (up f m x)
  | n,0,h=>by
                  obtain rfl:n=0:=by omega
                  exact Le.refl _
  | n,m+1,h=>by
    rcases KB n (m+1)with h1 | h1
    · exact(wS hf x n m (by omega)).trans (hf m _)
    · obtain rfl:n=m+1:=by omega
      exact Le.refl _
theorem HG{f:Nat->List Bool->List Bool}(hf : ∀k x,Le x (f k x)){x:List Bool}{n:Nat}(h:up f n x=x): ∀k,k<n->f k x=x:=by
 have key : ∀k,k<=n->up f k x=x:=fun k hk=>by have h1:=wS hf x k n hk;rw[h]at h1;have h2:=wS hf x 0 k (Nc _);exact(h2.antisymm h1).symm
 intro k hk;have h1:=key (k+1) (by omega);rw[up,key k (by omega)]at h1;exact h1
theorem zE {β:Type} {F:β->β} : ∀(n:Nat) (x:β),up (fun _=>F) (n+1) x=up (fun _=>F) n (F x)
 | 0,x=>rfl
 | n+1,x=>by show F (up (fun _=>F) (n+1) x)=F (up (fun _=>F) n (F x));rw[zE n x]
theorem zu {β:Type} {F:β->β} {x:β} (h:F x=x) : ∀n,up (fun _=>F) n x=x
 | 0=>rfl
 | n+1=>by show F (up (fun _=>F) n x)=x;rw[zu h n,h]
theorem DB {F:List Bool->List Bool} (hF : ∀x,Le x (F x)) : ∀(n:Nat) (x:List Bool),dA x<=n->F (up (fun _=>F) n x)=up (fun _=>F) n x
 | 0,x,h=>by
  rcases(hF x).dA with e | e
  ·exact e.symm
  omega
 | n+1,x,h=>by
  rw[zE];rcases(hF x).dA with e | e
  ·rw[<-e,zu e.symm];exact e.symm
  exact DB hF n _ (by omega)
inductive Re (g:Gr) (gone:Int):Nat->Prop
 | root:0<g.length->gone≠0->Re g gone 0
 | step {a b:Nat}:Re g gone a->mK g a b=true->(b:Int)≠gone->Re g gone b
theorem Re.lt{g:Gr}{gone:Int}{b:Nat}(h:Re g gone b):b<g.length:=by
 cases h with
 | root h _=>exact h
 | step _ h _=>have:=(iu.1 h).1;omega
variable{gone:Int}
theorem Re.ne{g:Gr}{b:Nat}(h:Re g gone b):(b:Int)≠gone:=by
 cases h with
 | root _ h=>exact fun e=>h e.symm
 | step _ _ h=>exact h
theorem Re.all{g:Gr}{b:Nat}(h:Re g gone b):Re g (-1) b:=by
 induction h with
 | root h _=>exact .root h (by decide)
 | step _ h _ ih=>exact .step ih h (by omega)
theorem tD{l:List Int}{i:Nat}{x:List Bool}:Le x (tx gone l i x):=Ip fun h=>by rw[h];rfl
theorem sv{g:Gr}{a:Nat}{x:List Bool}:Le x (outBlock g gone a x):=by
 unfold outBlock;split
 ·exact wS (fun k x=>tD) x 0 _ (Nc _)
 exact Le.refl _
theorem sZ{g:Gr}{x:List Bool}:Le x (mH g gone x):=wS (fun k x=>sv) x 0 _ (Nc _)
theorem xQ{β:Type}(I:β->Prop){f:Nat->β->β}{n:Nat}(hf : ∀k x,k<n->I x->I (f k x)){x:β}(hx:I x):I (up f n x):=by
 have : ∀m,m<=n->I (up f m x):=by
  intro m;induction m with
  | zero=>exact fun _=>hx
  | succ m ih=>exact fun h=>hf _ _ (by omega) (ih (by omega))
 exact this n (Kz _)
theorem xC{g:Gr}{b:Nat}:nth (mw g gone) b=true↔Re g gone b:=by
 by_cases h0:g.length=0\/gone=0
 ·rw[mw,if_pos h0];constructor
  ·intro h;rcases KB b g.length with h1 | h1
   ·rw[aB h1]at h;cases h
   rw[de (by simpa using h1)]at h;cases h
  intro h;exfalso;induction h with
  | root h1 h2=>rcases h0 with h0 | h0;omega;exact h2 h0
  | step _ _ _ ih=>exact ih
 rw[mw,if_neg h0];have hg:g.length≠0:=fun e=>h0 (.inl e);have hgone:gone≠0:=fun e=>h0 (.inr e)
 have hinit:((List.replicate g.length false).set 0 true).length=g.length:=by simp
 constructor
 ·have hI : ∀x:List Bool,(∀b,nth x b=true->Re g gone b)->∀b,nth (mH g gone x) b=true->Re g gone b:=by
   intro x hx;refine xQ (fun x:List Bool=>∀b,nth x b=true->Re g gone b) (fun a x ha hx=>?_) hx;unfold outBlock;split
   ·rename_i hxa;have hra:=hx a hxa;refine xQ (fun x:List Bool=>∀b,nth x b=true->Re g gone b) (fun i x hi hx=>?_) hx;intro b hb;have hm:=cj hi;have hed:=gG.1 hm;have hrng:=(iu.1 hed).1;unfold tx at hb;rcases KB b x.length with h1 | h1
    ·rw[bn h1]at hb;split at hb
     ·rename_i e;rcases(Lt _ _).mp hb with h2 | h2
      ·rw[e]at h2;exact hx b h2
      have eb:(b:Int)=nth (kL g a) i:=by omega
      exact .step hra (by rw[eb];exact hed) (by rw[eb];simpa using h2)
     exact hx b hb
    rw[de (by simpa using h1)]at hb;cases hb
   exact hx
  exact xQ (fun x:List Bool=>∀b,nth x b=true->Re g gone b) (fun _ x _ hx=>hI x hx) (fun b hb=>by
   rcases KB b g.length with h1 | h1
   ·rw[bn (by simpa using h1)]at hb;split at hb
    ·rename_i e;subst e;exact .root (by omega) hgone
    rw[aB h1]at hb;cases hb
   rw[de (by simpa using h1)]at hb;cases hb) b
 intro h;have hfix:=DB (F:=mH g gone) (fun x=>sZ) g.length ((List.replicate g.length false).set 0 true) (by
  have:=wC (t:=List.replicate g.length false) (i:=0);have h2:dA (List.replicate g.length false)=g.length:=by simp[dA]
  omega);have hle:=wS (f:=fun _=>mH g gone) (fun _ x=>sZ) ((List.replicate g.length false).set 0 true) 0 g.length (Nc _);generalize up (fun _=>mH g gone) g.length ((List.replicate g.length false).set 0 true)=x at hfix hle;have hxl:x.length=g.length:=hle.len.trans hinit;induction h with
 | root h1 _=>exact hle.le 0 (by show nth ((List.replicate g.length false).set 0 true) 0=true;rw[bn (by simpa using h1),if_pos rfl])
 | step ha he hb ih=>rename_i a b;have hrng:=(iu.1 he).1;have h1:=HG (fun k x=>sv) hfix a (by omega);rw[outBlock,if_pos ih]at h1;obtain⟨i,hi,e⟩:=KV (gG.2 he);have h2:=HG (fun k x=>tD) h1 i hi;rw[<-az hi]at e;unfold tx at h2;rw[e]at h2;have h3:=congrArg (fun l=>nth l b) h2;simp only[KT]at h3;rw[bn (by omega),if_pos rfl]at h3;rw[<-h3];simp[hb]
theorem nO{g:Gr}{a b:Nat}:domC g a b=true↔Re g (-1) a/\Re g (-1) b/\¬Re g a b:=by
 rw[domC];simp only[KE,Lt,L7,decide_eq_true_eq,xC,MO,ne_eq];constructor
 ·rintro⟨⟨h1,h2⟩,h3⟩;refine⟨h1,h2,?_⟩;rcases h3 with h3 | h3
  ·exact fun h=>h.ne h3.symm
  exact h3
 rintro⟨h1,h2,h3⟩;exact⟨⟨h1,h2⟩,.inr h3⟩
def Bef (l:List Int) (u v:Int):Prop:=∃p q,l=p++u::q/\v∈q
theorem Bef.app{l:List Int}{u v:Int}(h:Bef l u v)(t:List Int):Bef (l++t) u v:=by obtain⟨p,q,rfl,hv⟩:=h;exact⟨p,q++t,by simp,LD _ hv⟩
theorem Bef.pre{l:List Int}{u v:Int}(h:Bef l u v)(t:List Int):Bef (t++l) u v:=by obtain⟨p,q,rfl,hv⟩:=h;exact⟨t++p,q,by simp,hv⟩
theorem Bef.BK{l t:List Int}{u v:Int}(hu:u∈l)(hv:v∈t):Bef (l++t) u v:=by obtain⟨p,q,rfl⟩:=List.append_of_mem hu;exact⟨p,q++t,by simp,LA _ hv⟩
theorem Bef.mem{l:List Int}{u v:Int}(h:Bef l u v):u∈l/\v∈l:=by obtain⟨p,q,rfl,hv⟩:=h;exact⟨by simp,by simp[hv]⟩
inductive Adv (nx:Int->List Int) (l:List Int) (u:Int):Int->Prop
 | self:Adv nx l u u
 | step {p q:Int}:Adv nx l u p->q∈nx p->Bef l q p->Adv nx l u q
theorem Adv.app {nx:Int->List Int} {l:List Int} {u v:Int} (h:Adv nx l u v) (t:List Int):Adv nx (l++t) u v:=by
 induction h with
 | self=>exact .self
 | step _ h1 h2 ih=>exact .step ih h1 (h2.app t)
theorem Adv.pre {nx:Int->List Int} {l:List Int} {u v:Int} (h:Adv nx l u v) (t:List Int):Adv nx (t++l) u v:=by
 induction h with
 | self=>exact .self
 | step _ h1 h2 ih=>exact .step ih h1 (h2.pre t)
theorem Adv.trans{nx:Int->List Int}{l:List Int}{u v w:Int}(h:Adv nx l u v)(k:Adv nx l v w):Adv nx l u w:=by
 induction k with
 | self=>exact h
 | step _ h1 h2 ih=>exact .step ih h1 h2
def vis (s:List Bool × List Int) (x:Int):Prop:=nth s.1 x.toNat=true
structure Told (nx:Int->List Int) (m:Nat) (a:Int) (s s':List Bool × List Int) (new:List Int):Prop where
 out:s'.2=s.2++new
 len:s'.1.length=s.1.length
 nodup:new.Nodup
 visd : ∀x,0<=x->(vis s' x↔vis s x\/x∈new)
 fresh : ∀x∈new,¬vis s x/\0<=x/\x<m
 last : ∃t,new=t++[a]
 clos : ∀x∈new,∀y∈nx x,vis s' y
 par : ∀x∈new,x≠a->∃p∈new,x∈nx p/\Bef new x p
 desc : ∀x∈new,Adv nx new a x
 ret : ∀x∈new,∀y∈nx x,y∈new->Bef new y x\/Adv nx new y x
structure Half (nx:Int->List Int) (m:Nat) (a:Int) (k:Nat) (s s':List Bool × List Int) (new:List Int):Prop where
 out:s'.2=s.2++new
 len:s'.1.length=s.1.length
 nodup:new.Nodup
 visd : ∀x,0<=x->(vis s' x↔vis s x\/x=a\/x∈new)
 fresh : ∀x∈new,¬vis s x/\(0<=x/\x<m)/\x≠a
 clos : ∀x∈new,∀y∈nx x,vis s' y
 done : ∀j,j<k->vis s' (nth (nx a) j)
 par : ∀x∈new,x∈nx a\/∃p∈new,x∈nx p/\Bef new x p
 desc : ∀x∈new,∃b∈new,b∈nx a/\Adv nx new b x
 ret : ∀x∈new,∀y∈nx x,y∈new->Bef new y x\/Adv nx new y x
theorem wM {nx:Int->List Int} {m:Nat} (hnx : ∀a:Int,0<=a->a<m->∀y∈nx a,0<=y/\y<m) : ∀(n:Nat) (a:Int) (s:List Bool × List Int),0<=a->a<m->s.1.length=m->nth s.1 a.toNat=false->dA s.1<=n->
  ∃new,Told nx m a s (jq nx n a s) new
 | 0,a,s,h0,h1,hl,hf,hc=>by exfalso;have:=jg (t:=s.1) (i:=a.toNat) (by omega) hf;omega
 | n+1,a,s,h0,h1,hl,hf,hc=>by
  have hfs:=jg (t:=s.1) (i:=a.toNat) (by omega) hf;rw[jO];have half : ∀k,k<=(nx a).length->∃new,Half nx m a k s (up (cU nx n a) k (s.1.set a.toNat true,s.2)) new/\dA (up (cU nx n a) k (s.1.set a.toNat true,s.2)).1<=n:=by
   intro k;induction k with
   | zero=>
    intro _;refine⟨[],⟨by simp[up],by simp[up],by simp,fun x hx=>?_,by simp,by simp,by simp,by simp,by simp,by simp⟩,by simp only[up];omega⟩;unfold vis;show nth (s.1.set a.toNat true) x.toNat=true↔_;rcases KB x.toNat s.1.length with hlt | hge
    ·rw[bn hlt];split
     ·rename_i e;have:x=a:=by omega
      simp[this]
     rename_i e;have:x≠a:=fun h=>e (by rw[h]);simp[this]
    rw[de (by simpa using hge),de hge];have:x≠a:=by omega
    simp[this]
   | succ k ih=>
    intro hk;obtain⟨new,H,hcn⟩:=ih (by omega);rw[up];generalize up (cU nx n a) k (s.1.set a.toNat true,s.2)=z at H hcn;have hb:=hnx a h0 h1 (nth (nx a) k) (cj (by omega));have hbm:nth (nx a) k∈nx a:=cj (by omega);have hzl:z.1.length=m:=H.len.trans hl;rw[cU];split
    ·rename_i hv;refine⟨new,{ H with done:=fun j hj=>?_ },hcn⟩;rcases KB j k with h | h
     ·exact H.done j h
     obtain rfl:j=k:=by omega
     exact hv
    rename_i hv;obtain⟨new',T⟩:=wM hnx n (nth (nx a) k) z hb.1 hb.2 hzl (by simpa using hv) hcn;have hkeep:=(oz (nx:=nx) (m:=m) (c:=n) n (nth (nx a) k) z ⟨hzl,hcn⟩).2;generalize jq nx n (nth (nx a) k) z=z' at T hkeep;obtain⟨t,ht⟩:=T.last;have hbn:nth (nx a) k∈new':=by rw[ht];simp
    have up : ∀y,0<=y->vis z y->vis z' y:=fun y hy h=>(T.visd y hy).2 (.inl h);have hnv : ∀x∈new,vis z x:=fun x hx=>(H.visd x (H.fresh x hx).2.1.1).2 (.inr (.inr hx))
    refine⟨new++new',⟨?_,?_,?_,?_,?_,?_,?_,?_,?_,?_⟩,hkeep⟩
    ·rw[T.out,H.out,KL]
    ·rw[T.len,H.len]
    ·exact L5.2 ⟨H.nodup,T.nodup,fun x hx y hy e=>by subst e;exact(T.fresh x hy).1 (hnv x hx)⟩
    ·intro x hx;rw[T.visd x hx,H.visd x hx,KD];constructor
     ·rintro((h | h | h) | h)
      ·exact .inl h
      ·exact .inr (.inl h)
      ·exact .inr (.inr (.inl h))
      exact .inr (.inr (.inr h))
     rintro(h | h | h | h)
     ·exact .inl (.inl h)
     ·exact .inl (.inr (.inl h))
     ·exact .inl (.inr (.inr h))
     exact .inr h
    ·intro x hx;rcases KD.1 hx with hx | hx
     ·exact H.fresh x hx
     obtain⟨g1,g2⟩:=T.fresh x hx;refine⟨fun h=>g1 ((H.visd x g2.1).2 (.inl h)),g2,fun e=>g1 ((H.visd x g2.1).2 (.inr (.inl e)))⟩
    ·intro x hx y hy;rcases KD.1 hx with hx | hx
     ·have hxr:=(H.fresh x hx).2.1;exact up y (hnx x hxr.1 hxr.2 y hy).1 (H.clos x hx y hy)
     exact T.clos x hx y hy
    ·intro j hj;rcases KB j k with h | h
     ·exact up _ (hnx a h0 h1 _ (cj (by omega))).1 (H.done j h)
     obtain rfl:j=k:=by omega
     exact(T.visd _ hb.1).2 (.inr hbn)
    ·intro x hx;rcases KD.1 hx with hx | hx
     ·rcases H.par x hx with h | ⟨p,hp,h2,h3⟩
      ·exact .inl h
      exact .inr ⟨p,LD _ hp,h2,h3.app _⟩
     by_cases e:x=nth (nx a) k
     ·exact .inl (e▸hbm)
     obtain⟨p,hp,h2,h3⟩:=T.par x hx e;exact .inr ⟨p,LA _ hp,h2,h3.pre _⟩
    ·intro x hx;rcases KD.1 hx with hx | hx
     ·obtain⟨b,hb,h2,h3⟩:=H.desc x hx;exact⟨b,LD _ hb,h2,h3.app _⟩
     exact⟨_,LA _ hbn,hbm,(T.desc x hx).pre _⟩
    intro x hx y hy hyn;rcases KD.1 hx with hx | hx<;>rcases KD.1 hyn with hyn | hyn
    ·exact(H.ret x hx y hy hyn).imp (·.app _) (·.app _)
    ·exact absurd (H.clos x hx y hy) (T.fresh y hyn).1
    ·exact .inl (Bef.BK hyn hx)
    exact(T.ret x hx y hy hyn).imp (·.pre _) (·.pre _)
  obtain⟨new,H,hcn⟩:=half (nx a).length (Kz _);generalize up (cU nx n a) (nx a).length (s.1.set a.toNat true,s.2)=z at H hcn;have hda : ∀y∈nx a,vis z y:=by intro y hy;obtain⟨j,hj,rfl⟩:=KV hy;have:=H.done j hj;rwa [az hj]at this
  have hadv : ∀x∈new,Adv nx (new++[a]) a x:=by intro x hx;obtain⟨b,hb,h2,h3⟩:=H.desc x hx;exact(Adv.step .self h2 (Bef.BK hb (by simp))).trans (h3.app _)
  refine⟨new++[a],⟨?_,H.len,?_,?_,?_,⟨new,rfl⟩,?_,?_,?_,?_⟩⟩
  ·simp only[H.out,KL]
  ·refine L5.2 ⟨H.nodup,by simp,fun x hx y hy e=>?_⟩;simp only[KF]at hy;exact(H.fresh x hx).2.2 (e.trans hy)
  ·intro x hx;show nth z.1 x.toNat=true↔_;have:=H.visd x hx;unfold vis at this ⊢;rw[this];simp only[KD,KF];constructor
   ·rintro(h | h | h)
    ·exact .inl h
    ·exact .inr (.inr h)
    exact .inr (.inl h)
   rintro(h | h | h)
   ·exact .inl h
   ·exact .inr (.inr h)
   exact .inr (.inl h)
  ·intro x hx;rcases KD.1 hx with hx | hx
   ·exact⟨(H.fresh x hx).1,(H.fresh x hx).2.1⟩
   simp only[KF]at hx;subst hx;exact⟨by unfold vis;rw[hf];simp,h0,h1⟩
  ·intro x hx y hy;rcases KD.1 hx with hx | hx
   ·exact H.clos x hx y hy
   simp only[KF]at hx;subst hx;exact hda y hy
  ·intro x hx hne;rcases KD.1 hx with hx | hx
   ·rcases H.par x hx with h | ⟨p,hp,h2,h3⟩
    ·exact⟨a,by simp,h,Bef.BK hx (by simp)⟩
    exact⟨p,LD _ hp,h2,h3.app _⟩
   simp only[KF]at hx;exact absurd hx hne
  ·intro x hx;rcases KD.1 hx with hx | hx
   ·exact hadv x hx
   simp only[KF]at hx;subst hx;exact .self
  intro x hx y hy hyn;rcases KD.1 hyn with hn | hn
  ·rcases KD.1 hx with hx | hx
   ·exact(H.ret x hx y hy hn).imp (·.app _) (·.app _)
   simp only[KF]at hx;subst hx;exact .inl (Bef.BK hn (by simp))
  simp only[KF]at hn;subst hn;rcases KD.1 hx with hx | hx
  ·exact .inr (hadv x hx)
  simp only[KF]at hx;subst hx;exact .inr .self
end Go.Proofs.YtnfiilgdjpdlkaaGreatDoor
namespace Go.Proofs.YtnfiilgdjpdlkaaGreatDoor.Chk
inductive Anc (o:Nat->Nat) (x:Nat):Nat->Prop
 | self:Anc o x x
 | up {b:Nat}:b≠0->Anc o x (o b)->Anc o x b
theorem qm{o:Nat->Nat}{x:Nat}:Anc o x 0↔x=0:=by
 constructor
 ·intro h;cases h with
  | self=>rfl
  | up h _=>exact absurd rfl h
 rintro rfl;exact .self
variable{b:Nat}
theorem mP{o:Nat->Nat}{x:Nat}(hb:b≠0):Anc o x b↔x=b\/Anc o x (o b):=by
 constructor
 ·intro h;cases h with
  | self=>exact .inl rfl
  | up _ h=>exact .inr h
 rintro(rfl | h)
 ·exact .self
 exact .up hb h
theorem Anc.trans{o:Nat->Nat}{x y:Nat}(h:Anc o x y)(k:Anc o y b):Anc o x b:=by
 induction k with
 | self=>exact h
 | up hb _ ih=>exact .up hb ih
theorem Anc.total{o:Nat->Nat}{x y:Nat}(h:Anc o x b)(k:Anc o y b):Anc o x y\/Anc o y x:=by
 induction h with
 | self=>exact .inr k
 | up hb h ih=>
  cases k with
  | self=>exact .inl (.up hb h)
  | up _ k=>exact ih k
structure Ch (R:Nat->Prop) (r:Nat->Nat) (E:Nat->Nat->Prop) (f:Nat->Nat) (D:Nat->Nat->Prop):Prop where
 inj : ∀a b,R a->R b->r a=r b->a=b
 R0:R 0
 r0:r 0=0
 hf : ∀x,R x->x≠0->R (f x)/\E (f x) x/\r (f x)<r x
 d1 : ∀d b a,D d b->d≠b->E a b->R a->D d a
 d0 : ∀d,D d 0->d=0
def Ok (Pr:Nat->Prop) (x:Nat):Prop:=x=0\/Pr x
structure Inv (R:Nat->Prop) (r:Nat->Nat) (E:Nat->Nat->Prop) (f:Nat->Nat) (D:Nat->Nat->Prop) (k:Nat) (o:Nat->Nat) (Pr:Nat->Prop):Prop where
 pr : ∀b,Pr b->R b/\b≠0/\Ok Pr (o b)/\r (o b)<r b
 all : ∀b,R b->b≠0->r b<k->Pr b
 fok : ∀b,Pr b->Ok Pr (f b)
 K : ∀b,Pr b->∀x,(∀a,E a b->R a->Ok Pr a->Anc o x a)->Anc o x (o b)
 FP : ∀b,Pr b->∀y,Anc o y (o b)->k<=r y->Anc o y (f b)
 FP2 : ∀b,Pr b->r b<k->Anc o (o b) (f b)
 S : ∀b,Pr b->∀d,D d b->d≠b->Anc o d (o b)
section
variable {R:Nat->Prop} {r:Nat->Nat} {E:Nat->Nat->Prop} {f:Nat->Nat} {D:Nat->Nat->Prop} {k:Nat} {o:Nat->Nat} {Pr:Nat->Prop}
theorem Inv.okR(I:Inv R r E f D k o Pr)(C:Ch R r E f D){x:Nat}(h:Ok Pr x):R x:=by
 rcases h with rfl | h
 ·exact C.R0
 exact(I.pr x h).1
theorem Inv.anc(I:Inv R r E f D k o Pr){x:Nat}(h:Anc o x b):Ok Pr b->Ok Pr x/\(x=b\/r x<r b):=by
 induction h with
 | self=>exact fun hb=>⟨hb,.inl rfl⟩
 | up hb _ ih=>
  intro hok;rcases hok with rfl | hp
  ·exact absurd rfl hb
  obtain⟨_,_,h3,h4⟩:=I.pr _ hp;obtain⟨h5,h6⟩:=ih h3;refine⟨h5,.inr ?_⟩;rcases h6 with rfl | h6
  ·exact h4
  omega
theorem Inv.dom(I:Inv R r E f D k o Pr)(C:Ch R r E f D){d:Nat}(hb:Ok Pr b)(h:D d b):Anc o d b:=by
 by_cases e:d=b
 ·subst e;exact .self
 rcases hb with rfl | hb
 ·exact absurd (C.d0 d h) e
 exact .up (I.pr b hb).2.1 (I.S b hb d h e)
def upd (o:Nat->Nat) (c q:Nat):Nat->Nat:=fun b=>if b=c then q else o b
def add (Pr:Nat->Prop) (c:Nat):Nat->Prop:=fun b=>b=c\/Pr b
theorem jI{c q x:Nat}(h:¬Anc o c b):Anc (upd o c q) x b↔Anc o x b:=by
 constructor
 ·intro k;induction k with
  | self=>exact .self
  | up hb k ih=>
   rename_i b;have hne:b≠c:=fun e=>h (e▸.self);have e:upd o c q b=o b:=by unfold upd;rw[if_neg hne]
   rw[e]at ih k;exact .up hb (ih fun hc=>h (.up hb hc))
 intro k;induction k with
 | self=>exact .self
 | up hb k ih=>
  rename_i b;have hne:b≠c:=fun e=>h (e▸.self);have e:upd o c q b=o b:=by unfold upd;rw[if_neg hne]
  exact .up hb (by rw[e];exact ih fun hc=>h (.up hb hc))
theorem II{c q x:Nat}(hc:c≠0)(hq:¬Anc o c q):Anc (upd o c q) x c↔x=c\/Anc o x q:=by rw[mP hc,show upd o c q c=q by simp[upd],jI hq]
theorem Inv.Gi(I:Inv R r E f D k o Pr){x y:Nat}(hx:Ok Pr x)(hy:Ok Pr y)(h1:Anc o x y)(h2:Anc o y x):x=y:=by have e1:=(I.anc h1 hy).2;have e2:=(I.anc h2 hx).2;omega
theorem Inv.below(I:Inv R r E f D k o Pr){c q x:Nat}(hpc:Pr c)(hq:¬Anc o c q)(h:Anc o c b):Ok Pr b->(Anc (upd o c q) x b↔(Anc o x b/\Anc o c x)\/Anc o x q):=by
 have hc:=(I.pr c hpc).2.1;induction h with
 | self=>
  intro hb;rw[II hc hq];constructor
  ·rintro(rfl | h)
   ·exact .inl ⟨.self,.self⟩
   exact .inr h
  rintro(⟨h1,h2⟩ | h)
  ·exact .inl (I.Gi (I.anc h1 hb).1 hb h1 h2)
  exact .inr h
 | up hb h ih=>
  rename_i b;intro hok;have hpb:Pr b:=hok.resolve_left hb;obtain⟨_,_,h3,h4⟩:=I.pr b hpb;have hne:b≠c:=fun e=>by
   subst e;rcases(I.anc h h3).2 with e | e
   ·rw[<-e]at h4;omega
   omega
  have e:upd o c q b=o b:=by unfold upd;rw[if_neg hne]
  rw[mP hb,e,ih h3,mP hb];constructor
  ·rintro(rfl | ⟨h1,h2⟩ | h1)
   ·exact .inl ⟨.inl rfl,.up hb h⟩
   ·exact .inl ⟨.inr h1,h2⟩
   exact .inr h1
  rintro(⟨rfl | h1,h2⟩ | h1)
  ·exact .inl rfl
  ·exact .inr (.inl ⟨h1,h2⟩)
  exact .inr (.inr h1)
structure Turn (R:Nat->Prop) (r:Nat->Nat) (E:Nat->Nat->Prop) (o:Nat->Nat) (Pr:Nat->Prop) (c q:Nat):Prop where
 ok:Ok Pr q
 q : ∀x,Anc o x q↔∀a,E a c->R a->Ok Pr a->Anc o x a
theorem Inv.fc(I:Inv R r E f D k o Pr)(C:Ch R r E f D){c:Nat}(hR:R c)(hc:c≠0)(hk:r c=k):Ok Pr (f c):=by
 obtain⟨h1,_,h3⟩:=C.hf c hR hc;by_cases e:f c=0
 ·exact .inl e
 exact .inr (I.all _ h1 e (by omega))
theorem Turn.lt{c q:Nat}(T:Turn R r E o Pr c q)(I:Inv R r E f D k o Pr)(C:Ch R r E f D)(hR:R c)(hc:c≠0)(hk:r c=k):r q<r c/\Anc o q (f c):=by
 obtain⟨h1,h2,h3⟩:=C.hf c hR hc;have h4:=(T.q q).1 .self (f c) h2 h1 (I.fc C hR hc hk);have:=(I.anc h4 (I.fc C hR hc hk)).2;refine⟨?_,h4⟩;rcases this with e | e
 ·rw[e];exact h3
 omega
theorem Inv.turn(I:Inv R r E f D k o Pr)(C:Ch R r E f D){c q:Nat}(hR:R c)(hc:c≠0)(hk:r c=k)(T:Turn R r E o Pr c q):Inv R r E f D (k+1) (upd o c q) (add Pr c):=by
 obtain⟨f1,f2,f3⟩:=C.hf c hR hc;have hfok:=I.fc C hR hc hk;obtain⟨hlt,hqf⟩:=T.lt I C hR hc hk;have hq:¬Anc o c q:=fun h=>by
  have:=(I.anc h T.ok).2;rcases this with e | e
  ·rw[e]at hlt;omega
  omega
 have hcf:¬Anc o c (f c):=fun h=>by
  have:=(I.anc h hfok).2;rcases this with e | e
  ·rw[<-e]at f3;omega
  omega
 have okm : ∀x,Ok Pr x->Ok (add Pr c) x:=fun x h=>h.imp id .inr;have up_ne : ∀b,b≠c->upd o c q b=o b:=fun b hb=>by unfold upd;rw[if_neg hb]
 have up_c:upd o c q c=q:=by simp[upd]
 have hpc : ∀b,Ok Pr b->Anc o c b->Pr c:=fun b hb h=>((I.anc h hb).1).resolve_left hc;have mono : ∀b,Ok Pr b->∀x,Anc (upd o c q) x b->Anc o x b:=by
  intro b hb x h;by_cases hcb:Anc o c b
  ·have hp:=hpc b hb hcb;rcases(I.below hp hq hcb hb).1 h with⟨h1,_⟩ | h1
   ·exact h1
   exact(Anc.up hc (I.K c hp x ((T.q x).1 h1))).trans hcb
  exact(jI hcb).1 h
 have stay : ∀b,Ok Pr b->∀x,Anc o x b->(Anc o c b->Anc o c x\/Anc o x q)->Anc (upd o c q) x b:=by
  intro b hb x h h2;by_cases hcb:Anc o c b
  ·refine(I.below (hpc b hb hcb) hq hcb hb).2 ?_;rcases h2 hcb with h3 | h3
   ·exact .inl ⟨h,h3⟩
   exact .inr h3
  exact(jI hcb).2 h
 have domc : ∀n b,r b<=n->Ok Pr b->Anc o c b->∀d,D d b->r d<r c->D d c:=by
  intro n;induction n with
  | zero=>
   intro b hb hok hcb d hd hlt;have:=(I.anc hcb hok).2;rcases this with rfl | h
   ·exact hd
   omega
  | succ n ih=>
   intro b hb hok hcb d hd hlt;by_cases e:c=b
   ·subst e;exact hd
   have hb0:b≠0:=fun e0=>by subst e0;exact e (qm.1 hcb)
   have hpb:=hok.resolve_left hb0;have hcb':Anc o c (o b):=((mP hb0).1 hcb).resolve_left e;obtain⟨g1,g2,g3⟩:=C.hf b (I.pr b hpb).1 hb0;have hlb:=(I.anc hcb hok).2;have hdb:d≠b:=fun e2=>by subst e2;omega
   exact ih (f b) (by omega) (I.fok b hpb) (I.FP b hpb c hcb' (by omega)) d (C.d1 d b (f b) hd hdb g2 g1) hlt
 have domq : ∀d,D d c->d≠c->Anc o d q:=by intro d hd hne;refine(T.q d).2 fun a ha hRa hoka=>?_;exact I.dom C hoka (C.d1 d c a hd hne ha hRa)
 refine⟨?_,?_,?_,?_,?_,?_,?_⟩
 ·rintro b (rfl | hb)
  ·rw[up_c];exact⟨hR,hc,okm _ T.ok,hlt⟩
  by_cases e:b=c
  ·subst e;rw[up_c];exact⟨hR,hc,okm _ T.ok,hlt⟩
  rw[up_ne b e];obtain⟨h1,h2,h3,h4⟩:=I.pr b hb;exact⟨h1,h2,okm _ h3,h4⟩
 ·intro b hRb hb0 hlt;by_cases e:r b=k
  ·exact .inl (C.inj b c hRb hR (by omega))
  exact .inr (I.all b hRb hb0 (by omega))
 ·rintro b (rfl | hb)
  ·exact okm _ hfok
  exact okm _ (I.fok b hb)
 ·intro b hb x hx;have hx' : ∀a,E a b->R a->Ok Pr a->Anc o x a:=fun a h1 h2 h3=>mono a h3 x (hx a h1 h2 (okm a h3));by_cases e:b=c
  ·subst e;rw[up_c,jI hq];exact(T.q x).2 hx'
  have hpb:Pr b:=hb.resolve_left e;rw[up_ne b e];obtain⟨h1,h2,h3,h4⟩:=I.pr b hpb;have hxo:=I.K b hpb x hx';refine stay (o b) h3 x hxo fun hco=>?_;rcases Anc.total hxo hco with h5 | h5
  ·obtain⟨g1,g2,g3⟩:=C.hf b h1 h2;have hcf2:=I.FP b hpb c hco (by omega);have hxf:=hx (f b) g2 g1 (okm _ (I.fok b hpb));rcases(I.below (hpc _ h3 hco) hq hcf2 (I.fok b hpb)).1 hxf with⟨_,h6⟩ | h6
   ·exact .inl h6
   exact .inr h6
  exact .inl h5
 ·intro b hb y hy hky;by_cases e:b=c
  ·subst e;rw[up_c,jI hq]at hy;exact(jI hcf).2 (hy.trans hqf)
  have hpb:Pr b:=hb.resolve_left e;rw[up_ne b e]at hy;obtain⟨h1,h2,h3,h4⟩:=I.pr b hpb;have hyf:=I.FP b hpb y (mono _ h3 y hy) (by omega);refine stay (f b) (I.fok b hpb) y hyf fun hcf2=>?_;rcases Anc.total hyf hcf2 with h5 | h5
  ·exfalso;have:=(I.anc h5 (.inr (hpc _ (I.fok b hpb) hcf2))).2;rcases this with e2 | e2
   ·subst e2;omega
   omega
  exact .inl h5
 ·intro b hb hlt;by_cases e:b=c
  ·subst e;rw[up_c];exact(jI hcf).2 hqf
  have hpb:Pr b:=hb.resolve_left e;rw[up_ne b e];obtain⟨h1,h2,h3,h4⟩:=I.pr b hpb;obtain⟨g1,g2,g3⟩:=C.hf b h1 h2;have hbk:r b<k:=by
   rcases KB (r b) k with h | h
   ·exact h
   exact absurd (C.inj b c h1 hR (by omega)) e
  have h5:=I.FP2 b hpb hbk;refine(jI fun hcf2=>?_).2 h5;have:=(I.anc hcf2 (I.fok b hpb)).2;rcases this with e2 | e2
  ·rw[<-e2]at g3;omega
  omega
 intro b hb d hd hne;by_cases e:b=c
 ·subst e;rw[up_c,jI hq];exact domq d hd hne
 have hpb:Pr b:=hb.resolve_left e;rw[up_ne b e];obtain⟨h1,h2,h3,h4⟩:=I.pr b hpb;have hdo:=I.S b hpb d hd hne;refine stay (o b) h3 d hdo fun hco=>?_;rcases Anc.total hdo hco with h5 | h5
 ·have hpcc:=hpc _ h3 hco;rcases(I.anc h5 (.inr hpcc)).2 with e2 | e2
  ·subst e2;exact .inl .self
  exact .inr (domq d (domc (r b) b (Kz _) (.inr hpb) (.up h2 hco) d hd e2) fun e3=>by subst e3;omega)
 exact .inl h5
theorem Inv.again(I:Inv R r E f D k o Pr)(hk : ∀b,R b->r b<k):Inv R r E f D 0 o Pr:=by refine⟨I.pr,fun b hR h0 h=>I.all b hR h0 (hk b hR),I.fok,I.K,fun b hb y hy _=>?_,fun b _ h=>absurd h (by omega),I.S⟩;exact hy.trans (I.FP2 b hb (hk b (I.pr b hb).1))
theorem Inv.start:Inv R r E f D 0 o (fun _=>False):=
 ⟨fun _ h=>h.elim,fun _ _ _ h=>absurd h (by omega),fun _ h=>h.elim,fun _ h=>h.elim,fun _ h=>h.elim,fun _ h=>h.elim,fun _ h=>h.elim⟩
theorem Inv.Jc(I:Inv R r E f D k o Pr){c q:Nat}(T:Turn R r E o Pr c q)(hp:Pr c):q=o c\/r q<r (o c):=by have:=I.K c hp q ((T.q q).1 .self);exact(I.anc this (I.pr c hp).2.2.1).2
end
end Go.Proofs.YtnfiilgdjpdlkaaGreatDoor.Chk
namespace Go.Proofs.YtnfiilgdjpdlkaaGreatDoor
open Go Go.Lft Chk
theorem DN{β:Type}{f k:Nat->β->β}{n:Nat}(I:β->Prop)(h : ∀i x,i<n->I x->f i x=k i x)(hI : ∀i x,i<n->I x->I (f i x)){x:β}(hx:I x):up f n x=up k n x:=by
 have key : ∀m,m<=n->up f m x=up k m x/\I (up f m x):=by
  intro m;induction m with
  | zero=>exact fun _=>⟨rfl,hx⟩
  | succ m ih=>intro hm;obtain⟨h1,h2⟩:=ih (by omega);exact⟨by rw[up,up,<-h1,h m _ (by omega) h2],hI _ _ (by omega) h2⟩
 exact(key n (Kz _)).1
theorem sQ {nx nx':Int->List Int} {m:Nat} (hnx : ∀a:Int,0<=a->a<m->nx a=nx' a/\∀y∈nx a,0<=y/\y<m) : ∀(n:Nat) (a:Int) (s:List Bool × List Int),0<=a->a<m->jq nx n a s=jq nx' n a s
 | 0,_,_,_,_=>rfl
 | n+1,a,s,h0,h1=>by
  obtain⟨e,hr⟩:=hnx a h0 h1;rw[jO,jO,<-e];have:up (cU nx n a) (nx a).length (s.1.set a.toNat true,s.2)=up (cU nx' n a) (nx a).length (s.1.set a.toNat true,s.2):=by refine DN (fun _=>True) (fun i x hi _=>?_) (fun _ _ _ _=>trivial) trivial;unfold cU;rw[<-e];obtain⟨g0,g1⟩:=hr _ (cj hi);rw[sQ hnx n _ x g0 g1]
  rw[this]
theorem wR{g:Gr}{a y:Int}(h:y∈kL g a):0<=y/\y<g.length:=by have:=(iu.1 (gG.1 h)).1;omega
theorem BP{g:Gr}{a:Int}(h0:0<=a)(h1:a<g.length):nx (dB g) a=kL g a:=by unfold nx;rw[vF (by omega),KR h0]
theorem Fj{g:Gr}:bf g=kH (kL g) g.length:=by
 unfold bf kH;split
 ·rfl
 rw[sQ (m:=g.length) (fun a h0 h1=>⟨BP h0 h1,fun y hy=>wR (by rwa [BP h0 h1]at hy)⟩) _ _ _ (by omega) (by omega)]
structure Ord (g:Gr) (order:List Int):Prop where
 nodup:order.Nodup
 mem : ∀x:Nat,(x:Int)∈order↔Re g (-1) x
 rng : ∀x∈order,0<=x/\x<g.length
 head:order[0]? = some 0
 par : ∀x∈order,x≠0->∃p∈order,mK g p x=true/\order.idxOf p<order.idxOf x
 ret : ∀x∈order,∀y∈order,mK g x y=true->order.idxOf y<=order.idxOf x->∃l,Adv (kL g) l y x/\∀u v,Bef l u v->order.idxOf v<order.idxOf u
theorem rJ{l:List Int}(hn:l.Nodup){u v:Int}(h:Bef l u v):l.reverse.idxOf v<l.reverse.idxOf u:=by
 obtain⟨p,q,rfl,hv⟩:=h;have hu:u∉q:=by have:=(L5.1 hn).2.1;exact(Ny.1 this).1
 rw[List.reverse_append,List.reverse_cons,KL];have h1:(q.reverse++([u]++p.reverse)).idxOf v<q.reverse.length:=by rw[List.idxOf_append,if_pos (by simpa using hv)];exact NC (by simpa using hv)
 have h2:(q.reverse++([u]++p.reverse)).idxOf u=q.reverse.length:=by rw[List.idxOf_append,if_neg (by simpa using hu)];simp
 omega
theorem jG{g:Gr}(hg:0<g.length):Ord g (bf g):=by
 have hT:=wM (nx:=kL g) (m:=g.length) (fun a _ _ y hy=>wR hy) g.length 0 (List.replicate g.length false,[]) (by omega) (by omega) (by simp) (aB (by simpa using hg)) (by simp[dA]);have ho:bf g=(jq (kL g) g.length 0 (List.replicate g.length false,[])).2.reverse:=by rw[Fj,kH,if_neg (by omega)]
 obtain⟨new,T⟩:=hT;have hout:=T.out;simp only[Lr]at hout;rw[ho,hout];have hv0 : ∀x:Int,¬vis (List.replicate g.length false,([]:List Int)) x:=by
  intro x h;unfold vis at h;simp only at h;rcases KB x.toNat g.length with h1 | h1
  ·rw[aB h1]at h;cases h
  rw[de (by simpa using h1)]at h;cases h
 have hvis : ∀x,0<=x->(vis (jq (kL g) g.length 0 (List.replicate g.length false,[])) x↔x∈new):=fun x hx=>by rw[T.visd x hx];exact⟨fun h=>h.resolve_left (hv0 x),.inr⟩
 obtain⟨t,ht⟩:=T.last;have h0:(0:Int)∈new:=by rw[ht];simp
 have hre : ∀x∈new,Re g (-1) x.toNat:=by
  intro x hx;have:=T.desc x hx;clear hx;induction this with
  | self=>exact .root hg (by decide)
  | step _ h1 h2 ih=>have hpr:=T.fresh _ h2.mem.2;have hqr:=T.fresh _ h2.mem.1;have he:=gG.1 h1;refine .step ih ?_ (by omega);rwa [KR hpr.2.1,KR hqr.2.1]
 refine⟨by simpa[List.Nodup,List.pairwise_reverse,ne_comm]using T.nodup,fun x=>?_,fun x hx=>(T.fresh x (by simpa using hx)).2,?_,?_,?_⟩
 ·rw[List.mem_reverse];constructor
  ·intro h;simpa using hre x h
  intro h;induction h with
  | root _ _=>exact h0
  | step _ he _ ih=>exact(hvis _ (by omega)).1 (T.clos _ ih _ (gG.2 he))
 ·rw[ht,List.reverse_append];rfl
 ·intro x hx hne;obtain⟨p,hp,h1,h2⟩:=T.par x (by simpa using hx) hne;exact⟨p,by simpa using hp,gG.1 h1,rJ T.nodup h2⟩
 intro x hx y hy he hle;rcases T.ret x (by simpa using hx) y (gG.2 he) (by simpa using hy)with h | h
 ·have:=rJ T.nodup h;omega
 exact⟨new,h,fun u v huv=>rJ T.nodup huv⟩
theorem sY{n:Nat}{order:List Int}(hn:order.Nodup)(hr : ∀x∈order,0<=x/\x<(n:Int)){x:Nat}(hx:x<n):nth (fK n order) x=if(x:Int)∈order then(order.idxOf (x:Int):Int) else -1:=by
 have key : ∀k,k<=order.length->(up (fun i l=>l.set (nth order i).toNat (i:Int)) k (List.replicate n (-1))).length=n/\nth (up (fun i l=>l.set (nth order i).toNat (i:Int)) k (List.replicate n (-1))) x=if(x:Int)∈order.take k then(order.idxOf (x:Int):Int) else -1:=by
  intro k;induction k with
  | zero=>intro _;exact⟨by simp[up],by rw[up,aB hx];simp⟩
  | succ k ih=>
   intro hk;obtain⟨h1,h2⟩:=ih (by omega);rw[up];refine⟨by simpa using h1,?_⟩;rw[bn (by omega),KM (by omega),h2];have hmem:order[k]∈order:=Ly _;have hrk:=hr _ hmem;rw[az (show k<order.length by omega)];by_cases e:order[k].toNat=x
   ·have e2:order[k]=(x:Int):=by omega
    rw[if_pos e,if_pos (by rw[<-e2];exact LA _ (KF.2 rfl)),<-e2,M7 hn]
   rw[if_neg e];have e2:¬(x:Int)=order[k]:=fun h=>e (by omega);simp only[KD,KF,e2,or_false]
 have:=(key order.length (Kz _)).2;rw[KG (Kz _)]at this;exact this
def st (out:List Int):Nat->Nat:=fun b=>(nth out b).toNat
def pd (out:List Int):Nat->Prop:=fun b=>b<out.length/\0<=nth out b
def rk (g:Gr) (x:Nat):Nat:=(bf g).idxOf (x:Int)
def Eg (g:Gr) (a b:Nat):Prop:=mK g a b=true
def Dm (g:Gr) (d b:Nat):Prop:=domC g d b=true
def Rg (g:Gr) (x:Nat):Prop:=Re g (-1) x
section
variable {g:Gr}
theorem BT{x:Nat}(h:Rg g x):rk g x<(bf g).length:=NC (((jG (NN (Nc _) h.lt)).mem x).2 h)
theorem Rg.pos{x:Nat}(h:Rg g x):0<g.length:=NN (Nc _) h.lt
theorem GU{x:Nat}(h:Rg g x):rk g x<g.length:=Nb (BT h) pI
theorem Bc{a b:Nat}(ha:Rg g a)(hb:Rg g b)(h:rk g a=rk g b):a=b:=by
 have O:=jG ha.pos;have h1:=List.getElem_idxOf (BT ha);have h2:=List.getElem_idxOf (BT hb);have:(a:Int)=(b:Int):=by rw[<-h1,<-h2];congr 1
 omega
theorem te(hg:0<g.length):rk g 0=0:=by
 have O:=jG hg;unfold rk;have hl:0<(bf g).length:=by
  have:=O.head;rcases MJ (bf g).length with h | h
  ·rw[KN h]at this;cases this
  exact h
 have h0:=O.head;rw[K6 hl]at h0;have h1:(bf g)[0]=0:=Option.some.inj h0;have:=M7 O.nodup 0 hl;rw[h1]at this;exact this
theorem rj{x:Nat}(h:Rg g x):nth (fK g.length (bf g)) x=(rk g x:Int):=by have O:=jG h.pos;rw[sY O.nodup O.rng h.lt,if_pos ((O.mem x).2 h)];rfl
theorem AY{x:Nat}(hx:x<g.length)(h:¬Rg g x):nth (fK g.length (bf g)) x=-1:=by have O:=jG (g:=g) (by omega);rw[sY O.nodup O.rng hx,if_neg fun e=>h ((O.mem x).1 e)]
theorem FV(hg:0<g.length): ∃f:Nat->Nat,∀x,Rg g x->x≠0->Rg g (f x)/\Eg g (f x) x/\rk g (f x)<rk g x:=by
 have O:=jG hg;have : ∀x,∃p,Rg g x->x≠0->Rg g p/\Eg g p x/\rk g p<rk g x:=by
  intro x;by_cases h:Rg g x/\x≠0
  ·obtain⟨p,hp,h1,h2⟩:=O.par x ((O.mem x).2 h.1) (by omega);have hr:=O.rng p hp;have e:((p.toNat:Nat):Int)=p:=KR hr.1;refine⟨p.toNat,fun _ _=>⟨(O.mem _).1 (by rw[e];exact hp),by unfold Eg;rw[e];exact h1,by unfold rk;rw[e];exact h2⟩⟩
  exact⟨0,fun h1 h2=>absurd ⟨h1,h2⟩ h⟩
 exact⟨fun x=>(this x).choose,fun x=>(this x).choose_spec⟩
theorem Je(hg:0<g.length){f:Nat->Nat}(hf : ∀x,Rg g x->x≠0->Rg g (f x)/\Eg g (f x) x/\rk g (f x)<rk g x):Ch (Rg g) (rk g) (Eg g) f (Dm g) where
 inj:=fun a b ha hb h=>Bc ha hb h
 R0:=.root hg (by decide)
 r0:=te hg
 hf:=hf
 d1:=fun d b a hd hne he ha=>by
  obtain⟨h1,h2,h3⟩:=nO.1 hd
  exact nO.2 ⟨h1,ha,fun h=>h3 (.step h he (by omega))⟩
 d0:=fun d hd=>by
  obtain⟨h1,h2,h3⟩:=nO.1 hd
  rcases MJ d with h | h
  ·exact h
  ·exact absurd (.root hg (by omega)) h3
structure Good (g:Gr) (f:Nat->Nat) (k:Nat) (out:List Int):Prop where
 len:out.length=g.length
 rng : ∀b,b<g.length->nth out b=-1\/(0<=nth out b/\nth out b<g.length)
 inv:Inv (Rg g) (rk g) (Eg g) f (Dm g) k (st out) (pd out)
variable {f:Nat->Nat} {k:Nat} {out:List Int}
theorem Good.za(G:Good g f k out)(C:Ch (Rg g) (rk g) (Eg g) f (Dm g)){x:Nat}(h:Ok (pd out) x):Rg g x/\x<g.length:=⟨G.inv.okR C h,(G.inv.okR C h).lt⟩
theorem ou (G:Good g f k out) (C:Ch (Rg g) (rk g) (Eg g) f (Dm g)) : ∀(fuel a b:Nat),Ok (pd out) a->Ok (pd out) b->rk g a+rk g b<fuel->
  ∃c:Nat,kg out (fK g.length (bf g)) fuel a b=some (c:Int)/\Ok (pd out) c/\∀x,Anc (st out) x c↔Anc (st out) x a/\Anc (st out) x b
 | 0,a,b,_,_,h=>by omega
 | fuel+1,a,b,ha,hb,h=>by
  obtain⟨ra,la⟩:=G.za C ha;obtain⟨rb,lb⟩:=G.za C hb;have hg:=ra.pos;have hnl:(fK g.length (bf g)).length=g.length:=by rw[fK,xU List.length (fun _ _=>by simp)];simp
  have hol:=G.len;rw[kg,if_pos (by omega),KT,KT,rj ra,rj rb];have step : ∀a b:Nat,Ok (pd out) a->Ok (pd out) b->rk g b<rk g a->a≠0/\nth out a=((st out a:Nat):Int)/\Ok (pd out) (st out a)/\rk g (st out a)<rk g a/\∀x,Anc (st out) x (st out a)/\Anc (st out) x b↔Anc (st out) x a/\Anc (st out) x b:=by
   intro a b ha hb hlt;have ha0:a≠0:=fun e=>by subst e;rw[te hg]at hlt;omega
   have hpa:=ha.resolve_left ha0;obtain⟨_,_,h3,h4⟩:=G.inv.pr a hpa;refine⟨ha0,(KR hpa.2).symm,h3,h4,fun x=>⟨fun⟨h5,h6⟩=>⟨.up ha0 h5,h6⟩,fun⟨h5,h6⟩=>⟨?_,h6⟩⟩⟩;rcases(mP ha0).1 h5 with rfl | h7
   ·have:=(G.inv.anc h6 hb).2;rcases this with e | e
    ·subst e;omega
    omega
   exact h7
  by_cases h1:rk g b<rk g a
  ·rw[if_pos (by omega)];obtain⟨ha0,e,h3,h4,h5⟩:=step a b ha hb h1;rw[e];obtain⟨c,h6,h7,h8⟩:=ou G C fuel (st out a) b h3 hb (by omega);exact⟨c,h6,h7,fun x=>(h8 x).trans (h5 x)⟩
  rw[if_neg (by omega)];by_cases h2:rk g a<rk g b
  ·rw[if_pos (by omega)];obtain⟨hb0,e,h3,h4,h5⟩:=step b a hb ha h2;rw[e];obtain⟨c,h6,h7,h8⟩:=ou G C fuel a (st out b) ha h3 (by omega);exact⟨c,h6,h7,fun x=>(h8 x).trans (by rw[and_comm,h5 x,and_comm])⟩
  rw[if_neg (by omega)];have e:a=b:=Bc ra rb (by omega);subst e;exact⟨a,rfl,ha,fun x=>by simp⟩
def Bst (out:List Int) (best:Int) (Q:Nat->Prop):Prop:=
 (best=-1/\∀a,¬Q a)\/∃c:Nat,best=(c:Int)/\Ok (pd out) c/\(∃a,Q a)/\∀x,Anc (st out) x c↔∀a,Q a->Anc (st out) x a
def Cons (g:Gr) (out:List Int) (a:Nat):Prop:=Rg g a/\Ok (pd out) a
theorem pg{best:Int}{Q Q':Nat->Prop}(h : ∀a,Q a↔Q' a)(b:Bst out best Q):Bst out best Q':=by have:Q=Q':=funext fun a=>propext (h a);rw[<-this];exact b
theorem qL (G:Good g f k out) (C:Ch (Rg g) (rk g) (Eg g) f (Dm g)) : ∀(l:List Int) (best:Int) (Q:Nat->Prop),Bst out best Q->(∀a∈l,0<=a/\a<(g.length:Int))->
  ∃best',bstS out (fK g.length (bf g)) g.length l best=some best'/\Bst out best' fun a=>Q a\/((a:Int)∈l/\Cons g out a)
 | [],best,Q,hB,_=>⟨best,rfl,pg (fun a=>by simp) hB⟩
 | a::l,best,Q,hB,hl=>by
  obtain⟨h0,h1⟩:=hl a (KI ..);have hl':=fun x hx=>hl x (KJ _ hx);obtain⟨n,rfl⟩:=Nf h0;have hn:n<g.length:=by omega
  have hol:=G.len;rw[bstS,if_pos ⟨h0,h1⟩,KT];have hcons:(nth (fK g.length (bf g)) n<0\/((n:Int)≠0/\nth out n<0))↔¬Cons g out n:=by
   by_cases hr:Rg g n
   ·rw[rj hr];constructor
    ·rintro(h | ⟨h2,h3⟩)
     ·omega
     rintro⟨_,h4 | h4⟩
     ·omega
     have:=h4.2;omega
    intro h;right;refine⟨fun e=>h ⟨hr,.inl (by omega)⟩,?_⟩;rcases Int.lt_or_le (nth out n) 0 with h2 | h2
    ·exact h2
    exact absurd ⟨hr,.inr ⟨by omega,h2⟩⟩ h
   rw[AY hn hr];exact⟨fun _ h=>hr h.1,fun _=>.inl (by omega)⟩
  by_cases hc:Cons g out n
  ·rw[if_neg fun h=>hcons.1 h hc];rcases hB with⟨rfl,hQ⟩ | ⟨c,rfl,hok,hex,hq⟩
   ·rw[if_pos (by decide)];obtain⟨b',h2,h3⟩:=qL G C l n (fun a=>a=n) (.inr ⟨n,rfl,hc.2,⟨n,rfl⟩,fun x=>by simp⟩) hl';refine⟨b',h2,pg (fun a=>?_) h3⟩;constructor
    ·rintro(rfl | ⟨h4,h5⟩)
     ·exact .inr ⟨KI ..,hc⟩
     exact .inr ⟨KJ _ h4,h5⟩
    rintro(h4 | ⟨h4,h5⟩)
    ·exact absurd h4 (hQ a)
    rcases KP.1 h4 with h4 | h4
    ·exact .inl (by omega)
    exact .inr ⟨h4,h5⟩
   rw[if_neg (by omega)];obtain⟨rc,_⟩:=G.za C hok;obtain⟨d,h2,h3,h4⟩:=ou G C (2*g.length+2) c n hok hc.2 (by have:=GU rc;have:=GU hc.1;omega);rw[h2];simp only[KS];obtain⟨b',h5,h6⟩:=qL G C l d (fun a=>Q a\/a=n) (.inr ⟨d,rfl,h3,⟨n,.inr rfl⟩,fun x=>by
    rw[h4,hq];constructor
    ·rintro⟨h7,h8⟩ a (ha | rfl)
     ·exact h7 a ha
     exact h8
    intro h7;exact⟨fun a ha=>h7 a (.inl ha),h7 n (.inr rfl)⟩⟩) hl';refine⟨b',h5,pg (fun a=>?_) h6⟩;constructor
   ·rintro((h7 | rfl) | ⟨h7,h8⟩)
    ·exact .inl h7
    ·exact .inr ⟨KI ..,hc⟩
    exact .inr ⟨KJ _ h7,h8⟩
   rintro(h7 | ⟨h7,h8⟩)
   ·exact .inl (.inl h7)
   rcases KP.1 h7 with h7 | h7
   ·exact .inl (.inr (by omega))
   exact .inr ⟨h7,h8⟩
  rw[if_pos (hcons.2 hc)];obtain⟨b',h2,h3⟩:=qL G C l best Q hB hl';refine⟨b',h2,pg (fun a=>?_) h3⟩;constructor
  ·rintro(h4 | ⟨h4,h5⟩)
   ·exact .inl h4
   exact .inr ⟨KJ _ h4,h5⟩
  rintro(h4 | ⟨h4,h5⟩)
  ·exact .inl h4
  rcases KP.1 h4 with h6 | h6
  ·exact absurd ((show a=n by omega)▸h5) hc
  exact .inr ⟨h6,h5⟩
theorem Cy(G:Good g f k out)(C:Ch (Rg g) (rk g) (Eg g) f (Dm g)){c:Nat}(hR:Rg g c)(hc:c≠0)(hk:rk g c=k):
  ∃q:Nat,bstS out (fK g.length (bf g)) g.length (nth (dE g) c) (-1)=some (q:Int)/\Turn (Rg g) (rk g) (Eg g) (st out) (pd out) c q:=by
 have hlt:=hR.lt;obtain⟨best,h1,h2⟩:=qL G C (nth (dE g) c) (-1) (fun _=>False) (.inl ⟨rfl,fun _ h=>h⟩) (rG (fun e he=>(oP he).1) (fun i x hx=>by
  rcases KB i g.length with hi | hi
  ·rw[aB hi]at hx;cases hx
  rw[de (by simpa using hi)]at hx;cases hx) c);have hm : ∀a:Nat,(a:Int)∈nth (dE g) c↔Eg g a c:=fun a=>by have:=Ce (g:=g) (a:=a) (b:=c) ⟨by omega,by omega⟩;rwa [KT]at this
 obtain⟨f1,f2,f3⟩:=C.hf c hR hc;rcases h2 with⟨_,h3⟩ | ⟨q,rfl,hok,_,hq⟩
 ·exact absurd (.inr ⟨(hm _).2 f2,f1,G.inv.fc C hR hc hk⟩) (h3 (f c))
 refine⟨q,h1,hok,fun x=>?_⟩;rw[hq];constructor
 ·intro h a h4 h5 h6;exact h a (.inr ⟨(hm a).2 h4,h5,h6⟩)
 rintro h a (h4 | ⟨h4,h5,h6⟩)
 ·exact h4.elim
 exact h a ((hm a).1 h4) h5 h6
end
def nZ (w:Nat->Nat):Nat->Nat
 | 0=>0
 | n+1=>nZ w n+w n
theorem E4 {w w':Nat->Nat} : ∀{n:Nat},(∀b,b<n->w' b<=w b)->nZ w' n<=nZ w n
 | 0,_=>Kz _
 | n+1,h=>Nat.add_le_add (E4 fun b hb=>h b (by omega)) (h n (by omega))
theorem Ep {w w':Nat->Nat} {c:Nat} : ∀{n:Nat},(∀b,b<n->w' b<=w b)->c<n->w' c<w c->nZ w' n<nZ w n
 | 0,_,h,_=>by omega
 | n+1,h,hc,hlt=>by
  rcases KB c n with h1 | h1
  ·have:=Ep (n:=n) (fun b hb=>h b (by omega)) h1 hlt;have:=h n (by omega);simp only[nZ];omega
  obtain rfl:c=n:=by omega
  have:=E4 (n:=c) fun b hb=>h b (by omega);simp only[nZ];omega
theorem vU {w:Nat->Nat} {m:Nat} : ∀{n:Nat},(∀b,b<n->w b<=m)->nZ w n<=n*m
 | 0,_=>by simp[nZ]
 | n+1,h=>by
  have:=vU (n:=n) fun b hb=>h b (by omega);have:=h n (by omega)
  rw[nZ,Lv];omega
section
variable {g:Gr} {f:Nat->Nat} {k:Nat} {out:List Int}
def wt (g:Gr) (out:List Int) (b:Nat):Nat:=if nth out b<0 then g.length else rk g (st out b)
def mu (g:Gr) (out:List Int):Nat:=nZ (wt g out) g.length
theorem Good.set (G:Good g f k out) (C:Ch (Rg g) (rk g) (Eg g) f (Dm g)) {c q:Nat} (hR:Rg g c) (hc:c≠0) (hk:rk g c=k) (T:Turn (Rg g) (rk g) (Eg g) (st out) (pd out) c q) (ch:Bool) :
  Good g f (k+1) (setS out ch c q).1/\mu g (setS out ch c q).1<=mu g out/\((setS out ch c q).2=true->ch=true\/mu g (setS out ch c q).1<mu g out)/\((setS out ch c q).2=false->ch=false/\(setS out ch c q).1=out/\st out c=q/\pd out c):=by
 have hlt:=hR.lt;have hol:=G.len;obtain⟨hq,hqn⟩:=G.za C T.ok;have I:=G.inv.turn C hR hc hk T;by_cases e:nth out c=q
 ·have hs:setS out ch c q=(out,ch):=by simp[setS,e]
  rw[hs];have hst:upd (st out) c q=st out:=by
   funext b;unfold upd;split
   ·rename_i hb;subst hb;simp[st,e]
   rfl
  have hpd:add (pd out) c=pd out:=by
   funext b;refine propext ⟨fun h=>?_,.inr⟩;rcases h with rfl | h
   ·exact⟨by omega,by omega⟩
   exact h
  rw[hst,hpd]at I;exact⟨⟨G.len,G.rng,I⟩,Kz _,.inl,fun h=>⟨h,rfl,by simp[st,e],by omega,by omega⟩⟩
 have hs:setS out ch c q=(out.set c q,true):=by simp[setS,e]
 rw[hs];have hn : ∀b,b<g.length->nth (out.set c q) b=if c=b then(q:Int) else nth out b:=fun b hb=>bn (by omega);have hst:st (out.set c q)=upd (st out) c q:=by
  funext b;unfold upd st;rcases KB b out.length with hb | hb
  ·rw[bn hb];by_cases h:c=b
   ·rw[if_pos h,if_pos h.symm];simp
   rw[if_neg h,if_neg (Ne.symm h)]
  rw[de (by simpa using hb),de hb,if_neg (by omega)]
 have hpd:pd (out.set c q)=add (pd out) c:=by
  funext b;refine propext ?_;unfold pd add;rw[KZ];constructor
  ·rintro⟨h1,h2⟩;rw[bn h1]at h2;by_cases h:c=b
   ·exact .inl h.symm
   rw[if_neg h]at h2;exact .inr ⟨h1,h2⟩
  rintro(rfl | ⟨h1,h2⟩)
  ·exact⟨by omega,by rw[bn (by omega),if_pos rfl];omega⟩
  refine⟨h1,?_⟩;rw[bn h1];split
  ·omega
  exact h2
 have hw : ∀b,b<g.length->wt g (out.set c q) b<=wt g out b/\(b=c->wt g (out.set c q) b<wt g out b):=by
  intro b hb;by_cases h:c=b
  ·subst h;have e1:wt g (out.set c q) c=rk g q:=by unfold wt;rw[hn c hb,if_pos rfl,if_neg (by omega),hst];simp[upd]
   have e2:rk g q<wt g out c:=by
    unfold wt;split
    ·exact GU hq
    rename_i h1;have hp:pd out c:=⟨by omega,by omega⟩;rcases G.inv.Jc T hp with h2 | h2
    ·exfalso;have:=KR hp.2;unfold st at h2;omega
    exact h2
   omega
  have e1:wt g (out.set c q) b=wt g out b:=by unfold wt st;rw[hn b hb,if_neg h]
  exact⟨by omega,fun e=>absurd e.symm h⟩
 have hmu:mu g (out.set c q)<mu g out:=Ep (fun b hb=>(hw b hb).1) hlt ((hw c hlt).2 rfl);refine⟨⟨by simpa using hol,fun b hb=>?_,by rw[hst,hpd];exact I⟩,by show mu g (out.set c q)<=_;omega,fun _=>.inr hmu,fun h=>by cases h⟩;rw[hn b hb];split
 ·right;omega
 exact G.rng b hb
theorem uz (C:Ch (Rg g) (rk g) (Eg g) f (Dm g)) : ∀(l:List Int) (k:Nat) (out:List Int) (ch:Bool),l=(bf g).drop k->1<=k->k<=(bf g).length->Good g f k out->
  ∃out' ch',qf (fK g.length (bf g)) (dE g) g.length l (out,ch)=some (out',ch')/\Good g f (bf g).length out'/\mu g out'<=mu g out/\(ch'=true->ch=true\/mu g out'<mu g out)/\
   (ch'=false->ch=false/\out'=out/\∀c:Nat,(c:Int)∈l->pd out c/\Turn (Rg g) (rk g) (Eg g) (st out) (pd out) c (st out c))
 | [],k,out,ch,hl,_,hk,G=>by
  have hk2:(bf g).length<=k:=by have:=congrArg List.length hl;simp only[M8,K7]at this;omega
  obtain rfl:k=(bf g).length:=by omega
  exact⟨out,ch,rfl,G,Kz _,.inl,fun h=>⟨h,rfl,by simp⟩⟩
 | b::l,k,out,ch,hl,h1,hk,G=>by
  have hlt:k<(bf g).length:=by have:=congrArg List.length hl;simp only[Lw,K7]at this;omega
  rw[KY hlt]at hl;obtain⟨hb,hl2⟩:=List.cons.inj hl;have hmem:b∈bf g:=by rw[hb];exact Ly _
  have hg:0<g.length:=by have:=pI (g:=g);omega
  have O:=jG hg;have hr:=O.rng b hmem;obtain⟨c,rfl⟩:=Nf hr.1;have hR:Rg g c:=(O.mem c).1 hmem;have hrk:rk g c=k:=by unfold rk;rw[hb,M7 O.nodup]
  have hc0:c≠0:=fun e=>by subst e;rw[te hg]at hrk;omega
  obtain⟨q,h3,T⟩:=Cy G C hR hc0 hrk;rw[qf,if_pos hr,KT];simp only;rw[h3];simp only[KS];obtain⟨g1,g2,g3,g4⟩:=G.set C hR hc0 hrk T ch;have e:setS out ch c q=((setS out ch c q).1,(setS out ch c q).2):=rfl;rw[e];generalize hs1:(setS out ch c q).1=o1 at g1 g2 g3 g4;generalize hs2:(setS out ch c q).2=c1 at g3 g4;obtain⟨out',ch',k1,k2,k3,k4,k5⟩:=uz C l (k+1) o1 c1 hl2 (by omega) (by omega) g1;refine⟨out',ch',k1,k2,by omega,fun h=>?_,fun h=>?_⟩
  ·rcases k4 h with h4 | h4
   ·rcases g3 h4 with h5 | h5
    ·exact .inl h5
    exact .inr (by omega)
   exact .inr (by omega)
  obtain⟨h4,rfl,h6⟩:=k5 h;obtain⟨h7,rfl,h8,h9⟩:=g4 h4;refine⟨h7,rfl,fun x hx=>?_⟩;rcases KP.1 hx with hx | hx
  ·obtain rfl:x=c:=by omega
   exact⟨h9,h8▸T⟩
  exact h6 x hx
theorem Good.one(hg:0<g.length)(G:Good g f 0 out):Good g f 1 out:=by have I:=G.inv;have h0 : ∀b,Rg g b->b≠0->¬rk g b<1:=fun b hR hb h=>hb (Bc hR (.root hg (by decide)) (by rw[te hg];omega));exact⟨G.len,G.rng,⟨I.pr,fun b hR hb h=>absurd h (h0 b hR hb),I.fok,I.K,fun b hb y hy _=>I.FP b hb y hy (by omega),fun b hb h=>absurd h (h0 b (I.pr b hb).1 (I.pr b hb).2.1),I.S⟩⟩
structure nP (g:Gr) (f:Nat->Nat) (l:List Int):Prop where
 good:Good g f (bf g).length l
 turn : ∀c,Rg g c->c≠0->pd l c/\Turn (Rg g) (rk g) (Eg g) (st l) (pd l) c (st l c)
theorem xh (hg:0<g.length) (C:Ch (Rg g) (rk g) (Eg g) f (Dm g)) : ∀(fuel:Nat) (out:List Int),Good g f 0 out->mu g out<fuel->
  ∃l,mq (fK g.length (bf g)) (dE g) g.length ((bf g).drop (min 1 (bf g).length)) fuel out=some l/\nP g f l
 | 0,_,_,h=>by omega
 | fuel+1,out,G,h=>by
  have O:=jG hg;have hlen:0<(bf g).length:=by
   rcases MJ (bf g).length with h | h
   ·have:=O.head;rw[KN h]at this;cases this
   exact h
  have hm:min 1 (bf g).length=1:=by omega
  rw[mq,hm];obtain⟨out',ch',k1,k2,k3,k4,k5⟩:=uz C ((bf g).drop 1) 1 out false rfl (Kz _) hlen (G.one hg);rw[k1];simp only[KS];cases ch' with
  | true=>rw[if_pos rfl];have:=xh hg C fuel out' ⟨k2.len,k2.rng,k2.inv.again fun b hb=>BT hb⟩ (by rcases k4 rfl with h1 | h1;cases h1;omega);rwa [hm]at this
  | false=>
   rw[if_neg (by simp)];obtain⟨_,rfl,h6⟩:=k5 rfl;refine⟨_,rfl,k2,fun c hR hc=>h6 c ?_⟩;have hmem:=(O.mem c).2 hR;obtain⟨i,hi,e⟩:=KV hmem;have hi0:i≠0:=fun h0=>by subst h0;have:=O.head;rw[K6 hi]at this;have:=Option.some.inj this;omega
   rw[<-e];refine List.mem_iff_getElem.2 ⟨i-1,by rw[K7];omega,?_⟩;rw[Ni];congr 1;omega
theorem wA(hg:0<g.length): ∃f,Ch (Rg g) (rk g) (Eg g) f (Dm g)/\∃l,vY g (g.length*g.length+1)=some l/\nP g f l:=by
 obtain⟨f,hf⟩:=FV hg;have C:=Je hg hf;refine⟨f,C,?_⟩;refine xh hg C _ _ ⟨by simp,fun b hb=>.inl (aB hb),?_⟩ ?_
 ·have:pd (List.replicate g.length (-1))=fun _=>False:=by funext b;refine propext ⟨fun⟨h1,h2⟩=>?_,fun h=>h.elim⟩;rw[aB (by simpa using h1)]at h2;omega
  rw[this];exact Inv.start
 have:=vU (w:=wt g (List.replicate g.length (-1))) (m:=g.length) (n:=g.length) fun b hb=>by unfold wt;rw[aB hb,if_pos (by omega)];exact Kz _
 unfold mu;omega
theorem nP.anc {l:List Int} (I:nP g f l) (C:Ch (Rg g) (rk g) (Eg g) f (Dm g)) {x b:Nat} (hb:Rg g b):Anc (st l) x b↔Dm g x b:=by
 have hok : ∀b,Rg g b->Ok (pd l) b:=fun b h=>by
  by_cases e:b=0
  ·exact .inl e
  exact .inr (I.turn b h e).1
 constructor
 ·intro h;have hx:=(I.good.za C (I.good.inv.anc h (hok b hb)).1).1;refine nO.2 ⟨hx,hb,fun hre=>?_⟩;have key : ∀b,Re g x b->¬Anc (st l) x b:=by
   intro b hre;induction hre with
   | root h1 h2=>intro h;have:=qm.1 h;omega
   | step ha he hne ih=>
    rename_i a b;intro h;by_cases e:b=0
    ·subst e;have:=qm.1 h;omega
    have hRb:Rg g b:=.step ha.all he (by omega);have h3:=((mP e).1 h).resolve_left (by omega);exact ih (((I.turn b hRb e).2.q x).1 h3 a he ha.all (hok a ha.all))
  exact key b hre h
 intro h;exact I.good.inv.dom C (hok b hb) h
end
theorem Bw{p:Nat->Bool}{n:Nat}:sD p n=true↔∀i,i<n->p i=true:=by
 unfold sD;induction n with
 | zero=>simp[up]
 | succ n ih=>
  rw[up,BO,KE,ih];constructor
  ·rintro⟨h1,h2⟩ i hi;rcases KB i n with h | h
   ·exact h1 i h
   obtain rfl:i=n:=by omega
   exact h2
  intro h;exact⟨fun i hi=>h i (by omega),h n (by omega)⟩
section
variable {g:Gr} {f:Nat->Nat} {l:List Int}
theorem nP.none(I:nP g f l){b:Nat}(hb:b<g.length)(h:¬Rg g b\/b=0):nth l b=-1:=by
 rcases I.good.rng b hb with h1 | h1
 ·exact h1
 exfalso;have:=I.good.inv.pr b ⟨by rw[I.good.len];exact hb,h1.1⟩;rcases h with h | h
 ·exact h this.1
 exact this.2.1 h
theorem C8{a:Int}(ha:0<=a): ∀k,nV l a k (-1)=false
 | 0=>rfl
 | k+1=>by rw[nV,if_neg (by omega),if_pos (.inl (by omega))]
theorem tP (I:nP g f l) (C:Ch (Rg g) (rk g) (Eg g) f (Dm g)) {a:Nat} : ∀(k b:Nat),Rg g b->rk g b<k->(nV l a k b=true↔Anc (st l) a b)
 | 0,b,_,h=>by omega
 | k+1,b,hb,h=>by
  have hlt:=hb.lt;have hll:=I.good.len;rw[nV];by_cases e:(b:Int)=a
  ·rw[if_pos e];have:a=b:=by omega
   subst this;exact⟨fun _=>.self,fun _=>rfl⟩
  rw[if_neg e,if_neg (by omega),KT];by_cases h0:b=0
  ·subst h0;rw[I.none hlt (.inr rfl),C8 (by omega),qm];constructor
   ·intro h;cases h
   intro h;omega
  obtain⟨hp,_⟩:=I.turn b hb h0;obtain⟨h1,h2,h3,h4⟩:=I.good.inv.pr b hp;have e2:nth l b=((st l b:Nat):Int):=(KR hp.2).symm;rw[e2,tP I C k (st l b) (I.good.inv.okR C h3) (by omega),mP h0];exact⟨.inr,fun h=>h.resolve_left (by omega)⟩
theorem qM(I:nP g f l)(C:Ch (Rg g) (rk g) (Eg g) f (Dm g)){a b:Nat}(ha:a<g.length)(hb:Rg g b):eB l a b=domC g a b:=by have hlt:=hb.lt;have hll:=I.good.len;rw[eB,decide_eq_true (by omega),MB,K0,tP I C _ _ hb (by have:=GU hb;omega),I.anc C hb];rfl
end
section
open Go Go.Lft
theorem DD{l:List Int}{x:Int}{v:Value}{h:Heap}(hl:SlRd (vw h) v l):aw Tryz.prog N.slices_Index_int #[v,.int .i64 x] h (fun u h'=>(∃r:Int,u = .int .i64 r/\(0<=r↔x∈l))/\h'=h):=by
 refine ao (args:=[v,.int .i64 x]) follows F.slices_Index_int E.slices_Index_int (Kw (by kernel_rfl)) fun K hK=>?_;have bl:=hl.bound;simp[L.slices_Index_int,hl.len];refine aJ [0,1,7,8] (fun(_:Unit) i=>[v,.int .i64 x,.int .i64 l.length,.int .i64 i]) (fun _ i h1=>h1=h/\∀j,j<i->nth l j≠x) l.length ()
  rfl (by omega) rfl ⟨rfl,fun j hj=>by omega⟩ (fun _ _=>rfl) (fun v i h1 hk m=>by simp) ?_ ?_
 ·rintro _ i h hlt ⟨rfl,hpre⟩ K2 hK2;simp(disch:=omega)[hl.idx1 rfl,hl.int (View.le_refl _)];refine⟨fun e=>hK _ _ ⟨⟨i,rfl,by simp;rw[e];exact cj hlt⟩,rfl⟩,fun e=>hK2 () _ _ rfl rfl ⟨rfl,fun j hj=>?_⟩⟩;rcases KB j i with h | h
  ·exact hpre j h
  have:j=i:=by omega
  subst this;exact fun e2=>e e2.symm
 rintro _ h ⟨rfl,hpre⟩;simp;refine hK _ _ ⟨⟨-1,rfl,by simp;intro hm;obtain⟨j,hj,e⟩:=KV hm;exact hpre j hj (by rw[az hj];exact e)⟩,rfl⟩
theorem sC{l:List Int}{x:Int}{v:Value}{h:Heap}(hl:SlRd (vw h) v l):aw Tryz.prog N.slices_Contains_int #[v,.int .i64 x] h (fun u h'=>u = .bool (l.contains x)/\h'=h):=by refine ao (args:=[v,.int .i64 x]) follows F.slices_Contains_int E.slices_Contains_int (Kw (by kernel_rfl)) fun K hK=>?_;simp[L.slices_Contains_int];refine af (by kernel_rfl) (DD hl) ?_;rintro _ _ ⟨⟨r,rfl,hr⟩,rfl⟩;simp;exact hK _ _ ⟨by simp[<-hr],rfl⟩
def ofG (l:List BlkD):Gr:=rows (fun i=>kK (nth l i).term.to l.length) l.length
theorem AF{l:List BlkD}{v:Value}{p:Int}{h:Heap}(hv:SlRd (vw h) v l)(hl:l.length<=1000000)(hs : ∀i,i<l.length->(nth l i).term.to.length<=1000000):
  aw Tryz.prog N.gU #[.agg #[.int .i64 p,v]] h (fun u h'=>(vw h).le (vw h')/\SlRd (fresh h h') u (ofG l)):=by
 refine ao (args:=[.agg #[.int .i64 p,v]]) follows F.gU E.gU (Kw (by kernel_rfl)) fun K hK=>?_;obtain⟨hvc,hvo⟩:=hv.cells;simp[L.gU];refine dy (v:=.agg #[.int .i64 p,v]) (by simp) ?_;have hle1:=bM h (.cells (Value.agg #[.int .i64 p,v]).cells T.eI);have hc1:aj (vw (h.push (.cells (Value.agg #[.int .i64 p,v]).cells T.eI))) ⟨h.size,1,none⟩=some v:=dc (c:=#[.int .i64 p,v]) (T:=T.eI) (fz:=(0,0)) (by simp[vw,Value.cells]) rfl;generalize h.push (.cells (Value.agg #[.int .i64 p,v]).cells T.eI)=h1 at hle1 hc1;have hv1:=hv.mono hle1;simp[hc1,hv1.len];refine Mine.made (α:=List Int) (V:=nothing) (W:=nothing) (h0:=h1) (n:=l.length) (d:=[]) El.jy (View.le_refl _) (fun _ _ h=>by cases h) (Old.nothing _ _) (by simp<;>rfl) (by simp<;>rfl) Ff (by omega) (by omega) fun o h2 m hle2 _=>?_;have hc2:=ae hle2 hc1
 have hv2:=hv1.mono hle2;simp[hc2,hv2.len];refine aJ [1,3,11,12,13] (fun(_:View) k=>[.pointer (some ⟨h.size,0,none⟩),o,v,.int .i64 l.length,.int .i64 k]) (fun W k h3=>Mine nothing h1 h3 W T.aP o (rows (fun i=>kK (nth l i).term.to l.length) k++List.replicate (l.length-k) [])) l.length nothing
  rfl (by omega) rfl m (fun _ _=>rfl) (fun v k h1 hk m=>by simp) ?_ ?_
 ·rintro W a h3 hlta m K2 hK2;have hle3:=m.old;have hc3:=ae hle3 hc1;have hv3:=hv1.mono hle3;obtain⟨u,hu1,hu2⟩:=hv3.wh rfl (N:=6) rfl hlta;have hal:=hs a hlta;have hl5:(rows (fun i=>kK (nth l i).term.to l.length) a++List.replicate (l.length-a) ([]:List Int)).length=l.length:=by simp;omega
  refine ab fun z hz=>?_;simp(disch:=omega)[hv3.idxn (N:=6) rfl,hu1 _ (View.le_refl _)];refine dX (z:=.agg #[.slice none 0 0,.slice none 0 0,.int .i64 0,.slice none 0 0,.slice none 0 0,.int .i32 0]) (by kernel_rfl) rfl (by kernel_rfl) hu2 (fun _=>by simp) (fun _=>by simp) fun h4 hle4 hsz4 hat=>?_;obtain⟨vp,vi,va,vt,bp,bi,bk,ba,bt⟩:=kl (hat (vw h4) hle4 rfl);have hc4:=ae hle4 hc3;have hv4:=hv3.mono hle4;subst hz;simp[bt.1,hc4,hv4.len];refine af (by kernel_rfl) (Bv bt.2 (by omega)) ?_;rintro r h5 ⟨W',mr⟩;have m5:=(m.ext' hle4).ext mr.old;have hr:=mr.fresh.mono (jj W _ _);simp(disch:=omega)[m5.now.idx1 rfl];refine m5.put1 (α:=List Int) (i:=a) (by kernel_rfl) rfl (by simp) (by simp<;>rfl) (by omega) (eE.2 hr) fun h6 m6=>hK2 (grow W h4 h5) _ _ rfl rfl ?_;rw[vk (x:=fun i=>kK (nth l i).term.to l.length) hlta]at m6;exact m6
 rintro W h3 m;simp at m;simp;exact hK _ _ ⟨View.le_trans hle1 m.old,m.fresh.mono (uv hle1)⟩
def kS (w:Int × Int) (idom:List Int) (blk at_:Int):Bool:=(decide (w.1=blk)&&(decide (w.2<at_)||decide (w.2<0)))||(!decide (w.1=blk)&&eB idom w.1 blk)
def useS (ps:Int) (m:MW) (idom:List Int) (v blk place at_ told:Int):Except Tr Unit:=
 if 0<=v/\v<ps then .ok () else match m v with
  | none=>.error (13,told,place)
  | some w=>if kS w idom blk at_ then .ok () else .error (13,told,place)
theorem AI{Kb r:Nat}{vb vd:Value}{f:ak}{m:MW}{idom:List Int}{h:Heap}{p5 p6:Addr}{v blk place at_ told:Int}(k:Lk h Kb r vb f m)(h5:aj (vw h) p5=some (.pointer (some ⟨Kb,0,none⟩)))(h6:aj (vw h) p6=some vd)(hd:SlRd (vw h) vd idom):
  iH Tryz.prog N.aQ #[.int .i64 v,.int .i64 blk,.int .i64 place,.int .i64 at_,.int .i64 told,.pointer (some p5),.pointer (some p6)] h (fun _ h'=>useS f.params m idom v blk place at_ told = .ok ()/\(vw h).le (vw h'))
   (fun ch h'=>∃t,useS f.params m idom v blk place at_ told = .error t/\ch=trV t/\(vw h).le (vw h')):=by
 refine gX (args:=[.int .i64 v,.int .i64 blk,.int .i64 place,.int .i64 at_,.int .i64 told,.pointer (some p5),.pointer (some p6)]) follows F.aQ E.aQ (Kw (by kernel_rfl)) fun K Kp hK hKp=>?_;dsimp only[L.aQ];by_cases hp:0<=v/\v<f.params
 ·simp[h5,ae cS k.c0,hp];exact hK _ _ ⟨by simp[useS,hp],View.le_refl _⟩
 have hu:useS f.params m idom v blk place at_ told=match m v with
   | none=>.error (13,told,place)
   | some w=>if kS w idom blk at_ then .ok () else .error (13,told,place):=by rw[useS,if_neg hp]
 rw[hu]at hK hKp;refine ab fun z hz=>?_;have hc:(decide (0<=v)&&decide (v<f.params))=false:=by rw[MO];intro e;exact hp (by simpa using e)
 simp[h5,ae cS k.c0,hc];subst hz;refine ab fun z hz=>?_;simp[h5,ae cS k.c2];refine lz (z:=.agg #[.int .i64 0,.int .i64 0]) U.fM U.int (by kernel_rfl) (by simp<;>rfl) (by simp<;>rfl) fE k.map ?_;have cellsW:((mapE encW m (.int .i64 v))).getD (.agg #[.int .i64 0,.int .i64 0])=encW ((m v).getD (0,0)):=by rw[oh];cases m v<;>rfl
 have isW:(mapE encW m (.int .i64 v)).isSome=(m v).isSome:=by rw[oh];cases m v<;>rfl
 rw[cellsW,isW];simp;refine gS (n:=2) (v:=encW ((m v).getD (0,0))) (z:=.agg #[.int .i64 0,.int .i64 0]) (by kernel_rfl) rfl (by kernel_rfl) rfl (by simp[encW,Value.oneCell']) (fun _=>by simp) (fun _=>by simp) fun h3 hle3 hsz3 hb3=>?_;have d0:aj (vw h3) ⟨h.size,0,none⟩=some (.int .i64 ((m v).getD (0,0)).1):=dc (show vw h3 h.size=_ from hb3) rfl;have d1:aj (vw h3) ⟨h.size,1,none⟩=some (.int .i64 ((m v).getD (0,0)).2):=dc (show vw h3 h.size=_ from hb3) rfl;have h63:=ae hle3 h6;have hd3:=hd.mono hle3;generalize h.size=B at d0 d1;subst hz;have fin : ∀(ok:Bool) (h4:Heap) (ρ:Env) (z:LC),(vw h).le (vw h4)->(∀w,m v=some w->ok=kS w idom blk at_)->(m v=none->ok=false)->z = .reg false (.loud [65,66,67] [] [(65,.tmp 13),(66,.tmp 4),(67,.tmp 2)] none [] false (.call ⟨.value (.func N.fw),#[.tmp 65,.const (.int .i64 13),.tmp 66,.tmp 67],#[T.bool,T.mL,T.int,T.int]⟩) 0 (some 68) false (.fin [] [] []))->
   Lft.look ρ 13=some (.bool ok)->Lft.look ρ 4=some (.int .i64 told)->Lft.look ρ 2=some (.int .i64 place)->@LC.wp (ppOf Kp) Tryz.prog z (@dH [] K) ρ h4:=by
  rintro ok h4 ρ _ hle4 hs hn rfl e13 e4 e2;simp[e13,e4,e2];refine dT (by kernel_rfl) gR ?_ ?_
  ·rintro _ _ ⟨e,rfl⟩;refine hK _ _ ⟨?_,hle4⟩;cases hm:m v with
   | none=>rw[hn hm]at e;cases e
   | some w=>simp only;rw[if_pos (by rw[<-hs w hm];exact e)]
  rintro _ _ ⟨e,rfl,rfl⟩;refine⟨.inl rfl,hKp _ _ ⟨_,?_,rfl,hle4⟩⟩;cases hm:m v with
  | none=>rfl
  | some w=>simp only;rw[if_neg (by rw[<-hs w hm,e];simp)]
 refine ab fun z hz=>?_;cases hm:m v with
 | none=>rw[hm]at d0 d1;simp[d0,d1];refine fin false _ _ _ hle3 (fun w hw=>by rw[hm]at hw;cases hw) (fun _=>rfl) hz ?_ ?_ ?_<;>simp
 | some w=>
  rw[hm]at d0 d1;simp at d0 d1;by_cases c1:w.1=blk
  ·by_cases c2:w.2<at_
   ·simp[d0,d1,c1,c2];refine fin true _ _ _ hle3 (fun w' hw=>by rw[hm]at hw;cases hw;simp[kS,c1,c2]) (fun e=>by simp[hm]at e) hz ?_ ?_ ?_<;>simp
   by_cases c3:w.2<0
   ·simp[d0,d1,c1,c2,c3];refine fin true _ _ _ hle3 (fun w' hw=>by rw[hm]at hw;cases hw;simp[kS,c1,c2,c3]) (fun e=>by simp[hm]at e) hz ?_ ?_ ?_<;>simp
   simp[d0,d1,c1,c2,c3];refine fin false _ _ _ hle3 (fun w' hw=>by rw[hm]at hw;cases hw;simp[kS,c1,c2,c3]) (fun e=>by simp[hm]at e) hz ?_ ?_ ?_<;>simp
  simp[d0,d1,c1,h63];refine af (by kernel_rfl) (xO hd3) ?_;rintro _ h4 ⟨rfl,hle4⟩;refine fin _ _ _ _ (View.le_trans hle3 hle4) (fun w' hw=>by rw[hm]at hw;cases hw;simp[kS,c1];rfl) (fun e=>by simp[hm]at e) hz ?_ ?_ ?_<;>simp
end
section
open Go Go.Lft
def kr (x:PhiD) (row:List Int) (b:Nat):Bool:=decide (0<b)&&decide ((x.ins.length:Int)=(row.length:Int))
def xd (x:PhiD) (row:List Int) (j:Nat):Bool:=decide ((nth x.ins j).frm=nth row j)
def yN (x:PhiD) (row:List Int) (b:Nat):Bool:=kr x row b&&sD (xd x row) x.ins.length
def uAll (g:Nat->Except Tr Unit) (n:Nat):Except Tr Unit:=upE (fun i _=>g i) n ()
def phiU (f:ak) (m:MW) (idom:List Int) (preds:Gr) (b i:Nat):Except Tr Unit:=
 let x:=nth (nth f.blocks b).phis i
 if yN x (nth preds b) b then uAll (fun j=>useS f.params m idom (nth x.ins j).val (nth x.ins j).frm (-1-i) (nth f.blocks (nth x.ins j).frm.toNat).ins.length b) x.ins.length else .error (16,b,-1-i)
def insU (f:ak) (m:MW) (idom:List Int) (b i:Nat):Except Tr Unit:=
 uAll (fun j=>useS f.params m idom (nth (nth (nth f.blocks b).ins i).args j) b i i b) (nth (nth f.blocks b).ins i).args.length
def endU (f:ak) (m:MW) (idom:List Int) (b:Nat):Except Tr Unit:=
 uAll (fun j=>useS f.params m idom (nth (nth f.blocks b).term.args j) b (nth f.blocks b).ins.length (nth f.blocks b).ins.length b) (nth f.blocks b).term.args.length
def andE (x y:Except Tr Unit):Except Tr Unit:=match x with | .ok _=>y | .error t=>.error t
def blkU (f:ak) (m:MW) (idom:List Int) (preds:Gr) (b:Nat):Except Tr Unit:=
 andE (uAll (phiU f m idom preds b) (nth f.blocks b).phis.length) (andE (uAll (insU f m idom b) (nth f.blocks b).ins.length) (endU f m idom b))
def sk (f:ak) (b:Nat):Except Tr Unit:=if decide ((b:Int)∈bf (ofG f.blocks)) then .ok () else .error (15,b,0)
def qy (f:ak) (m:MW) (idom:List Int):Except Tr Unit:=
 andE (uAll (sk f) f.blocks.length) (uAll (blkU f m idom (dE (ofG f.blocks))) f.blocks.length)
theorem mS{g:Nat->Except Tr Unit}{n k:Nat}{t:Tr}(h:uAll g k = .ok ())(hk:k<n)(he:g k = .error t):uAll g n = .error t:=xr h hk he
theorem jR{g:Nat->Except Tr Unit}{k:Nat}(h:uAll g k = .ok ()):uAll g (k+1)=g k:=mF h
theorem EC{H:View}{B:Nat}{u v:Value}(h0:aj H ⟨B,0,none⟩=some u)(h1:aj H ⟨B,1,none⟩=some v):Un.ev H (.au 2) (.pointer (some ⟨B,0,none⟩))=some (.agg #[u,v]):=by simp[Un.ev,vP,dR,h0,h1]
theorem Iy{l:List BlkD}(hl:l.length<=1000000)(hs : ∀i,i<l.length->(nth l i).term.to.length<=1000000):Sm (ofG l):=by
 have hlen:(ofG l).length=l.length:=by simp[ofG]
 refine⟨by omega,fun i hi=>?_⟩;rw[hlen]at hi;rw[ofG,gm hi];exact KU wy (hs i hi)
theorem Gl{Kb r:Nat}{vb:Value}{f:ak}{m:MW}{idom:List Int}{fuel:Nat}{h:Heap}(k:Lk h Kb r vb f m)(hn:f.blocks.length<=1000000)(hto : ∀i,i<f.blocks.length->(nth f.blocks i).term.to.length<=1000000)(hd:vY (ofG f.blocks) fuel=some idom):
  iH Tryz.prog N.aC #[.pointer (some ⟨Kb,0,none⟩)] h (fun _ h'=>qy f m idom = .ok ()/\(vw h).le (vw h')) (fun ch h'=>∃t,qy f m idom = .error t/\ch=trV t/\(vw h).le (vw h')):=by
 refine gX (args:=[.pointer (some ⟨Kb,0,none⟩)]) follows F.aC E.aC (Kw (by kernel_rfl)) fun K Kp hK hKp=>?_;have hbb:=k.rb.bound;have hsm:=Iy hn hto;have hgl:(ofG f.blocks).length=f.blocks.length:=by simp[ofG]
 dsimp only[L.aC];refine ab fun z hz=>?_;simp;refine dy (v:=.pointer (some ⟨Kb,0,none⟩)) (by simp) ?_;have hle1:=bM h (.cells (Value.cells (.pointer (some ⟨Kb,0,none⟩))) T.lC);have h51:aj (vw (h.push (.cells (Value.cells (.pointer (some ⟨Kb,0,none⟩))) T.lC))) ⟨h.size,0,none⟩=some (.pointer (some ⟨Kb,0,none⟩)):=by simp[aj,vw]
 generalize h.push (.cells (Value.cells (.pointer (some ⟨Kb,0,none⟩))) T.lC)=h1 at hle1 h51;generalize h.size=B at h51;have k1:=k.ext hle1;subst hz;refine ab fun z hz=>?_;simp[h51,EC (ae cS k1.c0) (ae cS k1.c1)];refine af (by kernel_rfl) (AF (k1.rb.mono cS) hn hto) ?_;rintro vg h2 ⟨hle2,hg⟩;have hg2:=hg.mono (ko _ _)
 subst hz;refine ab fun z hz=>?_;simp;refine af (by kernel_rfl) (zK hg2 hsm) ?_;rintro vo h3 ⟨hle3,ho⟩;have ho3:=ho.mono (ko _ _);have hg3:=hg2.mono hle3;have hle13:=View.le_trans hle2 hle3;have k3:=k1.ext hle13;have h53:=ae hle13 h51;have hle03:=View.le_trans hle1 hle13;subst hz;refine ab fun z hz=>?_;simp[h53,ae cS k3.c1,k3.rb.len];refine aJ [0,1,2,3,35,36] (fun(_:Unit) b=>[.pointer (some ⟨Kb,0,none⟩),.pointer (some ⟨B,0,none⟩),vg,vo,.int .i64 f.blocks.length,.int .i64 b]) (fun _ b h4=>h4=h3/\uAll (sk f) b = .ok ()) f.blocks.length ()
  rfl (by omega) rfl ⟨rfl,rfl⟩ (fun _ _=>rfl) (fun v i h1 hk m=>by simp) ?_ ?_
 ·rintro _ b h3 hlt ⟨rfl,hpre⟩ K2 hK2;simp;refine af (by kernel_rfl) (sC ho3) ?_;rintro _ _ ⟨rfl,rfl⟩;simp;refine dT (by kernel_rfl) gR ?_ ?_
  ·rintro _ _ ⟨e,rfl⟩;exact hK2 () _ _ rfl rfl ⟨rfl,by rw[jR hpre,sk,if_pos e]⟩
  rintro _ _ ⟨e,rfl,rfl⟩;exact⟨.inl rfl,hKp _ _ ⟨_,by rw[qy,mS hpre hlt (by rw[sk,if_neg (by rw[e];simp)])];rfl,rfl,hle03⟩⟩
 rintro _ h3 ⟨rfl,hreach⟩;have hus:qy f m idom=uAll (blkU f m idom (dE (ofG f.blocks))) f.blocks.length:=by rw[qy,hreach];rfl
 rw[hus]at hK hKp;simp;subst hz;refine ab fun z hz=>?_;simp;refine af (by kernel_rfl) (yK hg3 hsm) ?_;rintro vp h4 ⟨hle4,hp⟩;have hp4:=hp.mono (ko _ _);refine af (by kernel_rfl) (FQ (hg3.mono hle4) hsm hd) ?_;rintro vi h5 ⟨W,mi⟩;have hi5:=mi.now;refine dX (α:=List Int) (z:=.slice none 0 0) (X:=vw h5) (by kernel_rfl) rfl (by kernel_rfl) (eE.2 hi5) (fun _=>by simp) (fun _=>by simp) fun h6 hle6 hsz6 hat=>?_;obtain⟨vd,hvd,hd6⟩:=(hat (vw h6) hle6 rfl).sl;generalize h5.size=C at hvd;subst hz;have hle36:=View.le_trans hle4 (View.le_trans mi.old hle6)
 have hp6:=hp4.mono (View.le_trans mi.old hle6);have k6:=k3.ext hle36;have h56:=ae hle36 h53;have hle06:=View.le_trans hle03 hle36;have hpl:(dE (ofG f.blocks)).length=f.blocks.length:=by rw[oB,hgl]
 have hin : ∀b,∀x∈nth (dE (ofG f.blocks)) b,0<=x/\x<f.blocks.length:=by
  rw[<-hgl];exact rG (fun e he=>(oP he).1) (fun i x hx=>by
   rcases KB i (ofG f.blocks).length with hi | hi
   ·rw[aB hi]at hx;cases hx
   rw[de (by simpa using hi)]at hx;cases hx)
 generalize dE (ofG f.blocks)=preds at hp6 hpl hin hK hKp;obtain⟨pv,hpv⟩:=hp6.rows;simp[h56,ae cS k6.c1,k6.rb.len];refine aJ [1,5,7,54,55,56] (fun(_:Unit) b=>[.pointer (some ⟨B,0,none⟩),vp,.func (.func N.aQ) #[] #[.pointer (some ⟨B,0,none⟩),.pointer (some ⟨C,0,none⟩)],vb,.int .i64 f.blocks.length,.int .i64 b]) (fun _ b h7=>(vw h6).le (vw h7)/\uAll (blkU f m idom preds) b = .ok ()) f.blocks.length ()
  rfl (by omega) rfl ⟨View.le_refl _,rfl⟩ (fun _ _=>rfl) (fun v i h1 hk m=>by simp) ?_ ?_
 ·rintro _ b h7 hltb ⟨hle7,hpre⟩ K2 hK2;have k7:=k6.ext hle7;have rb7:=k7.rb.mono cS;obtain⟨u,hu,hur⟩:=rb7.wh rfl (N:=6) rfl hltb;obtain⟨pc,pr⟩:=hpv b (by omega);have hst:=jR hpre;have her : ∀{t},blkU f m idom preds b = .error t->uAll (blkU f m idom preds) f.blocks.length = .error t:=fun e=>mS hpre hltb e;refine ab fun z hz=>?_;simp(disch:=omega)[rb7.idxn (N:=6) rfl,hu _ (View.le_refl _)];refine dX (z:=.agg #[.slice none 0 0,.slice none 0 0,.int .i64 0,.slice none 0 0,.slice none 0 0,.int .i32 0]) (by kernel_rfl) rfl (by kernel_rfl) hur (fun _=>by simp) (fun _=>by simp) fun h8 hle8 hsz8 hat=>?_;obtain⟨wp,wi,wa,wt,bp,bi,bk,ba,bt⟩:=kl (hat (vw h8) hle8 rfl);generalize h7.size=D at bp bi bk ba bt;subst hz;have hle68:=View.le_trans hle7 hle8
  have bph:=bp.2.bound;have bin:=bi.2.bound;have bar:=ba.2.bound;refine ab fun z hz=>?_;simp[bp.1,bp.2.len];refine aJ [1,5,7,8,9,54,55,56,62,63,64] (fun(_:Unit) i=>[.pointer (some ⟨B,0,none⟩),vp,.func (.func N.aQ) #[] #[.pointer (some ⟨B,0,none⟩),.pointer (some ⟨C,0,none⟩)],.int .i64 b,.pointer (some ⟨D,0,none⟩),vb,.int .i64 f.blocks.length,.int .i64 b,wp,.int .i64 (nth f.blocks b).phis.length,.int .i64 i])
   (fun _ i h9=>(vw h8).le (vw h9)/\uAll (phiU f m idom preds b) i = .ok ()) (nth f.blocks b).phis.length ()
   rfl (by omega) rfl ⟨View.le_refl _,rfl⟩ (fun _ _=>rfl) (fun v i h1 hk m=>by simp) ?_ ?_
  ·rintro _ i h9 hlti ⟨hle9,hpre9⟩ K3 hK3;have hst9:=jR hpre9;have her9 : ∀{t},phiU f m idom preds b i = .error t->blkU f m idom preds b = .error t:=fun e=>by rw[blkU,mS hpre9 hlti e];rfl
   have bp9:=bp.2.mono hle9;obtain⟨u9,hu9,hur9⟩:=bp9.wh rfl (N:=2) rfl hlti;refine ab fun y hy=>?_;simp(disch:=omega)[bp9.idxn (N:=2) rfl,hu9 _ (View.le_refl _)];refine dX (z:=.agg #[.int .i64 0,.slice none 0 0]) (by kernel_rfl) rfl (by kernel_rfl) hur9 (fun _=>by simp) (fun _=>by simp) fun h10 hle10 hsz10 hat10=>?_;obtain⟨_,wq,cq⟩:=yd (hat10 (vw h10) hle10 rfl);simp only[phiU]at hst9 her9;generalize nth (nth f.blocks b).phis i=x at cq hst9 her9;generalize h9.size=D10 at cq;have bq:=cq.2.bound
   subst hy;refine ab fun y hy=>?_;have hle610:=View.le_trans hle68 (View.le_trans hle9 hle10);have hp10:=hp6.mono hle610;have pr10:=pr.mono hle610;have hbase:(decide (0<b)&&decide ((x.ins.length:Int)=((nth preds b).length:Int)))=kr x (nth preds b) b:=rfl;simp(disch:=omega)[cq.1,cq.2.len,hp10.idx1 rfl,pc _ hle610,pr10.len];rw[hbase];subst hy;refine ab fun y hy=>?_;simp[cq.1,cq.2.len];refine aJ [1,5,7,8,9,10,11,12,54,55,56,62,63,64,83,84,85] (fun(_:Unit) j=>[.pointer (some ⟨B,0,none⟩),vp,.func (.func N.aQ) #[] #[.pointer (some ⟨B,0,none⟩),.pointer (some ⟨C,0,none⟩)],.int .i64 b,.pointer (some ⟨D,0,none⟩),.int .i64 i,.pointer (some ⟨D10,0,none⟩),
     .bool (kr x (nth preds b) b&&sD (xd x (nth preds b)) j),vb,.int .i64 f.blocks.length,.int .i64 b,wp,.int .i64 (nth f.blocks b).phis.length,.int .i64 i,wq,.int .i64 x.ins.length,.int .i64 j])
    (fun _ j h11=>(vw h10).le (vw h11)) x.ins.length ()
    rfl (by omega) (by simp[bF];intro _;rfl) (View.le_refl _) (fun _ _=>rfl) (fun v i h1 hk m=>by simp) ?_ ?_
   ·rintro _ j h11 hltj hle11 K4 hK4;have cq11:=cq.2.mono hle11;obtain⟨u11,hu11,hur11⟩:=cq11.wh rfl (N:=2) rfl hltj;refine ab fun q hq=>?_;simp(disch:=omega)[cq11.idxn (N:=2) rfl,hu11 _ (View.le_refl _)];refine dX (z:=.agg #[.int .i64 0,.int .i64 0]) (by kernel_rfl) rfl (by kernel_rfl) hur11 (fun _=>by simp) (fun _=>by simp) fun h12 hle12 hsz12 hat12=>?_;obtain⟨e0,e1⟩:=Al (hat12 (vw h12) hle12 rfl);generalize h11.size=D12 at e0 e1;subst hq;have hle612:=View.le_trans hle610 (View.le_trans hle11 hle12)
    have hp12:=hp6.mono hle612;have pr12:=pr.mono hle612;cases hfit:kr x (nth preds b) b&&sD (xd x (nth preds b)) j with
    | false=>simp;refine hK4 () _ _ rfl ?_ (View.le_trans hle11 hle12);rw[tC,<-Bool.and_assoc,hfit];rfl
    | true=>
     have hlen:x.ins.length=(nth preds b).length:=by simp only[KE,kr,decide_eq_true_eq]at hfit;omega
     simp(disch:=omega)[e0,hp12.idx1 rfl,pc _ hle612,pr12.idx1 rfl,pr12.int (View.le_refl _)];refine hK4 () _ _ rfl ?_ (View.le_trans hle11 hle12);rw[tC,<-Bool.and_assoc,hfit];rfl
   rintro _ h11 hle11;have hfs:(kr x (nth preds b) b&&sD (xd x (nth preds b)) x.ins.length)=yN x (nth preds b) b:=rfl;rw[hfs];simp;subst hy;refine ab fun y hy=>?_;simp(disch:=omega);have hle011:=View.le_trans hle06 (View.le_trans hle610 hle11)
   refine dT (by kernel_rfl) gR ?_ ?_;rotate_left
   ·rintro _ _ ⟨e,rfl,rfl⟩;exact⟨.inl rfl,hKp _ _ ⟨_,her (her9 (by rw[if_neg (by rw[e];simp)])),rfl,hle011⟩⟩
   rintro _ h11 ⟨efit,rfl⟩;rw[if_pos efit]at hst9;have her9' : ∀{t},uAll (fun j=>useS f.params m idom (nth x.ins j).val (nth x.ins j).frm (-1-i) (nth f.blocks (nth x.ins j).frm.toNat).ins.length b) x.ins.length = .error t->blkU f m idom preds b = .error t:=fun e=>her9 (by rw[if_pos efit];exact e);have hlen:x.ins.length=(nth preds b).length:=by simp only[KE,yN,kr,decide_eq_true_eq]at efit;omega
   have hfrm : ∀j,j<x.ins.length->0<=(nth x.ins j).frm/\(nth x.ins j).frm<f.blocks.length:=fun j hj=>by have h1:=Bw.1 (KE _ _▸efit:_/\_).2 j hj;simp only[xd,decide_eq_true_eq]at h1;rw[h1];exact hin b _ (cj (by omega))
   subst hy;have cq11:=cq.2.mono hle11;simp[ae hle11 cq.1,cq11.len];refine aJ [1,5,7,8,9,10,11,54,55,56,62,63,64,110,111,112] (fun(_:Unit) j=>[.pointer (some ⟨B,0,none⟩),vp,.func (.func N.aQ) #[] #[.pointer (some ⟨B,0,none⟩),.pointer (some ⟨C,0,none⟩)],.int .i64 b,.pointer (some ⟨D,0,none⟩),.int .i64 i,.pointer (some ⟨D10,0,none⟩),
     vb,.int .i64 f.blocks.length,.int .i64 b,wp,.int .i64 (nth f.blocks b).phis.length,.int .i64 i,wq,.int .i64 x.ins.length,.int .i64 j])
    (fun _ j h12=>(vw h11).le (vw h12)/\uAll (fun j=>useS f.params m idom (nth x.ins j).val (nth x.ins j).frm (-1-i) (nth f.blocks (nth x.ins j).frm.toNat).ins.length b) j = .ok ()) x.ins.length ()
    rfl (by omega) rfl ⟨View.le_refl _,rfl⟩ (fun _ _=>rfl) (fun v i h1 hk m=>by simp) ?_ ?_
   ·rintro _ j h12 hltj ⟨hle12,hpre12⟩ K4 hK4;have hst12:=jR hpre12;have cq12:=cq11.mono hle12;obtain⟨u12,hu12,hur12⟩:=cq12.wh rfl (N:=2) rfl hltj;refine ab fun q hq=>?_;simp(disch:=omega)[cq12.idxn (N:=2) rfl,hu12 _ (View.le_refl _)];refine dX (z:=.agg #[.int .i64 0,.int .i64 0]) (by kernel_rfl) rfl (by kernel_rfl) hur12 (fun _=>by simp) (fun _=>by simp) fun h13 hle13 hsz13 hat13=>?_;obtain⟨e0,e1⟩:=Al (hat13 (vw h13) hle13 rfl);generalize h12.size=D13 at e0 e1;have hf:=hfrm j hltj
    generalize hxj:nth x.ins j=w at e0 e1 hst12 hf;subst hq;have hle613:=View.le_trans hle610 (View.le_trans hle11 (View.le_trans hle12 hle13));have k13:=k6.ext hle613;have rb13:=k13.rb.mono cS;have h513:=ae hle613 h56;obtain⟨ul,hul⟩:=(((rb13.at (i:=w.frm.toNat) (by omega)).part BlkD.lV)).sl;rw[<-az (by omega)]at hul;have hul1:aj (vw h13) (((slA vb).add (w.frm.toNat*6)).add 1)=some ul:=hul.1;refine aS (vw h13) (View.le_refl _) ?_;simp(disch:=omega)[e0,e1,h513,ae cS k13.c1,rb13.idxn (N:=6) rfl,hul1,hul.2.len];refine rH (ops:=[.tmp 118,.tmp 120,.tmp 122,.tmp 133,.tmp 134]) rfl (by kernel_rfl) (AI k13 h513 (ae hle613 hvd) (hd6.mono hle613)) ?_ ?_
    ·rintro _ h14 ⟨e,hle14⟩;exact hK4 () _ _ rfl rfl ⟨View.le_trans hle12 (View.le_trans hle13 hle14),by rw[hst12];exact e⟩
    rintro _ h14 ⟨t,e,rfl,hle14⟩;exact⟨.inr fun _=>trivial,hKp _ _ ⟨t,her (her9' (mS hpre12 hltj (by rw[hxj];exact e))),rfl,View.le_trans hle06 (View.le_trans hle613 hle14)⟩⟩
   rintro _ h12 ⟨hle12,hpre12⟩;simp;exact hK3 () _ _ rfl rfl ⟨View.le_trans hle9 (View.le_trans hle10 (View.le_trans hle11 hle12)),by rw[hst9];exact hpre12⟩
  rintro _ h9 ⟨hle9,hpre9⟩;have hbu:blkU f m idom preds b=andE (uAll (insU f m idom b) (nth f.blocks b).ins.length) (endU f m idom b):=by rw[blkU,hpre9];rfl
  rw[hbu]at hst her;simp;subst hz;refine ab fun z hz=>?_;have bi9:=bi.2.mono hle9;simp[ae hle9 bi.1,bi9.len];refine aJ [1,5,7,8,9,54,55,56,139,140,141] (fun(_:Unit) i=>[.pointer (some ⟨B,0,none⟩),vp,.func (.func N.aQ) #[] #[.pointer (some ⟨B,0,none⟩),.pointer (some ⟨C,0,none⟩)],.int .i64 b,.pointer (some ⟨D,0,none⟩),vb,.int .i64 f.blocks.length,.int .i64 b,wi,.int .i64 (nth f.blocks b).ins.length,.int .i64 i])
   (fun _ i h10=>(vw h9).le (vw h10)/\uAll (insU f m idom b) i = .ok ()) (nth f.blocks b).ins.length ()
   rfl (by omega) rfl ⟨View.le_refl _,rfl⟩ (fun _ _=>rfl) (fun v i h1 hk m=>by simp) ?_ ?_
  ·rintro _ i h10 hlti ⟨hle10,hpre10⟩ K3 hK3;have hst10:=jR hpre10;have her10 : ∀{t},insU f m idom b i = .error t->uAll (blkU f m idom preds) f.blocks.length = .error t:=fun e=>her (by rw[mS hpre10 hlti e];rfl);have bi10:=bi9.mono hle10
   obtain⟨u10,hu10,hur10⟩:=bi10.wh rfl (N:=5) rfl hlti;refine ab fun y hy=>?_;simp(disch:=omega)[bi10.idxn (N:=5) rfl,hu10 _ (View.le_refl _)];refine dX (z:=.agg #[.int .i64 0,.int .i64 0,.int .i64 0,.slice none 0 0,.int .i32 0]) (by kernel_rfl) rfl (by kernel_rfl) hur10 (fun _=>by simp) (fun _=>by simp) fun h11 hle11 hsz11 hat11=>?_;obtain⟨_,_,_,wq,cq⟩:=kP (hat11 (vw h11) hle11 rfl);rw[insU]at hst10 her10;generalize nth (nth f.blocks b).ins i=x at cq hst10 her10;generalize h10.size=D11 at cq;have bq:=cq.2.bound;subst hy;simp[cq.1,cq.2.len];refine aJ [1,5,7,8,9,17,54,55,56,139,140,141,147,148,149] (fun(_:Unit) j=>[.pointer (some ⟨B,0,none⟩),vp,.func (.func N.aQ) #[] #[.pointer (some ⟨B,0,none⟩),.pointer (some ⟨C,0,none⟩)],.int .i64 b,.pointer (some ⟨D,0,none⟩),.int .i64 i,vb,.int .i64 f.blocks.length,.int .i64 b,wi,.int .i64 (nth f.blocks b).ins.length,.int .i64 i,wq,.int .i64 x.args.length,.int .i64 j])
    (fun _ j h12=>(vw h11).le (vw h12)/\uAll (fun j=>useS f.params m idom (nth x.args j) b i i b) j = .ok ()) x.args.length ()
    rfl (by omega) rfl ⟨View.le_refl _,rfl⟩ (fun _ _=>rfl) (fun v i h1 hk m=>by simp) ?_ ?_
   ·rintro _ j h12 hltj ⟨hle12,hpre12⟩ K4 hK4;have hst12:=jR hpre12;have cq12:=cq.2.mono hle12;have hle612:=View.le_trans hle68 (View.le_trans hle9 (View.le_trans hle10 (View.le_trans hle11 hle12)));have k12:=k6.ext hle612;have h512:=ae hle612 h56;simp(disch:=omega)[cq12.idx1 rfl,cq12.int (View.le_refl _)];refine rH (ops:=[.tmp 154,.tmp 155,.tmp 156,.tmp 157,.tmp 158]) rfl (by kernel_rfl) (AI k12 h512 (ae hle612 hvd) (hd6.mono hle612)) ?_ ?_
    ·rintro _ h14 ⟨e,hle14⟩;exact hK4 () _ _ rfl rfl ⟨View.le_trans hle12 hle14,by rw[hst12];exact e⟩
    rintro _ h14 ⟨t,e,rfl,hle14⟩;exact⟨.inl rfl,hKp _ _ ⟨t,her10 (mS hpre12 hltj e),rfl,View.le_trans hle06 (View.le_trans hle612 hle14)⟩⟩
   rintro _ h12 ⟨hle12,hpre12⟩;simp;exact hK3 () _ _ rfl rfl ⟨View.le_trans hle10 (View.le_trans hle11 hle12),by rw[hst10];exact hpre12⟩
  rintro _ h10 ⟨hle10,hpre10⟩;have hbu2:andE (uAll (insU f m idom b) (nth f.blocks b).ins.length) (endU f m idom b)=endU f m idom b:=by rw[hpre10];rfl
  rw[hbu2]at hst her;rw[endU]at hst her;simp;subst hz;have ba10:=ba.2.mono (View.le_trans hle9 hle10);have ca10:=ae (View.le_trans hle9 hle10) ba.1;have bi10:=bi9.mono hle10;have ci10:=ae (View.le_trans hle9 hle10) bi.1;simp[ca10,ba10.len];refine aJ [1,5,7,8,9,54,55,56,164,165,166] (fun(_:Unit) j=>[.pointer (some ⟨B,0,none⟩),vp,.func (.func N.aQ) #[] #[.pointer (some ⟨B,0,none⟩),.pointer (some ⟨C,0,none⟩)],.int .i64 b,.pointer (some ⟨D,0,none⟩),vb,.int .i64 f.blocks.length,.int .i64 b,wa,.int .i64 (nth f.blocks b).term.args.length,.int .i64 j])
   (fun _ j h12=>(vw h10).le (vw h12)/\uAll (fun j=>useS f.params m idom (nth (nth f.blocks b).term.args j) b (nth f.blocks b).ins.length (nth f.blocks b).ins.length b) j = .ok ()) (nth f.blocks b).term.args.length ()
   rfl (by omega) rfl ⟨View.le_refl _,rfl⟩ (fun _ _=>rfl) (fun v i h1 hk m=>by simp) ?_ ?_
  ·rintro _ j h12 hltj ⟨hle12,hpre12⟩ K4 hK4;have hst12:=jR hpre12;have ba12:=ba10.mono hle12;have bi12:=bi10.mono hle12;have ci12:=ae hle12 ci10;have hle612:=View.le_trans hle68 (View.le_trans hle9 (View.le_trans hle10 hle12));have k12:=k6.ext hle612;have h512:=ae hle612 h56;simp(disch:=omega)[ba12.idx1 rfl,ba12.int (View.le_refl _),ci12,bi12.len];refine rH (ops:=[.tmp 171,.tmp 172,.tmp 175,.tmp 178,.tmp 179]) rfl (by kernel_rfl) (AI k12 h512 (ae hle612 hvd) (hd6.mono hle612)) ?_ ?_
   ·rintro _ h14 ⟨e,hle14⟩;exact hK4 () _ _ rfl rfl ⟨View.le_trans hle12 hle14,by rw[hst12];exact e⟩
   rintro _ h14 ⟨t,e,rfl,hle14⟩;exact⟨.inl rfl,hKp _ _ ⟨t,her (mS hpre12 hltj e),rfl,View.le_trans hle06 (View.le_trans hle612 hle14)⟩⟩
  rintro _ h12 ⟨hle12,hpre12⟩;simp;exact hK2 () _ _ rfl rfl ⟨View.le_trans hle7 (View.le_trans hle8 (View.le_trans hle9 (View.le_trans hle10 hle12))),by rw[hst];exact hpre12⟩
 rintro _ h7 ⟨hle7,hpre⟩;simp;exact hK _ _ ⟨hpre,View.le_trans hle06 hle7⟩
end
section
open Go Go.Lft
def EB (t:Tr):FrameMode:=.panicking [{ v:=.iface T.fX (.agg #[.int .i64 t.1,.int .i64 t.2.1,.int .i64 t.2.2]),recovered:=true }]
theorem Eo{a b c:Nat}{t:Tr}{h:Heap}{ra rb rc:Array Value}{ea eb ec:TypeId}(ha:h[a]? = some (.cells ra ea (0,0)))(hb:h[b]? = some (.cells rb eb (0,0)))(hc:h[c]? = some (.cells rc ec (0,0)))(sa:ra.size=1)(sb:rb.size=1)(sc:rc.size=1)(hab:a≠b)(hac:a≠c)(hbc:b≠c):pU Tryz.prog N.cR #[.pointer (some ⟨a,0,none⟩),.pointer (some ⟨b,0,none⟩),.pointer (some ⟨c,0,none⟩)] (.panicking (trV t)) h
   (fun u' h'=>u'=EB t/\h'[a]? = some (.cells #[.int .i64 t.1] ea (0,0))/\h'[b]? = some (.cells #[.int .i64 t.2.1] eb (0,0))/\h'[c]? = some (.cells #[.int .i64 t.2.2] ec (0,0))/\h.size<=h'.size/\∀k,k<h.size->k≠a->k≠b->k≠c->h'[k]? = h[k]?):=by
 refine nL (args:=[.pointer (some ⟨a,0,none⟩),.pointer (some ⟨b,0,none⟩),.pointer (some ⟨c,0,none⟩)]) (t:=6) (L:=L.cR.body.tail) (tys:=#[]) follows F.cR Q.cR (by kernel_rfl) (by kernel_rfl) (by kernel_rfl) (Kw (by kernel_rfl)) E.nX (by kernel_rfl) (by kernel_rfl) (Kw (by kernel_rfl)) ?_;have ala:a<h.size:=(KC.1 ha).1;have alb:b<h.size:=(KC.1 hb).1;have alc:c<h.size:=(KC.1 hc).1;have hrec:jz (.panicking (trV t))=(.iface T.fX (.agg #[.int .i64 t.1,.int .i64 t.2.1,.int .i64 t.2.2]),EB t):=rfl;rw[hrec];simp[L.cR,LC.tail];refine zF (ms:=#[]) (by kernel_rfl) rfl (.inr ⟨_,_,rfl,rfl⟩) ?_;simp;refine CA (d:=(Tryz.prog.underlying T.fX).getD .bool) (by kernel_rfl) (by kernel_rfl) rfl ?_;simp;refine gS (n:=3) (z:=.agg #[.int .i64 0,.int .i64 0,.int .i64 0]) (v:=.agg #[.int .i64 t.1,.int .i64 t.2.1,.int .i64 t.2.2]) (by kernel_rfl) rfl (by kernel_rfl) rfl (by simp[Value.oneCell']) (fun _=>by simp) (fun _=>by simp) fun h1 hle1 hs1 hb1=>?_;generalize hD:h.size=D at hb1 hs1;obtain⟨H,hH⟩ : ∃H:View,H=fun k=>if k=D then h1[k]? else none:=⟨_,rfl⟩;have hHle : ∀h2:Heap,h2[D]? = h1[D]?->H.le (vw h2):=fun h2 e k o hk=>by
  rw[hH]at hk;simp only at hk;split at hk
  ·rename_i e2;subst e2;show h2[_]? = _;rw[e];exact hk
  cases hk
 have hHD:H D=some (.cells #[.int .i64 t.1,.int .i64 t.2.1,.int .i64 t.2.2] T.fX (0,0)):=by rw[hH];simp only[if_true];exact hb1
 have d0:aj H ⟨D,0,none⟩=some (.int .i64 t.1):=dc hHD rfl;have d1:aj H ⟨D,1,none⟩=some (.int .i64 t.2.1):=dc hHD rfl;have d2:aj H ⟨D,2,none⟩=some (.int .i64 t.2.2):=dc hHD rfl;refine aS H (hHle h1 rfl) ?_;simp[d0,d1,d2];refine eX (g:=a) (o:=0) (n:=1) (v:=.int .i64 t.1) (by kernel_rfl) rfl rfl rfl (by simp[Value.oneCell']) (hle1 _ _ ha) (by omega) fun h2 hs2 ⟨row2,hr2,he2⟩ ho2=>?_;refine⟨hHle h2 (ho2 D (by omega)),?_⟩;refine eX (g:=b) (o:=0) (n:=1) (v:=.int .i64 t.2.1) (by kernel_rfl) rfl rfl rfl (by simp[Value.oneCell']) ((ho2 b (Ne.symm hab)).trans (hle1 _ _ hb)) (by omega) fun h3 hs3 ⟨row3,hr3,he3⟩ ho3=>?_;refine⟨hHle h3 ((ho3 D (by omega)).trans (ho2 D (by omega))),?_⟩;refine eX (g:=c) (o:=0) (n:=1) (v:=.int .i64 t.2.2) (by kernel_rfl) rfl rfl rfl (by simp[Value.oneCell']) ((ho3 c (Ne.symm hbc)).trans ((ho2 c (Ne.symm hac)).trans (hle1 _ _ hc))) (by omega) fun h4 hs4 ⟨row4,hr4,he4⟩ ho4=>?_;have one : ∀{row r:Array Value} {v:Value},v.cells = #[v]->r.size=1->row.toList=r.toList.take 0++v.cells.toList++r.toList.drop (0+1)->row = #[v]:=by intro row r v hv hr he;rw[<-Array.toList_inj,he,hv,MR,Lr,K9 (by simp[hr])];simp
 rw[one rfl sa he2]at hr2;rw[one rfl sb he3]at hr3;rw[one rfl sc he4]at hr4;refine⟨?_,?_,hr4,by omega,fun k hk h1' h2' h3'=>?_⟩
 ·rw[ho4 a hac,ho3 a hab];exact hr2
 ·rw[ho4 b hbc];exact hr3
 rw[ho4 k h3',ho3 k h2',ho2 k h1'];exact(hle1 k h[k] (KO (by omega))).trans (KO (by omega)).symm
theorem AV{a b c:Nat}{h:Heap}:pU Tryz.prog N.cR #[.pointer (some ⟨a,0,none⟩),.pointer (some ⟨b,0,none⟩),.pointer (some ⟨c,0,none⟩)] .returning h (fun u' h'=>u' = .returning/\h'=h):=by refine nL (args:=[.pointer (some ⟨a,0,none⟩),.pointer (some ⟨b,0,none⟩),.pointer (some ⟨c,0,none⟩)]) (t:=6) (L:=L.cR.body.tail) (tys:=#[]) follows F.cR Q.cR (by kernel_rfl) (by kernel_rfl) (by kernel_rfl) (Kw (by kernel_rfl)) E.nX (by kernel_rfl) (by kernel_rfl) (Kw (by kernel_rfl)) ?_;have hrec:jz .returning=(.nilIface,.returning):=rfl;rw[hrec];simp[L.cR,LC.tail];refine zF (ms:=#[]) (by kernel_rfl) rfl (.inl ⟨rfl,rfl⟩) ?_;simp
def manyN (f:ak) (k:Nat):Int:=up (fun i n=>n+(((nth f.blocks i).phis.length:Int)+(nth f.blocks i).ins.length)) k f.blocks.length
def Bp (f:ak):Int:=manyN f f.blocks.length
def py (g:Gr):List Int:=(vY g (g.length*g.length+1)).getD []
def wT (f:ak):Except Tr MW->Except Tr Unit
 | .error t=>.error t
 | .ok m=>qy f m (py (ofG f.blocks))
def lD (f:ak):Except Tr Unit:=
 if cg f.params 0 4=false then .error (1,0,0)
 else if f.blocks.length=0 then .error (14,0,0)
 else if ¬(f.blocks.length<=512/\Bp f<=4096) then .error (2,0,0)
 else wT f (lf f (fun _=>none))
def kq (f:ak):Tr:=match lD f with
 | .ok _=>(0,0,0)
 | .error t=>t
theorem F9{f:ak}{k:Nat}:0<=manyN f k:=by
 unfold manyN;induction k with
 | zero=>simp[up]
 | succ k ih=>rw[up];omega
theorem ES{f:ak}{m m':MW}(h:lf f m = .ok m'): ∀i,i<f.blocks.length->(nth f.blocks i).term.to.length<=65:=by
 intro i hi;have key : ∀n,n<=f.blocks.length->∃s,upE (blkS f) n m = .ok s:=fun n hn=>by
  cases e:upE (blkS f) n m with
  | ok s=>exact⟨s,rfl⟩
  | error t=>rw[lf,yl hn e]at h;cases h
 obtain⟨s,hs⟩:=key i (by omega);obtain⟨s',hs'⟩:=key (i+1) hi;rw[mF hs,blkS]at hs';split at hs'
 ·cases hs'
 split at hs'
 ·cases hs'
 rw[endS]at hs';split at hs'
 ·rename_i hok;rw[nU]at hok;split at hok
  ·rename_i sh hsh;simp only[cg,KE,decide_eq_true_eq]at hok;have:sh.2.2.2<=65:=by
    simp only[gh,putM]at hsh;repeat' (split at hsh)
    all_goals first | (cases hsh;done) | (cases hsh;decide)
   omega
  cases hok
 cases hs'
end
section
open Go Go.Lft
theorem DI{g:Gr}(hg:0<g.length):vY g (g.length*g.length+1)=some (py g):=by obtain⟨_,_,l,hl,_⟩:=wA hg;rw[py,hl];rfl
theorem one_cell{row r:Array Value}{v:Value}(hv:v.cells = #[v])(hr:r.size=1)(he:row.toList=r.toList.take 0++v.cells.toList++r.toList.drop (0+1)):row = #[v]:=by rw[<-Array.toList_inj,he,hv,MR,Lr,K9 (by simp[hr])];simp
structure SmB (x:BlkD):Prop where
 phis:x.phis.length<=10000
 ins:x.ins.length<=10000
 args:x.term.args.length<=10000
 to:x.term.to.length<=10000
 phi : ∀i,i<x.phis.length->(nth x.phis i).ins.length<=10000
 inn : ∀i,i<x.ins.length->(nth x.ins i).args.length<=10000
structure SmF (f:ak):Prop where
 len:f.blocks.length<=10000
 blk : ∀i,i<f.blocks.length->SmB (nth f.blocks i)
theorem FW{f:ak}{v:Value}{h:Heap}(hv:Rd (vw h) v f)(hsm:SmF f):
  aw Tryz.prog N.fW #[v] h (fun u h'=>u = .tuple #[.int .i64 (kq f).1,.int .i64 (kq f).2.1,.int .i64 (kq f).2.2]/\(vw h).le (vw h')):=by
 refine pj (args:=[v]) (g:=N.cR) (t:=9) (capops:=#[.tmp 2,.tmp 3,.tmp 4]) (tys:=#[])
  (Mid:=fun ρ hh=>ρ=[(0,v),(1,.pointer (some ⟨h.size,0,none⟩)),(2,.pointer (some ⟨h.size+1,0,none⟩)),(3,.pointer (some ⟨h.size+2,0,none⟩)),(4,.pointer (some ⟨h.size+3,0,none⟩))]/\hh.size=h.size+4/\(vw h).le (vw hh)/\At (vw hh) ⟨h.size,0,none⟩ f/\
   hh[h.size+1]? = some (.cells #[.int .i64 0] T.mL (0,0))/\hh[h.size+2]? = some (.cells #[.int .i64 0] T.int (0,0))/\hh[h.size+3]? = some (.cells #[.int .i64 0] T.int (0,0)))
  follows F.fW B.fW (by kernel_rfl) (by kernel_rfl) (by kernel_rfl) (by kernel_rfl) (by kernel_rfl) (by kernel_rfl) (Kw (by kernel_rfl)) (by kernel_rfl) E.kc (by kernel_rfl) E.gH (by kernel_rfl) R.vQ (Kw (by kernel_rfl)) ?_ ?_
 ·simp[L.kc];refine iG rfl hv fun h1 e1 hle1 hs1 hat=>?_;refine dS (z:=.int .i64 0) (by kernel_rfl) ?_;refine dS (z:=.int .i64 0) (by kernel_rfl) ?_;refine dS (z:=.int .i64 0) (by kernel_rfl) ?_;have q1:=bM h1 (.cells (Value.int .i64 0).cells T.mL);generalize e2:h1.push (.cells (Value.int .i64 0).cells T.mL)=h2 at q1;have b2:h2[h1.size]? = some (.cells #[.int .i64 0] T.mL (0,0)):=by rw[<-e2];simp
  have s2:h2.size=h1.size+1:=by rw[<-e2];simp
  have q2:=bM h2 (.cells (Value.int .i64 0).cells T.int);generalize e3:h2.push (.cells (Value.int .i64 0).cells T.int)=h3 at q2;have b3:h3[h2.size]? = some (.cells #[.int .i64 0] T.int (0,0)):=by rw[<-e3];simp
  have s3:h3.size=h2.size+1:=by rw[<-e3];simp
  have q3:=bM h3 (.cells (Value.int .i64 0).cells T.int);generalize e4:h3.push (.cells (Value.int .i64 0).cells T.int)=h4 at q3;have b4:h4[h3.size]? = some (.cells #[.int .i64 0] T.int (0,0)):=by rw[<-e4];simp
  have s4:h4.size=h3.size+1:=by rw[<-e4];simp
  have hsz:h1.size=h.size+1:=hs1;have e22:h2.size=h.size+2:=by omega
  have e32:h3.size=h.size+3:=by omega
  rw[hsz]at b2;rw[e22]at b3;rw[e32]at b4;rw[e22,e32,hsz];simp;exact⟨by omega,View.le_trans hle1 (View.le_trans q1 (View.le_trans q2 q3)),hat.mono (View.le_trans q1 (View.le_trans q2 q3)),q3 _ _ (q2 _ _ b2),q3 _ _ b3,b4⟩
 rintro ρ hh ⟨rfl,hs,hle,hat,hb1,hb2,hb3⟩;refine⟨[.pointer (some ⟨h.size+1,0,none⟩),.pointer (some ⟨h.size+2,0,none⟩),.pointer (some ⟨h.size+3,0,none⟩)],by simp[qo],
  ⟨fun ch h2=>∃t,lD f = .error t/\ch=trV t/\(vw hh).le (vw h2),fun ρ=>Lft.look ρ 2=some (.pointer (some ⟨h.size+1,0,none⟩))/\Lft.look ρ 3=some (.pointer (some ⟨h.size+2,0,none⟩))/\Lft.look ρ 4=some (.pointer (some ⟨h.size+3,0,none⟩))⟩,?_,?_⟩;rotate_left
 ·rintro ch ρ2 h2 ⟨t,ht,rfl,hle2⟩ ⟨l2,l3,l4⟩;refine⟨_,Eo (hle2 _ _ hb1) (hle2 _ _ hb2) (hle2 _ _ hb3) rfl rfl rfl (by omega) (by omega) (by omega),?_⟩;rintro u' h3 ⟨rfl,g1,g2,g3,gs,go⟩;have c1:aj (vw h3) ⟨h.size+1,0,none⟩=some (.int .i64 t.1):=dc (show vw h3 _=_ from g1) rfl;have c2:aj (vw h3) ⟨h.size+2,0,none⟩=some (.int .i64 t.2.1):=dc (show vw h3 _=_ from g2) rfl;have c3:aj (vw h3) ⟨h.size+3,0,none⟩=some (.int .i64 t.2.2):=dc (show vw h3 _=_ from g3) rfl;refine⟨rfl,[.int .i64 t.1,.int .i64 t.2.1,.int .i64 t.2.2],by simp[R.fW,l2,l3,l4,c1,c2,c3],?_⟩;refine⟨by simp[kq,ht],fun b o hb=>?_⟩;have hlt:=View.lt (View.le_refl (vw h)) hb;show h3[b]? = _;have hb2':=hle2 _ _ (hle _ _ hb);have hlt2:=View.lt (View.le_refl (vw h2)) hb2';rw[go b hlt2 (by omega) (by omega) (by omega)];exact hb2'
 obtain⟨cp,vb,cb⟩:=jE hat;have hbb:=cb.2.bound;have bad : ∀{t:Tr} {ch:List PanicEntry} {h2:Heap},lD f = .error t->ch=trV t->(vw hh).le (vw h2)->∃t,lD f = .error t/\ch=trV t/\(vw hh).le (vw h2):=fun a b c=>⟨_,a,b,c⟩;simp only[lu,C7];dsimp only[L.gH];refine ab fun z hz=>?_;simp[cp];refine af (by kernel_rfl) jV ?_;rintro _ _ ⟨rfl,rfl⟩;refine dT (by kernel_rfl) gR ?_ ?_;rotate_left
 ·rintro _ _ ⟨e,rfl,rfl⟩;exact⟨.inl rfl,bad (by rw[lD,if_pos e]) rfl (View.le_refl _)⟩
 rintro _ hh ⟨e1,rfl⟩;have e1':¬cg f.params 0 4=false:=by rw[e1];simp
 subst hz;refine ab fun z hz=>?_;simp[cb.1,cb.2.len];refine dT (by kernel_rfl) gR ?_ ?_;rotate_left
 ·rintro _ _ ⟨e,rfl,rfl⟩;exact⟨.inl rfl,bad (by rw[lD,if_neg e1',if_pos (by simpa using e)]) rfl (View.le_refl _)⟩
 rintro _ hh ⟨e2,rfl⟩;have e2':¬f.blocks.length=0:=by intro e;rw[e]at e2;simp at e2
 subst hz;refine ab fun z hz=>?_;simp[cb.1,cb.2.len];subst hz;refine ab fun z hz=>?_;simp[cb.1,cb.2.len];refine aJ [1,2,3,4,5,23,24,25] (fun(_:Unit) k=>[.pointer (some ⟨h.size,0,none⟩),.pointer (some ⟨h.size+1,0,none⟩),.pointer (some ⟨h.size+2,0,none⟩),.pointer (some ⟨h.size+3,0,none⟩),.int .i64 (manyN f k),vb,.int .i64 f.blocks.length,.int .i64 k])
  (fun _ k h1=>(vw hh).le (vw h1)/\manyN f k<=f.blocks.length+k*2000000) f.blocks.length ()
  rfl (by omega) rfl ⟨View.le_refl _,by simp[manyN,up]⟩ (fun _ _=>rfl) (fun v i h1 hk m=>by simp) ?_ ?_
 ·rintro _ k h1 hlt ⟨hle1,hmk⟩ K2 hK2;have cb1:=cb.2.mono hle1;obtain⟨u,hu,hur⟩:=cb1.wh rfl (N:=6) rfl hlt;refine ab fun y hy=>?_;simp(disch:=omega)[cb1.idxn (N:=6) rfl,hu _ (View.le_refl _)];refine dX (z:=.agg #[.slice none 0 0,.slice none 0 0,.int .i64 0,.slice none 0 0,.slice none 0 0,.int .i32 0]) (by kernel_rfl) rfl (by kernel_rfl) hur (fun _=>by simp) (fun _=>by simp) fun h2 hle2 hsz2 hat2=>?_;obtain⟨vp,vi,va,vt,bp,bi,_⟩:=kl (hat2 (vw h2) hle2 rfl);have bph:=bp.2.bound
  have bih:=bi.2.bound;have hm1:manyN f (k+1)=manyN f k+(((nth f.blocks k).phis.length:Int)+(nth f.blocks k).ins.length):=rfl;have h0:=F9 (f:=f) (k:=k);subst hy;simp[bp.1,bp.2.len,bi.1,bi.2.len];have s1:=(hsm.blk k hlt).phis;have s2:=(hsm.blk k hlt).ins;have s0:=hsm.len;rw[bE (a:=((nth f.blocks k).phis.length:Int)+(nth f.blocks k).ins.length) (by omega) (by omega),bE (by omega) (by omega)];exact hK2 () _ _ rfl (by rw[hm1];rfl) ⟨View.le_trans hle1 hle2,by rw[hm1];omega⟩
 rintro _ h1 ⟨hle1,hmk⟩;simp;subst hz;refine ab fun z hz=>?_;have cb1:=cb.2.mono hle1;have cc1:=ae hle1 cb.1;have cp1:=ae hle1 cp;simp[cc1,cb1.len];have hms:manyN f f.blocks.length=Bp f:=rfl;rw[hms];refine dT (by kernel_rfl) gR ?_ ?_;rotate_left
 ·rintro _ _ ⟨e,rfl,rfl⟩;refine⟨.inl rfl,bad ?_ rfl hle1⟩;rw[lD,if_neg e1',if_neg e2',if_pos];intro e3;simp at e;omega
 rintro _ h1 ⟨e3,rfl⟩;have e3':¬¬(f.blocks.length<=512/\Bp f<=4096):=by simp at e3;omega
 have hchk:lD f=wT f (lf f (fun _=>none)):=by rw[lD,if_neg e1',if_neg e2',if_neg e3']
 subst hz;refine ab fun z hz=>?_;simp[EC cp1 cc1];refine lg ?_;have hle2:=bM h1 (.map #[] 0);have hm2:dL (.int .i64) (h1.push (.map #[] 0)) h1.size (mapE encW fun _=>none):=by rw[oU];exact dL.none (by simp)
 have hs2:(h1.push (.map #[] 0)).size=h1.size+1:=by simp
 generalize h1.push (.map #[] 0)=h2 at hle2 hm2 hs2;refine aq (z:=.agg #[.int .i64 0,.slice none 0 0,.map none]) (places:=[(0,2),(2,1)]) (vs:=[(0,.agg #[.int .i64 f.params,vb]),(1,.map (some h1.size))]) (cs:=#[.int .i64 f.params,vb,.map (some h1.size)]) (by kernel_rfl) (by kernel_rfl) (by simp) (by rfl) ?_;refine dy (v:=.agg #[.int .i64 f.params,vb,.map (some h1.size)]) rfl ?_;have hle3:=bM h2 (.cells (Value.cells (.agg #[.int .i64 f.params,vb,.map (some h1.size)])) T.iC);have hbk:(h2.push (.cells (Value.cells (.agg #[.int .i64 f.params,vb,.map (some h1.size)])) T.iC))[h2.size]? = some (.cells #[.int .i64 f.params,vb,.map (some h1.size)] T.iC (0,0)):=by simp
 have hs3:(h2.push (.cells (Value.cells (.agg #[.int .i64 f.params,vb,.map (some h1.size)])) T.iC)).size=h2.size+1:=by simp
 generalize h2.push (.cells (Value.cells (.agg #[.int .i64 f.params,vb,.map (some h1.size)])) T.iC)=h3 at hle3 hbk hs3;subst hz;have hsk:skip h1.size h3 h2.size=some (.cells #[.int .i64 f.params,vb,.map (some h1.size)] T.iC (0,0)):=by rw[lH (by omega)];exact hbk
 have hle13:=View.le_trans hle2 hle3;have hle1k:(vw h1).le (skip h1.size h3):=fun b o hb=>by have hlt:=View.lt (View.le_refl (vw h1)) hb;rw[lH (by omega)];exact hle13 b o hb
 have k3:Lk h3 h2.size h1.size vb f (fun _=>none):=⟨dc hsk rfl,dc hsk rfl,dc hsk rfl,cb1.mono hle1k,hm2.ext hle3⟩;generalize h2.size=Kb at k3;generalize hr:h1.size=r at k3;have hkk : ∀{h':Heap},Kept h3 h' (some r)->(vw hh).le (vw h'):=fun kp b o hb=>by have h1b:=hle1 b o hb;have hlt:=View.lt (View.le_refl (vw h1)) h1b;have h3b:=hle13 b o h1b;have hlt3:=View.lt (View.le_refl (vw h3)) h3b;show _=_;exact(kp.block b hlt3 (by simp;omega)).trans h3b
 refine ab fun z hz=>?_;simp;refine dT (by kernel_rfl) (Dv k3) ?_ ?_;rotate_left
 ·rintro _ h4 ⟨t,ht,rfl,kp4⟩;exact⟨.inl rfl,bad (by rw[hchk,ht];rfl) rfl (hkk kp4)⟩
 rintro _ h4 ⟨m4,hm4,k4,kp4⟩;have hto:=ES hm4;rw[hm4]at hchk;have hchk:lD f=qy f m4 (py (ofG f.blocks)):=hchk;subst hz;refine ab fun z hz=>?_;simp;have hgl:(ofG f.blocks).length=f.blocks.length:=by simp[ofG]
 refine dT (by kernel_rfl) (Gl k4 (KU hsm.len (by decide)) (fun i hi=>KU (hto i hi) (by decide)) (DI (by omega))) ?_ ?_;rotate_left
 ·rintro _ h5 ⟨t,ht,rfl,hle5⟩;exact⟨.inl rfl,bad (by rw[hchk,ht]) rfl (View.le_trans (hkk kp4) hle5)⟩
 rintro _ h5 ⟨hus,hle5⟩;have hle05:=View.le_trans (hkk kp4) hle5;subst hz;simp;refine eX (g:=h.size+1) (o:=0) (n:=1) (v:=.int .i64 0) (by kernel_rfl) rfl rfl rfl (by simp[Value.oneCell']) (hle05 _ _ hb1) (by simp) fun h6 hs6 ⟨row6,hr6,he6⟩ ho6=>?_;refine eX (g:=h.size+2) (o:=0) (n:=1) (v:=.int .i64 0) (by kernel_rfl) rfl rfl rfl (by simp[Value.oneCell']) ((ho6 _ (by omega)).trans (hle05 _ _ hb2)) (by simp) fun h7 hs7 ⟨row7,hr7,he7⟩ ho7=>?_;refine eX (g:=h.size+3) (o:=0) (n:=1) (v:=.int .i64 0) (by kernel_rfl) rfl rfl rfl (by simp[Value.oneCell']) ((ho7 _ (by omega)).trans ((ho6 _ (by omega)).trans (hle05 _ _ hb3))) (by simp) fun h8 hs8 ⟨row8,hr8,he8⟩ ho8=>?_;rw[one_cell rfl rfl he6]at hr6;rw[one_cell rfl rfl he7]at hr7;rw[one_cell rfl rfl he8]at hr8;refine⟨_,AV,?_⟩;rintro u' h9 ⟨rfl,rfl⟩;have c1:aj (vw h9) ⟨h.size+1,0,none⟩=some (.int .i64 0):=dc (show vw h9 _=_ from(ho8 _ (by omega)).trans ((ho7 _ (by omega)).trans hr6)) rfl
 have c2:aj (vw h9) ⟨h.size+2,0,none⟩=some (.int .i64 0):=dc (show vw h9 _=_ from(ho8 _ (by omega)).trans hr7) rfl;have c3:aj (vw h9) ⟨h.size+3,0,none⟩=some (.int .i64 0):=dc (show vw h9 _=_ from hr8) rfl;refine⟨rfl,[.int .i64 0,.int .i64 0,.int .i64 0],by simp[R.fW,c1,c2,c3],?_⟩;have htold:kq f=(0,0,0):=by rw[kq,hchk,hus]
 refine⟨by simp[htold],fun b o hb=>?_⟩;have hlt:=View.lt (View.le_refl (vw h)) hb;show h9[b]? = _;rw[ho8 b (by omega),ho7 b (by omega),ho6 b (by omega)];exact hle05 _ _ (hle _ _ hb)
theorem uY{f:ak}{v:Value}{h:Heap}(hv:Rd (vw h) v f)(hsm:SmF f):
  aw Tryz.prog N.fO #[v] h (fun u h'=>u = .bool (decide ((kq f).1=0))/\(vw h).le (vw h')):=by refine ao (args:=[v]) follows F.fO E.fO (Kw (by kernel_rfl)) fun K hK=>?_;simp[L.fO];refine iG rfl hv fun h1 e1 hle1 hs1 hat=>?_;obtain⟨u,hu,hur⟩:=hat.au rfl;have hu':Un.ev (vw h1) (.au 2) (.pointer (some ⟨h.size,0,none⟩))=some u:=hu;simp[hu'];refine af (by kernel_rfl) (FW hur hsm) ?_;rintro _ h2 ⟨rfl,hle2⟩;simp;exact hK _ _ ⟨rfl,View.le_trans hle1 hle2⟩
end
end Go.Proofs.YtnfiilgdjpdlkaaGreatDoor
namespace Go.Lft
open Go
section
variable {po po2 po3:OP} {pp:PP}
structure Raw where
 v:Value
instance:Rep Raw where
 n:=1
 agg:=false
 rd:=fun _ cs d=>cs=[d.v]/\d.v.oneCell'=true
 mono:=fun _ h=>h
 len:=fun h=>by rw[h.1];rfl
 one:=fun _=>rfl
 flat:=fun h u hu=>by rw[h.1]at hu;simp at hu;subst hu;exact h.2
 pos:=Nv
 fG:=fun h=>h
instance:Inhabited Raw:=⟨⟨.bool false⟩⟩
theorem lZ{H:View}{v:Value}{d:Raw}:Rd H v d↔v=d.v/\d.v.oneCell'=true:=by simp[Rd,Rep.agg,Rep.rd]
theorem At.raw{H:View}{a:Addr}{d:Raw}(h:At H a d):aj H a=some d.v:=by obtain⟨u,h1,h2⟩:=h.load rfl;rw[(lZ.1 h2).1]at h1;exact h1
variable{α β:Type}{off:Nat}{W:View}{y:Operand}{K:Value->Heap->Prop}
theorem BG[Rep α][Rep β]{g:α->β}{s:α->β->α}(p:Part α β off g s){P:Program}{h:Heap}{e:TypeId}{v:Value}{l:List α}{t ty:TypeId}{x:Operand}{us:List (Nat × Value)}{i:Nat}{u:Value}{d:β}(hsz:dp P t=some (Rep.n β))(hx:asg us x = .pointer (some (((slA v).add (i*Rep.n α)).add off)))(hy:asg us y=u)(ho:OwnT W h e v l)(hi:i<l.length)(hr:Rd W u d)(hk : ∀h',h'.size=h.size->OwnT W h' e v (l.set i (s l[i] d))->kD h h' v v->K undef h'):@step po P (.store t x y) ty us h K:=by
 obtain⟨c1,c2,c3⟩:=gD hr;obtain⟨hbd,xs,⟨hxl,hown⟩,hel⟩:=ho;have hf:=p.fits;refine dq (po:=po) (oX fun w hw=>?_);subst hw;rcases hown with⟨rfl,hn⟩ | ⟨gb,cap,cur,rfl,hg,h1,h2,h3,h4⟩
 ·omega
 have hle:i*Rep.n α+Rep.n α<=l.length*Rep.n α:=by rw[<-Nat.succ_mul];exact KX _ hi
 have hcap:l.length*Rep.n α<=cap*Rep.n α:=KX _ h1;have hlen:u.cells.toList.length=Rep.n β:=by simpa using c2
 have hrun:=run_storeCells_at P gb (i*Rep.n α+off) e u.cells.toList 0 cur w hg (by simp only[Nat.add_zero];omega) c3;have hadd:((slA (.slice (some ⟨gb,0,none⟩) l.length cap)).add (i*Rep.n α)).add off=⟨gb,i*Rep.n α+off,none⟩:=by show((⟨gb,0,none⟩:Addr).add _).add _=_;simp[Addr.z]
 have hszr:=run_sizeOf (P:=P) (w:=w) hsz;obtain⟨row,hrow⟩ : ∃row:Array Value,row.toList=cur.toList.take (i*Rep.n α+off)++u.cells.toList++cur.toList.drop (i*Rep.n α+off+Rep.n β):=⟨(cur.toList.take (i*Rep.n α+off)++u.cells.toList++cur.toList.drop (i*Rep.n α+off+Rep.n β)).toArray,rfl⟩;have hrun':Sem.run P (storeCells ⟨gb,i*Rep.n α+off,none⟩ u.cells.toList) w = .ok () (w.setRow gb row):=by rw[hrun];congr 2;rw[<-Array.toList_inj,hrow,hlen];rfl
 have hrsz:row.size=cap*Rep.n α:=by have:=congrArg List.length hrow;simp only[MC,KK,Lp,K7,c2]at this;omega
 refine⟨w.setRow gb row,?_,Same.pV rfl rfl rfl (by simp) hg (by simp) (fun k _ hne=>setRow_other w gb k _ (fun e=>hne e)),hk (w.setRow gb row).heap (by simp) ⟨by simpa using hbd,xs.take (i*Rep.n α+off)++u.cells.toList++xs.drop (i*Rep.n α+off+Rep.n β),⟨?_,.inr ⟨gb,cap,row,by simp,setRow_heap w gb cur row e _ hg,by simpa using h1,h2,?_,?_⟩⟩,?_⟩ ⟨⟨by simp,fun k hk hne=>setRow_other w gb k _ (fun e=>hne (by simp[Value.ownBlock,e]))⟩,.inl rfl⟩⟩
 ·simp only[bD,execOp,hx,hy,hadd];simp[Instr.storeAt,Instr.sureAddr,storeVar,hszr,c2,hrun']
 ·simp only[KK,Lp,K7,hlen,KZ];omega
 ·exact hrsz
 ·simp only[KZ];rw[hrow,<-h4,LN,LO (by omega),KL,KL];have e1:(cur.toList.take (i*Rep.n α+off)).length=i*Rep.n α+off:=by simp;omega
  rw[LV,e1,KG (by omega)];congr 1;rw[LV,hlen,KG (by omega)];congr 1;rw[LM];congr 1;omega
 intro j hj;simp only[KZ]at hj;have hjle:j*Rep.n α+Rep.n α<=l.length*Rep.n α:=by rw[<-Nat.succ_mul];exact KX _ hj
 have e1:(xs.take (i*Rep.n α+off)).length=i*Rep.n α+off:=by simp;omega
 by_cases hij:i=j
 ·subst hij;have hset:(l.set i (s l[i] d))[i]'(by simpa using hj)=s l[i] d:=by simp
  rw[hset];have:=p.set (hel i hj) c1;have hcs:((xs.drop (i*Rep.n α)).take (Rep.n α)).length=Rep.n α:=by simp;omega
  have e3:((xs.take (i*Rep.n α+off)++u.cells.toList++xs.drop (i*Rep.n α+off+Rep.n β)).drop (i*Rep.n α)).take (Rep.n α)=((xs.drop (i*Rep.n α)).take (Rep.n α)).take off++u.cells.toList++((xs.drop (i*Rep.n α)).take (Rep.n α)).drop (off+Rep.n β):=by
   rw[KL,Lx (by omega),LM,NX,LN,LO (by omega),KL];have e4:((xs.drop (i*Rep.n α)).take off).length=off:=by simp;omega
   rw[LV,e4,KG (by omega)];congr 1;rw[LV,hlen,KG (by omega)];congr 1;rw[LM,MD];rw[show i*Rep.n α+(off+Rep.n β)=i*Rep.n α+off+Rep.n β by omega,show Rep.n α-off-Rep.n β=Rep.n α-(off+Rep.n β) by omega]
  rw[e3];exact this
 have hset:(l.set i (s l[i] d))[j]'(by simpa using hj)=l[j]:=by simp[hij]
 rw[hset];have:((xs.take (i*Rep.n α+off)++u.cells.toList++xs.drop (i*Rep.n α+off+Rep.n β)).drop (j*Rep.n α)).take (Rep.n α)=(xs.drop (j*Rep.n α)).take (Rep.n α):=by
  rcases KB j i with hlt | hge
  ·have h5:j*Rep.n α+Rep.n α<=i*Rep.n α:=by rw[<-Nat.succ_mul];exact KX _ hlt
   rw[KL,Lx (by omega),Ln (by simp;omega),LM,LN,LO (by omega)]
  have h5:i*Rep.n α+Rep.n α<=j*Rep.n α:=by rw[<-Nat.succ_mul];exact KX _ (by omega)
  have e2:(xs.take (i*Rep.n α+off)++u.cells.toList).length=i*Rep.n α+off+Rep.n β:=by rw[KK,e1,hlen]
  rw[ME,K9 (by omega),Lr,e2,MD];congr 2;omega
 rw[this];exact hel j hj
abbrev Key:=Nat × Nat
structure Item where
 α:Type
 rep:Rep α
 e:TypeId
 v:Value
 l:List α
abbrev Own:=Key->Option Item
def it {α:Type} [r:Rep α] (e:TypeId) (v:Value) (l:List α):Option Item:=some ⟨α,r,e,v,l⟩
def bx {α:Type} [r:Rep α] (e:TypeId) (B:Nat) (d:α):Option Item:=some ⟨α,r,e,.slice (some ⟨B,0,none⟩) 1 1,[d]⟩
def Own.upd (o:Own) (k:Key) (i:Option Item):Own:=fun j=>if j=k then i else o j
structure Owns (W:View) (h:Heap) (o:Own):Prop where
 wle:W.le (vw h)
 own : ∀k i,o k=some i->@OwnT i.α i.rep W h i.e i.v i.l
 av : ∀k i,o k=some i->Av W i.v
 dj : ∀k k' i i' b,o k=some i->o k'=some i'->i.v.ownBlock=some b->i'.v.ownBlock=some b->k=k'
section
variable {W:View} {h h':Heap} {o:Own} {k:Key}
theorem Owns.congr{o':Own}(w:Owns W h o)(he : ∀k,o' k=o k):Owns W h o':=by have:o'=o:=funext he;rw[this];exact w
theorem Owns.start(hw:W.le (vw h)):Owns W h (fun _=>.none):=⟨hw,fun _ _ h=>(by cases h),fun _ _ h=>(by cases h),fun _ _ _ _ _ h=>(by cases h)⟩
theorem Owns.get[r:Rep α]{e:TypeId}{v:Value}{l:List α}(w:Owns W h o)(hk:o k=it e v l):OwnT W h e v l:=w.own k _ hk
theorem Owns.now {α:Type} [r:Rep α] {e:TypeId} {v:Value} {l:List α} (w:Owns W h o) (hk:o k=it e v l):SlRd (vw h) v l:=(w.get hk).now w.wle
theorem Owns.at {α:Type} [r:Rep α] {e:TypeId} {B:Nat} {d:α} (w:Owns W h o) (hk:o k=bx e B d):At (vw h) ⟨B,0,.none⟩ d:=by have:SlRd (vw h) (.slice (some ⟨B,0,.none⟩) 1 1) [d]:=w.now (k:=k) hk;have:=this.at (i:=0) (by simp);simpa[slA]using this
theorem Owns.cells {α:Type} [r:Rep α] {e:TypeId} {v:Value} {l:List α} (w:Owns W h o) (hk:o k=it e v l):v.cells = #[v]/\v.oneCell'=true:=by have:=(w.get hk).len (K:=nothing);cases v<;>first | exact⟨rfl,rfl⟩ | (simp[Un.ev,vL]at this)
theorem Owns.lt {i:Item} (w:Owns W h o) (hk:o k=some i) {b:Nat} (hb:i.v.ownBlock=some b):b<h.size:=@OwnT.lt i.α i.rep _ _ _ _ _ (w.own k i hk) _ hb
theorem Owns.ext'(w:Owns W h o)(hle:(vw h).le (vw h')):Owns W h' o:=
 ⟨View.le_trans w.wle hle,fun k i hk=>@OwnT.ext i.α i.rep _ _ _ _ _ _ (w.own k i hk) hle,w.av,w.dj⟩
theorem Owns.ext (w:Owns W h o) (hle:(vw h).le (vw h')):Owns (grow W h h') h' o:=
 ⟨kM (View.le_trans w.wle hle),fun k i hk=>@OwnT.mono i.α i.rep _ _ _ _ _ (@OwnT.ext i.α i.rep _ _ _ _ _ _ (w.own k i hk) hle) _ (bO w.wle),
  fun k i hk=>(w.av k i hk).grow fun b hb=>w.lt hk hb,w.dj⟩
theorem Owns.HJ{W':View}(w:Owns W h o)(h1:W.le W')(h2:W'.le (vw h))(h3 : ∀k i b,o k=some i->i.v.ownBlock=some b->W' b = .none):Owns W' h o:=
 ⟨h2,fun k i hk=>@OwnT.mono i.α i.rep _ _ _ _ _ (w.own k i hk) _ h1,fun k i hk b hb=>h3 k i b hk hb,w.dj⟩
theorem Owns.sub{o':Own}(w:Owns W h o)(hs : ∀k i,o' k=some i->o k=some i):Owns W h o':=
 ⟨w.wle,fun k i hk=>w.own k i (hs k i hk),fun k i hk=>w.av k i (hs k i hk),fun k k' i i' b hk hk'=>w.dj k k' i i' b (hs k i hk) (hs k' i' hk')⟩
theorem Owns.jo{i:Item}[rb:Rep β]{e2:TypeId}{v':Value}{l':List β}(w:Owns W h o)(hk:o k=some i)(o2:OwnT W h' e2 v' l')(m:kD h h' i.v v'):Owns W h' (o.upd k (it e2 v' l')):=by
 obtain⟨w1,a1⟩:=m.view w.wle (w.av k i hk);have new : ∀(y:Item) (q:Key) (b:Nat),o q=some y->y.v.ownBlock=some b->v'.ownBlock=some b->q=k:=fun y q b hq hb hv=>by
  rcases m.at_ with e | e
  ·exact w.dj q k y i b hq hk hb (e▸hv)
  rw[e]at hv;simp only[Kx]at hv;have:=w.lt hq hb;omega
 refine⟨w1,fun j x hj=>?_,fun j x hj=>?_,fun j j' x x' b hj hj' hb hb'=>?_⟩
 ·unfold Own.upd at hj;split at hj
  ·cases hj;exact o2
  rename_i hjk;refine @OwnT.kept x.α x.rep _ _ _ _ _ _ (w.own j x hj) _ m.kept ?_;cases hx:x.v.ownBlock with
  | none=>exact .inl rfl
  | some b=>exact .inr fun e=>hjk (w.dj j k x i b hj hk hx e.symm)
 ·unfold Own.upd at hj;split at hj
  ·cases hj;exact a1
  exact(m.view w.wle (w.av k i hk) |>.1:_) |> fun _=>w.av j x hj
 unfold Own.upd at hj hj';split at hj
 ·rename_i a;cases hj;split at hj'
  ·rename_i c;rw[a,c]
  rw[a];exact(new x' j' b hj' hb' hb).symm
 split at hj'
 ·rename_i c;cases hj';rw[c];exact new x j b hj hb hb'
 exact w.dj j j' x x' b hj hj' hb hb'
theorem Owns.add[rb:Rep β]{e2:TypeId}{v':Value}{l':List β}(w:Owns W h o)(hk:o k = .none)(o2:OwnT W h' e2 v' l')(hle:(vw h).le (vw h'))(hb : ∀b,v'.ownBlock=some b->h.size<=b):Owns W h' (o.upd k (it e2 v' l')):=by
 have w1:=w.ext' hle;refine⟨w1.wle,fun j x hj=>?_,fun j x hj=>?_,fun j j' x x' b hj hj' hb1 hb2=>?_⟩
 ·unfold Own.upd at hj;split at hj
  ·cases hj;exact o2
  exact w1.own j x hj
 ·unfold Own.upd at hj;split at hj
  ·cases hj;intro b hb';exact View.cM w.wle (hb b hb')
  exact w.av j x hj
 unfold Own.upd at hj hj';split at hj
 ·rename_i a;cases hj;split at hj'
  ·rename_i c;rw[a,c]
  have:=w.lt hj' hb2;have:=hb b hb1;omega
 split at hj'
 ·cases hj';have:=w.lt hj hb1;have:=hb b hb2;omega
 exact w.dj j j' x x' b hj hj' hb1 hb2
theorem Own.an{i:Option Item}:o.upd k i k=i:=by simp[Own.upd]
theorem Own.ay{i:Option Item}{j:Key}(hj:j≠k):o.upd k i j=o j:=by simp[Own.upd,hj]
theorem jB[Rep β]{B:Nat}{e:TypeId}{v:Value}{d:β}(hb:h[B]? = some (.cells v.cells e (0,0)))(hr:Rd W v d)(hn:Rep.n β<=1000):OwnT W h e (.slice (some ⟨B,0,.none⟩) 1 1) [d]:=by
 obtain⟨c1,c2,c3⟩:=gD hr;refine⟨by simp,v.cells.toList,⟨by simp[c2],.inr ⟨B,1,v.cells,rfl,hb,Kz _,by simp[maxLen],by omega,?_⟩⟩,fun i hi=>?_⟩
 ·rw[KG];simp[c2]
 have:i=0:=by simpa using hi
 subst this;simp only[MV,LW,LS];rw[KG (by simp[c2])];exact c1
section
variable {P:Program} {ty:TypeId} {us:List (Nat × Value)} {α:Type} [r:Rep α] {e:TypeId} {v:Value} {l:List α}
theorem Owns.eu {t:TypeId} {bytes:Nat} {z:Value} {x y:Operand} {u:Value} {l2:List α} {K:Value->Heap->Prop} (w:Owns W h o) (hk:o k=it e v l) (hT:fe P t e (Rep.n α) bytes z) (hx:asg us x=v) (hy:asg us y=u)
  (hs:SrcT (vw h) W u l2) (hb:(l.length+l2.length)*bytes<=140737488355328) (hb2:l.length+l2.length<=140737488355328)
  (hK : ∀v' h',Owns W h' (o.upd k (it e v' (l++l2)))->kD h h' v v'->K v' h'):@step po P (.call ⟨.builtin .append,#[x,y],#[t,t]⟩) ty us h K:=
 Lft.eu hT hx hy (w.get hk) hs hb hb2 fun v' h' o2 m=>hK v' h' (w.jo hk o2 m) m
variable{bytes:Nat}
theorem Owns.jd{t ty2:TypeId}{z:Value}{x y2:Operand}{us2:Value->List (Nat × Value)}{u:Value}{d:α}{K:Value->Value->Heap->Prop}(w:Owns W h o)(hk:o k=it e v l)(hT:fe P t e (Rep.n α) bytes z)(hx:asg us x=u)(hr:Rd W u d)(hb:(l.length+1)*bytes<=140737488355328)(hb2:l.length+1<=140737488355328)(hy : ∀u,asg (us2 u) y=v)(hy2 : ∀u,asg (us2 u) y2=u)(hK : ∀u v' h',Owns W h' (o.upd k (it e v' (l++[d])))->h.size<=h'.size->K u v' h'):
  @step po P (.buildSlice t 1 #[(0,x)]) ty us h fun u h2=>@step po2 P (.call ⟨.builtin .append,#[y,y2],#[t,t]⟩) ty2 (us2 u) h2 fun v' h3=>K u v' h3:=by refine mb (po:=po) hT hx hr fun u h2 hs hle hsz=>?_;exact(w.ext' hle).eu hk hT (hy u) (hy2 u) hs hb hb2 fun v' h3 w3 m=>hK u v' h3 w3 (by have:=m.kept.size;omega)
theorem Owns.bh{t:TypeId}{x:Operand}{i:Nat}{u:Value}{d:α}(w:Owns W h o)(hk:o k=it e v l)(hsz:dp P t=some (Rep.n α))(hx:asg us x = .pointer (some ((slA v).add (i*Rep.n α))))(hy:asg us y=u)(hi:i<l.length)(hr:Rd W u d)(hK : ∀h',Owns W h' (o.upd k (it e v (l.set i d)))->h'.size>=h.size->K undef h'):@step po P (.store t x y) ty us h K:=
 rm (po:=po) hsz hx hy (w.get hk) hi hr fun h' o2 m=>hK h' (w.jo hk o2 m) m.kept.size
theorem Owns.oK[Rep β]{g:α->β}{s:α->β->α}(p:Part α β off g s){t:TypeId}{x:Operand}{i:Nat}{u:Value}{d:β}(w:Owns W h o)(hk:o k=it e v l)(hsz:dp P t=some (Rep.n β))(hx:asg us x = .pointer (some (((slA v).add (i*Rep.n α)).add off)))(hy:asg us y=u)(hi:i<l.length)(hr:Rd W u d)(hK : ∀h',Owns W h' (o.upd k (it e v (l.set i (s l[i] d))))->h'.size=h.size->K undef h'):@step po P (.store t x y) ty us h K:=
 BG (po:=po) p hsz hx hy (w.get hk) hi hr fun h' hs o2 m=>hK h' (w.jo hk o2 m) hs
theorem Owns.gZ[Rep β]{g:α->β}{s:α->β->α}(p:Part α β off g s){t:TypeId}{x:Operand}{B:Nat}{D:α}{u:Value}{d:β}(w:Owns W h o)(hk:o k=bx e B D)(hsz:dp P t=some (Rep.n β))(hx:asg us x = .pointer (some ⟨B,off,.none⟩))(hy:asg us y=u)(hr:Rd W u d)(hK : ∀h',Owns W h' (o.upd k (bx e B (s D d)))->h'.size=h.size->K undef h'):@step po P (.store t x y) ty us h K:=
 w.oK (po:=po) (v:=.slice (some ⟨B,0,.none⟩) 1 1) (l:=[D]) (i:=0) p hk hsz (by rw[hx];simp[slA,Addr.z]) hy (by simp) hr fun h' w' hs=>hK h' w' hs
end
end
theorem tN{h0 h1 h2 h3:Heap}(hs:h0.size<=h1.size)(hle:(vw h2).le (vw h3)):(fresh h1 h2).le (grow W h0 h3):=fun b o hb=>by
 unfold fresh at hb;split at hb
 ·cases hb
 unfold grow;rw[if_neg (by omega)];exact hle b o hb
theorem Cn{h0 h1 h2:Heap}(hle:(vw h1).le (vw h2)):(grow W h0 h1).le (grow W h0 h2):=fun b o hb=>by
 unfold grow at hb ⊢;split
 ·rename_i hlt;rw[if_pos hlt]at hb;exact hb
 rename_i hlt;rw[if_neg hlt]at hb;exact hle b o hb
theorem dw{h0 h1:Heap}{b:Nat}(hb:h0.size<=b):grow W h0 h1 b=h1[b]?:=by unfold grow;rw[if_neg (by omega)]
def View.plus (W:View) (v:Value) (h:Heap):View:=fun b=>if v.ownBlock=some b then h[b]? else W b
theorem jv{v:Value}{h:Heap}(ha:Av W v):W.le (W.plus v h):=fun b o hb=>by
 unfold View.plus;split
 ·rename_i e;rw[ha b e]at hb;cases hb
 exact hb
theorem Gs{v:Value}{h:Heap}(hw:W.le (vw h)):(W.plus v h).le (vw h):=fun b o hb=>by
 unfold View.plus at hb;split at hb
 ·exact hb
 exact hw b o hb
theorem Owns.freeze{h:Heap}{o:Own}{k:Key}[r:Rep α]{e:TypeId}{v:Value}{l:List α}(w:Owns W h o)(hk:o k=it e v l):Owns (W.plus v h) h (o.upd k .none)/\SlRd (W.plus v h) v l:=by
 have ha:Av W v:=w.av k _ hk;constructor
 ·refine(w.sub (o':=o.upd k .none) fun j i hj=>?_).HJ (jv ha) (Gs w.wle) fun j i b hj hb=>?_
  ·unfold Own.upd at hj;split at hj
   ·cases hj
   exact hj
  unfold Own.upd at hj;split at hj
  ·cases hj
  rename_i hjk;unfold View.plus;rw[if_neg]
  ·exact w.av j i hj b hb
  intro e2;exact hjk (w.dj j k i _ b hj hk hb e2)
 refine(w.get hk).rd (jv ha) fun b hb=>?_;unfold View.plus;rw[if_pos hb]
variable{bytes:Nat}
theorem qE[Rep α]{P:Program}{t e:TypeId}{z:Value}{ty:TypeId}{us:List (Nat × Value)}{h:Heap}(hT:fe P t e (Rep.n α) bytes z)(hk : ∀h',(vw h).le (vw h')->h'.size=h.size+1->(∀W,OwnT (α:=α) W h' e (.slice (some ⟨h.size,0,none⟩) 0 0) [])->K (.slice (some ⟨h.size,0,none⟩) 0 0) h'):@step po P (.buildSlice t 0 #[]) ty us h K:=by refine qp (n:=0) (size:=Rep.n α) (vs:=[]) (cs:=#[]) hT (by omega) (by simp) (by simp only[Instr.fill,MV];rw[show Array.range 0 = #[] by simp[Array.range_zero'],Array.map_empty]) (hk _ (bM _ _) (by simp) fun W=>⟨by simp,[],⟨by simp,.inr ⟨h.size,0,#[],rfl,by simp,Kz _,by simp[maxLen],by simp,by simp⟩⟩,fun i hi=>by simp at hi⟩)
theorem Mine.empty[Rep α]{V:View}{h0 h h':Heap}{e:TypeId}(hle:(vw h0).le (vw h))(hle2:(vw h).le (vw h'))(hW:W.le (vw h))(ho:Old V h0 W)(own : ∀W,OwnT (α:=α) W h' e (.slice (some ⟨h.size,0,none⟩) 0 0) []):Mine (α:=α) V h0 h' W e (.slice (some ⟨h.size,0,none⟩) 0 0) []:=
 ⟨View.le_trans hle hle2,View.le_trans hW hle2,fun b hb=>by cases hb;exact View.cM hW (Kz _),fun b hb=>by cases hb;exact View.cM hle (Kz _),ho,own W⟩
theorem Owns.atW{h:Heap}{o:Own}{k:Key}[r:Rep α]{e:TypeId}{B:Nat}{d:α}(w:Owns W h o)(hk:o k=bx e B d): ∃cs,iK (vw h) ⟨B,0,none⟩ cs/\Rep.rd W cs d:=by
 obtain⟨hb,xs,⟨hl,hown⟩,hel⟩:=w.get (k:=k) (v:=.slice (some ⟨B,0,none⟩) 1 1) (l:=[d]) hk;have h0:=hel 0 (by simp);simp only[MV,LW,LS,KW,NS]at h0 hl;rw[KG (by omega)]at h0;rcases hown with⟨h1,_⟩ | ⟨g,cap,cur,h1,h2,h3,h4,h5,h6⟩
 ·cases h1
 simp only[Value.slice.injEq,Kx,Addr.mk.injEq]at h1;obtain⟨⟨rfl,_⟩,_⟩:=h1;refine⟨xs,⟨cur,e,(0,0),rfl,h2,?_⟩,h0⟩;rw[hl,LW];simpa using h6
theorem Owns.uu{h:Heap}{o:Own}{k:Key}{P:Program}{ty:TypeId}{us:List (Nat × Value)}[r:Rep α]{e:TypeId}{v:Value}{l:List α}{t ty2:TypeId}{z:Value}{x y2:Operand}{us2:Value->List (Nat × Value)}{u:Value}{d:α}{K:Value->Value->Heap->Prop}(w:Owns W h o)(hk:o k=it e v l)(hT:fe P t e (Rep.n α) bytes z)(hx:asg us x=u)(hr:Rd W u d)(hb:(l.length+1)*bytes<=140737488355328)(hb2:l.length+1<=140737488355328)(hy : ∀u,asg (us2 u) y=v)(hy2 : ∀u,asg (us2 u) y2=u)(hK : ∀u v' h',Owns W h' (o.upd k (it e v' (l++[d])))->(∀X:View,X.le (vw h)->Av X v->X.le (vw h')/\Av X v')->K u v' h'):
  @step po P (.buildSlice t 1 #[(0,x)]) ty us h fun u h2=>@step po2 P (.call ⟨.builtin .append,#[y,y2],#[t,t]⟩) ty2 (us2 u) h2 fun v' h3=>K u v' h3:=by refine mb (po:=po) hT hx hr fun u h2 hs hle hsz=>?_;exact(w.ext' hle).eu hk hT (hy u) (hy2 u) hs hb hb2 fun v' h3 w3 m=>hK u v' h3 w3 fun X hX hA=>m.view (View.le_trans hX hle) hA
theorem Owns.oZ{h:Heap}{o:Own}{k:Key}{P:Program}{ty:TypeId}{us:List (Nat × Value)}[r:Rep α][Rep β]{e:TypeId}{g:α->β}{s:α->β->α}(p:Part α β off g s){t:TypeId}{x:Operand}{B:Nat}{D:α}{u:Value}{d:β}(w:Owns W h o)(hk:o k=bx e B D)(hsz:dp P t=some (Rep.n β))(hx:asg us x = .pointer (some ⟨B,off,.none⟩))(hy:asg us y=u)(hr:Rd W u d)(hK : ∀h',Owns W h' (o.upd k (bx e B (s D d)))->(∀X:View,X.le (vw h)->X B = .none->X.le (vw h'))->K undef h'):@step po P (.store t x y) ty us h K:=
 BG (po:=po) p (v:=.slice (some ⟨B,0,.none⟩) 1 1) (l:=[D]) (i:=0) hsz (by rw[hx];simp[slA,Addr.z]) hy (w.get (k:=k) (v:=.slice (some ⟨B,0,.none⟩) 1 1) (l:=[D]) hk) (by simp) hr fun h' hs o2 m=>hK h' (w.jo hk o2 m) fun X hX hB=>(m.view hX fun b hb=>by simp only[Value.ownBlock,Kx]at hb;subst hb;exact hB).1
theorem aU{P:Program}{c:E}{kill:List Nat}{x y:LC}{Q:Post}{ρ:Env}{h:Heap}(hc:ev (look ρ) (vw h) c=some (.bool true))(hx:x.wp P Q (ck ρ kill) h):LC.wp P (.cond c kill x y) Q ρ h:=by rw[mB,hc,A4];exact hx
theorem aV{P:Program}{c:E}{kill:List Nat}{x y:LC}{Q:Post}{ρ:Env}{h:Heap}(hc:ev (look ρ) (vw h) c=some (.bool false))(hy:y.wp P Q (ck ρ kill) h):LC.wp P (.cond c kill x y) Q ρ h:=by rw[mB,hc,yE];exact hy
end
end Go.Lft
namespace Go.Proofs.YtnfiilgdjpdlkaaGreatDoor
open Go Go.Lft
structure Th where
 blk:Int
 place:Int
 mks:List Int
 tks:List Int
 deriving Inhabited
def phiT (f:ak) (b i:Nat):Th:=⟨b,-1-i,[(nth (nth f.blocks b).phis i).dst],(nth (nth f.blocks b).phis i).ins.map InD.val⟩
def insT (f:ak) (b i:Nat):Th:=⟨b,i,cQ (nth (nth f.blocks b).ins i),(nth (nth f.blocks b).ins i).args⟩
def endT (f:ak) (b:Nat):Th:=⟨b,(nth f.blocks b).ins.length,[],(nth f.blocks b).term.args⟩
def thB (f:ak) (b:Nat):List Th:=rows (phiT f b) (nth f.blocks b).phis.length++rows (insT f b) (nth f.blocks b).ins.length++[endT f b]
def thTo (f:ak) (n:Nat):List Th:=up (fun b l=>l++thB f b) n []
def aF (f:ak):List Th:=thTo f f.blocks.length
theorem gJ{f:ak}{n:Nat}:thTo f (n+1)=thTo f n++thB f n:=rfl
theorem Fi{f:ak}{n m:Nat}(h:n<=m):thTo f n <+: thTo f m:=by
 induction m with
 | zero=>rw[show n=0 by omega];exact MF _
 | succ m ih=>
  rcases KB n (m+1)with h1 | h1
  ·exact(ih (by omega)).trans ⟨_,gJ.symm⟩
  rw[show n=m+1 by omega];exact MF _
theorem zh{β:Type}{x:Nat->β}{n m:Nat}(h:n<=m):rows x n <+: rows x m:=by
 induction m with
 | zero=>rw[show n=0 by omega];exact MF _
 | succ m ih=>
  rcases KB n (m+1)with h1 | h1
  ·exact(ih (by omega)).trans ⟨_,ft.symm⟩
  rw[show n=m+1 by omega];exact MF _
theorem xz{α:Type}{a b c:List α}(h:b <+: c):a++b <+: a++c:=by obtain⟨t,rfl⟩:=h;exact⟨t,by simp⟩
structure ThJ (J:List Th->View->Heap->Prop):Prop where
 le : ∀{l W h},J l W h->W.le (vw h)
 ext : ∀{l W h h'},J l W h->(vw h).le (vw h')->J l (grow W h h') h'
theorem CS{f:ak}{v:Value}{h:Heap}{V:View}{gf:Nat}{caps:List Value}{J:List Th->View->Heap->Prop}(hv:Rd V v f)(hsm:SmF f)(hJ:ThJ J)(hg:isFn Tryz.prog gf=true)(h0:J [] V h)(hstep : ∀(l:List Th) (t:Th) (W:View) (h1:Heap) (vm vt:Value),V.le W->l++[t] <+: aF f->J l W h1->SlRd W vm t.mks->SlRd W vt t.tks->aw Tryz.prog gf (.int .i64 t.blk::.int .i64 t.place::vm::vt::caps).toArray h1 (fun _ h2=>J (l++[t]) W h2)):
  aw Tryz.prog N.cw #[v,.func (.func gf) #[] caps.toArray] h (fun _ h'=>∃W,V.le W/\J (aF f) W h'):=by
 refine ao (args:=[v,.func (.func gf) #[] caps.toArray]) follows F.cw E.cw (Kw (by kernel_rfl)) fun K hK=>?_;dsimp only[L.cw];refine ab fun z hz=>?_;simp;refine iG rfl (hv.mono (hJ.le h0)) fun h1 e1 hle1 hs1 hat=>?_;have j1:=hJ.ext h0 hle1;obtain⟨cp,vb,cb⟩:=jE hat;have hvb:SlRd V vb f.blocks:=by
  obtain⟨u,hu,hur⟩:=hv.Jz ak.qz rfl rfl (K:=vw h);have e:vb=u:=by
   have hv' : ∃cs:Array Value,v = .agg cs/\Rep.rd V cs.toList f:=hv;obtain⟨cs,rfl,hcs⟩:=hv';have hb:h1[h.size]? = some (.cells cs T.eI (0,0)):=by rw[e1];simp
   have h3:aj (vw h1) ⟨h.size,1,none⟩=cs[1]?:=by simp[aj,vw,hb]
   simp at hu;rw[cb.1]at h3;rw[hu]at h3;exact Option.some.inj h3
  rw[e];exact eE.1 hur
 have hVW:V.le (grow V h h1):=bO (hJ.le h0);generalize grow V h h1=W1 at j1 hVW;generalize h.size=B at cb;have hbb:=cb.2.bound;subst hz;simp[cb.1,cb.2.len];refine aJ [1,14,15,16] (fun(_:Unit) b=>[.func (.func gf) #[] caps.toArray,vb,.int .i64 f.blocks.length,.int .i64 b]) (fun _ b h2=>∃W,V.le W/\J (thTo f b) W h2) f.blocks.length ()
  rfl (by omega) rfl ⟨W1,hVW,j1⟩ (fun _ _=>rfl) (fun v i h1 hk m=>by simp) ?_ ?_
 ·rintro _ b h2 hltb ⟨W2,hW2,j2⟩ K2 hK2;have hvb2:=hvb.mono (View.le_trans hW2 (hJ.le j2));obtain⟨u,hu,hur⟩:=(hvb.mono hW2).wh rfl (N:=6) rfl hltb;refine ab fun z hz=>?_;simp(disch:=omega)[hvb2.idxn (N:=6) rfl,hu _ (hJ.le j2)];refine dX (X:=W2) (z:=.agg #[.slice none 0 0,.slice none 0 0,.int .i64 0,.slice none 0 0,.slice none 0 0,.int .i32 0]) (by kernel_rfl) rfl (by kernel_rfl) hur (fun _=>by simp) (fun _=>by simp) fun h3 hle3 hsz3 hat3=>?_;have j3:=hJ.ext j2 hle3
  have hat3':=hat3 (grow W2 h2 h3) (bO (hJ.le j2)) (by unfold grow;rw[if_neg (by omega)]);obtain⟨vp,vi,va,vt,bp,bi,bk,ba,bt⟩:=kl hat3';have hVW3:=View.le_trans hW2 (bO (h':=h3) (hJ.le j2));generalize grow W2 h2 h3=W3 at j3 hVW3 bp bi bk ba bt;generalize h2.size=D at bp bi bk ba bt;have hpre:thTo f b++thB f b <+: aF f:=by rw[<-gJ];exact Fi hltb
  subst hz;have bph:=bp.2.bound;have bih:=bi.2.bound;refine ab fun z hz=>?_;simp[ae (hJ.le j3) bp.1,bp.2.len];refine aJ [1,4,5,14,15,16,22,23,24] (fun(_:Unit) i=>[.func (.func gf) #[] caps.toArray,.int .i64 b,.pointer (some ⟨D,0,none⟩),vb,.int .i64 f.blocks.length,.int .i64 b,vp,.int .i64 (nth f.blocks b).phis.length,.int .i64 i])
   (fun _ i h4=>∃W,W3.le W/\J (thTo f b++rows (phiT f b) i) W h4) (nth f.blocks b).phis.length ()
   rfl (by omega) rfl ⟨W3,View.le_refl _,by simpa using j3⟩ (fun _ _=>rfl) (fun v i h1 hk m=>by simp) ?_ ?_
  ·rintro _ i h4 hlti ⟨W4,hW4,j4⟩ K3 hK3;have bp4:=bp.2.mono (View.le_trans hW4 (hJ.le j4));obtain⟨u4,hu4,hur4⟩:=bp4.wh rfl (N:=2) rfl hlti;refine ab fun y hy=>?_;simp(disch:=omega)[bp4.idxn (N:=2) rfl,hu4 _ (View.le_refl _)];refine dX (z:=.agg #[.int .i64 0,.slice none 0 0]) (by kernel_rfl) rfl (by kernel_rfl) hur4 (fun _=>by simp) (fun _=>by simp) fun h5 hle5 hsz5 hat5=>?_;obtain⟨c0,vq,cq⟩:=yd (hat5 (vw h5) hle5 rfl);have rd:=((hat5 (vw h5) hle5 rfl).part PhiD.iN).rng
   have hpl:=(hsm.blk b hltb).phi i hlti;have hpt:phiT f b i=⟨b,-1-i,[(nth (nth f.blocks b).phis i).dst],(nth (nth f.blocks b).phis i).ins.map InD.val⟩:=rfl;generalize nth (nth f.blocks b).phis i=x at c0 cq rd hpt hpl;generalize h4.size=D4 at c0 cq;have bq:=cq.2.bound;subst hy;refine ab fun y hy=>?_;simp;subst hy;refine ab fun y hy=>?_;simp[cq.1,cq.2.len];refine aJ [1,4,5,6,7,8,14,15,16,22,23,24,30,31,32] (fun(r:Value) j=>[.func (.func gf) #[] caps.toArray,.int .i64 b,.pointer (some ⟨D,0,none⟩),.int .i64 i,.pointer (some ⟨D4,0,none⟩),r,vb,.int .i64 f.blocks.length,.int .i64 b,vp,.int .i64 (nth f.blocks b).phis.length,.int .i64 i,vq,.int .i64 x.ins.length,.int .i64 j])
    (fun r j h6=>Mine nothing h5 h6 nothing T.int r ((x.ins.map InD.val).take j)) x.ins.length (.slice none 0 0)
    rfl (by omega) rfl (Mine.start bs) (fun _ _=>rfl) (fun v i h1 hk m=>by simp) ?_ ?_
   ·rintro r j h6 hltj m6 K4 hK4;have cq6:=cq.2.mono m6.old;obtain⟨u6,hu6,hur6⟩:=cq6.wh rfl (N:=2) rfl hltj;refine ab fun q hq=>?_;simp(disch:=omega)[cq6.idxn (N:=2) rfl,hu6 _ (View.le_refl _)];refine dX (z:=.agg #[.int .i64 0,.int .i64 0]) (by kernel_rfl) rfl (by kernel_rfl) hur6 (fun _=>by simp) (fun _=>by simp) fun h7 hle7 hsz7 hat7=>?_;have e1:=(Al (hat7 (vw h7) hle7 rfl)).2
    have rv:=((hat7 (vw h7) hle7 rfl).part InD.BY).rng;generalize h6.size=D6 at e1;subst hq;simp[e1];have hl8:((x.ins.map InD.val).take j).length=j:=by simp;omega
    refine(m6.ext' hle7).push (d:=(nth x.ins j).val) El.aP (by simp<;>rfl) (nY rv.1 rv.2) (by omega) (by omega) (fun _=>by simp) (fun _=>by simp) fun u8 v8 h8 m8=>?_;refine hK4 v8 _ _ rfl rfl ?_;rw[NT,L8,K6 hltj];rw[az hltj]at m8;exact m8
   rintro r h6 m6;rw[KG (by simp)]at m6;simp;subst hy;simp(disch:=omega)[ae m6.old c0];refine kR (X:=nothing) (ds:=[x.dst]) (vs:=[.int .i64 x.dst]) rfl El.aP (by simp) ⟨bC.2 ⟨rfl,rd⟩,trivial⟩ bs rfl (by omega) fun u7 h7 hle7 hsz7 hu7 _=>?_;have hle47:=View.le_trans hle5 (View.le_trans m6.old hle7);have j7:=hJ.ext j4 hle47;have hW7:=View.le_trans hW4 (bO (h':=h7) (hJ.le j4));have pre:(thTo f b++rows (phiT f b) i)++[phiT f b i] <+: aF f:=by rw[KL,<-ft];exact(xz ((zh hlti).trans ⟨_,(KL ..).symm⟩)).trans hpre
   rw[hpt]at pre;refine bI (ops:=[.tmp 43,.tmp 45,.tmp 48,.tmp 49]) rfl hg (hstep _ ⟨b,-1-i,[x.dst],x.ins.map InD.val⟩ _ h7 u7 r (View.le_trans hVW3 hW7) pre j7 (hu7 _ bs (dw (by have:=bW hle5;have:=bW m6.old;omega))) (m6.fresh.mono (tN (bW hle5) hle7))) ?_;rintro _ h8 j8;exact hK3 () _ _ rfl rfl ⟨_,hW7,by rw[ft,<-List.append_assoc,hpt];exact j8⟩
  rintro _ h4 ⟨W4,hW4,j4⟩;simp;subst hz;refine ab fun z hz=>?_;have hW4h:=View.le_trans hW4 (hJ.le j4);simp[ae hW4h bi.1,(bi.2.mono hW4h).len];refine aJ [1,4,5,14,15,16,53,54,55] (fun(_:Unit) i=>[.func (.func gf) #[] caps.toArray,.int .i64 b,.pointer (some ⟨D,0,none⟩),vb,.int .i64 f.blocks.length,.int .i64 b,vi,.int .i64 (nth f.blocks b).ins.length,.int .i64 i])
   (fun _ i h5=>∃W,W3.le W/\J (thTo f b++rows (phiT f b) (nth f.blocks b).phis.length++rows (insT f b) i) W h5) (nth f.blocks b).ins.length ()
   rfl (by omega) rfl ⟨W4,hW4,by simpa using j4⟩ (fun _ _=>rfl) (fun v i h1 hk m=>by simp) ?_ ?_
  ·rintro _ i h5 hlti ⟨W5,hW5,j5⟩ K3 hK3;have bi5:=bi.2.mono (View.le_trans hW5 (hJ.le j5));obtain⟨u5,hu5,hur5⟩:=(bi.2.mono hW5).wh rfl (N:=5) rfl hlti;refine ab fun y hy=>?_;simp(disch:=omega)[bi5.idxn (N:=5) rfl,hu5 _ (hJ.le j5)];refine dX (z:=.agg #[.int .i64 0,.int .i64 0,.int .i64 0,.slice none 0 0,.int .i32 0]) (by kernel_rfl) rfl (by kernel_rfl) hur5 (fun _=>by simp) (fun _=>by simp) fun h6 hle6 hsz6 hat6=>?_;have hatg:=hat6 (grow W5 h5 h6) (bO (hJ.le j5)) (dw (Kz _))
   have hat6':=hatg.mono (kM (View.le_trans (hJ.le j5) hle6));obtain⟨_,_,_,vq,cq⟩:=kP hatg;obtain⟨w,w1,w2⟩:=hat6'.au rfl;have w1:Un.ev (vw h6) (.au 5) (.pointer (some ⟨h5.size,0,none⟩))=some w:=w1;have hpt:insT f b i=⟨b,i,cQ (nth (nth f.blocks b).ins i),(nth (nth f.blocks b).ins i).args⟩:=rfl;generalize nth (nth f.blocks b).ins i=x at cq w2 hpt;generalize h5.size=D5 at cq w1;subst hy;have hg6:(grow W5 h5 h6).le (vw h6):=kM (View.le_trans (hJ.le j5) hle6);refine aS (vw h6) (View.le_refl _) ?_;simp[ae hg6 cq.1,w1];refine af (by kernel_rfl) (zz w2) ?_;rintro u7 h7 ⟨hle7,hu7⟩;refine⟨hle7,?_⟩;have hle57:=View.le_trans hle6 hle7;have j7:=hJ.ext j5 hle57;have hW7:=View.le_trans hW5 (bO (h':=h7) (hJ.le j5));have pre:(thTo f b++rows (phiT f b) (nth f.blocks b).phis.length++rows (insT f b) i)++[insT f b i] <+: aF f:=by rw[KL,<-ft,KL];refine(xz ?_).trans hpre;exact(xz (zh hlti)).trans ⟨_,rfl⟩
   rw[hpt]at pre;refine bI (ops:=[.tmp 61,.tmp 62,.tmp 64,.tmp 66]) rfl hg (hstep _ ⟨b,i,cQ x,x.args⟩ _ h7 u7 vq (View.le_trans hVW3 hW7) pre j7 (hu7.mono (tN (bW hle6) (View.le_refl _))) (cq.2.mono (Cn hle7))) ?_;rintro _ h8 j8;exact hK3 () _ _ rfl rfl ⟨_,hW7,by rw[ft,<-List.append_assoc,hpt];exact j8⟩
  rintro _ h5 ⟨W5,hW5,j5⟩;simp;subst hz;have hW5h:=View.le_trans hW5 (hJ.le j5);simp[ae hW5h bi.1,(bi.2.mono hW5h).len,ae hW5h ba.1];have pre:(thTo f b++rows (phiT f b) (nth f.blocks b).phis.length++rows (insT f b) (nth f.blocks b).ins.length)++[endT f b] <+: aF f:=by rw[KL,KL,<-List.append_assoc (rows _ _)];exact hpre
  refine bI (ops:=[.tmp 70,.tmp 73,.const (.slice none 0 0),.tmp 76]) rfl hg (hstep _ ⟨b,(nth f.blocks b).ins.length,[],(nth f.blocks b).term.args⟩ _ h5 (.slice none 0 0) va (View.le_trans hVW3 hW5) pre j5 aI (ba.2.mono hW5)) ?_;rintro _ h6 j6;refine hK2 () _ _ rfl rfl ⟨_,View.le_trans hVW3 hW5,?_⟩;have e:thTo f (b+1)=(thTo f b++rows (phiT f b) (nth f.blocks b).phis.length++rows (insT f b) (nth f.blocks b).ins.length)++[endT f b]:=by rw[gJ,thB];simp[KL]
  rw[e];exact j6
 rintro _ h2 ⟨W2,hW2,j2⟩;simp;exact hK _ _ ⟨W2,hW2,j2⟩
theorem oL {α β:Type} (I:β->Prop) {f:β->α->β} (hf : ∀x a,I x->I (f x a)) : ∀(l:List α) (x:β),I x->I (l.foldl f x)
 | [],_,h=>h
 | a::l,x,h=>oL I hf l _ (hf x a h)
end Go.Proofs.YtnfiilgdjpdlkaaGreatDoor
