/- A part of the proof: Oj, Ok, Ol, Rb, Ta, Rc, Rd, Rf, Rg, Rh, Tb, Tc, Td, Th, Ma, Mb, Mc, Md, Me, Mf, Mg, Mh. -/
import Derived.Test.YtmhnaeecolpfkaaGreatDoorZCOwn3
set_option linter.unusedSimpArgs false
set_option linter.unusedVariables false
open Go.Value renaming int->UH,slice->UM,pointer->UN
open Go.IntKind renaming i64->UI,i32->UJ
open Option renaming some->UK,none->UL
open Bool renaming true->UO,false->UP
open Go.Proofs.Tryz renaming prog->UQ
open Go.Proofs
namespace Go.Lft
open Go.MapKept
variable{po:OP}{pp:PP}
theorem og{P:Program}{ty:TypeId}{us:List (Nat × Value)}{h:Heap}{K:Value->Heap->Prop}{d:TypeDesc}{r:Nat}{f:Value->Option Value}{t k e:TypeId}{x y:Operand}{u z:Value}(ht:P.underlying t=UK (.map k e))(hd:P.underlying k=UK d)(hz:(P.info? e).map (·.zero)=UK (UK z))(hx:asg us x = .map (UK r))(hy:asg us y=u)(hu:IsKey d u)(m:di d h r f)
  (hk:K (.tuple #[(f u).getD z,.bool (f u).isSome]) h):@step po P (.lookup t x y UO) ty us h K:=by
 obtain⟨es,c,h1,h2,h3,h4⟩:=m.ex;simp only[Q6]at hz;obtain⟨i,hi,hz⟩:=hz;refine df (cB λw hw=>⟨_,w,?_,Same.refl _,by rw[hw];exact hk⟩);have hz':(zeroValue e).run P w = .ok z w:=by simp[zeroValue,typeInfo,hi,hz]
 rw[<-hw]at h1;simp only[bL,execOp,hx,hy];rcases findNow_spec hu es.toList 0 h2 with⟨g1,g2⟩ | ⟨j,x,g1,g2,g3⟩
 ·have hf:f u = .none:=by
   cases hfu:f u with
   | none=>rfl
   | some v=>obtain⟨x,hx,e1,_⟩:=(h4 u v hu).2 hfu;exact absurd e1 (g2 x hx)
  simp[Instr.lookup,run_underlying ht,MapKept.run_getObj_map h1,MapKept.run_checkKey hd hu,MapKept.run_findKey hd g1,Result.andThen,hf,hz']
 have hf:f u=UK x.val:=(h4 u x.val hu).1 ⟨x,RF g2,g3,rfl⟩;simp[Instr.lookup,run_underlying ht,MapKept.run_getObj_map h1,MapKept.run_checkKey hd hu,MapKept.run_findKey hd g1,Result.andThen,hf]
theorem qz{H:View}{α:Type}[Rep α]{v:Value}{l:List α}:Rep.rd H [v] l↔SlRd H v l:=by rw[<-dD];unfold Rd;simp[Rep.agg]
theorem we{H:View}{α:Type}[Rep α]{cs:List Value}{l:List α}(h:Rep.rd H cs l) : ∃v,cs=[v]:=by
 have:=Rep.len h;match cs,this with
 | [v],_=>exact⟨v,rfl⟩
theorem xt{H:View}{v:Value}{f:ak}(h:Rd H v f) : ∃a m c,v = .agg #[UH UI f.params,.slice a m c]:=by unfold Rd at h;rw[if_pos (show Rep.agg ak=UO from rfl)]at h;obtain⟨cs,rfl,c1,c2,e,h1,h2⟩:=h;rw[h1.1]at e;obtain⟨v,rfl⟩:=we h2;obtain⟨a,c,rfl,-⟩:=qz.1 h2;exact⟨a,_,c,by congr 1;rw[<-Array.toList_inj,e];rfl⟩
theorem yM{H:View}{v:Value}{i:InsD}(h:Rd H v i) : ∃a m c,v = .agg #[UH UI i.op,UH UI i.dst,UH UI i.two,.slice a m c,UH UJ i.imm.v]:=by unfold Rd at h;rw[if_pos (show Rep.agg InsD=UO from rfl)]at h;obtain⟨cs,rfl,c1,_,e,h1,c2,_,rfl,h2,c3,_,rfl,h3,c4,c5,rfl,h4,h5⟩:=h;rw[h1.1,h2.1,h3.1,h5.1]at e;obtain⟨v,rfl⟩:=we h4;obtain⟨a,c,rfl,-⟩:=qz.1 h4;exact⟨a,_,c,by congr 1;rw[<-Array.toList_inj,e];rfl⟩
theorem EL{H:View}{v:Value}{t:cS}(h:Rd H v t) : ∃a m c a2 m2 c2,v = .agg #[UH UI t.kind,.slice a m c,.slice a2 m2 c2,UH UJ t.imm.v]:=by unfold Rd at h;rw[if_pos (show Rep.agg cS=UO from rfl)]at h;obtain⟨cs,rfl,c1,_,e,h1,c2,_,rfl,h2,c3,c4,rfl,h3,h4⟩:=h;rw[h1.1,h4.1]at e;obtain⟨v,rfl⟩:=we h2;obtain⟨w,rfl⟩:=we h3;obtain⟨a,c,rfl,-⟩:=qz.1 h2;obtain⟨a2,c2,rfl,-⟩:=qz.1 h3;exact⟨a,_,c,a2,_,c2,by congr 1;rw[<-Array.toList_inj,e];rfl⟩
theorem Ce{H:View}{α:Type}[Rep α]{cs:Array Value}{d:α}(ha:Rep.agg α=UO)(h:Rd H (.agg cs) d):Rep.rd H cs.toList d:=by unfold Rd at h;rw[if_pos ha]at h;obtain⟨cs',e,h⟩:=h;cases e;exact h
theorem BY{H:View}{c1 c2 c3:Array Value}{s:cC}(h1:Rd H (.agg c1) s.f)(h2:Rd H (.agg c2) s.i)(h3:Rd H (.agg c3) s.t)(h5:-9223372036854775808<=s.temp/\s.temp<=9223372036854775807) :
  Rd H (.agg (c1.toList++(c2.toList++(c3.toList++([Value.bool s.term]++[UH UI s.temp])))).toArray) s:=by unfold Rd;rw[if_pos (show Rep.agg cC=UO from rfl)];exact⟨_,rfl,_,_,rfl,Ce rfl h1,_,_,rfl,Ce rfl h2,_,_,rfl,Ce rfl h3,_,_,rfl,rfl,rfl,h5⟩
end Go.Lft
namespace Go.Lft
abbrev qL:List Value:=[UH UI 0,UM UL 0 0,UH UI 0,UH UI 0,UH UI 0,UM UL 0 0,UH UJ 0,UH UI 0,UM UL 0 0,UM UL 0 0,UH UJ 0,.bool UP,UH UI 0]
theorem HZ{H:View}:Rd H (.agg #[UH UI 0,UM UL 0 0]) (⟨0,[]⟩:ak):=by unfold Rd;rw[if_pos (show Rep.agg ak=UO from rfl)];exact⟨_,rfl,[_],[_],rfl,⟨rfl,by decide,by decide⟩,qz.2 aS⟩
theorem AV{H:View}:Rd H (.agg #[UH UI 0,UM UL 0 0,UM UL 0 0,UH UJ 0]) nJ:=by unfold Rd;rw[if_pos (show Rep.agg cS=UO from rfl)];exact⟨_,rfl,[_],_,rfl,⟨rfl,by decide,by decide⟩,[_],_,rfl,qz.2 aS,[_],[_],rfl,qz.2 aS,rfl,by decide,by decide⟩
theorem AR{H:View}:Rd H (.agg qL.toArray) Fm:=BY (s:=Fm) HZ nz AV U3
def oP(f:ak)(b p temp:Int):cC:=if dz f b p then eJ f b p temp else Fm
set_option maxHeartbeats 400000 in
theorem IS{f:ak}{v:Value}{b p temp:Int}{h:Heap}{W:View}(hW:W.le (vw h))(hv:Rd W v f)(ht:I64 temp) :
  ay UQ 92 #[v,UH UI b,UH UI p,UH UI temp] h (λu h'=>(vw h).le (vw h')/\∃vs,u = .tuple #[vs,.bool (dz f b p)]/\Rd (grow W h h') vs (oP f b p temp)):=by
 refine aq (args:=[v,UH UI b,UH UI p,UH UI temp]) follows Tryz.func92 E.yd UC λK hK=>?_;dsimp only[L.yd,lkF,lkG];have c0:=Cx.start hW;refine aa λz hz=>?_;simp;refine c0.ey rfl hv λB h1 W1 hW1 c1 at1 hle1=>?_;refine c1.de (k:=(0,0)) (n:=12) (z:=.agg qL.toArray) rfl U0 rfl U3 U8 λR h2 hle2 c2=>?_;subst hz;obtain⟨-,vb,hb1,hb2⟩:=eU at1;have l2:=c2.wle;have hl:=hb2.len (K:=vw h2);have hb1':=ae l2 hb1;have bd:=hb2.bound;refine aa λz hz=>?_;refine aa λy hy=>?_;refine gC (λρ h5=>h5=h2/\ρ=[(0,v),(1,UH UI b),(2,UH UI p),(3,UH UI temp),(4,ptr B),(8,ptr R),(9,.bool UP),(34,.bool (!dz f b p))]) ?_ ?_
 ·intro K2 hK2;by_cases e1:b<0
  ·simp[e1];exact hK2 _ _ ⟨rfl,by simp[dz];omega⟩
  by_cases e2:(f.blocks.length:Int)<=b
  ·simp[e1,e2,hb1',hl];exact hK2 _ _ ⟨rfl,by simp[dz];omega⟩
  by_cases e3:p<0
  ·simp[e1,e2,e3,hb1',hl];exact hK2 _ _ ⟨rfl,by simp[dz];omega⟩
  have hbl:b.toNat<f.blocks.length:=by omega
  have hx:=hb2.idxn (k:=.i64) (N:=6) rfl (i:=b) U1 U1;obtain⟨vi,hv1,hv2⟩:=((hb2.at hbl).part BlkD.gO).sl;have hv1:=ae l2 hv1;have hnb:f.blocks[b.toNat]=nth f.blocks b.toNat:=(aC hbl).symm;rw[hnb]at hv2;have hx:Bn.ev (.idx 6) vb (UH UI b)=UK (UN (UK ((slA vb).add (b.toNat*Rep.n BlkD)))):=hx;simp[e1,e2,e3,hb1',hl,hx,hv1,(hv2.mono l2).len];have ei:dz f b p=decide (p<=(nth f.blocks b.toNat).ins.length):=by unfold dz;simp[show 0<=b by omega,show b<f.blocks.length by omega,show 0<=p by omega]
  exact hK2 _ _ ⟨rfl,by rw[ei,show(!decide (p<=((nth f.blocks b.toNat).ins.length:Int)))=decide (((nth f.blocks b.toNat).ins.length:Int)<p) by rw[RM];simp]⟩
 rintro _ _ ⟨rfl,rfl⟩;subst hy;cases hq:dz f b p with
 | false=>simp;refine aA (z:=.agg qL.toArray) (places:=zpf) (vs:=[]) (cs:=qL.toArray) U0 U0 U2 U0 ?_;refine c2.bG (k:=(0,0)) (n:=12) (l:=qL) Own.ao AR rfl rfl U0 rfl rfl λh9 l9 hl9 c9=>?_;have hall:=c9.all (k:=(0,0)) (n:=12) (l:=l9) (B:=R) (e:=T.wX) Own.ao;simp at hall;simp[hall];refine hK _ _ ⟨c9.le0,_,by rw[hq],?_⟩;unfold oP;rw[hq,if_neg U2,<-hl9];exact AR
 | true=>
  have hq2:=hq;simp[dz]at hq2;obtain⟨⟨⟨g1,g2⟩,g3⟩,g4⟩:=hq2;have hbl:b.toNat<f.blocks.length:=by omega
  simp;subst hz;refine aa λz hz=>?_;obtain⟨ub,hub,rub⟩:=hb2.wh rfl (N:=6) rfl hbl;have hx:=hb2.idxn (k:=.i64) (N:=6) rfl (i:=b) U1 U1;simp[hb1',hx,hub _ l2];refine c2.eC (α:=BlkD) rub (n:=6) (z:=zz3) U0 rfl rfl U0 U5 U5 λB3 h3 W3 hW3 c3 at3 hle3=>?_;subst hz;refine aa λz hz=>?_;obtain⟨vp,vi,va,vt,-,si,-⟩:=iK at3;have sim:=si.mono c3.wle;obtain⟨uf,huf,ruf⟩:=at1.ldN rfl (N:=2) rfl;have huf3:=huf _ (UF hW3 c3.wle);have ruf:=ruf.mono hW3;have hsite:oP f b p temp=eJ f b p temp:=by unfold oP;rw[hq,if_pos rfl]
  generalize hbk:nth f.blocks b.toNat=bk at *;by_cases e:p=bk.ins.length
  ·obtain⟨ut,hut,rut⟩:=(at3.part BlkD.lF).ldN rfl (N:=4) rfl;have hut:Un.ev (vw h3) (.bM 4) (UN (UK ⟨B3,2,UL⟩))=UK ut:=by simpa using hut _ c3.wle
   obtain⟨a1,m1,k1,rfl⟩:=xt ruf;obtain⟨a2,m2,k2,a3,m3,k3,rfl⟩:=EL rut;have hs:eJ f b p temp=⟨f,ix,bk.term,UO,temp⟩:=by unfold eJ;rw[hbk,if_pos e]
   have rs:Rd W3 (.agg #[UH UI f.params,.slice a1 m1 k1,UH UI 0,UH UI 0,UH UI 0,UM UL 0 0,UH UJ 0,UH UI bk.term.kind,.slice a2 m2 k2,.slice a3 m3 k3,UH UJ bk.term.imm.v,.bool UO,UH UI temp]) (eJ f b p temp):=by rw[hs];exact BY (s:=⟨f,ix,bk.term,UO,temp⟩) ruf nz rut ht
   simp[sim.1,sim.2.len,e,huf3,hut];refine aA (z:=.agg qL.toArray) (places:=zpf) (vs:=[(0,.agg #[UH UI f.params,.slice a1 m1 k1]),(2,.agg #[UH UI bk.term.kind,.slice a2 m2 k2,.slice a3 m3 k3,UH UJ bk.term.imm.v]),(3,.bool UO),(4,UH UI temp)]) (cs:=#[UH UI f.params,.slice a1 m1 k1,UH UI 0,UH UI 0,UH UI 0,UM UL 0 0,UH UJ 0,UH UI bk.term.kind,.slice a2 m2 k2,.slice a3 m3 k3,UH UJ bk.term.imm.v,.bool UO,UH UI temp]) U0 U0 U2 (by simp[Instr.fill,Value.cells]) ?_;refine c3.bG (k:=(0,0)) (n:=12) (l:=qL) Own.ao rs rfl rfl U0 rfl rfl λh9 l9 hl9 c9=>?_;have hall:=c9.all (k:=(0,0)) (n:=12) (l:=l9) (B:=R) (e:=T.wX) Own.ao;simp at hall;simp[hall];refine hK _ _ ⟨c9.le0,_,by rw[hq],?_⟩;rw[hsite,<-hl9];exact rs.mono c9.fin
  have hlt:p.toNat<bk.ins.length:=by omega
  obtain⟨ui,hui,rui⟩:=si.2.wh rfl (N:=5) rfl hlt;have hxi:=si.2.idxn (k:=.i64) (N:=5) rfl (i:=p) U1 U1;obtain⟨a1,m1,k1,rfl⟩:=xt ruf;obtain⟨a2,m2,k2,rfl⟩:=yM rui;have hs:eJ f b p temp=⟨f,nth bk.ins p.toNat,nJ,UP,temp⟩:=by unfold eJ;rw[hbk,if_neg e]
  generalize nth bk.ins p.toNat=xi at *;have rs:Rd W3 (.agg #[UH UI f.params,.slice a1 m1 k1,UH UI xi.op,UH UI xi.dst,UH UI xi.two,.slice a2 m2 k2,UH UJ xi.imm.v,UH UI 0,UM UL 0 0,UM UL 0 0,UH UJ 0,.bool UP,UH UI temp]) (eJ f b p temp):=by rw[hs];exact BY (s:=⟨f,xi,nJ,UP,temp⟩) ruf rui AV ht
  simp[sim.1,sim.2.len,e];subst hz;refine aa λz hz=>?_;refine aK W3 c3.wle ?_;simp[huf W3 hW3,si.1,hxi,hui W3 UE];refine aA (z:=.agg qL.toArray) (places:=zpf) (vs:=[(0,.agg #[UH UI f.params,.slice a1 m1 k1]),(1,.agg #[UH UI xi.op,UH UI xi.dst,UH UI xi.two,.slice a2 m2 k2,UH UJ xi.imm.v]),(4,UH UI temp)]) (cs:=#[UH UI f.params,.slice a1 m1 k1,UH UI xi.op,UH UI xi.dst,UH UI xi.two,.slice a2 m2 k2,UH UJ xi.imm.v,UH UI 0,UM UL 0 0,UM UL 0 0,UH UJ 0,.bool UP,UH UI temp]) U0 U0 U2 (by simp[Instr.fill,Value.cells]) ?_;refine c3.bG (k:=(0,0)) (n:=12) (l:=qL) Own.ao rs rfl rfl U0 rfl rfl λh9 l9 hl9 c9=>?_;subst hz;have hall:=c9.all (k:=(0,0)) (n:=12) (l:=l9) (B:=R) (e:=T.wX) Own.ao;simp at hall;simp[hall];refine hK _ _ ⟨c9.le0,_,by rw[hq],?_⟩;rw[hsite,<-hl9];exact rs.mono c9.fin
variable{po po2:OP}
theorem Cx.dW{V W:View}{h0 h:Heap}{o:Own}{k:Key}{P:Program}{ty:TypeId}{us:List (Nat × Value)}{n i:Nat}{e t:TypeId}{B:Nat}{l:List Value}{x y:Operand}{u:Value}{K:Value->Heap->Prop}(c:Cx V h0 W h o)(hk:o k=bx e B (RawN.mk (n:=n) l))(hi:i<=n)(hsz:cU P t=UK 1)(hx:asg us x = UN (UK ⟨B,i,UL⟩))(hy:asg us y=u)(hu:u.oneCell'=UO)
  (hK : ∀h',Cx V h0 W h' (o.upd k (bx e B (RawN.mk (n:=n) (l.set i u))))->K undef h'):@step po P (.store t x y) ty us h K:=
 c.own.dW hk hi hsz hx hy hu λh2 w hX=>hK _ ⟨w,c.old,hX _ c.le0 (View.b8 UE (c.new k _ B hk rfl)),λj i b hj hb=>by
  by_cases e:j=k
  ·subst e;rw[Own.ao]at hj;cases hj;exact c.new _ _ b hk hb
  rw[Own.aB e]at hj;exact c.new j i b hj hb⟩
end Go.Lft
namespace Go.Lft
structure zR(t:cS):Prop where
 one:t.kind=2\/t.kind=3->1<=t.args.length
 most:t.args.length<=10000
 to:t.to.length<=10000
theorem Es{H:View}{x0 x1 x2 va x4:Value}{i:InsD}(h:Rd H (.agg #[x0,x1,x2,va,x4]) i):SlRd H va i.args:=by unfold Rd at h;rw[if_pos (show Rep.agg InsD=UO from rfl)]at h;obtain⟨cs,e0,c1,_,e,h1,c2,_,rfl,h2,c3,_,rfl,h3,c4,c5,rfl,h4,h5⟩:=h;cases e0;rw[h1.1,h2.1,h3.1,h5.1]at e;obtain⟨v,rfl⟩:=we h4;simp at e;obtain⟨-,-,-,rfl,-⟩:=e;exact qz.1 h4
set_option maxHeartbeats 4000000 in
theorem OZ{s:cC}{v:Value}{pat:Int}{h:Heap}{W:View}(hW:W.le (vw h))(hv:Rd W v s)(hok:mJ s)(htk:zR s.t)(hp:I64 pat) :
    ay UQ 138 #[v,UH UI pat] h (λu h'=>cg W h h' u (iA s.f s.t pat)):=by
  refine aq (args:=[v,UH UI pat]) follows Tryz.func138 E.fy UC λK hK=>?_
  dsimp only[L.fy,lkF,lkG]
  have c0:=Cx.start hW
  refine aa λz hz=>?_
  simp
  refine c0.ey rfl hv λS h1 W1 hW1 c1 at1 hle1=>?_
  refine c1.de (k:=(0,0)) (n:=7) (z:=.agg fitZ.toArray) rfl U0 rfl U3 U8 λR h2 hle2 c2=>?_
  subst hz
  refine aa λz hz=>?_
  obtain⟨ut,hut,rut⟩:=(at1.part cC.QX).ldN rfl (N:=4) rfl
  have hut:Un.ev (vw h2) (.bM 4) (UN (UK ⟨S,7,UL⟩))=UK ut:=by simpa using hut _ c2.wle
  simp[hut]
  refine c2.eC (α:=cS) rut (n:=4) (z:=zz9) U0 rfl rfl U0 U5 U5 λTb h3 W3 hW3 c3 at3 hle3=>?_
  have t0:=(at3.part cS.yU).int
  obtain⟨va,t1,hva⟩:=(at3.part cS.eX).sl
  obtain⟨vt,t2,hvt⟩:=(at3.part cS.Af).sl
  have t3:=(at3.part cS.jD).i32
  have ri:=(at3.part cS.jD).nY
  have t0:an W3 ⟨Tb,0,UL⟩=UK (UH UI s.t.kind):=by simpa using t0
  have t1:an W3 ⟨Tb,1,UL⟩=UK va:=by simpa using t1
  have t2:an W3 ⟨Tb,2,UL⟩=UK vt:=by simpa using t2
  have t3:an W3 ⟨Tb,3,UL⟩=UK (UH UJ s.t.imm.v):=by simpa using t3
  have most:=htk.most
  have mosto:=htk.to
  subst hz
  refine aa λz hz=>?_
  simp[ae c3.wle t2]
  refine ah U0 (eO c3.wle hvt U1) ?_
  rintro uto h4 ⟨hle4,hto⟩
  have c4:=c3.ext hle4
  have hW4:=c3.up (h':=h4)
  have hto0:=hto
  obtain⟨b0,k0,rfl,-⟩:=hto0
  generalize grow W3 h3 h4=W4 at *
  have s0:=ae hW4 t0
  have s1:=ae hW4 t1
  have s3:=ae hW4 t3
  have hva4:=hva.mono hW4
  have z0:=ae c4.wle s0
  have z1:=ae c4.wle s1
  have z3:=ae c4.wle s3
  clear t0 t1 t2 t3 hut hle1 hle2 hle3 hle4
  subst hz
  refine aa λz hz=>?_
  simp only[aW]
  refine aa λy hy=>?_
  by_cases p1:pat=0/\s.t.kind=1
  · have he:iA s.f s.t pat=UK ⟨[],[],[],⟨1,0,0,s.t.to,⟨0⟩⟩⟩:=by unfold iA;rw[if_pos p1]
    simp[p1.1,z0,p1.2]
    subst hy
    simp
    refine aA (t:=T.eS) (z:=.agg #[UH UI 0,UH UI 0,UH UI 0,UM UL 0 0,UH UJ 0]) (places:=zpa) (vs:=[(0,UH UI 1),(3,.slice b0 s.t.to.length k0)]) (cs:=#[UH UI 1,UH UI 0,UH UI 0,.slice b0 s.t.to.length k0,UH UJ 0]) U0 U0 U2 (by simp[Instr.fill,Value.cells]) ?_
    refine aA (t:=T.bf) (z:=.agg fitZ.toArray) (places:=zpc) (vs:=[(3,.agg #[UH UI 1,UH UI 0,UH UI 0,.slice b0 s.t.to.length k0,UH UJ 0])]) (cs:=#[UM UL 0 0,UM UL 0 0,UM UL 0 0,UH UI 1,UH UI 0,UH UI 0,.slice b0 s.t.to.length k0,UH UJ 0]) U0 U0 U2 (by simp[Instr.fill,Value.cells]) ?_
    have hr:Rd W4 (.agg #[UM UL 0 0,UM UL 0 0,UM UL 0 0,UH UI 1,UH UI 0,UH UI 0,.slice b0 s.t.to.length k0,UH UJ 0]) (⟨[],[],[],⟨1,0,0,s.t.to,⟨0⟩⟩⟩:FitD):=nv (ce:=[_,_,_,_,_]) aS aS aS (mH (imm:=⟨0⟩) U2 U2 hto)
    refine c4.bG (k:=(0,0)) (n:=7) (l:=fitZ) U4 hr rfl rfl U0 rfl rfl λh9 l9 hl9 c9=>?_
    have hall:=c9.all (k:=(0,0)) (n:=7) (l:=l9) (B:=R) (e:=T.bf) U4
    simp at hall
    simp[hall]
    exact hK _ _ (cg.of c9 (hl9▸hr) (by rw[he];rfl) λy e=>by rw[he]at e;cases e;rfl)
  refine gC (λρ h5=>h5=h4/\ρ=[(0,v),(1,UH UI pat),(2,ptr S),(4,ptr R),(5,.bool UP),(6,ptr Tb),(7,.slice b0 s.t.to.length k0),(13,ut),(16,.slice b0 s.t.to.length k0),(17,.bool UP)]) ?_ ?_
  · intro K2 hK2
    by_cases e0:pat=0
    · have e2:¬s.t.kind=1:=λe=>p1 ⟨e0,e⟩
      simp[e0,z0,e2]
      exact hK2 _ _ ⟨rfl,by rw[e0]⟩
    · simp[e0,z0]
      exact hK2 _ _ ⟨rfl,rfl⟩
  rintro _ h4 ⟨rfl,rfl⟩
  subst hy
  refine bg U2 ?_
  refine aa λy hy=>?_
  by_cases p2:pat=0/\s.t.kind=4
  · have he:iA s.f s.t pat=UK ⟨s.t.args,[],[],⟨7,if s.t.args=[] then -1 else nth s.t.args 0,0,[],⟨0⟩⟩⟩:=by unfold iA;rw[if_neg p1,if_pos p2]
    simp[p2.1,z0,p2.2]
    subst hy
    refine aQ U2 ?_
    refine aa λy hy=>?_
    simp
    refine aA (t:=T.eS) (z:=.agg #[UH UI 0,UH UI 0,UH UI 0,UM UL 0 0,UH UJ 0]) (places:=zpa) (vs:=[(0,UH UI 7),(1,UH UI (-1))]) (cs:=#[UH UI 7,UH UI (-1),UH UI 0,UM UL 0 0,UH UJ 0]) U0 U0 U2 (by simp[Instr.fill,Value.cells]) ?_
    refine c4.de (k:=(0,1)) (n:=4) (z:=.agg #[UH UI 0,UH UI 0,UH UI 0,UM UL 0 0,UH UJ 0]) U4 U0 rfl U3 U8 λEb h5 hle5 c5=>?_
    refine c5.tI (k:=(0,1)) (n:=4) (l:=[UH UI 0,UH UI 0,UH UI 0,UM UL 0 0,UH UJ 0]) (l':=[UH UI 7,UH UI (-1),UH UI 0,UM UL 0 0,UH UJ 0]) U4 U0 rfl rfl rfl U7 λh6 c6=>?_
    subst hy
    have y1:=ae c6.wle s1
    have hlen:=hva4.len (K:=vw h6)
    generalize hae:(if s.t.args=[] then(-1:Int) else nth s.t.args 0)=a at *
    refine aa λy hy=>?_
    refine gC (λρ h7=>∃o6,Cx W h W4 h7 o6/\o6 (0,0)=bx T.bf R (RawN.mk (n:=7) fitZ)/\o6 (0,1)=bx T.eS Eb (RawN.mk (n:=4) [UH UI 7,UH UI a,UH UI 0,UM UL 0 0,UH UJ 0])/\(-9223372036854775808<=a/\a<=9223372036854775807)/\
      ρ=[(0,v),(1,UH UI 0),(2,ptr S),(4,ptr R),(5,.bool UP),(6,ptr Tb),(7,.slice b0 s.t.to.length k0),(8,ptr Eb),(13,ut),(16,.slice b0 s.t.to.length k0),(36,.agg #[UH UI 7,UH UI (-1),UH UI 0,UM UL 0 0,UH UJ 0])]) ?_ ?_
    · intro K2 hK2
      by_cases ea:s.t.args=[]
      · have el:(s.t.args.length:Int)=0:=by rw[ea];rfl
        rw[if_pos ea]at hae
        subst hae
        simp[y1,hlen,ea]
        exact hK2 _ _ ⟨_,c6,by rfl,by rfl,by decide,rfl⟩
      · have el:=List.length_pos_iff.2 ea
        rw[if_neg ea]at hae
        have a0:=hva4.rng (i:=0) el
        have x0:=hva4.idx1 (k:=.i64) (i:=0) rfl U3 U1
        have d0:=hva4.int c6.wle (i:=0) el
        simp[y1,hlen,el,x0,d0]
        refine c6.dW (k:=(0,1)) (n:=4) (i:=1) (l:=[UH UI 7,UH UI (-1),UH UI 0,UM UL 0 0,UH UJ 0]) U4 U3 U0 rfl rfl rfl λh7 c7=>?_
        exact hK2 _ _ ⟨_,c7,by rfl,by rw[<-hae];rfl,by rw[<-hae];exact a0,rfl⟩
    · rintro _ h7 ⟨o6,c7,k00,k01,ar,rfl⟩
      subst hy
      refine aa λy hy=>?_
      refine aK (vw h7) UE ?_
      have hall7:=c7.all k01
      simp at hall7
      simp[ae c7.wle s1,hall7]
      refine ah U0 (eO c7.wle hva4 U1) ?_
      rintro ucl h8 ⟨hle8,hcl⟩
      refine⟨hle8,?_⟩
      have c8:=c7.ext hle8
      have hW8:=c7.up (h':=h8)
      have hcl0:=hcl
      obtain⟨b1,k1,rfl,-⟩:=hcl0
      refine aA (t:=T.bf) (z:=.agg fitZ.toArray) (places:=zpc) (vs:=[(0,.slice b1 s.t.args.length k1),(3,.agg #[UH UI 7,UH UI a,UH UI 0,UM UL 0 0,UH UJ 0])]) (cs:=#[.slice b1 s.t.args.length k1,UM UL 0 0,UM UL 0 0,UH UI 7,UH UI a,UH UI 0,UM UL 0 0,UH UJ 0]) U0 U0 U2 (by simp[Instr.fill,Value.cells]) ?_
      have hr:Rd (grow W4 h7 h8) (.agg #[.slice b1 s.t.args.length k1,UM UL 0 0,UM UL 0 0,UH UI 7,UH UI a,UH UI 0,UM UL 0 0,UH UJ 0]) (⟨s.t.args,[],[],⟨7,a,0,[],⟨0⟩⟩⟩:FitD):=nv (ce:=[_,_,_,_,_]) hcl aS aS (mH (imm:=⟨0⟩) U9 U2 aS)
      refine c8.bG (k:=(0,0)) (n:=7) (l:=fitZ) k00 hr rfl rfl U0 rfl rfl λh9 l9 hl9 c9=>?_
      subst hy
      have hall:=c9.all (k:=(0,0)) (n:=7) (l:=l9) (B:=R) (e:=T.bf) Own.ao
      simp at hall
      simp[hall]
      exact hK _ _ (cg.of c9 (hl9▸hr) (by rw[he];rfl) λy e=>by rw[he]at e;cases e;rfl)
  refine gC (λρ h5=>h5=h4/\ρ=[(0,v),(1,UH UI pat),(2,ptr S),(4,ptr R),(5,.bool UP),(6,ptr Tb),(7,.slice b0 s.t.to.length k0),(13,ut),(16,.slice b0 s.t.to.length k0),(28,.bool UP)]) ?_ ?_
  · intro K2 hK2
    by_cases e0:pat=0
    · have e2:¬s.t.kind=4:=λe=>p2 ⟨e0,e⟩
      simp[e0,z0,e2]
      exact hK2 _ _ ⟨rfl,by rw[e0]⟩
    · simp[e0,z0]
      exact hK2 _ _ ⟨rfl,rfl⟩
  rintro _ h4 ⟨rfl,rfl⟩
  subst hy
  refine bg U2 ?_
  refine aa λy hy=>?_
  by_cases p3:pat=0/\s.t.kind=5
  · have he:iA s.f s.t pat=UK ⟨[],[],[],⟨8,0,0,[],s.t.imm⟩⟩:=by unfold iA;rw[if_neg p1,if_neg p2,if_pos p3]
    simp[p3.1,z0,p3.2]
    subst hy
    simp[z3]
    refine aA (t:=T.eS) (z:=.agg #[UH UI 0,UH UI 0,UH UI 0,UM UL 0 0,UH UJ 0]) (places:=zpa) (vs:=[(0,UH UI 8),(4,UH UJ s.t.imm.v)]) (cs:=#[UH UI 8,UH UI 0,UH UI 0,UM UL 0 0,UH UJ s.t.imm.v]) U0 U0 U2 (by simp[Instr.fill,Value.cells]) ?_
    refine aA (t:=T.bf) (z:=.agg fitZ.toArray) (places:=zpc) (vs:=[(3,.agg #[UH UI 8,UH UI 0,UH UI 0,UM UL 0 0,UH UJ s.t.imm.v])]) (cs:=#[UM UL 0 0,UM UL 0 0,UM UL 0 0,UH UI 8,UH UI 0,UH UI 0,UM UL 0 0,UH UJ s.t.imm.v]) U0 U0 U2 (by simp[Instr.fill,Value.cells]) ?_
    have hr:Rd W4 (.agg #[UM UL 0 0,UM UL 0 0,UM UL 0 0,UH UI 8,UH UI 0,UH UI 0,UM UL 0 0,UH UJ s.t.imm.v]) (⟨[],[],[],⟨8,0,0,[],s.t.imm⟩⟩:FitD):=nv (ce:=[_,_,_,_,_]) aS aS aS (mH U2 ri aS)
    refine c4.bG (k:=(0,0)) (n:=7) (l:=fitZ) U4 hr rfl rfl U0 rfl rfl λh9 l9 hl9 c9=>?_
    have hall:=c9.all (k:=(0,0)) (n:=7) (l:=l9) (B:=R) (e:=T.bf) U4
    simp at hall
    simp[hall]
    exact hK _ _ (cg.of c9 (hl9▸hr) (by rw[he];rfl) λy e=>by rw[he]at e;cases e;rfl)
  refine gC (λρ h5=>h5=h4/\ρ=[(0,v),(1,UH UI pat),(2,ptr S),(4,ptr R),(5,.bool UP),(6,ptr Tb),(7,.slice b0 s.t.to.length k0),(13,ut),(16,.slice b0 s.t.to.length k0),(51,.bool UP)]) ?_ ?_
  · intro K2 hK2
    by_cases e0:pat=0
    · have e2:¬s.t.kind=5:=λe=>p3 ⟨e0,e⟩
      simp[e0,z0,e2]
      exact hK2 _ _ ⟨rfl,by rw[e0]⟩
    · simp[e0,z0]
      exact hK2 _ _ ⟨rfl,rfl⟩
  rintro _ h4 ⟨rfl,rfl⟩
  subst hy
  refine bg U2 ?_
  refine aa λy hy=>?_
  by_cases p4:pat=33/\s.t.kind=2
  · have he:iA s.f s.t pat=UK ⟨s.t.args,[],[],⟨2,nth s.t.args 0,0,s.t.to,⟨0⟩⟩⟩:=by unfold iA;rw[if_neg p1,if_neg p2,if_neg p3,if_pos p4]
    have al:=htk.one U1
    have a0:=hva4.rng (i:=0) al
    have x0:=hva4.idx1 (k:=.i64) (i:=0) rfl U3 U1
    have d0:=hva4.int (View.le_refl W4) (i:=0) al
    simp[p4.1,z0,p4.2]
    subst hy
    refine aQ U2 ?_
    refine aa λy hy=>?_
    refine aK W4 c4.wle ?_
    simp[s1,x0,d0]
    refine⟨?_,?_⟩
    · refine ah U0 (eO c4.wle hva4 U1) ?_
      rintro ucl h5 ⟨hle5,hcl⟩
      have c5:=c4.ext hle5
      have hW5:=c4.up (h':=h5)
      refine⟨UF hW5 c5.wle,?_⟩
      have hcl0:=hcl
      obtain⟨b1,k1,rfl,-⟩:=hcl0
      generalize grow W4 h4 h5=W5 at *
      refine aA (t:=T.eS) (z:=.agg #[UH UI 0,UH UI 0,UH UI 0,UM UL 0 0,UH UJ 0]) (places:=zpa) (vs:=[(0,UH UI 2),(1,UH UI (nth s.t.args 0)),(3,.slice b0 s.t.to.length k0)]) (cs:=#[UH UI 2,UH UI (nth s.t.args 0),UH UI 0,.slice b0 s.t.to.length k0,UH UJ 0]) U0 U0 U2 (by simp[Instr.fill,Value.cells]) ?_
      refine⟨UF hW5 c5.wle,?_⟩
      refine aA (t:=T.bf) (z:=.agg fitZ.toArray) (places:=zpc) (vs:=[(0,.slice b1 s.t.args.length k1),(3,.agg #[UH UI 2,UH UI (nth s.t.args 0),UH UI 0,.slice b0 s.t.to.length k0,UH UJ 0])]) (cs:=#[.slice b1 s.t.args.length k1,UM UL 0 0,UM UL 0 0,UH UI 2,UH UI (nth s.t.args 0),UH UI 0,.slice b0 s.t.to.length k0,UH UJ 0]) U0 U0 U2 (by simp[Instr.fill,Value.cells]) ?_
      have hr:Rd W5 (.agg #[.slice b1 s.t.args.length k1,UM UL 0 0,UM UL 0 0,UH UI 2,UH UI (nth s.t.args 0),UH UI 0,.slice b0 s.t.to.length k0,UH UJ 0]) (⟨s.t.args,[],[],⟨2,nth s.t.args 0,0,s.t.to,⟨0⟩⟩⟩:FitD):=nv (ce:=[_,_,_,_,_]) hcl aS aS (mH (imm:=⟨0⟩) U9 U2 (hto.mono hW5))
      refine c5.bG (k:=(0,0)) (n:=7) (l:=fitZ) U4 hr rfl rfl U0 rfl rfl λh9 l9 hl9 c9=>?_
      subst hy
      have hall:=c9.all (k:=(0,0)) (n:=7) (l:=l9) (B:=R) (e:=T.bf) U4
      simp at hall
      simp[hall]
      exact hK _ _ (cg.of c9 (hl9▸hr) (by rw[he];rfl) λy e=>by rw[he]at e;cases e;rfl)
    · refine aA (t:=T.eS) (z:=.agg #[UH UI 0,UH UI 0,UH UI 0,UM UL 0 0,UH UJ 0]) (places:=zpa) (vs:=[(0,UH UI 2),(1,UH UI (nth s.t.args 0)),(3,.slice b0 s.t.to.length k0)]) (cs:=#[UH UI 2,UH UI (nth s.t.args 0),UH UI 0,.slice b0 s.t.to.length k0,UH UJ 0]) U0 U0 U2 (by simp[Instr.fill,Value.cells]) ?_
      refine⟨c4.wle,?_⟩
      refine ah U0 (eO c4.wle hva4 U1) ?_
      rintro ucl h5 ⟨hle5,hcl⟩
      have c5:=c4.ext hle5
      have hW5:=c4.up (h':=h5)
      refine⟨UF hW5 c5.wle,?_⟩
      have hcl0:=hcl
      obtain⟨b1,k1,rfl,-⟩:=hcl0
      generalize grow W4 h4 h5=W5 at *
      refine aA (t:=T.bf) (z:=.agg fitZ.toArray) (places:=zpc) (vs:=[(0,.slice b1 s.t.args.length k1),(3,.agg #[UH UI 2,UH UI (nth s.t.args 0),UH UI 0,.slice b0 s.t.to.length k0,UH UJ 0])]) (cs:=#[.slice b1 s.t.args.length k1,UM UL 0 0,UM UL 0 0,UH UI 2,UH UI (nth s.t.args 0),UH UI 0,.slice b0 s.t.to.length k0,UH UJ 0]) U0 U0 U2 (by simp[Instr.fill,Value.cells]) ?_
      have hr:Rd W5 (.agg #[.slice b1 s.t.args.length k1,UM UL 0 0,UM UL 0 0,UH UI 2,UH UI (nth s.t.args 0),UH UI 0,.slice b0 s.t.to.length k0,UH UJ 0]) (⟨s.t.args,[],[],⟨2,nth s.t.args 0,0,s.t.to,⟨0⟩⟩⟩:FitD):=nv (ce:=[_,_,_,_,_]) hcl aS aS (mH (imm:=⟨0⟩) U9 U2 (hto.mono hW5))
      refine c5.bG (k:=(0,0)) (n:=7) (l:=fitZ) U4 hr rfl rfl U0 rfl rfl λh9 l9 hl9 c9=>?_
      subst hy
      have hall:=c9.all (k:=(0,0)) (n:=7) (l:=l9) (B:=R) (e:=T.bf) U4
      simp at hall
      simp[hall]
      exact hK _ _ (cg.of c9 (hl9▸hr) (by rw[he];rfl) λy e=>by rw[he]at e;cases e;rfl)
  refine gC (λρ h5=>h5=h4/\ρ=[(0,v),(1,UH UI pat),(2,ptr S),(4,ptr R),(5,.bool UP),(6,ptr Tb),(7,.slice b0 s.t.to.length k0),(13,ut),(16,.slice b0 s.t.to.length k0),(63,.bool UP)]) ?_ ?_
  · intro K2 hK2
    by_cases e0:pat=33
    · have e2:¬s.t.kind=2:=λe=>p4 ⟨e0,e⟩
      simp[e0,z0,e2]
      exact hK2 _ _ ⟨rfl,by rw[e0]⟩
    · simp[e0,z0]
      exact hK2 _ _ ⟨rfl,rfl⟩
  rintro _ h4 ⟨rfl,rfl⟩
  subst hy
  refine bg U2 ?_
  refine aa λy hy=>?_
  by_cases p5:(34<=pat/\pat<=36)/\s.t.kind=2
  · have w5:inR pat 34 36=true:=by simp[inR,p5.1.1,p5.1.2]
    have al:=htk.one U1
    have a0:=hva4.rng (i:=0) al
    have x0:=hva4.idx1 (k:=.i64) (i:=0) rfl U3 U1
    simp
    refine ah U0 jZ ?_
    rintro _ h4 ⟨rfl,rfl⟩
    simp[w5,z0,p5.2]
    subst hy
    refine aQ U2 ?_
    refine aa λy hy=>?_
    simp
    subst hy
    refine aa λy hy=>?_
    refine aK (vw h4) UE ?_
    obtain⟨us,hus,rus⟩:=at1.ldN rfl (N:=13) rfl
    have hus:=hus _ (UF hW3 (UF hW4 c4.wle))
    have rus:=rus.mono (UF hW3 hW4)
    have d0:=hva4.int c4.wle (i:=0) al
    have ek:(11:Int)+(pat-34)=pat-23:=by omega
    have ew0:IntKind.i64.wrap (pat-34)=pat-34:=bc U1 U1
    have ew:IntKind.i64.wrap (11+(pat-34))=pat-23:=by rw[bc U1 U1];omega
    have ew2:IntKind.i64.wrap (3+(pat-34))=pat-31:=by rw[bc U1 U1];omega
    have hE:iA s.f s.t pat=if(aJ s.f (nth s.t.args 0) (pat-23)).2 then UK ⟨(aJ s.f (nth s.t.args 0) (pat-23)).1.args,s.t.args,[],⟨pat-31,nth (aJ s.f (nth s.t.args 0) (pat-23)).1.args 0,nth (aJ s.f (nth s.t.args 0) (pat-23)).1.args 1,s.t.to,⟨0⟩⟩⟩ else none:=by
      unfold iA;rw[if_neg p1,if_neg p2,if_neg p3,if_neg p4,if_pos p5]
    have hfm:=ff (f:=s.f) (v:=nth s.t.args 0) (op:=pat-23)
    have hfo:=oU (s:=s) (v:=us) (x:=nth s.t.args 0) (op:=pat-23) (W:=W4) (h:=h4)
    have rng : ∀{hx:Heap} {Wx:View},Cx W h Wx hx (Own.upd (λ_=>UL) (0,0) (bx T.bf R (RawN.mk (n:=7) fitZ)))->True:=λ_=>trivial
    generalize hm:(aJ s.f (nth s.t.args 0) (pat-23)).1=m at *
    generalize hbb:(aJ s.f (nth s.t.args 0) (pat-23)).2=b at *
    have c:=c4
    have hrefl:(vw h4).le (vw h4):=View.le_refl _
    repeat' (first
      | refine jg ?_ ?_
      | (refine dh λx hx=>?_
         simp[s1,z1,x0,d0,hus,ew0,ew]
         first
         | refine c.de (k:=(0,2)) (n:=4) (z:=.agg #[UH UI 0,UH UI 0,UH UI 0,UM UL 0 0,UH UJ 0]) U4 U0 rfl U3 U8 λBi h hle c=>?_
         | (refine ah U0 (oU c.wle rus hok.sm a0) ?_
            rw[hm,hbb]
            rintro _ h ⟨hle,vm,rfl,hvm⟩
            have hW:=c.up (h':=h)
            have c:=c.ext hle)
         | refine c.bG (k:=(0,2)) (n:=4) (l:=[UH UI 0,UH UI 0,UH UI 0,UM UL 0 0,UH UJ 0]) U4 (hvm.mono UD) rfl rfl U0 rfl rfl λh l10 hl10 c=>?_
         try refine⟨UD,?_⟩
         subst hx))
    all_goals
      simp
      subst hy
      have hvm0:=hvm
      obtain⟨a3,m3,k3,rfl⟩:=yM hvm0
      have hl10:=hl10
      have e10:l10=[UH UI m.op,UH UI m.dst,UH UI m.two,.slice a3 m3 k3,UH UJ m.imm.v]:=by
        simp only[Value.agg.injEq]at hl10
        have:=congrArg Array.toList hl10
        simpa using this.symm
      subst e10
      have y10:=c.own.raw (k:=(0,2)) (n:=4) (l:=[UH UI m.op,UH UI m.dst,UH UI m.two,.slice a3 m3 k3,UH UJ m.imm.v]) (B:=Bi) (e:=T.eY) U4 (i:=3) U3
      simp at y10
      have hma:=Es hvm
      cases b with
      | false=>
        have he:iA s.f s.t pat=none:=by rw[hE];rfl
        refine aa λy hy=>?_
        simp
        refine aA (z:=.agg fitZ.toArray) (places:=zpc) (vs:=[]) (cs:=fitZ.toArray) U0 U0 U2 U0 ?_
        refine c.bG (k:=(0,0)) (n:=7) (l:=fitZ) U4 gq rfl rfl U0 rfl rfl λh9 l9 hl9 c9=>?_
        have hall:=c9.all (k:=(0,0)) (n:=7) (l:=l9) (B:=R) (e:=T.bf) U4
        simp at hall
        simp[hall]
        exact hK _ _ (cg.of c9 (hl9▸gq) (by rw[he];rfl) λy e=>by rw[he]at e;cases e)
      | true=>
        have he:iA s.f s.t pat=UK ⟨m.args,s.t.args,[],⟨pat-31,nth m.args 0,nth m.args 1,s.t.to,⟨0⟩⟩⟩:=by rw[hE];rfl
        obtain⟨mm1,mm2,-⟩:=hfm rfl
        have hal2:=(hok.all _ mm1).two U1
        have hmost:=(hok.all _ mm1).most
        have r0:=hma.rng (i:=0) U1
        have r1:=hma.rng (i:=1) U1
        have x2':=hma.idx1 (k:=.i64) (i:=0) rfl U3 U1
        have x3':=hma.idx1 (k:=.i64) (i:=1) rfl U3 U1
        refine aa λy hy=>?_
        simp
        subst hy
        refine aa λy hy=>?_
        refine aK (vw h) UE ?_
        have d2':=hma.int (UF UD c.wle) (i:=0) U1
        have d3':=hma.int (UF UD c.wle) (i:=1) U1
        have s1h:=ae (UF UD c.wle) s1
        have d0h:=hva4.int (UF UD c.wle) (i:=0) al
        have hva5:=hva4.mono UD
        have hto5:=hto.mono UD
        have hma5:=hma.mono UD
        have hH:(vw h).le (vw h):=View.le_refl _
        have hr : ∀{X:View} {bA bB:Option Addr} {kA kB:Nat},SlRd X (.slice bA m.args.length kA) m.args->SlRd X (.slice bB s.t.args.length kB) s.t.args->SlRd X (.slice b0 s.t.to.length k0) s.t.to->Rd X (.agg #[.slice bA m.args.length kA,.slice bB s.t.args.length kB,UM UL 0 0,UH UI (pat-31),UH UI (nth m.args 0),UH UI (nth m.args 1),.slice b0 s.t.to.length k0,UH UJ 0]) (⟨m.args,s.t.args,[],⟨pat-31,nth m.args 0,nth m.args 1,s.t.to,⟨0⟩⟩⟩:FitD):=λq1 q2 q3=>nv (ce:=[_,_,_,_,_]) q1 q2 aS (mH (imm:=⟨0⟩) U9 U2 q3)
        repeat' (first
          | refine jg ?_ ?_
          | (refine dh λx hx=>?_
             simp[y10,s1h,x2',x3',d2',d3',ew2]
             first
             | refine aA (t:=T.eS) (z:=.agg #[UH UI 0,UH UI 0,UH UI 0,UM UL 0 0,UH UJ 0]) (places:=zpa) (vs:=[(0,UH UI (pat-31)),(1,UH UI (nth m.args 0)),(2,UH UI (nth m.args 1)),(3,.slice b0 s.t.to.length k0)]) (cs:=#[UH UI (pat-31),UH UI (nth m.args 0),UH UI (nth m.args 1),.slice b0 s.t.to.length k0,UH UJ 0]) U0 U0 U2 (by simp[Instr.fill,Value.cells]) ?_
             | (refine ah U0 (eO c.wle (hma5.mono UD) U1) ?_
                rintro uA h ⟨hle,hcA⟩
                have hW:=c.up (h':=h)
                have c:=c.ext hle
                have hcA0:=hcA
                obtain⟨bA,kA,rfl,-⟩:=hcA0)
             | (refine ah U0 (eO c.wle (hva5.mono UD) U1) ?_
                rintro uB h ⟨hle,hcB⟩
                have hW:=c.up (h':=h)
                have c:=c.ext hle
                have hcB0:=hcB
                obtain⟨bB,kB,rfl,-⟩:=hcB0)
             | refine aA (t:=T.bf) (z:=.agg fitZ.toArray) (places:=zpc) (vs:=[(0,.slice bA m.args.length kA),(1,.slice bB s.t.args.length kB),(3,.agg #[UH UI (pat-31),UH UI (nth m.args 0),UH UI (nth m.args 1),.slice b0 s.t.to.length k0,UH UJ 0])]) (cs:=#[.slice bA m.args.length kA,.slice bB s.t.args.length kB,UM UL 0 0,UH UI (pat-31),UH UI (nth m.args 0),UH UI (nth m.args 1),.slice b0 s.t.to.length k0,UH UJ 0]) U0 U0 U2 (by simp[Instr.fill,Value.cells]) ?_
             | refine c.bG (k:=(0,0)) (n:=7) (l:=fitZ) U4 (hr (hcA.mono UD) (hcB.mono UD) (hto5.mono UD)) rfl rfl U0 rfl rfl λh l9 hl9 c=>?_
             try refine⟨UD,?_⟩
             subst hx))
        all_goals
          simp
          rw[hy]
          have hall:=c.all (k:=(0,0)) (n:=7) (l:=l9) (B:=R) (e:=T.bf) U4
          simp at hall
          simp[hall]
          exact hK _ _ (cg.of c (hl9▸hr (hcA.mono UD) (hcB.mono UD) (hto5.mono UD)) (by rw[he];rfl) λy e=>by rw[he]at e;cases e;rfl)
  refine gC (λρ h5=>h5=h4/\ρ=[(0,v),(1,UH UI pat),(2,ptr S),(4,ptr R),(5,.bool UP),(6,ptr Tb),(7,.slice b0 s.t.to.length k0),(13,ut),(16,.slice b0 s.t.to.length k0),(81,.bool UP),(83,.bool (inR pat 34 36))]) ?_ ?_
  · intro K2 hK2
    simp
    refine ah U0 jZ ?_
    rintro _ h4 ⟨rfl,rfl⟩
    by_cases e0:inR pat 34 36=UO
    · have e2:¬s.t.kind=2:=λe=>p5 ⟨by simpa[inR]using e0,e⟩
      simp[e0,z0,e2]
      exact hK2 _ _ ⟨rfl,by rw[e0]⟩
    · have e0:inR pat 34 36=false:=by simpa using e0
      simp[e0]
      exact hK2 _ _ ⟨rfl,by rw[e0]⟩
  rintro _ h4 ⟨rfl,rfl⟩
  subst hy
  refine bg U2 ?_
  refine aa λy hy=>?_
  by_cases p6:pat=37/\s.t.kind=3
  · have he:iA s.f s.t pat=UK ⟨s.t.args,[],[],⟨6,nth s.t.args 0,0,s.t.to,⟨0⟩⟩⟩:=by unfold iA;rw[if_neg p1,if_neg p2,if_neg p3,if_neg p4,if_neg p5,if_pos p6]
    have al:=htk.one U1
    have a0:=hva4.rng (i:=0) al
    have x0:=hva4.idx1 (k:=.i64) (i:=0) rfl U3 U1
    have d0:=hva4.int (View.le_refl W4) (i:=0) al
    simp[p6.1,z0,p6.2]
    subst hy
    refine aQ U2 ?_
    refine aa λy hy=>?_
    refine aK W4 c4.wle ?_
    simp[s1,x0,d0]
    refine⟨?_,?_⟩
    · refine ah U0 (eO c4.wle hva4 U1) ?_
      rintro ucl h5 ⟨hle5,hcl⟩
      have c5:=c4.ext hle5
      have hW5:=c4.up (h':=h5)
      refine⟨UF hW5 c5.wle,?_⟩
      have hcl0:=hcl
      obtain⟨b1,k1,rfl,-⟩:=hcl0
      generalize grow W4 h4 h5=W5 at *
      refine aA (t:=T.eS) (z:=.agg #[UH UI 0,UH UI 0,UH UI 0,UM UL 0 0,UH UJ 0]) (places:=zpa) (vs:=[(0,UH UI 6),(1,UH UI (nth s.t.args 0)),(3,.slice b0 s.t.to.length k0)]) (cs:=#[UH UI 6,UH UI (nth s.t.args 0),UH UI 0,.slice b0 s.t.to.length k0,UH UJ 0]) U0 U0 U2 (by simp[Instr.fill,Value.cells]) ?_
      refine⟨UF hW5 c5.wle,?_⟩
      refine aA (t:=T.bf) (z:=.agg fitZ.toArray) (places:=zpc) (vs:=[(0,.slice b1 s.t.args.length k1),(3,.agg #[UH UI 6,UH UI (nth s.t.args 0),UH UI 0,.slice b0 s.t.to.length k0,UH UJ 0])]) (cs:=#[.slice b1 s.t.args.length k1,UM UL 0 0,UM UL 0 0,UH UI 6,UH UI (nth s.t.args 0),UH UI 0,.slice b0 s.t.to.length k0,UH UJ 0]) U0 U0 U2 (by simp[Instr.fill,Value.cells]) ?_
      have hr:Rd W5 (.agg #[.slice b1 s.t.args.length k1,UM UL 0 0,UM UL 0 0,UH UI 6,UH UI (nth s.t.args 0),UH UI 0,.slice b0 s.t.to.length k0,UH UJ 0]) (⟨s.t.args,[],[],⟨6,nth s.t.args 0,0,s.t.to,⟨0⟩⟩⟩:FitD):=nv (ce:=[_,_,_,_,_]) hcl aS aS (mH (imm:=⟨0⟩) U9 U2 (hto.mono hW5))
      refine c5.bG (k:=(0,0)) (n:=7) (l:=fitZ) U4 hr rfl rfl U0 rfl rfl λh9 l9 hl9 c9=>?_
      subst hy
      have hall:=c9.all (k:=(0,0)) (n:=7) (l:=l9) (B:=R) (e:=T.bf) U4
      simp at hall
      simp[hall]
      exact hK _ _ (cg.of c9 (hl9▸hr) (by rw[he];rfl) λy e=>by rw[he]at e;cases e;rfl)
    · refine aA (t:=T.eS) (z:=.agg #[UH UI 0,UH UI 0,UH UI 0,UM UL 0 0,UH UJ 0]) (places:=zpa) (vs:=[(0,UH UI 6),(1,UH UI (nth s.t.args 0)),(3,.slice b0 s.t.to.length k0)]) (cs:=#[UH UI 6,UH UI (nth s.t.args 0),UH UI 0,.slice b0 s.t.to.length k0,UH UJ 0]) U0 U0 U2 (by simp[Instr.fill,Value.cells]) ?_
      refine⟨c4.wle,?_⟩
      refine ah U0 (eO c4.wle hva4 U1) ?_
      rintro ucl h5 ⟨hle5,hcl⟩
      have c5:=c4.ext hle5
      have hW5:=c4.up (h':=h5)
      refine⟨UF hW5 c5.wle,?_⟩
      have hcl0:=hcl
      obtain⟨b1,k1,rfl,-⟩:=hcl0
      generalize grow W4 h4 h5=W5 at *
      refine aA (t:=T.bf) (z:=.agg fitZ.toArray) (places:=zpc) (vs:=[(0,.slice b1 s.t.args.length k1),(3,.agg #[UH UI 6,UH UI (nth s.t.args 0),UH UI 0,.slice b0 s.t.to.length k0,UH UJ 0])]) (cs:=#[.slice b1 s.t.args.length k1,UM UL 0 0,UM UL 0 0,UH UI 6,UH UI (nth s.t.args 0),UH UI 0,.slice b0 s.t.to.length k0,UH UJ 0]) U0 U0 U2 (by simp[Instr.fill,Value.cells]) ?_
      have hr:Rd W5 (.agg #[.slice b1 s.t.args.length k1,UM UL 0 0,UM UL 0 0,UH UI 6,UH UI (nth s.t.args 0),UH UI 0,.slice b0 s.t.to.length k0,UH UJ 0]) (⟨s.t.args,[],[],⟨6,nth s.t.args 0,0,s.t.to,⟨0⟩⟩⟩:FitD):=nv (ce:=[_,_,_,_,_]) hcl aS aS (mH (imm:=⟨0⟩) U9 U2 (hto.mono hW5))
      refine c5.bG (k:=(0,0)) (n:=7) (l:=fitZ) U4 hr rfl rfl U0 rfl rfl λh9 l9 hl9 c9=>?_
      subst hy
      have hall:=c9.all (k:=(0,0)) (n:=7) (l:=l9) (B:=R) (e:=T.bf) U4
      simp at hall
      simp[hall]
      exact hK _ _ (cg.of c9 (hl9▸hr) (by rw[he];rfl) λy e=>by rw[he]at e;cases e;rfl)
  refine gC (λρ h5=>h5=h4/\ρ=[(0,v),(1,UH UI pat),(2,ptr S),(4,ptr R),(5,.bool UP),(6,ptr Tb),(7,.slice b0 s.t.to.length k0),(13,ut),(16,.slice b0 s.t.to.length k0),(83,.bool (inR pat 34 36)),(124,.bool UP)]) ?_ ?_
  · intro K2 hK2
    by_cases e0:pat=37
    · have e2:¬s.t.kind=3:=λe=>p6 ⟨e0,e⟩
      simp[e0,z0,e2]
      exact hK2 _ _ ⟨rfl,by rw[e0]⟩
    · simp[e0,z0]
      exact hK2 _ _ ⟨rfl,rfl⟩
  rintro _ h4 ⟨rfl,rfl⟩
  subst hy
  refine bg U2 ?_
  have he:iA s.f s.t pat=none:=by unfold iA;rw[if_neg p1,if_neg p2,if_neg p3,if_neg p4,if_neg p5,if_neg p6]
  simp
  subst hz
  refine aa λz hz=>?_
  simp
  refine aA (z:=.agg fitZ.toArray) (places:=zpc) (vs:=[]) (cs:=fitZ.toArray) U0 U0 U2 U0 ?_
  refine c4.bG (k:=(0,0)) (n:=7) (l:=fitZ) U4 gq rfl rfl U0 rfl rfl λh9 l9 hl9 c9=>?_
  subst hz
  have hall:=c9.all (k:=(0,0)) (n:=7) (l:=l9) (B:=R) (e:=T.bf) U4
  simp at hall
  simp[hall]
  exact hK _ _ (cg.of c9 (hl9▸gq) (by rw[he];rfl) λy e=>by rw[he]at e;cases e)
theorem Cx.upW{V W W':View}{h0 h h':Heap}{o:Own}(c:Cx V h0 W h o)(hle:(vw h).le (vw h'))(u:Up W h W')(hW:W'.le (vw h')):Cx V h0 W' h' o:=by
 have A : ∀k i b,o k=UK i->i.v.ownBlock=UK b->W' b=none:=λk i b hk hb=>by
  have hlt:=c.own.lt hk hb;have hav:=c.own.av k i hk b hb;cases hx:W' b with
  | none=>rfl
  | some x=>rw[u.old b x hlt hx]at hav;cases hav
 exact⟨(c.own.ext' hle).Nj u.le hW A,λb x hb hx=>c.old b x hb (u.old b x (Sc hb (bO c.le0)) hx),UF c.le0 hle,c.new⟩
theorem O3{s:cC}{v:Value}{pat:Int}{h:Heap}{W:View}(hW:W.le (vw h))(hv:Rd W v s)(hok:s.term=UP->mJ s)(htk:s.term=UO->mJ s/\zR s.t)(hM:s.i.op=15\/s.i.op=16->ib)(hp:I64 pat):
  ay UQ 93 #[v,UH UI pat] h (λu h'=>cg W h h' u (tryS s pat)):=by
 refine aq (args:=[v,UH UI pat]) follows Tryz.func93 E.lS UC λK hK=>?_;dsimp only[L.lS,lkF,lkG];have c0:=Cx.start hW;refine aa λz hz=>?_;simp;refine c0.ey rfl hv λS h1 W1 hW1 c1 at1 hle1=>?_;refine c1.de (k:=(0,0)) (n:=7) (z:=.agg fitZ.toArray) rfl U0 rfl U3 U8 λR h2 hle2 c2=>?_;subst hz;have tm:=(at1.part cC.lF).bool;have tm:an W1 ⟨S,11,UL⟩=UK (.bool s.term):=by simpa using tm
 have tm:=ae c2.wle tm;obtain⟨us,hus,rus⟩:=at1.ldN rfl (N:=13) rfl;have hus:=hus _ c2.wle;refine aa λz hz=>?_;cases ht:s.term with
 | true=>
  rw[ht]at tm;obtain⟨hk1,hk2⟩:=htk ht;have e:tryS s pat=iA s.f s.t pat:=by unfold tryS;rw[if_pos ht]
  rw[e]at hK;simp[tm,hus];refine ah U0 (OZ c2.wle rus hk1 hk2 hp) ?_;rintro _ h3 ⟨hle3,vf,x,rfl,hvf,hx⟩;have c3:=c2.ext hle3;simp;refine c3.bG (k:=(0,0)) (n:=7) (l:=fitZ) U4 hvf rfl rfl U0 rfl rfl λh9 l9 hl9 c9=>?_;have hall:=c9.all (k:=(0,0)) (n:=7) (l:=l9) (B:=R) (e:=T.bf) U4;simp at hall;simp[hall];exact hK _ _ (cg.of c9 (hl9▸hvf) rfl hx)
 | false=>
  rw[ht]at tm;have e:tryS s pat=patS s.f s.i s.temp pat:=by unfold tryS;rw[ht];rfl
  rw[e]at hK;simp[tm];subst hz;refine aa λz hz=>?_;simp[hus];refine ah U0 (DZ c2.wle rus (hok ht) ht hM) ?_;rintro _ h3 ⟨r,W3,rfl,u3,p3,hle3⟩;have c3:=Cx.upW c2 hle3 u3 p3.wle;obtain⟨g,g1,g2,g3⟩:=p3.ex;refine og (f:=mapE id g) (z:=.nilFunc) (k:=T.int) (e:=T.gM) (d:=.int .i64) (r:=r) (u:=UH UI pat) U.da U.int U0 rfl rfl cV g1 ?_;simp;subst hz;refine aa λz hz=>?_;have g2p:=g2 pat;have g3p:=g3 pat;cases hg:g pat with
  | none=>
   rw[hg]at g2p;have e0:patS s.f s.i s.temp pat=none:=by unfold patS;rw[if_neg];rintro⟨a1,a2,-⟩;simp[nTo]at g2p;omega
   rw[e0]at hK;simp;refine aA (t:=T.bf) (z:=.agg fitZ.toArray) (places:=zpc) (vs:=[]) (cs:=fitZ.toArray) U0 U0 U2 U0 ?_;refine c3.bG (k:=(0,0)) (n:=7) (l:=fitZ) U4 gq rfl rfl U0 rfl rfl λh9 l9 hl9 c9=>?_;have hall:=c9.all (k:=(0,0)) (n:=7) (l:=l9) (B:=R) (e:=T.bf) U4;simp at hall;simp[hall];exact hK _ _ (cg.of c9 (hl9▸gq) rfl λy e=>by cases e)
  | some fv=>obtain⟨fn,caps,rfl,hfn,hcall⟩:=(g3p fv hg).ex;simp;subst hz;refine aa λz hz=>?_;simp;refine bZ (ops:=[]) rfl hfn (by simpa using hcall h3 W3 UE p3.wle) ?_;rintro _ h4 ⟨hle4,vf,x,rfl,hvf,hx⟩;have c4:=c3.ext hle4;simp;refine c4.bG (k:=(0,0)) (n:=7) (l:=fitZ) U4 hvf rfl rfl U0 rfl rfl λh9 l9 hl9 c9=>?_;subst hz;have hall:=c9.all (k:=(0,0)) (n:=7) (l:=l9) (B:=R) (e:=T.bf) U4;simp at hall;simp[hall];exact hK _ _ (cg.of c9 (hl9▸hvf) rfl hx)
abbrev RSt:=List Bool × List Int
def kS(wo:Int)(to:List Int)(k:Nat)(s:RSt):RSt:=
 if(0<=nth to k/\nth to k<s.1.length)/\nth s.1 (nth to k).toNat=UP/\nth to k≠wo then(s.1.set (nth to k).toNat UO,s.2++[nth to k]) else s
def yz(f:ak)(wo:Int)(i:Nat)(s:RSt):RSt:=up (kS wo (nth f.blocks (nth s.2 i).toNat).term.to) (nth f.blocks (nth s.2 i).toNat).term.to.length s
def rchS(f:ak)(wo:Int):Nat->Nat->RSt->RSt
 | 0,_,s=>s
 | n+1,i,s=>if i<s.2.length then rchS f wo n (i+1) (yz f wo i s) else s
def rch0(f:ak)(wo:Int):RSt:=if wo≠0/\0<f.blocks.length then((List.replicate f.blocks.length UP).set 0 UO,[0]) else(List.replicate f.blocks.length UP,[])
def eW(f:ak)(wo:Int):List Bool:=(rchS f wo (f.blocks.length+1) 0 (rch0 f wo)).1
structure ROk(n:Nat)(s:RSt):Prop where
 len:s.1.length=n
 cnt:s.2.length+dH s.1<=n
 rng : ∀x∈s.2,0<=x/\x<n
variable{wo:Int}
theorem CY{n:Nat}{to:List Int}{k:Nat}{s:RSt}(h:ROk n s):ROk n (kS wo to k s):=by
 unfold kS;split
 ·rename_i hc;have hf:=km (t:=s.1) (i:=(nth to k).toNat) U1 hc.2.1;refine⟨by simpa using h.len,?_,λx hx=>?_⟩
  ·have:=h.cnt;simp only[Rl,RI];omega
  rcases Rj.1 hx with hx | hx
  ·exact h.rng x hx
  rw[Q8.1 hx,<-h.len];exact hc.1
 exact h
theorem zh{n:Nat}{to:List Int}{s:RSt}(h:ROk n s)(m:Nat):ROk n (up (kS wo to) m s):=xe (ROk n) (λk x hx=>CY hx) m s h
theorem BT{f:ak}:ROk f.blocks.length (rch0 f wo):=by
 unfold rch0;have hfa:dH (List.replicate f.blocks.length UP)=f.blocks.length:=by simp[dH]
 split
 ·rename_i hc;have hf:=km (t:=List.replicate f.blocks.length UP) (i:=0) (by simpa using hc.2) (by rw[aC (by simpa using hc.2)];simp);exact⟨by simp,by simp only[RI];omega,λx hx=>by rw[Q8.1 hx];omega⟩
 exact⟨by simp,by simp only[TE];omega,λx hx=>by cases hx⟩
theorem Gz{f:ak}{wo:Int} : ∀{m i:Nat} {s:RSt},ROk f.blocks.length s->ROk f.blocks.length (rchS f wo m i s)
 | 0,_,_,h=>h
 | m+1,i,s,h=>by
  rw[rchS];split
  ·exact Gz (zh h _)
  exact h
theorem uP{f:ak}:(eW f wo).length=f.blocks.length:=(Gz BT).len
def tR(vo vq:Value)(s:RSt):Own:=λk=>if k=(0,0) then it T.bool vo s.1 else if k=(0,1) then it T.int vq s.2 else UL
theorem zp{f:ak}{v:Value}{h:Heap}(hv:Rd (vw h) v f)(hn:f.blocks.length<=1000000):
  ay UQ 38 #[v,UH UI wo] h (λu h'=>(vw h).le (vw h')/\SlRd (fresh h h') u (eW f wo)):=by
 refine aq (args:=[v,UH UI wo]) follows Tryz.func38 E.cK UC λK hK=>?_;dsimp only[L.cK,lkF,lkG];refine aa λz hz=>?_;simp;refine fT rfl hv λh1 _ hle1 hsz1 hat=>?_;obtain⟨_,vb,cb⟩:=eU hat;generalize h.size=B at cb;subst hz;refine aa λz hz=>?_;simp[cb.1,cb.2.len];refine oz (α:=Bool) (W:=vw h1) (k:=.i64) (n:=f.blocks.length) (d:=false) El.qd U2 U2 rfl U1 U1 λvo h2 o2 m2 hle2 hb2=>?_;have w2:=(Owns.start (h:=h1) (View.le_refl (vw h1))).add (k:=(0,0)) rfl o2 hle2 (λb hb=>by rw[hb2]at hb;cases hb;exact Q4 _);subst hz;refine aa λz hz=>?_;simp;refine pU (α:=Int) El.aY λh3 hle3 hsz3 own3=>?_;have w3:=w2.add (k:=(0,1)) rfl (own3 _) hle3 (λb hb=>by simp only[Value.ownBlock,Q2]at hb;omega);have w3:Owns (vw h1) h3 (tR vo (UM (UK ⟨h2.size,0,UL⟩) 0 0) (List.replicate f.blocks.length UP,[])):=w3.congr λq=>by
  unfold tR Own.upd;repeat' split
  all_goals first | rfl | simp_all
 generalize UM (UK ⟨h2.size,0,UL⟩) 0 0=vq at w3;subst hz;refine aa λz hz=>?_;have cc3:=ae w3.wle cb.1;have cb3:=cb.2.mono w3.wle;have fin : ∀(h4:Heap) (vq:Value) (tl:Env),Owns (vw h1) h4 (tR vo vq (rch0 f wo))->@LC.wp noPP UQ z (@dY [.tmp 4] K) ([(0,v),(1,UH UI wo),(2,ptz B),(4,UM UL 0 0),(5,vo),(6,vq)]++tl) h4:=by
  intro h4 vq tl w4;subst hz;refine aa λz hz=>?_;simp;refine ik [1,2,5,6,7] (λm ρ h5=>∃(i:Nat) (s:RSt) (vq:Value),i<=f.blocks.length/\m=f.blocks.length+1-i/\ρ=[(1,UH UI wo),(2,ptz B),(5,vo),(6,vq),(7,UH UI i)]/\Owns (vw h1) h5 (tR vo vq s)/\ROk f.blocks.length s/\
   (rchS f wo m i s).1=eW f wo) (f.blocks.length+1) ⟨0,_,vq,by omega,rfl,by simp[aX,af],w4,BT,rfl⟩ ?_;rintro m ρ h5 ⟨i,s,vq5,hi,rfl,rfl,w5,hok,hfin⟩ K2 hK2;have no:=w5.now (k:=(0,0)) (v:=vo) (l:=s.1) rfl;have nq:=w5.now (k:=(0,1)) (v:=vq5) (l:=s.2) rfl;have hcnt:=hok.cnt;by_cases hlt:i<s.2.length
  ·have hm:f.blocks.length+1-i=(f.blocks.length-i)+1:=by omega
   rw[hm,rchS,if_pos hlt]at hfin;obtain⟨r0,r1⟩:=hok.rng _ (bF hlt);have cb5:=cb.2.mono w5.wle;obtain⟨w,hw⟩:=CQ cb5 (i:=(nth s.2 i).toNat) U1;obtain⟨w',hw'⟩:=CQ cb.2 (i:=(nth s.2 i).toNat) U1;have eww:w'=w:=Option.some.inj ((ae w5.wle hw'.1).symm.trans hw.1);rw[eww]at hw';have hwb:=hw.2.bound;have hrow:yz f wo i s=up (kS wo (nth f.blocks (nth s.2 i).toNat).term.to) (nth f.blocks (nth s.2 i).toNat).term.to.length s:=rfl;rw[hrow]at hfin;generalize hto:(nth f.blocks (nth s.2 i).toNat).term.to=to at hw hw' hwb hfin;refine aa λy hy=>?_;simp(disch:=omega)[nq.len,hlt];subst hy;refine aa λy hy=>?_;refine aa λx hx=>?_;simp(disch:=omega)[ae w5.wle cb.1,cb5.idxn (N:=6) rfl,nq.idx1 rfl,nq.int UE,hw.1];subst hx;simp;refine cL [1,2,5,6,7,8,9] (fun(q:Value) j=>[UH UI wo,ptz B,vo,q,UH UI i,w,UH UI j]) (λq j h6=>Owns (vw h1) h6 (tR vo q (up (kS wo to) j s))) to.length vq5
    rfl U1 rfl w5 (λ_ _=>rfl) (λv j h4 hk m=>by simp[hw.2.len]) ?_ ?_
   ·rintro q j h6 hltj w6 K3 hK3;have hst:up (kS wo to) (j+1) s=kS wo to j (up (kS wo to) j s):=rfl;have hok6:=zh (wo:=wo) (to:=to) hok j;generalize up (kS wo to) j s=s6 at w6 hst hok6;have no6:=w6.now (k:=(0,0)) (v:=vo) (l:=s6.1) rfl;have nq6:=w6.now (k:=(0,1)) (v:=q) (l:=s6.2) rfl;have hcnt6:=hok6.cnt;have hlen6:=hok6.len;have hr6:=hw'.2.mono w6.wle;have hrng:=hw'.2.range hltj;rw[kS]at hst;by_cases c1:0<=nth to j/\nth to j<s6.1.length
    ·have c1a:=c1.1;have c1b:=c1.2;cases c2:nth s6.1 (nth to j).toNat with
     | true=>rw[if_neg (by rw[c2];simp)]at hst;simp(disch:=omega)[hr6.idx1 rfl,hr6.int UE,no6.len,no6.idx1 rfl,no6.bool UE,c1a,c1b,c2];exact hK3 q _ _ rfl rfl (by rw[hst];exact w6)
     | false=>
      by_cases c3:nth to j=wo
      ·rw[if_neg (by simp[c3])]at hst;rw[c3]at c1a c1b c2;simp(disch:=omega)[hr6.idx1 rfl,hr6.int UE,no6.len,no6.idx1 rfl,no6.bool UE,c1a,c1b,c2,c3];exact hK3 q _ _ rfl rfl (by rw[hst];exact w6)
      rw[if_pos ⟨c1,c2,c3⟩]at hst;refine aa λx hx=>?_;simp(disch:=omega)[hr6.idx1 rfl,hr6.int UE,no6.len,no6.idx1 rfl,no6.bool UE,c1a,c1b,c2,c3];subst hx;simp(disch:=omega)[hr6.idx1 rfl,hr6.int UE,no6.idx1 rfl];refine w6.bG (k:=(0,0)) (α:=Bool) (l:=s6.1) (v:=vo) (i:=(nth to j).toNat) (d:=true) rfl U0 (by simp[show Rep.n Bool=1 from rfl]) (by simp<;>rfl) U1 OV λh7 w7 hs7=>?_;have hr7:=hw'.2.mono w7.wle;simp(disch:=omega)[hr7.idx1 rfl,hr7.int UE];refine w7.gy (k:=(0,1)) (α:=Int) (v:=q) (l:=s6.2) (d:=nth to j) rfl El.aY (by simp<;>rfl) (rB hrng.1 hrng.2) U1 U1 U5 U5 λu q8 h8 w8 hs8=>?_;refine hK3 q8 _ _ rfl rfl ?_;rw[hst];refine w8.congr λq=>?_;unfold tR Own.upd;repeat' split
      all_goals first | rfl | simp_all
    rw[if_neg (λe=>c1 e.1)]at hst;by_cases c1a:0<=nth to j
    ·have c1b:¬nth to j<s6.1.length:=λe=>c1 ⟨c1a,e⟩;simp(disch:=omega)[hr6.idx1 rfl,hr6.int UE,no6.len,c1a,c1b];exact hK3 q _ _ rfl rfl (by rw[hst];exact w6)
    simp(disch:=omega)[hr6.idx1 rfl,hr6.int UE,no6.len,c1a];exact hK3 q _ _ rfl rfl (by rw[hst];exact w6)
   rintro q h6 w6;simp;subst hy;simp(disch:=omega);exact hK2 (f.blocks.length+1-(i+1)) _ _ U1 ⟨i+1,_,q,by omega,rfl,by simp[aX],w6,zh hok _,by rw[show f.blocks.length+1-(i+1)=f.blocks.length-i by omega];exact hfin⟩
  have hlt':¬(i:Int)<s.2.length:=by omega
  simp(disch:=omega)[L.cK.l1,nq.len,hlt];subst hz;simp;have hs1:s.1=eW f wo:=by
   rw[<-hfin];cases f.blocks.length+1-i with
   | zero=>rfl
   | succ m=>rw[rchS,if_neg hlt]
  have ow:=w5.get (k:=(0,0)) (v:=vo) (l:=s.1) rfl;refine hK _ _ ⟨UF hle1 w5.wle,?_⟩;rw[<-hs1];have ow':OwnT nothing h5 T.bool vo s.1:=ow;refine ow'.fresh (λ_ _ h=>by cases h) λb hb=>?_;rw[hb2]at hb;cases hb;exact View.b8 UE U1
 by_cases c1:wo=0
 ·have hr0:rch0 f wo=(List.replicate f.blocks.length UP,[]):=by rw[rch0,if_neg (λe=>e.1 c1)]
  rw[hr0]at fin;simp[cc3,cb3.len,c1];rw[c1]at fin;exact fin _ _ _ w3
 by_cases c2:0<f.blocks.length
 ·have hr0:rch0 f wo=((List.replicate f.blocks.length UP).set 0 UO,[0]):=by rw[rch0,if_pos ⟨c1,c2⟩]
  rw[hr0]at fin;have no:=w3.now (k:=(0,0)) (v:=vo) (l:=List.replicate f.blocks.length UP) rfl;refine aa λy hy=>?_;simp(disch:=omega)[cc3,cb3.len,c1,c2];subst hy;have i0:Bn.ev (.idx 1) vo (UH UI 0)=UK (UN (UK ((slA vo).add 0))):=no.idx1 rfl U1 (by simpa using c2);simp(disch:=omega)[i0];refine w3.bG (k:=(0,0)) (α:=Bool) (l:=List.replicate f.blocks.length UP) (v:=vo) (i:=0) (d:=true) rfl U0 (by simp[show Rep.n Bool=1 from rfl]) (by simp<;>rfl) (by simpa using c2) OV λh4 w4 hs4=>?_;refine w4.gy (k:=(0,1)) (α:=Int) (v:=vq) (l:=[]) (d:=0) rfl El.aY (by simp<;>rfl) (rB U1 U1) U2 U2 U5 U5 λu q5 h5 w5 hs5=>?_;refine fin _ _ _ (w5.congr λq=>?_);unfold tR Own.upd;repeat' split
  all_goals first | rfl | simp_all
 have hr0:rch0 f wo=(List.replicate f.blocks.length UP,[]):=by rw[rch0,if_neg (λe=>c2 e.2)]
 rw[hr0]at fin;simp[cc3,cb3.len,c1,c2];exact fin _ _ _ w3
theorem qu{l:List BlkD}:(ofG l).length=l.length:=by simp[ofG]
theorem vE{l:List BlkD}{a b:Int}:pH (ofG l) a b=UO↔(0<=a/\a<l.length/\0<=b/\b<l.length)/\b∈(nth l a.toNat).term.to:=by
 rw[jz,qu];constructor
 ·rintro⟨h,hm⟩;rw[ofG,gH U1,vZ]at hm;exact⟨h,hm.1⟩
 rintro⟨h,hm⟩;refine⟨h,?_⟩;rw[ofG,gH U1,vZ];exact⟨hm,h.2.2.1,h.2.2.2⟩
structure Rb(f:ak)(wo:Int)(s:RSt):Prop where
 ok:ROk f.blocks.length s
 seen : ∀b:Nat,b<f.blocks.length->(nth s.1 b=UO↔(b:Int)∈s.2)
 sound : ∀x∈s.2,Re (ofG f.blocks) wo x.toNat
theorem PG{f:ak}{a:Int}{k:Nat}{s:RSt}(h:Rb f wo s)(h0:0<=a)(h1:a<f.blocks.length)(ha:Re (ofG f.blocks) wo a.toNat)(hk:k<(nth f.blocks a.toNat).term.to.length):
  Rb f wo (kS wo (nth f.blocks a.toNat).term.to k s)/\s.2 <+: (kS wo (nth f.blocks a.toNat).term.to k s).2/\
   (0<=nth (nth f.blocks a.toNat).term.to k->nth (nth f.blocks a.toNat).term.to k<f.blocks.length->nth (nth f.blocks a.toNat).term.to k≠wo->nth (nth f.blocks a.toNat).term.to k∈(kS wo (nth f.blocks a.toNat).term.to k s).2):=by
 have hok:=CY (wo:=wo) (to:=(nth f.blocks a.toNat).term.to) (k:=k) h.ok;have hm:=bF hk;unfold kS at hok ⊢;generalize hto:(nth f.blocks a.toNat).term.to=to at hm hok ⊢;split
 ·rename_i hc;rw[if_pos hc]at hok;obtain⟨⟨c1,c2⟩,c3,c4⟩:=hc;rw[h.ok.len]at c2;have hb:((nth to k).toNat:Int)=nth to k:=RE c1;refine⟨⟨hok,λb hb=>?_,λx hx=>?_⟩,List.prefix_append _ _,λ_ _ _=>Sq _ (Q8.2 rfl)⟩
  ·rw[Rj,Q8];by_cases he:b=(nth to k).toNat
   ·subst he;rw[bU (by rw[h.ok.len];omega),if_pos rfl];exact⟨λ_=>.inr (RE c1),λ_=>rfl⟩
   rw[bU (by rw[h.ok.len];exact hb),if_neg (λe=>he e.symm),h.seen b hb];exact⟨.inl,λe=>e.resolve_right U1⟩
  rcases Rj.1 hx with hx | hx
  ·exact h.sound x hx
  rw[Q8.1 hx];refine .step ha ?_ (by rw[hb];exact c4);rw[vE,hb];exact⟨⟨by omega,by omega,c1,c2⟩,by rw[RB,hto];exact hm⟩
 rename_i hc;rw[if_neg hc]at hok;refine⟨h,S7 _,λc1 c2 c4=>?_⟩;have hb:((nth to k).toNat:Int)=nth to k:=RE c1;rw[<-hb,<-h.seen _ U1];cases e:nth s.1 (nth to k).toNat with
 | true=>rfl
 | false=>exact absurd ⟨⟨c1,by rw[h.ok.len];exact c2⟩,e,c4⟩ hc
theorem JZ{f:ak}{wo a:Int}{s:RSt}(h:Rb f wo s)(h0:0<=a)(h1:a<f.blocks.length)(ha:Re (ofG f.blocks) wo a.toNat) : ∀m,m<=(nth f.blocks a.toNat).term.to.length->
  Rb f wo (up (kS wo (nth f.blocks a.toNat).term.to) m s)/\s.2 <+: (up (kS wo (nth f.blocks a.toNat).term.to) m s).2/\
   ∀k,k<m->0<=nth (nth f.blocks a.toNat).term.to k->nth (nth f.blocks a.toNat).term.to k<f.blocks.length->nth (nth f.blocks a.toNat).term.to k≠wo->nth (nth f.blocks a.toNat).term.to k∈(up (kS wo (nth f.blocks a.toNat).term.to) m s).2
 | 0,_=>⟨h,S7 _,λk hk=>by omega⟩
 | m+1,hm=>by
  obtain⟨i1,i2,i3⟩:=JZ h h0 h1 ha m U1;obtain⟨j1,j2,j3⟩:=PG (k:=m) i1 h0 h1 ha U1;rw[up];refine⟨j1,i2.trans j2,λk hk c1 c2 c3=>?_⟩;rcases Ri k m with hlt | hge
  ·exact j2.subset (i3 k hlt c1 c2 c3)
  have:k=m:=by omega
  subst this;exact j3 c1 c2 c3
structure Rc(f:ak)(wo:Int)(i:Nat)(s:RSt):Prop where
 b:Rb f wo s
 root:wo≠0->0<f.blocks.length->(0:Int)∈s.2
 done : ∀j,j<i->j<s.2.length->∀b:Nat,pH (ofG f.blocks) (nth s.2 j) b=UO->(b:Int)≠wo->(b:Int)∈s.2
variable{α:Type}
theorem GS[Inhabited α]{a b:List α}(h:a <+: b){i:Nat}(hi:i<a.length):nth b i=nth a i:=by obtain⟨t,rfl⟩:=h;rw[aC U9,aC hi,TC hi]
theorem Mb{f:ak}{i:Nat}{s:RSt}(h:Rc f wo i s)(hi:i<s.2.length):Rc f wo (i+1) (yz f wo i s)/\s.2 <+: (yz f wo i s).2:=by
 have hm:=bF hi;obtain⟨h0,h1⟩:=h.b.ok.rng _ hm;have hre:=h.b.sound _ hm;obtain⟨i1,i2,i3⟩:=JZ h.b h0 h1 hre _ (Q4 _);have he:yz f wo i s=up (kS wo (nth f.blocks (nth s.2 i).toNat).term.to) (nth f.blocks (nth s.2 i).toNat).term.to.length s:=rfl;rw[<-he]at i1 i2 i3;refine⟨⟨i1,λa b=>i2.subset (h.root a b),λj hj hjl b hb hne=>?_⟩,i2⟩;rcases Ri j i with hlt | hge
 ·rw[GS i2 U1]at hb;exact i2.subset (h.done j hlt U1 b hb hne)
 have:j=i:=by omega
 subst this;rw[GS i2 hi,vE]at hb;obtain⟨⟨_,_,q1,q2⟩,hmem⟩:=hb;obtain⟨k,hk,e⟩:=RH hmem;rw[<-aC hk]at e;rw[<-e];exact i3 k hk U1 U1 (by rw[e];exact hne)
theorem JV{f:ak}{wo:Int} : ∀{m i:Nat} {s:RSt},Rc f wo i s->f.blocks.length<i+m->∃k,Rc f wo k (rchS f wo m i s)/\(rchS f wo m i s).2.length<=k
 | 0,i,s,h,hm=>⟨i,h,by have:=h.b.ok.cnt;rw[rchS];omega⟩
 | m+1,i,s,h,hm=>by
  rw[rchS];split
  ·rename_i hi;exact JV (Mb h hi).1 U1
  rename_i hi;exact⟨i,h,by omega⟩
theorem Lp{f:ak}:Rc f wo 0 (rch0 f wo):=by
 have hok:=BT (f:=f) (wo:=wo);unfold rch0 at hok ⊢;split
 ·rename_i hc;rw[if_pos hc]at hok;refine⟨⟨hok,λb hb=>?_,λx hx=>?_⟩,λ_ _=>Q8.2 rfl,λj hj=>by omega⟩
  ·rw[bU (by simpa using hb),Q8];split
   ·rename_i e;subst e;simp
   rename_i e;rw[aC (by simpa using hb)];simp;omega
  rw[Q8.1 hx];exact .root (by rw[qu];exact hc.2) hc.1
 rename_i hc;rw[if_neg hc]at hok;refine⟨⟨hok,λb hb=>?_,λx hx=>by cases hx⟩,λa b=>absurd ⟨a,b⟩ hc,λj hj=>by omega⟩;rw[aC (by simpa using hb)];simp
variable{b:Nat}
theorem kM{f:ak}(hb:b<f.blocks.length):nth (eW f wo) b=UO↔Re (ofG f.blocks) wo b:=by
 obtain⟨k,h,hk⟩:=JV (Lp (f:=f) (wo:=wo)) (m:=f.blocks.length+1) U1;unfold eW;generalize rchS f wo (f.blocks.length+1) 0 (rch0 f wo)=s at h hk;rw[h.b.seen b hb];constructor
 ·exact λhm=>by simpa using h.b.sound _ hm
 intro hr;induction hr with
 | root h1 h2=>exact h.root h2 (by rw[<-qu];exact h1)
 | @step a b ha he hne ih=>have hm:=ih (by have:=(vE.1 he).1;omega);obtain⟨j,hj,e⟩:=RH hm;rw[<-aC hj]at e;exact h.done j U1 hj b (by rw[e];exact he) hne
instance:Rep Th:=Rep.via λd=>Cat.mk d.blk (Cat.mk d.place (Cat.mk d.mks d.tks))
theorem Th.Nu:Part Th Int 0 Th.blk (λd x=>{ d with blk:=x }):=(Part.fst Part.all).via (λ_=>rfl) λ_ _=>rfl
theorem Th.Qh:Part Th (List Int) 2 Th.mks (λd x=>{ d with mks:=x }):=(Part.snd (Part.snd (Part.fst Part.all))).via (λ_=>rfl) λ_ _=>rfl
structure ThR where
 blk:Int
 place:Int
 mks:List Int
 tks:Raw
instance:Rep ThR:=Rep.via λd=>Cat.mk d.blk (Cat.mk d.place (Cat.mk d.mks d.tks))
theorem ThR.NB:Part ThR Raw 3 ThR.tks (λd x=>{ d with tks:=x }):=(Part.snd (Part.snd (Part.snd Part.all))).via (λ_=>rfl) λ_ _=>rfl
theorem KJ{H:View}{a b:Int}{u q:Value}{m t:List Int}(ha:I64 a)(hb:I64 b)(hm:SlRd H u m)(ht:SlRd H q t):Rd H (.agg #[UH UI a,UH UI b,u,q]) (Th.mk a b m t):=
 ⟨_,rfl,[UH UI a],[UH UI b,u,q],rfl,⟨rfl,ha⟩,[UH UI b],[u,q],rfl,⟨rfl,hb⟩,[u],[q],rfl,⟨u,rfl,hm⟩,⟨q,rfl,ht⟩⟩
theorem OC{H:View}{a b:Int}{u q:Value}{m:List Int}(ha:I64 a)(hb:I64 b)(hm:SlRd H u m)(hq:q.oneCell'=UO):Rd H (.agg #[UH UI a,UH UI b,u,q]) (ThR.mk a b m ⟨q⟩):=
 ⟨_,rfl,[UH UI a],[UH UI b,u,q],rfl,⟨rfl,ha⟩,[UH UI b],[u,q],rfl,⟨rfl,hb⟩,[u],[q],rfl,⟨u,rfl,hm⟩,⟨rfl,hq⟩⟩
theorem Hm{H:View}{cs:List Value}{d:ThR}(h:Rep.rd H cs d): ∃u,cs=[UH UI d.blk,UH UI d.place,u,d.tks.v]/\I64 d.blk/\I64 d.place/\SlRd H u d.mks:=by obtain⟨c1,r1,rfl,⟨rfl,h1⟩,c2,r2,rfl,⟨rfl,h2⟩,c3,r3,rfl,⟨u,rfl,h3⟩,rfl,_⟩:=h;exact⟨u,rfl,h1,h2,h3⟩
def rK(vo:Value)(l:List Th):Own:=λk=>if k=(0,0) then it T.fu vo l else UL
def yq(vo:Value)(l:List Th)(D:Nat)(d:ThR)(q:Value)(t:List Int):Own:=λk=>if k=(0,0) then it T.fu vo l else if k=(1,0) then bx T.fu D d else if k=(1,1) then it T.int q t else UL
structure ThS(V:View)(h0:Heap)(vo:Value)(l:List Th)(W:View)(h:Heap):Prop where
 own:Owns W h (rK vo l)
 old:Old V h0 W
 le:(vw h0).le (vw h)
 av:Av (vw h0) vo
theorem ThS.ext{V:View}{h0:Heap}{vo:Value}{l:List Th}{W:View}{h h':Heap}(k:ThS V h0 vo l W h)(hle:(vw h).le (vw h')):ThS V h0 vo l (grow W h h') h':=
 ⟨k.own.ext hle,k.old.grow (bO k.le),UF k.le hle,k.av⟩
theorem Lj{po:OP}{ty:TypeId}{us:List (Nat × Value)}{h:Heap}{K:Value->Heap->Prop}{x y z w:Operand}{a b:Int}{u q:Value}(hx:asg us x = UH UI a)(hy:asg us y = UH UI b)(hz:asg us z=u)(hw:asg us w=q)(hu:u.cells = #[u])(hq:q.cells = #[q])(hk:K (.agg #[UH UI a,UH UI b,u,q]) h):
  Lft.step UQ (.build T.fu #[(0,x),(1,y),(2,z),(3,w)]) ty us h K:=
 aA (z:=zz10) (places:=zpe) (vs:=[(0,UH UI a),(1,UH UI b),(2,u),(3,q)]) (cs:=#[UH UI a,UH UI b,u,q]) U0 U0 (by simp[hx,hy,hz,hw])
  (by simp[Instr.fill,hu,hq]) hk
theorem Ie{po:OP}{ty:TypeId}{us:List (Nat × Value)}{h:Heap}{K:Value->Heap->Prop}{x y z:Operand}{a b:Int}{u:Value}(hx:asg us x = UH UI a)(hy:asg us y = UH UI b)(hz:asg us z=u)(hu:u.cells = #[u])(hk:K (.agg #[UH UI a,UH UI b,u,UM UL 0 0]) h):
  Lft.step UQ (.build T.fu #[(0,x),(1,y),(2,z)]) ty us h K:=
 aA (z:=zz10) (places:=zpe) (vs:=[(0,UH UI a),(1,UH UI b),(2,u)]) (cs:=#[UH UI a,UH UI b,u,UM UL 0 0]) U0 U0 (by simp[hx,hy,hz])
  (by simp[Instr.fill,hu]) hk
theorem Iz{po:OP}{ty:TypeId}{us:List (Nat × Value)}{h:Heap}{K:Value->Heap->Prop}{x y w:Operand}{a b:Int}{q:Value}(hx:asg us x = UH UI a)(hy:asg us y = UH UI b)(hw:asg us w=q)(hq:q.cells = #[q])(hk:K (.agg #[UH UI a,UH UI b,UM UL 0 0,q]) h):
  Lft.step UQ (.build T.fu #[(0,x),(1,y),(3,w)]) ty us h K:=
 aA (z:=zz10) (places:=zpe) (vs:=[(0,UH UI a),(1,UH UI b),(3,q)]) (cs:=#[UH UI a,UH UI b,UM UL 0 0,q]) U0 U0 (by simp[hx,hy,hw])
  (by simp[Instr.fill,hq]) hk
theorem CT{f:ak}{v:Value}{V:View}{h:Heap}(hv:Rd V v f)(hV:V.le (vw h))(hsm:SmF f):
  ay UQ 63 #[v] h (λu h'=>(vw h).le (vw h')/\SlRd (grow V h h') u (aD f)):=by
 refine aq (args:=[v]) follows Tryz.func63 E.bK UC λK hK=>?_;have hn:=hsm.len;dsimp only[L.bK,lkF,lkG];refine aa λz hz=>?_;simp;refine ey (v:=v) rfl ?_;have hle1:=bQ h (.cells v.cells T.gx);have hat1:At (grow V h (h.push (.cells v.cells T.gx))) ⟨h.size,0,UL⟩ f:=oR (t:=T.gx) (fz:=(0,0)) (by rw[bY (Q4 _)];simp) (hv.mono (bo hV));have hs1:(h.push (.cells v.cells T.gx)).size=h.size+1:=by simp
 generalize h.push (.cells v.cells T.gx)=h1 at hle1 hat1 hs1;have hW1:(grow V h h1).le (vw h1):=kR (UF hV hle1);have old1:Old V h (grow V h h1):=(Old.refl V h).grow (Q4 _);obtain⟨_,vb,cb⟩:=eU hat1;generalize grow V h h1=W1 at cb hW1 old1;generalize h.size=B at cb;subst hz;refine aa λz hz=>?_;simp;refine pU (α:=Th) El.iE λh2 hle2 hsz2 own2=>?_;have t2:ThS V h (UM (UK ⟨h1.size,0,UL⟩) 0 0) [] W1 h2:=⟨((Owns.start hW1).add (k:=(0,0)) rfl (own2 _) hle2 (λb hb=>by simp only[Value.ownBlock,Q2]at hb;omega)).congr λq=>by
   unfold rK Own.upd;repeat' split
   all_goals first | rfl | simp_all,old1,UF hle1 hle2,λb hb=>by cases hb;exact View.b8 UE (by show h.size<=h1.size;omega)⟩;generalize UM (UK ⟨h1.size,0,UL⟩) 0 0=v0 at t2;subst hz;refine aa λz hz=>?_;simp
 refine cL [1,3,4] (fun(r:Value) b=>[ptz B,r,UH UI b]) (λr b h3=>∃W,W1.le W/\ThS V h r (thTo f b) W h3) f.blocks.length v0
  rfl U1 rfl ⟨W1,View.le_refl _,t2⟩ (λ_ _=>rfl) (λv k h3 hk ⟨W,q1,q2⟩=>by simp[ae (UF q1 q2.own.wle) cb.1,(cb.2.mono (UF q1 q2.own.wle)).len]) ?_ ?_
 ·rintro r b h3 hltb ⟨W3,hW3,t3⟩ K2 hK2;have hl3:=yZ hsm (n:=b) U1;have cb3:=cb.2.mono (UF hW3 t3.own.wle);have cc3:=ae (UF hW3 t3.own.wle) cb.1;obtain⟨u,hu,hur⟩:=(cb.2.mono hW3).wh rfl (N:=6) rfl hltb;have sb:=hsm.blk b hltb;refine aa λy hy=>?_;simp(disch:=omega)[cc3,cb3.idxn (N:=6) rfl,hu _ t3.own.wle];refine dw (X:=W3) (z:=zz3) U0 rfl U0 hur U5 U5 λh4 hle4 hsz4 hat4=>?_;have t4:=t3.ext hle4;have hat4':=hat4 (grow W3 h3 h4) (bo t3.own.wle) (bY (Q4 _));obtain⟨vp,vi,va,vt,bp,bi,bk,ba,bt⟩:=iK hat4';have hW4:=UF hW3 (bo (h':=h4) t3.own.wle);generalize grow W3 h3 h4=W4 at t4 bp bi bk ba bt hW4;generalize h3.size=D at bp bi bk ba bt;subst hy;refine aa λy hy=>?_;simp;have sp:=sb.phis;refine cL [1,3,4,5,6] (fun(r:Value) i=>[ptz B,r,UH UI b,ptz D,UH UI i]) (λr i h5=>∃W,W4.le W/\ThS V h r (thTo f b++rows (phiT f b) i) W h5) (nth f.blocks b).phis.length r
   rfl U1 rfl ⟨W4,View.le_refl _,by simpa using t4⟩ (λ_ _=>rfl) (λv k h3 hk ⟨W,q1,q2⟩=>by simp[ae (UF q1 q2.own.wle) bp.1,(bp.2.mono (UF q1 q2.own.wle)).len]) ?_ ?_
  ·rintro r i h5 hlti ⟨W5,hW5,t5⟩ K3 hK3;have bp5:=bp.2.mono hW5;have bph:=bp5.mono t5.own.wle;have cph:=ae (UF hW5 t5.own.wle) bp.1;have hap:=(bp5.at hlti);rw[<-aC hlti]at hap;have hdst:an W5 (((slA vp).add (i*2)).add 0)=UK (UH UI (nth (nth f.blocks b).phis i).dst):=(hap.part PhiD.gm).int;have hdr:=(hap.part PhiD.gm).rng;obtain⟨vq,hvq⟩:=(hap.part PhiD.gO).sl;have hvq1:an W5 (((slA vp).add (i*2)).add 1)=UK vq:=hvq.1;have hvq2:=hvq.2;have hpl:=sb.phi i hlti;have hpt:phiT f b i=⟨b,-1-i,[(nth (nth f.blocks b).phis i).dst],(nth (nth f.blocks b).phis i).ins.map InD.val⟩:=rfl;generalize nth (nth f.blocks b).phis i=x at hdst hdr hvq2 hpl hpt;refine aa λq hq=>?_;simp(disch:=omega)[cph,bph.idxn (N:=2) rfl,ae t5.own.wle hdst];refine mY (X:=nothing) (ds:=[x.dst]) (vs:=[UH UI x.dst]) rfl El.aY U2 ⟨bw.2 ⟨rfl,hdr⟩,trivial⟩ cW rfl U1 λu6 h6 hle6 hsz6 hu6 hub6=>?_;have hu6n:=hu6 (vw h6) cW rfl;refine Ie rfl rfl rfl hu6n.cells.1 ?_;simp;refine fO (n:=4) (v:=.agg #[UH UI b,UH UI (-1-i),u6,UM UL 0 0]) (z:=zz10) U0 rfl U0 rfl (by intro c hc;simp at hc;rcases hc with rfl | rfl | rfl | rfl<;>first | rfl | exact hu6n.cells.2) U5 U5 λh7 hle7 hsz7 hb7=>?_;have w6:=t5.own.ext hle6;have w7:=(w6.add (k:=(1,0)) rfl (iu (h:=h7) (d:=ThR.mk b (-1-i) [x.dst] ⟨UM UL 0 0⟩) hb7 (OC U6 U6 (hu6 _ cW (bY (Q4 _))) rfl) U3) hle7 (λb hb=>by simp only[Value.ownBlock,Q2]at hb;omega)).add (k:=(1,1)) rfl (OwnT.nil (α:=Int) _ h7 T.int) UE (λb hb=>by simp[Value.ownBlock]at hb);have w7:Owns (grow W5 h5 h6) h7 (yq r (thTo f b++rows (phiT f b) i) h6.size (ThR.mk b (-1-i) [x.dst] ⟨UM UL 0 0⟩) (UM UL 0 0) []):=w7.congr λq=>by
    unfold yq rK Own.upd;repeat' split
    all_goals first | rfl | simp_all
   have hW7:=UF hW5 (bo (h':=h6) t5.own.wle);have old7:=t5.old.grow (h1:=h5) (h2:=h6) (bO t5.le);have hle07:=UF t5.le (UF hle6 hle7);have hvq7:=hvq2.mono (bo (h':=h6) t5.own.wle);have cvq7:=ae (bo (h':=h6) t5.own.wle) hvq1;generalize grow W5 h5 h6=W7 at w7 hW7 old7 hvq7 cvq7;have hD7:h.size<=h6.size:=Rt (bO t5.le) (bO hle6);generalize h6.size=D7 at w7 hD7;subst hq;refine aa λq hq=>?_;simp;refine cL [1,3,4,5,6,7,8] (fun(q:Value) j=>[ptz B,r,UH UI b,ptz D,UH UI i,ptz D7,UH UI j])
    (λq j h8=>Owns W7 h8 (yq r (thTo f b++rows (phiT f b) i) D7 (ThR.mk b (-1-i) [x.dst] ⟨q⟩) q ((x.ins.map InD.val).take j))/\(vw h).le (vw h8)/\Av (vw h) q) x.ins.length (UM UL 0 0)
    rfl U1 rfl ⟨w7,hle07,Av.nil _ _ _⟩ (λ_ _=>rfl) (λv k h8 hk ⟨w8,q2⟩=>by have bp8:=(bp.2.mono hW7).mono w8.wle;simp(disch:=omega)[ae (UF hW7 w8.wle) bp.1,bp8.idxn (N:=2) rfl,ae w8.wle cvq7,(hvq7.mono w8.wle).len]) ?_ ?_
   ·rintro q8 j h8 hltj ⟨w8,hle08,av8⟩ K4 hK4;have bp8:=(bp.2.mono hW7).mono w8.wle;have hv8:=hvq7.mono w8.wle;have hai:=(hvq7.at hltj);rw[<-aC hltj]at hai;have hval:an W7 (((slA vq).add (j*2)).add 1)=UK (UH UI (nth x.ins j).val):=(hai.part InD.BB).int;have hvr:=(hai.part InD.BB).rng;have hl8:((x.ins.map InD.val).take j).length=j:=by simp;omega
    have htk:(x.ins.map InD.val).take (j+1)=(x.ins.map InD.val).take j++[(nth x.ins j).val]:=by rw[To,SH,RK hltj,aC hltj];rfl
    have hq8:an (vw h8) ⟨D7,3,UL⟩=UK q8:=by have:=((w8.at (k:=(1,0)) (e:=T.fu) (B:=D7) (d:=ThR.mk b (-1-i) [x.dst] ⟨q8⟩) rfl).part ThR.NB).raw;simpa using this
    refine aK (vw h8) UE ?_;simp(disch:=omega)[hq8,ae (UF hW7 w8.wle) bp.1,bp8.idxn (N:=2) rfl,ae w8.wle cvq7,hv8.idxn (N:=2) rfl,ae w8.wle hval];refine mC (α:=Int) (W:=W7) El.aY rfl (bw.2 ⟨rfl,hvr⟩) λu9 h9 hs9 hle9 hsz9=>⟨hle9,?_⟩;refine(w8.ext' hle9).dA (k:=(1,1)) (α:=Int) (v:=q8) (l:=(x.ins.map InD.val).take j) rfl El.aY rfl rfl hs9 U9 U9 λq10 h10 w10 m10=>?_;have hc10:=w10.cells (k:=(1,1)) (Own.ao);obtain⟨hX10,av10⟩:=m10.view (UF hle08 hle9) av8;refine w10.pL (k:=(1,0)) (e:=T.fu) (B:=D7) (D:=ThR.mk b (-1-i) [x.dst] ⟨q8⟩) ThR.NB (d:=⟨q10⟩) rfl U0 rfl rfl (gG.2 ⟨rfl,hc10.2⟩) λh11 w11 hX11=>?_;refine hK4 q10 _ _ rfl rfl ⟨w11.congr λp=>?_,hX11 _ hX10 (View.b8 UE hD7),av10⟩;rw[htk];unfold yq Own.upd;repeat' split
    all_goals first | rfl | simp_all
   rintro q8 h8 ⟨w8,hle08,av8⟩;rw[Rq U2]at w8;simp;subst hq;obtain⟨cs,hcs,hrd⟩:=w8.atW (k:=(1,0)) (e:=T.fu) (B:=D7) (d:=ThR.mk b (-1-i) [x.dst] ⟨q8⟩) rfl;obtain⟨u9,rfl,i1,i2,hu9⟩:=Hm hrd;obtain⟨w9,hq9⟩:=w8.freeze (k:=(1,1)) (v:=q8) (l:=x.ins.map InD.val) rfl;have hpl9:W7.le (W7.plus q8 h8):=gU (w8.av (1,1) _ rfl);have hload:Un.ev (vw h8) (.bM 4) (ptz D7)=UK (.agg #[UH UI b,UH UI (-1-i),u9,q8]):=by have:=fP hcs 4 0 #[] U4;simp[Un.ev,vP,this]
   have hold9:Old V h (W7.plus q8 h8):=λc o hc hco=>by
    unfold View.plus at hco;split at hco
    ·rename_i e;have:=av8 c e;simp only[vw]at this;rw[RA hc]at this;cases this
    exact old7 c o hc hco
   have w9:Owns (W7.plus q8 h8) h8 (rK r (thTo f b++rows (phiT f b) i)):=w9.sub λp x hp=>by
    unfold rK at hp;split at hp
    ·rename_i e;subst e;exact hp
    cases hp
   have hlr:(thTo f b++rows (phiT f b) i).length=(thTo f b).length+i:=by simp
   simp[hload];refine w9.zE (k:=(0,0)) (α:=Th) (v:=r) (l:=thTo f b++rows (phiT f b) i) (d:=phiT f b i) rfl El.iE rfl (by rw[hpt];exact KJ i1 i2 (hu9.mono hpl9) hq9) U1 U1 (λ_=>rfl) (λ_=>rfl) λu10 r10 h10 w10 hX10=>?_;obtain⟨g1,g2⟩:=hX10 _ hle08 t5.av;refine hK3 r10 _ _ rfl rfl ⟨W7.plus q8 h8,UF hW7 hpl9,⟨w10.congr λp=>?_,hold9,g1,g2⟩⟩;rw[fB,<-List.append_assoc];unfold rK Own.upd;repeat' split
   all_goals first | rfl | simp_all
  rintro r h5 ⟨W5,hW5,t5⟩;simp;subst hy;refine aa λy hy=>?_;simp;have si:=sb.ins;refine cL [1,3,4,5,9] (fun(r:Value) i=>[ptz B,r,UH UI b,ptz D,UH UI i]) (λr i h6=>∃W,W4.le W/\ThS V h r (thTo f b++rows (phiT f b) (nth f.blocks b).phis.length++rows (insT f b) i) W h6) (nth f.blocks b).ins.length r
   rfl U1 rfl ⟨W5,hW5,by simpa using t5⟩ (λ_ _=>rfl) (λv k h3 hk ⟨W,q1,q2⟩=>by simp[ae (UF q1 q2.own.wle) bi.1,(bi.2.mono (UF q1 q2.own.wle)).len]) ?_ ?_
  ·rintro r i h6 hlti ⟨W6,hW6,t6⟩ K3 hK3;have bi6:=bi.2.mono hW6;have bih:=bi6.mono t6.own.wle;have cih:=ae (UF hW6 t6.own.wle) bi.1;obtain⟨ux,hux,huxr⟩:=bi6.wh rfl (N:=5) rfl hlti;have hap:=(bi6.at hlti);rw[<-aC hlti]at hap;obtain⟨vq,hvq⟩:=(hap.part InsD.eX).sl;have hvq1:an W6 (((slA vi).add (i*5)).add 3)=UK vq:=hvq.1;have hvq2:=hvq.2;have hpt:insT f b i=⟨b,i,cO (nth (nth f.blocks b).ins i),(nth (nth f.blocks b).ins i).args⟩:=rfl;generalize nth (nth f.blocks b).ins i=x at hvq2 huxr hpt;have hlr:(thTo f b++rows (phiT f b) (nth f.blocks b).phis.length++rows (insT f b) i).length=(thTo f b).length+(nth f.blocks b).phis.length+i:=by simp;omega
   refine aK (vw h6) UE ?_;simp(disch:=omega)[cih,bih.idxn (N:=5) rfl,hux _ t6.own.wle,ae t6.own.wle hvq1];refine ah U0 (sv (huxr.mono t6.own.wle)) ?_;rintro u7 h7 ⟨hle7,hu7,_⟩;refine⟨hle7,?_⟩;have t7:=t6.ext hle7;have hu7':=hu7.mono (kg W6 h6 h7);have hvq7:=hvq2.mono (bo (h':=h7) t6.own.wle);refine Lj rfl rfl rfl rfl hu7.cells.1 hvq2.cells.1 ?_;simp;refine t7.own.zE (k:=(0,0)) (α:=Th) (v:=r) (l:=thTo f b++rows (phiT f b) (nth f.blocks b).phis.length++rows (insT f b) i) (d:=insT f b i) rfl El.iE rfl (by rw[hpt];exact KJ U6 U6 hu7' hvq7) U1 U1 (λ_=>rfl) (λ_=>rfl) λu10 r10 h10 w10 hX10=>?_;obtain⟨g1,g2⟩:=hX10 _ t7.le t7.av;refine hK3 r10 _ _ rfl rfl ⟨_,UF hW6 (bo (h':=h7) t6.own.wle),⟨w10.congr λp=>?_,t7.old,g1,g2⟩⟩;rw[fB,<-List.append_assoc];unfold rK Own.upd;repeat' split
   all_goals first | rfl | simp_all
  rintro r h6 ⟨W6,hW6,t6⟩;simp;subst hy;have hW6h:=UF hW6 t6.own.wle;have bih:=bi.2.mono hW6h;have cih:=ae hW6h bi.1;have hlr:(thTo f b++rows (phiT f b) (nth f.blocks b).phis.length++rows (insT f b) (nth f.blocks b).ins.length).length=(thTo f b).length+(nth f.blocks b).phis.length+(nth f.blocks b).ins.length:=by simp;omega
  simp[cih,bih.len,ae hW6h ba.1];refine Iz rfl rfl rfl (ba.2.cells.1) ?_;simp;refine t6.own.zE (k:=(0,0)) (α:=Th) (v:=r) (l:=thTo f b++rows (phiT f b) (nth f.blocks b).phis.length++rows (insT f b) (nth f.blocks b).ins.length) (d:=endT f b) rfl El.iE rfl (KJ U6 U6 aS (ba.2.mono hW6)) U1 U1 (λ_=>rfl) (λ_=>rfl) λu10 r10 h10 w10 hX10=>?_;obtain⟨g1,g2⟩:=hX10 _ t6.le t6.av;refine hK2 r10 _ _ rfl rfl ⟨_,UF hW4 hW6,⟨w10.congr λp=>?_,t6.old,g1,g2⟩⟩;have e:thTo f (b+1)=thTo f b++rows (phiT f b) (nth f.blocks b).phis.length++rows (insT f b) (nth f.blocks b).ins.length++[endT f b]:=by rw[iB,thB];simp[Rn]
  rw[e];unfold rK Own.upd;repeat' split
  all_goals first | rfl | simp_all
 rintro r h3 ⟨W3,hW3,t3⟩;simp;subst hz;simp;exact hK _ _ ⟨t3.le,(t3.own.get (k:=(0,0)) (v:=r) (l:=thTo f f.blocks.length) rfl).rd (t3.old.le t3.own.wle) λb hb=>by
  have:=t3.av b hb;rw[bY];rcases Ri b h.size with hlt | hge
  ·simp[vw,hlt]at this
  exact hge⟩
structure GotD where
 e:Int
 b:Int
 p:Int
instance:Rep GotD:=Rep.via λd=>Cat.mk d.e (Cat.mk d.b d.p)
abbrev BL:=List Bool
def sC(t:Th)(j:Nat)(m:BL):Except Tr BL:=if nth m (nth t.mks j).toNat then .error (12,t.blk,t.place) else .ok (m.set (nth t.mks j).toNat UO)
def jh(f:ak)(t:Th):BlkD:=nth f.blocks t.blk.toNat
def ED(f:ak)(t:Th):InsD:=nth (jh f t).ins t.place.toNat
def uy(f:ak)(t:Th):Bool:=decide (0<=t.place)&&decide (t.place<(jh f t).ins.length)
def oS(f:ak)(t:Th):Bool:=decide (t.place=(jh f t).ins.length)
def zC(s:InsD):Bool:=decide (s.op<1)||decide (18<s.op)||!BS s.op s.args.length
def oO(f:ak)(n:Int):Bool:=decide (n<f.params)||decide (8191<n)
def zr(f:ak)(n:Int):Bool:=decide (n<1)||decide ((f.blocks.length:Int)<=n)
def pT(f:ak)(t:Th):Except Tr BL->Except Tr BL
 | .error e=>.error e
 | .ok m'=>if oS f t&&(jh f t).term.to.any (zr f) then .error (14,t.blk,t.place) else .ok m'
def jx(f:ak)(t:Th)(m:BL):Except Tr BL:=
 if uy f t&&zC (ED f t) then .error (10,t.blk,t.place)
 else if oS f t&&!xy (jh f t).term then .error (10,t.blk,t.place)
 else if t.mks.any (oO f) then .error (11,t.blk,t.place)
 else pT f t (upE (sC t) t.mks.length m)
def lI(f:ak):Except Tr BL:=upE (λi m=>jx f (nth (aD f) i) m) (aD f).length (List.replicate 8192 UP)
def Ap{α:Type}:Except Tr α->Tr | .ok _=>(0,0,0) | .error t=>t
def noTh:Th:=⟨-1,0,[],[]⟩
def fY(t:Th)(l:List Th)(n:Int):List Th:=if 0<=n/\n<8192 then l.set n.toNat t else l
def tO(l:List Th)(t:Th):List Th:=t.mks.foldl (fY t) l
def CK(ts:List Th):List Th:=ts.foldl tO (List.replicate 8192 noTh)
variable{n:Int}
theorem qf{t:Th}{l:List Th}:(fY t l n).length=l.length:=by unfold fY;split<;>simp
theorem FV{t:Th}{l:List Th}:(tO l t).length=l.length:=kH (f:=fY t) (λx:List Th=>x.length=l.length) (λ_ _ h=>qf.trans h) _ _ rfl
theorem Fe{ts:List Th}:(CK ts).length=8192:=kH (f:=tO) (λx:List Th=>x.length=8192) (λ_ _ h=>FV.trans h) _ _ (RX ..)
def jr(f:ak)(made:List Th)(away:List BL)(v blk place:Int):Bool:=
 if 0<=v/\v<f.params then UO
 else if(v<0\/8191<v)\/(nth made v.toNat).blk<0 then UP
 else if(nth made v.toNat).blk=blk then decide ((nth made v.toNat).place<0)||decide ((nth made v.toNat).place<place)
 else !nth (nth away (nth made v.toNat).blk.toNat) blk.toNat
def tz(f:ak)(t:Th):PhiD:=nth (jh f t).phis (-1-t.place).toNat
def F3(f:ak)(b:Int):Int:=((nth f.blocks b.toNat).ins.length:Nat)
def uO(f:ak)(t:Th):Bool:=decide (0<t.blk)&&decide ((tz f t).ins.map InD.frm=dr f t.blk)
def stT(f:ak)(made:List Th)(away:List BL)(t:Th)(x:Int):Bool:=!jr f made away x t.blk t.place
def stP(f:ak)(made:List Th)(away:List BL)(p:InD):Bool:=!jr f made away p.val p.frm (F3 f p.frm)
def gV(f:ak)(made:List Th)(away:List BL)(t:Th):Except Tr Unit:=
 if 0<=t.place then(if t.tks.any (stT f made away t) then .error (13,t.blk,t.place) else .ok ())
 else if !uO f t then .error (16,t.blk,t.place)
 else if(tz f t).ins.any (stP f made away) then .error (13,t.blk,t.place)
 else .ok ()
def jB(f:ak):List Th:=CK (aD f)
def iP(f:ak):List BL:=rows (λb=>eW f b) f.blocks.length
def yu(f:ak):Nat->Nat
 | 0=>f.blocks.length
 | n+1=>yu f n+(nth f.blocks n).phis.length+(nth f.blocks n).ins.length
def wayE(f:ak):Except Tr Unit:=upE (λb _=>if nth (eW f (-1)) b=UO then .ok () else .error (15,b,0)) f.blocks.length ()
def Er(f:ak):Except Tr Unit:=upE (λi _=>gV f (jB f) (iP f) (nth (aD f) i)) (aD f).length ()
def PL:Except Tr Unit->Except Tr Unit->Except Tr Unit
 | .ok _,y=>y
 | .error e,_=>.error e
def yR(f:ak):Tr:=
 if f.params<0\/4<f.params then(1,0,0)
 else if f.blocks.length=0 then(14,0,0)
 else if 512<f.blocks.length\/4096<yu f f.blocks.length then(2,0,0)
 else if(Ap (lI f)).1≠0 then Ap (lI f)
 else Ap (PL (wayE f) (Er f))
theorem sY{σ ε:Type}{f:Nat->σ->Except ε σ}{s:σ}{t:ε} : ∀{n:Nat},upE f n s = .error t->∃k s',k<n/\upE f k s = .ok s'/\f k s' = .error t
 | n+1,h=>by
  simp only[upE]at h;split at h
  ·rename_i s' hs;exact⟨n,s',Nat.lt_succ_self n,hs,h⟩
  rename_i t' ht;cases h;obtain⟨k,s',h1,h2⟩:=sY ht;exact⟨k,s',Nat.lt_succ_of_lt h1,h2⟩
theorem xp{f:ak}{t:Th}{m:BL}{e:Tr}(h:jx f t m = .error e):(10<=e.1/\e.1<=14)/\e.2.1=t.blk/\e.2.2=t.place:=by
 unfold jx at h;split at h
 ·cases h;simp
 split at h
 ·cases h;simp
 split at h
 ·cases h;simp
 unfold pT at h;split at h
 ·rename_i e' he;cases h;obtain⟨k,s',_,_,h3⟩:=sY he;unfold sC at h3;split at h3
  ·cases h3;simp
  cases h3
 split at h
 ·cases h;simp
 cases h
theorem Il(hn:0<=n){ts:List Th}(h : ∀t∈ts,t.blk<n){i:Nat}(hi:i<8192):(nth (CK ts) i).blk<n:=by
 have key : ∀(ts:List Th),(∀t∈ts,t.blk<n)->∀l:List Th,(∀x∈l,x.blk<n)->∀x∈ts.foldl tO l,x.blk<n:=by
  intro ts;induction ts with
  | nil=>exact λ_ l hl=>hl
  | cons t ts ih=>
   intro ht l hl;refine ih (λx hx=>ht x (Q7 _ hx)) _ ?_;refine kH (f:=fY t) (λl:List Th=>∀x∈l,x.blk<n) (λl a hl x hx=>?_) _ _ hl;unfold fY at hx;split at hx
   ·rcases Tz hx with h | rfl
    ·exact hl x h
    exact ht _ Rm
   exact hl x hx
 refine key ts h _ (λx hx=>?_) _ (bF (by show i<(CK ts).length;rw[Fe];exact hi));rw[(List.mem_replicate.1 hx).2];show(-1:Int)<n;omega
theorem ku{σ ε:Type}{f:σ->α->Except ε σ}{a b:List α}{s:σ}:(a++b).foldlM f s=(match a.foldlM f s with | .ok s'=>b.foldlM f s' | .error e=>.error e):=by rw[T8];cases a.foldlM f s<;>rfl
theorem tU{σ ε:Type}{f:σ->α->Except ε σ}{a:α}{s:σ}:[a].foldlM f s=f s a:=by rw[SE];cases f s a<;>rfl
theorem py{σ α ε:Type}{g:Nat->σ->Except ε σ}{f:σ->α->Except ε σ}{x:Nat->α}{s:σ} : ∀{n:Nat},(∀i s,i<n->g i s=f s (x i))->upE g n s=(rows x n).foldlM f s
 | 0,_=>rfl
 | n+1,h=>by
  have ih:=py (n:=n) (s:=s) λi s hi=>h i s U1;rw[fB,ku,<-ih];simp only[upE];cases upE g n s with
  | ok s'=>show g n s'=[x n].foldlM f s';rw[tU];exact h n s' U1
  | error e=>rfl
theorem rV{σ ε:Type}[Inhabited α]{f:σ->α->Except ε σ}{l:List α}{s:σ}:upE (λi s=>f s (nth l i)) l.length s=l.foldlM f s:=by rw[py (f:=f) (x:=nth l) λ_ _ _=>rfl];congr 1;refine S5 U2 λi h1 h2=>?_;simp[rows,aC h2]
def mj(f:ak)(m:MW)(t:Th):Except Tr MW:=
 if t.place<0 then allS f.params t.mks t.blk t.place m
 else if t.place<(jh f t).ins.length then insS f.params t.blk (jh f t) t.place.toNat m
 else endS f.blocks.length t.blk (jh f t) m
theorem wK{f:ak}{i:Nat}{m:MW}:mj f m (phiT f b i)=phiS f.params b (nth f.blocks b) i m:=by unfold mj;rw[if_pos (show(phiT f b i).place<0 by show -1-(i:Int)<0;omega)];rfl
theorem xj{f:ak}{i:Nat}{m:MW}(hi:i<(nth f.blocks b).ins.length):mj f m (insT f b i)=insS f.params b (nth f.blocks b) i m:=by unfold mj;rw[if_neg (show ¬(insT f b i).place<0 by show ¬(i:Int)<0;omega),if_pos (show(insT f b i).place<((jh f (insT f b i)).ins.length:Int) by show(i:Int)<((nth f.blocks b).ins.length:Int);omega)];rfl
theorem xh{f:ak}{m:MW}:mj f m (endT f b)=endS f.blocks.length b (nth f.blocks b) m:=by unfold mj;rw[if_neg (show ¬(endT f b).place<0 by show ¬((nth f.blocks b).ins.length:Int)<0;omega),if_neg (show ¬(endT f b).place<((jh f (endT f b)).ins.length:Int) by show ¬((nth f.blocks b).ins.length:Int)<((nth f.blocks b).ins.length:Int);omega)];rfl
theorem KQ{f:ak}{m:MW}:blkS f b m=(thB f b).foldlM (mj f) m:=by
 unfold blkS thB;rw[py (f:=mj f) (x:=phiT f b) (n:=(nth f.blocks b).phis.length) λi s hi=>wK.symm];rw[ku,ku];cases (rows (phiT f b) (nth f.blocks b).phis.length).foldlM (mj f) m with
 | error e=>rfl
 | ok m1=>
  simp only;rw[py (f:=mj f) (x:=insT f b) (n:=(nth f.blocks b).ins.length) λi s hi=>(xj hi).symm];cases (rows (insT f b) (nth f.blocks b).ins.length).foldlM (mj f) m1 with
  | error e=>rfl
  | ok m2=>simp only;rw[tU];exact xh.symm
theorem yV{f:ak}{m:MW}:nm f m=(aD f).foldlM (mj f) m:=by
 have key : ∀n,upE (blkS f) n m=(thTo f n).foldlM (mj f) m:=by
  intro n;induction n with
  | zero=>rfl
  | succ n ih=>
   rw[iB,ku,<-ih];simp only[upE];cases upE (blkS f) n m with
   | error e=>rfl
   | ok s=>exact KQ
 exact key _
theorem tq{f:ak}:lI f=(aD f).foldlM (λm t=>jx f t m) (List.replicate 8192 UP):=rV (f:=fun(m:BL) (t:Th)=>jx f t m)
def xz(m:MW)(l:BL):Prop:=l.length=8192/\∀n:Int,0<=n->n<8192->(m n).isSome=nth l n.toNat
def Alike{α β:Type}(R:α->β->Prop):Except Tr α->Except Tr β->Prop
 | .ok a,.ok b=>R a b
 | .error e,.error e'=>e=e'
 | _,_=>False
theorem tM{α β γ:Type}{R:α->β->Prop}{F:α->γ->Except Tr α}{G:β->γ->Except Tr β} : ∀{l:List γ},(∀t∈l,∀a b,R a b->Alike R (F a t) (G b t))->∀{a:α} {b:β},R a b->Alike R (l.foldlM F a) (l.foldlM G b)
 | [],_,a,b,h=>h
 | t::l,hs,a,b,h=>by
  rw[SE,SE];have:=hs t Rm a b h;cases e1:F a t with
  | error e=>
   cases e2:G b t with
   | error e'=>rw[e1,e2]at this;exact this
   | ok b'=>rw[e1,e2]at this;exact this.elim
  | ok a'=>
   cases e2:G b t with
   | error e'=>rw[e1,e2]at this;exact this.elim
   | ok b'=>rw[e1,e2]at this;exact tM (λt ht=>hs t (Q7 _ ht)) this
theorem Hz{f:ak}:cu n f.params 8191=!oO f n:=by rw[RM];simp[cu,oO]
theorem GQ{p:α->Bool}{l:List α}:l.all (λn=>!p n)=!l.any p:=by
 induction l with
 | nil=>rfl
 | cons a l ih=>simp[ih]
def oN(t:Th)(m:BL)(n:Int):Except Tr BL:=if nth m n.toNat then .error (12,t.blk,t.place) else .ok (m.set n.toNat UO)
theorem HW{f:ak}{t:Th}{m:MW}{l:BL}(h:xz m l)(hp:0<=f.params)(hn : ∀n∈t.mks,oO f n=UP):Alike xz (t.mks.foldlM (tG t.blk t.place) m) (upE (sC t) t.mks.length l):=by
 have e:upE (sC t) t.mks.length l=t.mks.foldlM (oN t) l:=rV (f:=oN t);rw[e];refine tM (λn hnm m l h=>?_) h;have hb:=hn n hnm;simp only[oO,SC,decide_eq_false_iff_not]at hb;have hs:=h.2 n U1 U1;unfold tG oN;rw[hs];cases hc:nth l n.toNat with
 | true=>exact rfl
 | false=>
  refine⟨by simpa using h.1,λk h0 h1=>?_⟩;rw[bU (by rw[h.1];omega)];simp only[putM];by_cases hk:k=n
  ·subst hk;simp
  rw[if_neg hk,if_neg U1];exact h.2 k h0 h1
theorem Az{f:ak}{t:Th}{m:MW}{l:BL}(h:xz m l)(hp:0<=f.params):
  Alike xz (allS f.params t.mks t.blk t.place m) (if t.mks.any (oO f) then .error (11,t.blk,t.place) else upE (sC t) t.mks.length l):=by
 unfold allS;have e:(t.mks.all λn=>cu n f.params 8191)=!t.mks.any (oO f):=by rw[<-GQ];congr 1;funext n;exact Hz
 rw[e];cases hb:t.mks.any (oO f)with
 | true=>exact rfl
 | false=>refine HW h hp λn hn=>?_;rw[Tq];intro e2;rw[Tq]at hb;exact hb (T1.2 ⟨n,hn,e2⟩)
theorem MK{x:InsD}:(cu x.op 1 18&&cu x.args.length (gL x.op).1 (gL x.op).2)=!zC x:=by
 rw[RM];simp only[zC,cu,gL,BS,Q9,Sr,SC,decide_eq_true_eq,decide_eq_false_iff_not,Bool.not_eq_false'];by_cases h1:x.op=1
 ·simp[h1]
 by_cases h2:x.op=15
 ·simp[h2];omega
 by_cases h3:x.op=17
 ·simp[h3]
 simp only[h1,h2,h3,if_false,decide_eq_true_eq];omega
theorem L7{f:ak}:cu n 1 ((f.blocks.length:Int)-1)=!zr f n:=by rw[RM];simp[cu,zr];omega
theorem Ir{t:cS}:qU t=xy t:=by
 unfold qU xy gB;by_cases h1:t.kind=1
 ·rw[RM];simp[putM,h1,cu];omega
 by_cases h2:t.kind=2
 ·rw[RM];simp[putM,h2,cu];omega
 by_cases h3:t.kind=3
 ·rw[RM];simp[putM,h3,cu];omega
 by_cases h4:t.kind=4
 ·rw[RM];simp[putM,h4,cu]
 by_cases h5:t.kind=5
 ·rw[RM];simp[putM,h5,cu]
 simp[putM,h1,h2,h3,h4,h5]
theorem xI{f:ak}{t:Th}{x:Except Tr BL}(h:oS f t=UP):pT f t x=x:=by
 unfold pT;cases x with
 | error e=>rfl
 | ok m=>simp only[h,UA];rfl
theorem Iu{f:ak}{t:Th}(ht:t∈aD f)(hp:0<=f.params){m:MW}{l:BL}(h:xz m l):Alike xz (mj f m t) (jx f t l):=by
 obtain⟨b,hb,ht⟩:=jJ.1 ht;rcases ma.1 ht with⟨i,hi,rfl⟩ | ⟨i,hi,rfl⟩ | rfl
 ·have e1:uy f (phiT f b i)=false:=by simp[uy,phiT];omega
  have e2:oS f (phiT f b i)=false:=by show decide (-1-(i:Int)=((nth f.blocks b).ins.length:Int))=UP;rw[decide_eq_false_iff_not];omega
  rw[wK,jx,e1,e2,xI e2];exact Az (t:=phiT f b i) h hp
 ·have e1:uy f (insT f b i)=true:=by simp[uy,insT,jh];omega
  have e2:oS f (insT f b i)=false:=by show decide ((i:Int)=((nth f.blocks b).ins.length:Int))=UP;rw[decide_eq_false_iff_not];omega
  have e3:ED f (insT f b i)=nth (nth f.blocks b).ins i:=by simp[ED,jh,insT]
  rw[xj hi,jx,e1,e2,xI e2,e3,insS,MK];cases hb:zC (nth (nth f.blocks b).ins i)with
  | true=>exact rfl
  | false=>exact Az (t:=insT f b i) h hp
 have e1:uy f (endT f b)=false:=by simp[uy,endT,jh]
 have e2:oS f (endT f b)=true:=by simp[oS,endT,jh]
 have e3:jh f (endT f b)=nth f.blocks b:=by simp[jh,endT]
 rw[xh,jx,e1,e2,e3,endS,Ir];cases hb:xy (nth f.blocks b).term with
 | false=>exact rfl
 | true=>
  have e4:((nth f.blocks b).term.to.all λt=>cu t 1 ((f.blocks.length:Int)-1))=!(nth f.blocks b).term.to.any (zr f):=by rw[<-GQ];congr 1;funext n;exact L7
  rw[e4];show Alike xz _ (pT f (endT f b) (.ok l));unfold pT;rw[e2,e3];cases (nth f.blocks b).term.to.any (zr f)with
  | true=>exact rfl
  | false=>exact h
theorem FQ{f:ak}(hp:0<=f.params):Alike xz (nm f (λ_=>UL)) (lI f):=by rw[yV,tq];refine tM (λt ht m l h=>Iu ht hp h) ⟨RX ..,λn h0 h1=>?_⟩;rw[aC (by rw[RX];omega),Ut];rfl
def Fa(t:Th):Option (Int × Int):=if t.blk<0 then UL else UK (t.blk,t.place)
structure Site(m:MW)(s:List Th):Prop where
 len:s.length=8192
 inn : ∀n:Int,0<=n->n<8192->m n=Fa (nth s n.toNat)
 out : ∀n:Int,¬(0<=n/\n<8192)->m n=UL
theorem DD{t:Th}(hb:0<=t.blk) : ∀{l:List Int} {m:MW} {s:List Th},Site m s->(∀n∈l,0<=n/\n<8192)->Site (l.foldl (λm n=>putM m n (t.blk,t.place)) m) (l.foldl (fY t) s)
 | [],m,s,h,_=>h
 | n::l,m,s,h,hl=>by
  rw[RG,RG];have hn:=hl n Rm;refine DD hb ⟨qf.trans h.len,λk h0 h1=>?_,λk hk=>?_⟩ λk hk=>hl k (Q7 _ hk)
  ·unfold fY putM;rw[if_pos hn,bU (by rw[h.len];omega)];by_cases e:k=n
   ·subst e;rw[if_pos rfl,if_pos rfl];unfold Fa;rw[if_neg U1]
   rw[if_neg e,if_neg U1];exact h.inn k h0 h1
  unfold putM;rw[if_neg (by rintro rfl;exact hk hn)];exact h.out k hk
theorem C2{b p:Int} : ∀{l:List Int} {m m':MW},l.foldlM (tG b p) m = .ok m'->m'=l.foldl (λm n=>putM m n (b,p)) m
 | [],m,m',h=>by cases h;rfl
 | n::l,m,m',h=>by
  rw[SE]at h;cases e:tG b p m n with
  | error t=>rw[e]at h;cases h
  | ok m1=>
   rw[e]at h;unfold tG at e;split at e
   ·cases e
   cases e;exact C2 (l:=l) (m:=putM m n (b,p)) h
theorem ER{ps b p:Int}{l:List Int}{m m':MW}(h:allS ps l b p m = .ok m'):m'=l.foldl (λm n=>putM m n (b,p)) m/\∀n∈l,ps<=n/\n<=8191:=by
 unfold allS at h;split at h
 ·rename_i ha;refine⟨C2 h,λn hn=>?_⟩;have:=RS.1 ha n hn;simpa[cu]using this
 cases h
theorem IV{f:ak}{t:Th}(ht:t∈aD f){m m':MW}(h:mj f m t = .ok m'):(m'=t.mks.foldl (λm n=>putM m n (t.blk,t.place)) m/\∀n∈t.mks,f.params<=n/\n<=8191)/\0<=t.blk:=by
 obtain⟨b,hb,ht⟩:=jJ.1 ht;rcases ma.1 ht with⟨i,hi,rfl⟩ | ⟨i,hi,rfl⟩ | rfl
 ·rw[wK]at h;exact⟨ER h,by show 0<=(b:Int);omega⟩
 ·rw[xj hi]at h;unfold insS at h;split at h
  ·exact⟨ER h,by show 0<=(b:Int);omega⟩
  cases h
 rw[xh]at h;unfold endS at h;split at h
 ·split at h
  ·cases h;exact⟨⟨rfl,λn hn=>by cases hn⟩,by show 0<=(b:Int);omega⟩
  cases h
 cases h
theorem Bw{f:ak}(hp:0<=f.params) : ∀{l:List Th},(∀t∈l,t∈aD f)->∀{m m':MW} {s:List Th},Site m s->l.foldlM (mj f) m = .ok m'->Site m' (l.foldl tO s)
 | [],_,m,m',s,h,e=>by cases e;exact h
 | t::l,hl,m,m',s,h,e=>by
  rw[SE]at e;cases e1:mj f m t with
  | error x=>rw[e1]at e;cases e
  | ok m1=>rw[e1]at e;obtain⟨⟨q1,q2⟩,q3⟩:=IV (hl t Rm) e1;rw[RG];refine Bw hp (λt ht=>hl t (Q7 _ ht)) (m:=m1) ?_ e;rw[q1];exact DD q3 h λn hn=>by have:=q2 n hn;omega
theorem H6{f:ak}(hp:0<=f.params){m:MW}(h:nm f (λ_=>UL) = .ok m):Site m (jB f):=by rw[yV]at h;refine Bw hp (λt ht=>ht) ⟨RX ..,λn h0 h1=>?_,λn _=>rfl⟩ h;rw[aC (by rw[RX];omega),Ut];rfl
theorem yB{f:ak}{m:MW}{made:List Th}{away:List BL}{idom:List Int}{v blk place at_ told:Int}(hp:f.params<=8192)(hs:Site m made)(hd : ∀a:Int,0<=a->a<f.blocks.length->eR idom a blk=!nth (nth away a.toNat) blk.toNat)(hm : ∀i,i<8192->(nth made i).blk<f.blocks.length):useS f.params m idom v blk place at_ told=if(!jr f made away v blk at_) then .error (13,told,place) else .ok ():=by
 unfold useS;by_cases c1:0<=v/\v<f.params
 ·have e:jr f made away v blk at_=true:=by unfold jr;rw[if_pos c1]
  rw[if_pos c1,e];rfl
 rw[if_neg c1];by_cases c2:v<0\/8191<v
 ·have e:jr f made away v blk at_=false:=by unfold jr;rw[if_neg c1,if_pos (.inl c2)]
  rw[hs.out v U1,e];rfl
 have e:jr f made away v blk at_=if(nth made v.toNat).blk<0 then UP else if(nth made v.toNat).blk=blk then decide ((nth made v.toNat).place<0)||decide ((nth made v.toNat).place<at_) else !nth (nth away (nth made v.toNat).blk.toNat) blk.toNat:=by
  unfold jr;rw[if_neg c1];by_cases c3:(nth made v.toNat).blk<0
  ·rw[if_pos (.inr c3),if_pos c3]
  rw[if_neg (by rintro(q | q)<;>contradiction),if_neg c3]
 rw[hs.inn v U1 U1,e];have hmb:=hm v.toNat U1;generalize nth made v.toNat=t at hmb;unfold Fa;by_cases c3:t.blk<0
 ·rw[if_pos c3,if_pos c3];rfl
 rw[if_neg c3,if_neg c3];have e2:mN (t.blk,t.place) idom blk at_=if t.blk=blk then decide (t.place<0)||decide (t.place<at_) else !nth (nth away t.blk.toNat) blk.toNat:=by
  unfold mN;by_cases c4:t.blk=blk
  ·simp only[c4,decide_true,Tl,Bool.not_true,UA,Bool.or_false,if_true];rw[Bool.or_comm]
  simp only[c4,decide_false,UA,Bool.not_false,Tl,UB,if_false];exact hd t.blk U1 hmb
 simp only[e2];generalize (if t.blk=blk then decide (t.place<0)||decide (t.place<at_) else !nth (nth away t.blk.toNat) blk.toNat)=B;cases B<;>rfl
theorem yA[Inhabited α]{l:List α}{p:α->Bool}{e:Tr}{g:Nat->Except Tr Unit}(h : ∀j,j<l.length->g j=if p (nth l j) then .error e else .ok ()):uAll g l.length=if l.any p then .error e else .ok ():=by
 have h1:uAll g l.length=l.foldlM (fun(_:Unit) x=>if p x then Except.error e else .ok ()) ():=by
  unfold uAll;rw[<-rV (f:=fun(_:Unit) x=>if p x then Except.error e else .ok ())];have key : ∀n,n<=l.length->upE (λi (_:Unit)=>g i) n ()=upE (λi (_:Unit)=>if p (nth l i) then Except.error e else .ok ()) n ():=by
   intro n;induction n with
   | zero=>exact λ_=>rfl
   | succ n ih=>intro hn;simp only[upE];rw[ih U1,h n U1]
  exact key _ (Q4 _)
 rw[h1];clear h1 h;induction l with
 | nil=>rfl
 | cons a l ih=>
  rw[SE,List.any_cons];cases hp:p a with
  | true=>rfl
  | false=>rw[UB];exact ih
theorem Fx{β:Type}{p q:Nat->Bool}{x:Nat->β}{n:Nat}(h : ∀a,a<n->p a=q a):sift p x n=sift q x n:=by rw[sB,sB];congr 1;exact TP λa ha=>h a (SG.1 ha)
theorem Fv{f:ak}(hb:b<f.blocks.length):nth (dR (ofG f.blocks)) b=dr f b:=by rw[DA,wM,qu,gH hb,dr];refine Fx λa ha=>?_;rw[RM,vE,decide_eq_true_eq,RB];exact⟨λh=>h.2,λh=>⟨by omega,h⟩⟩
theorem HG{f:ak}{i:Nat}(hb:b<f.blocks.length):Ej (nth (nth f.blocks b).phis i) (nth (dR (ofG f.blocks)) b) b=uO f (phiT f b i):=by
 have e1:tz f (phiT f b i)=nth (nth f.blocks b).phis i:=by unfold tz jh phiT;simp only[RB];rw[show(-1-(-1-(i:Int))).toNat=i by omega]
 have e2:(phiT f b i).blk=(b:Int):=rfl;unfold Ej mq uO;rw[e1,e2,Fv hb];generalize nth (nth f.blocks b).phis i=x;generalize dr f b=row;rw[RM];simp only[Q9,decide_eq_true_eq,Hk,A8];constructor
 ·rintro⟨⟨h1,h2⟩,h3⟩;refine⟨by omega,S5 U9 λj hj hj2=>?_⟩;have:=h3 j (by simpa using hj);rw[aC hj2,aC (by simpa using hj)]at this;simpa using this
 rintro⟨h1,h2⟩;have hl:x.ins.length=row.length:=by rw[<-h2,SJ]
 refine⟨U6,λj hj=>?_⟩;rw[<-h2,aC (l:=List.map InD.frm x.ins) (by rw[SJ];exact hj),aC hj];simp
theorem yD{f:ak}: ∀i,i<8192->(nth (jB f) i).blk<f.blocks.length:=λi hi=>Il U1 (λt ht=>by
 obtain⟨b,hb,ht⟩:=jJ.1 ht;rcases ma.1 ht with⟨i,hi,rfl⟩ | ⟨i,hi,rfl⟩ | rfl
 ·show(b:Int)<_;omega
 ·show(b:Int)<_;omega
 show(b:Int)<_;omega) hi
section
variable{f:ak}{m:MW}{idom:List Int}(hp0:f.params<=8192)(hs:Site m (jB f))(hd : ∀a b:Int,0<=a->a<f.blocks.length->0<=b->b<f.blocks.length->eR idom a b=!nth (nth (iP f) a.toNat) b.toNat)
include hp0 hs hd
theorem L6{i:Nat}(hb:b<f.blocks.length)(hi:i<(nth f.blocks b).phis.length):phiU f m idom (dR (ofG f.blocks)) b i=gV f (jB f) (iP f) (phiT f b i):=by
 have hf:=HG (f:=f) (i:=i) hb;have e1:tz f (phiT f b i)=nth (nth f.blocks b).phis i:=by unfold tz jh phiT;simp only[RB];rw[show(-1-(-1-(i:Int))).toNat=i by omega]
 have e3:gV f (jB f) (iP f) (phiT f b i)=if !uO f (phiT f b i) then .error (16,b,-1-i) else if(nth (nth f.blocks b).phis i).ins.any (stP f (jB f) (iP f)) then .error (13,b,-1-i) else .ok ():=by unfold gV;rw[if_neg (show ¬0<=(phiT f b i).place by show ¬0<=-1-(i:Int);omega),e1];rfl
 rw[e3];unfold phiU;simp only[hf];cases hss:uO f (phiT f b i)with
 | false=>rfl
 | true=>
  rw[if_pos rfl,if_neg U2];refine yA λj hj=>?_;have hfr:0<=(nth (nth (nth f.blocks b).phis i).ins j).frm/\(nth (nth (nth f.blocks b).phis i).ins j).frm<f.blocks.length:=by unfold uO at hss;rw[e1]at hss;simp only[Q9,decide_eq_true_eq]at hss;have hm:=TB (f:=InD.frm) (bF hj);rw[hss.2]at hm;obtain⟨a,h1,_,h2⟩:=qY.1 hm;omega
  rw[yB hp0 hs (λa h0 h1=>hd a _ h0 h1 hfr.1 hfr.2) yD];rfl
theorem Lw{i:Nat}(hb:b<f.blocks.length)(hi:i<(nth f.blocks b).ins.length):insU f m idom b i=gV f (jB f) (iP f) (insT f b i):=by
 have e3:gV f (jB f) (iP f) (insT f b i)=if(nth (nth f.blocks b).ins i).args.any (stT f (jB f) (iP f) (insT f b i)) then .error (13,b,i) else .ok ():=by unfold gV;rw[if_pos (show 0<=(insT f b i).place by show 0<=(i:Int);omega)];rfl
 rw[e3];unfold insU;refine yA λj hj=>?_;rw[yB hp0 hs (λa h0 h1=>hd a _ h0 h1 U1 U1) yD];rfl
theorem MH(hb:b<f.blocks.length):endU f m idom b=gV f (jB f) (iP f) (endT f b):=by
 have e3:gV f (jB f) (iP f) (endT f b)=if(nth f.blocks b).term.args.any (stT f (jB f) (iP f) (endT f b)) then .error (13,b,(nth f.blocks b).ins.length) else .ok ():=by unfold gV;rw[if_pos (show 0<=(endT f b).place by show 0<=((nth f.blocks b).ins.length:Int);omega)];rfl
 rw[e3];unfold endU;refine yA λj hj=>?_;rw[yB hp0 hs (λa h0 h1=>hd a _ h0 h1 U1 U1) yD];rfl
def stF(f:ak)(_:Unit)(t:Th):Except Tr Unit:=gV f (jB f) (iP f) t
theorem Mi(hb:b<f.blocks.length):blkU f m idom (dR (ofG f.blocks)) b=(thB f b).foldlM (stF f) ():=by
 unfold blkU thB uAll;rw[py (f:=stF f) (x:=phiT f b) (n:=(nth f.blocks b).phis.length) λi s hi=>L6 hp0 hs hd hb hi];rw[py (f:=stF f) (x:=insT f b) (n:=(nth f.blocks b).ins.length) λi s hi=>Lw hp0 hs hd hb hi];rw[ku,ku,MH hp0 hs hd hb];cases (rows (phiT f b) (nth f.blocks b).phis.length).foldlM (stF f) ()with
 | error e=>rfl
 | ok m1=>
  obtain⟨⟩:=m1;cases hI:(rows (insT f b) (nth f.blocks b).ins.length).foldlM (stF f) ()with
  | error e=>simp only[andE,hI]
  | ok m2=>simp only[andE,hI];rw[tU];rfl
theorem IH:uAll (blkU f m idom (dR (ofG f.blocks))) f.blocks.length=Er f:=by
 have key : ∀n,n<=f.blocks.length->uAll (blkU f m idom (dR (ofG f.blocks))) n=(thTo f n).foldlM (stF f) ():=by
  intro n;induction n with
  | zero=>exact λ_=>rfl
  | succ n ih=>
   intro hn;rw[iB,ku,<-ih U1];have e:uAll (blkU f m idom (dR (ofG f.blocks))) (n+1)=match uAll (blkU f m idom (dR (ofG f.blocks))) n with | .ok _=>blkU f m idom (dR (ofG f.blocks)) n | .error e=>.error e:=by show upE _ (n+1) ()=_;simp only[upE];unfold uAll;cases upE (λi (_:Unit)=>blkU f m idom (dR (ofG f.blocks)) i) n ()<;>rfl
   rw[e];cases uAll (blkU f m idom (dR (ofG f.blocks))) n with
   | error e=>rfl
   | ok s=>exact Mi hp0 hs hd U1
 rw[key _ (Q4 _)];exact(rV (f:=stF f)).symm
end
theorem A0{f:ak} : ∀k,manyN f k=(yu f k:Int)
 | 0=>rfl
 | k+1=>by have ih:=A0 (f:=f) k;unfold manyN at ih ⊢;rw[up,ih,yu];omega
theorem Bh{σ ε:Type}{f g:Nat->σ->Except ε σ}{s:σ} : ∀{n:Nat},(∀i s,i<n->f i s=g i s)->upE f n s=upE g n s
 | 0,_=>rfl
 | n+1,h=>by
  simp only[upE];rw[Bh (n:=n) λi s hi=>h i s U1];cases upE g n s with
  | ok s'=>exact h n s' U1
  | error e=>rfl
theorem yl{f:Nat->Unit->Except Tr Unit} : ∀{n:Nat},upE f n () = .ok ()->∀i,i<n->f i () = .ok ()
 | n+1,h,i,hi=>by
  simp only[upE]at h;cases e:upE f n ()with
  | error t=>rw[e]at h;cases h
  | ok s=>
   rw[e]at h;rcases Ri i n with hlt | hge
   ·exact yl e i hlt
   have:i=n:=by omega
   subst this;exact h
theorem Ji{f:ak}(hn:0<f.blocks.length):uAll (wD f) f.blocks.length=wayE f:=by
 unfold uAll wayE;refine Bh λb s hb=>?_;unfold wD;have e:decide ((b:Int)∈bI (ofG f.blocks))=nth (eW f (-1)) b:=by rw[RM,decide_eq_true_eq,(kU (by rw[qu];exact hn)).mem,kM hb]
 rw[e]
theorem Kz{f:ak}(hn:0<f.blocks.length)(hw:wayE f = .ok ())(a b:Int)(h0:0<=a)(h1:a<f.blocks.length)(h2:0<=b)(h3:b<f.blocks.length):
  eR (tD (ofG f.blocks)) a b=!nth (nth (iP f) a.toNat) b.toNat:=by
 have hR : ∀x:Nat,x<f.blocks.length->Re (ofG f.blocks) (-1) x:=λx hx=>by
  have:=yl hw x hx;rw[<-kM hx];split at this
  ·assumption
  cases this
 have hg:0<(ofG f.blocks).length:=by rw[qu];exact hn
 obtain⟨fp,C,l,hl,I⟩:=Aj hg;have hi:tD (ofG f.blocks)=l:=by unfold tD;rw[hl];rfl
 rw[hi];have e:=uI I C (a:=a.toNat) (b:=b.toNat) (by rw[qu];omega) (hR _ U1);rw[RE h0,RE h2]at e;rw[e,RM,rM];have ha:nth (iP f) a.toNat=eW f a:=by unfold iP;rw[gH U1,RE h0]
 rw[ha];have hr:=kM (f:=f) (wo:=a) (b:=b.toNat) U1;have haa:((a.toNat:Nat):Int)=a:=RE h0;rw[haa];cases hc:nth (eW f a) b.toNat with
 | true=>rw[hc]at hr;simp[hr.1 rfl]
 | false=>
  rw[hc]at hr;have hnr:¬Re (ofG f.blocks) a b.toNat:=λh=>by have:=hr.2 h;cases this
  simp[hnr,hR _ (show a.toNat<f.blocks.length by omega),hR _ (show b.toNat<f.blocks.length by omega)]
theorem HT(f:ak):my f=yR f:=by
 unfold my ny yR;by_cases c1:f.params<0\/4<f.params
 ·have:cu f.params 0 4=false:=by rw[Tq];simp[cu];omega
  rw[if_pos this,if_pos c1]
 have hw4:¬cu f.params 0 4=false:=by simp[cu];omega
 rw[if_neg hw4,if_neg c1];by_cases c2:f.blocks.length=0
 ·rw[if_pos c2,if_pos c2]
 rw[if_neg c2,if_neg c2];have hm:Gn f=(yu f f.blocks.length:Int):=A0 _;by_cases c3:512<f.blocks.length\/4096<yu f f.blocks.length
 ·rw[if_pos (by rw[hm];omega),if_pos c3]
 rw[if_neg (by rw[hm];omega),if_neg c3];have hp:0<=f.params:=by omega
 have hsh:=FQ hp;cases hS:nm f (λ_=>UL)with
 | error e=>
  cases hR:lI f with
  | ok l=>rw[hS,hR]at hsh;exact hsh.elim
  | error e'=>rw[hS,hR]at hsh;have hee:e=e':=hsh;subst hee;obtain⟨k,s',h1,_,h3⟩:=sY hR;have:=(xp h3).1;rw[if_pos (by show e.1≠0;omega)];rfl
 | ok m=>
  cases hR:lI f with
  | error e'=>rw[hS,hR]at hsh;exact hsh.elim
  | ok l=>
   rw[if_neg (by simp[Ap])];have hs:=H6 hp hS;show(match uS f m (tD (ofG f.blocks))with | .ok _=>((0,0,0):Tr) | .error t=>t)=_;unfold uS;rw[Ji U1];cases hW:wayE f with
   | error e=>rfl
   | ok s=>obtain⟨⟩:=s;have:=IH (f:=f) (m:=m) (idom:=tD (ofG f.blocks)) U1 hs λa b h0 h1 h2 h3=>Kz U1 hW a b h0 h1 h2 h3;show(match uAll (blkU f m (tD (ofG f.blocks)) (dR (ofG f.blocks))) f.blocks.length with | .ok _=>((0,0,0):Tr) | .error t=>t)=Ap (Er f);rw[this];cases Er f<;>rfl
def Marks(m:BL)(S:Int->Prop):Prop:=m.length=8192/\∀n:Int,0<=n->n<8192->(nth m n.toNat=UO↔S n)
theorem E5:Marks (List.replicate 8192 UP) (λ_=>False):=⟨RX,λn h0 h1=>by rw[aE U1];simp⟩
theorem HH{m:BL}{S:Int->Prop}(h:Marks m S)(h0:0<=n)(h1:n<8192):Marks (m.set n.toNat UO) (λk=>S k\/k=n):=by
 refine⟨by simpa using h.1,λk k0 k1=>?_⟩;rw[bU (by rw[h.1];omega)];split
 ·rename_i e;exact⟨λ_=>.inr U1,λ_=>rfl⟩
 rename_i e;rw[h.2 k k0 k1];exact⟨.inl,λo=>o.resolve_right (by rintro rfl;exact e rfl)⟩
theorem Marks.congr{m:BL}{S T:Int->Prop}(h:Marks m S)(he : ∀n,S n↔T n):Marks m T:=⟨h.1,λn a b=>(h.2 n a b).trans (he n)⟩
theorem zX{t:Th} : ∀{l:List Int} {m m':BL} {S:Int->Prop},Marks m S->(∀n∈l,0<=n/\n<8192)->l.foldlM (oN t) m = .ok m'->Marks m' (λk=>S k\/k∈l)/\l.Nodup/\∀n∈l,¬S n
 | [],m,m',S,h,_,e=>by cases e;exact⟨h.congr λn=>by simp,TK,λn hn=>by cases hn⟩
 | a::l,m,m',S,h,hl,e=>by
  rw[SE]at e;have ha:=hl a Rm;unfold oN at e;by_cases hc:nth m a.toNat=UO
  ·rw[if_pos hc]at e;cases e
  rw[if_neg hc]at e;obtain⟨g1,g2,g3⟩:=zX (HH h ha.1 ha.2) (λn hn=>hl n (Q7 _ hn)) e;refine⟨g1.congr λn=>by rw[Ru,or_assoc],S0.2 ⟨λhm=>g3 a hm (.inr rfl),g2⟩,λn hn=>?_⟩;rcases Ru.1 hn with rfl | hn
  ·exact λhs=>hc ((h.2 n ha.1 ha.2).2 hs)
  exact λhs=>g3 n hn (.inl hs)
structure BG(f:ak)(t:Th):Prop where
 op:uy f t=UO->zC (ED f t)=UP
 term:oS f t=UO->xy (jh f t).term=UO
 mks : ∀n∈t.mks,f.params<=n/\n<=8191
 to:oS f t=UO->∀n∈(jh f t).term.to,1<=n/\n<f.blocks.length
theorem Kt{t:Th}{m:BL}:upE (sC t) t.mks.length m=t.mks.foldlM (oN t) m:=rV (f:=oN t)
theorem any_false{p:α->Bool}{l:List α}:l.any p=UP↔∀n∈l,p n=false:=by rw[List.any_eq_false];exact forall_congr' λn=>forall_congr' λ_=>by simp
theorem Lb{f:ak}:oO f n=UP↔f.params<=n/\n<=8191:=by simp[oO]
theorem LY{f:ak}:zr f n=UP↔1<=n/\n<f.blocks.length:=by simp[zr]
theorem Fy{f:ak}{t:Th}{m m':BL}(h:jx f t m = .ok m'):BG f t/\t.mks.foldlM (oN t) m = .ok m':=by
 unfold jx at h;split at h
 ·cases h
 rename_i c1;split at h
 ·cases h
 rename_i c2;split at h
 ·cases h
 rename_i c3;rw[Kt]at h;unfold pT at h;split at h
 ·cases h
 rename_i m1 e;split at h
 ·cases h
 rename_i c4;cases h;refine⟨⟨λg=>?_,λg=>?_,λn hn=>?_,λg n hn=>?_⟩,e⟩
 ·simpa[g]using c1
 ·simpa[g]using c2
 ·exact Lb.1 (any_false.1 (by simpa only[Bool.not_eq_true]using c3) n hn)
 refine LY.1 (any_false.1 (by simpa only[g,Tl,Bool.not_eq_true]using c4) n hn)
def J6(l:List Th):List Int:=l.flatMap Th.mks
theorem xM{f:ak}(hp:0<=f.params) : ∀{l:List Th} {m m':BL} {S:Int->Prop},Marks m S->l.foldlM (λm t=>jx f t m) m = .ok m'->(∀t∈l,BG f t)/\(J6 l).Nodup/\∀n∈J6 l,¬S n
 | [],m,m',S,h,e=>⟨λt ht=>(by cases ht),TK,λn hn=>(by cases hn)⟩
 | t::l,m,m',S,h,e=>by
  rw[SE]at e;cases e1:jx f t m with
  | error x=>rw[e1]at e;cases e
  | ok m1=>
   rw[e1]at e;obtain⟨g,e2⟩:=Fy e1;obtain⟨k1,k2,k3⟩:=zX h (λn hn=>by have:=g.mks n hn;omega) e2;obtain⟨i1,i2,i3⟩:=xM hp k1 e;refine⟨λx hx=>?_,?_,λn hn=>?_⟩
   ·rcases Ru.1 hx with rfl | hx
    ·exact g
    exact i1 x hx
   ·refine SO.2 ⟨k2,i2,λa ha b hb=>?_⟩;rintro rfl;exact i3 a hb (.inr ha)
   rcases Rj.1 hn with hn | hn
   ·exact k3 n hn
   exact λhs=>i3 n hn (.inl hs)
def BI(f:ak)(v b p:Int):Prop:=(0<=v/\v<f.params)\/∃t∈aD f,v∈t.mks/\(t.blk=b/\(t.place<0\/t.place<p)\/t.blk≠b/\¬Re (ofG f.blocks) t.blk b.toNat)
structure Kd(ts:List Th)(s:List Th):Prop where
 len:s.length=8192
 is : ∀n:Int,0<=n->n<8192->(nth s n.toNat=noTh/\∀t∈ts,n∉t.mks)\/(nth s n.toNat∈ts/\n∈(nth s n.toNat).mks)
theorem EW{t:Th}{ts:List Th} : ∀{l:List Int} {s:List Th} {d:List Int},(∀n∈l,n∈t.mks)->(s.length=8192/\∀n:Int,0<=n->n<8192->(nth s n.toNat=noTh/\(∀t∈ts,n∉t.mks)/\n∉d)\/(nth s n.toNat∈ts++[t]/\n∈(nth s n.toNat).mks))->
  ((l.foldl (fY t) s).length=8192/\∀n:Int,0<=n->n<8192->(nth (l.foldl (fY t) s) n.toNat=noTh/\(∀t∈ts,n∉t.mks)/\n∉d++l)\/(nth (l.foldl (fY t) s) n.toNat∈ts++[t]/\n∈(nth (l.foldl (fY t) s) n.toNat).mks))
 | [],s,d,_,h=>by simpa using h
 | a::l,s,d,hl,h=>by
  rw[RG];have:=EW (t:=t) (ts:=ts) (l:=l) (s:=fY t s a) (d:=d++[a]) (λn hn=>hl n (Q7 _ hn)) ⟨by rw[qf];exact h.1,λn h0 h1=>?_⟩
  ·simpa using this
  unfold fY;split
  ·rw[bU (by rw[h.1];omega)];split
   ·rename_i hc e;have:n=a:=by omega
    subst this;exact .inr ⟨Sq _ (Q8.2 rfl),hl n Rm⟩
   rename_i hc e;rcases h.2 n h0 h1 with⟨a1,a2,a3⟩ | a1
   ·refine .inl ⟨a1,a2,?_⟩;rw[Rj,Q8];rintro(q | rfl)
    ·exact a3 q
    exact e rfl
   exact .inr a1
  rename_i hc;rcases h.2 n h0 h1 with⟨a1,a2,a3⟩ | a1
  ·refine .inl ⟨a1,a2,?_⟩;rw[Rj,Q8];rintro(q | rfl)
   ·exact a3 q
   exact hc ⟨h0,h1⟩
  exact .inr a1
theorem EX : ∀{l ts s:List Th},Kd ts s->Kd (ts++l) (l.foldl tO s)
 | [],ts,s,h=>by simpa using h
 | t::l,ts,s,h=>by
  rw[RG];have:=EW (t:=t) (ts:=ts) (l:=t.mks) (s:=s) (d:=[]) (λn hn=>hn) ⟨h.len,λn h0 h1=>(h.is n h0 h1).elim (λa=>.inl ⟨a.1,a.2,Tx⟩) λa=>.inr ⟨Ss _ a.1,a.2⟩⟩;have:=EX (l:=l) (ts:=ts++[t]) (s:=tO s t) ⟨this.1,λn h0 h1=>(this.2 n h0 h1).elim (λa=>.inl ⟨a.1,λx hx=>?_⟩) .inr⟩
  ·simpa using this
  rcases Rj.1 hx with hx | hx
  ·exact a.2.1 x hx
  rw[Q8.1 hx];simpa using a.2.2
theorem Ig{f:ak}:Kd (aD f) (jB f):=
 EX (l:=aD f) (ts:=[]) (s:=List.replicate 8192 noTh) ⟨RX,λn h0 h1=>.inl ⟨aE U1,λt ht=>by cases ht⟩⟩
theorem CZ{f:ak}{t:Th}(h:t∈aD f):0<=t.blk/\t.blk<f.blocks.length:=by obtain⟨b,hb,ht⟩:=jJ.1 h;rcases ma.1 ht with⟨i,hi,rfl⟩ | ⟨i,hi,rfl⟩ | rfl<;>exact⟨Int.natCast_nonneg _,Int.ofNat_lt.2 hb⟩
theorem Lx{f:ak}{a b:Int}(h0:0<=a)(h1:a<f.blocks.length)(h2:0<=b)(h3:b<f.blocks.length):nth (nth (iP f) a.toNat) b.toNat=UO↔Re (ofG f.blocks) a b.toNat:=by unfold iP;rw[gH U1,RE h0];exact kM U1
theorem AM{f:ak}{v b p:Int}(hb0:0<=b)(hb1:b<f.blocks.length)(h:jr f (jB f) (iP f) v b p=UO):BI f v b p:=by
 unfold jr at h;split at h
 ·rename_i c;exact .inl c
 split at h
 ·cases h
 rename_i c1 c2;rcases Ig.is v U1 U1 with⟨e,_⟩ | ⟨hm,hv⟩
 ·exact absurd (.inr (by rw[e];decide)) c2
 have hat:=CZ hm;refine .inr ⟨_,hm,hv,?_⟩;split at h
 ·rename_i e;exact .inl ⟨e,by simpa using h⟩
 rename_i e;refine .inr ⟨e,λhr=>?_⟩;rw[(Lx hat.1 hat.2 hb0 hb1).2 hr]at h;cases h
structure nQ(f:ak):Prop where
 params:0<=f.params/\f.params<=4
 blocks:0<f.blocks.length/\f.blocks.length<=512
 cnt:yu f f.blocks.length<=4096
 good : ∀t∈aD f,BG f t
 nodup:(J6 (aD f)).Nodup
 way : ∀b:Nat,b<f.blocks.length->Re (ofG f.blocks) (-1) b
 takes : ∀t∈aD f,0<=t.place->∀v∈t.tks,BI f v t.blk t.place
 phi : ∀b i:Nat,b<f.blocks.length->i<(nth f.blocks b).phis.length->0<b/\(nth (nth f.blocks b).phis i).ins.map InD.frm=dr f b/\∀p∈(nth (nth f.blocks b).phis i).ins,BI f p.val p.frm (F3 f p.frm)
theorem KF{f:ak}{b x:Int}:x∈dr f b↔(0<=x/\x<f.blocks.length)/\b∈(nth f.blocks x.toNat).term.to:=by
 unfold dr;rw[qY];constructor
 ·rintro⟨a,ha,hb,rfl⟩;exact⟨U6,by simpa using hb⟩
 rintro⟨⟨h0,h1⟩,h⟩;exact⟨x.toNat,by omega,by simpa using h,by omega⟩
theorem DC{f:ak}{t:Th}:gV f (jB f) (iP f) t = .ok ()↔
  (0<=t.place/\∀v∈t.tks,jr f (jB f) (iP f) v t.blk t.place=UO)\/(t.place<0/\uO f t=UO/\∀p∈(tz f t).ins,jr f (jB f) (iP f) p.val p.frm (F3 f p.frm)=UO):=by
 unfold gV;by_cases h0:0<=t.place
 ·rw[if_pos h0];have hn:¬t.place<0:=by omega
  simp only[h0,hn,true_and,false_and,or_false];cases e:t.tks.any (stT f (jB f) (iP f) t)with
  | true=>
   obtain⟨v,hv,hs⟩:=T1.1 e;constructor
   ·intro h;cases h
   intro h;unfold stT at hs;rw[h v hv]at hs;cases hs
  | false=>
   constructor
   ·intro _ v hv;have:=any_false.1 e v hv;simpa[stT]using this
   intro _;rfl
 rw[if_neg h0];have hn:t.place<0:=by omega
 simp only[h0,hn,true_and,false_and,false_or];cases e1:uO f t with
 | false=>simp
 | true=>
  rw[if_neg U2];cases e:(tz f t).ins.any (stP f (jB f) (iP f))with
  | true=>
   obtain⟨v,hv,hs⟩:=T1.1 e;constructor
   ·intro h;cases h
   rintro⟨_,h⟩;unfold stP at hs;rw[h v hv]at hs;cases hs
  | false=>
   constructor
   ·intro _;refine⟨rfl,λv hv=>?_⟩;have:=any_false.1 e v hv;simpa[stP]using this
   intro _;rfl
theorem Ke{f:ak}{i:Nat}:tz f (phiT f b i)=nth (nth f.blocks b).phis i:=by unfold tz jh phiT;dsimp only;rw[RB];congr 1;omega
theorem Od{f:ak}(h:(my f).1=0):nQ f:=by
 rw[HT]at h;unfold yR at h;split at h
 ·cases h
 rename_i c1;split at h
 ·cases h
 rename_i c2;split at h
 ·cases h
 rename_i c3;cases hs:lI f with
 | error e=>obtain⟨k,s',_,_,h3⟩:=sY (show upE _ _ _=_ from hs);have:=(xp h3).1;rw[hs]at h;rw[if_pos (by show e.1≠0;omega)]at h;have h:e.1=0:=h;omega
 | ok m=>
  rw[hs,if_neg (by simp[Ap])]at h;obtain⟨g1,g2,_⟩:=xM (f:=f) U1 E5 (by rw[<-tq];exact hs);cases hw:wayE f with
  | error e=>
   rw[hw]at h;obtain⟨k,s',_,_,h3⟩:=sY (show upE _ _ _=_ from hw);split at h3
   ·cases h3
   cases h3;exact absurd (show(15:Int)=0 from h) U3
  | ok u=>
   obtain⟨⟩:=u;rw[hw]at h;cases hu:Er f with
   | error e=>
    rw[hu]at h;obtain⟨k,s',_,_,h3⟩:=sY (show upE _ _ _=_ from hu);have h:e.1=0:=h;unfold gV at h3;repeat' split at h3
    all_goals first | (cases h3;done) | (cases h3;first | exact absurd (show(13:Int)=0 from h) U3 | exact absurd (show(16:Int)=0 from h) U3)
   | ok u=>
    obtain⟨⟩:=u;have hst : ∀t∈aD f,gV f (jB f) (iP f) t = .ok ():=λt ht=>by obtain⟨i,hi,e⟩:=RH ht;have:=yl hu i hi;rw[aC hi,e]at this;exact this
    refine⟨by omega,by omega,by omega,g1,g2,λb hb=>?_,λt ht h0 v hv=>?_,λb i hb hi=>?_⟩
    ·have:=yl hw b hb;rw[<-kM hb];split at this
     ·assumption
     cases this
    ·have hat:=CZ ht;rcases DC.1 (hst t ht)with⟨_,k⟩ | ⟨k,_⟩
     ·exact AM hat.1 hat.2 (k v hv)
     omega
    have ht:phiT f b i∈aD f:=jJ.2 ⟨b,hb,ma.2 (.inl ⟨i,hi,rfl⟩)⟩;rcases DC.1 (hst _ ht)with⟨k,_⟩ | ⟨_,k1,k2⟩
    ·exact absurd k (by show ¬(0:Int)<=-1-(i:Int);omega)
    unfold uO at k1;rw[Ke]at k1 k2;obtain⟨k3,k4⟩:=(Q9 _ _).mp k1;have k4:(nth (nth f.blocks b).phis i).ins.map InD.frm=dr f b:=of_decide_eq_true k4;have k3:(0:Int)<b:=of_decide_eq_true k3;refine⟨by omega,k4,λp hp=>?_⟩;have hm:p.frm∈dr f b:=by rw[<-k4];exact TB hp
    have:=(KF.1 hm).1;exact AM this.1 this.2 (k2 p hp)
def mkL(vs:Value)(at_:Nat)(ps:Int)(vb:Value)(nx:Int)(vl:Value):List Value:=[vs,UH UI at_,UH UI ps,vb,UH UI nx,vl]
def rawV(s:List Int)(at_:Nat):Int:=if at_<s.length then nth s at_ else 0
def aT(s:List Int)(at_:Nat)(n:Int):Int:=((rawV s at_).tmod n+n).tmod n
theorem dv{s:List Int}{at_:Nat}(hn:0<n):0<=aT s at_ n/\aT s at_ n<n:=by have b1:=Uf (rawV s at_) hn;exact⟨Int.tmod_nonneg _ U1,Ug _ hn⟩
theorem Mw{W:View}{h:Heap}{o:Own}{M at_:Nat}{vs vb vl:Value}{ps nx:Int}{s:List Int}(w:Owns W h o)(hk:o (0,0)=bx T.bu M (RawN.mk (n:=5) (mkL vs at_ ps vb nx vl)))(hs:SlRd W vs s)(h1:at_<=1000000000)(hn:0<n)(hn2:n<=1000000000):
  ay UQ 34 #[ptz M,UH UI n] h (λu h'=>u = UH UI (aT s at_ n)/\Owns W h' (o.upd (0,0) (bx T.bu M (RawN.mk (n:=5) (mkL vs (at_+1) ps vb nx vl))))):=by
 refine aq (args:=[ptz M,UH UI n]) follows Tryz.func34 E.jy UC λK hK=>?_;have c0:an (vw h) ⟨M,0,UL⟩=UK vs:=w.raw hk (i:=0) U3;have c1:an (vw h) ⟨M,1,UL⟩=UK (UH UI at_):=w.raw hk (i:=1) U3;dsimp only[L.jy,lkF,lkG];refine aa λz hz=>?_;simp;subst hz;refine aa λz hz=>?_;simp;subst hz;refine aa λz hz=>?_;have hsl : ∀{Q:View},Un.ev Q .len vs=UK (UH UI s.length):=fun{Q}=>hs.len;refine gC (λρ h2=>h2=h/\I64 (rawV s at_)/\ρ=[(0,ptz M),(1,UH UI n),(4,UH UI 0),(5,UH UI (rawV s at_))]) ?_ ?_
 ·intro K2 hK2;by_cases c:at_<s.length
  ·have hs2:=hs.mono w.wle;have hr:=hs.range (i:=at_) c;have e:rawV s at_=nth s at_:=if_pos c;rw[e]at hK2;simp(disch:=omega)[c0,c1,hsl,c,hs2.idx1 rfl,hs2.int UE];exact hK2 _ _ ⟨rfl,hr,rfl⟩
  have e:rawV s at_=0:=if_neg c;rw[e]at hK2;simp[c0,c1,hsl,c];exact hK2 _ _ ⟨rfl,⟨U3,U3⟩,rfl⟩
 rintro _ h2 ⟨rfl,hx,rfl⟩;subst hz;refine aa λz hz=>?_;simp(disch:=omega)[c1];refine w.dW (k:=(0,0)) (n:=5) (i:=1) (e:=T.bu) (B:=M) (l:=mkL vs at_ ps vb nx vl) hk U3 U0 rfl rfl rfl λh3 w3 _=>?_;subst hz;have b1:=Uf (rawV s at_) hn;have b2:=Ug (rawV s at_) hn;have hw:IntKind.i64.wrap ((rawV s at_).tmod n+n)=(rawV s at_).tmod n+n:=bc U1 U1;have hne:¬n=0:=by omega
 simp[hw,hne];refine hK _ _ ⟨rfl,w3.congr λq=>?_⟩;rfl
theorem Di{W:View}{h:Heap}{o:Own}{M at_:Nat}{vs vb vl:Value}{ps nx:Int}(w:Owns W h o)(hk:o (0,0)=bx T.bu M (RawN.mk (n:=5) (mkL vs at_ ps vb nx vl)))(h0:0<=nx)(h1:nx<=1000000000):
  ay UQ 37 #[ptz M] h (λu h'=>u = UH UI nx/\Owns W h' (o.upd (0,0) (bx T.bu M (RawN.mk (n:=5) (mkL vs at_ ps vb (nx+1) vl))))/\∀X:View,X.le (vw h)->X M=UL->X.le (vw h')):=by refine aq (args:=[ptz M]) follows Tryz.func37 E.iI UC λK hK=>?_;have c4:an (vw h) ⟨M,4,UL⟩=UK (UH UI nx):=w.raw hk (i:=4) U3;dsimp only[L.iI,lkF,lkG];refine aa λz hz=>?_;simp;subst hz;refine aa λz hz=>?_;simp(disch:=omega)[c4];refine w.dW (k:=(0,0)) (n:=5) (i:=4) (e:=T.bu) (B:=M) (l:=mkL vs at_ ps vb nx vl) hk U3 U0 rfl rfl rfl λh3 w3 hx3=>?_;have w3:Owns W h3 (o.upd (0,0) (bx T.bu M (RawN.mk (n:=5) (mkL vs at_ ps vb (nx+1) vl)))):=w3;have c5:an (vw h3) ⟨M,4,UL⟩=UK (UH UI (nx+1)):=w3.raw Own.ao (i:=4) U3;subst hz;simp(disch:=omega)[c5];exact hK _ _ ⟨by congr 1,w3,hx3⟩
end Go.Lft
namespace Go.Lft
variable{po:OP}
theorem Om{P:Program}{t ty:TypeId}{us:List (Nat × Value)}{h:Heap}{K:Value->Heap->Prop}{x:Operand}{n:Int}(hx:asg us x = UH UI n)(hk:K (UH UI (IntKind.i64.wrap (-n))) h):step P (.unOp .neg t x) ty us h K:=by refine df (cB λw hw=>⟨UH UI (IntKind.i64.wrap (-n)),w,?_,Same.refl _,by rw[hw];exact hk⟩);simp only[bL,execOp,hx];simp[Op.unary,Op.intArith]
end Go.Lft
namespace Go.Lft
structure MS where
 at_:Nat
 ps:Int
 blocks:List BlkD
 next:Int
 live:List Int
def MS.took(m:MS):MS:={ m with at_:=m.at_+1 }
def MS.aV(m:MS):MS:={ m with next:=m.next+1 }
structure BlkM where
 phis:Raw
 ins:Raw
 term:cS
instance:Rep BlkM:=Rep.via λd=>Cat.mk d.phis (Cat.mk d.ins d.term)
instance:Inhabited BlkM:=⟨⟨default,default,default⟩⟩
theorem BlkM.qw:Part BlkM Raw 0 BlkM.phis (λd x=>{ d with phis:=x }):=(Part.fst Part.all).via (λ_=>rfl) λ_ _=>rfl
theorem BlkM.gO:Part BlkM Raw 1 BlkM.ins (λd x=>{ d with ins:=x }):=(Part.snd (Part.fst Part.all)).via (λ_=>rfl) λ_ _=>rfl
theorem BlkM.lF:Part BlkM cS 2 BlkM.term (λd x=>{ d with term:=x }):=(Part.snd (Part.snd Part.all)).via (λ_=>rfl) λ_ _=>rfl
theorem EO{H:View}{cs:List Value}{d:BlkM}{p:List PhiD}{i:List InsD}(h:Rep.rd H cs d)(hp:SlRd H d.phis.v p)(hi:SlRd H d.ins.v i):Rep.rd H cs (BlkD.mk p i d.term):=by obtain⟨c1,r1,e1,⟨h1,_⟩,c2,r2,e2,⟨h2,_⟩,h3⟩:=h;have h1:c1=[d.phis.v]:=h1;have h2:c2=[d.ins.v]:=h2;exact⟨c1,r1,e1,⟨d.phis.v,h1,hp⟩,c2,r2,e2,⟨d.ins.v,h2,hi⟩,h3⟩
structure MkB(M:Nat)(vs:Value)(m:MS)(o:Own)(vb vl:Value)(lb:List BlkM):Prop where
 box:o (0,0)=bx T.bu M (RawN.mk (n:=5) (mkL vs m.at_ m.ps vb m.next vl))
 live:o (0,1)=it T.int vl m.live
 blk:o (0,2)=it T.e9 vb lb
 len:lb.length=m.blocks.length
 term : ∀i,i<m.blocks.length->(nth lb i).term=(nth m.blocks i).term
 phis : ∀i,i<m.blocks.length->o (1,i)=it T.fM (nth lb i).phis.v (nth m.blocks i).phis
 ins : ∀i,i<m.blocks.length->o (2,i)=it T.eY (nth lb i).ins.v (nth m.blocks i).ins
structure Mk(s:List Int)(M:Nat)(vs:Value)(W:View)(h:Heap)(o:Own)(m:MS):Prop where
 own:Owns W h o
 src:SlRd W vs s
 box : ∃vb vl lb,MkB M vs m o vb vl lb
def Nx(s:List Int)(M:Nat)(vs:Value)(W:View)(h:Heap)(o:Own)(m:MS):Prop:=∃W' o',W.le W'/\Mk s M vs W' h o' m/\∀k:Key,3<=k.1->o' k=o k
variable{s:List Int}{M:Nat}{vs:Value}{W:View}{h:Heap}{o:Own}{m:MS}
theorem Mk.nx(w:Mk s M vs W h o m):Nx s M vs W h o m:=⟨W,o,View.le_refl _,w,λ_ _=>rfl⟩
theorem Nx.trans{W':View}{o':Own}(hW:W.le W')(ho : ∀k:Key,3<=k.1->o' k=o k)(n:Nx s M vs W' h o' m):Nx s M vs W h o m:=by obtain⟨W2,o2,h1,h2,h3⟩:=n;exact⟨W2,o2,UF hW h1,h2,λk hk=>(h3 k hk).trans (ho k hk)⟩
theorem MkB.at{vb vl:Value}{lb:List BlkM}(b:MkB M vs m o vb vl lb){at_:Nat}{next:Int}:MkB M vs { m with at_:=at_,next:=next } (o.upd (0,0) (bx T.bu M (RawN.mk (n:=5) (mkL vs at_ m.ps vb next vl)))) vb vl lb:=
 ⟨rfl,b.live,b.blk,b.len,b.term,λi hi=>b.phis i hi,λi hi=>b.ins i hi⟩
theorem pn{k:Key}{i:Option Lft.Item}(hk:k.1<3) : ∀q:Key,3<=q.1->o.upd k i q=o q:=λq hq=>Own.aB λe=>by rw[e]at hq;omega
theorem fm{k:Key}{i j:Option Lft.Item}(q:Key):(o.upd k i).upd k j q=o.upd k j q:=by unfold Own.upd;split<;>rfl
theorem Mk.take(w:Mk s M vs W h o m){n:Int}(h1:m.at_<=1000000000)(hn:0<n)(hn2:n<=1000000000) :
  ay UQ 34 #[ptz M,UH UI n] h (λu h'=>u = UH UI (aT s m.at_ n)/\∃o',Mk s M vs W h' o' m.took/\∀k:Key,3<=k.1->o' k=o k):=by obtain⟨vb,vl,lb,b⟩:=w.box;refine(Mw w.own b.box w.src h1 hn hn2).mono ?_;rintro u h' ⟨rfl,w2⟩;exact⟨rfl,_,⟨w2,w.src,vb,vl,lb,b.at⟩,pn U3⟩
theorem Mk.fresh(w:Mk s M vs W h o m)(h0:0<=m.next)(h1:m.next<=1000000000) :
  ay UQ 37 #[ptz M] h (λu h'=>u = UH UI m.next/\∃o',Mk s M vs W h' o' m.aV/\∀k:Key,3<=k.1->o' k=o k):=by obtain⟨vb,vl,lb,b⟩:=w.box;refine(Di w.own b.box h0 h1).mono ?_;rintro u h' ⟨rfl,w2,-⟩;exact⟨rfl,_,⟨w2,w.src,vb,vl,lb,b.at⟩,pn U3⟩
theorem nZ{x:Int}:-2147483648<=IntKind.i32.wrap x/\IntKind.i32.wrap x<=2147483647:=by rw[IntKind.wrap_i32];omega
def mA(s:List Int)(m:MS):Int:=
 if aT s (m.at_+1) 8=0 then IntKind.i32.wrap (IntKind.i64.wrap (aT s m.at_ 1048576*4099))
 else if aT s (m.at_+1) 8=1 then IntKind.i32.wrap (IntKind.i64.wrap (-aT s m.at_ 1048576))
 else if aT s (m.at_+1) 8=2 then -2147483648
 else if aT s (m.at_+1) 8=3 then IntKind.i32.wrap ((aT s m.at_ 1048576).tmod 70000)
 else IntKind.i32.wrap (IntKind.i64.wrap ((aT s m.at_ 1048576).tmod 20-4))
theorem sP:-2147483648<=mA s m/\mA s m<=2147483647:=by
 unfold mA;repeat' split
 all_goals first | exact nZ | decide
theorem Mk.word(w:Mk s M vs W h o m)(h1:m.at_<=999999990) :
  ay UQ 44 #[ptz M] h (λu h'=>u = UH UJ (mA s m)/\∃o',Mk s M vs W h' o' m.took.took/\∀k:Key,3<=k.1->o' k=o k):=by
 refine aq (args:=[ptz M]) follows Tryz.func44 E.jq UC λK hK=>?_;dsimp only[L.jq,lkF,lkG];refine aa λz hz=>?_;simp;subst hz;refine aa λz hz=>?_;simp;refine ah U0 (w.take U1 (n:=1048576) U3 U3) ?_;rintro _ h2 ⟨rfl,o2,w2,f2⟩;subst hz;refine aa λz hz=>?_;simp;refine ah U0 (w2.take (show m.at_+1<=_ by omega) (n:=8) U3 U3) ?_;rintro _ h3 ⟨rfl,o3,w3,f3⟩;have hx:m.took.at_=m.at_+1:=rfl;rw[hx];have hf : ∀k:Key,3<=k.1->o3 k=o k:=λk hk=>(f3 k hk).trans (f2 k hk);have hwd:mA s m=_:=mA.eq_1 s m;generalize mA s m=r at hwd hK;generalize aT s (m.at_+1) 8=q at hwd;generalize aT s m.at_ 1048576=x at hwd;by_cases c0:q=0
 ·rw[if_pos c0]at hwd;simp[c0];exact hK _ _ ⟨by rw[hwd],_,w3,hf⟩
 rw[if_neg c0]at hwd;by_cases c1:q=1
 ·rw[if_pos c1]at hwd;simp[c1];refine Om rfl ?_;simp;exact hK _ _ ⟨by rw[hwd],_,w3,hf⟩
 rw[if_neg c1]at hwd;by_cases c2:q=2
 ·rw[if_pos c2]at hwd;simp[c2];exact hK _ _ ⟨by rw[hwd],_,w3,hf⟩
 rw[if_neg c2]at hwd;by_cases c3:q=3
 ·rw[if_pos c3]at hwd;simp[c3];exact hK _ _ ⟨by rw[hwd],_,w3,hf⟩
 rw[if_neg c3]at hwd;simp[c0,c1,c2,c3];subst hz;simp;exact hK _ _ ⟨by rw[hwd],_,w3,hf⟩
end Go.Lft
namespace Go.Lft
def MS.add(m:MS)(b:Nat)(i:InsD):MS:={ m with blocks:=m.blocks.set b { nth m.blocks b with ins:=(nth m.blocks b).ins++[i] },live:=m.live++cO i }
def conD(v:Int)(n:Int):InsD:=⟨1,v,0,[],⟨n⟩⟩
def MS.constant(m:MS)(b:Nat)(n:Int):MS:=m.aV.add b (conD m.next n)
def AJ(s:List Int)(m:MS):Int:=nth m.live (if aT s (m.at_+1) 3=0 then m.live.length-1 else(aT s m.at_ m.live.length).toNat)
def GD(s:List Int)(m:MS)(b:Nat):MS:=(m.took.took).constant b (mA s m)
def aU(s:List Int)(m:MS)(b:Nat):Int × MS:=
 if m.live.length=0 then(m.next,GD s m b)
 else if aT s (m.at_+2) 9=0 then(m.next,GD s m.took.took.took b)
 else(AJ s m,m.took.took.took)
def MS.two(m:MS)(b:Nat)(op x y:Int):MS:=m.aV.add b ⟨op,m.next,0,[x,y],⟨0⟩⟩
def binS(s:List Int)(m:MS)(b:Nat)(op:Int):MS:=
 let r1:=aU s m b
 let r2:=aU s r1.2 b
 if aT s r2.2.at_ 3=0 then
  (r2.2.took.took.constant b (IntKind.i32.wrap (IntKind.i64.wrap (aT s (r2.2.at_+1) 40-8)))).two b op r1.1 r2.2.next
 else r2.2.took.two b op r1.1 r2.1
def ltuS(s:List Int)(m:MS)(b:Nat):MS:=
 let r1:=aU s m b
 let r2:=aU s r1.2 b
 r2.2.two b 13 r1.1 r2.1
def divS(s:List Int)(m:MS)(b:Nat):MS:=
 let r1:=aU s m b
 let m2:=r1.2.took.constant b (IntKind.i32.wrap (aT s r1.2.at_ 12))
 if 0<aT s m2.at_ 3 then
  (m2.took.took.constant b (IntKind.i32.wrap (1+IntKind.i32.wrap (aT s (m2.at_+1) 12)))).two b 14 r1.1 m2.next
 else m2.took.two b 14 r1.1 r1.2.next
def A1(s:List Int)(m:MS)(b:Nat):MS:=
 let r1:=aU s m b
 let r2:=aU s r1.2 b
 r2.2.aV.aV.add b ⟨18,r2.2.next,r2.2.next+1,[r1.1,r2.1],⟨0⟩⟩
def iS(s:List Int)(b:Nat):Nat->List Int × MS->List Int × MS:=λ_ x=>(x.1++[(aU s x.2 b).1],(aU s x.2 b).2)
def qG(s:List Int)(m:MS)(b:Nat):MS:=
 let r:=up (iS s b) (aT s m.at_ 5).toNat ([],m.took)
 r.2.aV.took.add b ⟨17,r.2.next,0,r.1,⟨IntKind.i32.wrap (aT s r.2.at_ 5)⟩⟩
def qI(s:List Int)(m:MS)(b:Nat):Int × MS:=
 let m1:=m.took.constant b (IntKind.i32.wrap (aT s m.at_ 9))
 if aT s m1.at_ 3=0 then
  let r:=aU s m1.took b
  let m3:=(r.2.constant b 7).two b 5 r.1 r.2.next
  (m3.next,m3.two b 2 m.next (r.2.next+1))
 else(m.next,m1.took)
def offS(s:List Int)(m:MS):Int × MS:=
 if aT s (m.at_+1) 12=0 then(mA s m.took.took,m.took.took.took.took) else(IntKind.i32.wrap (aT s m.at_ 4),m.took.took)
def jQ(s:List Int)(m:MS)(b:Nat)(store:Bool):MS:=
 let a:=qI s m b
 let i:=offS s a.2
 if store then(aU s i.2 b).2.add b ⟨16,0,0,[a.1,(aU s i.2 b).1],⟨i.1⟩⟩
 else i.2.aV.add b ⟨15,i.2.next,0,[a.1],⟨i.1⟩⟩
def opsL:List Int:=[2,2,3,4,5,6,7,8,9,10,12,11]
def aZ(s:List Int)(b:Nat)(m:MS):MS:=
 let k:=aT s m.at_ 20
 if k<12 then binS s m.took b (nth opsL k.toNat)
 else if k=12 then ltuS s m.took b
 else if k=13 then divS s m.took b
 else if k<16 then jQ s m.took b (decide (k=15))
 else if k=16 then qG s m.took b
 else if k=17 then A1 s m.took b
 else m.took.took.took.constant b (mA s m.took)
section
variable{b:Nat}
theorem Dd{H:View}{n:Nat}{cs:List Value}(hc:gE H ⟨b,0,UL⟩ cs)(hl:cs.length=n):Un.ev H (.bM n) (ptz b)=UK (.agg cs.toArray):=by have:=fP hc n 0 #[] U1;simp only[Un.ev,vP,RD];rw[this];simp[<-hl]
theorem Hu{H:View}{n:Nat}{cs:Array Value}{t:TypeId}(hb:H b=UK (.cells cs t (0,0)))(hl:cs.size=n):Un.ev H (.bM n) (ptz b)=UK (.agg cs):=by have:gE H ⟨b,0,UL⟩ cs.toList:=⟨cs,t,(0,0),rfl,hb,by simp[Rq]⟩;simpa using Dd this (by simpa using hl)
theorem MkB.Oc{s:List Int}{M:Nat}{vs:Value}{W:View}{h:Heap}{o:Own}{m:MS}{vb vl:Value}{lb:List BlkM}(w:Owns W h o)(b:MkB M vs m o vb vl lb):
  ∃X:View,W.le X/\X.le (vw h)/\(∀i,i<=5->an X ⟨M,i,UL⟩=UK ((mkL vs m.at_ m.ps vb m.next vl).getD i undef))/\SlRd X vb lb/\Av X vl/\∀i,i<m.blocks.length->Av X (nth lb i).phis.v/\Av X (nth lb i).ins.v:=by obtain⟨w5,s5⟩:=w.freeze (k:=(0,0)) (v:=UM (UK ⟨M,0,UL⟩) 1 1) (l:=[RawN.mk (n:=5) (mkL vs m.at_ m.ps vb m.next vl)]) b.box;have hb2:o.upd (0,0) UL (0,2)=it T.e9 vb lb:=b.blk;obtain⟨w6,s6⟩:=w5.freeze (k:=(0,2)) (v:=vb) (l:=lb) hb2;have s5:=s5.mono (gU (h:=h) (w5.av (0,2) _ hb2));refine⟨_,UF (gU (h:=h) (w.av (0,0) _ b.box)) (gU (h:=h) (w5.av (0,2) _ hb2)),w6.wle,λi hi=>?_,s6,w6.av (0,1) _ b.live,λi hi=>⟨w6.av (1,i) _ (b.phis i hi),w6.av (2,i) _ (b.ins i hi)⟩⟩;have:=((s5.at (i:=0) U2).part (RawN.p (n:=5) (o:=i) hi)).raw;simpa[slA]using this
variable{s:List Int}{M:Nat}{vs:Value}{W:View}{h:Heap}{o:Own}{m:MS}
theorem MkB.cell{vb vl:Value}{lb:List BlkM}(w:Owns W h o)(b:MkB M vs m o vb vl lb){i:Nat}(hi:i<=5):an (vw h) ⟨M,i,UL⟩=UK ((mkL vs m.at_ m.ps vb m.next vl).getD i undef):=w.raw b.box hi
theorem MkB.gY{vb vl:Value}{lb:List BlkM}(bb:MkB M vs m o vb vl lb)(hb:b<m.blocks.length){x':BlkD}{y':BlkM}{o':Own}(hy:y'.term=x'.term)(h02:o' (0,2)=it T.e9 vb (lb.set b y'))(h1:o' (1,b)=it T.fM y'.phis.v x'.phis)(h2:o' (2,b)=it T.eY y'.ins.v x'.ins)(ho : ∀q:Key,q≠(0,2)->q≠(1,b)->q≠(2,b)->o' q=o q):MkB M vs { m with blocks:=m.blocks.set b x' } o' vb vl (lb.set b y'):=by
 have hbl:b<lb.length:=by rw[bb.len];exact hb
 refine⟨(ho _ U2 U2 U2).trans bb.box,(ho _ U2 U2 U2).trans bb.live,h02,by simp[bb.len],λj hj=>?_,λj hj=>?_,λj hj=>?_⟩;all_goals
  have hj:j<m.blocks.length:=by simpa using hj
  have hjl:j<lb.length:=by rw[bb.len];exact hj
  show _=_
  simp only[bU hj,bU hjl]
  by_cases e:b=j
  ·subst e
   simp only[if_true]
   assumption
  ·simp only[if_neg e]
   first
    | exact bb.term j hj
    | exact(ho _ U2 (λq=>e (by injection q with _ q;exact q.symm)) U2).trans (bb.phis j hj)
    | exact(ho _ U2 U2 (λq=>e (by injection q with _ q;exact q.symm))).trans (bb.ins j hj)
theorem Mk.value(w:Mk s M vs W h o m)(h1:m.at_<=999999990)(hl:m.live.length<=1000000000):
  ay UQ 133 #[ptz M] h (λu h'=>(m.live.length=0/\u = .tuple #[UH UI 0,.bool UP]/\h'=h)\/(m.live.length≠0/\u = .tuple #[UH UI (AJ s m),.bool UO]/\I64 (AJ s m)/\∃o',Mk s M vs W h' o' m.took.took/\∀k:Key,3<=k.1->o' k=o k)):=by
 refine aq (args:=[ptz M]) follows Tryz.func133 E.iJ UC λK hK=>?_;obtain⟨vb,vl,lb,b⟩:=w.box;have c5:an (vw h) ⟨M,5,UL⟩=UK vl:=b.cell w.own (i:=5) U3;have hsl:=w.own.now b.live;dsimp only[L.iJ,lkF,lkG];refine aa λz hz=>?_;simp;subst hz;refine aa λz hz=>?_;by_cases h0:m.live.length=0
 ·have h0':m.live=[]:=Ry h0;simp[c5,hsl.len,h0];exact hK _ _ (.inl ⟨h0,rfl,rfl⟩)
 have h0':¬(m.live=[]):=λe=>h0 (by rw[e];rfl);simp[c5,hsl.len,h0'];subst hz;refine aa λz hz=>?_;simp[c5,hsl.len];refine ah U0 (w.take U1 (n:=(m.live.length:Int)) U1 U1) ?_;rintro _ h2 ⟨rfl,o2,w2,f2⟩;subst hz;refine aa λz hz=>?_;simp;refine ah U0 (w2.take (show m.at_+1<=_ by omega) (n:=3) U3 U3) ?_;rintro _ h3 ⟨rfl,o3,w3,f3⟩;have hx:m.took.at_=m.at_+1:=rfl;rw[hx];have hf : ∀k:Key,3<=k.1->o3 k=o k:=λk hk=>(f3 k hk).trans (f2 k hk);have hv:AJ s m=_:=AJ.eq_1 s m;obtain⟨vb3,vl3,lb3,b3⟩:=w3.box;have c53:an (vw h3) ⟨M,5,UL⟩=UK vl3:=b3.cell w3.own (i:=5) U3;have hsl3:SlRd (vw h3) vl3 m.live:=w3.own.now b3.live;obtain⟨r0,r1⟩:=dv (s:=s) (at_:=m.at_) (n:=(m.live.length:Int)) U1;generalize aT s m.at_ m.live.length=x at hv r0 r1;generalize aT s (m.at_+1) 3=q at hv;obtain⟨i,hi,hvi,hii⟩ : ∃i:Nat,i<m.live.length/\AJ s m=nth m.live i/\(i:Int)=if q=0 then(m.live.length:Int)-1 else x:=by
  by_cases c:q=0
  ·rw[if_pos c]at hv ⊢;exact⟨m.live.length-1,by omega,hv,by omega⟩
  rw[if_neg c]at hv ⊢;exact⟨x.toNat,by omega,hv,by omega⟩
 have h64:IntKind.i64.wrap ((m.live.length:Int)-1)=(m.live.length:Int)-1:=bc U1 U1;have fin : ∀ρ:Env,ρ=[(0,ptz M),(2,UH UI 0),(3,.bool UP),(4,UH UI i),(17,UH UI x),(19,UH UI q)]->LC.wp UQ z (dY [.tmp 2,.tmp 3] K) ρ h3:=by rintro _ rfl;subst hz;refine aa λz hz=>?_;simp(disch:=omega)[c53,hsl3.idx1 rfl,hsl3.int UE];subst hz;simp;exact hK _ _ (.inr ⟨h0,by rw[hvi],by rw[hvi];exact hsl3.range hi,o3,w3,hf⟩)
 by_cases c:q=0
 ·rw[if_pos c]at hii;simp[c,c53,hsl3.len,h64];refine fin _ ?_;rw[hii,c]
 rw[if_neg c]at hii;simp[c];refine fin _ ?_;rw[hii]
theorem Mk.add(w:Mk s M vs W h o m){b:Nat}{i:InsD}{v:Value}(hb:b<m.blocks.length)(hi:Rd W v i)(hn:(nth m.blocks b).ins.length<=100000000)(hl:m.live.length<=100000000) :
    ay UQ 87 #[ptz M,UH UI b,v] h (λu h'=>Nx s M vs W h' o (m.add b i)):=by
  refine aq (args:=[ptz M,UH UI b,v]) follows Tryz.func87 E.jW UC λK hK=>?_
  obtain⟨vb,vl,lb,bb⟩:=w.box
  obtain⟨va,rfl,hir,hia⟩:=Mv hi
  dsimp only[L.jW,lkF,lkG]
  refine aa λz hz=>?_
  simp
  refine fT rfl (hi.mono w.own.wle) λh1 e1 hle1 hs1 hat=>?_
  have w1:=w.own.ext hle1
  have hbx:(grow W h h1) h.size=UK (.cells #[UH UI i.op,UH UI i.dst,UH UI i.two,va,UH UJ i.imm.v] T.eY (0,0)):=by
    rw[bY (Q4 _),e1];simp[Value.cells]
  have hi1:=hi.mono (bo (h':=h1) w.own.wle)
  have src1:=w.src.mono (bo (h':=h1) w.own.wle)
  have hW1:=bo (h':=h1) w.own.wle
  clear hat e1
  have hld:=Hu hbx (n:=5) rfl
  generalize grow W h h1=W1 at w1 hld hi1 src1 hW1
  generalize h.size=B at hld
  subst hz
  refine aa λz hz=>?_
  obtain⟨X,hWX,hX,cX,sX,avl,avX⟩:=bb.Oc (s:=s) w1
  have c3:an X ⟨M,3,UL⟩=UK vb:=cX 3 U3
  have hbl:b<lb.length:=by rw[bb.len];exact hb
  have a1:=(sX.at hbl).part BlkM.gO
  have hsv:=sX.bound
  have a2:an X (((slA vb).add (b*6)).add 1)=UK (nth lb b).ins.v:=by rw[aC hbl];exact a1.raw
  have hldX:Un.ev X (.bM 5) (ptz B)=UK (.agg #[UH UI i.op,UH UI i.dst,UH UI i.two,va,UH UJ i.imm.v]):=by
    have:=ed (ρ:=λ_=>UL) (e:=.un (.bM 5) (.con (ptz B))) hWX (by simpa using hld)
    simpa using this
  refine aK X hX ?_
  simp(disch:=omega)[c3,sX.idxn (N:=6) rfl,a2,hldX]
  refine mC (α:=InsD) (W:=W1) (d:=i) El.pD rfl hi1 λu5 h5 src hle5 hs5=>⟨UF hX hle5,?_⟩
  refine(w1.ext' hle5).dA (k:=(2,b)) (α:=InsD) (v:=(nth lb b).ins.v) (l:=(nth m.blocks b).ins) (l2:=[i]) (bb.ins b hb) El.pD rfl rfl src U9 U9 λv6 h6 w6 m6=>⟨(m6.view (UF hX hle5) (avX b hb).2).1,?_⟩
  have hv6:=(w6.cells (k:=(2,b)) Own.ao).2
  refine w6.sF (k:=(0,2)) (α:=BlkM) BlkM.gO (v:=vb) (l:=lb) (i:=b) (d:=⟨v6⟩) bb.blk U0 rfl rfl hbl (gG.2 ⟨rfl,hv6⟩) λh7 w7 _=>?_
  have b7:=bb.gY hb (x':={ nth m.blocks b with ins:=(nth m.blocks b).ins++[i] }) (y':={ lb[b]with ins:=⟨v6⟩ }) (o':=(o.upd (2,b) (it T.eY v6 ((nth m.blocks b).ins++[i]))).upd (0,2) (it T.e9 vb (lb.set b { lb[b]with ins:=⟨v6⟩ }))) (by rw[<-bb.term b hb,aC hbl]) Own.ao (by rw[<-aC hbl];exact bb.phis b hb) ((Own.aB U2).trans Own.ao) (λq h1 h2 h3=>by rw[Own.aB h1,Own.aB h3])
  generalize hm7:({ m with blocks:=m.blocks.set b { nth m.blocks b with ins:=(nth m.blocks b).ins++[i] } }:MS)=m7 at b7
  have hadd:m.add b i={ m7 with live:=m.live++cO i }:=by rw[<-hm7];rfl
  have hl7:m7.live=m.live:=by rw[<-hm7]
  have hf7 : ∀k:Key,3<=k.1->((o.upd (2,b) (it T.eY v6 ((nth m.blocks b).ins++[i]))).upd (0,2) (it T.e9 vb (lb.set b { lb[b]with ins:=⟨v6⟩ }))) k=o k:=λk hk=>by
    rw[Own.aB (by rintro rfl;simp at hk),Own.aB (by rintro rfl;simp at hk)]
  generalize (o.upd (2,b) (it T.eY v6 ((nth m.blocks b).ins++[i]))).upd (0,2) (it T.e9 vb (lb.set b { lb[b]with ins:=⟨v6⟩ }))=o7 at w7 b7 hf7
  generalize lb.set b { lb[b]with ins:=⟨v6⟩ }=lb7 at b7
  clear src avX m6
  subst hz
  refine aa λz hz=>?_
  have hld7:Un.ev (vw h7) (.bM 5) (ptz B)=UK (.agg #[UH UI i.op,UH UI i.dst,UH UI i.two,va,UH UJ i.imm.v]):=by
    have:=ed (ρ:=λ_=>UL) (e:=.un (.bM 5) (.con (ptz B))) w7.wle (by simpa using hld)
    simpa using this
  simp[hld7]
  refine ah U0 (sv (hi1.mono w7.wle)) ?_
  rintro u8 h8 ⟨hle8,hu8,-⟩
  have w8:=w7.ext hle8
  have hu8:SlRd (grow W1 h7 h8) u8 (cO i):=hu8.mono (yG (Q4 _) UE)
  have hW8:=bo (h':=h8) w7.wle
  generalize grow W1 h7 h8=W8 at w8 hu8 hW8
  subst hz
  have c58:an (vw h8) ⟨M,5,UL⟩=UK vl:=b7.cell w8 (i:=5) U3
  have hmk:(cO i).length<=2:=by
                                         unfold cO;repeat' split
                                         all_goals simp
  simp[c58]
  refine w8.dA (k:=(0,1)) (α:=Int) (v:=vl) (l:=m.live) (l2:=cO i) (by rw[<-hl7];exact b7.live) El.aY rfl rfl (hu8.src w8.wle) U1 U1 λv9 h9 w9 m9=>?_
  have hv9:=(w9.cells (k:=(0,1)) Own.ao).2
  have hbx9:(o7.upd (0,1) (it T.int v9 (m.live++cO i))) (0,0)=bx T.bu M (RawN.mk (n:=5) (mkL vs m7.at_ m7.ps vb m7.next vl)):=b7.box
  refine w9.dW (k:=(0,0)) (n:=5) (i:=5) (e:=T.bu) (B:=M) (l:=mkL vs m7.at_ m7.ps vb m7.next vl) hbx9 U3 U0 rfl rfl hv9 λh10 w10 _=>?_
  refine hK _ _ ⟨W8,_,UF hW1 hW8,⟨w10,src1.mono hW8,vb,v9,lb7,?_⟩,λk hk=>?_⟩
  · rw[hadd]
    exact⟨rfl,rfl,b7.blk,b7.len,b7.term,b7.phis,b7.ins⟩
  · rw[Own.aB (by rintro rfl;simp at hk),Own.aB (by rintro rfl;simp at hk)]
    exact hf7 k hk
end
section
structure MS.ok(c:Nat)(m:MS):Prop where
 at_:m.at_<=c
 n0:0<=m.next
 next:m.next<=c
 live:m.live.length<=c
 ins : ∀i,(nth m.blocks i).ins.length<=c
theorem MS.ok.mono{c d:Nat}{m:MS}(h:m.ok c)(hd:c<=d):m.ok d:=
 ⟨by have:=h.at_;omega,h.n0,by have:=h.next;omega,by have:=h.live;omega,λi=>by have:=h.ins i;omega⟩
theorem MS.ok.took{c:Nat}{m:MS}(h:m.ok c):m.took.ok (c+1):=
 ⟨by have:=h.at_;show m.at_+1<=_;omega,h.n0,by have:=h.next;show m.next<=_;omega,by have:=h.live;show m.live.length<=_;omega,λi=>by have:=h.ins i;show(nth m.blocks i).ins.length<=_;omega⟩
theorem MS.ok.aV{c:Nat}{m:MS}(h:m.ok c):m.aV.ok (c+1):=
 ⟨by have:=h.at_;show m.at_<=_;omega,by have:=h.n0;show 0<=m.next+1;omega,by have:=h.next;show m.next+1<=_;omega,by have:=h.live;show m.live.length<=_;omega,λi=>by have:=h.ins i;show(nth m.blocks i).ins.length<=_;omega⟩
theorem Hv{i:InsD}:(cO i).length<=2:=by
 unfold cO;repeat' split
 all_goals simp
theorem MS.ok.add{c b:Nat}{m:MS}{i:InsD}(h:m.ok c):(m.add b i).ok (c+2):=by
 refine⟨by have:=h.at_;show m.at_<=_;omega,h.n0,by have:=h.next;show m.next<=_;omega,?_,λj=>?_⟩
 ·have:=h.live;have:=Hv (i:=i);show(m.live++cO i).length<=_;rw[Rl];omega
 show(nth (m.blocks.set b _) j).ins.length<=_;have hj:=h.ins j;rcases Ri j m.blocks.length with hl | hl
 ·rw[bU hl];split
  ·rename_i e;subst e;rw[Rl,RI];omega
  omega
 rw[dt (by simpa using hl)];rw[dt hl]at hj;omega
theorem MS.ok.constant{c b:Nat}{m:MS}{n:Int}(h:m.ok c):(m.constant b n).ok (c+3):=h.aV.add
theorem MS.ok.two{c b:Nat}{m:MS}{op x y:Int}(h:m.ok c):(m.two b op x y).ok (c+3):=h.aV.add
variable{s:List Int}{M:Nat}{vs:Value}{W:View}{h:Heap}{o:Own}{m:MS}
theorem MS.ok.aU{c b:Nat}(h:m.ok c):(aU s m b).2.ok (c+10):=by
 unfold Go.Lft.aU;repeat' split
 ·exact(h.took.took.constant).mono U1
 ·exact(h.took.took.took.took.took.constant).mono U1
 exact(h.took.took.took).mono U1
variable{b:Nat}
theorem nX{i:InsD}:(m.add b i).blocks.length=m.blocks.length:=by simp[MS.add]
theorem eu:(aU s m b).2.blocks.length=m.blocks.length:=by
 unfold aU;repeat' split
 all_goals simp[GD,MS.constant,nX,MS.took,MS.aV]
theorem Mk.constant(w:Mk s M vs W h o m){b c:Nat}{n:Int}(hb:b<m.blocks.length)(hm:m.ok c)(hc:c<=1000000)(hn:-2147483648<=n/\n<=2147483647) :
  ay UQ 43 #[ptz M,UH UI b,UH UJ n] h (λu h'=>u = UH UI m.next/\Nx s M vs W h' o (m.constant b n)):=by refine aq (args:=[ptz M,UH UI b,UH UJ n]) follows Tryz.func43 E.gw UC λK hK=>?_;have q1:=hm.next;have q0:=hm.n0;dsimp only[L.gw,lkF,lkG];refine aa λz hz=>?_;simp;subst hz;refine aa λz hz=>?_;simp;refine ah U0 (w.fresh q0 U1) ?_;rintro _ h2 ⟨rfl,o2,w2,f2⟩;subst hz;refine aa λz hz=>?_;simp;refine aA (z:=zz5) (places:=zpa) (vs:=[(0,UH UI 1),(1,UH UI m.next),(4,UH UJ n)]) (cs:=#[UH UI 1,UH UI m.next,UH UI 0,UM UL 0 0,UH UJ n]) U0 U0 U2 U0 ?_;have hm2:=hm.aV;refine ah U0 (w2.add (i:=conD m.next n) hb (Ec (imm:=⟨n⟩) ⟨⟨U3,U3⟩,U6,⟨U3,U3⟩,hn⟩ aS) (by have:=hm2.ins b;omega) (by have:=hm2.live;omega)) ?_;rintro u3 h3 n3;subst hz;simp;exact hK _ _ ⟨rfl,n3.trans UE f2⟩
theorem GV(w:Mk s M vs W h o m){c:Nat}(hb:b<m.blocks.length)(hm:m.ok c)(hc:c<=999990):
  ay UQ 86 #[ptz M,UH UI b] h (λu h'=>u = UH UI (aU s m b).1/\I64 (aU s m b).1/\Nx s M vs W h' o (aU s m b).2):=by
 refine aq (args:=[ptz M,UH UI b]) follows Tryz.func86 E.jj UC λK hK=>?_;have qa:=hm.at_;have ql:=hm.live;have hsd:aU s m b=_:=aU.eq_1 s m b;dsimp only[L.jj,lkF,lkG];refine aa λz hz=>?_;simp;subst hz;refine aa λz hz=>?_;simp;refine ah U0 (w.value U1 U1) ?_;rintro u h2 hu;have con : ∀{m2:MS} {o2:Own} {h2:Heap} {ρ:Env} {z:LC},Mk s M vs W h2 o2 m2->(∀k:Key,3<=k.1->o2 k=o k)->m2.ok (c+3)->b<m2.blocks.length->aU s m b=(m2.next,GD s m2 b)->Lft.look ρ 0=UK (ptz M)->Lft.look ρ 1=UK (UH UI b)->
   LC.wp UQ (.seq (.reg UP (.loud [19,20,21] [(19,(.tmp 0)),(20,(.tmp 1))] [(21,(.tmp 0))] UL [] UP (.call ⟨.value (.func 44),#[(.tmp 21)],#[T.tu]⟩) 21 (UK 22) UO
   (.loud [] [] [(19,(.tmp 19)),(20,(.tmp 20)),(22,(.tmp 22))] UL [] UP (.call ⟨.value (.func 43),#[(.tmp 19),(.tmp 20),(.tmp 22)],#[T.tu,3,21]⟩) 3 (UK 23) UO
    (.fin [4] [(4,(.tmp 23))] [])))) .ret) (fJ (LC.wp UQ z (dY [.tmp 4] K)) (dY [.tmp 4] K)) ρ h2:=by intro m2 o2 h2 ρ z w2 f2 k2 b2 e2 r0 r1;refine aa λy hy=>?_;simp[r0,r1];refine ah U0 (w2.word (by have:=k2.at_;omega)) ?_;rintro _ h3 ⟨rfl,o3,w3,f3⟩;simp[af,ag,r0,r1];refine ah U0 (w3.constant (n:=mA s m2) b2 k2.took.took U1 sP) ?_;rintro _ h4 ⟨rfl,n4⟩;subst hy;simp[af,ag];refine hK _ _ ⟨by rw[e2];rfl,by rw[e2];have:=k2.n0;have:=k2.next;exact⟨by show _<=m2.next;omega,by show m2.next<=_;omega⟩,?_⟩;rw[e2];exact n4.trans UE λk hk=>(f3 k hk).trans (f2 k hk)
 rcases hu with⟨h0,rfl,rfl⟩ | ⟨h0,rfl,hi64,o2,w2,f2⟩
 ·rw[if_pos h0]at hsd;simp;subst hz;refine aa λz hz=>?_;refine aa λy hy=>?_;simp;subst hy;refine aQ U2 ?_;exact con w (λ_ _=>rfl) (hm.mono U1) hb hsd (by simp[af,ag]) (by simp[af,ag])
 rw[if_neg h0]at hsd;simp;subst hz;refine aa λz hz=>?_;refine aa λy hy=>?_;simp;have k2:=hm.took.took;refine ah U0 (w2.take (by have:=k2.at_;omega) (n:=9) U3 U3) ?_;rintro _ h3 ⟨rfl,o3,w3,f3⟩;have hx:m.took.took.at_=m.at_+2:=rfl;rw[hx];simp;subst hy;by_cases c9:aT s (m.at_+2) 9=0
 ·rw[if_pos c9]at hsd;refine aQ (by simp[c9]) ?_;exact con w3 (λk hk=>(f3 k hk).trans (f2 k hk)) k2.took hb hsd (by simp[af,ag]) (by simp[af,ag])
 rw[if_neg c9]at hsd;refine bg (by simp[c9]) ?_;simp;subst hz;simp;refine hK _ _ ⟨by rw[hsd],by rw[hsd];exact hi64,?_⟩;rw[hsd];exact w3.nx.trans UE λk hk=>(f3 k hk).trans (f2 k hk)
end
def Nz(s:List Int)(M:Nat)(vs:Value)(W0:View)(h:Heap)(o0:Own)(m:MS)(u:Value)(ds:List Int):Prop:=∃W o,W0.le W/\Mk s M vs W h o m/\(∀k:Key,3<=k.1->o k=o0 k)/\SlRd W u ds
section
variable{s:List Int}{M:Nat}{vs:Value}{W0:View}{h:Heap}{o0:Own}{m:MS}{u:Value}{ds:List Int}
theorem Nx.z(n:Nx s M vs W0 h o0 m):Nz s M vs W0 h o0 m (UM UL 0 0) []:=by obtain⟨W,o,h1,h2,h3⟩:=n;exact⟨W,o,h1,h2,h3,aS⟩
theorem Nz.x(n:Nz s M vs W0 h o0 m u ds):Nx s M vs W0 h o0 m:=by obtain⟨W,o,h1,h2,h3,_⟩:=n;exact⟨W,o,h1,h2,h3⟩
theorem Nz.call{f:FuncId}{args:Array Value}{m':MS}{U:Value->Prop}(hc : ∀{W o},Mk s M vs W h o m->ay UQ f args h (λu h'=>U u/\Nx s M vs W h' o m'))(n:Nz s M vs W0 h o0 m u ds):
  ay UQ f args h (λv h'=>U v/\Nz s M vs W0 h' o0 m' u ds):=by obtain⟨W,o,h1,h2,h3,h4⟩:=n;refine(hc h2).mono ?_;rintro v h' ⟨hU,W',o',g1,g2,g3⟩;exact⟨hU,W',o',UF h1 g1,g2,λk hk=>(g3 k hk).trans (h3 k hk),h4.mono g1⟩
theorem fq(n:Nz s M vs W0 h o0 m u ds){c:Nat}(hm:m.ok c)(hc:c<=1000000){k:Int}(hk:0<k)(hk2:k<=1000000000):
  ay UQ 34 #[ptz M,UH UI k] h (λv h'=>v = UH UI (aT s m.at_ k)/\Nz s M vs W0 h' o0 m.took u ds):=
 n.call (U:=λv=>v=_) λw=>((w.take (by have:=hm.at_;omega) hk hk2).mono λv h' ⟨e,o',w',f'⟩=>⟨e,w'.nx.trans UE f'⟩)
theorem iq(n:Nz s M vs W0 h o0 m u ds){c:Nat}(hm:m.ok c)(hc:c<=1000000):
  ay UQ 37 #[ptz M] h (λv h'=>v = UH UI m.next/\Nz s M vs W0 h' o0 m.aV u ds):=
 n.call (U:=λv=>v=_) λw=>((w.fresh hm.n0 (by have:=hm.next;omega)).mono λv h' ⟨e,o',w',f'⟩=>⟨e,w'.nx.trans UE f'⟩)
theorem Cf(n:Nz s M vs W0 h o0 m u ds){c:Nat}(hm:m.ok c)(hc:c<=1000000):
  ay UQ 44 #[ptz M] h (λv h'=>v = UH UJ (mA s m)/\Nz s M vs W0 h' o0 m.took.took u ds):=
 n.call (U:=λv=>v=_) λw=>((w.word (by have:=hm.at_;omega)).mono λv h' ⟨e,o',w',f'⟩=>⟨e,w'.nx.trans UE f'⟩)
variable{b:Nat}
theorem gQ(n:Nz s M vs W0 h o0 m u ds){c:Nat}(hb:b<m.blocks.length)(hm:m.ok c)(hc:c<=1000000){k:Int}(hk:-2147483648<=k/\k<=2147483647):
  ay UQ 43 #[ptz M,UH UI b,UH UJ k] h (λv h'=>v = UH UI m.next/\Nz s M vs W0 h' o0 (m.constant b k) u ds):=
 n.call (U:=λv=>v=_) λw=>w.constant hb hm hc hk
theorem jm(n:Nz s M vs W0 h o0 m u ds){c:Nat}(hb:b<m.blocks.length)(hm:m.ok c)(hc:c<=999990):
  ay UQ 86 #[ptz M,UH UI b] h (λv h'=>(v = UH UI (aU s m b).1/\I64 (aU s m b).1)/\Nz s M vs W0 h' o0 (aU s m b).2 u ds):=
 n.call (U:=λv=>v=_/\_) λw=>(GV w hb hm hc).mono λv h' ⟨e1,e2,e3⟩=>⟨⟨e1,e2⟩,e3⟩
variable{op:Int}
theorem mD(n:Nz s M vs W0 h o0 m u ds){c:Nat}{d two imm:Int}(hb:b<m.blocks.length)(hm:m.ok c)(hc:c<=1000000)(h1:I64 op)(h2:I64 d)(h3:I64 two)(h4:-2147483648<=imm/\imm<=2147483647):
  ay UQ 87 #[ptz M,UH UI b,.agg #[UH UI op,UH UI d,UH UI two,u,UH UJ imm]] h (λv h'=>Nx s M vs W0 h' o0 (m.add b ⟨op,d,two,ds,⟨imm⟩⟩)):=by obtain⟨W,o,g1,g2,g3,g4⟩:=n;refine(g2.add (i:=⟨op,d,two,ds,⟨imm⟩⟩) hb (Ec (imm:=⟨imm⟩) ⟨h1,h2,h3,h4⟩ g4) (by have:=hm.ins b;omega) (by have:=hm.live;omega)).mono ?_;rintro v h' n';exact n'.trans g1 g3
theorem Nz.lit{po:OP}(n:Nz s M vs W0 h o0 m u ds){ty:TypeId}{ps:Array (Nat × Operand)}{us:List (Nat × Value)}{ls:List Int}{k:Nat}{K:Value->Heap->Prop}(hp:ps.map (λp=>(p.1,asg us p.2))=(((ls.map λx=>UH UI x).zipIdx 0).map λp=>(p.2,p.1)).toArray)(hr : ∀x∈ls,I64 x)(hn:ls.length=k)(hb:k<=16777216)(hk : ∀a n c h',(vw h).le (vw h')->Nz s M vs W0 h' o0 m (.slice a n c) ls->K (.slice a n c) h'):@Lft.step po UQ (.buildSlice T.aY k ps) ty us h K:=by
 obtain⟨W,o,g1,g2,g3,g4⟩:=n;have hra : ∀l:List Int,(∀x∈l,I64 x)->rI W (l.map λx=>UH UI x) l:=by
  intro l;induction l with
  | nil=>intro _;trivial
  | cons a l ih=>intro hl;exact⟨bw.2 ⟨rfl,hl a U2⟩,ih λx hx=>hl x (by simp[hx])⟩
 refine mY (X:=W) (ds:=ls) (vs:=ls.map λx=>UH UI x) rfl El.aY hp (hra ls hr) g2.own.wle hn hb λv h' hle hs hv _=>?_;have hs2:=hv _ (bo g2.own.wle) (bY (Q4 _));obtain⟨a,cp,rfl,_⟩:=id hs2;refine hk _ _ _ h' hle ?_;exact⟨_,o,UF g1 (bo g2.own.wle),⟨g2.own.ext hle,g2.src.mono (bo g2.own.wle),g2.box⟩,g3,hs2⟩
end
theorem MS.ok.kV{c:Nat}{m:MS}(h:m.ok c)(hc:c<=1000000):I64 m.next:=by have:=h.n0;have:=h.next;constructor<;>omega
variable{b:Nat}
theorem dZ{m:MS}{n:Int}:(m.constant b n).blocks.length=m.blocks.length:=nX
variable{op:Int}
theorem qy{m:MS}{x y:Int}:(m.two b op x y).blocks.length=m.blocks.length:=nX
theorem i64c{x:Int}(h0:-1000<=x:=by decide)(h1:x<=1000:=by decide):I64 x:=U6
theorem IE{s:List Int}{M:Nat}{vs:Value}{W0:View}{h:Heap}{o0:Own}{m:MS}(n:Nx s M vs W0 h o0 m){c:Nat}{store:Bool}(hb:b<m.blocks.length)(hm:m.ok c)(hc:c<=900000):
  ay UQ 88 #[ptz M,UH UI b,.bool store] h (λv h'=>Nx s M vs W0 h' o0 (jQ s m b store)):=by
 refine aq (args:=[ptz M,UH UI b,.bool store]) follows Tryz.func88 E.gX UC λK hK=>?_;dsimp only[L.gX,lkF,lkG];have n:=n.z;have hmm:jQ s m b store=_:=jQ.eq_1 s m b store;refine aa λz hz=>?_;simp;refine ah U0 (fq n hm U1 (k:=9) U3 U3) ?_;rintro _ h1 ⟨rfl,n⟩;simp;refine ah U0 (gQ n (b:=b) hb hm.took U1 (k:=IntKind.i32.wrap (aT s m.at_ 9)) nZ) ?_;rintro _ h2 ⟨rfl,n⟩;have q:=hm.took.constant (b:=b) (n:=IntKind.i32.wrap (aT s m.at_ 9));have hb1:b<(m.took.constant b (IntKind.i32.wrap (aT s m.at_ 9))).blocks.length:=by rw[dZ];exact hb
 obtain⟨m1,hm1⟩ : ∃m1,m1=m.took.constant b (IntKind.i32.wrap (aT s m.at_ 9)):=⟨_,rfl⟩;have had:qI s m b=_:=qI.eq_1 s m b;rw[<-hm1]at n q hb1;simp only[<-hm1]at had;have hnx:I64 m.next:=hm.kV U1;have hnt:m.took.next=m.next:=rfl;rw[hnt];generalize m.next=a0 at had hnx;clear hm1 hm hnt;subst hz;refine aa λz hz=>?_;have fin : ∀(a:Int) (m2:MS) (h':Heap) (ρ:Env),qI s m b=(a,m2)->I64 a->m2.ok (c+30)->b<m2.blocks.length->Nz s M vs W0 h' o0 m2 (UM UL 0 0) []->Lft.look ρ 0=UK (ptz M)->Lft.look ρ 1=UK (UH UI b)->Lft.look ρ 2=UK (.bool store)->Lft.look ρ 6=UK (UH UI a)->LC.wp UQ z (dY [] K) ρ h':=by
  intro a m2 h' ρ e ha q hb n r0 r1 r2 r6;subst hz;simp only[e]at hmm;refine aa λz hz=>?_;simp[af,ag,r0,r1,r2,r6];refine ah U0 (fq n q U1 (k:=4) U3 U3) ?_;rintro _ h1 ⟨rfl,n⟩;simp[af,ag,r0,r1,r2,r6];subst hz;refine aa λz hz=>?_;have fin2 : ∀(i:Int) (m3:MS) (h':Heap) (ρ:Env),offS s m2=(i,m3)->(-2147483648<=i/\i<=2147483647)->m3.ok (c+40)->b<m3.blocks.length->Nz s M vs W0 h' o0 m3 (UM UL 0 0) []->Lft.look ρ 0=UK (ptz M)->Lft.look ρ 1=UK (UH UI b)->Lft.look ρ 2=UK (.bool store)->Lft.look ρ 6=UK (UH UI a)->Lft.look ρ 11=UK (UH UJ i)->LC.wp UQ z (dY [] K) ρ h':=by
   intro i m3 h' ρ e hi q hb n r0 r1 r2 r6 r11;subst hz;simp only[e]at hmm;refine aa λz hz=>?_;simp[af,ag,r0,r1,r2,r6,r11];subst hz;cases store with
   | true=>rw[if_pos rfl]at hmm;refine aQ (by simp[af,ag,r2]) ?_;simp[af,ag,r0,r1,r2,r6,r11];refine ah U0 (jm n hb q U1) ?_;rintro _ h1 ⟨⟨rfl,hs⟩,n⟩;refine n.lit (ls:=[a,(aU s m3 b).1]) U2 (by simp[ha,hs]) rfl U3 λua un uc h2 _ n=>?_;refine aA (z:=zz5) (places:=zpa) (vs:=[(0,UH UI 16),(3,.slice ua un uc),(4,UH UJ i)]) (cs:=#[UH UI 16,UH UI 0,UH UI 0,.slice ua un uc,UH UJ i]) U0 U0 U2 U0 ?_;refine ah U0 (mD n (b:=b) (by rw[eu];exact hb) (q.aU (b:=b)) U1 i64c i64c i64c hi) ?_;rintro _ h3 n;refine hK _ _ ?_;rw[hmm];exact n
   | false=>rw[if_neg U2]at hmm;refine bg (by simp[af,ag,r2]) ?_;simp[af,ag,r0,r1,r2,r6,r11];refine ah U0 (iq n q U1) ?_;rintro _ h1 ⟨rfl,n⟩;refine n.lit (ls:=[a]) U2 (by simp[ha]) rfl U3 λua un uc h2 _ n=>?_;refine aA (z:=zz5) (places:=zpa) (vs:=[(0,UH UI 15),(1,UH UI m3.next),(3,.slice ua un uc),(4,UH UJ i)]) (cs:=#[UH UI 15,UH UI m3.next,UH UI 0,.slice ua un uc,UH UJ i]) U0 U0 U2 U0 ?_;refine ah U0 (mD n (b:=b) hb q.aV U1 i64c (q.kV U1) i64c hi) ?_;rintro _ h3 n;refine hK _ _ ?_;rw[hmm];exact n
  have hof:offS s m2=_:=offS.eq_1 s m2;refine aa λy hy=>?_;simp[af,ag,r0,r1,r2,r6];refine ah U0 (fq n q.took U1 (k:=12) U3 U3) ?_;rintro _ h2 ⟨rfl,n⟩;have hx:m2.took.at_=m2.at_+1:=rfl;rw[hx];simp[af,ag,r0,r1,r2,r6];subst hy;by_cases c12:aT s (m2.at_+1) 12=0
  ·rw[if_pos c12]at hof;refine aQ (by simp[af,ag,c12]) ?_;simp[af,ag,r0,r1,r2,r6];refine ah U0 (Cf n q.took.took U1) ?_;rintro _ h3 ⟨rfl,n⟩;exact fin2 _ _ h3 _ hof sP (q.took.took.took.took.mono U1) hb n (by simp[af,ag,r0]) (by simp[af,ag,r1]) (by simp[af,ag,r2]) (by simp[af,ag,r6]) (by simp[af,ag])
  rw[if_neg c12]at hof;refine bg (by simp[af,ag,c12]) ?_;simp[af,ag,r0,r1,r2,r6];exact fin2 _ _ h2 _ hof nZ (q.took.took.mono U1) hb n (by simp[af,ag,r0]) (by simp[af,ag,r1]) (by simp[af,ag,r2]) (by simp[af,ag,r6]) (by simp[af,ag])
 refine aa λy hy=>?_;simp;refine ah U0 (fq n q U1 (k:=3) U3 U3) ?_;rintro _ h3 ⟨rfl,n⟩;simp;subst hy;by_cases c3:aT s m1.at_ 3=0
 ·rw[if_pos c3]at had;refine aQ (by simp[c3]) ?_;refine aa λy hy=>?_;simp;refine ah U0 (jm n (b:=b) hb1 q.took U1) ?_;rintro _ h4 ⟨⟨rfl,hs⟩,n⟩;have q:=q.took.aU (s:=s) (b:=b);have hb2:b<(aU s m1.took b).2.blocks.length:=by rw[eu];exact hb1
  generalize aU s m1.took b=r at had hs n q hb2;subst hy;refine aa λy hy=>?_;simp;refine ah U0 (gQ n (b:=b) hb2 q U1 (k:=7) U3) ?_;rintro _ h5 ⟨rfl,n⟩;subst hy;refine aa λy hy=>?_;simp;have q5:=q.constant (b:=b) (n:=7);refine ah U0 (iq n q5 U1) ?_;rintro _ h6 ⟨rfl,n⟩;have hn5:(r.2.constant b 7).next=r.2.next+1:=rfl;rw[hn5];subst hy;refine aa λy hy=>?_;simp;have i5:=q5.kV U1;rw[hn5]at i5;refine n.lit (ls:=[r.1,r.2.next]) U2 (by simp[hs,q.kV (by omega:c+1+3+1+10<=1000000)]) rfl U3 λua un uc h7 _ n=>?_;refine aA (z:=zz5) (places:=zpa) (vs:=[(0,UH UI 5),(1,UH UI (r.2.next+1)),(3,.slice ua un uc)]) (cs:=#[UH UI 5,UH UI (r.2.next+1),UH UI 0,.slice ua un uc,UH UJ 0]) U0 U0 U2 U0 ?_;refine ah U0 (mD n (b:=b) (imm:=0) (by rw[show(r.2.constant b 7).aV.blocks=(r.2.constant b 7).blocks from rfl,dZ];exact hb2) q5.aV U1 i64c i5 i64c U3) ?_;rintro _ h8 n;have n:Nx s M vs W0 h8 o0 ((r.2.constant b 7).two b 5 r.1 r.2.next):=n;have q6:=q5.two (b:=b) (op:=5) (x:=r.1) (y:=r.2.next);have hb3:b<((r.2.constant b 7).two b 5 r.1 r.2.next).blocks.length:=by rw[qy,dZ];exact hb2
  generalize (r.2.constant b 7).two b 5 r.1 r.2.next=m3 at had n q6 hb3;have n:=n.z;subst hy;refine aa λy hy=>?_;simp;refine ah U0 (iq n q6 U1) ?_;rintro _ h9 ⟨rfl,n⟩;subst hy;refine aa λy hy=>?_;simp;refine n.lit (ls:=[a0,r.2.next+1]) U2 (by simp[hnx,i5]) rfl U3 λua2 un2 uc2 h10 _ n=>?_;refine aA (z:=zz5) (places:=zpa) (vs:=[(0,UH UI 2),(1,UH UI m3.next),(3,.slice ua2 un2 uc2)]) (cs:=#[UH UI 2,UH UI m3.next,UH UI 0,.slice ua2 un2 uc2,UH UJ 0]) U0 U0 U2 U0 ?_;refine ah U0 (mD n (b:=b) (imm:=0) hb3 q6.aV U1 i64c (q6.kV U1) i64c U3) ?_;rintro _ h11 n;subst hy;simp;refine fin m3.next (m3.two b 2 a0 (r.2.next+1)) h11 _ had (q6.kV U1) (q6.two.mono U1) (by rw[qy];exact hb3) n.z ?_ ?_ ?_ ?_;all_goals simp
 rw[if_neg c3]at had;refine bg (by simp[c3]) ?_;simp;exact fin a0 m1.took h3 _ had hnx (q.took.mono U1) hb1 n U2 U2 U2 U2
section
variable{s:List Int}{M:Nat}{vs:Value}{W0:View}{h:Heap}{o0:Own}{m:MS}{u:Value}{ds:List Int}
theorem Nz.le(n:Nz s M vs W0 h o0 m u ds):W0.le (vw h):=by obtain⟨W,o,h1,h2,_⟩:=n;exact UF h1 h2.own.wle
theorem Nz.base(n:Nz s M vs W0 h o0 m u ds): ∃W o,Nz s M vs W h o m u ds/\SlRd W u ds/\∀{h' m' u' ds'},Nz s M vs W h' o m' u' ds'->Nz s M vs W0 h' o0 m' u' ds':=by obtain⟨W,o,h1,h2,h3,h4⟩:=n;refine⟨W,o,⟨W,o,View.le_refl _,h2,λ_ _=>rfl,h4⟩,h4,?_⟩;rintro h' m' u' ds' ⟨W',o',g1,g2,g3,g4⟩;exact⟨W',o',UF h1 g1,g2,λk hk=>(g3 k hk).trans (h3 k hk),g4⟩
end
theorem La{H:View}{B n:Nat}{l:List Int}{t:TypeId}(hb:H B=UK (.cells (l.map λx=>UH UI x).toArray t (0,0)))(hn:l.length=n)(h1:0<n/\n<=1000)(hr : ∀x∈l,I64 x):SlRd H (UM (UK ⟨B,0,UL⟩) n n) l:=by
 refine⟨UK ⟨B,0,UL⟩,n,by rw[hn],by omega,by omega,.inr ⟨⟨B,0,UL⟩,rfl,rfl,λi hi=>?_⟩⟩;have e:(⟨B,0,UL⟩:Addr).add (i*Rep.n Int)=⟨B,i,UL⟩:=by show(⟨B,0,UL⟩:Addr).add (i*1)=_;simp
 rw[e];refine⟨[UH UI l[i]],⟨_,t,(0,0),rfl,hb,?_⟩,(bw (v:=UH UI l[i]) (H:=H)).2 ⟨rfl,hr _ (Sp hi)⟩ |> λq=>?_⟩
 ·show((l.map λx=>UH UI x).toArray.toList.drop i).take 1=_;rw[List.toList_toArray,RJ (by simpa using hi)];simp
 exact⟨rfl,hr _ (Sp hi)⟩
theorem JK: ∀x∈opsL,I64 x:=by
 intro x hx;have : ∀x∈opsL,0<=x/\x<=12:=by decide
 have:=this x hx;exact U6
theorem MkB.frame{M:Nat}{vs:Value}{m:MS}{o o':Own}{vb vl:Value}{lb:List BlkM}(b:MkB M vs m o vb vl lb)(hf : ∀k:Key,k.1<3->o' k=o k):MkB M vs m o' vb vl lb:=
 ⟨(hf _ U3).trans b.box,(hf _ U3).trans b.live,(hf _ U3).trans b.blk,b.len,b.term,λi hi=>(hf _ (by show 1<3;decide)).trans (b.phis i hi),λi hi=>(hf _ (by show 2<3;decide)).trans (b.ins i hi)⟩
theorem E0{s:List Int}{x:List Int × MS}: ∀k,(up (iS s b) k x).2.blocks.length=x.2.blocks.length:=by
 intro k;induction k with
 | zero=>rfl
 | succ k ih=>show(aU s (up (iS s b) k x).2 b).2.blocks.length=_;rw[eu,ih]
theorem Gt{s:List Int}{c:Nat}{x:List Int × MS}(hx:x.2.ok c): ∀k,(up (iS s b) k x).2.ok (c+10*k)/\(up (iS s b) k x).1.length=x.1.length+k/\(up (iS s b) k x).2.blocks.length=x.2.blocks.length:=by
 intro k;induction k with
 | zero=>exact⟨hx,rfl,rfl⟩
 | succ k ih=>
  obtain⟨h1,h2,h3⟩:=ih;refine⟨(h1.aU).mono U1,?_,?_⟩
  ·show((up (iS s b) k x).1++[_]).length=_;rw[Rl,h2,RI];omega
  show(aU s (up (iS s b) k x).2 b).2.blocks.length=_;rw[eu,h3]
theorem yx{s:List Int}{M:Nat}{vs:Value}{W0:View}{h:Heap}{o0:Own}{m:MS}(n:Nx s M vs W0 h o0 m){c:Nat}(hb:b<m.blocks.length)(hm:m.ok c)(hc:c<=800000)(hfree:o0 (9,0)=UL):
  ay UQ 40 #[ptz M,UH UI b] h (λv h'=>Nx s M vs W0 h' o0 (aZ s b m)):=by
 refine aq (args:=[ptz M,UH UI b]) follows Tryz.func40 E.bs UC λK hK=>?_;dsimp only[L.bs,lkF,lkG];have n:=n.z;have hmm:aZ s b m=_:=aZ.eq_1 s b m;refine aa λz hz=>?_;simp;refine ah U0 (fq n hm U1 (k:=20) U3 U3) ?_;rintro _ h1 ⟨rfl,n⟩;obtain⟨k0,k1⟩:=dv (s:=s) (at_:=m.at_) (n:=20) U3;have q:=hm.took;have hb1:b<m.took.blocks.length:=hb;subst hz;generalize aT s m.at_ 20=k at hmm k0 k1;generalize hm1:m.took=m1 at hmm n q hb1;have hw:mA s m1=mA s m1:=rfl;simp only[aW];refine aa λz hz=>?_;simp;subst hz;by_cases c1:k<12
 ·rw[if_pos c1]at hmm;refine aQ (by simp[c1]) ?_;obtain⟨kn,rfl⟩ : ∃kn:Nat,k=kn:=⟨k.toNat,by omega⟩;have hkn:kn<12:=by omega
  refine aa λz hz=>?_;simp;have hcs:(#[UH UI 2,UH UI 2,UH UI 3,UH UI 4,UH UI 5,UH UI 6,UH UI 7,UH UI 8,UH UI 9,UH UI 10,UH UI 12,UH UI 11]:Array Value)=(opsL.map λx=>UH UI x).toArray:=rfl;refine aA (z:=zz11) (places:=[(0,1),(1,1),(2,1),(3,1),(4,1),(5,1),(6,1),(7,1),(8,1),(9,1),(10,1),(11,1)]) (vs:=[(0,UH UI 2),(1,UH UI 2),(2,UH UI 3),(3,UH UI 4),(4,UH UI 5),(5,UH UI 6),(6,UH UI 7),(7,UH UI 8),(8,UH UI 9),(9,UH UI 10),(10,UH UI 12),(11,UH UI 11)])
   (cs:=#[UH UI 2,UH UI 2,UH UI 3,UH UI 4,UH UI 5,UH UI 6,UH UI 7,UH UI 8,UH UI 9,UH UI 10,UH UI 12,UH UI 11]) U0 U0 U2 U0 ?_;refine fO (v:=.agg #[UH UI 2,UH UI 2,UH UI 3,UH UI 4,UH UI 5,UH UI 6,UH UI 7,UH UI 8,UH UI 9,UH UI 10,UH UI 12,UH UI 11]) (z:=.agg #[UH UI 0,UH UI 0,UH UI 0,UH UI 0,UH UI 0,UH UI 0,UH UI 0,UH UI 0,UH UI 0,UH UI 0,UH UI 0,UH UI 0]) (n:=12) U0 rfl U0 rfl U8 U5 U5 λh2 hle2 hs2 hb2=>?_
  have n:Nz s M vs W0 h2 o0 m1 (UM (UK ⟨h1.size,0,UL⟩) 12 12) opsL:=by
   obtain⟨W,o,g1,g2,g3,g4⟩:=n;refine⟨_,o,UF g1 (bo g2.own.wle),⟨g2.own.ext hle2,g2.src.mono (bo g2.own.wle),g2.box⟩,g3,?_⟩;have hg:grow W h1 h2 h1.size=UK (.cells (opsL.map λx=>UH UI x).toArray T.Mh (0,0)):=by rw[bY (Q4 _),hb2];rfl
   exact La hg rfl U3 JK
  generalize h1.size=B at n;subst hz;refine aa λz hz=>?_;simp;refine ah U0 (jm n hb1 q U1) ?_;rintro _ h3 ⟨⟨rfl,i2⟩,n⟩;have q:=q.aU (s:=s) (b:=b);have hb2:b<(aU s m1 b).2.blocks.length:=by rw[eu];exact hb1
  simp only[binS]at hmm;generalize aU s m1 b=r1 at hmm n q hb2 i2;subst hz;refine aa λz hz=>?_;simp;refine ah U0 (jm n hb2 q U1) ?_;rintro _ h4 ⟨⟨rfl,i3⟩,n⟩;have q:=q.aU (s:=s) (b:=b);have hb3:b<(aU s r1.2 b).2.blocks.length:=by rw[eu];exact hb2
  generalize aU s r1.2 b=r2 at hmm n q hb3 i3;subst hz;refine aa λz hz=>?_;have fin : ∀(e:Int) (m3:MS) (h':Heap) (ρ:Env),aZ s b m=m3.two b (nth opsL kn) r1.1 e->I64 e->m3.ok (c+60)->b<m3.blocks.length->Nz s M vs W0 h' o0 m3 (UM (UK ⟨B,0,UL⟩) 12 12) opsL->Lft.look ρ 0=UK (ptz M)->Lft.look ρ 1=UK (UH UI b)->Lft.look ρ 4=UK (UH UI kn)->Lft.look ρ 5=UK (ptz B)->Lft.look ρ 6=UK (UH UI r1.1)->Lft.look ρ 7=UK (UH UI e)->LC.wp UQ z (dT 0 (dY [] K)) ρ h':=by
   intro e m3 h' ρ hmm ie q hb n r0 r1' r4 r5 r6 r7;subst hz;obtain⟨W,o,n,sl,back⟩:=n.base;have iop:=sl.range (i:=kn) (by show kn<12;omega);have hop:an W ⟨B,kn,UL⟩=UK (UH UI (nth opsL kn)):=by have:=sl.int (View.le_refl W) (i:=kn) (by show kn<12;omega);simpa[slA]using this
   have hix:Bn.ev (.aidx 12 1) (ptz B) (UH UI kn)=UK (UN (UK ⟨B,kn,UL⟩)):=by simp only[Bn.ev,vP,vI,RD];rw[if_pos U6];simp
   generalize nth opsL kn=op at hmm iop hop;refine aK W n.le ?_;simp[af,ag,r0,r1',r4,r5,r6,r7,hix,hop];constructor
   ·refine ah U0 (iq n q U1) ?_;rintro _ h4 ⟨rfl,n⟩;refine⟨n.le,?_⟩;refine n.lit (ls:=[r1.1,e]) U2 (by simp[i2,ie]) rfl U3 λua un uc h5 _ n=>⟨n.le,?_⟩;refine aA (z:=zz5) (places:=zpa) (vs:=[(0,UH UI op),(1,UH UI m3.next),(3,.slice ua un uc)]) (cs:=#[UH UI op,UH UI m3.next,UH UI 0,.slice ua un uc,UH UJ 0]) U0 U0 U2 U0 ?_;refine ah U0 (mD n (b:=b) hb q.aV U1 iop (q.kV U1) i64c U3) ?_;rintro _ h6 n;exact hK _ _ (by rw[hmm];exact(back n.z).x)
   refine n.lit (ls:=[r1.1,e]) U2 (by simp[i2,ie]) rfl U3 λua un uc h5 _ n=>⟨n.le,?_⟩;refine ah U0 (iq n q U1) ?_;rintro _ h4 ⟨rfl,n⟩;refine⟨n.le,?_⟩;refine aA (z:=zz5) (places:=zpa) (vs:=[(0,UH UI op),(1,UH UI m3.next),(3,.slice ua un uc)]) (cs:=#[UH UI op,UH UI m3.next,UH UI 0,.slice ua un uc,UH UJ 0]) U0 U0 U2 U0 ?_;refine ah U0 (mD n (b:=b) hb q.aV U1 iop (q.kV U1) i64c U3) ?_;rintro _ h6 n;exact hK _ _ (by rw[hmm];exact(back n.z).x)
  refine aa λy hy=>?_;simp;refine ah U0 (fq n q U1 (k:=3) U3 U3) ?_;rintro _ h5 ⟨rfl,n⟩;simp;subst hy;by_cases c4:aT s r2.2.at_ 3=0
  ·rw[if_pos c4]at hmm;refine aQ (by simp[c4]) ?_;simp;refine ah U0 (fq n q.took U1 (k:=40) U3 U3) ?_;rintro _ h6 ⟨rfl,n⟩;have hx:r2.2.took.at_=r2.2.at_+1:=rfl;rw[hx];simp;refine ah U0 (gQ n (b:=b) hb3 q.took.took U1 (k:=IntKind.i32.wrap (IntKind.i64.wrap (aT s (r2.2.at_+1) 40-8))) nZ) ?_;rintro _ h7 ⟨rfl,n⟩;refine fin r2.2.next _ h7 _ hmm (q.kV U1) (q.took.took.constant.mono U1) (by rw[dZ];exact hb3) n ?_ ?_ ?_ ?_ ?_ ?_;all_goals simp
   rfl
  rw[if_neg c4]at hmm;refine bg (by simp[c4]) ?_;simp;refine fin r2.1 _ h5 _ hmm i3 (q.took.mono U1) hb3 n ?_ ?_ ?_ ?_ ?_ ?_;all_goals simp
 rw[if_neg c1]at hmm;refine bg (by simp[c1]) ?_;refine aa λz hz=>?_;simp;subst hz;by_cases c2:k=12
 ·rw[if_pos c2]at hmm;refine aQ (by simp[c2]) ?_;refine aa λz hz=>?_;simp;refine ah U0 (jm n hb1 q U1) ?_;rintro _ h2 ⟨⟨rfl,i2⟩,n⟩;have q:=q.aU (s:=s) (b:=b);have hb2:b<(aU s m1 b).2.blocks.length:=by rw[eu];exact hb1
  simp only[ltuS]at hmm;generalize aU s m1 b=r1 at hmm n q hb2 i2;subst hz;refine aa λz hz=>?_;simp;refine ah U0 (jm n hb2 q U1) ?_;rintro _ h3 ⟨⟨rfl,i3⟩,n⟩;have q:=q.aU (s:=s) (b:=b);have hb3:b<(aU s r1.2 b).2.blocks.length:=by rw[eu];exact hb2
  generalize aU s r1.2 b=r2 at hmm n q hb3 i3;subst hz;simp;refine ah U0 (iq n q U1) ?_;rintro _ h4 ⟨rfl,n⟩;refine n.lit (ls:=[r1.1,r2.1]) U2 (by simp[i2,i3]) rfl U3 λua un uc h5 _ n=>?_;refine aA (z:=zz5) (places:=zpa) (vs:=[(0,UH UI 13),(1,UH UI r2.2.next),(3,.slice ua un uc)]) (cs:=#[UH UI 13,UH UI r2.2.next,UH UI 0,.slice ua un uc,UH UJ 0]) U0 U0 U2 U0 ?_;refine ah U0 (mD n (b:=b) hb3 q.aV U1 i64c (q.kV U1) i64c U3) ?_;rintro _ h6 n;exact hK _ _ (by rw[hmm];exact n)
 rw[if_neg c2]at hmm;refine bg (by simp[c2]) ?_;refine aa λz hz=>?_;simp;subst hz;by_cases c3:k=13
 ·rw[if_pos c3]at hmm;refine aQ (by simp[c3]) ?_;refine aa λz hz=>?_;simp;refine ah U0 (jm n hb1 q U1) ?_;rintro _ h2 ⟨⟨rfl,i2⟩,n⟩;have q:=q.aU (s:=s) (b:=b);have hb2:b<(aU s m1 b).2.blocks.length:=by rw[eu];exact hb1
  simp only[divS]at hmm;generalize aU s m1 b=r1 at hmm n q hb2 i2;subst hz;refine aa λz hz=>?_;simp;refine ah U0 (fq n q U1 (k:=12) U3 U3) ?_;rintro _ h3 ⟨rfl,n⟩;simp;refine ah U0 (gQ n (b:=b) hb2 q.took U1 (k:=IntKind.i32.wrap (aT s r1.2.at_ 12)) nZ) ?_;rintro _ h4 ⟨rfl,n⟩;have i4:I64 r1.2.took.next:=q.took.kV U1;have q:=q.took.constant (b:=b) (n:=IntKind.i32.wrap (aT s r1.2.at_ 12));have hb3:b<(r1.2.took.constant b (IntKind.i32.wrap (aT s r1.2.at_ 12))).blocks.length:=by rw[dZ];exact hb2
  have ht:r1.2.took.next=r1.2.next:=rfl;rw[ht]at i4 ⊢;generalize r1.2.took.constant b (IntKind.i32.wrap (aT s r1.2.at_ 12))=m2 at hmm n q hb3;generalize r1.2.next=d at hmm i4;subst hz;refine aa λz hz=>?_;have fin : ∀(e:Int) (m3:MS) (h':Heap) (ρ:Env),aZ s b m=m3.two b 14 r1.1 e->I64 e->m3.ok (c+60)->b<m3.blocks.length->Nz s M vs W0 h' o0 m3 (UM UL 0 0) []->Lft.look ρ 0=UK (ptz M)->Lft.look ρ 1=UK (UH UI b)->Lft.look ρ 10=UK (UH UI r1.1)->Lft.look ρ 11=UK (UH UI e)->LC.wp UQ z (dT 0 (dY [] K)) ρ h':=by intro e m3 h' ρ hmm ie q hb n r0 r1' r10 r11;subst hz;simp[af,ag,r0,r1',r10,r11];refine ah U0 (iq n q U1) ?_;rintro _ h4 ⟨rfl,n⟩;refine n.lit (ls:=[r1.1,e]) U2 (by simp[i2,ie]) rfl U3 λua un uc h5 _ n=>?_;refine aA (z:=zz5) (places:=zpa) (vs:=[(0,UH UI 14),(1,UH UI m3.next),(3,.slice ua un uc)]) (cs:=#[UH UI 14,UH UI m3.next,UH UI 0,.slice ua un uc,UH UJ 0]) U0 U0 U2 U0 ?_;refine ah U0 (mD n (b:=b) hb q.aV U1 i64c (q.kV U1) i64c U3) ?_;rintro _ h6 n;exact hK _ _ (by rw[hmm];exact n)
  refine aa λy hy=>?_;simp;refine ah U0 (fq n q U1 (k:=3) U3 U3) ?_;rintro _ h5 ⟨rfl,n⟩;simp;subst hy;by_cases c4:0<aT s m2.at_ 3
  ·rw[if_pos c4]at hmm;refine aQ (by simp[c4]) ?_;simp;refine ah U0 (fq n q.took U1 (k:=12) U3 U3) ?_;rintro _ h6 ⟨rfl,n⟩;have hx:m2.took.at_=m2.at_+1:=rfl;rw[hx];simp;refine ah U0 (gQ n (b:=b) hb3 q.took.took U1 (k:=IntKind.i32.wrap (1+IntKind.i32.wrap (aT s (m2.at_+1) 12))) nZ) ?_;rintro _ h7 ⟨rfl,n⟩;refine fin m2.next _ h7 _ hmm (q.kV U1) (q.took.took.constant.mono U1) (by rw[dZ];exact hb3) n ?_ ?_ ?_ ?_;all_goals simp
   rfl
  rw[if_neg c4]at hmm;refine bg (by simp[c4]) ?_;simp;refine fin d _ h5 _ hmm i4 (q.took.mono U1) hb3 n ?_ ?_ ?_ ?_;all_goals simp
 rw[if_neg c3]at hmm;refine bg (by simp[c3]) ?_;refine aa λz hz=>?_;simp;subst hz;by_cases c4:k<16
 ·rw[if_pos c4]at hmm;refine aQ (by simp[c4]) ?_;simp;refine ah U0 (IE n.x (store:=decide (k=15)) hb1 q U1) ?_;rintro _ h2 n;exact hK _ _ (by rw[hmm];exact n)
 rw[if_neg c4]at hmm;refine bg (by simp[c4]) ?_;refine aa λz hz=>?_;simp;subst hz;by_cases c5:k=16
 ·rw[if_pos c5]at hmm;refine aQ (by simp[c5]) ?_;refine aa λz hz=>?_;simp;obtain⟨W,o,g1,w,f,-⟩:=n;have hk9:o (9,0)=none:=(f _ U3).trans hfree;refine w.own.mg (k:=(9,0)) (α:=Int) hk9 El.aY λv h2 hle2 hv w2 _=>?_;have w2:Mk s M vs W h2 (o.upd (9,0) (it T.int v ([]:List Int))) m1:=by obtain⟨vb,vl,lb,bb⟩:=w.box;exact⟨w2,w.src,vb,vl,lb,bb.frame λk hk=>Own.aB (by rintro rfl;simp at hk)⟩
  subst hz;refine aa λz hz=>?_;simp;refine ah U0 (w2.take (by have:=q.at_;omega) (n:=5) U3 U3) ?_;rintro _ h3 ⟨rfl,o3,w3,f3⟩;simp only[qG]at hmm;have q:=q.took;have hb2:b<m1.took.blocks.length:=hb1;obtain⟨t0,t1⟩:=dv (s:=s) (at_:=m1.at_) (n:=5) U3;generalize aT s m1.at_ 5=t at hmm t0 t1;obtain⟨tn,rfl⟩ : ∃tn:Nat,t=tn:=⟨t.toNat,by omega⟩;rw[show((tn:Int)).toNat=tn by omega]at hmm;have hup:=Gt (s:=s) (b:=b) (x:=([],m1.took)) q;generalize m1.took=m2 at hmm q hb2 hup w3;subst hz;refine aa λz hz=>?_;simp;refine cL [0,1,4,12,13,14] (fun(v:Value) i=>[ptz M,UH UI b,UH UI k,v,UH UI tn,UH UI i]) (λv i h4=>∃W' o',W0.le W'/\Mk s M vs W' h4 o' (up (iS s b) i ([],m2)).2/\o' (9,0)=it T.int v (up (iS s b) i ([],m2)).1/\∀q:Key,3<=q.1->q≠(9,0)->o' q=o0 q) tn v
   rfl U1 rfl ⟨W,o3,g1,w3,(f3 _ U3).trans Own.ao,λq h1 h2=>(f3 q h1).trans ((Own.aB h2).trans (f q h1))⟩ (λ_ _=>rfl) (λv k h hk m=>by simp) ?_ ?_
  ·rintro v i h4 hlt ⟨W4,o4,g4,w4,e4,f4⟩ K2 hK2;obtain⟨qi,li,bi⟩:=hup i;have e5:up (iS s b) (i+1) ([],m2)=((up (iS s b) i ([],m2)).1++[(aU s (up (iS s b) i ([],m2)).2 b).1],(aU s (up (iS s b) i ([],m2)).2 b).2):=rfl;have hb4:b<(up (iS s b) i ([],m2)).2.blocks.length:=by rw[bi];exact hb2
   generalize up (iS s b) i ([],m2)=x at w4 e4 e5 qi li bi hb4;have li:x.1.length=i:=by simpa using li
   simp;refine ah U0 (GV w4 hb4 qi U1) ?_;rintro _ h5 ⟨rfl,i5,W5,o5,g5,w5,f5⟩;have e6:o5 (9,0)=it T.int v x.1:=(f5 _ U3).trans e4;refine w5.own.gy (k:=(9,0)) (α:=Int) (d:=(aU s x.2 b).1) e6 El.aY rfl (bw.2 ⟨rfl,i5⟩) U1 U1 (λ_=>rfl) (λ_=>rfl) λu v' h6 w6 _=>?_;refine hK2 v' _ _ rfl rfl ⟨W5,_,UF g4 g5,⟨w6,w5.src,?_⟩,?_,?_⟩
   ·obtain⟨vb,vl,lb,bb⟩:=w5.box;rw[e5];exact⟨vb,vl,lb,bb.frame λk hk=>Own.aB (by rintro rfl;simp at hk)⟩
   ·rw[e5];exact Own.ao
   intro q h1 h2;exact(Own.aB h2).trans ((f5 q h1).trans (f4 q h1 h2))
  rintro v h4 ⟨W4,o4,g4,w4,e4,f4⟩;obtain⟨qi,li,bi⟩:=hup tn;have hb4:b<(up (iS s b) tn ([],m2)).2.blocks.length:=by rw[bi];exact hb2
  generalize up (iS s b) tn ([],m2)=x at w4 e4 qi li bi hb4 hmm;obtain⟨w5,sl⟩:=w4.own.freeze e4;have sl2:=sl;obtain⟨ua,uc,rfl,_⟩:=sl2;have hWp:=gU (h:=h4) (w4.own.av _ _ e4);have n:Nz s M vs W0 h4 o0 x.2 (.slice ua x.1.length uc) x.1:=by
   obtain⟨vb,vl,lb,bb⟩:=w4.box;refine⟨_,_,UF g4 hWp,⟨w5,w4.src.mono hWp,vb,vl,lb,bb.frame λk hk=>Own.aB (by rintro rfl;simp at hk)⟩,λq h1=>?_,sl⟩;by_cases e:q=(9,0)
   ·rw[e,Own.ao,hfree]
   exact(Own.aB e).trans (f4 q h1 e)
  generalize x.1.length=un at n;simp;subst hz;simp;refine ah U0 (iq n qi U1) ?_;rintro _ h5 ⟨rfl,n⟩;refine ah U0 (fq n qi.aV U1 (k:=5) U3 U3) ?_;rintro _ h6 ⟨rfl,n⟩;have hx:x.2.aV.at_=x.2.at_:=rfl;rw[hx];simp;refine aA (z:=zz5) (places:=zpa) (vs:=[(0,UH UI 17),(1,UH UI x.2.next),(3,.slice ua un uc),(4,UH UJ (IntKind.i32.wrap (aT s x.2.at_ 5)))]) (cs:=#[UH UI 17,UH UI x.2.next,UH UI 0,.slice ua un uc,UH UJ (IntKind.i32.wrap (aT s x.2.at_ 5))]) U0 U0 U2 U0 ?_;refine ah U0 (mD n (b:=b) hb4 qi.aV.took U1 i64c (qi.kV U1) i64c nZ) ?_;rintro _ h7 n;exact hK _ _ (by rw[hmm];exact n)
 rw[if_neg c5]at hmm;refine bg (by simp[c5]) ?_;refine aa λz hz=>?_;simp;subst hz;by_cases c6:k=17
 ·rw[if_pos c6]at hmm;refine aQ (by simp[c6]) ?_;refine aa λz hz=>?_;simp;refine ah U0 (jm n hb1 q U1) ?_;rintro _ h2 ⟨⟨rfl,i2⟩,n⟩;have q:=q.aU (s:=s) (b:=b);have hb2:b<(aU s m1 b).2.blocks.length:=by rw[eu];exact hb1
  simp only[A1]at hmm;generalize aU s m1 b=r1 at hmm n q hb2 i2;subst hz;refine aa λz hz=>?_;simp;refine ah U0 (jm n hb2 q U1) ?_;rintro _ h3 ⟨⟨rfl,i3⟩,n⟩;have q:=q.aU (s:=s) (b:=b);have hb3:b<(aU s r1.2 b).2.blocks.length:=by rw[eu];exact hb2
  generalize aU s r1.2 b=r2 at hmm n q hb3 i3;subst hz;refine aa λz hz=>?_;simp;refine ah U0 (iq n q U1) ?_;rintro _ h4 ⟨rfl,n⟩;subst hz;simp;refine ah U0 (iq n q.aV U1) ?_;rintro _ h5 ⟨rfl,n⟩;have hx:r2.2.aV.next=r2.2.next+1:=rfl;rw[hx];have j5:=q.aV.kV U1;rw[hx]at j5;refine n.lit (ls:=[r1.1,r2.1]) U2 (by simp[i2,i3]) rfl U3 λua un uc h5 _ n=>?_;refine aA (z:=zz5) (places:=zpa) (vs:=[(0,UH UI 18),(1,UH UI r2.2.next),(2,UH UI (r2.2.next+1)),(3,.slice ua un uc)]) (cs:=#[UH UI 18,UH UI r2.2.next,UH UI (r2.2.next+1),.slice ua un uc,UH UJ 0]) U0 U0 U2 U0 ?_;refine ah U0 (mD n (b:=b) hb3 q.aV.aV U1 i64c (q.kV U1) j5 U3) ?_;rintro _ h6 n;exact hK _ _ (by rw[hmm];exact n)
 rw[if_neg c6]at hmm;refine bg (by simp[c6]) ?_;simp;refine ah U0 (Cf n q U1) ?_;rintro _ h2 ⟨rfl,n⟩;refine ah U0 (gQ n (b:=b) hb1 q.took.took U1 (k:=mA s m1) sP) ?_;rintro _ h3 ⟨rfl,n⟩;exact hK _ _ (by rw[hmm];exact n.x)
section
variable{s:List Int}{m:MS}{b c:Nat}
theorem pf:m.took.blocks.length=m.blocks.length:=rfl
theorem rA:m.aV.blocks.length=m.blocks.length:=rfl
theorem MS.ok.addr(h:m.ok c):(qI s m b).2.ok (c+30):=by
 unfold qI;simp only;split
 ·exact((((h.took.constant).took.aU).constant).two.two).mono U1
 exact(h.took.constant.took).mono U1
theorem IK:(qI s m b).2.blocks.length=m.blocks.length:=by unfold qI;simp only;split<;>simp[qy,dZ,eu,pf]
theorem MS.ok.off(h:m.ok c):(offS s m).2.ok (c+4):=by
 unfold offS;split
 ·exact h.took.took.took.took
 exact h.took.took.mono U1
theorem M7:(offS s m).2.blocks.length=m.blocks.length:=by unfold offS;split<;>rfl
theorem MS.ok.memory{st:Bool}(h:m.ok c):(jQ s m b st).ok (c+60):=by
 unfold jQ;simp only;split
 ·exact(((h.addr).off.aU).add).mono U1
 exact(((h.addr).off.aV).add).mono U1
theorem FX{st:Bool}:(jQ s m b st).blocks.length=m.blocks.length:=by unfold jQ;simp only;split<;>simp[nX,eu,M7,IK,rA]
theorem MS.ok.bin(h:m.ok c):(binS s m b op).ok (c+60):=by
 unfold binS;simp only;split
 ·exact((h.aU.aU).took.took.constant.two).mono U1
 exact((h.aU.aU).took.two).mono U1
theorem M8:(binS s m b op).blocks.length=m.blocks.length:=by unfold binS;simp only;split<;>simp[qy,dZ,eu,pf]
theorem MS.ok.div(h:m.ok c):(divS s m b).ok (c+60):=by
 unfold divS;simp only;split
 ·exact((h.aU).took.constant.took.took.constant.two).mono U1
 exact((h.aU).took.constant.took.two).mono U1
theorem L2:(divS s m b).blocks.length=m.blocks.length:=by unfold divS;simp only;split<;>simp[qy,dZ,eu,pf]
theorem MS.ok.qG(h:m.ok c):(qG s m b).ok (c+70):=by unfold Go.Lft.qG;simp only;have ht:=dv (s:=s) (at_:=m.at_) (n:=5) U3;have:=(Gt (s:=s) (b:=b) (x:=([],m.took)) h.took (aT s m.at_ 5).toNat).1;exact(this.aV.took.add).mono U1
theorem KL:(qG s m b).blocks.length=m.blocks.length:=by unfold qG;simp only;rw[nX,pf,rA];exact E0 (s:=s) (b:=b) (x:=([],m.took)) _
theorem MS.ok.kI(h:m.ok c):(aZ s b m).ok (c+80):=by
 unfold aZ;simp only;repeat' split
 ·exact h.took.bin.mono U1
 ·unfold ltuS;exact(h.took.aU.aU.two).mono U1
 ·exact h.took.div.mono U1
 ·exact h.took.memory.mono U1
 ·exact h.took.qG.mono U1
 ·unfold A1;exact(h.took.aU.aU.aV.aV.add).mono U1
 exact h.took.took.took.constant.mono U1
theorem qF:(aZ s b m).blocks.length=m.blocks.length:=by
 unfold aZ;simp only;repeat' split
 all_goals simp[M8,ltuS,L2,FX,KL,A1,qy,dZ,eu,pf,rA,nX]
end
end Go.Lft
