/- A part of the proof: Rc, Rd, Rf, Rg, Rh, Tb, Tc, Td, Th, Ti, Ie, Id, Ka, Kb, LftMv, LftTs, If, Ma, Mb, Mc, Md, Me, Mf, Mg, Mh, Mi, Mj. -/
import Derived.Test.YtmhnaeecolpfkaaGreatZSRun3
import Derived.ChangeKeysEq
set_option linter.unusedSimpArgs false
set_option linter.unusedVariables false
open Go.Value renaming int->Qy,slice->QD,pointer->QE
open Go.IntKind renaming i64->Qz,i32->QA
open Option renaming some->QB,none->QC
open Bool renaming true->QF,false->QG
open Go.Proofs.Tryz renaming prog->QH
open Go.Proofs
namespace Go.Lft
instance:Rep Th:=Rep.via λd=>Cat.mk d.blk (Cat.mk d.place (Cat.mk d.mks d.tks))
theorem Th.JF:Part Th Int 0 Th.blk (λd x=>{ d with blk:=x }):=(Part.fst Part.all).via (λ_=>rfl) λ_ _=>rfl
theorem Th.LZ:Part Th (List Int) 2 Th.mks (λd x=>{ d with mks:=x }):=(Part.snd (Part.snd (Part.fst Part.all))).via (λ_=>rfl) λ_ _=>rfl
structure ThR where
 blk:Int
 place:Int
 mks:List Int
 tks:Raw
instance:Rep ThR:=Rep.via λd=>Cat.mk d.blk (Cat.mk d.place (Cat.mk d.mks d.tks))
theorem ThR.JD:Part ThR Raw 3 ThR.tks (λd x=>{ d with tks:=x }):=(Part.snd (Part.snd (Part.snd Part.all))).via (λ_=>rfl) λ_ _=>rfl
variable{H:View}
theorem Gn{a b:Int}{u q:Value}{m t:List Int}(ha:I64 a)(hb:I64 b)(hm:SlRd H u m)(ht:SlRd H q t):Rd H (.agg #[Qy Qz a,Qy Qz b,u,q]) (Th.mk a b m t):=
 ⟨_,rfl,[Qy Qz a],[Qy Qz b,u,q],rfl,⟨rfl,ha⟩,[Qy Qz b],[u,q],rfl,⟨rfl,hb⟩,[u],[q],rfl,⟨u,rfl,hm⟩,⟨q,rfl,ht⟩⟩
theorem KH{a b:Int}{u q:Value}{m:List Int}(ha:I64 a)(hb:I64 b)(hm:SlRd H u m)(hq:q.oneCell'=QF):Rd H (.agg #[Qy Qz a,Qy Qz b,u,q]) (ThR.mk a b m ⟨q⟩):=
 ⟨_,rfl,[Qy Qz a],[Qy Qz b,u,q],rfl,⟨rfl,ha⟩,[Qy Qz b],[u,q],rfl,⟨rfl,hb⟩,[u],[q],rfl,⟨u,rfl,hm⟩,⟨rfl,hq⟩⟩
theorem Fj{cs:List Value}{d:ThR}(h:Rep.rd H cs d): ∃u,cs=[Qy Qz d.blk,Qy Qz d.place,u,d.tks.v]/\I64 d.blk/\I64 d.place/\SlRd H u d.mks:=by obtain⟨c1,r1,rfl,⟨rfl,h1⟩,c2,r2,rfl,⟨rfl,h2⟩,c3,r3,rfl,⟨u,rfl,h3⟩,rfl,_⟩:=h;exact⟨u,rfl,h1,h2,h3⟩
def pO(vo:Value)(l:List Th):Own:=λk=>if k=(0,0) then it T.fh vo l else QC
def uW(vo:Value)(l:List Th)(D:Nat)(d:ThR)(q:Value)(t:List Int):Own:=λk=>if k=(0,0) then it T.fh vo l else if k=(1,0) then bx T.fh D d else if k=(1,1) then it T.int q t else QC
structure ThS(V:View)(h0:Heap)(vo:Value)(l:List Th)(W:View)(h:Heap):Prop where
 own:Owns W h (pO vo l)
 old:Old V h0 W
 le:(vw h0).le (vw h)
 av:Av (vw h0) vo
theorem ThS.ext{V:View}{h0:Heap}{vo:Value}{l:List Th}{W:View}{h h':Heap}(k:ThS V h0 vo l W h)(hle:(vw h).le (vw h')):ThS V h0 vo l (grow W h h') h':=
 ⟨k.own.ext hle,k.old.grow (iB k.le),Qx k.le hle,k.av⟩
theorem Gh{po:OP}{ty:TypeId}{us:List (Nat × Value)}{h:Heap}{K:Value->Heap->Prop}{x y z w:Operand}{a b:Int}{u q:Value}(hx:asg us x = Qy Qz a)(hy:asg us y = Qy Qz b)(hz:asg us z=u)(hw:asg us w=q)(hu:u.cells = #[u])(hq:q.cells = #[q])(hk:K (.agg #[Qy Qz a,Qy Qz b,u,q]) h):
  Lft.step QH (.build T.fh #[(0,x),(1,y),(2,z),(3,w)]) ty us h K:=
 aQ (z:=zz7) (places:=zpb) (vs:=[(0,Qy Qz a),(1,Qy Qz b),(2,u),(3,q)]) (cs:=#[Qy Qz a,Qy Qz b,u,q]) Q0 Q0 (by simp[hx,hy,hz,hw])
  (by simp[Instr.fill,hu,hq]) hk
theorem Ez{po:OP}{ty:TypeId}{us:List (Nat × Value)}{h:Heap}{K:Value->Heap->Prop}{x y z:Operand}{a b:Int}{u:Value}(hx:asg us x = Qy Qz a)(hy:asg us y = Qy Qz b)(hz:asg us z=u)(hu:u.cells = #[u])(hk:K (.agg #[Qy Qz a,Qy Qz b,u,QD QC 0 0]) h):
  Lft.step QH (.build T.fh #[(0,x),(1,y),(2,z)]) ty us h K:=
 aQ (z:=zz7) (places:=zpb) (vs:=[(0,Qy Qz a),(1,Qy Qz b),(2,u)]) (cs:=#[Qy Qz a,Qy Qz b,u,QD QC 0 0]) Q0 Q0 (by simp[hx,hy,hz])
  (by simp[Instr.fill,hu]) hk
theorem Fm{po:OP}{ty:TypeId}{us:List (Nat × Value)}{h:Heap}{K:Value->Heap->Prop}{x y w:Operand}{a b:Int}{q:Value}(hx:asg us x = Qy Qz a)(hy:asg us y = Qy Qz b)(hw:asg us w=q)(hq:q.cells = #[q])(hk:K (.agg #[Qy Qz a,Qy Qz b,QD QC 0 0,q]) h):
  Lft.step QH (.build T.fh #[(0,x),(1,y),(3,w)]) ty us h K:=
 aQ (z:=zz7) (places:=zpb) (vs:=[(0,Qy Qz a),(1,Qy Qz b),(3,q)]) (cs:=#[Qy Qz a,Qy Qz b,QD QC 0 0,q]) Q0 Q0 (by simp[hx,hy,hw])
  (by simp[Instr.fill,hq]) hk
theorem yV{f:aq}{v:Value}{V:View}{h:Heap}(hv:Rd V v f)(hV:V.le (vw h))(hsm:SmF f):
  aw QH N.cd #[v] h (λu h'=>(vw h).le (vw h')/\SlRd (grow V h h') u (aS f)):=by
 refine ak (args:=[v]) follows F.cd E.cd Q9 λK hK=>?_;have hn:=hsm.len;dsimp only[L.cd];refine ab λz hz=>?_;simp;refine my (v:=v) rfl ?_;have hle1:=bA h (.cells v.cells T.a7);have hat1:At (grow V h (h.push (.cells v.cells T.a7))) ⟨h.size,0,QC⟩ f:=tu (t:=T.a7) (fz:=(0,0)) (by rw[gJ (MY _)];simp) (hv.mono (bE hV));have hs1:(h.push (.cells v.cells T.a7)).size=h.size+1:=by simp
 generalize h.push (.cells v.cells T.a7)=h1 at hle1 hat1 hs1;have hW1:(grow V h h1).le (vw h1):=sD (Qx hV hle1);have old1:Old V h (grow V h h1):=(Old.refl V h).grow (MY _);obtain⟨_,vb,cb⟩:=jX hat1;generalize grow V h h1=W1 at cb hW1 old1;generalize h.size=B at cb;subst hz;refine ab λz hz=>?_;simp;refine sR (α:=Th) El.iE λh2 hle2 hsz2 own2=>?_;have t2:ThS V h (QD (QB ⟨h1.size,0,QC⟩) 0 0) [] W1 h2:=⟨((Owns.start hW1).add (k:=(0,0)) rfl (own2 _) hle2 (λb hb=>by simp only[Value.ownBlock,MX]at hb;omega)).congr λq=>by
   unfold pO Own.upd;repeat' split
   all_goals first | rfl | simp_all,old1,Qx hle1 hle2,λb hb=>by cases hb;exact View.cT Qw (by show h.size<=h1.size;omega)⟩;generalize QD (QB ⟨h1.size,0,QC⟩) 0 0=v0 at t2;subst hz;refine ab λz hz=>?_;simp
 refine dq [1,3,4] (fun(r:Value) b=>[QT B,r,Qy Qz b]) (λr b h3=>∃W,W1.le W/\ThS V h r (thTo f b) W h3) f.blocks.length v0
  rfl Q1 rfl ⟨W1,View.le_refl _,t2⟩ (λ_ _=>rfl) (λv k h3 hk ⟨W,q1,q2⟩=>by simp[ae (Qx q1 q2.own.wle) cb.1,(cb.2.mono (Qx q1 q2.own.wle)).len]) ?_ ?_
 ·rintro r b h3 hltb ⟨W3,hW3,t3⟩ K2 hK2;have hl3:=zW hsm (n:=b) Q1;have cb3:=cb.2.mono (Qx hW3 t3.own.wle);have cc3:=ae (Qx hW3 t3.own.wle) cb.1;obtain⟨u,hu,hur⟩:=(cb.2.mono hW3).wh rfl (N:=6) rfl hltb;have sb:=hsm.blk b hltb;refine ab λy hy=>?_;simp(disch:=omega)[cc3,cb3.idxn (N:=6) rfl,hu _ t3.own.wle];refine eP (X:=W3) (z:=zz3) Q0 rfl Q0 hur Q4 Q4 λh4 hle4 hsz4 hat4=>?_;have t4:=t3.ext hle4;have hat4':=hat4 (grow W3 h3 h4) (bE t3.own.wle) (gJ (MY _));obtain⟨vp,vi,va,vt,bp,bi,bk,ba,bt⟩:=nZ hat4';have hW4:=Qx hW3 (bE (h':=h4) t3.own.wle);generalize grow W3 h3 h4=W4 at t4 bp bi bk ba bt hW4;generalize h3.size=D at bp bi bk ba bt;subst hy;refine ab λy hy=>?_;simp;have sp:=sb.phis;refine dq [1,3,4,5,6] (fun(r:Value) i=>[QT B,r,Qy Qz b,QT D,Qy Qz i]) (λr i h5=>∃W,W4.le W/\ThS V h r (thTo f b++rows (phiT f b) i) W h5) (nth f.blocks b).phis.length r
   rfl Q1 rfl ⟨W4,View.le_refl _,by simpa using t4⟩ (λ_ _=>rfl) (λv k h3 hk ⟨W,q1,q2⟩=>by simp[ae (Qx q1 q2.own.wle) bp.1,(bp.2.mono (Qx q1 q2.own.wle)).len]) ?_ ?_
  ·rintro r i h5 hlti ⟨W5,hW5,t5⟩ K3 hK3;have bp5:=bp.2.mono hW5;have bph:=bp5.mono t5.own.wle;have cph:=ae (Qx hW5 t5.own.wle) bp.1;have hap:=(bp5.at hlti);rw[<-ao hlti]at hap;have hdst:aj W5 (((slA vp).add (i*2)).add 0)=QB (Qy Qz (nth (nth f.blocks b).phis i).dst):=(hap.part PhiD.qR).int;have hdr:=(hap.part PhiD.qR).rng;obtain⟨vq,hvq⟩:=(hap.part PhiD.pP).sl;have hvq1:aj W5 (((slA vp).add (i*2)).add 1)=QB vq:=hvq.1;have hvq2:=hvq.2;have hpl:=sb.phi i hlti;have hpt:phiT f b i=⟨b,-1-i,[(nth (nth f.blocks b).phis i).dst],(nth (nth f.blocks b).phis i).ins.map InD.val⟩:=rfl;generalize nth (nth f.blocks b).phis i=x at hdst hdr hvq2 hpl hpt;refine ab λq hq=>?_;simp(disch:=omega)[cph,bph.idxn (N:=2) rfl,ae t5.own.wle hdst];refine mQ (X:=nothing) (ds:=[x.dst]) (vs:=[Qy Qz x.dst]) rfl El.bn Sb ⟨dJ.2 ⟨rfl,hdr⟩,trivial⟩ dx rfl Q1 λu6 h6 hle6 hsz6 hu6 hub6=>?_;have hu6n:=hu6 (vw h6) dx rfl;refine Ez rfl rfl rfl hu6n.cells.1 ?_;simp;refine j6 (n:=4) (v:=.agg #[Qy Qz b,Qy Qz (-1-i),u6,QD QC 0 0]) (z:=zz7) Q0 rfl Q0 rfl (by intro c hc;simp at hc;rcases hc with rfl | rfl | rfl | rfl<;>first | rfl | exact hu6n.cells.2) Q4 Q4 λh7 hle7 hsz7 hb7=>?_;have w6:=t5.own.ext hle6;have w7:=(w6.add (k:=(1,0)) rfl (lZ (h:=h7) (d:=ThR.mk b (-1-i) [x.dst] ⟨QD QC 0 0⟩) hb7 (KH Q5 Q5 (hu6 _ dx (gJ (MY _))) rfl) Q2) hle7 (λb hb=>by simp only[Value.ownBlock,MX]at hb;omega)).add (k:=(1,1)) rfl (OwnT.nil (α:=Int) _ h7 T.int) Qw (λb hb=>by simp[Value.ownBlock]at hb);have w7:Owns (grow W5 h5 h6) h7 (uW r (thTo f b++rows (phiT f b) i) h6.size (ThR.mk b (-1-i) [x.dst] ⟨QD QC 0 0⟩) (QD QC 0 0) []):=w7.congr λq=>by
    unfold uW pO Own.upd;repeat' split
    all_goals first | rfl | simp_all
   have hW7:=Qx hW5 (bE (h':=h6) t5.own.wle);have old7:=t5.old.grow (h1:=h5) (h2:=h6) (iB t5.le);have hle07:=Qx t5.le (Qx hle6 hle7);have hvq7:=hvq2.mono (bE (h':=h6) t5.own.wle);have cvq7:=ae (bE (h':=h6) t5.own.wle) hvq1;generalize grow W5 h5 h6=W7 at w7 hW7 old7 hvq7 cvq7;have hD7:h.size<=h6.size:=NB (iB t5.le) (iB hle6);generalize h6.size=D7 at w7 hD7;subst hq;refine ab λq hq=>?_;simp;refine dq [1,3,4,5,6,7,8] (fun(q:Value) j=>[QT B,r,Qy Qz b,QT D,Qy Qz i,QT D7,Qy Qz j])
    (λq j h8=>Owns W7 h8 (uW r (thTo f b++rows (phiT f b) i) D7 (ThR.mk b (-1-i) [x.dst] ⟨q⟩) q ((x.ins.map InD.val).take j))/\(vw h).le (vw h8)/\Av (vw h) q) x.ins.length (QD QC 0 0)
    rfl Q1 rfl ⟨w7,hle07,Av.nil _ _ _⟩ (λ_ _=>rfl) (λv k h8 hk ⟨w8,q2⟩=>by have bp8:=(bp.2.mono hW7).mono w8.wle;simp(disch:=omega)[ae (Qx hW7 w8.wle) bp.1,bp8.idxn (N:=2) rfl,ae w8.wle cvq7,(hvq7.mono w8.wle).len]) ?_ ?_
   ·rintro q8 j h8 hltj ⟨w8,hle08,av8⟩ K4 hK4;have bp8:=(bp.2.mono hW7).mono w8.wle;have hv8:=hvq7.mono w8.wle;have hai:=(hvq7.at hltj);rw[<-ao hltj]at hai;have hval:aj W7 (((slA vq).add (j*2)).add 1)=QB (Qy Qz (nth x.ins j).val):=(hai.part InD.xJ).int;have hvr:=(hai.part InD.xJ).rng;have hl8:((x.ins.map InD.val).take j).length=j:=by simp;omega
    have htk:(x.ins.map InD.val).take (j+1)=(x.ins.map InD.val).take j++[(nth x.ins j).val]:=by rw[P8,OU,N9 hltj,ao hltj];rfl
    have hq8:aj (vw h8) ⟨D7,3,QC⟩=QB q8:=by have:=((w8.at (k:=(1,0)) (e:=T.fh) (B:=D7) (d:=ThR.mk b (-1-i) [x.dst] ⟨q8⟩) rfl).part ThR.JD).raw;simpa using this
    refine bz (vw h8) Qw ?_;simp(disch:=omega)[hq8,ae (Qx hW7 w8.wle) bp.1,bp8.idxn (N:=2) rfl,ae w8.wle cvq7,hv8.idxn (N:=2) rfl,ae w8.wle hval];refine jz (α:=Int) (W:=W7) El.bn rfl (dJ.2 ⟨rfl,hvr⟩) λu9 h9 hs9 hle9 hsz9=>⟨hle9,?_⟩;refine(w8.ext' hle9).cR (k:=(1,1)) (α:=Int) (v:=q8) (l:=(x.ins.map InD.val).take j) rfl El.bn rfl rfl hs9 Q8 Q8 λq10 h10 w10 m10=>?_;have hc10:=w10.cells (k:=(1,1)) (Own.ah);obtain⟨hX10,av10⟩:=m10.view (Qx hle08 hle9) av8;refine w10.lR (k:=(1,0)) (e:=T.fh) (B:=D7) (D:=ThR.mk b (-1-i) [x.dst] ⟨q8⟩) ThR.JD (d:=⟨q10⟩) rfl Q0 rfl rfl (rC.2 ⟨rfl,hc10.2⟩) λh11 w11 hX11=>?_;refine hK4 q10 _ _ rfl rfl ⟨w11.congr λp=>?_,hX11 _ hX10 (View.cT Qw hD7),av10⟩;rw[htk];unfold uW Own.upd;repeat' split
    all_goals first | rfl | simp_all
   rintro q8 h8 ⟨w8,hle08,av8⟩;rw[Nd Sb]at w8;simp;subst hq;obtain⟨cs,hcs,hrd⟩:=w8.atW (k:=(1,0)) (e:=T.fh) (B:=D7) (d:=ThR.mk b (-1-i) [x.dst] ⟨q8⟩) rfl;obtain⟨u9,rfl,i1,i2,hu9⟩:=Fj hrd;obtain⟨w9,hq9⟩:=w8.freeze (k:=(1,1)) (v:=q8) (l:=x.ins.map InD.val) rfl;have hpl9:W7.le (W7.plus q8 h8):=kS (w8.av (1,1) _ rfl);have hload:Un.ev (vw h8) (.ax 4) (QT D7)=QB (.agg #[Qy Qz b,Qy Qz (-1-i),u9,q8]):=by have:=ir hcs 4 0 #[] Ri;simp[Un.ev,vP,this]
   have hold9:Old V h (W7.plus q8 h8):=λc o hc hco=>by
    unfold View.plus at hco;split at hco
    ·rename_i e;have:=av8 c e;simp only[vw]at this;rw[Nt hc]at this;cases this
    exact old7 c o hc hco
   have w9:Owns (W7.plus q8 h8) h8 (pO r (thTo f b++rows (phiT f b) i)):=w9.sub λp x hp=>by
    unfold pO at hp;split at hp
    ·rename_i e;subst e;exact hp
    cases hp
   have hlr:(thTo f b++rows (phiT f b) i).length=(thTo f b).length+i:=by simp
   simp[hload];refine w9.wU (k:=(0,0)) (α:=Th) (v:=r) (l:=thTo f b++rows (phiT f b) i) (d:=phiT f b i) rfl El.iE rfl (by rw[hpt];exact Gn i1 i2 (hu9.mono hpl9) hq9) Q1 Q1 (λ_=>rfl) (λ_=>rfl) λu10 r10 h10 w10 hX10=>?_;obtain⟨g1,g2⟩:=hX10 _ hle08 t5.av;refine hK3 r10 _ _ rfl rfl ⟨W7.plus q8 h8,Qx hW7 hpl9,⟨w10.congr λp=>?_,hold9,g1,g2⟩⟩;rw[iG,<-List.append_assoc];unfold pO Own.upd;repeat' split
   all_goals first | rfl | simp_all
  rintro r h5 ⟨W5,hW5,t5⟩;simp;subst hy;refine ab λy hy=>?_;simp;have si:=sb.ins;refine dq [1,3,4,5,9] (fun(r:Value) i=>[QT B,r,Qy Qz b,QT D,Qy Qz i]) (λr i h6=>∃W,W4.le W/\ThS V h r (thTo f b++rows (phiT f b) (nth f.blocks b).phis.length++rows (insT f b) i) W h6) (nth f.blocks b).ins.length r
   rfl Q1 rfl ⟨W5,hW5,by simpa using t5⟩ (λ_ _=>rfl) (λv k h3 hk ⟨W,q1,q2⟩=>by simp[ae (Qx q1 q2.own.wle) bi.1,(bi.2.mono (Qx q1 q2.own.wle)).len]) ?_ ?_
  ·rintro r i h6 hlti ⟨W6,hW6,t6⟩ K3 hK3;have bi6:=bi.2.mono hW6;have bih:=bi6.mono t6.own.wle;have cih:=ae (Qx hW6 t6.own.wle) bi.1;obtain⟨ux,hux,huxr⟩:=bi6.wh rfl (N:=5) rfl hlti;have hap:=(bi6.at hlti);rw[<-ao hlti]at hap;obtain⟨vq,hvq⟩:=(hap.part InsD.mV).sl;have hvq1:aj W6 (((slA vi).add (i*5)).add 3)=QB vq:=hvq.1;have hvq2:=hvq.2;have hpt:insT f b i=⟨b,i,bm (nth (nth f.blocks b).ins i),(nth (nth f.blocks b).ins i).args⟩:=rfl;generalize nth (nth f.blocks b).ins i=x at hvq2 huxr hpt;have hlr:(thTo f b++rows (phiT f b) (nth f.blocks b).phis.length++rows (insT f b) i).length=(thTo f b).length+(nth f.blocks b).phis.length+i:=by simp;omega
   refine bz (vw h6) Qw ?_;simp(disch:=omega)[cih,bih.idxn (N:=5) rfl,hux _ t6.own.wle,ae t6.own.wle hvq1];refine ag Q0 (oX (huxr.mono t6.own.wle)) ?_;rintro u7 h7 ⟨hle7,hu7,_⟩;refine⟨hle7,?_⟩;have t7:=t6.ext hle7;have hu7':=hu7.mono (jd W6 h6 h7);have hvq7:=hvq2.mono (bE (h':=h7) t6.own.wle);refine Gh rfl rfl rfl rfl hu7.cells.1 hvq2.cells.1 ?_;simp;refine t7.own.wU (k:=(0,0)) (α:=Th) (v:=r) (l:=thTo f b++rows (phiT f b) (nth f.blocks b).phis.length++rows (insT f b) i) (d:=insT f b i) rfl El.iE rfl (by rw[hpt];exact Gn Q5 Q5 hu7' hvq7) Q1 Q1 (λ_=>rfl) (λ_=>rfl) λu10 r10 h10 w10 hX10=>?_;obtain⟨g1,g2⟩:=hX10 _ t7.le t7.av;refine hK3 r10 _ _ rfl rfl ⟨_,Qx hW6 (bE (h':=h7) t6.own.wle),⟨w10.congr λp=>?_,t7.old,g1,g2⟩⟩;rw[iG,<-List.append_assoc];unfold pO Own.upd;repeat' split
   all_goals first | rfl | simp_all
  rintro r h6 ⟨W6,hW6,t6⟩;simp;subst hy;have hW6h:=Qx hW6 t6.own.wle;have bih:=bi.2.mono hW6h;have cih:=ae hW6h bi.1;have hlr:(thTo f b++rows (phiT f b) (nth f.blocks b).phis.length++rows (insT f b) (nth f.blocks b).ins.length).length=(thTo f b).length+(nth f.blocks b).phis.length+(nth f.blocks b).ins.length:=by simp;omega
  simp[cih,bih.len,ae hW6h ba.1];refine Fm rfl rfl rfl (ba.2.cells.1) ?_;simp;refine t6.own.wU (k:=(0,0)) (α:=Th) (v:=r) (l:=thTo f b++rows (phiT f b) (nth f.blocks b).phis.length++rows (insT f b) (nth f.blocks b).ins.length) (d:=endT f b) rfl El.iE rfl (Gn Q5 Q5 ia (ba.2.mono hW6)) Q1 Q1 (λ_=>rfl) (λ_=>rfl) λu10 r10 h10 w10 hX10=>?_;obtain⟨g1,g2⟩:=hX10 _ t6.le t6.av;refine hK2 r10 _ _ rfl rfl ⟨_,Qx hW4 hW6,⟨w10.congr λp=>?_,t6.old,g1,g2⟩⟩;have e:thTo f (b+1)=thTo f b++rows (phiT f b) (nth f.blocks b).phis.length++rows (insT f b) (nth f.blocks b).ins.length++[endT f b]:=by rw[fJ,thB];simp[Nk]
  rw[e];unfold pO Own.upd;repeat' split
  all_goals first | rfl | simp_all
 rintro r h3 ⟨W3,hW3,t3⟩;simp;subst hz;simp;exact hK _ _ ⟨t3.le,(t3.own.get (k:=(0,0)) (v:=r) (l:=thTo f f.blocks.length) rfl).rd (t3.old.le t3.own.wle) λb hb=>by
  have:=t3.av b hb;rw[gJ];rcases M0 b h.size with hlt | hge
  ·simp[vw,hlt]at this
  exact hge⟩
structure GotD where
 e:Int
 b:Int
 p:Int
instance:Rep GotD:=Rep.via λd=>Cat.mk d.e (Cat.mk d.b d.p)
abbrev BL:=List Bool
def qA(t:Th)(j:Nat)(m:BL):Except Tr BL:=if nth m (nth t.mks j).toNat then .error (12,t.blk,t.place) else .ok (m.set (nth t.mks j).toNat QF)
def gm(f:aq)(t:Th):BlkD:=nth f.blocks t.blk.toNat
def Bp(f:aq)(t:Th):InsD:=nth (gm f t).ins t.place.toNat
def np(f:aq)(t:Th):Bool:=decide (0<=t.place)&&decide (t.place<(gm f t).ins.length)
def jA(f:aq)(t:Th):Bool:=decide (t.place=(gm f t).ins.length)
def lr(s:InsD):Bool:=decide (s.op<1)||decide (18<s.op)||!qd s.op s.args.length
def mY(f:aq)(n:Int):Bool:=decide (n<f.params)||decide (8191<n)
def v7(f:aq)(n:Int):Bool:=decide (n<1)||decide ((f.blocks.length:Int)<=n)
def nR(f:aq)(t:Th):Except Tr BL->Except Tr BL
 | .error e=>.error e
 | .ok m'=>if jA f t&&(gm f t).term.to.any (v7 f) then .error (14,t.blk,t.place) else .ok m'
def jF(f:aq)(t:Th)(m:BL):Except Tr BL:=
 if np f t&&lr (Bp f t) then .error (10,t.blk,t.place)
 else if jA f t&&!iT (gm f t).term then .error (10,t.blk,t.place)
 else if t.mks.any (mY f) then .error (11,t.blk,t.place)
 else nR f t (upE (qA t) t.mks.length m)
def lT(f:aq):Except Tr BL:=upE (λi m=>jF f (nth (aS f) i) m) (aS f).length (List.replicate 8192 QG)
def yG{α:Type}:Except Tr α->Tr | .ok _=>(0,0,0) | .error t=>t
def noTh:Th:=⟨-1,0,[],[]⟩
def fY(t:Th)(l:List Th)(n:Int):List Th:=if 0<=n/\n<8192 then l.set n.toNat t else l
def rJ(l:List Th)(t:Th):List Th:=t.mks.foldl (fY t) l
def yS(ts:List Th):List Th:=ts.foldl rJ (List.replicate 8192 noTh)
variable{n:Int}
theorem od{t:Th}{l:List Th}:(fY t l n).length=l.length:=by unfold fY;split<;>simp
theorem B6{t:Th}{l:List Th}:(rJ l t).length=l.length:=qf (f:=fY t) (λx:List Th=>x.length=l.length) (λ_ _ h=>od.trans h) _ _ rfl
theorem BV{ts:List Th}:(yS ts).length=8192:=qf (f:=rJ) (λx:List Th=>x.length=8192) (λ_ _ h=>B6.trans h) _ _ (NM ..)
def jq(f:aq)(made:List Th)(away:List BL)(v blk place:Int):Bool:=
 if 0<=v/\v<f.params then QF
 else if(v<0\/8191<v)\/(nth made v.toNat).blk<0 then QG
 else if(nth made v.toNat).blk=blk then decide ((nth made v.toNat).place<0)||decide ((nth made v.toNat).place<place)
 else !nth (nth away (nth made v.toNat).blk.toNat) blk.toNat
def qW(f:aq)(t:Th):PhiD:=nth (gm f t).phis (-1-t.place).toNat
def oU(f:aq)(b:Int):Int:=((nth f.blocks b.toNat).ins.length:Nat)
def sI(f:aq)(t:Th):Bool:=decide (0<t.blk)&&decide ((qW f t).ins.map InD.frm=aA f t.blk)
def stT(f:aq)(made:List Th)(away:List BL)(t:Th)(x:Int):Bool:=!jq f made away x t.blk t.place
def stP(f:aq)(made:List Th)(away:List BL)(p:InD):Bool:=!jq f made away p.val p.frm (oU f p.frm)
def jm(f:aq)(made:List Th)(away:List BL)(t:Th):Except Tr Unit:=
 if 0<=t.place then(if t.tks.any (stT f made away t) then .error (13,t.blk,t.place) else .ok ())
 else if !sI f t then .error (16,t.blk,t.place)
 else if(qW f t).ins.any (stP f made away) then .error (13,t.blk,t.place)
 else .ok ()
def jx(f:aq):List Th:=yS (aS f)
def iS(f:aq):List BL:=rows (λb=>eJ f b) f.blocks.length
def ko(f:aq):Nat->Nat
 | 0=>f.blocks.length
 | n+1=>ko f n+(nth f.blocks n).phis.length+(nth f.blocks n).ins.length
def wayE(f:aq):Except Tr Unit:=upE (λb _=>if nth (eJ f (-1)) b=QF then .ok () else .error (15,b,0)) f.blocks.length ()
def Aa(f:aq):Except Tr Unit:=upE (λi _=>jm f (jx f) (iS f) (nth (aS f) i)) (aS f).length ()
def LB:Except Tr Unit->Except Tr Unit->Except Tr Unit
 | .ok _,y=>y
 | .error e,_=>.error e
def wL(f:aq):Tr:=
 if f.params<0\/4<f.params then(1,0,0)
 else if f.blocks.length=0 then(14,0,0)
 else if 512<f.blocks.length\/4096<ko f f.blocks.length then(2,0,0)
 else if(yG (lT f)).1≠0 then yG (lT f)
 else yG (LB (wayE f) (Aa f))
theorem y5{σ ε:Type}{f:Nat->σ->Except ε σ}{s:σ}{t:ε} : ∀{n:Nat},upE f n s = .error t->∃k s',k<n/\upE f k s = .ok s'/\f k s' = .error t
 | n+1,h=>by
  simp only[upE]at h;split at h
  ·rename_i s' hs;exact⟨n,s',PL n,hs,h⟩
  rename_i t' ht;cases h;obtain⟨k,s',h1,h2⟩:=y5 ht;exact⟨k,s',Nat.lt_succ_of_lt h1,h2⟩
theorem Ar{f:aq}{t:Th}{m:BL}{e:Tr}(h:jF f t m = .error e):(10<=e.1/\e.1<=14)/\e.2.1=t.blk/\e.2.2=t.place:=by
 unfold jF at h;split at h
 ·cases h;simp
 split at h
 ·cases h;simp
 split at h
 ·cases h;simp
 unfold nR at h;split at h
 ·rename_i e' he;cases h;obtain⟨k,s',_,_,h3⟩:=y5 he;unfold qA at h3;split at h3
  ·cases h3;simp
  cases h3
 split at h
 ·cases h;simp
 cases h
theorem EZ(hn:0<=n){ts:List Th}(h : ∀t∈ts,t.blk<n){i:Nat}(hi:i<8192):(nth (yS ts) i).blk<n:=by
 have key : ∀(ts:List Th),(∀t∈ts,t.blk<n)->∀l:List Th,(∀x∈l,x.blk<n)->∀x∈ts.foldl rJ l,x.blk<n:=by
  intro ts;induction ts with
  | nil=>exact λ_ l hl=>hl
  | cons t ts ih=>
   intro ht l hl;refine ih (λx hx=>ht x (Nf _ hx)) _ ?_;refine qf (f:=fY t) (λl:List Th=>∀x∈l,x.blk<n) (λl a hl x hx=>?_) _ _ hl;unfold fY at hx;split at hx
   ·rcases Ps hx with h | rfl
    ·exact hl x h
    exact ht _ Ng
   exact hl x hx
 refine key ts h _ (λx hx=>?_) _ (bD (by show i<(yS ts).length;rw[BV];exact hi));rw[(List.mem_replicate.1 hx).2];show(-1:Int)<n;omega
variable{α:Type}
theorem jH{σ ε:Type}{f:σ->α->Except ε σ}{a b:List α}{s:σ}:(a++b).foldlM f s=(match a.foldlM f s with | .ok s'=>b.foldlM f s' | .error e=>.error e):=by rw[PX];cases a.foldlM f s<;>rfl
theorem rm{σ ε:Type}{f:σ->α->Except ε σ}{a:α}{s:σ}:[a].foldlM f s=f s a:=by rw[Ol];cases f s a<;>rfl
theorem nm{σ α ε:Type}{g:Nat->σ->Except ε σ}{f:σ->α->Except ε σ}{x:Nat->α}{s:σ} : ∀{n:Nat},(∀i s,i<n->g i s=f s (x i))->upE g n s=(rows x n).foldlM f s
 | 0,_=>rfl
 | n+1,h=>by
  have ih:=nm (n:=n) (s:=s) λi s hi=>h i s Q1;rw[iG,jH,<-ih];simp only[upE];cases upE g n s with
  | ok s'=>show g n s'=[x n].foldlM f s';rw[rm];exact h n s' Q1
  | error e=>rfl
theorem oZ{σ ε:Type}[Inhabited α]{f:σ->α->Except ε σ}{l:List α}{s:σ}:upE (λi s=>f s (nth l i)) l.length s=l.foldlM f s:=by rw[nm (f:=f) (x:=nth l) λ_ _ _=>rfl];congr 1;refine NU Sb λi h1 h2=>?_;simp[rows,ao h2]
def lC(f:aq)(m:MW)(t:Th):Except Tr MW:=
 if t.place<0 then allS f.params t.mks t.blk t.place m
 else if t.place<(gm f t).ins.length then insS f.params t.blk (gm f t) t.place.toNat m
 else endS f.blocks.length t.blk (gm f t) m
variable{b:Nat}
theorem tF{f:aq}{i:Nat}{m:MW}:lC f m (phiT f b i)=phiS f.params b (nth f.blocks b) i m:=by unfold lC;rw[if_pos (show(phiT f b i).place<0 by show -1-(i:Int)<0;omega)];rfl
theorem tB{f:aq}{i:Nat}{m:MW}(hi:i<(nth f.blocks b).ins.length):lC f m (insT f b i)=insS f.params b (nth f.blocks b) i m:=by unfold lC;rw[if_neg (show ¬(insT f b i).place<0 by show ¬(i:Int)<0;omega),if_pos (show(insT f b i).place<((gm f (insT f b i)).ins.length:Int) by show(i:Int)<((nth f.blocks b).ins.length:Int);omega)];rfl
theorem tA{f:aq}{m:MW}:lC f m (endT f b)=endS f.blocks.length b (nth f.blocks b) m:=by unfold lC;rw[if_neg (show ¬(endT f b).place<0 by show ¬((nth f.blocks b).ins.length:Int)<0;omega),if_neg (show ¬(endT f b).place<((gm f (endT f b)).ins.length:Int) by show ¬((nth f.blocks b).ins.length:Int)<((nth f.blocks b).ins.length:Int);omega)];rfl
theorem GB{f:aq}{m:MW}:blkS f b m=(thB f b).foldlM (lC f) m:=by
 unfold blkS thB;rw[nm (f:=lC f) (x:=phiT f b) (n:=(nth f.blocks b).phis.length) λi s hi=>tF.symm];rw[jH,jH];cases (rows (phiT f b) (nth f.blocks b).phis.length).foldlM (lC f) m with
 | error e=>rfl
 | ok m1=>
  simp only;rw[nm (f:=lC f) (x:=insT f b) (n:=(nth f.blocks b).ins.length) λi s hi=>(tB hi).symm];cases (rows (insT f b) (nth f.blocks b).ins.length).foldlM (lC f) m1 with
  | error e=>rfl
  | ok m2=>simp only;rw[rm];exact tA.symm
theorem wD{f:aq}{m:MW}:mg f m=(aS f).foldlM (lC f) m:=by
 have key : ∀n,upE (blkS f) n m=(thTo f n).foldlM (lC f) m:=by
  intro n;induction n with
  | zero=>rfl
  | succ n ih=>
   rw[fJ,jH,<-ih];simp only[upE];cases upE (blkS f) n m with
   | error e=>rfl
   | ok s=>exact GB
 exact key _
theorem qK{f:aq}:lT f=(aS f).foldlM (λm t=>jF f t m) (List.replicate 8192 QG):=oZ (f:=fun(m:BL) (t:Th)=>jF f t m)
def uR(m:MW)(l:BL):Prop:=l.length=8192/\∀n:Int,0<=n->n<8192->(m n).isSome=nth l n.toNat
def Alike{α β:Type}(R:α->β->Prop):Except Tr α->Except Tr β->Prop
 | .ok a,.ok b=>R a b
 | .error e,.error e'=>e=e'
 | _,_=>False
theorem rW{α β γ:Type}{R:α->β->Prop}{F:α->γ->Except Tr α}{G:β->γ->Except Tr β} : ∀{l:List γ},(∀t∈l,∀a b,R a b->Alike R (F a t) (G b t))->∀{a:α} {b:β},R a b->Alike R (l.foldlM F a) (l.foldlM G b)
 | [],_,a,b,h=>h
 | t::l,hs,a,b,h=>by
  rw[Ol,Ol];have:=hs t Ng a b h;cases e1:F a t with
  | error e=>
   cases e2:G b t with
   | error e'=>rw[e1,e2]at this;exact this
   | ok b'=>rw[e1,e2]at this;exact this.elim
  | ok a'=>
   cases e2:G b t with
   | error e'=>rw[e1,e2]at this;exact this.elim
   | ok b'=>rw[e1,e2]at this;exact rW (λt ht=>hs t (Nf _ ht)) this
theorem Fg{f:aq}:bT n f.params 8191=!mY f n:=by rw[NH];simp[bT,mY]
theorem C2{p:α->Bool}{l:List α}:l.all (λn=>!p n)=!l.any p:=by
 induction l with
 | nil=>rfl
 | cons a l ih=>simp[ih]
def kT(t:Th)(m:BL)(n:Int):Except Tr BL:=if nth m n.toNat then .error (12,t.blk,t.place) else .ok (m.set n.toNat QF)
theorem EE{f:aq}{t:Th}{m:MW}{l:BL}(h:uR m l)(hp:0<=f.params)(hn : ∀n∈t.mks,mY f n=QG):Alike uR (t.mks.foldlM (qY t.blk t.place) m) (upE (qA t) t.mks.length l):=by
 have e:upE (qA t) t.mks.length l=t.mks.foldlM (kT t) l:=oZ (f:=kT t);rw[e];refine rW (λn hnm m l h=>?_) h;have hb:=hn n hnm;simp only[mY,NV,decide_eq_false_iff_not]at hb;have hs:=h.2 n Q1 Q1;unfold qY kT;rw[hs];cases hc:nth l n.toNat with
 | true=>exact rfl
 | false=>
  refine⟨by simpa using h.1,λk h0 h1=>?_⟩;rw[aK (by rw[h.1];omega)];simp only[putM];by_cases hk:k=n
  ·subst hk;simp
  rw[if_neg hk,if_neg Q1];exact h.2 k h0 h1
theorem xI{f:aq}{t:Th}{m:MW}{l:BL}(h:uR m l)(hp:0<=f.params):
  Alike uR (allS f.params t.mks t.blk t.place m) (if t.mks.any (mY f) then .error (11,t.blk,t.place) else upE (qA t) t.mks.length l):=by
 unfold allS;have e:(t.mks.all λn=>bT n f.params 8191)=!t.mks.any (mY f):=by rw[<-C2];congr 1;funext n;exact Fg
 rw[e];cases hb:t.mks.any (mY f)with
 | true=>exact rfl
 | false=>refine EE h hp λn hn=>?_;rw[Pm];intro e2;rw[Pm]at hb;exact hb (Qi.2 ⟨n,hn,e2⟩)
theorem IF{x:InsD}:(bT x.op 1 18&&bT x.args.length (gL x.op).1 (gL x.op).2)=!lr x:=by
 rw[NH];simp only[lr,bT,gL,qd,M8,OE,NV,decide_eq_true_eq,decide_eq_false_iff_not,Bool.not_eq_false'];by_cases h1:x.op=1
 ·simp[h1]
 by_cases h2:x.op=15
 ·simp[h2];omega
 by_cases h3:x.op=17
 ·simp[h3]
 simp only[h1,h2,h3,if_false,decide_eq_true_eq];omega
theorem IW{f:aq}:bT n 1 ((f.blocks.length:Int)-1)=!v7 f n:=by rw[NH];simp[bT,v7];omega
theorem ET{t:cK}:pz t=iT t:=by
 unfold pz iT gA;by_cases h1:t.kind=1
 ·rw[NH];simp[putM,h1,bT];omega
 by_cases h2:t.kind=2
 ·rw[NH];simp[putM,h2,bT];omega
 by_cases h3:t.kind=3
 ·rw[NH];simp[putM,h3,bT];omega
 by_cases h4:t.kind=4
 ·rw[NH];simp[putM,h4,bT]
 by_cases h5:t.kind=5
 ·rw[NH];simp[putM,h5,bT]
 simp[putM,h1,h2,h3,h4,h5]
theorem uD{f:aq}{t:Th}{x:Except Tr BL}(h:jA f t=QG):nR f t x=x:=by
 unfold nR;cases x with
 | error e=>rfl
 | ok m=>simp only[h,Qs];rfl
theorem E7{f:aq}{t:Th}(ht:t∈aS f)(hp:0<=f.params){m:MW}{l:BL}(h:uR m l):Alike uR (lC f m t) (jF f t l):=by
 obtain⟨b,hb,ht⟩:=cO.1 ht;rcases dw.1 ht with⟨i,hi,rfl⟩ | ⟨i,hi,rfl⟩ | rfl
 ·have e1:np f (phiT f b i)=false:=by simp[np,phiT];omega
  have e2:jA f (phiT f b i)=false:=by show decide (-1-(i:Int)=((nth f.blocks b).ins.length:Int))=QG;rw[decide_eq_false_iff_not];omega
  rw[tF,jF,e1,e2,uD e2];exact xI (t:=phiT f b i) h hp
 ·have e1:np f (insT f b i)=true:=by simp[np,insT,gm];omega
  have e2:jA f (insT f b i)=false:=by show decide ((i:Int)=((nth f.blocks b).ins.length:Int))=QG;rw[decide_eq_false_iff_not];omega
  have e3:Bp f (insT f b i)=nth (nth f.blocks b).ins i:=by simp[Bp,gm,insT]
  rw[tB hi,jF,e1,e2,uD e2,e3,insS,IF];cases hb:lr (nth (nth f.blocks b).ins i)with
  | true=>exact rfl
  | false=>exact xI (t:=insT f b i) h hp
 have e1:np f (endT f b)=false:=by simp[np,endT,gm]
 have e2:jA f (endT f b)=true:=by simp[jA,endT,gm]
 have e3:gm f (endT f b)=nth f.blocks b:=by simp[gm,endT]
 rw[tA,jF,e1,e2,e3,endS,ET];cases hb:iT (nth f.blocks b).term with
 | false=>exact rfl
 | true=>
  have e4:((nth f.blocks b).term.to.all λt=>bT t 1 ((f.blocks.length:Int)-1))=!(nth f.blocks b).term.to.any (v7 f):=by rw[<-C2];congr 1;funext n;exact IW
  rw[e4];show Alike uR _ (nR f (endT f b) (.ok l));unfold nR;rw[e2,e3];cases (nth f.blocks b).term.to.any (v7 f)with
  | true=>exact rfl
  | false=>exact h
theorem BN{f:aq}(hp:0<=f.params):Alike uR (mg f (λ_=>QC)) (lT f):=by rw[wD,qK];refine rW (λt ht m l h=>E7 ht hp h) ⟨NM ..,λn h0 h1=>?_⟩;rw[ao (by rw[NM];omega),Ql];rfl
def BZ(t:Th):Option (Int × Int):=if t.blk<0 then QC else QB (t.blk,t.place)
structure Site(m:MW)(s:List Th):Prop where
 len:s.length=8192
 inn : ∀n:Int,0<=n->n<8192->m n=BZ (nth s n.toNat)
 out : ∀n:Int,¬(0<=n/\n<8192)->m n=QC
theorem zX{t:Th}(hb:0<=t.blk) : ∀{l:List Int} {m:MW} {s:List Th},Site m s->(∀n∈l,0<=n/\n<8192)->Site (l.foldl (λm n=>putM m n (t.blk,t.place)) m) (l.foldl (fY t) s)
 | [],m,s,h,_=>h
 | n::l,m,s,h,hl=>by
  rw[NF,NF];have hn:=hl n Ng;refine zX hb ⟨od.trans h.len,λk h0 h1=>?_,λk hk=>?_⟩ λk hk=>hl k (Nf _ hk)
  ·unfold fY putM;rw[if_pos hn,aK (by rw[h.len];omega)];by_cases e:k=n
   ·subst e;rw[if_pos rfl,if_pos rfl];unfold BZ;rw[if_neg Q1]
   rw[if_neg e,if_neg Q1];exact h.inn k h0 h1
  unfold putM;rw[if_neg (by rintro rfl;exact hk hn)];exact h.out k hk
theorem AP{b p:Int} : ∀{l:List Int} {m m':MW},l.foldlM (qY b p) m = .ok m'->m'=l.foldl (λm n=>putM m n (b,p)) m
 | [],m,m',h=>by cases h;rfl
 | n::l,m,m',h=>by
  rw[Ol]at h;cases e:qY b p m n with
  | error t=>rw[e]at h;cases h
  | ok m1=>
   rw[e]at h;unfold qY at e;split at e
   ·cases e
   cases e;exact AP (l:=l) (m:=putM m n (b,p)) h
theorem Bc{ps b p:Int}{l:List Int}{m m':MW}(h:allS ps l b p m = .ok m'):m'=l.foldl (λm n=>putM m n (b,p)) m/\∀n∈l,ps<=n/\n<=8191:=by
 unfold allS at h;split at h
 ·rename_i ha;refine⟨AP h,λn hn=>?_⟩;have:=N1.1 ha n hn;simpa[bT]using this
 cases h
theorem Gs{f:aq}{t:Th}(ht:t∈aS f){m m':MW}(h:lC f m t = .ok m'):(m'=t.mks.foldl (λm n=>putM m n (t.blk,t.place)) m/\∀n∈t.mks,f.params<=n/\n<=8191)/\0<=t.blk:=by
 obtain⟨b,hb,ht⟩:=cO.1 ht;rcases dw.1 ht with⟨i,hi,rfl⟩ | ⟨i,hi,rfl⟩ | rfl
 ·rw[tF]at h;exact⟨Bc h,by show 0<=(b:Int);omega⟩
 ·rw[tB hi]at h;unfold insS at h;split at h
  ·exact⟨Bc h,by show 0<=(b:Int);omega⟩
  cases h
 rw[tA]at h;unfold endS at h;split at h
 ·split at h
  ·cases h;exact⟨⟨rfl,λn hn=>by cases hn⟩,by show 0<=(b:Int);omega⟩
  cases h
 cases h
theorem yB{f:aq}(hp:0<=f.params) : ∀{l:List Th},(∀t∈l,t∈aS f)->∀{m m':MW} {s:List Th},Site m s->l.foldlM (lC f) m = .ok m'->Site m' (l.foldl rJ s)
 | [],_,m,m',s,h,e=>by cases e;exact h
 | t::l,hl,m,m',s,h,e=>by
  rw[Ol]at e;cases e1:lC f m t with
  | error x=>rw[e1]at e;cases e
  | ok m1=>rw[e1]at e;obtain⟨⟨q1,q2⟩,q3⟩:=Gs (hl t Ng) e1;rw[NF];refine yB hp (λt ht=>hl t (Nf _ ht)) (m:=m1) ?_ e;rw[q1];exact zX q3 h λn hn=>by have:=q2 n hn;omega
theorem Fl{f:aq}(hp:0<=f.params){m:MW}(h:mg f (λ_=>QC) = .ok m):Site m (jx f):=by rw[wD]at h;refine yB hp (λt ht=>ht) ⟨NM ..,λn h0 h1=>?_,λn _=>rfl⟩ h;rw[ao (by rw[NM];omega),Ql];rfl
theorem wN{f:aq}{m:MW}{made:List Th}{away:List BL}{idom:List Int}{v blk place at_ told:Int}(hp:f.params<=8192)(hs:Site m made)(hd : ∀a:Int,0<=a->a<f.blocks.length->ez idom a blk=!nth (nth away a.toNat) blk.toNat)(hm : ∀i,i<8192->(nth made i).blk<f.blocks.length):useS f.params m idom v blk place at_ told=if(!jq f made away v blk at_) then .error (13,told,place) else .ok ():=by
 unfold useS;by_cases c1:0<=v/\v<f.params
 ·have e:jq f made away v blk at_=true:=by unfold jq;rw[if_pos c1]
  rw[if_pos c1,e];rfl
 rw[if_neg c1];by_cases c2:v<0\/8191<v
 ·have e:jq f made away v blk at_=false:=by unfold jq;rw[if_neg c1,if_pos (.inl c2)]
  rw[hs.out v Q1,e];rfl
 have e:jq f made away v blk at_=if(nth made v.toNat).blk<0 then QG else if(nth made v.toNat).blk=blk then decide ((nth made v.toNat).place<0)||decide ((nth made v.toNat).place<at_) else !nth (nth away (nth made v.toNat).blk.toNat) blk.toNat:=by
  unfold jq;rw[if_neg c1];by_cases c3:(nth made v.toNat).blk<0
  ·rw[if_pos (.inr c3),if_pos c3]
  rw[if_neg (by rintro(q | q)<;>contradiction),if_neg c3]
 rw[hs.inn v Q1 Q1,e];have hmb:=hm v.toNat Q1;generalize nth made v.toNat=t at hmb;unfold BZ;by_cases c3:t.blk<0
 ·rw[if_pos c3,if_pos c3];rfl
 rw[if_neg c3,if_neg c3];have e2:lJ (t.blk,t.place) idom blk at_=if t.blk=blk then decide (t.place<0)||decide (t.place<at_) else !nth (nth away t.blk.toNat) blk.toNat:=by
  unfold lJ;by_cases c4:t.blk=blk
  ·simp only[c4,decide_true,Qc,Bool.not_true,Qs,Bool.or_false,if_true];rw[Bool.or_comm]
  simp only[c4,decide_false,Qs,Bool.not_false,Qc,Qt,if_false];exact hd t.blk Q1 hmb
 simp only[e2];generalize (if t.blk=blk then decide (t.place<0)||decide (t.place<at_) else !nth (nth away t.blk.toNat) blk.toNat)=B;cases B<;>rfl
theorem xd[Inhabited α]{l:List α}{p:α->Bool}{e:Tr}{g:Nat->Except Tr Unit}(h : ∀j,j<l.length->g j=if p (nth l j) then .error e else .ok ()):uAll g l.length=if l.any p then .error e else .ok ():=by
 have h1:uAll g l.length=l.foldlM (fun(_:Unit) x=>if p x then Except.error e else .ok ()) ():=by
  unfold uAll;rw[<-oZ (f:=fun(_:Unit) x=>if p x then Except.error e else .ok ())];have key : ∀n,n<=l.length->upE (λi (_:Unit)=>g i) n ()=upE (λi (_:Unit)=>if p (nth l i) then Except.error e else .ok ()) n ():=by
   intro n;induction n with
   | zero=>exact λ_=>rfl
   | succ n ih=>intro hn;simp only[upE];rw[ih Q1,h n Q1]
  exact key _ (MY _)
 rw[h1];clear h1 h;induction l with
 | nil=>rfl
 | cons a l ih=>
  rw[Ol,List.any_cons];cases hp:p a with
  | true=>rfl
  | false=>rw[Qt];exact ih
theorem Ci{β:Type}{p q:Nat->Bool}{x:Nat->β}{n:Nat}(h : ∀a,a<n->p a=q a):sift p x n=sift q x n:=by rw[mR,mR];congr 1;exact PD λa ha=>h a (N0.1 ha)
theorem Cd{f:aq}(hb:b<f.blocks.length):nth (cw (ofG f.blocks)) b=aA f b:=by rw[pQ,kG,gq,eF hb,aA];refine Ci λa ha=>?_;rw[NH,dL,decide_eq_true_eq,M9];exact⟨λh=>h.2,λh=>⟨by omega,h⟩⟩
theorem EG{f:aq}{i:Nat}(hb:b<f.blocks.length):Bt (nth (nth f.blocks b).phis i) (nth (cw (ofG f.blocks)) b) b=sI f (phiT f b i):=by
 have e1:qW f (phiT f b i)=nth (nth f.blocks b).phis i:=by unfold qW gm phiT;simp only[M9];rw[show(-1-(-1-(i:Int))).toNat=i by omega]
 have e2:(phiT f b i).blk=(b:Int):=rfl;unfold Bt lq sI;rw[e1,e2,Cd hb];generalize nth (nth f.blocks b).phis i=x;generalize aA f b=row;rw[NH];simp only[M8,decide_eq_true_eq,Db,yq];constructor
 ·rintro⟨⟨h1,h2⟩,h3⟩;refine⟨by omega,NU Q8 λj hj hj2=>?_⟩;have:=h3 j (by simpa using hj);rw[ao hj2,ao (by simpa using hj)]at this;simpa using this
 rintro⟨h1,h2⟩;have hl:x.ins.length=row.length:=by rw[<-h2,Nr]
 refine⟨Q5,λj hj=>?_⟩;rw[<-h2,ao (l:=List.map InD.frm x.ins) (by rw[Nr];exact hj),ao hj];simp
theorem vC{f:aq}: ∀i,i<8192->(nth (jx f) i).blk<f.blocks.length:=λi hi=>EZ Q1 (λt ht=>by
 obtain⟨b,hb,ht⟩:=cO.1 ht;rcases dw.1 ht with⟨i,hi,rfl⟩ | ⟨i,hi,rfl⟩ | rfl
 ·show(b:Int)<_;omega
 ·show(b:Int)<_;omega
 show(b:Int)<_;omega) hi
section
variable{f:aq}{m:MW}{idom:List Int}(hp0:f.params<=8192)(hs:Site m (jx f))(hd : ∀a b:Int,0<=a->a<f.blocks.length->0<=b->b<f.blocks.length->ez idom a b=!nth (nth (iS f) a.toNat) b.toNat)
include hp0 hs hd
theorem Jm{i:Nat}(hb:b<f.blocks.length)(hi:i<(nth f.blocks b).phis.length):phiU f m idom (cw (ofG f.blocks)) b i=jm f (jx f) (iS f) (phiT f b i):=by
 have hf:=EG (f:=f) (i:=i) hb;have e1:qW f (phiT f b i)=nth (nth f.blocks b).phis i:=by unfold qW gm phiT;simp only[M9];rw[show(-1-(-1-(i:Int))).toNat=i by omega]
 have e3:jm f (jx f) (iS f) (phiT f b i)=if !sI f (phiT f b i) then .error (16,b,-1-i) else if(nth (nth f.blocks b).phis i).ins.any (stP f (jx f) (iS f)) then .error (13,b,-1-i) else .ok ():=by unfold jm;rw[if_neg (show ¬0<=(phiT f b i).place by show ¬0<=-1-(i:Int);omega),e1];rfl
 rw[e3];unfold phiU;simp only[hf];cases hss:sI f (phiT f b i)with
 | false=>rfl
 | true=>
  rw[if_pos rfl,if_neg Sb];refine xd λj hj=>?_;have hfr:0<=(nth (nth (nth f.blocks b).phis i).ins j).frm/\(nth (nth (nth f.blocks b).phis i).ins j).frm<f.blocks.length:=by unfold sI at hss;rw[e1]at hss;simp only[M8,decide_eq_true_eq]at hss;have hm:=NZ (f:=InD.frm) (bD hj);rw[hss.2]at hm;obtain⟨a,h1,_,h2⟩:=oJ.1 hm;omega
  rw[wN hp0 hs (λa h0 h1=>hd a _ h0 h1 hfr.1 hfr.2) vC];rfl
theorem Jq{i:Nat}(hb:b<f.blocks.length)(hi:i<(nth f.blocks b).ins.length):insU f m idom b i=jm f (jx f) (iS f) (insT f b i):=by
 have e3:jm f (jx f) (iS f) (insT f b i)=if(nth (nth f.blocks b).ins i).args.any (stT f (jx f) (iS f) (insT f b i)) then .error (13,b,i) else .ok ():=by unfold jm;rw[if_pos (show 0<=(insT f b i).place by show 0<=(i:Int);omega)];rfl
 rw[e3];unfold insU;refine xd λj hj=>?_;rw[wN hp0 hs (λa h0 h1=>hd a _ h0 h1 Q1 Q1) vC];rfl
theorem Je(hb:b<f.blocks.length):endU f m idom b=jm f (jx f) (iS f) (endT f b):=by
 have e3:jm f (jx f) (iS f) (endT f b)=if(nth f.blocks b).term.args.any (stT f (jx f) (iS f) (endT f b)) then .error (13,b,(nth f.blocks b).ins.length) else .ok ():=by unfold jm;rw[if_pos (show 0<=(endT f b).place by show 0<=((nth f.blocks b).ins.length:Int);omega)];rfl
 rw[e3];unfold endU;refine xd λj hj=>?_;rw[wN hp0 hs (λa h0 h1=>hd a _ h0 h1 Q1 Q1) vC];rfl
def stF(f:aq)(_:Unit)(t:Th):Except Tr Unit:=jm f (jx f) (iS f) t
theorem HX(hb:b<f.blocks.length):blkU f m idom (cw (ofG f.blocks)) b=(thB f b).foldlM (stF f) ():=by
 unfold blkU thB uAll;rw[nm (f:=stF f) (x:=phiT f b) (n:=(nth f.blocks b).phis.length) λi s hi=>Jm hp0 hs hd hb hi];rw[nm (f:=stF f) (x:=insT f b) (n:=(nth f.blocks b).ins.length) λi s hi=>Jq hp0 hs hd hb hi];rw[jH,jH,Je hp0 hs hd hb];cases (rows (phiT f b) (nth f.blocks b).phis.length).foldlM (stF f) ()with
 | error e=>rfl
 | ok m1=>
  obtain⟨⟩:=m1;cases hI:(rows (insT f b) (nth f.blocks b).ins.length).foldlM (stF f) ()with
  | error e=>simp only[andE,hI]
  | ok m2=>simp only[andE,hI];rw[rm];rfl
theorem DV:uAll (blkU f m idom (cw (ofG f.blocks))) f.blocks.length=Aa f:=by
 have key : ∀n,n<=f.blocks.length->uAll (blkU f m idom (cw (ofG f.blocks))) n=(thTo f n).foldlM (stF f) ():=by
  intro n;induction n with
  | zero=>exact λ_=>rfl
  | succ n ih=>
   intro hn;rw[fJ,jH,<-ih Q1];have e:uAll (blkU f m idom (cw (ofG f.blocks))) (n+1)=match uAll (blkU f m idom (cw (ofG f.blocks))) n with | .ok _=>blkU f m idom (cw (ofG f.blocks)) n | .error e=>.error e:=by show upE _ (n+1) ()=_;simp only[upE];unfold uAll;cases upE (λi (_:Unit)=>blkU f m idom (cw (ofG f.blocks)) i) n ()<;>rfl
   rw[e];cases uAll (blkU f m idom (cw (ofG f.blocks))) n with
   | error e=>rfl
   | ok s=>exact HX hp0 hs hd Q1
 rw[key _ (MY _)];exact(oZ (f:=stF f)).symm
end
theorem xK{f:aq} : ∀k,manyN f k=(ko f k:Int)
 | 0=>rfl
 | k+1=>by have ih:=xK (f:=f) k;unfold manyN at ih ⊢;rw[up,ih,ko];omega
theorem yd{σ ε:Type}{f g:Nat->σ->Except ε σ}{s:σ} : ∀{n:Nat},(∀i s,i<n->f i s=g i s)->upE f n s=upE g n s
 | 0,_=>rfl
 | n+1,h=>by
  simp only[upE];rw[yd (n:=n) λi s hi=>h i s Q1];cases upE g n s with
  | ok s'=>exact h n s' Q1
  | error e=>rfl
theorem Dr{f:Nat->Unit->Except Tr Unit} : ∀{n:Nat},upE f n () = .ok ()->∀i,i<n->f i () = .ok ()
 | n+1,h,i,hi=>by
  simp only[upE]at h;cases e:upE f n ()with
  | error t=>rw[e]at h;cases h
  | ok s=>
   rw[e]at h;rcases M0 i n with hlt | hge
   ·exact Dr e i hlt
   have:i=n:=by omega
   subst this;exact h
theorem F5{f:aq}(hn:0<f.blocks.length):uAll (tE f) f.blocks.length=wayE f:=by
 unfold uAll wayE;refine yd λb s hb=>?_;unfold tE;have e:decide ((b:Int)∈aY (ofG f.blocks))=nth (eJ f (-1)) b:=by rw[NH,decide_eq_true_eq,(kq (by rw[gq];exact hn)).mem,ic hb]
 rw[e]
theorem Gf{f:aq}(hn:0<f.blocks.length)(hw:wayE f = .ok ())(a b:Int)(h0:0<=a)(h1:a<f.blocks.length)(h2:0<=b)(h3:b<f.blocks.length):
  ez (qM (ofG f.blocks)) a b=!nth (nth (iS f) a.toNat) b.toNat:=by
 have hR : ∀x:Nat,x<f.blocks.length->Re (ofG f.blocks) (-1) x:=λx hx=>by
  have:=Dr hw x hx;rw[<-ic hx];split at this
  ·assumption
  cases this
 have hg:0<(ofG f.blocks).length:=by rw[gq];exact hn
 obtain⟨fp,C,l,hl,I⟩:=yv hg;have hi:qM (ofG f.blocks)=l:=by unfold qM;rw[hl];rfl
 rw[hi];have e:=sM I C (a:=a.toNat) (b:=b.toNat) (by rw[gq];omega) (hR _ Q1);rw[Nj h0,Nj h2]at e;rw[e,NH,pW];have ha:nth (iS f) a.toNat=eJ f a:=by unfold iS;rw[eF Q1,Nj h0]
 rw[ha];have hr:=ic (f:=f) (wo:=a) (b:=b.toNat) Q1;have haa:((a.toNat:Nat):Int)=a:=Nj h0;rw[haa];cases hc:nth (eJ f a) b.toNat with
 | true=>rw[hc]at hr;simp[hr.1 rfl]
 | false=>
  rw[hc]at hr;have hnr:¬Re (ofG f.blocks) a b.toNat:=λh=>by have:=hr.2 h;cases this
  simp[hnr,hR _ (show a.toNat<f.blocks.length by omega),hR _ (show b.toNat<f.blocks.length by omega)]
theorem yg(f:aq):mJ f=wL f:=by
 unfold mJ ma wL;by_cases c1:f.params<0\/4<f.params
 ·have:bT f.params 0 4=false:=by rw[Pm];simp[bT];omega
  rw[if_pos this,if_pos c1]
 have hw4:¬bT f.params 0 4=false:=by simp[bT];omega
 rw[if_neg hw4,if_neg c1];by_cases c2:f.blocks.length=0
 ·rw[if_pos c2,if_pos c2]
 rw[if_neg c2,if_neg c2];have hm:C3 f=(ko f f.blocks.length:Int):=xK _;by_cases c3:512<f.blocks.length\/4096<ko f f.blocks.length
 ·rw[if_pos (by rw[hm];omega),if_pos c3]
 rw[if_neg (by rw[hm];omega),if_neg c3];have hp:0<=f.params:=by omega
 have hsh:=BN hp;cases hS:mg f (λ_=>QC)with
 | error e=>
  cases hR:lT f with
  | ok l=>rw[hS,hR]at hsh;exact hsh.elim
  | error e'=>rw[hS,hR]at hsh;have hee:e=e':=hsh;subst hee;obtain⟨k,s',h1,_,h3⟩:=y5 hR;have:=(Ar h3).1;rw[if_pos (by show e.1≠0;omega)];rfl
 | ok m=>
  cases hR:lT f with
  | error e'=>rw[hS,hR]at hsh;exact hsh.elim
  | ok l=>
   rw[if_neg (by simp[yG])];have hs:=Fl hp hS;show(match tg f m (qM (ofG f.blocks))with | .ok _=>((0,0,0):Tr) | .error t=>t)=_;unfold tg;rw[F5 Q1];cases hW:wayE f with
   | error e=>rfl
   | ok s=>obtain⟨⟩:=s;have:=DV (f:=f) (m:=m) (idom:=qM (ofG f.blocks)) Q1 hs λa b h0 h1 h2 h3=>Gf Q1 hW a b h0 h1 h2 h3;show(match uAll (blkU f m (qM (ofG f.blocks)) (cw (ofG f.blocks))) f.blocks.length with | .ok _=>((0,0,0):Tr) | .error t=>t)=yG (Aa f);rw[this];cases Aa f<;>rfl
def Marks(m:BL)(S:Int->Prop):Prop:=m.length=8192/\∀n:Int,0<=n->n<8192->(nth m n.toNat=QF↔S n)
theorem CO:Marks (List.replicate 8192 QG) (λ_=>False):=⟨NM,λn h0 h1=>by rw[ay Q1];simp⟩
theorem yf{m:BL}{S:Int->Prop}(h:Marks m S)(h0:0<=n)(h1:n<8192):Marks (m.set n.toNat QF) (λk=>S k\/k=n):=by
 refine⟨by simpa using h.1,λk k0 k1=>?_⟩;rw[aK (by rw[h.1];omega)];split
 ·rename_i e;exact⟨λ_=>.inr Q1,λ_=>rfl⟩
 rename_i e;rw[h.2 k k0 k1];exact⟨.inl,λo=>o.resolve_right (by rintro rfl;exact e rfl)⟩
theorem Marks.congr{m:BL}{S T:Int->Prop}(h:Marks m S)(he : ∀n,S n↔T n):Marks m T:=⟨h.1,λn a b=>(h.2 n a b).trans (he n)⟩
theorem vj{t:Th} : ∀{l:List Int} {m m':BL} {S:Int->Prop},Marks m S->(∀n∈l,0<=n/\n<8192)->l.foldlM (kT t) m = .ok m'->Marks m' (λk=>S k\/k∈l)/\l.Nodup/\∀n∈l,¬S n
 | [],m,m',S,h,_,e=>by cases e;exact⟨h.congr λn=>by simp,PA,λn hn=>by cases hn⟩
 | a::l,m,m',S,h,hl,e=>by
  rw[Ol]at e;have ha:=hl a Ng;unfold kT at e;by_cases hc:nth m a.toNat=QF
  ·rw[if_pos hc]at e;cases e
  rw[if_neg hc]at e;obtain⟨g1,g2,g3⟩:=vj (yf h ha.1 ha.2) (λn hn=>hl n (Nf _ hn)) e;refine⟨g1.congr λn=>by rw[Nu,or_assoc],OO.2 ⟨λhm=>g3 a hm (.inr rfl),g2⟩,λn hn=>?_⟩;rcases Nu.1 hn with rfl | hn
  ·exact λhs=>hc ((h.2 n ha.1 ha.2).2 hs)
  exact λhs=>g3 n hn (.inl hs)
theorem vv{t:Th} : ∀{l:List Int} {m:BL} {S:Int->Prop},Marks m S->(∀n∈l,0<=n/\n<8192)->l.Nodup->(∀n∈l,¬S n)->∃m',l.foldlM (kT t) m = .ok m'
 | [],m,S,h,_,_,_=>⟨m,rfl⟩
 | a::l,m,S,h,hl,hd,hs=>by
  have ha:=hl a Ng;rw[Ol];unfold kT;rw[if_neg λhc=>hs a Ng ((h.2 a ha.1 ha.2).1 hc)];obtain⟨d1,d2⟩:=OO.1 hd;refine vv (yf h ha.1 ha.2) (λn hn=>hl n (Nf _ hn)) d2 λn hn=>?_;rintro(g | rfl)
  ·exact hs n (Nf _ hn) g
  exact d1 hn
structure oH(f:aq)(t:Th):Prop where
 op:np f t=QF->lr (Bp f t)=QG
 term:jA f t=QF->iT (gm f t).term=QF
 mks : ∀n∈t.mks,f.params<=n/\n<=8191
 to:jA f t=QF->∀n∈(gm f t).term.to,1<=n/\n<f.blocks.length
theorem Hk{t:Th}{m:BL}:upE (qA t) t.mks.length m=t.mks.foldlM (kT t) m:=oZ (f:=kT t)
theorem any_false{p:α->Bool}{l:List α}:l.any p=QG↔∀n∈l,p n=false:=by rw[List.any_eq_false];exact forall_congr' λn=>forall_congr' λ_=>by simp
theorem FF{f:aq}:mY f n=QG↔f.params<=n/\n<=8191:=by simp[mY]
theorem Ir{f:aq}:v7 f n=QG↔1<=n/\n<f.blocks.length:=by simp[v7]
theorem BE{f:aq}{t:Th}{m m':BL}(h:oH f t)(e:t.mks.foldlM (kT t) m = .ok m'):jF f t m = .ok m':=by
 unfold jF;rw[if_neg,if_neg,if_neg]
 ·rw[Hk,e];unfold nR;dsimp only;rw[if_neg];intro c;obtain⟨c1,c2⟩:=(M8 _ _).mp c;rw[any_false.2 λn hn=>Ir.2 (h.to c1 n hn)]at c2;cases c2
 ·rw[any_false.2 λn hn=>FF.2 (h.mks n hn)];exact Bool.false_ne_true
 ·intro c;obtain⟨c1,c2⟩:=(M8 _ _).mp c;rw[h.term c1]at c2;cases c2
 intro c;obtain⟨c1,c2⟩:=(M8 _ _).mp c;rw[h.op c1]at c2;cases c2
def jW(l:List Th):List Int:=l.flatMap Th.mks
theorem wG{f:aq}(hp:0<=f.params) : ∀{l:List Th} {m:BL} {S:Int->Prop},Marks m S->(∀t∈l,oH f t)->(jW l).Nodup->(∀n∈jW l,¬S n)->∃m',l.foldlM (λm t=>jF f t m) m = .ok m'
 | [],m,S,_,_,_,_=>⟨m,rfl⟩
 | t::l,m,S,h,hg,hd,hs=>by
  have g:=hg t Ng;obtain⟨d1,d2,d3⟩:=N3.1 (show(t.mks++jW l).Nodup from hd);have hr : ∀n∈t.mks,0<=n/\n<8192:=λn hn=>by have:=g.mks n hn;omega
  obtain⟨m1,e⟩:=vv (t:=t) h hr d1 λn hn=>hs n (NC _ hn);rw[Ol,BE g e];obtain⟨k1,_,_⟩:=vj h hr e;exact wG hp k1 (λx hx=>hg x (Nf _ hx)) d2 λn hn=>by
   rintro(q | q)
   ·exact hs n (NG _ hn) q
   exact d3 n q n hn rfl
def kZ(f:aq)(v b p:Int):Prop:=(0<=v/\v<f.params)\/∃t∈aS f,v∈t.mks/\(t.blk=b/\(t.place<0\/t.place<p)\/t.blk≠b/\¬Re (ofG f.blocks) t.blk b.toNat)
structure HA(ts:List Th)(s:List Th):Prop where
 len:s.length=8192
 is : ∀n:Int,0<=n->n<8192->(nth s n.toNat=noTh/\∀t∈ts,n∉t.mks)\/(nth s n.toNat∈ts/\n∈(nth s n.toNat).mks)
theorem Bu{t:Th}{ts:List Th} : ∀{l:List Int} {s:List Th} {d:List Int},(∀n∈l,n∈t.mks)->(s.length=8192/\∀n:Int,0<=n->n<8192->(nth s n.toNat=noTh/\(∀t∈ts,n∉t.mks)/\n∉d)\/(nth s n.toNat∈ts++[t]/\n∈(nth s n.toNat).mks))->
  ((l.foldl (fY t) s).length=8192/\∀n:Int,0<=n->n<8192->(nth (l.foldl (fY t) s) n.toNat=noTh/\(∀t∈ts,n∉t.mks)/\n∉d++l)\/(nth (l.foldl (fY t) s) n.toNat∈ts++[t]/\n∈(nth (l.foldl (fY t) s) n.toNat).mks))
 | [],s,d,_,h=>by simpa using h
 | a::l,s,d,hl,h=>by
  rw[NF];have:=Bu (t:=t) (ts:=ts) (l:=l) (s:=fY t s a) (d:=d++[a]) (λn hn=>hl n (Nf _ hn)) ⟨by rw[od];exact h.1,λn h0 h1=>?_⟩
  ·simpa using this
  unfold fY;split
  ·rw[aK (by rw[h.1];omega)];split
   ·rename_i hc e;have:n=a:=by omega
    subst this;exact .inr ⟨NG _ (MZ.2 rfl),hl n Ng⟩
   rename_i hc e;rcases h.2 n h0 h1 with⟨a1,a2,a3⟩ | a1
   ·refine .inl ⟨a1,a2,?_⟩;rw[M1,MZ];rintro(q | rfl)
    ·exact a3 q
    exact e rfl
   exact .inr a1
  rename_i hc;rcases h.2 n h0 h1 with⟨a1,a2,a3⟩ | a1
  ·refine .inl ⟨a1,a2,?_⟩;rw[M1,MZ];rintro(q | rfl)
   ·exact a3 q
   exact hc ⟨h0,h1⟩
  exact .inr a1
theorem AD : ∀{l ts s:List Th},HA ts s->HA (ts++l) (l.foldl rJ s)
 | [],ts,s,h=>by simpa using h
 | t::l,ts,s,h=>by
  rw[NF];have:=Bu (t:=t) (ts:=ts) (l:=t.mks) (s:=s) (d:=[]) (λn hn=>hn) ⟨h.len,λn h0 h1=>(h.is n h0 h1).elim (λa=>.inl ⟨a.1,a.2,O3⟩) λa=>.inr ⟨NC _ a.1,a.2⟩⟩;have:=AD (l:=l) (ts:=ts++[t]) (s:=rJ s t) ⟨this.1,λn h0 h1=>(this.2 n h0 h1).elim (λa=>.inl ⟨a.1,λx hx=>?_⟩) .inr⟩
  ·simpa using this
  rcases M1.1 hx with hx | hx
  ·exact a.2.1 x hx
  rw[MZ.1 hx];simpa using a.2.2
theorem D8{f:aq}:HA (aS f) (jx f):=
 AD (l:=aS f) (ts:=[]) (s:=List.replicate 8192 noTh) ⟨NM,λn h0 h1=>.inl ⟨ay Q1,λt ht=>by cases ht⟩⟩
theorem oI{f:aq}{t:Th}(h:t∈aS f):0<=t.blk/\t.blk<f.blocks.length:=by obtain⟨b,hb,ht⟩:=cO.1 h;rcases dw.1 ht with⟨i,hi,rfl⟩ | ⟨i,hi,rfl⟩ | rfl<;>exact⟨N6 _,Int.ofNat_lt.2 hb⟩
theorem Jj{f:aq}{a b:Int}(h0:0<=a)(h1:a<f.blocks.length)(h2:0<=b)(h3:b<f.blocks.length):nth (nth (iS f) a.toNat) b.toNat=QF↔Re (ofG f.blocks) a b.toNat:=by unfold iS;rw[eF Q1,Nj h0];exact ic Q1
theorem zU : ∀{l:List Th},(jW l).Nodup->∀{t t':Th} {v:Int},t∈l->t'∈l->v∈t.mks->v∈t'.mks->t=t'
 | a::l,hd,t,t',v,h,h',hv,hv'=>by
  obtain⟨d1,d2,d3⟩:=N3.1 (show(a.mks++jW l).Nodup from hd);rcases Nu.1 h with e1 | h1
  ·rcases Nu.1 h' with e2 | h2
   ·rw[e1,e2]
   exact absurd rfl (d3 v (by rw[<-e1];exact hv) v (Om.2 ⟨t',h2,hv'⟩))
  rcases Nu.1 h' with e2 | h2
  ·exact absurd rfl (d3 v (by rw[<-e2];exact hv') v (Om.2 ⟨t,h1,hv⟩))
  exact zU d2 h1 h2 hv hv'
theorem yl{f:aq}{v b p:Int}(hd:(jW (aS f)).Nodup)(hr : ∀t∈aS f,∀n∈t.mks,0<=n/\n<=8191)(hb0:0<=b)(hb1:b<f.blocks.length)(h:kZ f v b p):jq f (jx f) (iS f) v b p=true:=by
 unfold jq;rcases h with c | ⟨t,ht,hv,h⟩
 ·rw[if_pos c]
 split
 ·rfl
 have hn:=hr t ht v hv;have hat:=oI ht;have e:nth (jx f) v.toNat=t:=by
  rcases D8.is v hn.1 Q1 with⟨_,a⟩ | ⟨a,b⟩
  ·exact absurd hv (a t ht)
  exact zU hd a ht b hv
 rw[e,if_neg Q1];rcases h with⟨h1,h2⟩ | ⟨h1,h2⟩
 ·rw[if_pos h1];simpa using h2
 rw[if_neg h1];cases ec:nth (nth (iS f) t.blk.toNat) b.toNat with
 | false=>rfl
 | true=>exact absurd ((Jj hat.1 hat.2 hb0 hb1).1 ec) h2
structure jf(f:aq):Prop where
 params:0<=f.params/\f.params<=4
 blocks:0<f.blocks.length/\f.blocks.length<=512
 cnt:ko f f.blocks.length<=4096
 good : ∀t∈aS f,oH f t
 nodup:(jW (aS f)).Nodup
 way : ∀b:Nat,b<f.blocks.length->Re (ofG f.blocks) (-1) b
 takes : ∀t∈aS f,0<=t.place->∀v∈t.tks,kZ f v t.blk t.place
 phi : ∀b i:Nat,b<f.blocks.length->i<(nth f.blocks b).phis.length->0<b/\(nth (nth f.blocks b).phis i).ins.map InD.frm=aA f b/\∀p∈(nth (nth f.blocks b).phis i).ins,kZ f p.val p.frm (oU f p.frm)
theorem nc{f:aq}{b x:Int}:x∈aA f b↔(0<=x/\x<f.blocks.length)/\b∈(nth f.blocks x.toNat).term.to:=by
 unfold aA;rw[oJ];constructor
 ·rintro⟨a,ha,hb,rfl⟩;exact⟨Q5,by simpa using hb⟩
 rintro⟨⟨h0,h1⟩,h⟩;exact⟨x.toNat,by omega,by simpa using h,by omega⟩
theorem wC{g:Nat->Unit->Except Tr Unit} : ∀{n:Nat},(∀i,i<n->g i () = .ok ())->upE g n () = .ok ()
 | 0,_=>rfl
 | n+1,h=>by simp only[upE];rw[wC λi hi=>h i Q1];exact h n Q1
theorem FD{f:aq}{t:Th}:jm f (jx f) (iS f) t = .ok ()↔
  (0<=t.place/\∀v∈t.tks,jq f (jx f) (iS f) v t.blk t.place=QF)\/(t.place<0/\sI f t=QF/\∀p∈(qW f t).ins,jq f (jx f) (iS f) p.val p.frm (oU f p.frm)=QF):=by
 unfold jm;by_cases h0:0<=t.place
 ·rw[if_pos h0];have hn:¬t.place<0:=by omega
  simp only[h0,hn,true_and,false_and,or_false];cases e:t.tks.any (stT f (jx f) (iS f) t)with
  | true=>
   obtain⟨v,hv,hs⟩:=Qi.1 e;constructor
   ·intro h;cases h
   intro h;unfold stT at hs;rw[h v hv]at hs;cases hs
  | false=>
   constructor
   ·intro _ v hv;have:=any_false.1 e v hv;simpa[stT]using this
   intro _;rfl
 rw[if_neg h0];have hn:t.place<0:=by omega
 simp only[h0,hn,true_and,false_and,false_or];cases e1:sI f t with
 | false=>simp
 | true=>
  rw[if_neg Sb];cases e:(qW f t).ins.any (stP f (jx f) (iS f))with
  | true=>
   obtain⟨v,hv,hs⟩:=Qi.1 e;constructor
   ·intro h;cases h
   rintro⟨_,h⟩;unfold stP at hs;rw[h v hv]at hs;cases hs
  | false=>
   constructor
   ·intro _;refine⟨rfl,λv hv=>?_⟩;have:=any_false.1 e v hv;simpa[stP]using this
   intro _;rfl
theorem Gj{f:aq}{i:Nat}:qW f (phiT f b i)=nth (nth f.blocks b).phis i:=by unfold qW gm phiT;dsimp only;rw[M9];congr 1;omega
theorem BU{f:aq}(h:jf f):mJ f=(0,0,0):=by
 rw[yg];have hp:=h.params;have hb:=h.blocks;have hc:=h.cnt;have hr : ∀t∈aS f,∀n∈t.mks,0<=n/\n<=8191:=λt ht n hn=>by have:=(h.good t ht).mks n hn;omega
 unfold wL;rw[if_neg Q1,if_neg Q1,if_neg Q1];obtain⟨m,hm⟩:=wG (f:=f) Q1 CO h.good h.nodup λ_ _=>id;rw[qK,hm,if_neg (by simp[yG])];have hw:wayE f = .ok ():=wC λi hi=>if_pos ((ic hi).2 (h.way i hi));have hu:Aa f = .ok ():=wC λi hi=>by
  have ht:=bD hi;generalize nth (aS f) i=t at ht;rw[FD];have hat:=oI ht;by_cases h0:0<=t.place
  ·exact .inl ⟨h0,λv hv=>yl h.nodup hr hat.1 hat.2 (h.takes t ht h0 v hv)⟩
  refine .inr ⟨by omega,?_⟩;obtain⟨b,hb,hm⟩:=cO.1 ht;rcases dw.1 hm with⟨i,hi,rfl⟩ | ⟨i,hi,rfl⟩ | rfl
  ·obtain⟨k1,k2,k3⟩:=h.phi b i hb hi;unfold sI;rw[Gj];refine⟨(M8 _ _).mpr ⟨decide_eq_true (by show(0:Int)<b;omega),decide_eq_true k2⟩,λp hp=>?_⟩;have hm:p.frm∈aA f b:=by rw[<-k2];exact NZ hp
   have:=(nc.1 hm).1;exact yl h.nodup hr this.1 this.2 (k3 p hp)
  ·exact absurd (N6 _) h0
  exact absurd (N6 _) h0
 rw[hw,hu];rfl
structure Wy(f:aq)(P:Int->Prop)(frm:Int)(b:Nat):Prop where
 lt:b<f.blocks.length
 way:(frm=-1/\b=0)\/(P frm/\0<=frm/\frm<f.blocks.length/\(b:Int)∈(nth f.blocks frm.toNat).term.to/\∀c:Int,¬P c->Re (ofG f.blocks) c frm.toNat)
def Sa(f:aq)(P:Int->Prop)(v:Int):Prop:=(0<=v/\v<f.params)\/∃t∈aS f,v∈t.mks/\P t.blk
theorem Ax{f:aq}(h:0<f.blocks.length){P:Int->Prop}:Wy f P (-1) 0:=⟨h,.inl ⟨rfl,rfl⟩⟩
section
variable{f:aq}{P:Int->Prop}{frm:Int}{b:Nat}
theorem Wy.re(w:Wy f P frm b){c:Int}(hc:¬P c)(hb:(b:Int)≠c):Re (ofG f.blocks) c b:=by
 have hl:=w.lt;rcases w.way with⟨_,rfl⟩ | ⟨h1,h2,h3,h4,h5⟩
 ·exact .root (by rw[gq];exact hl) (λe=>hb (by rw[e];rfl))
 refine .step (h5 c hc) ?_ hb;rw[dL];rw[Nj h2];exact⟨⟨h2,h3,by omega,by omega⟩,h4⟩
theorem Wy.go(m:jf f)(w:Wy f P frm b){c:Int}(hc:c∈(nth f.blocks b).term.to):1<=c/\c<f.blocks.length/\Wy f (λx=>P x\/x=b) b c.toNat:=by
 have ht:endT f b∈aS f:=cO.2 ⟨b,w.lt,dw.2 (.inr (.inr rfl))⟩;have hl:jA f (endT f b)=true:=by unfold jA gm endT;simp
 have h:=(m.good _ ht).to hl c (by unfold gm endT;simpa using hc);have hcn:((c.toNat:Nat):Int)=c:=Nj Q1;refine⟨h.1,h.2,by omega,.inr ⟨.inr rfl,N6 _,Int.ofNat_lt.2 w.lt,by rw[hcn];exact hc,λx hx=>?_⟩⟩;rw[M9];exact w.re (λh=>hx (.inl h)) (λe=>hx (.inr e.symm))
theorem Wy.phi(m:jf f)(w:Wy f P frm b){i:Nat}(hi:i<(nth f.blocks b).phis.length) :
  (∃p∈(nth (nth f.blocks b).phis i).ins,p.frm=frm)/\∀p∈(nth (nth f.blocks b).phis i).ins,p.frm=frm->Sa f P p.val:=by
 obtain⟨k1,k2,k3⟩:=m.phi b i w.lt hi;rcases w.way with⟨_,rfl⟩ | ⟨h1,h2,h3,h4,h5⟩
 ·omega
 have hm:frm∈aA f b:=nc.2 ⟨⟨h2,h3⟩,h4⟩;rw[<-k2]at hm;obtain⟨p,hp,e⟩:=ND.1 hm;refine⟨⟨p,hp,e⟩,?_⟩;rintro q hq rfl;rcases k3 q hq with c | ⟨t,ht,hv,g⟩
 ·exact .inl c
 refine .inr ⟨t,ht,hv,?_⟩;rcases g with⟨g,_⟩ | ⟨g1,g2⟩
 ·rw[g];exact h1
 exact Classical.byContradiction λhn=>g2 (h5 _ hn)
end
structure eI where
 callee:I32
 args:List I32
 deriving Inhabited
instance:Rep eI:=Rep.via λx=>Cat.mk x.callee x.args
structure RunS where
 vals:Int->Int
 e:Int
 v:Int
 mem:List I32
 calls:List eI
 st:Int
 ans:List I32
def setV(g:Int->Int)(k x:Int):Int->Int:=λq=>if q=k then x else g q
def bY(lim:Int)(s:RunS):RunS:=if s.e=0 then(if lim<=s.st then{ s with e:=3,v:=0 } else{ s with st:=s.st+1 }) else s
def jy(s:RunS)(x:InsD):Int:=IntKind.i32.wrap (nth (x.args.map s.vals) 0+x.imm.v)
def insR(s:RunS)(x:InsD):RunS:=
 if x.op=1 then{ s with vals:=setV s.vals x.dst x.imm.v }
 else if x.op=15 then{ s with vals:=setV s.vals x.dst (qJ s.mem (jy s x)),e:=if jt s.mem (jy s x) then s.e else 2,v:=if jt s.mem (jy s x) then s.v else -2 }
 else if x.op=16 then{ s with mem:=if jt s.mem (jy s x) then s.mem.set (jy s x).toNat ⟨nth (x.args.map s.vals) 1⟩ else s.mem,e:=if jt s.mem (jy s x) then s.e else 2,v:=if jt s.mem (jy s x) then s.v else -2 }
 else if x.op=17 then{ s with calls:=s.calls++[⟨x.imm,x.args.map λa=>⟨s.vals a⟩⟩],vals:=setV s.vals x.dst (match s.ans with | []=>0 | a::_=>a.v),ans:=s.ans.drop 1 }
 else if x.op=18 then{ s with vals:=setV (setV s.vals x.dst (IntKind.i32.wrap (wW (nth (x.args.map s.vals) 0) (nth (x.args.map s.vals) 1)))) x.two (IntKind.i32.wrap ((wW (nth (x.args.map s.vals) 0) (nth (x.args.map s.vals) 1)).fdiv (2 ^ 32))) }
 else{ s with vals:=setV s.vals x.dst (wdoS x.op (nth (x.args.map s.vals) 0) (nth (x.args.map s.vals) 1)),e:=if doOk x.op (nth (x.args.map s.vals) 1) then s.e else 2,v:=if doOk x.op (nth (x.args.map s.vals) 1) then s.v else -1 }
def toR(s:RunS)(t:cK):Int:=
 if t.kind=1 then nth t.to 0
 else if t.kind=2 then(if nth (t.args.map s.vals) 0≠0 then nth t.to 0 else nth t.to 1)
 else if t.kind=3 then nth t.to (min (IntKind.u32.wrap (nth (t.args.map s.vals) 0)) (t.to.length-1:Int)).toNat
 else 0
def eu(s:RunS)(t:cK):RunS:=
 if t.kind=4 then{ s with e:=1,v:=nth (t.args.map s.vals) 0 } else if t.kind=5 then{ s with e:=2,v:=t.imm.v } else s
def jP(p:PhiD)(frm:Int):Int:=match p.ins.find? λx=>decide (x.frm=frm)with | some x=>x.val | none=>0
def phiR(g:Int->Int)(frm:Int)(l:List PhiD):Int->Int:=l.foldl (λh p=>setV h p.dst (g (jP p frm))) g
def gT(s:RunS)(frm:Int)(l:List PhiD):RunS:={ s with vals:=phiR s.vals frm l }
def insL(lim:Int):List InsD->RunS->RunS
 | [],s=>s
 | x::l,s=>if(bY lim s).e=0 then insL lim l (insR (bY lim s) x) else bY lim s
def eV(lim:Int)(b:BlkD)(frm:Int)(s:RunS):RunS:=bY lim (insL lim b.ins (gT s frm b.phis))
def goR(f:aq)(lim:Int):Nat->Int->Int->RunS->RunS
 | 0,_,_,s=>s
 | n+1,at_,frm,s=>
  if(eV lim (nth f.blocks at_.toNat) frm s).e=0 then
   (if(eu (eV lim (nth f.blocks at_.toNat) frm s) (nth f.blocks at_.toNat).term).e=0 then goR f lim n (toR (eV lim (nth f.blocks at_.toNat) frm s) (nth f.blocks at_.toNat).term) at_ (eV lim (nth f.blocks at_.toNat) frm s)
   else eu (eV lim (nth f.blocks at_.toNat) frm s) (nth f.blocks at_.toNat).term)
  else eV lim (nth f.blocks at_.toNat) frm s
def qQ(n:Int)(args:List I32):Int->Int:=λq=>if 0<=q/\q<n then(nth args q.toNat).v else 0
structure cU where
 args:List I32
 mem:List I32
 ans:List I32
 steps:Int
instance:Rep cU:=Rep.via λx=>Cat.mk x.args (Cat.mk x.mem (Cat.mk x.ans x.steps))
def zy(f:aq)(i:cU):RunS:=⟨qQ (min i.args.length f.params) i.args,0,0,i.mem.take 4096,[],0,i.ans⟩
def runR(f:aq)(i:cU):RunS:=goR f i.steps (i.steps.toNat+1) 0 (-1) (zy f i)
def runL(vm:Value)(e v:Int)(mem cl:Value)(st:Int)(an:Value)(lim:Int):RawN 7:=RawN.mk [vm,Qy Qz e,Qy QA v,mem,cl,Qy Qz st,an,Qy Qz lim]
section
variable{W:View}{h:Heap}{o:Own}{k:Key}{B:Nat}{vm mem cl an:Value}{e v st lim:Int}
theorem ta{e2 v2:Int}(w:Owns W h o)(hk:o k=bx T.ja B (runL vm e v mem cl st an lim)):
  aw QH N.dW #[QT B,Qy Qz e2,Qy QA v2] h (λu h'=>Owns W h' (o.upd k (bx T.ja B (runL vm e2 v2 mem cl st an lim)))):=by refine ak (args:=[QT B,Qy Qz e2,Qy QA v2]) follows F.dW E.dW Q9 λKc hK=>?_;dsimp only[L.dW];simp;refine w.bG (n:=7) (i:=1) hk Q2 Q0 rfl rfl rfl λh1 w1 _=>?_;refine w1.bG (k:=k) (n:=7) (i:=2) Own.ah Q2 Q0 rfl rfl rfl λh2 w2 _=>?_;refine hK _ _ (w2.congr λq=>?_);unfold Own.upd;split<;>rfl
def qV(e st lim:Int):Int:=if e=0/\lim<=st then 3 else e
theorem Gk(w:Owns W h o)(hk:o k=bx T.ja B (runL vm e v mem cl st an lim))(hst:0<=st/\st<=1000000):
  aw QH N.dk #[QT B] h (λu h'=>u = .bool (decide (qV e st lim=0))/\Owns W h' (o.upd k (bx T.ja B (runL vm (qV e st lim) (if e=0/\lim<=st then 0 else v) mem cl (if qV e st lim=0 then st+1 else st) an lim)))):=by
 refine ak (args:=[QT B]) follows F.dk E.dk Q9 λKc hK=>?_;dsimp only[L.dk];have r1:aj (vw h) ⟨B,1,QC⟩=QB (Qy Qz e):=w.raw hk Q2;have r5:aj (vw h) ⟨B,5,QC⟩=QB (Qy Qz st):=w.raw hk Q2;have r7:aj (vw h) ⟨B,7,QC⟩=QB (Qy Qz lim):=w.raw hk Q2;refine ab λz hz=>?_;simp;subst hz;refine ab λz hz=>?_;refine ab λy hy=>?_;refine bz (vw h) Qw ?_;simp[r1,r5,r7];subst hy;by_cases c:e=0/\lim<=st
 ·have hs:qV e st lim=3:=by unfold qV;rw[if_pos c]
  simp[c.1,c.2];refine ag Q0 (ta w hk) ?_;rintro _ h1 w1;subst hz;have g1:aj (vw h1) ⟨B,1,QC⟩=QB (Qy Qz 3):=w1.raw (k:=k) (n:=7) Own.ah Q2;simp[g1];refine hK _ _ ⟨by rw[hs];rfl,w1.congr λq=>?_⟩;rw[hs,if_pos c];rfl
 have hs:qV e st lim=e:=by unfold qV;rw[if_neg c]
 have hc:(decide (e=0)&&decide (lim<=st))=false:=by simpa using c
 refine aV (by simp[hc]) ?_;simp;subst hz;rw[hs]at hK;refine ab λz hz=>?_;simp[r1];by_cases c0:e=0
 ·rw[if_neg c,if_pos c0]at hK;simp[c0];subst hz;refine ab λz hz=>?_;simp[r5];have ws:IntKind.i64.wrap (st+1)=st+1:=bu Q1 Q1;rw[ws];refine w.bG (n:=7) (i:=5) hk Q2 Q0 rfl rfl rfl λh1 w1 _=>?_;subst hz;simp;exact hK _ _ ⟨by simp[c0],w1⟩
 rw[if_neg c,if_neg c0]at hK;simp[c0];refine hK _ _ ⟨by simp[c0],w.congr λq=>?_⟩;unfold Own.upd;split
 ·rename_i e;rw[e,hk]
 rfl
end
theorem HR{u:Value}{d:PhiD}(h:Rd H u d): ∃vi,u = .agg #[Qy Qz d.dst,vi]/\I64 d.dst/\SlRd H vi d.ins:=by obtain⟨cs,rfl,c1,r1,e1,⟨rfl,hd⟩,vi,h2,h3⟩:=h;exact⟨vi,by rw[<-Array.toList_inj.1 ((by rw[e1,h2];rfl):cs.toList = #[Qy Qz d.dst,vi].toList)],hd,h3⟩
theorem CT{u:Value}{d:InsD}(h:Rd H u d): ∃va,u = .agg #[Qy Qz d.op,Qy Qz d.dst,Qy Qz d.two,va,Qy QA d.imm.v]/\(I64 d.op/\I64 d.dst/\I64 d.two/\-2147483648<=d.imm.v/\d.imm.v<=2147483647)/\SlRd H va d.args:=by obtain⟨cs,rfl,c1,r1,e1,⟨rfl,h1⟩,c2,r2,e2,⟨rfl,h2⟩,c3,r3,e3,⟨rfl,h3⟩,c4,r4,e4,⟨va,rfl,h4⟩,h5,h6⟩:=h;subst e4 e3 e2;exact⟨va,by rw[<-Array.toList_inj.1 ((by rw[e1,h5];rfl):cs.toList = #[Qy Qz d.op,Qy Qz d.dst,Qy Qz d.two,va,Qy QA d.imm.v].toList)],⟨h1,h2,h3,h6⟩,h4⟩
theorem A9{d:Int}{v:Value}{l:List InD}(h1:I64 d)(h2:SlRd H v l):Rd H (.agg #[Qy Qz d,v]) (PhiD.mk d l):=⟨_,rfl,[Qy Qz d],[v],rfl,⟨rfl,h1⟩,v,rfl,h2⟩
theorem Af{op d two:Int}{imm:I32}{v:Value}{l:List Int}(h:I64 op/\I64 d/\I64 two/\-2147483648<=imm.v/\imm.v<=2147483647)(h2:SlRd H v l):Rd H (.agg #[Qy Qz op,Qy Qz d,Qy Qz two,v,Qy QA imm.v]) (InsD.mk op d two l imm):=
 ⟨_,rfl,[Qy Qz op],_,rfl,⟨rfl,h.1⟩,[Qy Qz d],_,rfl,⟨rfl,h.2.1⟩,[Qy Qz two],_,rfl,⟨rfl,h.2.2.1⟩,[v],_,rfl,⟨v,rfl,h2⟩,rfl,h.2.2.2⟩
theorem vU{vp vi va vt:Value}{p:List PhiD}{i:List InsD}{a t:List Int}{kd:Int}{imm:I32}(h1:SlRd H vp p)(h2:SlRd H vi i)(h3:SlRd H va a)(h4:SlRd H vt t)(h5:I64 kd)(h6:-2147483648<=imm.v/\imm.v<=2147483647):Rd H (.agg #[vp,vi,Qy Qz kd,va,vt,Qy QA imm.v]) (BlkD.mk p i ⟨kd,a,t,imm⟩):=
 ⟨_,rfl,[vp],_,rfl,⟨vp,rfl,h1⟩,[vi],_,rfl,⟨vi,rfl,h2⟩,[Qy Qz kd],_,rfl,⟨rfl,h5⟩,[va],_,rfl,⟨va,rfl,h3⟩,[vt],_,rfl,⟨vt,rfl,h4⟩,rfl,h6⟩
theorem qh{β:Type}[Rep α][Rep β]{v:Value}{l:List α}{l2:List β}(h:SlRd H v l)(hn:Rep.n α=Rep.n β)(hl:l.length=l2.length)(hc : ∀i (h1:i<l.length) (h2:i<l2.length) cs,Rep.rd H cs l[i]->Rep.rd H cs l2[i]):SlRd H v l2:=by
 obtain⟨a,cap,rfl,h1,h2,h3⟩:=h;refine⟨a,cap,by rw[hl],by omega,by omega,?_⟩;rcases h3 with rfl | ⟨ad,rfl,hs,hat⟩
 ·left;exact Nl (by rw[<-hl];rfl)
 refine .inr ⟨ad,rfl,hs,λi hi=>?_⟩;obtain⟨cs,g1,g2⟩:=hat i Q1;rw[<-hn];exact⟨cs,g1,hc i Q1 hi cs g2⟩
theorem zZ{u:Value}{f:aq}(h:Rd H u f): ∃vb,u = .agg #[Qy Qz f.params,vb]/\I64 f.params/\SlRd H vb f.blocks:=by obtain⟨cs,rfl,c1,r1,e1,⟨rfl,h1⟩,vb,h2,h3⟩:=h;exact⟨vb,by rw[<-Array.toList_inj.1 ((by rw[e1,h2];rfl):cs.toList = #[Qy Qz f.params,vb].toList)],h1,h3⟩
theorem iH{a:Value}{v:Int}(ha:a.oneCell'=QF): ∀c∈[Qy Qz v,a],c.oneCell'=true:=by intro c hc;simp only[Nu,O3,or_false]at hc;rcases hc with rfl | rfl<;>first | rfl | exact ha
abbrev Q3:=Cat Int (Cat Int Int)
instance:Inhabited Q3:=⟨⟨0,0,0⟩⟩
end Go.Lft
namespace Go.Lft
open Go.MapKept
def two(a b:Int):Value:=.agg #[Qy Qz a,Qy Qz b]
variable{b:Int}
theorem yZ{a c d:Int}:two a b=two c d↔a=c/\b=d:=by simp[two]
structure Tw(P:Program)(k t:TypeId):Prop where
 hk:P.underlying k=QB (.array 2 t)
 ht:P.underlying t=QB (.int .i64)
 hs:P.cellsOf t=1
section
variable{P:Program}{k t:TypeId}{w:World}
theorem lW(q:Tw P k t){a:Int}{i:Nat}{v:Value}(hi:(#[Qy Qz a,Qy Qz b])[i]? = QB v):(Go.part t #[Qy Qz a,Qy Qz b] i).run P w = .ok v w:=
 run_part_plain w (by simp[Program.plainKey,q.ht]) hi
theorem qU(q:Tw P k t){e:Bool}{a:Int}{n:Nat}:(Instr.checkKey e (n+2) k (two a b)).run P w = .ok () w:=by obtain⟨i,hi⟩:=info_of_underlying q.ht;unfold Instr.checkKey two;simp only[Sem.run_bind,run_underlying q.hk,Result.andThen_ok];simp only[Std.Legacy.Range.forIn_eq_forIn_range',Std.Legacy.Range.size,Qj,Nat.add_one_sub_one,Nat.div_one];have h0:=lW (w:=w) q (a:=a) (b:=b) (i:=0) (v:=Qy Qz a) rfl;have h1:=lW (w:=w) q (a:=a) (b:=b) (i:=1) (v:=Qy Qz b) rfl;have hc : ∀x:Int,(Instr.checkKey e (n+1) t (Qy Qz x)).run P w = .ok () w:=λx=>MapKept.run_checkKey (d:=.int .i64) q.ht (gu (j:=x)) e n;simp[List.range',Go.run_sizeOf w hi,q.hs,h0,h1,hc,Result.andThen]
theorem vW(q:Tw P k t){a c d:Int}:(Op.equal k (two a b) (two c d)).run P w = .ok (decide (a=c/\b=d)) w:=by
 obtain⟨i,hi⟩:=info_of_underlying q.ht;unfold Op.equal two;rw[show Op.maxDepth=9998+1+1 from rfl,run_equalIn_array w _ _ _ q.hk hi,q.hs];have h0:=lW (w:=w) q (a:=a) (b:=b) (i:=0) (v:=Qy Qz a) rfl;have h1:=lW (w:=w) q (a:=a) (b:=b) (i:=1) (v:=Qy Qz b) rfl;have g0:=lW (w:=w) q (a:=c) (b:=d) (i:=0) (v:=Qy Qz c) rfl;have g1:=lW (w:=w) q (a:=c) (b:=d) (i:=1) (v:=Qy Qz d) rfl;have he : ∀x y:Int,(Op.equalIn (9998+1) t (Qy Qz x) (Qy Qz y)).run P w = .ok (x == y) w:=λx y=>run_equalIn_int w 9998 t .i64 .i64 x y q.ht;by_cases e1:a=c
 ·subst e1;by_cases e2:b=d
  ·subst e2;simp[List.range,List.range.loop,Op.eqItems,h0,h1,he,Result.andThen]
  simp[List.range,List.range.loop,Op.eqItems,h0,h1,g0,g1,he,e2,Result.andThen]
 simp[List.range,List.range.loop,Op.eqItems,h0,h1,g0,g1,he,e1,Result.andThen]
structure Map2(h:Heap)(r:Nat)(f:Int->Int->Option Value):Prop where
 ex : ∃es clock,h[r]? = QB (.map es clock)/\(∀x∈es.toList,∃a b,x.key=two a b)/\(∀(i j:Nat) (x y:MapEntry),es[i]? = QB x->es[j]? = QB y->x.key=y.key->i=j)/\∀a b v,(∃x∈es.toList,x.key=two a b/\x.val=v)↔f a b=QB v
theorem Map2.same{h h':Heap}{r:Nat}{f}(m:Map2 h r f)(e:h'[r]? = h[r]?):Map2 h' r f:=by obtain⟨es,c,h1,h2⟩:=m.ex;exact⟨es,c,by rw[e];exact h1,h2⟩
theorem Map2.ext{h h':Heap}{r:Nat}{f}(m:Map2 h r f)(hle:(vw h).le (vw h')):Map2 h' r f:=by obtain⟨es,c,h1,h2⟩:=m.ex;exact⟨es,c,hle _ _ h1,h2⟩
theorem Map2.none{h:Heap}{r:Nat}(hr:h[r]? = QB (.map #[] 0)):Map2 h r λ_ _=>.none:=
 ⟨#[],0,hr,by simp,by simp,by simp⟩
theorem JP(q:Tw P k t){a b:Int} : ∀(l:List MapEntry) (i:Nat),(∀x∈l,∃a b,x.key=two a b)->
  ((Instr.findAsking k (two a b) l i).run P w = .ok .none w/\∀x∈l,x.key≠two a b)\/∃j e,(Instr.findAsking k (two a b) l i).run P w = .ok (QB (i+j,e.val)) w/\l[j]? = QB e/\e.key=two a b
 | [],_,_=>.inl ⟨by simp[Instr.findAsking],by simp⟩
 | e::es,i,h=>by
  obtain⟨c,d,hcd⟩:=h e (.head _);by_cases hx:a=c/\b=d
  ·refine .inr ⟨0,e,?_,rfl,by rw[hcd,yZ];exact⟨hx.1.symm,hx.2.symm⟩⟩;simp[Instr.findAsking,hcd,vW q,hx,Result.andThen]
  have hne:e.key≠two a b:=λg=>hx (by rw[hcd,yZ]at g;exact⟨g.1.symm,g.2.symm⟩);have hs:(Instr.findAsking k (two a b) (e::es) i).run P w=(Instr.findAsking k (two a b) es (i+1)).run P w:=by simp[Instr.findAsking,hcd,vW q,hx,Result.andThen]
  rcases JP q es (i+1) (λx hx=>h x (.tail _ hx))with⟨h1,h2⟩ | ⟨j,e',h1,h2,h3⟩
  ·refine .inl ⟨by rw[hs,h1],λx hx=>?_⟩;cases hx with
   | head=>exact hne
   | tail _ hx=>exact h2 x hx
  exact .inr ⟨j+1,e',by rw[hs,h1];congr 3;omega,by simpa using h2,h3⟩
theorem yI(q:Tw P k t){a:Int}{l:List MapEntry}(h : ∀x∈l,∃a b,x.key=two a b):
  ((Instr.findKey k (two a b) l).run P w = .ok .none w/\∀x∈l,x.key≠two a b)\/∃j e,(Instr.findKey k (two a b) l).run P w = .ok (QB (j,e.val)) w/\l[j]? = QB e/\e.key=two a b:=by
 cases l with
 | nil=>exact .inl ⟨by simp[Instr.findKey,run_underlying q.hk,Instr.findNow,Result.andThen],by simp⟩
 | cons x l=>
  have hf:Instr.findNow (.array 2 t) (two a b) (x::l) 0 = .none:=by simp[Instr.findNow,Instr.sameNow,two]
  have he:(Instr.findKey k (two a b) (x::l)).run P w=(Instr.findAsking k (two a b) (x::l) 0).run P w:=by simp[Instr.findKey,run_underlying q.hk,hf,Result.andThen]
  rw[he];simpa using JP q (a:=a) (b:=b) (x::l) 0 h
end
section
variable{po:OP}{pp:PP}{P:Program}{k t e:TypeId}{ty mt:TypeId}{us:List (Nat × Value)}{h:Heap}{K:Value->Heap->Prop}{r:Nat}{f:Int->Int->Option Value}
theorem Bb{x y:Operand}{a:Int}{z:Value}(q:Tw P k t)(ht:P.underlying mt=QB (.map k e))(hz:(P.info? e).map (·.zero)=QB (QB z))(hx:asg us x = .map (QB r))(hy:asg us y=two a b)(m:Map2 h r f)(hk:K (.tuple #[(f a b).getD z,.bool (f a b).isSome]) h):step P (.lookup mt x y QF) ty us h K:=by
 obtain⟨es,c,h1,h2,h3,h4⟩:=m.ex;simp only[M5]at hz;obtain⟨i,hi,hz⟩:=hz;refine cH (bN λw hw=>⟨_,w,?_,Same.refl _,by rw[hw];exact hk⟩);have hz':(zeroValue e).run P w = .ok z w:=by simp[zeroValue,typeInfo,hi,hz]
 rw[<-hw]at h1;simp only[bg,execOp,hx,hy];have hc : ∀b',(Instr.checkKey b' 10000 k (two a b)).run P w = .ok () w:=λb'=>qU q (n:=9998);rcases yI (w:=w) q (a:=a) (b:=b) h2 with⟨g1,g2⟩ | ⟨j,x,g1,g2,g3⟩
 ·have hf:f a b = .none:=by
   cases hfu:f a b with
   | none=>rfl
   | some v=>obtain⟨x,hx,e1,_⟩:=(h4 a b v).2 hfu;exact absurd e1 (g2 x hx)
  simp[Instr.lookup,run_underlying ht,MapKept.run_getObj_map h1,hc,g1,Result.andThen,hf,hz']
 have hf:f a b=QB x.val:=(h4 a b x.val).1 ⟨x,Nv g2,g3,rfl⟩;simp[Instr.lookup,run_underlying ht,MapKept.run_getObj_map h1,hc,g1,Result.andThen,hf]
theorem IH{x y p:Operand}{a:Int}{v:Value}(q:Tw P k t)(ht:P.underlying mt=QB (.map k e))(hx:asg us x = .map (QB r))(hy:asg us y=two a b)(hp:asg us p=v)(m:Map2 h r f)(hn:f a b = .none)(hk : ∀h':Heap,h'.size=h.size->(∀b,b≠r->h'[b]? = h[b]?)->Map2 h' r (λc d=>if c=a/\d=b then QB v else f c d)->K undef h'):step P (.mapUpdate mt x y p) ty us h K:=by
 obtain⟨es,c,h1,h2,h3,h4⟩:=m.ex;refine cH (lX λw hw=>?_);subst hw;have hc : ∀b',(Instr.checkKey b' 10000 k (two a b)).run P w = .ok () w:=λb'=>qU q (n:=9998);have hoth:=(MapKept.heap_set (o':=.map (es.push { key:=two a b,val:=v,born:=c }) (c+1)) h1);rcases yI (w:=w) q (a:=a) (b:=b) h2 with⟨g1,g2⟩ | ⟨j,x,g1,g2,g3⟩
 ·refine⟨{ w with heap:=w.heap.setIfInBounds r (.map (es.push { key:=two a b,val:=v,born:=c }) (c+1)) },?_,Same.mI rfl rfl rfl Sb h1 Sb (λk _ hne=>hoth.2 k hne),hk _ Sb hoth.2 ⟨_,_,hoth.1,?_,?_,?_⟩⟩
  ·simp only[bg,execOp,hx,hy,hp];simp[Instr.mapUpdate,run_underlying ht,MapKept.run_getObj_map h1,hc,g1,MapKept.run_setObj_map _ h1,Result.andThen]
  ·intro x hx;simp only[OV,M1,MZ]at hx;rcases hx with hx | rfl
   ·exact h2 x hx
   exact⟨a,b,rfl⟩
  ·intro i j x y hi hj hxy;rw[OI]at hi hj;by_cases ei:i=es.size<;>by_cases ej:j=es.size
   ·omega
   ·rw[if_pos ei]at hi;rw[if_neg ej]at hj;cases hi;exact absurd hxy.symm (g2 y (by have:=Nv (l:=es.toList) (i:=j) (by simpa using hj);exact this))
   ·rw[if_neg ei]at hi;rw[if_pos ej]at hj;cases hj;exact absurd hxy (g2 x (by have:=Nv (l:=es.toList) (i:=i) (by simpa using hi);exact this))
   rw[if_neg ei]at hi;rw[if_neg ej]at hj;exact h3 i j x y hi hj hxy
  intro c' d' p;constructor
  ·rintro⟨x,hx,e1,e2⟩;simp only[OV,M1,MZ]at hx;rcases hx with hx | rfl
   ·rw[if_neg (λe=>g2 x hx (by rw[e1,e.1,e.2]))];exact(h4 c' d' p).1 ⟨x,hx,e1,e2⟩
   simp only[yZ]at e1 e2;rw[if_pos ⟨e1.1.symm,e1.2.symm⟩,e2]
  intro hp;by_cases hcd:c'=a/\d'=b
  ·rw[if_pos hcd]at hp;cases hp;exact⟨{ key:=two a b,val:=v,born:=c },by simp,by simp[hcd.1,hcd.2],rfl⟩
  rw[if_neg hcd]at hp;obtain⟨x,hx,e⟩:=(h4 c' d' p).2 hp;exact⟨x,by simp[show x∈es from by simpa using hx],e⟩
 have:=(h4 a b x.val).1 ⟨x,Nv g2,g3,rfl⟩;rw[hn]at this;cases this
end
theorem Owns.turn{W:View}{h h':Heap}{o:Own}{r:Nat}{x x':Obj}(w:Owns W h o)(hr:W r=QB x)(hx : ∀c T fz,x≠.cells c T fz)(hr':h'[r]? = QB x')(hs:h'.size=h.size)(ho : ∀k,k≠r->h'[k]? = h[k]?):Owns (W.set r x') h' o:=by
 have hle:W.dO.le (W.set r x'):=λb y hb=>by
  unfold View.set;split
  ·rename_i e;subst e;unfold View.dO at hb;rw[hr]at hb;cases x<;>first | (exact absurd rfl (hx _ _ _)) | cases hb
  exact View.rZ _ _ hb
 have hne : ∀{k i b},o k=QB i->i.v.ownBlock=QB b->b≠r:=λhk hb e=>by have:=w.av _ _ hk _ hb;rw[e,hr]at this;cases this
 refine⟨λb y hb=>?_,λk i hk=>?_,λk i hk b hb=>?_,w.dj⟩
 ·unfold View.set at hb;split at hb
  ·rename_i e;subst e;cases hb;exact hr'
  rename_i e;show h'[b]? = _;rw[ho b e];exact w.wle b y hb
 ·have h1:=w.own k i hk;have h2:@OwnT i.α i.rep (W.set r x') h i.e i.v i.l:=let ⟨b,xs,h1,h2⟩:=h1;⟨b,xs,h1,λj hj=>i.rep.mono hle (i.rep.dO (h2 j hj))⟩;exact @OwnT.same i.α i.rep _ _ _ _ _ _ h2 λb hb=>ho b (hne hk hb)
 unfold View.set;rw[if_neg (hne hk hb)];exact w.av k i hk b hb
section
open Go.MapKept Go.ChangeMaps
variable{po po2:OP}{pp:PP}
structure MV(d:TypeDesc)(W:View)(r:Nat)(f:Value->Option Value):Prop where
 ex : ∃es clock,W r=QB (.map es clock)/\(∀x∈es.toList,IsKey d x.key)/\Stamped es clock/\∀k v,IsKey d k->((∃x∈es.toList,x.key=k/\x.val=v)↔f k=QB v)
def Tn(rs:List Nat)(W W':View):Prop:=∀b,b∉rs->∀x,W b=QB x->W' b=QB x
section
variable{d:TypeDesc}{W W' W2 B:View}{h h':Heap}{r:Nat}{rs rs2:List Nat}{f g:Value->Option Value}{o:Own}
theorem MV.is(m:MV d W r f)(hw:W.le (vw h)):dI d h r f:=by obtain⟨es,c,h1,h2⟩:=m.ex;exact⟨es,c,hw _ _ h1,h2⟩
theorem MV.mono(m:MV d W r f)(hw:W.le W'):MV d W' r f:=by obtain⟨es,c,h1,h2⟩:=m.ex;exact⟨es,c,hw _ _ h1,h2⟩
theorem MV.of(m:dI d h r f)(hw:W r=h[r]?):MV d W r f:=by obtain⟨es,c,h1,h2⟩:=m.ex;exact⟨es,c,by rw[hw];exact h1,h2⟩
theorem MV.Lb(m:MV d W r f): ∃es c,W r=QB (.map es c):=by obtain⟨es,c,h1,_⟩:=m.ex;exact⟨es,c,h1⟩
theorem Tn.le(a:Tn rs W W')(h:B.le W)(hn : ∀b∈rs,B b=QC):B.le W':=λb x hx=>by
 by_cases e:b∈rs
 ·rw[hn b e]at hx;cases hx
 exact a b e x (h b x hx)
theorem Owns.BQ{P:Program}{ty t:TypeId}{us:List (Nat × Value)}{K:Value->Heap->Prop}(w:Owns W h o)(hk : ∀h' W',W.le W'->(vw h).le (vw h')->Owns W' h' o->W h.size=QC->MV d W' h.size (λ_=>QC)->K (.map (QB h.size)) h'):step P (.makeMap t .none) ty us h K:=by refine kE ?_;have q:=bA h (.map #[] 0);exact hk _ _ (bE w.wle) q (w.ext q) (View.cT w.wle (MY _)) (.of (h:=h.push (.map #[] 0)) (dI.none Sb) (by rw[gJ (MY _)]))
structure Ent(d:TypeDesc)(h:Heap)(r:Nat)(f:Value->Option Value)(u:Value)(st:Nat):Prop where
 ex : ∃(es:Array MapEntry) (clock j:Nat) (e:MapEntry),h[r]? = QB (.map es clock)/\(∀x∈es.toList,IsKey d x.key)/\Stamped es clock/\es[j]? = QB e/\e.born=st/\e.key=u/\∀k v,IsKey d k->k≠u->((∃x∈es.toList,x.key=k/\x.val=v)↔f k=QB v)
theorem find_born{l:List MapEntry}(hn:(l.map (·.born)).Nodup){j:Nat}{e0:MapEntry}(h:l[j]? = QB e0):l.findIdx? (λe=>((e.born:Nat):Int) == ((e0.born:Nat):Int))=QB j:=by
 induction l generalizing j with
 | nil=>simp at h
 | cons a r ih=>
  simp only[N8,OO]at hn;cases j with
  | zero=>simp only[List.getElem?_cons_zero,MX]at h;subst h;simp[List.findIdx?_cons]
  | succ j=>
   simp only[List.getElem?_cons_succ]at h;have hne:a.born≠e0.born:=λe1=>hn.1 (ND.2 ⟨e0,Nv h,e1.symm⟩);have hb:(((a.born:Nat):Int) == ((e0.born:Nat):Int))=false:=by simp only[beq_eq_false_iff_ne,ne_eq,Int.natCast_inj];exact hne
   rw[List.findIdx?_cons,hb];simp[ih hn.2 h]
theorem A3{P:Program}{ty t k e:TypeId}{us:List (Nat × Value)}{K:Value->Heap->Prop}{x y:Operand}{u z:Value}(ht:P.underlying t=QB (.map k e))(hd:P.underlying k=QB d)(hz:(P.info? e).map (·.zero)=QB (QB z))(hx:asg us x = .map (QB r))(hy:asg us y=u)(hu:IsKey d u)(m:dI d h r f)(hk : ∀h' v st,h'.size=h.size->(∀b,b≠r->h'[b]? = h[b]?)->Ent d h' r f u st->K (.tuple #[v,Qy Qz (st:Nat)]) h'):step P (.mapEntry t x y) ty us h K:=by
 obtain⟨es,c,h1,h2,h3,h4⟩:=m.ex;simp only[M5]at hz;obtain⟨i,hi,hz⟩:=hz;refine cH (bN λw hw=>?_);subst hw;have hz':(zeroValue e).run P w = .ok z w:=by simp[zeroValue,typeInfo,hi,hz]
 have set_ : ∀o',(∀b,b≠r->(w.heap.setIfInBounds r o')[b]? = w.heap[b]?)/\(w.heap.setIfInBounds r o')[r]? = QB o':=λo'=>⟨(MapKept.heap_set (o':=o') h1).2,(MapKept.heap_set (o':=o') h1).1⟩;rcases findNow_spec hu es.toList 0 h2 with⟨g1,g2⟩ | ⟨j,q,g1,g2,g3⟩
 ·refine⟨.tuple #[z,goInt c],{ w with heap:=w.heap.setIfInBounds r (.map (es.push { key:=u,val:=z,born:=c }) (c+1)) },?_,Same.mI rfl rfl rfl Sb h1 Sb (λk _ hne=>(set_ _).1 k hne),?_⟩
  ·simp only[bg,execOp,hx,hy];simp[Instr.mapEntry,run_underlying ht,MapKept.run_getObj_map h1,MapKept.run_checkKey hd hu,MapKept.run_findKey hd g1,hz',MapKept.run_setObj_map _ h1,Result.andThen]
  refine hk _ z c Sb (set_ _).1 ⟨_,_,es.size,{ key:=u,val:=z,born:=c },(set_ _).2,?_,stamped_push h3 g2,by simp,rfl,rfl,λp v hp hne=>?_⟩
  ·intro x hx;simp only[OV,M1,MZ]at hx;rcases hx with hx | rfl
   ·exact h2 x hx
   exact hu
  rw[<-h4 p v hp];constructor
  ·rintro⟨x,hx,e1,e2⟩;simp only[OV,M1,MZ]at hx;rcases hx with hx | rfl
   ·exact⟨x,hx,e1,e2⟩
   exact absurd e1.symm hne
  rintro⟨x,hx,e⟩;exact⟨x,by simp[show x∈es from by simpa using hx],e⟩
 have hj:es[j]? = QB q:=by simpa using g2
 have hsame:es.modify j (λe=>{ e with key:=u })=es:=by
  apply Array.ext_getElem?;intro i;rw[OM];by_cases e:j=i
  ·subst e;rw[if_pos rfl,hj];simp[<-g3]
  rw[if_neg e]
 refine⟨.tuple #[q.val,goInt q.born],{ w with heap:=w.heap.setIfInBounds r (.map es c) },?_,Same.mI rfl rfl rfl Sb h1 Sb (λk _ hne=>(set_ _).1 k hne),?_⟩
 ·simp only[bg,execOp,hx,hy];simp[Instr.mapEntry,run_underlying ht,MapKept.run_getObj_map h1,MapKept.run_checkKey hd hu,MapKept.run_findKey hd g1,hj,g3,MapKept.run_keyThatStays hu,hsame,MapKept.run_setObj_map _ h1,Result.andThen]
 exact hk _ q.val q.born Sb (set_ _).1 ⟨es,c,j,q,(set_ _).2,h2,h3,hj,rfl,g3,λp v hp hne=>h4 p v hp⟩
theorem xC{P:Program}{ty t:TypeId}{us:List (Nat × Value)}{K:Value->Heap->Prop}{x s q:Operand}{u v:Value}{st:Nat}(hx:asg us x = .map (QB r))(hs:asg us s = Qy Qz (st:Nat))(hq:asg us q=v)(m:Ent d h r f u st)(hg:g u=QB v)(hg2 : ∀j,j≠u->g j=f j)(hk : ∀h',h'.size=h.size->(∀b,b≠r->h'[b]? = h[b]?)->dI d h' r g->K undef h'):step P (.entryStore t x s q) ty us h K:=by
 obtain⟨es,c,j,e,h1,h2,h3,h4,h5,h6,h7⟩:=m.ex;refine cH (lX λw hw=>?_);subst hw;have hst:Stamped (es.modify j (λe'=>{ e' with val:=v })) c:=stamped_modify h3 _ _ (λ_ _=>rfl) (λe' _ he'=>rfl);have hj:es.toList[j]? = QB e:=by simpa using h4
 have hidx:es.findIdx? (λe=>((e.born:Nat):Int) == (st:Int))=QB j:=by have:=find_born h3.2.1 hj;rw[h5]at this;cases es;simpa using this
 have hget : ∀i y,(es.modify j (λe'=>{ e' with val:=v }))[i]? = QB y↔(i=j/\y={ e with val:=v })\/(i≠j/\es[i]? = QB y):=by
  intro i y;rw[OM];by_cases hij:i=j
  ·subst hij;rw[if_pos rfl,h4];simp[eq_comm]
  rw[if_neg (Ne.symm hij)];simp[hij]
 have huniq : ∀i y,es[i]? = QB y->y.key=u->i=j:=by
  intro i y hy hk;have hnd:=h3.2.2;have e1:(es.toList.map (·.key))[i]? = QB u:=by simp[hy,hk]
  have e2:(es.toList.map (·.key))[j]? = QB u:=by simp[h4,h6]
  obtain⟨l1,q1⟩:=Oq.1 e1;obtain⟨l2,q2⟩:=Oq.1 e2;exact(PK hnd).1 (q1.trans q2.symm)
 refine⟨{ w with heap:=w.heap.setIfInBounds r (.map (es.modify j λe=>{ e with val:=v }) c) },?_,Same.mI rfl rfl rfl Sb h1 Sb (λk _ hne=>(MapKept.heap_set h1).2 k hne),hk _ Sb (MapKept.heap_set h1).2 ⟨_,_,(MapKept.heap_set h1).1,?_,hst,?_⟩⟩
 ·simp only[bg,execOp,hx,hs,hq];simp[Instr.entryStore,MapKept.run_getObj_map h1,asInt,asIntOf,hidx,MapKept.run_setObj_map _ h1,Result.andThen]
 ·intro y hy;obtain⟨i,hi⟩:=OC hy;have hi:(es.modify j (λe'=>{ e' with val:=v }))[i]? = QB y:=by rw[NX]at hi;exact hi
  rcases(hget i y).1 hi with⟨_,rfl⟩ | ⟨_,g5⟩
  ·exact h2 e (Nv hj)
  exact h2 y (Nv (by simpa using g5))
 intro p val hp;constructor
 ·rintro⟨y,hy,e1,e2⟩;obtain⟨i,hi⟩:=OC hy;have hi:(es.modify j (λe'=>{ e' with val:=v }))[i]? = QB y:=by rw[NX]at hi;exact hi
  rcases(hget i y).1 hi with⟨_,rfl⟩ | ⟨g6,g5⟩
  ·have e1:e.key=p:=e1;have e2:v=val:=e2;rw[<-e1,h6,<-e2];exact hg
  have hne:p≠u:=λe=>g6 (huniq i y g5 (e1.trans e));rw[hg2 p hne];exact(h7 p val hp hne).1 ⟨y,Nv (by simpa using g5),e1,e2⟩
 intro hv;by_cases hpu:p=u
 ·subst hpu;rw[hg]at hv;cases hv;refine⟨{ e with val:=v },Nv (i:=j) ?_,h6,rfl⟩;rw[NX];exact(hget j _).2 (.inl ⟨rfl,rfl⟩)
 rw[hg2 p hpu]at hv;obtain⟨y,hy,e1,e2⟩:=(h7 p val hp hpu).2 hv;obtain⟨i,hi⟩:=OC hy;have hi':es[i]? = QB y:=by simpa using hi
 refine⟨y,Nv (i:=i) ?_,e1,e2⟩;rw[NX];refine(hget i y).2 (.inr ⟨λe0=>?_,hi'⟩);subst e0;rw[h4]at hi';cases hi';exact hpu (e1.symm.trans h6)
theorem Owns.Kt(w:Owns W h o)(m:MV d W r f)(hs:h'.size=h.size)(ho : ∀b,b≠r->h'[b]? = h[b]?)(m':dI d h' r g): ∃W',Owns W' h' o/\MV d W' r g/\Tn [r] W W':=by obtain⟨es,c,e1⟩:=m.Lb;obtain⟨es',c',e2,e3⟩:=m'.ex;refine⟨_,w.turn e1 (λ_ _ _=>Obj.noConfusion) e2 hs ho,⟨es',c',by unfold View.set;rw[if_pos rfl],e3⟩,λb hb y hy=>?_⟩;unfold View.set;rw[if_neg (by simpa using hb)];exact hy
end
end
end Go.Lft
namespace Go.Lft
variable{pp:PP}{P:Program}{Q:Post}{ρ:Env}{h:Heap}{kl:List Nat}{c:Nat}{e:E}{a b x:LC}
theorem fE{i:Nat}(hx:x.wp P (dU i Q) ρ h):LC.wp P (.block i x) Q ρ h:=hx
end Go.Lft
namespace Go.Lft
variable{pp:PP}{P:Program}{Q:Post}{ρ:Env}{h:Heap}{kl:List Nat}{c:Nat}{e:E}{a b x:LC}
def Slk(ρ:Env)(l:List (Nat × Value)):Prop:=∀p∈l,look ρ p.1=QB p.2
theorem j9{p:Nat × Value}{l:List (Nat × Value)}:Slk ρ (p::l)↔look ρ p.1=QB p.2/\Slk ρ l:=by unfold Slk;simp
theorem zK:Slk ρ []↔True:=by unfold Slk;simp
end Go.Lft
namespace Go.Lft
variable{pp:PP}{P:Program}{Q:Post}{ρ:Env}{h:Heap}{kl:List Nat}{c:Nat}{e:E}{a b x:LC}
end Go.Lft
namespace Go.Lft
def encI(n:Int):Value:=Qy QA n
abbrev IMap:=Int->Option Int
def de(g:IMap):Int->Int:=λq=>(g q).getD 0
def R32(g:IMap):Prop:=∀q,-2147483648<=de g q/\de g q<=2147483647
theorem BD{g:IMap}{q:Int}:(mapE encI g (Qy Qz q)).getD (Qy QA 0) = Qy QA (de g q):=by rw[ly];unfold de;cases g q<;>rfl
theorem Au{B r:Nat}{g:IMap}{l:List Int}{vl:Value}{h:Heap}(x0:aj (vw h) ⟨B,0,QC⟩=QB (.map (QB r)))(mm:dI (.int .i64) h r (mapE encI g))(hs:SlRd (vw h) vl l)(hl:l.length<=1000000)(hg:R32 g):
  aw QH N.cu #[QT B,vl] h (λu h'=>Mine nothing h h' nothing T.int32 u (l.map λa=>(⟨de g a⟩:I32))):=by
 refine ak (args:=[QT B,vl]) follows F.cu E.cu Q9 λK hK=>?_;dsimp only[L.cu];refine ab λz hz=>?_;simp;subst hz;refine ab λz hz=>?_;simp[hs.len];refine aJ [0,4,7,8,9] (fun(v:Value) k=>[QT B,v,vl,Qy Qz l.length,Qy Qz k])
  (λv k hx=>Mine nothing h hx nothing T.int32 v ((l.take k).map λa=>(⟨de g a⟩:I32))) l.length (QD QC 0 0)
  rfl Q1 rfl (Mine.start λ_ _ e=>nomatch e) (λ_ _=>rfl) (λv i h1 hk m=>by simp) ?_ ?_
 ·rintro v k hx hk m K2 hK2;have hk:k<l.length:=hk;have q:=hs.idx1 (k:=.i64) (i:=(k:Int)) rfl Q1 Q1;have p:=hs.int m.old (i:=k) hk;have rg:=hg (nth l k);simp at q p;refine fE ?_;refine ab λy hy=>?_;simp[q,p];subst hy;simp[ae m.old x0];refine tK (f:=mapE encI g) (z:=Qy QA 0) (k:=T.int) (e:=T.int32) (d:=.int .i64) (r:=r) (u:=Qy Qz (nth l k)) Q0 Q0 Q0 rfl rfl gu (mm.ext m.old) ?_;rw[BD];have hlen:((l.take k).map λa=>(⟨de g a⟩:I32)).length<=1000000:=by rw[Nr,Ny];omega
  refine m.push (u:=Qy QA (de g (nth l k))) (d:=⟨de g (nth l k)⟩) El.gz rfl (oL.2 ⟨rfl,rg⟩) Q1 Q1 Q4 Q4 λu v' h' m'=>?_;refine hK2 v' _ _ rfl rfl ?_;rw[Np hk,Ov,<-ao hk];exact m'
 rintro v hx m;rw[NQ]at m;simp;subst hz;simp;exact hK _ _ m
def mkL(vs:Value)(at_:Nat)(ps:Int)(vb:Value)(nx:Int)(vl:Value):List Value:=[vs,Qy Qz at_,Qy Qz ps,vb,Qy Qz nx,vl]
def rawV(s:List Int)(at_:Nat):Int:=if at_<s.length then nth s at_ else 0
def aB(s:List Int)(at_:Nat)(n:Int):Int:=((rawV s at_).tmod n+n).tmod n
theorem bc{s:List Int}{at_:Nat}{n:Int}(hn:0<n):0<=aB s at_ n/\aB s at_ n<n:=by have b1:=P1 (rawV s at_) hn;exact⟨Qp _ Q1,O8 _ hn⟩
theorem Jc{W:View}{h:Heap}{o:Own}{M at_:Nat}{vs vb vl:Value}{ps nx n:Int}{s:List Int}(w:Owns W h o)(hk:o (0,0)=bx T.aT M (RawN.mk (n:=5) (mkL vs at_ ps vb nx vl)))(hs:SlRd W vs s)(h1:at_<=1000000000)(hn:0<n)(hn2:n<=1000000000):
  aw QH N.bH #[QT M,Qy Qz n] h (λu h'=>u = Qy Qz (aB s at_ n)/\Owns W h' (o.upd (0,0) (bx T.aT M (RawN.mk (n:=5) (mkL vs (at_+1) ps vb nx vl))))):=by
 refine ak (args:=[QT M,Qy Qz n]) follows F.bH E.bH Q9 λK hK=>?_;have c0:aj (vw h) ⟨M,0,QC⟩=QB vs:=w.raw hk (i:=0) Q2;have c1:aj (vw h) ⟨M,1,QC⟩=QB (Qy Qz at_):=w.raw hk (i:=1) Q2;dsimp only[L.bH];refine ab λz hz=>?_;simp;subst hz;refine ab λz hz=>?_;simp;subst hz;refine ab λz hz=>?_;have hsl : ∀{Q:View},Un.ev Q .len vs=QB (Qy Qz s.length):=fun{Q}=>hs.len;refine zo (λρ h2=>h2=h/\I64 (rawV s at_)/\ρ=[(0,QT M),(1,Qy Qz n),(4,Qy Qz 0),(5,Qy Qz (rawV s at_))]) ?_ ?_
 ·intro K2 hK2;by_cases c:at_<s.length
  ·have hs2:=hs.mono w.wle;have hr:=hs.range (i:=at_) c;have e:rawV s at_=nth s at_:=if_pos c;rw[e]at hK2;simp(disch:=omega)[c0,c1,hsl,c,hs2.idx1 rfl,hs2.int Qw];exact hK2 _ _ ⟨rfl,hr,rfl⟩
  have e:rawV s at_=0:=if_neg c;rw[e]at hK2;simp[c0,c1,hsl,c];exact hK2 _ _ ⟨rfl,⟨Q2,Q2⟩,rfl⟩
 rintro _ h2 ⟨rfl,hx,rfl⟩;subst hz;refine ab λz hz=>?_;simp(disch:=omega)[c1];refine w.bG (k:=(0,0)) (n:=5) (i:=1) (e:=T.aT) (B:=M) (l:=mkL vs at_ ps vb nx vl) hk Q2 Q0 rfl rfl rfl λh3 w3 _=>?_;subst hz;have b1:=P1 (rawV s at_) hn;have b2:=O8 (rawV s at_) hn;have hw:IntKind.i64.wrap ((rawV s at_).tmod n+n)=(rawV s at_).tmod n+n:=bu Q1 Q1;have hne:¬n=0:=by omega
 simp[hw,hne];refine hK _ _ ⟨rfl,w3.congr λq=>?_⟩;rfl
theorem Bz{W:View}{h:Heap}{o:Own}{M at_:Nat}{vs vb vl:Value}{ps nx:Int}(w:Owns W h o)(hk:o (0,0)=bx T.aT M (RawN.mk (n:=5) (mkL vs at_ ps vb nx vl)))(h0:0<=nx)(h1:nx<=1000000000):
  aw QH N.bL #[QT M] h (λu h'=>u = Qy Qz nx/\Owns W h' (o.upd (0,0) (bx T.aT M (RawN.mk (n:=5) (mkL vs at_ ps vb (nx+1) vl))))/\∀X:View,X.le (vw h)->X M=QC->X.le (vw h')):=by refine ak (args:=[QT M]) follows F.bL E.bL Q9 λK hK=>?_;have c4:aj (vw h) ⟨M,4,QC⟩=QB (Qy Qz nx):=w.raw hk (i:=4) Q2;dsimp only[L.bL];refine ab λz hz=>?_;simp;subst hz;refine ab λz hz=>?_;simp(disch:=omega)[c4];refine w.bG (k:=(0,0)) (n:=5) (i:=4) (e:=T.aT) (B:=M) (l:=mkL vs at_ ps vb nx vl) hk Q2 Q0 rfl rfl rfl λh3 w3 hx3=>?_;have w3:Owns W h3 (o.upd (0,0) (bx T.aT M (RawN.mk (n:=5) (mkL vs at_ ps vb (nx+1) vl)))):=w3;have c5:aj (vw h3) ⟨M,4,QC⟩=QB (Qy Qz (nx+1)):=w3.raw Own.ah (i:=4) Q2;subst hz;simp(disch:=omega)[c5];exact hK _ _ ⟨by congr 1,w3,hx3⟩
variable{po:OP}
theorem Kx{P:Program}{t ty:TypeId}{us:List (Nat × Value)}{h:Heap}{K:Value->Heap->Prop}{x:Operand}{n:Int}(hx:asg us x = Qy Qz n)(hk:K (Qy Qz (IntKind.i64.wrap (-n))) h):step P (.unOp .neg t x) ty us h K:=by refine cH (bN λw hw=>⟨Qy Qz (IntKind.i64.wrap (-n)),w,?_,Same.refl _,by rw[hw];exact hk⟩);simp only[bg,execOp,hx];simp[Op.unary,Op.intArith]
end Go.Lft
namespace Go.Lft
structure MS where
 at_:Nat
 ps:Int
 blocks:List BlkD
 next:Int
 live:List Int
def MS.took(m:MS):MS:={ m with at_:=m.at_+1 }
def MS.aH(m:MS):MS:={ m with next:=m.next+1 }
structure BlkM where
 phis:Raw
 ins:Raw
 term:cK
instance:Rep BlkM:=Rep.via λd=>Cat.mk d.phis (Cat.mk d.ins d.term)
instance:Inhabited BlkM:=⟨⟨default,default,default⟩⟩
theorem BlkM.oy:Part BlkM Raw 0 BlkM.phis (λd x=>{ d with phis:=x }):=(Part.fst Part.all).via (λ_=>rfl) λ_ _=>rfl
theorem BlkM.pP:Part BlkM Raw 1 BlkM.ins (λd x=>{ d with ins:=x }):=(Part.snd (Part.fst Part.all)).via (λ_=>rfl) λ_ _=>rfl
theorem BlkM.mW:Part BlkM cK 2 BlkM.term (λd x=>{ d with term:=x }):=(Part.snd (Part.snd Part.all)).via (λ_=>rfl) λ_ _=>rfl
theorem AB{H:View}{cs:List Value}{d:BlkM}{p:List PhiD}{i:List InsD}(h:Rep.rd H cs d)(hp:SlRd H d.phis.v p)(hi:SlRd H d.ins.v i):Rep.rd H cs (BlkD.mk p i d.term):=by obtain⟨c1,r1,e1,⟨h1,_⟩,c2,r2,e2,⟨h2,_⟩,h3⟩:=h;have h1:c1=[d.phis.v]:=h1;have h2:c2=[d.ins.v]:=h2;exact⟨c1,r1,e1,⟨d.phis.v,h1,hp⟩,c2,r2,e2,⟨d.ins.v,h2,hi⟩,h3⟩
structure MkB(M:Nat)(vs:Value)(m:MS)(o:Own)(vb vl:Value)(lb:List BlkM):Prop where
 box:o (0,0)=bx T.aT M (RawN.mk (n:=5) (mkL vs m.at_ m.ps vb m.next vl))
 live:o (0,1)=it T.int vl m.live
 blk:o (0,2)=it T.a8 vb lb
 len:lb.length=m.blocks.length
 term : ∀i,i<m.blocks.length->(nth lb i).term=(nth m.blocks i).term
 phis : ∀i,i<m.blocks.length->o (1,i)=it T.dY (nth lb i).phis.v (nth m.blocks i).phis
 ins : ∀i,i<m.blocks.length->o (2,i)=it T.dT (nth lb i).ins.v (nth m.blocks i).ins
structure Mk(s:List Int)(M:Nat)(vs:Value)(W:View)(h:Heap)(o:Own)(m:MS):Prop where
 own:Owns W h o
 src:SlRd W vs s
 box : ∃vb vl lb,MkB M vs m o vb vl lb
def Nx(s:List Int)(M:Nat)(vs:Value)(W:View)(h:Heap)(o:Own)(m:MS):Prop:=∃W' o',W.le W'/\Mk s M vs W' h o' m/\∀k:Key,3<=k.1->o' k=o k
variable{s:List Int}{M:Nat}{vs:Value}{W:View}{h:Heap}{o:Own}{m:MS}
theorem Mk.nx(w:Mk s M vs W h o m):Nx s M vs W h o m:=⟨W,o,View.le_refl _,w,λ_ _=>rfl⟩
theorem Nx.trans{W':View}{o':Own}(hW:W.le W')(ho : ∀k:Key,3<=k.1->o' k=o k)(n:Nx s M vs W' h o' m):Nx s M vs W h o m:=by obtain⟨W2,o2,h1,h2,h3⟩:=n;exact⟨W2,o2,Qx hW h1,h2,λk hk=>(h3 k hk).trans (ho k hk)⟩
theorem MkB.at{vb vl:Value}{lb:List BlkM}(b:MkB M vs m o vb vl lb){at_:Nat}{next:Int}:MkB M vs { m with at_:=at_,next:=next } (o.upd (0,0) (bx T.aT M (RawN.mk (n:=5) (mkL vs at_ m.ps vb next vl)))) vb vl lb:=
 ⟨rfl,b.live,b.blk,b.len,b.term,λi hi=>b.phis i hi,λi hi=>b.ins i hi⟩
theorem nw{k:Key}{i:Option Lft.Item}(hk:k.1<3) : ∀q:Key,3<=q.1->o.upd k i q=o q:=λq hq=>Own.af λe=>by rw[e]at hq;omega
theorem iR{k:Key}{i j:Option Lft.Item}(q:Key):(o.upd k i).upd k j q=o.upd k j q:=by unfold Own.upd;split<;>rfl
theorem Mk.take(w:Mk s M vs W h o m){n:Int}(h1:m.at_<=1000000000)(hn:0<n)(hn2:n<=1000000000) :
  aw QH N.bH #[QT M,Qy Qz n] h (λu h'=>u = Qy Qz (aB s m.at_ n)/\∃o',Mk s M vs W h' o' m.took/\∀k:Key,3<=k.1->o' k=o k):=by obtain⟨vb,vl,lb,b⟩:=w.box;refine(Jc w.own b.box w.src h1 hn hn2).mono ?_;rintro u h' ⟨rfl,w2⟩;exact⟨rfl,_,⟨w2,w.src,vb,vl,lb,b.at⟩,nw Q2⟩
theorem Mk.fresh(w:Mk s M vs W h o m)(h0:0<=m.next)(h1:m.next<=1000000000) :
  aw QH N.bL #[QT M] h (λu h'=>u = Qy Qz m.next/\∃o',Mk s M vs W h' o' m.aH/\∀k:Key,3<=k.1->o' k=o k):=by obtain⟨vb,vl,lb,b⟩:=w.box;refine(Bz w.own b.box h0 h1).mono ?_;rintro u h' ⟨rfl,w2,-⟩;exact⟨rfl,_,⟨w2,w.src,vb,vl,lb,b.at⟩,nw Q2⟩
theorem js{x:Int}:-2147483648<=IntKind.i32.wrap x/\IntKind.i32.wrap x<=2147483647:=by rw[IntKind.wrap_i32];omega
def fo(s:List Int)(m:MS):Int:=
 if aB s (m.at_+1) 8=0 then IntKind.i32.wrap (IntKind.i64.wrap (aB s m.at_ 1048576*4099))
 else if aB s (m.at_+1) 8=1 then IntKind.i32.wrap (IntKind.i64.wrap (-aB s m.at_ 1048576))
 else if aB s (m.at_+1) 8=2 then -2147483648
 else if aB s (m.at_+1) 8=3 then IntKind.i32.wrap ((aB s m.at_ 1048576).tmod 70000)
 else IntKind.i32.wrap (IntKind.i64.wrap ((aB s m.at_ 1048576).tmod 20-4))
theorem kN:-2147483648<=fo s m/\fo s m<=2147483647:=by
 unfold fo;repeat' split
 all_goals first | exact js | decide
theorem Mk.word(w:Mk s M vs W h o m)(h1:m.at_<=999999990) :
  aw QH N.b6 #[QT M] h (λu h'=>u = Qy QA (fo s m)/\∃o',Mk s M vs W h' o' m.took.took/\∀k:Key,3<=k.1->o' k=o k):=by
 refine ak (args:=[QT M]) follows F.b6 E.b6 Q9 λK hK=>?_;dsimp only[L.b6];refine ab λz hz=>?_;simp;subst hz;refine ab λz hz=>?_;simp;refine ag Q0 (w.take Q1 (n:=1048576) Q2 Q2) ?_;rintro _ h2 ⟨rfl,o2,w2,f2⟩;subst hz;refine ab λz hz=>?_;simp;refine ag Q0 (w2.take (show m.at_+1<=_ by omega) (n:=8) Q2 Q2) ?_;rintro _ h3 ⟨rfl,o3,w3,f3⟩;have hx:m.took.at_=m.at_+1:=rfl;rw[hx];have hf : ∀k:Key,3<=k.1->o3 k=o k:=λk hk=>(f3 k hk).trans (f2 k hk);have hwd:fo s m=_:=fo.eq_1 s m;generalize fo s m=r at hwd hK;generalize aB s (m.at_+1) 8=q at hwd;generalize aB s m.at_ 1048576=x at hwd;by_cases c0:q=0
 ·rw[if_pos c0]at hwd;simp[c0];exact hK _ _ ⟨by rw[hwd],_,w3,hf⟩
 rw[if_neg c0]at hwd;by_cases c1:q=1
 ·rw[if_pos c1]at hwd;simp[c1];refine Kx rfl ?_;simp;exact hK _ _ ⟨by rw[hwd],_,w3,hf⟩
 rw[if_neg c1]at hwd;by_cases c2:q=2
 ·rw[if_pos c2]at hwd;simp[c2];exact hK _ _ ⟨by rw[hwd],_,w3,hf⟩
 rw[if_neg c2]at hwd;by_cases c3:q=3
 ·rw[if_pos c3]at hwd;simp[c3];exact hK _ _ ⟨by rw[hwd],_,w3,hf⟩
 rw[if_neg c3]at hwd;simp[c0,c1,c2,c3];subst hz;simp;exact hK _ _ ⟨by rw[hwd],_,w3,hf⟩
end Go.Lft
namespace Go.Lft
def MS.add(m:MS)(b:Nat)(i:InsD):MS:={ m with blocks:=m.blocks.set b { nth m.blocks b with ins:=(nth m.blocks b).ins++[i] },live:=m.live++bm i }
def conD(v:Int)(n:Int):InsD:=⟨1,v,0,[],⟨n⟩⟩
def MS.constant(m:MS)(b:Nat)(n:Int):MS:=m.aH.add b (conD m.next n)
def uv(s:List Int)(m:MS):Int:=nth m.live (if aB s (m.at_+1) 3=0 then m.live.length-1 else(aB s m.at_ m.live.length).toNat)
def Df(s:List Int)(m:MS)(b:Nat):MS:=(m.took.took).constant b (fo s m)
def aE(s:List Int)(m:MS)(b:Nat):Int × MS:=
 if m.live.length=0 then(m.next,Df s m b)
 else if aB s (m.at_+2) 9=0 then(m.next,Df s m.took.took.took b)
 else(uv s m,m.took.took.took)
def MS.two(m:MS)(b:Nat)(op x y:Int):MS:=m.aH.add b ⟨op,m.next,0,[x,y],⟨0⟩⟩
def binS(s:List Int)(m:MS)(b:Nat)(op:Int):MS:=
 let r1:=aE s m b
 let r2:=aE s r1.2 b
 if aB s r2.2.at_ 3=0 then
  (r2.2.took.took.constant b (IntKind.i32.wrap (IntKind.i64.wrap (aB s (r2.2.at_+1) 40-8)))).two b op r1.1 r2.2.next
 else r2.2.took.two b op r1.1 r2.1
def ltuS(s:List Int)(m:MS)(b:Nat):MS:=
 let r1:=aE s m b
 let r2:=aE s r1.2 b
 r2.2.two b 13 r1.1 r2.1
def divS(s:List Int)(m:MS)(b:Nat):MS:=
 let r1:=aE s m b
 let m2:=r1.2.took.constant b (IntKind.i32.wrap (aB s r1.2.at_ 12))
 if 0<aB s m2.at_ 3 then
  (m2.took.took.constant b (IntKind.i32.wrap (1+IntKind.i32.wrap (aB s (m2.at_+1) 12)))).two b 14 r1.1 m2.next
 else m2.took.two b 14 r1.1 r1.2.next
def sy(s:List Int)(m:MS)(b:Nat):MS:=
 let r1:=aE s m b
 let r2:=aE s r1.2 b
 r2.2.aH.aH.add b ⟨18,r2.2.next,r2.2.next+1,[r1.1,r2.1],⟨0⟩⟩
def fI(s:List Int)(b:Nat):Nat->List Int × MS->List Int × MS:=λ_ x=>(x.1++[(aE s x.2 b).1],(aE s x.2 b).2)
def mT(s:List Int)(m:MS)(b:Nat):MS:=
 let r:=up (fI s b) (aB s m.at_ 5).toNat ([],m.took)
 r.2.aH.took.add b ⟨17,r.2.next,0,r.1,⟨IntKind.i32.wrap (aB s r.2.at_ 5)⟩⟩
def jw(s:List Int)(m:MS)(b:Nat):Int × MS:=
 let m1:=m.took.constant b (IntKind.i32.wrap (aB s m.at_ 9))
 if aB s m1.at_ 3=0 then
  let r:=aE s m1.took b
  let m3:=(r.2.constant b 7).two b 5 r.1 r.2.next
  (m3.next,m3.two b 2 m.next (r.2.next+1))
 else(m.next,m1.took)
def offS(s:List Int)(m:MS):Int × MS:=
 if aB s (m.at_+1) 12=0 then(fo s m.took.took,m.took.took.took.took) else(IntKind.i32.wrap (aB s m.at_ 4),m.took.took)
def iL(s:List Int)(m:MS)(b:Nat)(store:Bool):MS:=
 let a:=jw s m b
 let i:=offS s a.2
 if store then(aE s i.2 b).2.add b ⟨16,0,0,[a.1,(aE s i.2 b).1],⟨i.1⟩⟩
 else i.2.aH.add b ⟨15,i.2.next,0,[a.1],⟨i.1⟩⟩
def opsL:List Int:=[2,2,3,4,5,6,7,8,9,10,12,11]
def aF(s:List Int)(b:Nat)(m:MS):MS:=
 let k:=aB s m.at_ 20
 if k<12 then binS s m.took b (nth opsL k.toNat)
 else if k=12 then ltuS s m.took b
 else if k=13 then divS s m.took b
 else if k<16 then iL s m.took b (decide (k=15))
 else if k=16 then mT s m.took b
 else if k=17 then sy s m.took b
 else m.took.took.took.constant b (fo s m.took)
section
variable{b:Nat}
theorem AZ{H:View}{n:Nat}{cs:List Value}(hc:fO H ⟨b,0,QC⟩ cs)(hl:cs.length=n):Un.ev H (.ax n) (QT b)=QB (.agg cs.toArray):=by have:=ir hc n 0 #[] Q1;simp only[Un.ev,vP,Nn];rw[this];simp[<-hl]
theorem Em{H:View}{n:Nat}{cs:Array Value}{t:TypeId}(hb:H b=QB (.cells cs t (0,0)))(hl:cs.size=n):Un.ev H (.ax n) (QT b)=QB (.agg cs):=by have:fO H ⟨b,0,QC⟩ cs.toList:=⟨cs,t,(0,0),rfl,hb,by simp[Nd]⟩;simpa using AZ this (by simpa using hl)
variable{vs vb vl:Value}{lb:List BlkM}
theorem MkB.Kh{s:List Int}{M:Nat}{W:View}{h:Heap}{o:Own}{m:MS}(w:Owns W h o)(b:MkB M vs m o vb vl lb):
  ∃X:View,W.le X/\X.le (vw h)/\(∀i,i<=5->aj X ⟨M,i,QC⟩=QB ((mkL vs m.at_ m.ps vb m.next vl).getD i undef))/\SlRd X vb lb/\Av X vl/\∀i,i<m.blocks.length->Av X (nth lb i).phis.v/\Av X (nth lb i).ins.v:=by obtain⟨w5,s5⟩:=w.freeze (k:=(0,0)) (v:=QD (QB ⟨M,0,QC⟩) 1 1) (l:=[RawN.mk (n:=5) (mkL vs m.at_ m.ps vb m.next vl)]) b.box;have hb2:o.upd (0,0) QC (0,2)=it T.a8 vb lb:=b.blk;obtain⟨w6,s6⟩:=w5.freeze (k:=(0,2)) (v:=vb) (l:=lb) hb2;have s5:=s5.mono (kS (h:=h) (w5.av (0,2) _ hb2));refine⟨_,Qx (kS (h:=h) (w.av (0,0) _ b.box)) (kS (h:=h) (w5.av (0,2) _ hb2)),w6.wle,λi hi=>?_,s6,w6.av (0,1) _ b.live,λi hi=>⟨w6.av (1,i) _ (b.phis i hi),w6.av (2,i) _ (b.ins i hi)⟩⟩;have:=((s5.at (i:=0) Sb).part (RawN.p (n:=5) (o:=i) hi)).raw;simpa[slA]using this
variable{s:List Int}{M:Nat}{vs:Value}{W:View}{h:Heap}{o:Own}{m:MS}
theorem MkB.cell(w:Owns W h o)(b:MkB M vs m o vb vl lb){i:Nat}(hi:i<=5):aj (vw h) ⟨M,i,QC⟩=QB ((mkL vs m.at_ m.ps vb m.next vl).getD i undef):=w.raw b.box hi
theorem MkB.bj(bb:MkB M vs m o vb vl lb)(hb:b<m.blocks.length){x':BlkD}{y':BlkM}{o':Own}(hy:y'.term=x'.term)(h02:o' (0,2)=it T.a8 vb (lb.set b y'))(h1:o' (1,b)=it T.dY y'.phis.v x'.phis)(h2:o' (2,b)=it T.dT y'.ins.v x'.ins)(ho : ∀q:Key,q≠(0,2)->q≠(1,b)->q≠(2,b)->o' q=o q):MkB M vs { m with blocks:=m.blocks.set b x' } o' vb vl (lb.set b y'):=by
 have hbl:b<lb.length:=by rw[bb.len];exact hb
 refine⟨(ho _ Sb Sb Sb).trans bb.box,(ho _ Sb Sb Sb).trans bb.live,h02,by simp[bb.len],λj hj=>?_,λj hj=>?_,λj hj=>?_⟩;all_goals
  have hj:j<m.blocks.length:=by simpa using hj
  have hjl:j<lb.length:=by rw[bb.len];exact hj
  show _=_
  simp only[aK hj,aK hjl]
  by_cases e:b=j
  ·subst e
   simp only[if_true]
   assumption
  ·simp only[if_neg e]
   first
    | exact bb.term j hj
    | exact(ho _ Sb (λq=>e (by injection q with _ q;exact q.symm)) Sb).trans (bb.phis j hj)
    | exact(ho _ Sb Sb (λq=>e (by injection q with _ q;exact q.symm))).trans (bb.ins j hj)
theorem Mk.value(w:Mk s M vs W h o m)(h1:m.at_<=999999990)(hl:m.live.length<=1000000000):
  aw QH N.cZ #[QT M] h (λu h'=>(m.live.length=0/\u = .tuple #[Qy Qz 0,.bool QG]/\h'=h)\/(m.live.length≠0/\u = .tuple #[Qy Qz (uv s m),.bool QF]/\I64 (uv s m)/\∃o',Mk s M vs W h' o' m.took.took/\∀k:Key,3<=k.1->o' k=o k)):=by
 refine ak (args:=[QT M]) follows F.cZ E.cZ Q9 λK hK=>?_;obtain⟨vb,vl,lb,b⟩:=w.box;have c5:aj (vw h) ⟨M,5,QC⟩=QB vl:=b.cell w.own (i:=5) Q2;have hsl:=w.own.now b.live;dsimp only[L.cZ];refine ab λz hz=>?_;simp;subst hz;refine ab λz hz=>?_;by_cases h0:m.live.length=0
 ·have h0':m.live=[]:=Nl h0;simp[c5,hsl.len,h0];exact hK _ _ (.inl ⟨h0,rfl,rfl⟩)
 have h0':¬(m.live=[]):=λe=>h0 (by rw[e];rfl);simp[c5,hsl.len,h0'];subst hz;refine ab λz hz=>?_;simp[c5,hsl.len];refine ag Q0 (w.take Q1 (n:=(m.live.length:Int)) Q1 Q1) ?_;rintro _ h2 ⟨rfl,o2,w2,f2⟩;subst hz;refine ab λz hz=>?_;simp;refine ag Q0 (w2.take (show m.at_+1<=_ by omega) (n:=3) Q2 Q2) ?_;rintro _ h3 ⟨rfl,o3,w3,f3⟩;have hx:m.took.at_=m.at_+1:=rfl;rw[hx];have hf : ∀k:Key,3<=k.1->o3 k=o k:=λk hk=>(f3 k hk).trans (f2 k hk);have hv:uv s m=_:=uv.eq_1 s m;obtain⟨vb3,vl3,lb3,b3⟩:=w3.box;have c53:aj (vw h3) ⟨M,5,QC⟩=QB vl3:=b3.cell w3.own (i:=5) Q2;have hsl3:SlRd (vw h3) vl3 m.live:=w3.own.now b3.live;obtain⟨r0,r1⟩:=bc (s:=s) (at_:=m.at_) (n:=(m.live.length:Int)) Q1;generalize aB s m.at_ m.live.length=x at hv r0 r1;generalize aB s (m.at_+1) 3=q at hv;obtain⟨i,hi,hvi,hii⟩ : ∃i:Nat,i<m.live.length/\uv s m=nth m.live i/\(i:Int)=if q=0 then(m.live.length:Int)-1 else x:=by
  by_cases c:q=0
  ·rw[if_pos c]at hv ⊢;exact⟨m.live.length-1,by omega,hv,by omega⟩
  rw[if_neg c]at hv ⊢;exact⟨x.toNat,by omega,hv,by omega⟩
 have h64:IntKind.i64.wrap ((m.live.length:Int)-1)=(m.live.length:Int)-1:=bu Q1 Q1;have fin : ∀ρ:Env,ρ=[(0,QT M),(2,Qy Qz 0),(3,.bool QG),(4,Qy Qz i),(17,Qy Qz x),(19,Qy Qz q)]->LC.wp QH z (fu [.tmp 2,.tmp 3] K) ρ h3:=by rintro _ rfl;subst hz;refine ab λz hz=>?_;simp(disch:=omega)[c53,hsl3.idx1 rfl,hsl3.int Qw];subst hz;simp;exact hK _ _ (.inr ⟨h0,by rw[hvi],by rw[hvi];exact hsl3.range hi,o3,w3,hf⟩)
 by_cases c:q=0
 ·rw[if_pos c]at hii;simp[c,c53,hsl3.len,h64];refine fin _ ?_;rw[hii,c]
 rw[if_neg c]at hii;simp[c];refine fin _ ?_;rw[hii]
theorem Mk.add(w:Mk s M vs W h o m){b:Nat}{i:InsD}{v:Value}(hb:b<m.blocks.length)(hi:Rd W v i)(hn:(nth m.blocks b).ins.length<=100000000)(hl:m.live.length<=100000000) :
    aw QH N.dh #[QT M,Qy Qz b,v] h (λu h'=>Nx s M vs W h' o (m.add b i)):=by
  refine ak (args:=[QT M,Qy Qz b,v]) follows F.dh E.dh Q9 λK hK=>?_
  obtain⟨vb,vl,lb,bb⟩:=w.box
  obtain⟨va,rfl,hir,hia⟩:=CT hi
  dsimp only[L.dh]
  refine ab λz hz=>?_
  simp
  refine fH rfl (hi.mono w.own.wle) λh1 e1 hle1 hs1 hat=>?_
  have w1:=w.own.ext hle1
  have hbx:(grow W h h1) h.size=QB (.cells #[Qy Qz i.op,Qy Qz i.dst,Qy Qz i.two,va,Qy QA i.imm.v] T.dT (0,0)):=by
    rw[gJ (MY _),e1];simp[Value.cells]
  have hi1:=hi.mono (bE (h':=h1) w.own.wle)
  have src1:=w.src.mono (bE (h':=h1) w.own.wle)
  have hW1:=bE (h':=h1) w.own.wle
  clear hat e1
  have hld:=Em hbx (n:=5) rfl
  generalize grow W h h1=W1 at w1 hld hi1 src1 hW1
  generalize h.size=B at hld
  subst hz
  refine ab λz hz=>?_
  obtain⟨X,hWX,hX,cX,sX,avl,avX⟩:=bb.Kh (s:=s) w1
  have c3:aj X ⟨M,3,QC⟩=QB vb:=cX 3 Q2
  have hbl:b<lb.length:=by rw[bb.len];exact hb
  have a1:=(sX.at hbl).part BlkM.pP
  have hsv:=sX.bound
  have a2:aj X (((slA vb).add (b*6)).add 1)=QB (nth lb b).ins.v:=by rw[ao hbl];exact a1.raw
  have hldX:Un.ev X (.ax 5) (QT B)=QB (.agg #[Qy Qz i.op,Qy Qz i.dst,Qy Qz i.two,va,Qy QA i.imm.v]):=by
    have:=dF (ρ:=λ_=>QC) (e:=.un (.ax 5) (.con (QT B))) hWX (by simpa using hld)
    simpa using this
  refine bz X hX ?_
  simp(disch:=omega)[c3,sX.idxn (N:=6) rfl,a2,hldX]
  refine jz (α:=InsD) (W:=W1) (d:=i) El.ni rfl hi1 λu5 h5 src hle5 hs5=>⟨Qx hX hle5,?_⟩
  refine(w1.ext' hle5).cR (k:=(2,b)) (α:=InsD) (v:=(nth lb b).ins.v) (l:=(nth m.blocks b).ins) (l2:=[i]) (bb.ins b hb) El.ni rfl rfl src Q8 Q8 λv6 h6 w6 m6=>⟨(m6.view (Qx hX hle5) (avX b hb).2).1,?_⟩
  have hv6:=(w6.cells (k:=(2,b)) Own.ah).2
  refine w6.n8 (k:=(0,2)) (α:=BlkM) BlkM.pP (v:=vb) (l:=lb) (i:=b) (d:=⟨v6⟩) bb.blk Q0 rfl rfl hbl (rC.2 ⟨rfl,hv6⟩) λh7 w7 _=>?_
  have b7:=bb.bj hb (x':={ nth m.blocks b with ins:=(nth m.blocks b).ins++[i] }) (y':={ lb[b]with ins:=⟨v6⟩ }) (o':=(o.upd (2,b) (it T.dT v6 ((nth m.blocks b).ins++[i]))).upd (0,2) (it T.a8 vb (lb.set b { lb[b]with ins:=⟨v6⟩ }))) (by rw[<-bb.term b hb,ao hbl]) Own.ah (by rw[<-ao hbl];exact bb.phis b hb) ((Own.af Sb).trans Own.ah) (λq h1 h2 h3=>by rw[Own.af h1,Own.af h3])
  generalize hm7:({ m with blocks:=m.blocks.set b { nth m.blocks b with ins:=(nth m.blocks b).ins++[i] } }:MS)=m7 at b7
  have hadd:m.add b i={ m7 with live:=m.live++bm i }:=by rw[<-hm7];rfl
  have hl7:m7.live=m.live:=by rw[<-hm7]
  have hf7 : ∀k:Key,3<=k.1->((o.upd (2,b) (it T.dT v6 ((nth m.blocks b).ins++[i]))).upd (0,2) (it T.a8 vb (lb.set b { lb[b]with ins:=⟨v6⟩ }))) k=o k:=λk hk=>by
    rw[Own.af (by rintro rfl;simp at hk),Own.af (by rintro rfl;simp at hk)]
  generalize (o.upd (2,b) (it T.dT v6 ((nth m.blocks b).ins++[i]))).upd (0,2) (it T.a8 vb (lb.set b { lb[b]with ins:=⟨v6⟩ }))=o7 at w7 b7 hf7
  generalize lb.set b { lb[b]with ins:=⟨v6⟩ }=lb7 at b7
  clear src avX m6
  subst hz
  refine ab λz hz=>?_
  have hld7:Un.ev (vw h7) (.ax 5) (QT B)=QB (.agg #[Qy Qz i.op,Qy Qz i.dst,Qy Qz i.two,va,Qy QA i.imm.v]):=by
    have:=dF (ρ:=λ_=>QC) (e:=.un (.ax 5) (.con (QT B))) w7.wle (by simpa using hld)
    simpa using this
  simp[hld7]
  refine ag Q0 (oX (hi1.mono w7.wle)) ?_
  rintro u8 h8 ⟨hle8,hu8,-⟩
  have w8:=w7.ext hle8
  have hu8:SlRd (grow W1 h7 h8) u8 (bm i):=hu8.mono (Fq (MY _) Qw)
  have hW8:=bE (h':=h8) w7.wle
  generalize grow W1 h7 h8=W8 at w8 hu8 hW8
  subst hz
  have c58:aj (vw h8) ⟨M,5,QC⟩=QB vl:=b7.cell w8 (i:=5) Q2
  have hmk:(bm i).length<=2:=by
                                         unfold bm;repeat' split
                                         all_goals simp
  simp[c58]
  refine w8.cR (k:=(0,1)) (α:=Int) (v:=vl) (l:=m.live) (l2:=bm i) (by rw[<-hl7];exact b7.live) El.bn rfl rfl (hu8.src w8.wle) Q1 Q1 λv9 h9 w9 m9=>?_
  have hv9:=(w9.cells (k:=(0,1)) Own.ah).2
  have hbx9:(o7.upd (0,1) (it T.int v9 (m.live++bm i))) (0,0)=bx T.aT M (RawN.mk (n:=5) (mkL vs m7.at_ m7.ps vb m7.next vl)):=b7.box
  refine w9.bG (k:=(0,0)) (n:=5) (i:=5) (e:=T.aT) (B:=M) (l:=mkL vs m7.at_ m7.ps vb m7.next vl) hbx9 Q2 Q0 rfl rfl hv9 λh10 w10 _=>?_
  refine hK _ _ ⟨W8,_,Qx hW1 hW8,⟨w10,src1.mono hW8,vb,v9,lb7,?_⟩,λk hk=>?_⟩
  · rw[hadd]
    exact⟨rfl,rfl,b7.blk,b7.len,b7.term,b7.phis,b7.ins⟩
  · rw[Own.af (by rintro rfl;simp at hk),Own.af (by rintro rfl;simp at hk)]
    exact hf7 k hk
end
section
structure MS.ok(c:Nat)(m:MS):Prop where
 at_:m.at_<=c
 n0:0<=m.next
 next:m.next<=c
 live:m.live.length<=c
 ins : ∀i,(nth m.blocks i).ins.length<=c
theorem MS.ok.mono{c d:Nat}{m:MS}(h:m.ok c)(hd:c<=d):m.ok d:=
 ⟨by have:=h.at_;omega,h.n0,by have:=h.next;omega,by have:=h.live;omega,λi=>by have:=h.ins i;omega⟩
theorem MS.ok.took{c:Nat}{m:MS}(h:m.ok c):m.took.ok (c+1):=
 ⟨by have:=h.at_;show m.at_+1<=_;omega,h.n0,by have:=h.next;show m.next<=_;omega,by have:=h.live;show m.live.length<=_;omega,λi=>by have:=h.ins i;show(nth m.blocks i).ins.length<=_;omega⟩
theorem MS.ok.aH{c:Nat}{m:MS}(h:m.ok c):m.aH.ok (c+1):=
 ⟨by have:=h.at_;show m.at_<=_;omega,by have:=h.n0;show 0<=m.next+1;omega,by have:=h.next;show m.next+1<=_;omega,by have:=h.live;show m.live.length<=_;omega,λi=>by have:=h.ins i;show(nth m.blocks i).ins.length<=_;omega⟩
theorem Eu{i:InsD}:(bm i).length<=2:=by
 unfold bm;repeat' split
 all_goals simp
theorem MS.ok.add{c b:Nat}{m:MS}{i:InsD}(h:m.ok c):(m.add b i).ok (c+2):=by
 refine⟨by have:=h.at_;show m.at_<=_;omega,h.n0,by have:=h.next;show m.next<=_;omega,?_,λj=>?_⟩
 ·have:=h.live;have:=Eu (i:=i);show(m.live++bm i).length<=_;rw[M3];omega
 show(nth (m.blocks.set b _) j).ins.length<=_;have hj:=h.ins j;rcases M0 j m.blocks.length with hl | hl
 ·rw[aK hl];split
  ·rename_i e;subst e;rw[M3,M6];omega
  omega
 rw[aW (by simpa using hl)];rw[aW hl]at hj;omega
theorem MS.ok.constant{c b:Nat}{m:MS}{n:Int}(h:m.ok c):(m.constant b n).ok (c+3):=h.aH.add
theorem MS.ok.two{c b:Nat}{m:MS}{op x y:Int}(h:m.ok c):(m.two b op x y).ok (c+3):=h.aH.add
variable{s:List Int}{M:Nat}{vs:Value}{W:View}{h:Heap}{o:Own}{m:MS}
theorem MS.ok.aE{c b:Nat}(h:m.ok c):(aE s m b).2.ok (c+10):=by
 unfold Go.Lft.aE;repeat' split
 ·exact(h.took.took.constant).mono Q1
 ·exact(h.took.took.took.took.took.constant).mono Q1
 exact(h.took.took.took).mono Q1
variable{b:Nat}
theorem kP{i:InsD}:(m.add b i).blocks.length=m.blocks.length:=by simp[MS.add]
theorem dN:(aE s m b).2.blocks.length=m.blocks.length:=by
 unfold aE;repeat' split
 all_goals simp[Df,MS.constant,kP,MS.took,MS.aH]
theorem Mk.constant(w:Mk s M vs W h o m){b c:Nat}{n:Int}(hb:b<m.blocks.length)(hm:m.ok c)(hc:c<=1000000)(hn:-2147483648<=n/\n<=2147483647) :
  aw QH N.bw #[QT M,Qy Qz b,Qy QA n] h (λu h'=>u = Qy Qz m.next/\Nx s M vs W h' o (m.constant b n)):=by refine ak (args:=[QT M,Qy Qz b,Qy QA n]) follows F.bw E.bw Q9 λK hK=>?_;have q1:=hm.next;have q0:=hm.n0;dsimp only[L.bw];refine ab λz hz=>?_;simp;subst hz;refine ab λz hz=>?_;simp;refine ag Q0 (w.fresh q0 Q1) ?_;rintro _ h2 ⟨rfl,o2,w2,f2⟩;subst hz;refine ab λz hz=>?_;simp;refine aQ (z:=zz5) (places:=zpa) (vs:=[(0,Qy Qz 1),(1,Qy Qz m.next),(4,Qy QA n)]) (cs:=#[Qy Qz 1,Qy Qz m.next,Qy Qz 0,QD QC 0 0,Qy QA n]) Q0 Q0 Sb Q0 ?_;have hm2:=hm.aH;refine ag Q0 (w2.add (i:=conD m.next n) hb (Af (imm:=⟨n⟩) ⟨⟨Q2,Q2⟩,Q5,⟨Q2,Q2⟩,hn⟩ ia) (by have:=hm2.ins b;omega) (by have:=hm2.live;omega)) ?_;rintro u3 h3 n3;subst hz;simp;exact hK _ _ ⟨rfl,n3.trans Qw f2⟩
theorem Dv(w:Mk s M vs W h o m){c:Nat}(hb:b<m.blocks.length)(hm:m.ok c)(hc:c<=999990):
  aw QH N.cQ #[QT M,Qy Qz b] h (λu h'=>u = Qy Qz (aE s m b).1/\I64 (aE s m b).1/\Nx s M vs W h' o (aE s m b).2):=by
 refine ak (args:=[QT M,Qy Qz b]) follows F.cQ E.cQ Q9 λK hK=>?_;have qa:=hm.at_;have ql:=hm.live;have hsd:aE s m b=_:=aE.eq_1 s m b;dsimp only[L.cQ];refine ab λz hz=>?_;simp;subst hz;refine ab λz hz=>?_;simp;refine ag Q0 (w.value Q1 Q1) ?_;rintro u h2 hu;have con : ∀{m2:MS} {o2:Own} {h2:Heap} {ρ:Env} {z:LC},Mk s M vs W h2 o2 m2->(∀k:Key,3<=k.1->o2 k=o k)->m2.ok (c+3)->b<m2.blocks.length->aE s m b=(m2.next,Df s m2 b)->Lft.look ρ 0=QB (QT M)->Lft.look ρ 1=QB (Qy Qz b)->
   LC.wp QH (.seq (.reg QG (.loud [19,20,21] [(19,(.tmp 0)),(20,(.tmp 1))] [(21,(.tmp 0))] QC [] QG (.call ⟨.value (.func N.b6),#[(.tmp 21)],#[T.qO]⟩) 21 (QB 22) QF
   (.loud [] [] [(19,(.tmp 19)),(20,(.tmp 20)),(22,(.tmp 22))] QC [] QG (.call ⟨.value (.func N.bw),#[(.tmp 19),(.tmp 20),(.tmp 22)],#[T.qO,3,21]⟩) 3 (QB 23) QF
    (.fin [4] [(4,(.tmp 23))] [])))) .ret) (fN (LC.wp QH z (fu [.tmp 4] K)) (fu [.tmp 4] K)) ρ h2:=by intro m2 o2 h2 ρ z w2 f2 k2 b2 e2 r0 r1;refine ab λy hy=>?_;simp[r0,r1];refine ag Q0 (w2.word (by have:=k2.at_;omega)) ?_;rintro _ h3 ⟨rfl,o3,w3,f3⟩;simp[ar,au,r0,r1];refine ag Q0 (w3.constant (n:=fo s m2) b2 k2.took.took Q1 kN) ?_;rintro _ h4 ⟨rfl,n4⟩;subst hy;simp[ar,au];refine hK _ _ ⟨by rw[e2];rfl,by rw[e2];have:=k2.n0;have:=k2.next;exact⟨by show _<=m2.next;omega,by show m2.next<=_;omega⟩,?_⟩;rw[e2];exact n4.trans Qw λk hk=>(f3 k hk).trans (f2 k hk)
 rcases hu with⟨h0,rfl,rfl⟩ | ⟨h0,rfl,hi64,o2,w2,f2⟩
 ·rw[if_pos h0]at hsd;simp;subst hz;refine ab λz hz=>?_;refine ab λy hy=>?_;simp;subst hy;refine aZ Sb ?_;exact con w (λ_ _=>rfl) (hm.mono Q1) hb hsd (by simp[ar,au]) (by simp[ar,au])
 rw[if_neg h0]at hsd;simp;subst hz;refine ab λz hz=>?_;refine ab λy hy=>?_;simp;have k2:=hm.took.took;refine ag Q0 (w2.take (by have:=k2.at_;omega) (n:=9) Q2 Q2) ?_;rintro _ h3 ⟨rfl,o3,w3,f3⟩;have hx:m.took.took.at_=m.at_+2:=rfl;rw[hx];simp;subst hy;by_cases c9:aB s (m.at_+2) 9=0
 ·rw[if_pos c9]at hsd;refine aZ (by simp[c9]) ?_;exact con w3 (λk hk=>(f3 k hk).trans (f2 k hk)) k2.took hb hsd (by simp[ar,au]) (by simp[ar,au])
 rw[if_neg c9]at hsd;refine aV (by simp[c9]) ?_;simp;subst hz;simp;refine hK _ _ ⟨by rw[hsd],by rw[hsd];exact hi64,?_⟩;rw[hsd];exact w3.nx.trans Qw λk hk=>(f3 k hk).trans (f2 k hk)
end
def Nz(s:List Int)(M:Nat)(vs:Value)(W0:View)(h:Heap)(o0:Own)(m:MS)(u:Value)(ds:List Int):Prop:=∃W o,W0.le W/\Mk s M vs W h o m/\(∀k:Key,3<=k.1->o k=o0 k)/\SlRd W u ds
section
variable{s:List Int}{M:Nat}{vs:Value}{W0:View}{h:Heap}{o0:Own}{m:MS}{u:Value}{ds:List Int}
theorem Nx.z(n:Nx s M vs W0 h o0 m):Nz s M vs W0 h o0 m (QD QC 0 0) []:=by obtain⟨W,o,h1,h2,h3⟩:=n;exact⟨W,o,h1,h2,h3,ia⟩
theorem Nz.x(n:Nz s M vs W0 h o0 m u ds):Nx s M vs W0 h o0 m:=by obtain⟨W,o,h1,h2,h3,_⟩:=n;exact⟨W,o,h1,h2,h3⟩
theorem Nz.call{f:FuncId}{args:Array Value}{m':MS}{U:Value->Prop}(hc : ∀{W o},Mk s M vs W h o m->aw QH f args h (λu h'=>U u/\Nx s M vs W h' o m'))(n:Nz s M vs W0 h o0 m u ds):
  aw QH f args h (λv h'=>U v/\Nz s M vs W0 h' o0 m' u ds):=by obtain⟨W,o,h1,h2,h3,h4⟩:=n;refine(hc h2).mono ?_;rintro v h' ⟨hU,W',o',g1,g2,g3⟩;exact⟨hU,W',o',Qx h1 g1,g2,λk hk=>(g3 k hk).trans (h3 k hk),h4.mono g1⟩
theorem eZ(n:Nz s M vs W0 h o0 m u ds){c:Nat}(hm:m.ok c)(hc:c<=1000000){k:Int}(hk:0<k)(hk2:k<=1000000000):
  aw QH N.bH #[QT M,Qy Qz k] h (λv h'=>v = Qy Qz (aB s m.at_ k)/\Nz s M vs W0 h' o0 m.took u ds):=
 n.call (U:=λv=>v=_) λw=>((w.take (by have:=hm.at_;omega) hk hk2).mono λv h' ⟨e,o',w',f'⟩=>⟨e,w'.nx.trans Qw f'⟩)
theorem iz(n:Nz s M vs W0 h o0 m u ds){c:Nat}(hm:m.ok c)(hc:c<=1000000):
  aw QH N.bL #[QT M] h (λv h'=>v = Qy Qz m.next/\Nz s M vs W0 h' o0 m.aH u ds):=
 n.call (U:=λv=>v=_) λw=>((w.fresh hm.n0 (by have:=hm.next;omega)).mono λv h' ⟨e,o',w',f'⟩=>⟨e,w'.nx.trans Qw f'⟩)
theorem zk(n:Nz s M vs W0 h o0 m u ds){c:Nat}(hm:m.ok c)(hc:c<=1000000):
  aw QH N.b6 #[QT M] h (λv h'=>v = Qy QA (fo s m)/\Nz s M vs W0 h' o0 m.took.took u ds):=
 n.call (U:=λv=>v=_) λw=>((w.word (by have:=hm.at_;omega)).mono λv h' ⟨e,o',w',f'⟩=>⟨e,w'.nx.trans Qw f'⟩)
variable{b:Nat}
theorem gR(n:Nz s M vs W0 h o0 m u ds){c:Nat}(hb:b<m.blocks.length)(hm:m.ok c)(hc:c<=1000000){k:Int}(hk:-2147483648<=k/\k<=2147483647):
  aw QH N.bw #[QT M,Qy Qz b,Qy QA k] h (λv h'=>v = Qy Qz m.next/\Nz s M vs W0 h' o0 (m.constant b k) u ds):=
 n.call (U:=λv=>v=_) λw=>w.constant hb hm hc hk
theorem jh(n:Nz s M vs W0 h o0 m u ds){c:Nat}(hb:b<m.blocks.length)(hm:m.ok c)(hc:c<=999990):
  aw QH N.cQ #[QT M,Qy Qz b] h (λv h'=>(v = Qy Qz (aE s m b).1/\I64 (aE s m b).1)/\Nz s M vs W0 h' o0 (aE s m b).2 u ds):=
 n.call (U:=λv=>v=_/\_) λw=>(Dv w hb hm hc).mono λv h' ⟨e1,e2,e3⟩=>⟨⟨e1,e2⟩,e3⟩
variable{op:Int}
theorem lD(n:Nz s M vs W0 h o0 m u ds){c:Nat}{d two imm:Int}(hb:b<m.blocks.length)(hm:m.ok c)(hc:c<=1000000)(h1:I64 op)(h2:I64 d)(h3:I64 two)(h4:-2147483648<=imm/\imm<=2147483647):
  aw QH N.dh #[QT M,Qy Qz b,.agg #[Qy Qz op,Qy Qz d,Qy Qz two,u,Qy QA imm]] h (λv h'=>Nx s M vs W0 h' o0 (m.add b ⟨op,d,two,ds,⟨imm⟩⟩)):=by obtain⟨W,o,g1,g2,g3,g4⟩:=n;refine(g2.add (i:=⟨op,d,two,ds,⟨imm⟩⟩) hb (Af (imm:=⟨imm⟩) ⟨h1,h2,h3,h4⟩ g4) (by have:=hm.ins b;omega) (by have:=hm.live;omega)).mono ?_;rintro v h' n';exact n'.trans g1 g3
theorem Nz.lit{po:OP}(n:Nz s M vs W0 h o0 m u ds){ty:TypeId}{ps:Array (Nat × Operand)}{us:List (Nat × Value)}{ls:List Int}{k:Nat}{K:Value->Heap->Prop}(hp:ps.map (λp=>(p.1,asg us p.2))=(((ls.map λx=>Qy Qz x).zipIdx 0).map λp=>(p.2,p.1)).toArray)(hr : ∀x∈ls,I64 x)(hn:ls.length=k)(hb:k<=16777216)(hk : ∀a n c h',(vw h).le (vw h')->Nz s M vs W0 h' o0 m (.slice a n c) ls->K (.slice a n c) h'):@Lft.step po QH (.buildSlice T.bn k ps) ty us h K:=by
 obtain⟨W,o,g1,g2,g3,g4⟩:=n;have hra : ∀l:List Int,(∀x∈l,I64 x)->oQ W (l.map λx=>Qy Qz x) l:=by
  intro l;induction l with
  | nil=>intro _;trivial
  | cons a l ih=>intro hl;exact⟨dJ.2 ⟨rfl,hl a Sb⟩,ih λx hx=>hl x (by simp[hx])⟩
 refine mQ (X:=W) (ds:=ls) (vs:=ls.map λx=>Qy Qz x) rfl El.bn hp (hra ls hr) g2.own.wle hn hb λv h' hle hs hv _=>?_;have hs2:=hv _ (bE g2.own.wle) (gJ (MY _));obtain⟨a,cp,rfl,_⟩:=id hs2;refine hk _ _ _ h' hle ?_;exact⟨_,o,Qx g1 (bE g2.own.wle),⟨g2.own.ext hle,g2.src.mono (bE g2.own.wle),g2.box⟩,g3,hs2⟩
end
theorem MS.ok.jU{c:Nat}{m:MS}(h:m.ok c)(hc:c<=1000000):I64 m.next:=by have:=h.n0;have:=h.next;constructor<;>omega
variable{b:Nat}
theorem dH{m:MS}{n:Int}:(m.constant b n).blocks.length=m.blocks.length:=kP
variable{op:Int}
theorem nN{m:MS}{x y:Int}:(m.two b op x y).blocks.length=m.blocks.length:=kP
theorem i64c{x:Int}(h0:-1000<=x:=by decide)(h1:x<=1000:=by decide):I64 x:=Q5
variable{vs:Value}
theorem EP{s:List Int}{M:Nat}{W0:View}{h:Heap}{o0:Own}{m:MS}(n:Nx s M vs W0 h o0 m){c:Nat}{store:Bool}(hb:b<m.blocks.length)(hm:m.ok c)(hc:c<=900000):
  aw QH N.cN #[QT M,Qy Qz b,.bool store] h (λv h'=>Nx s M vs W0 h' o0 (iL s m b store)):=by
 refine ak (args:=[QT M,Qy Qz b,.bool store]) follows F.cN E.cN Q9 λK hK=>?_;dsimp only[L.cN];have n:=n.z;have hmm:iL s m b store=_:=iL.eq_1 s m b store;refine ab λz hz=>?_;simp;refine ag Q0 (eZ n hm Q1 (k:=9) Q2 Q2) ?_;rintro _ h1 ⟨rfl,n⟩;simp;refine ag Q0 (gR n (b:=b) hb hm.took Q1 (k:=IntKind.i32.wrap (aB s m.at_ 9)) js) ?_;rintro _ h2 ⟨rfl,n⟩;have q:=hm.took.constant (b:=b) (n:=IntKind.i32.wrap (aB s m.at_ 9));have hb1:b<(m.took.constant b (IntKind.i32.wrap (aB s m.at_ 9))).blocks.length:=by rw[dH];exact hb
 obtain⟨m1,hm1⟩ : ∃m1,m1=m.took.constant b (IntKind.i32.wrap (aB s m.at_ 9)):=⟨_,rfl⟩;have had:jw s m b=_:=jw.eq_1 s m b;rw[<-hm1]at n q hb1;simp only[<-hm1]at had;have hnx:I64 m.next:=hm.jU Q1;have hnt:m.took.next=m.next:=rfl;rw[hnt];generalize m.next=a0 at had hnx;clear hm1 hm hnt;subst hz;refine ab λz hz=>?_;have fin : ∀(a:Int) (m2:MS) (h':Heap) (ρ:Env),jw s m b=(a,m2)->I64 a->m2.ok (c+30)->b<m2.blocks.length->Nz s M vs W0 h' o0 m2 (QD QC 0 0) []->Lft.look ρ 0=QB (QT M)->Lft.look ρ 1=QB (Qy Qz b)->Lft.look ρ 2=QB (.bool store)->Lft.look ρ 6=QB (Qy Qz a)->LC.wp QH z (fu [] K) ρ h':=by
  intro a m2 h' ρ e ha q hb n r0 r1 r2 r6;subst hz;simp only[e]at hmm;refine ab λz hz=>?_;simp[ar,au,r0,r1,r2,r6];refine ag Q0 (eZ n q Q1 (k:=4) Q2 Q2) ?_;rintro _ h1 ⟨rfl,n⟩;simp[ar,au,r0,r1,r2,r6];subst hz;refine ab λz hz=>?_;have fin2 : ∀(i:Int) (m3:MS) (h':Heap) (ρ:Env),offS s m2=(i,m3)->(-2147483648<=i/\i<=2147483647)->m3.ok (c+40)->b<m3.blocks.length->Nz s M vs W0 h' o0 m3 (QD QC 0 0) []->Lft.look ρ 0=QB (QT M)->Lft.look ρ 1=QB (Qy Qz b)->Lft.look ρ 2=QB (.bool store)->Lft.look ρ 6=QB (Qy Qz a)->Lft.look ρ 11=QB (Qy QA i)->LC.wp QH z (fu [] K) ρ h':=by
   intro i m3 h' ρ e hi q hb n r0 r1 r2 r6 r11;subst hz;simp only[e]at hmm;refine ab λz hz=>?_;simp[ar,au,r0,r1,r2,r6,r11];subst hz;cases store with
   | true=>rw[if_pos rfl]at hmm;refine aZ (by simp[ar,au,r2]) ?_;simp[ar,au,r0,r1,r2,r6,r11];refine ag Q0 (jh n hb q Q1) ?_;rintro _ h1 ⟨⟨rfl,hs⟩,n⟩;refine n.lit (ls:=[a,(aE s m3 b).1]) Sb (by simp[ha,hs]) rfl Q2 λua un uc h2 _ n=>?_;refine aQ (z:=zz5) (places:=zpa) (vs:=[(0,Qy Qz 16),(3,.slice ua un uc),(4,Qy QA i)]) (cs:=#[Qy Qz 16,Qy Qz 0,Qy Qz 0,.slice ua un uc,Qy QA i]) Q0 Q0 Sb Q0 ?_;refine ag Q0 (lD n (b:=b) (by rw[dN];exact hb) (q.aE (b:=b)) Q1 i64c i64c i64c hi) ?_;rintro _ h3 n;refine hK _ _ ?_;rw[hmm];exact n
   | false=>rw[if_neg Sb]at hmm;refine aV (by simp[ar,au,r2]) ?_;simp[ar,au,r0,r1,r2,r6,r11];refine ag Q0 (iz n q Q1) ?_;rintro _ h1 ⟨rfl,n⟩;refine n.lit (ls:=[a]) Sb (by simp[ha]) rfl Q2 λua un uc h2 _ n=>?_;refine aQ (z:=zz5) (places:=zpa) (vs:=[(0,Qy Qz 15),(1,Qy Qz m3.next),(3,.slice ua un uc),(4,Qy QA i)]) (cs:=#[Qy Qz 15,Qy Qz m3.next,Qy Qz 0,.slice ua un uc,Qy QA i]) Q0 Q0 Sb Q0 ?_;refine ag Q0 (lD n (b:=b) hb q.aH Q1 i64c (q.jU Q1) i64c hi) ?_;rintro _ h3 n;refine hK _ _ ?_;rw[hmm];exact n
  have hof:offS s m2=_:=offS.eq_1 s m2;refine ab λy hy=>?_;simp[ar,au,r0,r1,r2,r6];refine ag Q0 (eZ n q.took Q1 (k:=12) Q2 Q2) ?_;rintro _ h2 ⟨rfl,n⟩;have hx:m2.took.at_=m2.at_+1:=rfl;rw[hx];simp[ar,au,r0,r1,r2,r6];subst hy;by_cases c12:aB s (m2.at_+1) 12=0
  ·rw[if_pos c12]at hof;refine aZ (by simp[ar,au,c12]) ?_;simp[ar,au,r0,r1,r2,r6];refine ag Q0 (zk n q.took.took Q1) ?_;rintro _ h3 ⟨rfl,n⟩;exact fin2 _ _ h3 _ hof kN (q.took.took.took.took.mono Q1) hb n (by simp[ar,au,r0]) (by simp[ar,au,r1]) (by simp[ar,au,r2]) (by simp[ar,au,r6]) (by simp[ar,au])
  rw[if_neg c12]at hof;refine aV (by simp[ar,au,c12]) ?_;simp[ar,au,r0,r1,r2,r6];exact fin2 _ _ h2 _ hof js (q.took.took.mono Q1) hb n (by simp[ar,au,r0]) (by simp[ar,au,r1]) (by simp[ar,au,r2]) (by simp[ar,au,r6]) (by simp[ar,au])
 refine ab λy hy=>?_;simp;refine ag Q0 (eZ n q Q1 (k:=3) Q2 Q2) ?_;rintro _ h3 ⟨rfl,n⟩;simp;subst hy;by_cases c3:aB s m1.at_ 3=0
 ·rw[if_pos c3]at had;refine aZ (by simp[c3]) ?_;refine ab λy hy=>?_;simp;refine ag Q0 (jh n (b:=b) hb1 q.took Q1) ?_;rintro _ h4 ⟨⟨rfl,hs⟩,n⟩;have q:=q.took.aE (s:=s) (b:=b);have hb2:b<(aE s m1.took b).2.blocks.length:=by rw[dN];exact hb1
  generalize aE s m1.took b=r at had hs n q hb2;subst hy;refine ab λy hy=>?_;simp;refine ag Q0 (gR n (b:=b) hb2 q Q1 (k:=7) Q2) ?_;rintro _ h5 ⟨rfl,n⟩;subst hy;refine ab λy hy=>?_;simp;have q5:=q.constant (b:=b) (n:=7);refine ag Q0 (iz n q5 Q1) ?_;rintro _ h6 ⟨rfl,n⟩;have hn5:(r.2.constant b 7).next=r.2.next+1:=rfl;rw[hn5];subst hy;refine ab λy hy=>?_;simp;have i5:=q5.jU Q1;rw[hn5]at i5;refine n.lit (ls:=[r.1,r.2.next]) Sb (by simp[hs,q.jU (by omega:c+1+3+1+10<=1000000)]) rfl Q2 λua un uc h7 _ n=>?_;refine aQ (z:=zz5) (places:=zpa) (vs:=[(0,Qy Qz 5),(1,Qy Qz (r.2.next+1)),(3,.slice ua un uc)]) (cs:=#[Qy Qz 5,Qy Qz (r.2.next+1),Qy Qz 0,.slice ua un uc,Qy QA 0]) Q0 Q0 Sb Q0 ?_;refine ag Q0 (lD n (b:=b) (imm:=0) (by rw[show(r.2.constant b 7).aH.blocks=(r.2.constant b 7).blocks from rfl,dH];exact hb2) q5.aH Q1 i64c i5 i64c Q2) ?_;rintro _ h8 n;have n:Nx s M vs W0 h8 o0 ((r.2.constant b 7).two b 5 r.1 r.2.next):=n;have q6:=q5.two (b:=b) (op:=5) (x:=r.1) (y:=r.2.next);have hb3:b<((r.2.constant b 7).two b 5 r.1 r.2.next).blocks.length:=by rw[nN,dH];exact hb2
  generalize (r.2.constant b 7).two b 5 r.1 r.2.next=m3 at had n q6 hb3;have n:=n.z;subst hy;refine ab λy hy=>?_;simp;refine ag Q0 (iz n q6 Q1) ?_;rintro _ h9 ⟨rfl,n⟩;subst hy;refine ab λy hy=>?_;simp;refine n.lit (ls:=[a0,r.2.next+1]) Sb (by simp[hnx,i5]) rfl Q2 λua2 un2 uc2 h10 _ n=>?_;refine aQ (z:=zz5) (places:=zpa) (vs:=[(0,Qy Qz 2),(1,Qy Qz m3.next),(3,.slice ua2 un2 uc2)]) (cs:=#[Qy Qz 2,Qy Qz m3.next,Qy Qz 0,.slice ua2 un2 uc2,Qy QA 0]) Q0 Q0 Sb Q0 ?_;refine ag Q0 (lD n (b:=b) (imm:=0) hb3 q6.aH Q1 i64c (q6.jU Q1) i64c Q2) ?_;rintro _ h11 n;subst hy;simp;refine fin m3.next (m3.two b 2 a0 (r.2.next+1)) h11 _ had (q6.jU Q1) (q6.two.mono Q1) (by rw[nN];exact hb3) n.z ?_ ?_ ?_ ?_;all_goals simp
 rw[if_neg c3]at had;refine aV (by simp[c3]) ?_;simp;exact fin a0 m1.took h3 _ had hnx (q.took.mono Q1) hb1 n Sb Sb Sb Sb
section
variable{s:List Int}{M:Nat}{vs:Value}{W0:View}{h:Heap}{o0:Own}{m:MS}{u:Value}{ds:List Int}
theorem Nz.le(n:Nz s M vs W0 h o0 m u ds):W0.le (vw h):=by obtain⟨W,o,h1,h2,_⟩:=n;exact Qx h1 h2.own.wle
theorem Nz.base(n:Nz s M vs W0 h o0 m u ds): ∃W o,Nz s M vs W h o m u ds/\SlRd W u ds/\∀{h' m' u' ds'},Nz s M vs W h' o m' u' ds'->Nz s M vs W0 h' o0 m' u' ds':=by obtain⟨W,o,h1,h2,h3,h4⟩:=n;refine⟨W,o,⟨W,o,View.le_refl _,h2,λ_ _=>rfl,h4⟩,h4,?_⟩;rintro h' m' u' ds' ⟨W',o',g1,g2,g3,g4⟩;exact⟨W',o',Qx h1 g1,g2,λk hk=>(g3 k hk).trans (h3 k hk),g4⟩
end
theorem GF{H:View}{B n:Nat}{l:List Int}{t:TypeId}(hb:H B=QB (.cells (l.map λx=>Qy Qz x).toArray t (0,0)))(hn:l.length=n)(h1:0<n/\n<=1000)(hr : ∀x∈l,I64 x):SlRd H (QD (QB ⟨B,0,QC⟩) n n) l:=by
 refine⟨QB ⟨B,0,QC⟩,n,by rw[hn],by omega,by omega,.inr ⟨⟨B,0,QC⟩,rfl,rfl,λi hi=>?_⟩⟩;have e:(⟨B,0,QC⟩:Addr).add (i*Rep.n Int)=⟨B,i,QC⟩:=by show(⟨B,0,QC⟩:Addr).add (i*1)=_;simp
 rw[e];refine⟨[Qy Qz l[i]],⟨_,t,(0,0),rfl,hb,?_⟩,(dJ (v:=Qy Qz l[i]) (H:=H)).2 ⟨rfl,hr _ (Oi hi)⟩ |> λq=>?_⟩
 ·show((l.map λx=>Qy Qz x).toArray.toList.drop i).take 1=_;rw[List.toList_toArray,NK (by simpa using hi)];simp
 exact⟨rfl,hr _ (Oi hi)⟩
theorem GM: ∀x∈opsL,I64 x:=by
 intro x hx;have : ∀x∈opsL,0<=x/\x<=12:=by decide
 have:=this x hx;exact Q5
variable{vb vl:Value}{lb:List BlkM}
theorem MkB.frame{M:Nat}{m:MS}{o o':Own}(b:MkB M vs m o vb vl lb)(hf : ∀k:Key,k.1<3->o' k=o k):MkB M vs m o' vb vl lb:=
 ⟨(hf _ Q2).trans b.box,(hf _ Q2).trans b.live,(hf _ Q2).trans b.blk,b.len,b.term,λi hi=>(hf _ (by show 1<3;decide)).trans (b.phis i hi),λi hi=>(hf _ (by show 2<3;decide)).trans (b.ins i hi)⟩
theorem Aj{s:List Int}{x:List Int × MS}: ∀k,(up (fI s b) k x).2.blocks.length=x.2.blocks.length:=by
 intro k;induction k with
 | zero=>rfl
 | succ k ih=>show(aE s (up (fI s b) k x).2 b).2.blocks.length=_;rw[dN,ih]
theorem Dl{s:List Int}{c:Nat}{x:List Int × MS}(hx:x.2.ok c): ∀k,(up (fI s b) k x).2.ok (c+10*k)/\(up (fI s b) k x).1.length=x.1.length+k/\(up (fI s b) k x).2.blocks.length=x.2.blocks.length:=by
 intro k;induction k with
 | zero=>exact⟨hx,rfl,rfl⟩
 | succ k ih=>
  obtain⟨h1,h2,h3⟩:=ih;refine⟨(h1.aE).mono Q1,?_,?_⟩
  ·show((up (fI s b) k x).1++[_]).length=_;rw[M3,h2,M6];omega
  show(aE s (up (fI s b) k x).2 b).2.blocks.length=_;rw[dN,h3]
theorem wY{s:List Int}{M:Nat}{W0:View}{h:Heap}{o0:Own}{m:MS}(n:Nx s M vs W0 h o0 m){c:Nat}(hb:b<m.blocks.length)(hm:m.ok c)(hc:c<=800000)(hfree:o0 (9,0)=QC):
  aw QH N.aX #[QT M,Qy Qz b] h (λv h'=>Nx s M vs W0 h' o0 (aF s b m)):=by
 refine ak (args:=[QT M,Qy Qz b]) follows F.aX E.aX Q9 λK hK=>?_;dsimp only[L.aX];have n:=n.z;have hmm:aF s b m=_:=aF.eq_1 s b m;refine ab λz hz=>?_;simp;refine ag Q0 (eZ n hm Q1 (k:=20) Q2 Q2) ?_;rintro _ h1 ⟨rfl,n⟩;obtain⟨k0,k1⟩:=bc (s:=s) (at_:=m.at_) (n:=20) Q2;have q:=hm.took;have hb1:b<m.took.blocks.length:=hb;subst hz;generalize aB s m.at_ 20=k at hmm k0 k1;generalize hm1:m.took=m1 at hmm n q hb1;have hw:fo s m1=fo s m1:=rfl;simp only[aL];refine ab λz hz=>?_;simp;subst hz;by_cases c1:k<12
 ·rw[if_pos c1]at hmm;refine aZ (by simp[c1]) ?_;obtain⟨kn,rfl⟩ : ∃kn:Nat,k=kn:=⟨k.toNat,by omega⟩;have hkn:kn<12:=by omega
  refine ab λz hz=>?_;simp;have hcs:(#[Qy Qz 2,Qy Qz 2,Qy Qz 3,Qy Qz 4,Qy Qz 5,Qy Qz 6,Qy Qz 7,Qy Qz 8,Qy Qz 9,Qy Qz 10,Qy Qz 12,Qy Qz 11]:Array Value)=(opsL.map λx=>Qy Qz x).toArray:=rfl;refine aQ (z:=zz8) (places:=[(0,1),(1,1),(2,1),(3,1),(4,1),(5,1),(6,1),(7,1),(8,1),(9,1),(10,1),(11,1)]) (vs:=[(0,Qy Qz 2),(1,Qy Qz 2),(2,Qy Qz 3),(3,Qy Qz 4),(4,Qy Qz 5),(5,Qy Qz 6),(6,Qy Qz 7),(7,Qy Qz 8),(8,Qy Qz 9),(9,Qy Qz 10),(10,Qy Qz 12),(11,Qy Qz 11)])
   (cs:=#[Qy Qz 2,Qy Qz 2,Qy Qz 3,Qy Qz 4,Qy Qz 5,Qy Qz 6,Qy Qz 7,Qy Qz 8,Qy Qz 9,Qy Qz 10,Qy Qz 12,Qy Qz 11]) Q0 Q0 Sb Q0 ?_;refine j6 (v:=.agg #[Qy Qz 2,Qy Qz 2,Qy Qz 3,Qy Qz 4,Qy Qz 5,Qy Qz 6,Qy Qz 7,Qy Qz 8,Qy Qz 9,Qy Qz 10,Qy Qz 12,Qy Qz 11]) (z:=.agg #[Qy Qz 0,Qy Qz 0,Qy Qz 0,Qy Qz 0,Qy Qz 0,Qy Qz 0,Qy Qz 0,Qy Qz 0,Qy Qz 0,Qy Qz 0,Qy Qz 0,Qy Qz 0]) (n:=12) Q0 rfl Q0 rfl Q7 Q4 Q4 λh2 hle2 hs2 hb2=>?_
  have n:Nz s M vs W0 h2 o0 m1 (QD (QB ⟨h1.size,0,QC⟩) 12 12) opsL:=by
   obtain⟨W,o,g1,g2,g3,g4⟩:=n;refine⟨_,o,Qx g1 (bE g2.own.wle),⟨g2.own.ext hle2,g2.src.mono (bE g2.own.wle),g2.box⟩,g3,?_⟩;have hg:grow W h1 h2 h1.size=QB (.cells (opsL.map λx=>Qy Qz x).toArray T.II (0,0)):=by rw[gJ (MY _),hb2];rfl
   exact GF hg rfl Q2 GM
  generalize h1.size=B at n;subst hz;refine ab λz hz=>?_;simp;refine ag Q0 (jh n hb1 q Q1) ?_;rintro _ h3 ⟨⟨rfl,i2⟩,n⟩;have q:=q.aE (s:=s) (b:=b);have hb2:b<(aE s m1 b).2.blocks.length:=by rw[dN];exact hb1
  simp only[binS]at hmm;generalize aE s m1 b=r1 at hmm n q hb2 i2;subst hz;refine ab λz hz=>?_;simp;refine ag Q0 (jh n hb2 q Q1) ?_;rintro _ h4 ⟨⟨rfl,i3⟩,n⟩;have q:=q.aE (s:=s) (b:=b);have hb3:b<(aE s r1.2 b).2.blocks.length:=by rw[dN];exact hb2
  generalize aE s r1.2 b=r2 at hmm n q hb3 i3;subst hz;refine ab λz hz=>?_;have fin : ∀(e:Int) (m3:MS) (h':Heap) (ρ:Env),aF s b m=m3.two b (nth opsL kn) r1.1 e->I64 e->m3.ok (c+60)->b<m3.blocks.length->Nz s M vs W0 h' o0 m3 (QD (QB ⟨B,0,QC⟩) 12 12) opsL->Lft.look ρ 0=QB (QT M)->Lft.look ρ 1=QB (Qy Qz b)->Lft.look ρ 4=QB (Qy Qz kn)->Lft.look ρ 5=QB (QT B)->Lft.look ρ 6=QB (Qy Qz r1.1)->Lft.look ρ 7=QB (Qy Qz e)->LC.wp QH z (dU 0 (fu [] K)) ρ h':=by
   intro e m3 h' ρ hmm ie q hb n r0 r1' r4 r5 r6 r7;subst hz;obtain⟨W,o,n,sl,back⟩:=n.base;have iop:=sl.range (i:=kn) (by show kn<12;omega);have hop:aj W ⟨B,kn,QC⟩=QB (Qy Qz (nth opsL kn)):=by have:=sl.int (View.le_refl W) (i:=kn) (by show kn<12;omega);simpa[slA]using this
   have hix:Bn.ev (.aidx 12 1) (QT B) (Qy Qz kn)=QB (QE (QB ⟨B,kn,QC⟩)):=by simp only[Bn.ev,vP,vI,Nn];rw[if_pos Q5];simp
   generalize nth opsL kn=op at hmm iop hop;refine bz W n.le ?_;simp[ar,au,r0,r1',r4,r5,r6,r7,hix,hop];constructor
   ·refine ag Q0 (iz n q Q1) ?_;rintro _ h4 ⟨rfl,n⟩;refine⟨n.le,?_⟩;refine n.lit (ls:=[r1.1,e]) Sb (by simp[i2,ie]) rfl Q2 λua un uc h5 _ n=>⟨n.le,?_⟩;refine aQ (z:=zz5) (places:=zpa) (vs:=[(0,Qy Qz op),(1,Qy Qz m3.next),(3,.slice ua un uc)]) (cs:=#[Qy Qz op,Qy Qz m3.next,Qy Qz 0,.slice ua un uc,Qy QA 0]) Q0 Q0 Sb Q0 ?_;refine ag Q0 (lD n (b:=b) hb q.aH Q1 iop (q.jU Q1) i64c Q2) ?_;rintro _ h6 n;exact hK _ _ (by rw[hmm];exact(back n.z).x)
   refine n.lit (ls:=[r1.1,e]) Sb (by simp[i2,ie]) rfl Q2 λua un uc h5 _ n=>⟨n.le,?_⟩;refine ag Q0 (iz n q Q1) ?_;rintro _ h4 ⟨rfl,n⟩;refine⟨n.le,?_⟩;refine aQ (z:=zz5) (places:=zpa) (vs:=[(0,Qy Qz op),(1,Qy Qz m3.next),(3,.slice ua un uc)]) (cs:=#[Qy Qz op,Qy Qz m3.next,Qy Qz 0,.slice ua un uc,Qy QA 0]) Q0 Q0 Sb Q0 ?_;refine ag Q0 (lD n (b:=b) hb q.aH Q1 iop (q.jU Q1) i64c Q2) ?_;rintro _ h6 n;exact hK _ _ (by rw[hmm];exact(back n.z).x)
  refine ab λy hy=>?_;simp;refine ag Q0 (eZ n q Q1 (k:=3) Q2 Q2) ?_;rintro _ h5 ⟨rfl,n⟩;simp;subst hy;by_cases c4:aB s r2.2.at_ 3=0
  ·rw[if_pos c4]at hmm;refine aZ (by simp[c4]) ?_;simp;refine ag Q0 (eZ n q.took Q1 (k:=40) Q2 Q2) ?_;rintro _ h6 ⟨rfl,n⟩;have hx:r2.2.took.at_=r2.2.at_+1:=rfl;rw[hx];simp;refine ag Q0 (gR n (b:=b) hb3 q.took.took Q1 (k:=IntKind.i32.wrap (IntKind.i64.wrap (aB s (r2.2.at_+1) 40-8))) js) ?_;rintro _ h7 ⟨rfl,n⟩;refine fin r2.2.next _ h7 _ hmm (q.jU Q1) (q.took.took.constant.mono Q1) (by rw[dH];exact hb3) n ?_ ?_ ?_ ?_ ?_ ?_;all_goals simp
   rfl
  rw[if_neg c4]at hmm;refine aV (by simp[c4]) ?_;simp;refine fin r2.1 _ h5 _ hmm i3 (q.took.mono Q1) hb3 n ?_ ?_ ?_ ?_ ?_ ?_;all_goals simp
 rw[if_neg c1]at hmm;refine aV (by simp[c1]) ?_;refine ab λz hz=>?_;simp;subst hz;by_cases c2:k=12
 ·rw[if_pos c2]at hmm;refine aZ (by simp[c2]) ?_;refine ab λz hz=>?_;simp;refine ag Q0 (jh n hb1 q Q1) ?_;rintro _ h2 ⟨⟨rfl,i2⟩,n⟩;have q:=q.aE (s:=s) (b:=b);have hb2:b<(aE s m1 b).2.blocks.length:=by rw[dN];exact hb1
  simp only[ltuS]at hmm;generalize aE s m1 b=r1 at hmm n q hb2 i2;subst hz;refine ab λz hz=>?_;simp;refine ag Q0 (jh n hb2 q Q1) ?_;rintro _ h3 ⟨⟨rfl,i3⟩,n⟩;have q:=q.aE (s:=s) (b:=b);have hb3:b<(aE s r1.2 b).2.blocks.length:=by rw[dN];exact hb2
  generalize aE s r1.2 b=r2 at hmm n q hb3 i3;subst hz;simp;refine ag Q0 (iz n q Q1) ?_;rintro _ h4 ⟨rfl,n⟩;refine n.lit (ls:=[r1.1,r2.1]) Sb (by simp[i2,i3]) rfl Q2 λua un uc h5 _ n=>?_;refine aQ (z:=zz5) (places:=zpa) (vs:=[(0,Qy Qz 13),(1,Qy Qz r2.2.next),(3,.slice ua un uc)]) (cs:=#[Qy Qz 13,Qy Qz r2.2.next,Qy Qz 0,.slice ua un uc,Qy QA 0]) Q0 Q0 Sb Q0 ?_;refine ag Q0 (lD n (b:=b) hb3 q.aH Q1 i64c (q.jU Q1) i64c Q2) ?_;rintro _ h6 n;exact hK _ _ (by rw[hmm];exact n)
 rw[if_neg c2]at hmm;refine aV (by simp[c2]) ?_;refine ab λz hz=>?_;simp;subst hz;by_cases c3:k=13
 ·rw[if_pos c3]at hmm;refine aZ (by simp[c3]) ?_;refine ab λz hz=>?_;simp;refine ag Q0 (jh n hb1 q Q1) ?_;rintro _ h2 ⟨⟨rfl,i2⟩,n⟩;have q:=q.aE (s:=s) (b:=b);have hb2:b<(aE s m1 b).2.blocks.length:=by rw[dN];exact hb1
  simp only[divS]at hmm;generalize aE s m1 b=r1 at hmm n q hb2 i2;subst hz;refine ab λz hz=>?_;simp;refine ag Q0 (eZ n q Q1 (k:=12) Q2 Q2) ?_;rintro _ h3 ⟨rfl,n⟩;simp;refine ag Q0 (gR n (b:=b) hb2 q.took Q1 (k:=IntKind.i32.wrap (aB s r1.2.at_ 12)) js) ?_;rintro _ h4 ⟨rfl,n⟩;have i4:I64 r1.2.took.next:=q.took.jU Q1;have q:=q.took.constant (b:=b) (n:=IntKind.i32.wrap (aB s r1.2.at_ 12));have hb3:b<(r1.2.took.constant b (IntKind.i32.wrap (aB s r1.2.at_ 12))).blocks.length:=by rw[dH];exact hb2
  have ht:r1.2.took.next=r1.2.next:=rfl;rw[ht]at i4 ⊢;generalize r1.2.took.constant b (IntKind.i32.wrap (aB s r1.2.at_ 12))=m2 at hmm n q hb3;generalize r1.2.next=d at hmm i4;subst hz;refine ab λz hz=>?_;have fin : ∀(e:Int) (m3:MS) (h':Heap) (ρ:Env),aF s b m=m3.two b 14 r1.1 e->I64 e->m3.ok (c+60)->b<m3.blocks.length->Nz s M vs W0 h' o0 m3 (QD QC 0 0) []->Lft.look ρ 0=QB (QT M)->Lft.look ρ 1=QB (Qy Qz b)->Lft.look ρ 10=QB (Qy Qz r1.1)->Lft.look ρ 11=QB (Qy Qz e)->LC.wp QH z (dU 0 (fu [] K)) ρ h':=by intro e m3 h' ρ hmm ie q hb n r0 r1' r10 r11;subst hz;simp[ar,au,r0,r1',r10,r11];refine ag Q0 (iz n q Q1) ?_;rintro _ h4 ⟨rfl,n⟩;refine n.lit (ls:=[r1.1,e]) Sb (by simp[i2,ie]) rfl Q2 λua un uc h5 _ n=>?_;refine aQ (z:=zz5) (places:=zpa) (vs:=[(0,Qy Qz 14),(1,Qy Qz m3.next),(3,.slice ua un uc)]) (cs:=#[Qy Qz 14,Qy Qz m3.next,Qy Qz 0,.slice ua un uc,Qy QA 0]) Q0 Q0 Sb Q0 ?_;refine ag Q0 (lD n (b:=b) hb q.aH Q1 i64c (q.jU Q1) i64c Q2) ?_;rintro _ h6 n;exact hK _ _ (by rw[hmm];exact n)
  refine ab λy hy=>?_;simp;refine ag Q0 (eZ n q Q1 (k:=3) Q2 Q2) ?_;rintro _ h5 ⟨rfl,n⟩;simp;subst hy;by_cases c4:0<aB s m2.at_ 3
  ·rw[if_pos c4]at hmm;refine aZ (by simp[c4]) ?_;simp;refine ag Q0 (eZ n q.took Q1 (k:=12) Q2 Q2) ?_;rintro _ h6 ⟨rfl,n⟩;have hx:m2.took.at_=m2.at_+1:=rfl;rw[hx];simp;refine ag Q0 (gR n (b:=b) hb3 q.took.took Q1 (k:=IntKind.i32.wrap (1+IntKind.i32.wrap (aB s (m2.at_+1) 12))) js) ?_;rintro _ h7 ⟨rfl,n⟩;refine fin m2.next _ h7 _ hmm (q.jU Q1) (q.took.took.constant.mono Q1) (by rw[dH];exact hb3) n ?_ ?_ ?_ ?_;all_goals simp
   rfl
  rw[if_neg c4]at hmm;refine aV (by simp[c4]) ?_;simp;refine fin d _ h5 _ hmm i4 (q.took.mono Q1) hb3 n ?_ ?_ ?_ ?_;all_goals simp
 rw[if_neg c3]at hmm;refine aV (by simp[c3]) ?_;refine ab λz hz=>?_;simp;subst hz;by_cases c4:k<16
 ·rw[if_pos c4]at hmm;refine aZ (by simp[c4]) ?_;simp;refine ag Q0 (EP n.x (store:=decide (k=15)) hb1 q Q1) ?_;rintro _ h2 n;exact hK _ _ (by rw[hmm];exact n)
 rw[if_neg c4]at hmm;refine aV (by simp[c4]) ?_;refine ab λz hz=>?_;simp;subst hz;by_cases c5:k=16
 ·rw[if_pos c5]at hmm;refine aZ (by simp[c5]) ?_;refine ab λz hz=>?_;simp;obtain⟨W,o,g1,w,f,-⟩:=n;have hk9:o (9,0)=none:=(f _ Q2).trans hfree;refine w.own.kf (k:=(9,0)) (α:=Int) hk9 El.bn λv h2 hle2 hv w2 _=>?_;have w2:Mk s M vs W h2 (o.upd (9,0) (it T.int v ([]:List Int))) m1:=by obtain⟨vb,vl,lb,bb⟩:=w.box;exact⟨w2,w.src,vb,vl,lb,bb.frame λk hk=>Own.af (by rintro rfl;simp at hk)⟩
  subst hz;refine ab λz hz=>?_;simp;refine ag Q0 (w2.take (by have:=q.at_;omega) (n:=5) Q2 Q2) ?_;rintro _ h3 ⟨rfl,o3,w3,f3⟩;simp only[mT]at hmm;have q:=q.took;have hb2:b<m1.took.blocks.length:=hb1;obtain⟨t0,t1⟩:=bc (s:=s) (at_:=m1.at_) (n:=5) Q2;generalize aB s m1.at_ 5=t at hmm t0 t1;obtain⟨tn,rfl⟩ : ∃tn:Nat,t=tn:=⟨t.toNat,by omega⟩;rw[show((tn:Int)).toNat=tn by omega]at hmm;have hup:=Dl (s:=s) (b:=b) (x:=([],m1.took)) q;generalize m1.took=m2 at hmm q hb2 hup w3;subst hz;refine ab λz hz=>?_;simp;refine dq [0,1,4,12,13,14] (fun(v:Value) i=>[QT M,Qy Qz b,Qy Qz k,v,Qy Qz tn,Qy Qz i]) (λv i h4=>∃W' o',W0.le W'/\Mk s M vs W' h4 o' (up (fI s b) i ([],m2)).2/\o' (9,0)=it T.int v (up (fI s b) i ([],m2)).1/\∀q:Key,3<=q.1->q≠(9,0)->o' q=o0 q) tn v
   rfl Q1 rfl ⟨W,o3,g1,w3,(f3 _ Q2).trans Own.ah,λq h1 h2=>(f3 q h1).trans ((Own.af h2).trans (f q h1))⟩ (λ_ _=>rfl) (λv k h hk m=>by simp) ?_ ?_
  ·rintro v i h4 hlt ⟨W4,o4,g4,w4,e4,f4⟩ K2 hK2;obtain⟨qi,li,bi⟩:=hup i;have e5:up (fI s b) (i+1) ([],m2)=((up (fI s b) i ([],m2)).1++[(aE s (up (fI s b) i ([],m2)).2 b).1],(aE s (up (fI s b) i ([],m2)).2 b).2):=rfl;have hb4:b<(up (fI s b) i ([],m2)).2.blocks.length:=by rw[bi];exact hb2
   generalize up (fI s b) i ([],m2)=x at w4 e4 e5 qi li bi hb4;have li:x.1.length=i:=by simpa using li
   simp;refine ag Q0 (Dv w4 hb4 qi Q1) ?_;rintro _ h5 ⟨rfl,i5,W5,o5,g5,w5,f5⟩;have e6:o5 (9,0)=it T.int v x.1:=(f5 _ Q2).trans e4;refine w5.own.iN (k:=(9,0)) (α:=Int) (d:=(aE s x.2 b).1) e6 El.bn rfl (dJ.2 ⟨rfl,i5⟩) Q1 Q1 (λ_=>rfl) (λ_=>rfl) λu v' h6 w6 _=>?_;refine hK2 v' _ _ rfl rfl ⟨W5,_,Qx g4 g5,⟨w6,w5.src,?_⟩,?_,?_⟩
   ·obtain⟨vb,vl,lb,bb⟩:=w5.box;rw[e5];exact⟨vb,vl,lb,bb.frame λk hk=>Own.af (by rintro rfl;simp at hk)⟩
   ·rw[e5];exact Own.ah
   intro q h1 h2;exact(Own.af h2).trans ((f5 q h1).trans (f4 q h1 h2))
  rintro v h4 ⟨W4,o4,g4,w4,e4,f4⟩;obtain⟨qi,li,bi⟩:=hup tn;have hb4:b<(up (fI s b) tn ([],m2)).2.blocks.length:=by rw[bi];exact hb2
  generalize up (fI s b) tn ([],m2)=x at w4 e4 qi li bi hb4 hmm;obtain⟨w5,sl⟩:=w4.own.freeze e4;have sl2:=sl;obtain⟨ua,uc,rfl,_⟩:=sl2;have hWp:=kS (h:=h4) (w4.own.av _ _ e4);have n:Nz s M vs W0 h4 o0 x.2 (.slice ua x.1.length uc) x.1:=by
   obtain⟨vb,vl,lb,bb⟩:=w4.box;refine⟨_,_,Qx g4 hWp,⟨w5,w4.src.mono hWp,vb,vl,lb,bb.frame λk hk=>Own.af (by rintro rfl;simp at hk)⟩,λq h1=>?_,sl⟩;by_cases e:q=(9,0)
   ·rw[e,Own.ah,hfree]
   exact(Own.af e).trans (f4 q h1 e)
  generalize x.1.length=un at n;simp;subst hz;simp;refine ag Q0 (iz n qi Q1) ?_;rintro _ h5 ⟨rfl,n⟩;refine ag Q0 (eZ n qi.aH Q1 (k:=5) Q2 Q2) ?_;rintro _ h6 ⟨rfl,n⟩;have hx:x.2.aH.at_=x.2.at_:=rfl;rw[hx];simp;refine aQ (z:=zz5) (places:=zpa) (vs:=[(0,Qy Qz 17),(1,Qy Qz x.2.next),(3,.slice ua un uc),(4,Qy QA (IntKind.i32.wrap (aB s x.2.at_ 5)))]) (cs:=#[Qy Qz 17,Qy Qz x.2.next,Qy Qz 0,.slice ua un uc,Qy QA (IntKind.i32.wrap (aB s x.2.at_ 5))]) Q0 Q0 Sb Q0 ?_;refine ag Q0 (lD n (b:=b) hb4 qi.aH.took Q1 i64c (qi.jU Q1) i64c js) ?_;rintro _ h7 n;exact hK _ _ (by rw[hmm];exact n)
 rw[if_neg c5]at hmm;refine aV (by simp[c5]) ?_;refine ab λz hz=>?_;simp;subst hz;by_cases c6:k=17
 ·rw[if_pos c6]at hmm;refine aZ (by simp[c6]) ?_;refine ab λz hz=>?_;simp;refine ag Q0 (jh n hb1 q Q1) ?_;rintro _ h2 ⟨⟨rfl,i2⟩,n⟩;have q:=q.aE (s:=s) (b:=b);have hb2:b<(aE s m1 b).2.blocks.length:=by rw[dN];exact hb1
  simp only[sy]at hmm;generalize aE s m1 b=r1 at hmm n q hb2 i2;subst hz;refine ab λz hz=>?_;simp;refine ag Q0 (jh n hb2 q Q1) ?_;rintro _ h3 ⟨⟨rfl,i3⟩,n⟩;have q:=q.aE (s:=s) (b:=b);have hb3:b<(aE s r1.2 b).2.blocks.length:=by rw[dN];exact hb2
  generalize aE s r1.2 b=r2 at hmm n q hb3 i3;subst hz;refine ab λz hz=>?_;simp;refine ag Q0 (iz n q Q1) ?_;rintro _ h4 ⟨rfl,n⟩;subst hz;simp;refine ag Q0 (iz n q.aH Q1) ?_;rintro _ h5 ⟨rfl,n⟩;have hx:r2.2.aH.next=r2.2.next+1:=rfl;rw[hx];have j5:=q.aH.jU Q1;rw[hx]at j5;refine n.lit (ls:=[r1.1,r2.1]) Sb (by simp[i2,i3]) rfl Q2 λua un uc h5 _ n=>?_;refine aQ (z:=zz5) (places:=zpa) (vs:=[(0,Qy Qz 18),(1,Qy Qz r2.2.next),(2,Qy Qz (r2.2.next+1)),(3,.slice ua un uc)]) (cs:=#[Qy Qz 18,Qy Qz r2.2.next,Qy Qz (r2.2.next+1),.slice ua un uc,Qy QA 0]) Q0 Q0 Sb Q0 ?_;refine ag Q0 (lD n (b:=b) hb3 q.aH.aH Q1 i64c (q.jU Q1) j5 Q2) ?_;rintro _ h6 n;exact hK _ _ (by rw[hmm];exact n)
 rw[if_neg c6]at hmm;refine aV (by simp[c6]) ?_;simp;refine ag Q0 (zk n q Q1) ?_;rintro _ h2 ⟨rfl,n⟩;refine ag Q0 (gR n (b:=b) hb1 q.took.took Q1 (k:=fo s m1) kN) ?_;rintro _ h3 ⟨rfl,n⟩;exact hK _ _ (by rw[hmm];exact n.x)
section
variable{s:List Int}{m:MS}{b c:Nat}
theorem nA:m.took.blocks.length=m.blocks.length:=rfl
theorem pD:m.aH.blocks.length=m.blocks.length:=rfl
theorem MS.ok.addr(h:m.ok c):(jw s m b).2.ok (c+30):=by
 unfold jw;simp only;split
 ·exact((((h.took.constant).took.aE).constant).two.two).mono Q1
 exact(h.took.constant.took).mono Q1
theorem F9:(jw s m b).2.blocks.length=m.blocks.length:=by unfold jw;simp only;split<;>simp[nN,dH,dN,nA]
theorem MS.ok.off(h:m.ok c):(offS s m).2.ok (c+4):=by
 unfold offS;split
 ·exact h.took.took.took.took
 exact h.took.took.mono Q1
theorem Ie:(offS s m).2.blocks.length=m.blocks.length:=by unfold offS;split<;>rfl
theorem MS.ok.memory{st:Bool}(h:m.ok c):(iL s m b st).ok (c+60):=by
 unfold iL;simp only;split
 ·exact(((h.addr).off.aE).add).mono Q1
 exact(((h.addr).off.aH).add).mono Q1
theorem BK{st:Bool}:(iL s m b st).blocks.length=m.blocks.length:=by unfold iL;simp only;split<;>simp[kP,dN,Ie,F9,pD]
theorem MS.ok.bin(h:m.ok c):(binS s m b op).ok (c+60):=by
 unfold binS;simp only;split
 ·exact((h.aE.aE).took.took.constant.two).mono Q1
 exact((h.aE.aE).took.two).mono Q1
theorem IQ:(binS s m b op).blocks.length=m.blocks.length:=by unfold binS;simp only;split<;>simp[nN,dH,dN,nA]
theorem MS.ok.div(h:m.ok c):(divS s m b).ok (c+60):=by
 unfold divS;simp only;split
 ·exact((h.aE).took.constant.took.took.constant.two).mono Q1
 exact((h.aE).took.constant.took.two).mono Q1
theorem ID:(divS s m b).blocks.length=m.blocks.length:=by unfold divS;simp only;split<;>simp[nN,dH,dN,nA]
theorem MS.ok.mT(h:m.ok c):(mT s m b).ok (c+70):=by unfold Go.Lft.mT;simp only;have ht:=bc (s:=s) (at_:=m.at_) (n:=5) Q2;have:=(Dl (s:=s) (b:=b) (x:=([],m.took)) h.took (aB s m.at_ 5).toNat).1;exact(this.aH.took.add).mono Q1
theorem Hm:(mT s m b).blocks.length=m.blocks.length:=by unfold mT;simp only;rw[kP,nA,pD];exact Aj (s:=s) (b:=b) (x:=([],m.took)) _
theorem MS.ok.gW(h:m.ok c):(aF s b m).ok (c+80):=by
 unfold aF;simp only;repeat' split
 ·exact h.took.bin.mono Q1
 ·unfold ltuS;exact(h.took.aE.aE.two).mono Q1
 ·exact h.took.div.mono Q1
 ·exact h.took.memory.mono Q1
 ·exact h.took.mT.mono Q1
 ·unfold sy;exact(h.took.aE.aE.aH.aH.add).mono Q1
 exact h.took.took.took.constant.mono Q1
theorem oz:(aF s b m).blocks.length=m.blocks.length:=by
 unfold aF;simp only;repeat' split
 all_goals simp[IQ,ltuS,ID,BK,Hm,sy,nN,dH,dN,nA,pD,kP]
end
def MS.ff(m:MS)(b:Nat)(t:cK):MS:={ m with blocks:=m.blocks.set b { nth m.blocks b with term:=t } }
def cmpL:List Int:=[11,12,13]
def eN(s:List Int)(to:List Int)(b:Nat)(m:MS):cK × MS:=
 if to.length=0 then
  if aB s m.at_ 8=0 then(⟨5,[],[],⟨IntKind.i32.wrap (aB s (m.at_+1) 200)⟩⟩,m.took.took)
  else if 1<aB s m.at_ 8 then(⟨4,[(aE s m.took b).1],[],⟨0⟩⟩,(aE s m.took b).2)
  else(⟨4,[],[],⟨0⟩⟩,m.took)
 else if to.length=1 then(⟨1,[],to,⟨0⟩⟩,m)
 else if to.length=2 then
  let r:=aE s m b
  if aB s r.2.at_ 2=0 then
   let w:=aE s r.2.took b
   (⟨2,[w.2.next],to,⟨0⟩⟩,w.2.aH.took.add b ⟨nth cmpL (aB s w.2.at_ 3).toNat,w.2.next,0,[r.1,w.1],⟨0⟩⟩)
  else(⟨2,[r.1],to,⟨0⟩⟩,r.2.took)
 else
  let r:=aE s m b
  let m2:=r.2.constant b 7
  (⟨3,[m2.next],to,⟨0⟩⟩,m2.two b 5 r.1 r.2.next)
def mU(s:List Int)(to:List Int)(b:Nat)(m:MS):MS:=(eN s to b m).2.ff b (eN s to b m).1
section
variable{s:List Int}{M:Nat}{vs:Value}{W0:View}{h:Heap}{o0:Own}{m:MS}{u:Value}{ds:List Int}
theorem Nz.bG{po:OP}(n:Nz s M vs W0 h o0 m u ds){k:Key}{e:TypeId}{B N i:Nat}{l:List Value}{ty t:TypeId}{us:List (Nat × Value)}{x y:Operand}{v:Value}{K:Value->Heap->Prop}(h3:3<=k.1)(hk:o0 k=bx e B (RawN.mk (n:=N) l))(hi:i<=N)(hsz:dp QH t=QB 1)(hx:asg us x = QE (QB ⟨B,i,QC⟩))(hy:asg us y=v)(hv:v.oneCell'=QF)
  (hK : ∀h',Nz s M vs W0 h' (o0.upd k (bx e B (RawN.mk (n:=N) (l.set i v)))) m u ds->K undef h'):@Lft.step po QH (.store t x y) ty us h K:=by
 obtain⟨W,o,g1,w,f,sl⟩:=n;refine w.own.bG (k:=k) (n:=N) (i:=i) (e:=e) (B:=B) (l:=l) ((f k h3).trans hk) hi hsz hx hy hv λh' w' _=>hK h' ?_;obtain⟨vb,vl,lb,bb⟩:=w.box;refine⟨W,_,g1,⟨w',w.src,vb,vl,lb,bb.frame λq hq=>Own.af (by rintro rfl;omega)⟩,λq hq=>?_,sl⟩;unfold Own.upd;split
 ·rfl
 exact f q hq
theorem Nz.re(n:Nz s M vs W0 h o0 m u ds){o0':Own}(he : ∀k,o0' k=o0 k):Nz s M vs W0 h o0' m u ds:=by obtain⟨W,o,g1,w,f,sl⟩:=n;exact⟨W,o,g1,w,λk hk=>(f k hk).trans (he k).symm,sl⟩
theorem Mk.IS{po:OP}{W:View}{o:Own}(w:Mk s M vs W h o m)(bb:MkB M vs m o vb vl lb){t:cK}{v:Value}{ty ty2:TypeId}{us:List (Nat × Value)}{x y:Operand}{K:Value->Heap->Prop}(hb:b<m.blocks.length)(hsz:dp QH ty2=QB 4)(hx:asg us x = QE (QB (((slA vb).add (b*6)).add 2)))(hy:asg us y=v)(hr:Rd W v t)(hK : ∀h' o',Mk s M vs W h' o' (m.ff b t)->(∀k:Key,3<=k.1->o' k=o k)->K undef h'):@Lft.step po QH (.store ty2 x y) ty us h K:=by
 have hbl:b<lb.length:=by rw[bb.len];exact hb
 refine w.own.n8 (k:=(0,2)) (α:=BlkM) BlkM.mW (v:=vb) (l:=lb) (i:=b) (d:=t) bb.blk hsz hx hy hbl hr λh7 w7 _=>?_;refine hK h7 _ ⟨w7,w.src,vb,vl,_,bb.bj hb (x':={ nth m.blocks b with term:=t }) (y':={ lb[b]with term:=t }) rfl Own.ah ?_ ?_ λq h1 _ _=>Own.af h1⟩ (nw Q2)
 ·rw[Own.af Sb,bb.phis b hb,ao hbl]
 rw[Own.af Sb,bb.ins b hb,ao hbl]
end
theorem EN{H:View}{va vt:Value}{a t:List Int}{kd:Int}{imm:I32}(h3:SlRd H va a)(h4:SlRd H vt t)(h5:I64 kd)(h6:-2147483648<=imm.v/\imm.v<=2147483647):Rd H (.agg #[Qy Qz kd,va,vt,Qy QA imm.v]) (cK.mk kd a t imm):=
 ⟨_,rfl,[Qy Qz kd],_,rfl,⟨rfl,h5⟩,[va],_,rfl,⟨va,rfl,h3⟩,[vt],_,rfl,⟨vt,rfl,h4⟩,rfl,h6⟩
theorem Gw: ∀x∈cmpL,I64 x:=by
 intro x hx;have : ∀x∈cmpL,0<=x/\x<=13:=by decide
 have:=this x hx;exact Q5
theorem Ks{s:List Int}{M:Nat}{W0:View}{h:Heap}{o0:Own}{m:MS}{vt:Value}{to:List Int}(n:Nx s M vs W0 h o0 m){c:Nat}(hb:b<m.blocks.length)(hm:m.ok c)(hc:c<=800000)(hfree:o0 (9,1)=QC)(ht:SlRd W0 vt to):
  aw QH N.dE #[QT M,Qy Qz b,vt] h (λv h'=>Nx s M vs W0 h' o0 (mU s to b m)):=by
 refine ak (args:=[QT M,Qy Qz b,vt]) follows F.dE E.dE Q9 λK hK=>?_;dsimp only[L.dE];have hmm:mU s to b m=_:=mU.eq_1 s to b m;have htm:eN s to b m=_:=eN.eq_1 s to b m;obtain⟨Wb,ob,gb,wb,fb⟩:=n;refine ab λz hz=>?_;simp;refine aQ (z:=zz9) (places:=zpb) (vs:=[]) (cs:=#[Qy Qz 0,QD QC 0 0,QD QC 0 0,Qy QA 0]) Q0 Q0 Sb Q0 ?_;refine wb.own.vJ (k:=(9,1)) (n:=3) (l:=[Qy Qz 0,QD QC 0 0,QD QC 0 0,Qy QA 0]) ((fb _ Q2).trans hfree) (z:=zz9) Q0 rfl Q0 rfl Q2 Q6 Q4 Q4 λh1 q1 w1=>?_;generalize h.size=B at w1;obtain⟨o1,ho1⟩ : ∃o1,o1=ob.upd (9,1) (bx T.ke B (RawN.mk (n:=3) [Qy Qz 0,QD QC 0 0,QD QC 0 0,Qy QA 0])):=⟨_,rfl⟩;have k1:o1 (9,1)=bx T.ke B (RawN.mk (n:=3) [Qy Qz 0,QD QC 0 0,QD QC 0 0,Qy QA 0]):=by rw[ho1,Own.ah]
 have ht:=ht.mono gb;have n:Nz s M vs Wb h1 o1 m (QD QC 0 0) []:=by obtain⟨vb,vl,lb,bb⟩:=wb.box;rw[ho1];exact⟨Wb,_,View.le_refl _,⟨w1,wb.src,vb,vl,lb,bb.frame λq hq=>Own.af (by rintro rfl;simp at hq)⟩,λ_ _=>rfl,ia⟩
 have back : ∀{h':Heap} {W':View} {o':Own} {m':MS} {i:Option Lft.Item},Wb.le W'->Mk s M vs W' h' o' m'->(∀k:Key,3<=k.1->o' k=o1.upd (9,1) i k)->Nx s M vs W0 h' o0 m':=by
  intro h' W' o' m' i g w f;refine⟨W',o'.upd (9,1) QC,Qx gb g,⟨w.own.sub λq j hq=>?_,w.src,?_⟩,λk hk=>?_⟩
  ·unfold Own.upd at hq;split at hq
   ·cases hq
   exact hq
  ·obtain⟨vb,vl,lb,bb⟩:=w.box;exact⟨vb,vl,lb,bb.frame λq hq=>Own.af (by rintro rfl;simp at hq)⟩
  by_cases e:k=(9,1)
  ·rw[e,Own.ah,hfree]
  rw[Own.af e,f k hk,Own.af e,ho1,Own.af e,fb k hk]
 clear wb w1 q1;subst hz;refine ab λz hz=>?_;have fin : ∀(kd:Int) (va vt':Value) (args to':List Int) (im:Int) (m2:MS) (h':Heap) (ρ:Env),eN s to b m=(⟨kd,args,to',⟨im⟩⟩,m2)->I64 kd->(-2147483648<=im/\im<=2147483647)->b<m2.blocks.length->Nz s M vs Wb h' (o1.upd (9,1) (bx T.ke B (RawN.mk (n:=3) [Qy Qz kd,va,vt',Qy QA im]))) m2 va args->SlRd Wb vt' to'->Lft.look ρ 0=QB (QT M)->Lft.look ρ 1=QB (Qy Qz b)->Lft.look ρ 6=QB (QT B)->LC.wp QH z (fu [] K) ρ h':=by
  intro kd va vt' args to' im m2 h' ρ e ikd iim hb n ht' r0 r1 r6;subst hz;rw[e]at hmm;obtain⟨W,o,g1,w,f,sl⟩:=n;obtain⟨vb,vl,lb,bb⟩:=w.box;have hk:o (9,1)=bx T.ke B (RawN.mk (n:=3) [Qy Qz kd,va,vt',Qy QA im]):=(f _ Q2).trans Own.ah;have c4:=w.own.gg (k:=(9,1)) (n:=3) hk;have c4:Un.ev (vw h') (.ax 4) (QT B)=QB (.agg #[Qy Qz kd,va,vt',Qy QA im]):=c4;have c3:aj (vw h') ⟨M,3,QC⟩=QB vb:=bb.cell w.own (i:=3) Q2;have hbl:b<lb.length:=by rw[bb.len];exact hb
  have sb:=w.own.now bb.blk;have sbb:=sb.bound;refine bz (vw h') Qw ?_;simp(disch:=omega)[r0,r1,r6,c3,c4,sb.idxn (N:=6) rfl];refine w.IS bb (b:=b) (t:=⟨kd,args,to',⟨im⟩⟩) hb Q0 rfl rfl (EN (imm:=⟨im⟩) sl (ht'.mono g1) ikd iim) λh2 o2 w2 f2=>?_;refine hK _ _ ?_;rw[hmm];exact back g1 w2 λk hk=>(f2 k hk).trans (f k hk)
 have hlen : ∀{Q:View},Un.ev Q .len vt=QB (Qy Qz to.length):=fun{Q}=>ht.len;refine ab λy hy=>?_;simp[hlen];subst hy;simp only[aL];refine ab λy hy=>?_;simp;subst hy;by_cases c0:to.length=0
 ·have c0':to=[]:=Nl c0;rw[if_pos c0]at htm;refine aZ (by simp[c0,c0']) ?_;refine ab λy hy=>?_;simp;refine n.bG (k:=(9,1)) (i:=0) Q2 k1 Q2 Q0 rfl rfl rfl λh2 n=>?_;subst hy;refine ab λy hy=>?_;simp;refine ag Q0 (eZ n hm Q1 (k:=8) Q2 Q2) ?_;rintro _ h3 ⟨rfl,n⟩;obtain⟨t0,t1⟩:=bc (s:=s) (at_:=m.at_) (n:=8) Q2;subst hy;refine ab λy hy=>?_;simp;subst hy;have n:Nz s M vs Wb h3 (o1.upd (9,1) (bx T.ke B (RawN.mk (n:=3) [Qy Qz 4,QD QC 0 0,QD QC 0 0,Qy QA 0]))) m.took (QD QC 0 0) []:=n;by_cases c1:aB s m.at_ 8=0
  ·rw[if_pos c1]at htm;refine aZ (by simp[c1]) ?_;refine ab λy hy=>?_;simp;refine n.bG (k:=(9,1)) (i:=0) Q2 Own.ah Q2 Q0 rfl rfl rfl λh4 n=>?_;subst hy;simp;refine ag Q0 (eZ n hm.took Q1 (k:=200) Q2 Q2) ?_;rintro _ h5 ⟨rfl,n⟩;have hx:m.took.at_=m.at_+1:=rfl;rw[hx];simp;refine n.bG (k:=(9,1)) (i:=3) Q2 Own.ah Q2 Q0 rfl rfl rfl λh6 n=>?_;refine fin 5 (QD QC 0 0) (QD QC 0 0) [] [] _ _ h6 _ htm i64c js hb ?_ ia ?_ ?_ ?_
   ·exact n.re λk=>by rw[iR,iR];rfl
   all_goals simp
  rw[if_neg c1]at htm;refine aV (by simp[c1]) ?_;refine ab λy hy=>?_;simp;subst hy;by_cases c2:1<aB s m.at_ 8
  ·rw[if_pos c2]at htm;refine aZ (by simp[c2]) ?_;simp;refine ag Q0 (jh n (b:=b) hb hm.took Q1) ?_;rintro _ h4 ⟨⟨rfl,i4⟩,n⟩;have hb2:b<(aE s m.took b).2.blocks.length:=by rw[dN];exact hb
   generalize aE s m.took b=r at htm i4 n hb2;refine n.lit (ls:=[r.1]) Sb (by simp[i4]) rfl Q2 λua un uc h5 _ n=>?_;refine n.bG (k:=(9,1)) (i:=1) Q2 Own.ah Q2 Q0 rfl rfl rfl λh6 n=>?_;refine fin 4 (.slice ua un uc) (QD QC 0 0) [r.1] [] 0 _ h6 _ htm i64c Q2 hb2 (n.re λk=>by rw[iR];rfl) ia ?_ ?_ ?_;all_goals simp
  rw[if_neg c2]at htm;refine aV (by simp[c2]) ?_;simp;refine fin 4 (QD QC 0 0) (QD QC 0 0) [] [] 0 _ h3 _ htm i64c Q2 hb n ia ?_ ?_ ?_;all_goals simp
 rw[if_neg c0]at htm;have c0':¬to=[]:=λe=>c0 (by rw[e];rfl);have hvt:vt.oneCell'=true:=ht.cells.2;refine aV (by simp[c0']) ?_;refine ab λy hy=>?_;simp;subst hy;by_cases c1:to.length=1
 ·rw[if_pos c1]at htm;refine aZ (by simp[c1]) ?_;refine ab λy hy=>?_;simp;refine n.bG (k:=(9,1)) (i:=0) Q2 k1 Q2 Q0 rfl rfl rfl λh2 n=>?_;subst hy;simp;refine n.bG (k:=(9,1)) (i:=2) Q2 Own.ah Q2 Q0 rfl rfl hvt λh3 n=>?_;refine fin 1 (QD QC 0 0) vt [] to 0 _ h3 _ htm i64c Q2 hb (n.re λk=>by rw[iR];rfl) ht ?_ ?_ ?_;all_goals simp
 rw[if_neg c1]at htm;refine aV Q8 ?_;refine ab λy hy=>?_;simp;subst hy;by_cases c2:to.length=2
 ·rw[if_pos c2]at htm;refine aZ (by simp[c2]) ?_;refine ab λy hy=>?_;simp;refine n.bG (k:=(9,1)) (i:=0) Q2 k1 Q2 Q0 rfl rfl rfl λh2 n=>?_;subst hy;refine ab λy hy=>?_;simp;refine n.bG (k:=(9,1)) (i:=2) Q2 Own.ah Q2 Q0 rfl rfl hvt λh3 n=>?_;have n:Nz s M vs Wb h3 (o1.upd (9,1) (bx T.ke B (RawN.mk (n:=3) [Qy Qz 2,QD QC 0 0,vt,Qy QA 0]))) m (QD QC 0 0) []:=n.re λk=>by rw[iR];rfl
  subst hy;refine ab λy hy=>?_;simp;refine ag Q0 (jh n (b:=b) hb hm Q1) ?_;rintro _ h4 ⟨⟨rfl,i4⟩,n⟩;have q:=hm.aE (s:=s) (b:=b);have hb2:b<(aE s m b).2.blocks.length:=by rw[dN];exact hb
  simp only at htm;generalize aE s m b=r at htm i4 n hb2 q;subst hy;refine ab λy hy=>?_;have fin2 : ∀(v:Int) (m3:MS) (h':Heap) (ρ:Env) (u:Value) (ds:List Int),eN s to b m=(⟨2,[v],to,⟨0⟩⟩,m3)->I64 v->b<m3.blocks.length->Nz s M vs Wb h' (o1.upd (9,1) (bx T.ke B (RawN.mk (n:=3) [Qy Qz 2,QD QC 0 0,vt,Qy QA 0]))) m3 u ds->Lft.look ρ 0=QB (QT M)->Lft.look ρ 1=QB (Qy Qz b)->Lft.look ρ 6=QB (QT B)->Lft.look ρ 8=QB (Qy Qz v)->LC.wp QH y (dU 0 (fN (LC.wp QH z (fu [] K)) (fu [] K))) ρ h':=by intro v m3 h' ρ u ds e iv hb n r0 r1 r6 r8;subst hy;simp[ar,au,r0,r1,r6,r8];refine n.lit (ls:=[v]) Sb (by simp[iv]) rfl Q2 λua un uc h5 _ n=>?_;refine n.bG (k:=(9,1)) (i:=1) Q2 Own.ah Q2 Q0 rfl rfl rfl λh6 n=>?_;refine fin 2 (.slice ua un uc) vt [v] to 0 _ h6 _ e i64c Q2 hb (n.re λk=>by rw[iR];rfl) ht ?_ ?_ ?_;all_goals simp[ar,au,r0,r1,r6,r8]
  refine ab λx hx=>?_;simp;refine ag Q0 (eZ n q Q1 (k:=2) Q2 Q2) ?_;rintro _ h5 ⟨rfl,n⟩;simp;subst hx;by_cases c3:aB s r.2.at_ 2=0
  ·rw[if_pos c3]at htm;refine aZ (by simp[c3]) ?_;refine ab λx hx=>?_;simp;refine aQ (z:=zz0) (places:=[(0,1),(1,1),(2,1)]) (vs:=[(0,Qy Qz 11),(1,Qy Qz 12),(2,Qy Qz 13)]) (cs:=#[Qy Qz 11,Qy Qz 12,Qy Qz 13]) Q0 Q0 Sb Q0 ?_;refine j6 (v:=.agg #[Qy Qz 11,Qy Qz 12,Qy Qz 13]) (z:=.agg #[Qy Qz 0,Qy Qz 0,Qy Qz 0]) (n:=3) Q0 rfl Q0 rfl Q7 Q4 Q4 λh6 hle6 hs6 hb6=>?_;have n:Nz s M vs Wb h6 (o1.upd (9,1) (bx T.ke B (RawN.mk (n:=3) [Qy Qz 2,QD QC 0 0,vt,Qy QA 0]))) r.2.took (QD (QB ⟨h5.size,0,QC⟩) 3 3) cmpL:=by
    obtain⟨W,o,g1,g2,g3,g4⟩:=n;refine⟨_,o,Qx g1 (bE g2.own.wle),⟨g2.own.ext hle6,g2.src.mono (bE g2.own.wle),g2.box⟩,g3,?_⟩;have hg:grow W h5 h6 h5.size=QB (.cells (cmpL.map λx=>Qy Qz x).toArray T.Kl (0,0)):=by rw[gJ (MY _),hb6];rfl
    exact GF hg rfl Q2 Gw
   generalize h5.size=C at n;subst hx;refine ab λx hx=>?_;simp;refine ag Q0 (jh n (b:=b) hb2 q.took Q1) ?_;rintro _ h7 ⟨⟨rfl,i7⟩,n⟩;have q:=q.took.aE (s:=s) (b:=b);have hb3:b<(aE s r.2.took b).2.blocks.length:=by rw[dN];exact hb2
   generalize aE s r.2.took b=w at htm i7 n hb3 q;subst hx;refine ab λx hx=>?_;simp;refine ag Q0 (iz n q Q1) ?_;rintro _ h8 ⟨rfl,n⟩;have iw:=q.jU Q1;subst hx;refine ab λx hx=>?_;simp;refine ag Q0 (eZ n q.aH Q1 (k:=3) Q2 Q2) ?_;rintro _ h9 ⟨rfl,n⟩;have hfx:w.2.aH.at_=w.2.at_:=rfl;rw[hfx];obtain⟨t0,t1⟩:=bc (s:=s) (at_:=w.2.at_) (n:=3) Q2;generalize aB s w.2.at_ 3=k at htm t0 t1;obtain⟨kn,rfl⟩ : ∃kn:Nat,k=kn:=⟨k.toNat,by omega⟩;rw[show((kn:Int)).toNat=kn by omega]at htm;obtain⟨iop,hop⟩:I64 (nth cmpL kn)/\aj (vw h9) ⟨C,kn,QC⟩=QB (Qy Qz (nth cmpL kn)):=by obtain⟨W,o,g1,g2,g3,g4⟩:=n;refine⟨g4.range (i:=kn) (by show kn<3;omega),?_⟩;have:=g4.int g2.own.wle (i:=kn) (by show kn<3;omega);simpa[slA]using this
   have hix:Bn.ev (.aidx 3 1) (QT C) (Qy Qz kn)=QB (QE (QB ⟨C,kn,QC⟩)):=by simp only[Bn.ev,vP,vI,Nn];rw[if_pos Q5];simp
   generalize nth cmpL kn=op at htm iop hop;simp[hix,hop];refine n.lit (ls:=[r.1,w.1]) Sb (by simp[i4,i7]) rfl Q2 λua un uc h10 _ n=>?_;refine aQ (z:=zz5) (places:=zpa) (vs:=[(0,Qy Qz op),(1,Qy Qz w.2.next),(3,.slice ua un uc)]) (cs:=#[Qy Qz op,Qy Qz w.2.next,Qy Qz 0,.slice ua un uc,Qy QA 0]) Q0 Q0 Sb Q0 ?_;refine ag Q0 (lD n (b:=b) hb3 q.aH.took Q1 iop iw i64c Q2) ?_;rintro _ h11 n;subst hx;simp;refine fin2 w.2.next _ h11 _ _ _ htm iw (by rw[kP];exact hb3) n.z ?_ ?_ ?_ ?_;all_goals simp
  rw[if_neg c3]at htm;refine aV (by simp[c3]) ?_;simp;refine fin2 r.1 _ h5 _ _ _ htm i4 hb2 n ?_ ?_ ?_ ?_;all_goals simp
 rw[if_neg c2]at htm;refine aV Q8 ?_;refine ab λy hy=>?_;simp;refine n.bG (k:=(9,1)) (i:=0) Q2 k1 Q2 Q0 rfl rfl rfl λh2 n=>?_;subst hy;refine ab λy hy=>?_;simp;refine n.bG (k:=(9,1)) (i:=2) Q2 Own.ah Q2 Q0 rfl rfl hvt λh3 n=>?_;have n:Nz s M vs Wb h3 (o1.upd (9,1) (bx T.ke B (RawN.mk (n:=3) [Qy Qz 3,QD QC 0 0,vt,Qy QA 0]))) m (QD QC 0 0) []:=n.re λk=>by rw[iR];rfl
 subst hy;refine ab λy hy=>?_;simp;refine ag Q0 (jh n (b:=b) hb hm Q1) ?_;rintro _ h4 ⟨⟨rfl,i4⟩,n⟩;have q:=hm.aE (s:=s) (b:=b);have hb2:b<(aE s m b).2.blocks.length:=by rw[dN];exact hb
 simp only at htm;generalize aE s m b=r at htm i4 n hb2 q;subst hy;refine ab λy hy=>?_;simp;refine ag Q0 (gR n (b:=b) hb2 q Q1 (k:=7) Q2) ?_;rintro _ h5 ⟨rfl,n⟩;have i5:=q.jU Q1;have q5:=q.constant (b:=b) (n:=7);have hb3:b<(r.2.constant b 7).blocks.length:=by rw[dH];exact hb2
 generalize r.2.constant b 7=m2 at htm n q5 hb3;generalize r.2.next=d at htm i5;subst hy;refine ab λy hy=>?_;simp;refine ag Q0 (iz n q5 Q1) ?_;rintro _ h6 ⟨rfl,n⟩;have i6:=q5.jU Q1;subst hy;refine ab λy hy=>?_;simp;refine n.lit (ls:=[r.1,d]) Sb (by simp[i4,i5]) rfl Q2 λua un uc h7 _ n=>?_;refine aQ (z:=zz5) (places:=zpa) (vs:=[(0,Qy Qz 5),(1,Qy Qz m2.next),(3,.slice ua un uc)]) (cs:=#[Qy Qz 5,Qy Qz m2.next,Qy Qz 0,.slice ua un uc,Qy QA 0]) Q0 Q0 Sb Q0 ?_;refine ag Q0 (lD n (b:=b) hb3 q5.aH Q1 i64c i6 i64c Q2) ?_;rintro _ h8 n;have n:=n.z;subst hy;simp;refine n.lit (ls:=[m2.next]) Sb (by simp[i6]) rfl Q2 λua un uc h9 _ n=>?_;refine n.bG (k:=(9,1)) (i:=1) Q2 Own.ah Q2 Q0 rfl rfl rfl λh10 n=>?_;refine fin 3 (.slice ua un uc) vt [m2.next] to 0 _ h10 _ htm i64c Q2 (show b<(m2.two b 5 r.1 d).blocks.length by rw[nN];exact hb3) (n.re λk=>by rw[iR];rfl) ht ?_ ?_ ?_;all_goals simp
def rh(f:aq)(b:Nat)(t:Th):Bool:=decide (t.blk=b)||!nth (eJ f t.blk) b
def dZ(f:aq)(b:Nat)(out:List Int)(t:Th):List Int:=if rh f b t then out++t.mks else out
def gP(f:aq)(b:Nat):List Int:=(aS f).foldl (dZ f b) (rows (λi=>(i:Int)) f.params.toNat)
def uz(v:Value)(l:List Int):Own:=λk=>if k=(0,0) then it T.int v l else QC
theorem yE{v v':Value}{l l':List Int}(q:Key):uz v' l' q=(uz v l).upd (0,0) (it T.int v' l') q:=by
 unfold uz Own.upd;repeat' split
 all_goals first | rfl | simp_all
theorem xM{l:List Th}{f:aq}{c:Nat}(hl : ∀t∈l,t.mks.length<=c): ∀{out:List Int},(l.foldl (dZ f b) out).length<=out.length+c*l.length:=by
 induction l with
 | nil=>intro out;simp
 | cons t l ih=>
  intro out;have h1:=ih (λt ht=>hl t (by simp[ht])) (out:=dZ f b out t);have h2:(dZ f b out t).length<=out.length+c:=by
   unfold dZ;have:=hl t Sb;split
   ·rw[M3];omega
   omega
  rw[NF,N2,OW];omega
theorem Av.LF{V W:View}{v:Value}(hw:Av W v)(h:V.le W):Av V v:=λb hb=>by
 cases hv:V b with
 | none=>rfl
 | some x=>have:=h b x hv;rw[hw b hb]at this;cases this
theorem Ab{W W':View}{h:Heap}{e:TypeId}{v:Value}{l:List Int}(o:OwnT W h e v l):OwnT W' h e v l:=by obtain⟨b,xs,h1,h2⟩:=o;exact⟨b,xs,h1,λi hi=>h2 i hi⟩
theorem LV{h:Heap}{v:Value}(ha:Av (vw h) v): ∀b,v.ownBlock=QB b->h.size<=b:=λb hb=>by have:h[b]? = none:=ha b hb;rwa [Array.getElem?_eq_none_iff]at this
theorem AJ{f:aq}{v:Value}{h:Heap}(hv:Rd (vw h) v f)(hsm:SmF f)(hp:0<=f.params/\f.params<=1000)(hb:b<f.blocks.length)(hmk : ∀t∈aS f,t.mks.length<=1000)(hth:(aS f).length<=1000000):
  aw QH N.cz #[v,Qy Qz b] h (λu h'=>(vw h).le (vw h')/\(∀b,u.ownBlock=QB b->h.size<=b)/\OwnT nothing h' T.int u (gP f b)):=by
 refine ak (args:=[v,Qy Qz b]) follows F.cz E.cz Q9 λK hK=>?_;dsimp only[L.cz];refine ab λz hz=>?_;simp;refine fH rfl hv λh1 _ hle1 hs1 hat=>?_;obtain⟨cp,vb,cb⟩:=jX hat;obtain⟨uf,huf,hufr⟩:=hat.ax rfl;have huf:Un.ev (vw h1) (.ax 2) (QT h.size)=QB uf:=huf;generalize h.size=B at cp cb huf;subst hz;refine ab λz hz=>?_;simp;refine(Owns.start (h:=h1) (View.le_refl (vw h1))).kf (k:=(0,0)) (α:=Int) rfl El.bn λvo h2 hle2 hvo w2 _=>?_;have w2:Owns (vw h1) h2 (uz vo []):=w2.congr λq=>by unfold uz Own.upd;split<;>rfl
 subst hz;refine ab λz hz=>?_;simp;obtain⟨n,hn⟩ : ∃n:Nat,n=f.params.toNat:=⟨_,rfl⟩;have hpn:f.params=n:=by omega
 rw[hpn]at cp;refine dq [0,1,2,5,6] (fun(vo:Value) i=>[v,Qy Qz b,QT B,vo,Qy Qz i]) (λvo i h3=>Owns (vw h1) h3 (uz vo (rows (λi=>(i:Int)) i))) n vo
  rfl Q1 rfl w2 (λ_ _=>rfl) (λv k h3 hk m=>by simp[ae m.wle cp]) ?_ ?_
 ·rintro vo i h3 hlt w3 K2 hK2;simp;refine w3.iN (k:=(0,0)) (α:=Int) (v:=vo) (l:=rows (λi=>(i:Int)) i) (d:=(i:Int)) rfl El.bn rfl (dJ.2 ⟨rfl,by constructor<;>omega⟩) Q8 Q8 (λ_=>rfl) (λ_=>rfl) λu v' h4 w4 _=>?_;refine hK2 v' _ _ rfl rfl (w4.congr λq=>?_);rw[iG];exact yE q
 rintro vo h3 w3;simp;subst hz;refine ab λz hz=>?_;have huf3:Un.ev (vw h3) (.ax 2) (QT B)=QB uf:=by have:=dF (ρ:=λ_=>QC) (e:=.un (.ax 2) (.con (QT B))) w3.wle (by simpa using huf);simpa using this
 simp[huf3];refine ag Q0 (yV hufr w3.wle hsm) ?_;rintro vt h4 ⟨hle4,hst⟩;have w4:=w3.ext hle4;have hW4:=bE (h':=h4) w3.wle;generalize grow (vw h1) h3 h4=W4 at hst w4 hW4;subst hz;refine ab λz hz=>?_;simp;have hsd:gP f b=(aS f).foldl (dZ f b) (rows (λi=>(i:Int)) n):=by rw[hn];rfl
 have hlen : ∀i,((List.take i (aS f)).foldl (dZ f b) (rows (λi=>(i:Int)) n)).length<=1001001000:=λi=>by
  have h1:=xM (l:=List.take i (aS f)) (f:=f) (b:=b) (c:=1000) (λt ht=>hmk t (Pp ht)) (out:=rows (λi=>(i:Int)) n);have h2:(List.take i (aS f)).length<=(aS f).length:=by simp;omega
  rw[nB]at h1;omega
 generalize rows (λi=>(i:Int)) n=base at w4 hsd hlen;have tb:=hst.bound;refine dq [0,1,2,5,7,8] (fun(vo:Value) i=>[v,Qy Qz b,QT B,vo,vt,Qy Qz i]) (λvo i h5=>∃W,W4.le W/\Owns W h5 (uz vo ((List.take i (aS f)).foldl (dZ f b) base))) (aS f).length vo
  rfl Q1 rfl ⟨W4,View.le_refl _,w4⟩ (λ_ _=>rfl) (λv k h5 hk ⟨W,q1,q2⟩=>by simp[hst.len]) ?_ ?_
 ·rintro vo i h5 hlt ⟨W5,hW5,w5⟩ K2 hK2;have hst5:=hst.mono hW5;have hl5:=hlen i;have hsucc:(List.take (i+1) (aS f)).foldl (dZ f b) base=dZ f b ((List.take i (aS f)).foldl (dZ f b) base) (nth (aS f) i):=by rw[Np hlt,P9,ao hlt];rfl
  generalize (List.take i (aS f)).foldl (dZ f b) base=out at w5 hsucc hl5;have hat5:=hst5.at hlt;rw[<-ao hlt]at hat5;have hmt:=hmk _ (bD hlt);generalize nth (aS f) i=t at hat5 hsucc hmt;have hblk:aj W5 (((slA vt).add (i*4)).add 0)=QB (Qy Qz t.blk):=(hat5.part Th.JF).int;obtain⟨vm,hvm⟩:=(hat5.part Th.LZ).sl;have hvm1:aj W5 (((slA vt).add (i*4)).add 2)=QB vm:=hvm.1;have hvm2:=hvm.2;have h64:=(hat5.part Th.JF).rng;simp only[aL];refine ab λy hy=>?_;simp;subst hy;refine ab λy hy=>?_;have fin : ∀(h6:Heap) (ρ:Env) (W6:View),W5.le W6->Owns W6 h6 (uz vo out)->Lft.look ρ 0=QB v->Lft.look ρ 1=QB (Qy Qz b)->Lft.look ρ 2=QB (QT B)->Lft.look ρ 5=QB vo->Lft.look ρ 7=QB vt->Lft.look ρ 8=QB (Qy Qz i)->Lft.look ρ 9=QB (.bool (rh f b t))->
    LC.wp QH y (dU 3 (fN K2 (dU 2 (fN (LC.wp QH z (fu [.tmp 4] K)) (fu [.tmp 4] K))))) ρ h6:=by
   intro h6 ρ W6 hW6 w6 r0 r1 r2 r5 r7 r8 r9;subst hy;refine ab λy hy=>?_;simp[ar,au,r9];subst hy;have hsp:dZ f b out t=if rh f b t then out++t.mks else out:=rfl;rw[hsp]at hsucc;by_cases ca:rh f b t=QF
   ·rw[if_pos ca]at hsucc;refine aZ (by simp[ar,au,ca]) ?_;have hst6:=hst5.mono (Qx hW6 w6.wle);simp(disch:=omega)[ar,au,r0,r1,r2,r5,r7,r8,hst6.idxn (N:=4) rfl,ae (Qx hW6 w6.wle) hvm1];refine w6.cR (k:=(0,0)) (α:=Int) (v:=vo) (l:=out) (l2:=t.mks) rfl El.bn rfl rfl ((hvm2.mono hW6).src w6.wle) Q1 Q1 λv' h7 w7 _=>?_;refine hK2 v' _ _ ?_ ?_ ⟨W6,Qx hW5 hW6,w7.congr λq=>?_⟩
    ·simp[ar,au,r8]
    ·simp[bh,ar,au,r0,r1,r2,r5,r7,r8]
    rw[hsucc];exact yE q
   rw[if_neg ca]at hsucc;refine aV (by simp[ar,au,ca]) ?_;simp;refine hK2 vo _ _ ?_ ?_ ⟨W6,Qx hW5 hW6,by rw[hsucc];exact w6⟩
   ·simp[ar,au,r8]
   simp[bh,ar,au,r0,r1,r2,r5,r7,r8]
  refine ab λx hx=>?_;simp(disch:=omega)[(hst5.mono w5.wle).idxn (N:=4) rfl,ae w5.wle hblk];subst hx;by_cases cb:t.blk=b
  ·refine aV (by simp[cb]) ?_;simp;refine fin h5 _ W5 Qw w5 ?_ ?_ ?_ ?_ ?_ ?_ ?_;all_goals simp[rh,cb]
  refine aZ (by simp[cb]) ?_;refine ab λx hx=>?_;have hf5:Rd (vw h5) uf f:=hufr.mono (Qx hW4 (Qx hW5 w5.wle));have huf5:Un.ev (vw h5) (.ax 2) (QT B)=QB uf:=by have:=dF (ρ:=λ_=>QC) (e:=.un (.ax 2) (.con (QT B))) (Qx hW4 (Qx hW5 w5.wle)) (by simpa using huf);simpa using this
  refine bz (vw h5) Qw ?_;simp(disch:=omega)[(hst5.mono w5.wle).idxn (N:=4) rfl,ae w5.wle hblk,huf5];refine ag Q0 (xn hf5 (by have:=hsm.len;omega)) ?_;rintro ur h6 ⟨hle6,hur⟩;have w6:=w5.ext hle6;have hW6:=bE (h':=h6) w5.wle;have hur6:SlRd (vw h6) ur (eJ f t.blk):=hur.mono (jE h5 h6);have hrl:(eJ f t.blk).length=f.blocks.length:=sE;subst hx;simp(disch:=omega)[hur6.idx1 rfl,hur6.bool Qw];refine fin h6 _ _ hW6 w6 ?_ ?_ ?_ ?_ ?_ ?_ ?_;all_goals simp[rh,cb]
 rintro vo h5 ⟨W5,hW5,w5⟩;rw[NQ,<-hsd]at w5;simp;subst hz;simp;have hX:(vw h).le W5:=Qx hle1 (Qx hW4 hW5);exact hK _ _ ⟨Qx hX w5.wle,LV (Av.LF (w5.av (0,0) _ rfl) hX),Ab (w5.get (k:=(0,0)) (v:=vo) rfl)⟩
end Go.Lft
