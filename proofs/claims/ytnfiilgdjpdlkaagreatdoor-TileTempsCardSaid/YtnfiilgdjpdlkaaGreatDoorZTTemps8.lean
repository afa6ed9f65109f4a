/- For every input TileTemps returns true: the number of a temp stands in the code of the two patterns that have one, and nowhere else. No condition. -/
import Derived.Test.YtnfiilgdjpdlkaaGreatDoorZTTemps7
import Derived.Test.YtnfiilgdjpdlkaaGreatDoorRows
import Derived.Test.YtnfiilgdjpdlkaaGreatDoorCards
import Derived.Test.YtnfiilgdjpdlkaaGreatDoorTie
import Derived.SevenTiedAt
set_option linter.unusedSimpArgs false
set_option linter.unusedVariables false
namespace Go.Proofs.YtnfiilgdjpdlkaaGreatDoor
open Go Go.Lft
theorem De:mh twoF=true:=by kernel_rfl
theorem yr:SmF twoF:=by
 refine⟨by decide,fun i hi=>?_⟩;have hi:i<1:=hi;obtain rfl:i=0:=by omega
 refine⟨by decide,by decide,by decide,by decide,fun j hj=>absurd hj (Nat.not_lt_zero _),fun j hj=>?_⟩;have hj:j<2:=hj;rcases j with _ | _ | j
 ·decide
 ·decide
 omega
theorem xt: ∀i∈fm twoF,i.op=15\/i.op=16->lI:=by intro i hi ho;have:fm twoF=[⟨1,2,0,[],⟨5⟩⟩,⟨2,3,0,[1,2],⟨0⟩⟩]:=rfl;rw[this]at hi;simp at hi;rcases hi with rfl | rfl<;>simp at ho
theorem Ew:Down twoF (whS twoF):=Gw (oG De) yr (by intro i hi;have:fm twoF=[⟨1,2,0,[],⟨5⟩⟩,⟨2,3,0,[1,2],⟨0⟩⟩]:=rfl;rw[this]at hi;simp at hi;rcases hi with rfl | rfl<;>simp)
theorem H9:iO twoF 0 1 16=some ⟨[1],[2],[⟨18,3,0,1,0,0,⟨5⟩,[]⟩],eg⟩:=by kernel_rfl
theorem JE:iO twoF 0 1 3=some ⟨[1,2],[],[⟨5,3,0,1,2,0,⟨0⟩,[]⟩],eg⟩:=by kernel_rfl
theorem H8:iO twoF 0 1 17=none:=by kernel_rfl
theorem Gz:ff twoF 0 1 16 9=some ⟨[1],[2],[⟨18,3,0,1,0,0,⟨5⟩,[]⟩],eg⟩:=by kernel_rfl
theorem Ij:ff twoF 0 2 0 9=some ⟨[3],[],[],⟨7,3,0,[],⟨0⟩⟩⟩:=by kernel_rfl
theorem GW:jw [⟨1,0⟩,⟨38,0⟩]=(20,1):=by kernel_rfl
theorem IJ:iZ [⟨1,0⟩] twoF=(21,0,2):=by kernel_rfl
theorem GS:iZ [⟨16,0⟩] twoF=(0,0,0):=by kernel_rfl
theorem Ik:qT 16=⟨#[97,100,100,105]⟩:=by kernel_rfl
theorem two'{h:Heap}:aw Tryz.prog N.gI #[] h (fun u h'=>(vw h).le (vw h')/\Rd (vw h') u twoF):=
 (Ib (View.le_refl _)).mono fun u h' ⟨h1,h2⟩=>⟨h1,h2.mono (kM h1)⟩
variable{vb:Value}
theorem AT{a:List Int}{va:Value}{h:Heap}(ha:SlRd (vw h) va a)(hb:SlRd (vw h) vb a):aw Tryz.prog N.eW #[va,vb] h (fun u h'=>u = .bool true/\h'=h):=
 (xH ha hb).mono fun u h' ⟨h1,h2⟩=>⟨by rw[h1,decide_eq_true rfl],h2⟩
theorem E2{a:List aW}{va:Value}{h:Heap}(ha:SlRd (vw h) va a)(hb:SlRd (vw h) vb a):aw Tryz.prog N.di #[va,vb] h (fun u h'=>u = .bool true/\(vw h).le (vw h')):=
 (yP (View.le_refl _) ha hb).mono fun u h' ⟨h1,h2⟩=>⟨by rw[h1,decide_eq_true rfl],h2⟩
theorem rN{v:Value}{pat:Int}{h:Heap}(hv:Rd (vw h) v twoF)(hp:I64 pat){r:Option FitD}(hr:iO twoF 0 1 pat=r):
  aw Tryz.prog N.fZ #[v,.int .i64 0,.int .i64 1,.int .i64 pat] h (fun u h'=>(vw h).le (vw h')/\∃v1 v2,u = .tuple #[v1,v2,.bool r.isSome]/\SlRd (vw h') v1 (BJ r)/\SlRd (vw h') v2 (BI r)):=by rw[<-hr];exact DS (View.le_refl _) hv yr xt hp
theorem zM{v:Value}{p pat:Int}{h:Heap}(hv:Rd (vw h) v twoF)(hp:I64 pat){r:Option FitD}(hr:ff twoF 0 p pat 9=r):
  aw Tryz.prog N.gF #[v,.int .i64 0,.int .i64 p,.int .i64 pat,.int .i64 9] h (fun u h'=>(vw h).le (vw h')/\∃v1 v2,u = .tuple #[v1,v2,.bool r.isSome]/\SlRd (vw h') v1 (pS r)/\Rd (vw h') v2 (Br r)):=by rw[<-hr];exact yq (View.le_refl _) hv yr xt hp ⟨by decide,by decide⟩
theorem tG{l:List fg}{vl v:Value}{h:Heap}(hl:SlRd (vw h) vl l)(hv:Rd (vw h) v twoF)(ht:Tab h){r:Int × Int × Int}(hr:iZ l twoF=r):
  aw Tryz.prog N.cm #[vl,v] h (fun u h'=>(vw h).le (vw h')/\u = .tuple #[.int .i64 r.1,.int .i64 r.2.1,.int .i64 r.2.2]):=by rw[<-hr];exact C4 (View.le_refl _) hl hv yr ht xt fun _=>Ew
theorem Dd{h:Heap}(ht:Tab h):aw Tryz.prog N.fS #[] h (fun u h'=>(vw h).le (vw h')/\u = .bool true):=by
 refine ao (args:=[]) follows F.fS E.fS (Kw (by kernel_rfl)) fun K hK=>?_;dsimp only[L.fS];refine ab fun z hz=>?_;simp;subst hz;refine ab fun z hz=>?_;simp;refine af (by kernel_rfl) two' ?_;rintro u26 h1 ⟨le1,r1⟩;refine af (by kernel_rfl) (rN r1 ⟨by decide,by decide⟩ H9) ?_;rintro _ h2 ⟨le2,va,vb,rfl,sa,sb⟩;simp;subst hz;refine ab fun z hz=>?_;simp;refine af (by kernel_rfl) two' ?_;rintro u32 h3 ⟨le3,r3⟩;refine af (by kernel_rfl) (rN r3 ⟨by decide,by decide⟩ JE) ?_;rintro _ h4 ⟨le4,vc,vd,rfl,sc,sd⟩;simp;subst hz;refine ab fun z hz=>?_;simp;refine af (by kernel_rfl) two' ?_;rintro u38 h5 ⟨le5,r5⟩;refine af (by kernel_rfl) (rN r5 ⟨by decide,by decide⟩ H8) ?_;rintro _ h6 ⟨le6,ve,vf,rfl,se,sf⟩;simp;subst hz;refine ab fun z hz=>?_;simp;refine af (by kernel_rfl) two' ?_;rintro u44 h7 ⟨le7,r7⟩;refine af (by kernel_rfl) (zM r7 ⟨by decide,by decide⟩ Gz) ?_;rintro _ h8 ⟨le8,vg,vh,rfl,sg,sh⟩;simp;refine dX (X:=vw h8) (z:=.agg endZ.toArray) (by kernel_rfl) rfl (by kernel_rfl) sh (fun _=>by simp) (fun _=>by simp) fun h9 le9 _ _=>?_;subst hz;refine ab fun z hz=>?_;simp;refine af (by kernel_rfl) two' ?_;rintro u50 h10 ⟨le10,r10⟩;refine af (by kernel_rfl) (zM r10 ⟨by decide,by decide⟩ Ij) ?_;rintro _ h11 ⟨le11,vi,vj,rfl,si,sj⟩;simp;refine dX (X:=vw h11) (z:=.agg endZ.toArray) (by kernel_rfl) rfl (by kernel_rfl) sj (fun _=>by simp) (fun _=>by simp) fun h12 le12 _ at12=>?_;have at12:At (vw h12) ⟨h11.size,0,none⟩ (⟨7,3,0,[],⟨0⟩⟩:EndD):=at12 (vw h12) le12 rfl;have e0:=(at12.part EndD.qw).int;have e1:=(at12.part EndD.I5).int;generalize h11.size=B at e0 e1;simp at e0 e1;subst hz;have la:(vw h).le (vw h12):=View.le_trans le1 (View.le_trans le2 (View.le_trans le3 (View.le_trans le4 (View.le_trans le5 (View.le_trans le6 (View.le_trans le7 (View.le_trans le8 (View.le_trans le9 (View.le_trans le10 (View.le_trans le11 le12))))))))));refine ab fun z hz=>?_;simp;refine aq (t:=T.lE) (z:=.agg #[.int .i64 0,.int .i64 0]) (places:=[(0,1),(1,1)]) (vs:=[(0,.int .i64 1)]) (cs:=#[.int .i64 1,.int .i64 0]) (by kernel_rfl) (by kernel_rfl) (by simp) (by rfl) ?_;refine aq (t:=T.lE) (z:=.agg #[.int .i64 0,.int .i64 0]) (places:=[(0,1),(1,1)]) (vs:=[(0,.int .i64 38)]) (cs:=#[.int .i64 38,.int .i64 0]) (by kernel_rfl) (by kernel_rfl) (by simp) (by rfl) ?_;refine ke (α:=fg) (ds:=[⟨1,0⟩,⟨38,0⟩]) (vs:=[.agg #[.int .i64 1,.int .i64 0],.agg #[.int .i64 38,.int .i64 0]]) (X:=nothing) El.jP (by simp) ⟨qZ ⟨by decide,by decide⟩ ⟨by decide,by decide⟩,qZ ⟨by decide,by decide⟩ ⟨by decide,by decide⟩,trivial⟩ rfl (by decide) (by decide) fun u58 h13 le13 _ s13 _=>?_;have s13:=s13 (vw h13) bs rfl
 have t13:Tab h13:=ht.mono (View.le_trans la le13);refine af (by kernel_rfl) (xf (View.le_refl _) s13 t13) ?_;rw[GW];rintro _ h14 ⟨le14,rfl⟩;simp;subst hz;refine ab fun z hz=>?_;simp;refine aq (t:=T.lE) (z:=.agg #[.int .i64 0,.int .i64 0]) (places:=[(0,1),(1,1)]) (vs:=[(0,.int .i64 1)]) (cs:=#[.int .i64 1,.int .i64 0]) (by kernel_rfl) (by kernel_rfl) (by simp) (by rfl) ?_;refine ke (α:=fg) (ds:=[⟨1,0⟩]) (vs:=[.agg #[.int .i64 1,.int .i64 0]]) (X:=nothing) El.jP (by simp) ⟨qZ ⟨by decide,by decide⟩ ⟨by decide,by decide⟩,trivial⟩ rfl (by decide) (by decide) fun u64 h15 le15 _ s15 _=>?_;have s15:=s15 (vw h15) bs rfl
 refine af (by kernel_rfl) two' ?_;rintro u65 h16 ⟨le16,r16⟩;refine af (by kernel_rfl) (tG (s15.mono le16) r16 (t13.mono (View.le_trans le14 (View.le_trans le15 le16))) IJ) ?_;rintro _ h17 ⟨le17,rfl⟩;simp;subst hz;refine ab fun z hz=>?_;simp;refine aq (t:=T.lE) (z:=.agg #[.int .i64 0,.int .i64 0]) (places:=[(0,1),(1,1)]) (vs:=[(0,.int .i64 16)]) (cs:=#[.int .i64 16,.int .i64 0]) (by kernel_rfl) (by kernel_rfl) (by simp) (by rfl) ?_;refine ke (α:=fg) (ds:=[⟨16,0⟩]) (vs:=[.agg #[.int .i64 16,.int .i64 0]]) (X:=nothing) El.jP (by simp) ⟨qZ ⟨by decide,by decide⟩ ⟨by decide,by decide⟩,trivial⟩ rfl (by decide) (by decide) fun u72 h18 le18 _ s18 _=>?_;have s18:=s18 (vw h18) bs rfl;refine af (by kernel_rfl) two' ?_;rintro u73 h19 ⟨le19,r19⟩;have l1219:(vw h12).le (vw h19):=View.le_trans le13 (View.le_trans le14 (View.le_trans le15 (View.le_trans le16 (View.le_trans le17 (View.le_trans le18 le19)))));refine af (by kernel_rfl) (tG (s18.mono le19) r19 (ht.mono (View.le_trans la l1219)) GS) ?_;rintro _ h20 ⟨le20,rfl⟩;have l1220:=View.le_trans l1219 le20;simp;subst hz;refine ab fun z hz=>?_;have l212:(vw h2).le (vw h12):=View.le_trans le3 (View.le_trans le4 (View.le_trans le5 (View.le_trans le6 (View.le_trans le7 (View.le_trans le8 (View.le_trans le9 (View.le_trans le10 (View.le_trans le11 le12))))))))
 have l412:(vw h4).le (vw h12):=View.le_trans le5 (View.le_trans le6 (View.le_trans le7 (View.le_trans le8 (View.le_trans le9 (View.le_trans le10 (View.le_trans le11 le12))))));have l812:(vw h8).le (vw h12):=View.le_trans le9 (View.le_trans le10 (View.le_trans le11 le12));have sa:=(sa.mono l212).mono l1220;have sb:=(sb.mono l212).mono l1220;have sc:=(sc.mono l412).mono l1220;have sd:=(sd.mono l412).mono l1220;have sg:=(sg.mono l812).mono l1220;have e0:=ae l1220 e0;have e1:=ae l1220 e1;have la:=View.le_trans la l1220;clear le1 le2 le3 le4 le5 le6 le7 le8 le9 le10 le11 le12 le13 le14 le15 le16 le17 le18 le19 le20 l212 l412 l812 l1219 l1220;refine wm fun y hy=>?_;simp;refine ke (α:=Int) (ds:=[1]) (vs:=[.int .i64 1]) (X:=nothing) El.aP (by kernel_rfl) ⟨bC.2 ⟨rfl,by decide⟩,trivial⟩ rfl (by decide) (by decide) fun u79 h21 le21 _ s21 _=>?_;have s21:=s21 (vw h21) bs rfl
 subst hy;refine bo fun y hy=>?_;simp;refine af (by kernel_rfl) (AT (sa.mono le21) s21) ?_;rintro _ h21 ⟨rfl,rfl⟩;subst hy;refine bo fun y hy=>?_;simp;refine ke (α:=Int) (ds:=[2]) (vs:=[.int .i64 2]) (X:=nothing) El.aP (by kernel_rfl) ⟨bC.2 ⟨rfl,by decide⟩,trivial⟩ rfl (by decide) (by decide) fun u83 h22 le22 _ s22 _=>?_;have s22:=s22 (vw h22) bs rfl;subst hy;refine bo fun y hy=>?_;simp;refine af (by kernel_rfl) (AT (sb.mono (View.le_trans le21 le22)) s22) ?_;rintro _ h22 ⟨rfl,rfl⟩;subst hy;refine bo fun y hy=>?_;simp;refine ke (α:=Int) (ds:=[1,2]) (vs:=[.int .i64 1,.int .i64 2]) (X:=nothing) El.aP (by kernel_rfl) ⟨bC.2 ⟨rfl,by decide⟩,bC.2 ⟨rfl,by decide⟩,trivial⟩ rfl (by decide) (by decide) fun u91 h23 le23 _ s23 _=>?_;have s23:=s23 (vw h23) bs rfl
 subst hy;refine bo fun y hy=>?_;simp;refine af (by kernel_rfl) (AT (sc.mono (View.le_trans le21 (View.le_trans le22 le23))) s23) ?_;rintro _ h23 ⟨rfl,rfl⟩;have l23:=View.le_trans le21 (View.le_trans le22 le23);subst hy;have sd':SlRd (vw h23) vd ([]:List Int):=sd.mono l23;have hd:=sd'.len (K:=vw h23);simp at hd;simp[hd];subst hz;refine ab fun z hz=>?_;have sg':SlRd (vw h23) vg [(⟨18,3,0,1,0,0,⟨5⟩,[]⟩:aW)]:=sg.mono l23
 have e0:=ae l23 e0;have e1:=ae l23 e1;have la:=View.le_trans la l23;clear sa sb sc sd sd' sg hd l23 le21 le22 le23 s21 s22 s23;refine wm fun y hy=>?_;simp;refine aq (t:=T.eO) (z:=.agg #[.int .i64 0,.int .i64 0,.int .i64 0,.int .i64 0,.int .i64 0,.int .i64 0,.int .i32 0,.slice none 0 0]) (places:=[(0,1),(1,1),(2,1),(3,1),(4,1),(5,1),(6,1),(7,1)]) (vs:=[(0,.int .i64 18),(1,.int .i64 3),(3,.int .i64 1),(6,.int .i32 5)]) (cs:=#[.int .i64 18,.int .i64 3,.int .i64 0,.int .i64 1,.int .i64 0,.int .i64 0,.int .i32 5,.slice none 0 0]) (by kernel_rfl) (by kernel_rfl) (by simp) (by rfl) ?_;subst hy;refine bo fun y hy=>?_;simp;refine ke (α:=aW) (ds:=[⟨18,3,0,1,0,0,⟨5⟩,[]⟩]) (vs:=[.agg #[.int .i64 18,.int .i64 3,.int .i64 0,.int .i64 1,.int .i64 0,.int .i64 0,.int .i32 5,.slice none 0 0]]) (X:=nothing) El.jf (by simp) ⟨iF (by decide) (by decide) aI,trivial⟩ rfl (by decide) (by decide) fun u113 h24 le24 _ s24 _=>?_;have s24:=s24 (vw h24) bs rfl
 subst hy;refine bo fun y hy=>?_;simp;refine af (by kernel_rfl) (E2 (sg'.mono le24) s24) ?_;rintro _ h25 ⟨rfl,le25⟩;have l25:=View.le_trans le24 le25;have e0:=ae l25 e0;have e1:=ae l25 e1;subst hy;refine bo fun y hy=>?_;simp[e0,e1];refine af (by kernel_rfl) (pH (ht.mono (View.le_trans la l25))) ?_;rintro _ h26 ⟨le26,rfl⟩;subst hy;refine bo fun y hy=>?_;simp;refine af (by kernel_rfl) HQ ?_;rintro ua h27 ⟨le27,sall⟩;have hl:=sall.len (K:=vw h27)
 have e37:allT.length=37:=rfl;rw[e37]at hl;have l27:=View.le_trans l25 (View.le_trans le26 le27);subst hy;refine bo fun y hy=>?_;simp[hl];refine af (by kernel_rfl) (Bu (pat:=16) (ht.mono (View.le_trans la l27)) ⟨by decide,by decide⟩) ?_;rw[Ik];rintro _ h28 ⟨le28,rfl⟩;subst hy;simp[show(Bn.eqS false).ev (.string ⟨#[97,100,100,105]⟩) (.string ⟨#[97,100,100,105]⟩)=some (.bool true) from by kernel_rfl];subst hz;simp;exact hK _ _ ⟨View.le_trans la (View.le_trans l27 le28),rfl⟩
section
variable {s:List Int} {M:Nat} {vs:Value} {W:View} {h:Heap} {o:Own} {m:MS}
theorem MkB.boxed{vl:Value}{lb:List BlkM}(bb:MkB M vs m o vb vl lb)(m':MS)(h1:m'.blocks=m.blocks)(h2:m'.live=m.live):MkB M vs m' (o.upd (0,0) (bx T.aY M (RawN.mk (n:=5) (mkL vs m'.at_ m'.ps vb m'.next vl)))) vb vl lb:=
 ⟨rfl,by rw[h2];exact bb.live,bb.blk,by rw[h1];exact bb.len,by rw[h1];exact bb.term,by rw[h1];exact fun i hi=>bb.phis i hi,by rw[h1];exact fun i hi=>bb.ins i hi⟩
end
def gV (R:Nat) (i10:Own):Own:=fun k=>if k=(8,0) then bx T.eI R (RawN.mk (n:=1) [.int .i64 0,.slice none 0 0]) else if 10<=k.1 then i10 k else none
structure FnB (o:Own) (vb:Value) (lb:List BlkM) (f:ak):Prop where
 blk:o (0,2)=it T.fq vb lb
 len:lb.length=f.blocks.length
 term : ∀i,i<f.blocks.length->(nth lb i).term=(nth f.blocks i).term
 phis : ∀i,i<f.blocks.length->o (1,i)=it T.ni (nth lb i).phis.v (nth f.blocks i).phis
 ins : ∀i,i<f.blocks.length->o (2,i)=it T.eV (nth lb i).ins.v (nth f.blocks i).ins
theorem IP{H:View}{lb:List BlkM}{f:ak}(h0:SlRd H vb lb)(hl:lb.length=f.blocks.length)(ht : ∀i,i<f.blocks.length->(nth lb i).term=(nth f.blocks i).term)(h1 : ∀i,i<f.blocks.length->SlRd H (nth lb i).phis.v (nth f.blocks i).phis)(h2 : ∀i,i<f.blocks.length->SlRd H (nth lb i).ins.v (nth f.blocks i).ins):SlRd H vb f.blocks:=by refine xI h0 rfl hl fun i g1 g2 cs hr=>?_;have:=Ab hr (p:=(nth f.blocks i).phis) (i:=(nth f.blocks i).ins) (by have:=h1 i g2;rwa [az g1]at this) (by have:=h2 i g2;rwa [az g1]at this);have ht:=ht i g2;rw[az g1]at ht;rw[ht]at this;rw[<-az g2];exact this
theorem FnB.freeze{W:View}{h:Heap}{o o0:Own}{lb:List BlkM}{f:ak}(b:FnB o vb lb f)(w:Owns W h o)(ho : ∀k:Key,3<=k.1->o k=o0 k)(ho0 : ∀k:Key,k.1<3->o0 k=none): ∃W',W.le W'/\Owns W' h o0/\SlRd W' vb f.blocks:=by
 obtain⟨W17,hW17,w17,fr⟩:=w.wx (fun k=>decide (k.1<3));refine⟨W17,hW17,w17.sub fun k i hk=>?_,IP (fr (k:=(0,2)) (by simp) b.blk) b.len b.term (fun i hi=>fr (k:=(1,i)) (by simp) (b.phis i hi)) fun i hi=>fr (k:=(2,i)) (by simp) (b.ins i hi)⟩;rcases KB k.1 3 with e | e
 ·rw[ho0 k e]at hk;cases hk
 have h2:¬k.1<3:=by omega
 simp only[h2,decide_false,LB,if_false];rw[ho k e];exact hk
theorem Fk{s:List Int}{vs:Value}{h:Heap}{W:View}{o0:Own}(w0:Owns W h o0)(ho0 : ∀k:Key,k.1<10->o0 k=none)(hs:SlRd W vs s):
  aw Tryz.prog N.aA #[vs] h (fun u h'=>∃W' o vb lb,W.le W'/\Owns W' h' o/\(∀k:Key,3<=k.1->o k=o0 k)/\FnB o vb lb (lq s)/\u = .agg #[.int .i64 (lq s).params,vb]):=by
 refine ao (args:=[vs]) follows F.aA E.aA (Kw (by kernel_rfl)) fun K hK=>?_;have hs0:=hs;obtain⟨sa,sc,rfl,_⟩:=hs0;dsimp only[L.aA];refine ab fun z hz=>?_;simp;refine w0.cO (k:=(8,0)) (n:=1) (z:=.agg #[.int .i64 0,.slice none 0 0]) (ho0 _ (by decide)) (by kernel_rfl) rfl (by decide) (by simp[Value.cells,Value.oneCell']) fun h1 q1 w1=>?_;generalize h.size=R at w1;subst hz;refine ab fun z hz=>?_;simp;refine aq (z:=.agg #[.slice none 0 0,.int .i64 0,.int .i64 0,.slice none 0 0,.int .i64 0,.slice none 0 0]) (places:=[(0,1),(1,1),(2,2),(4,1),(5,1)]) (vs:=[(0,.slice sa s.length sc)]) (cs:=#[.slice sa s.length sc,.int .i64 0,.int .i64 0,.slice none 0 0,.int .i64 0,.slice none 0 0]) (by kernel_rfl) (by kernel_rfl) (by simp) (by rfl) ?_;generalize s.length=sl at hs;refine dy rfl ?_;have hbx:(h1.push (.cells (Value.agg #[.slice sa sl sc,.int .i64 0,.int .i64 0,.slice none 0 0,.int .i64 0,.slice none 0 0]).cells T.aY))[h1.size]? = some (.cells (Value.agg #[.slice sa sl sc,.int .i64 0,.int .i64 0,.slice none 0 0,.int .i64 0,.slice none 0 0]).cells T.aY (0,0)):=by simp
 have hle2:=bM h1 (.cells (Value.agg #[.slice sa sl sc,.int .i64 0,.int .i64 0,.slice none 0 0,.int .i64 0,.slice none 0 0]).cells T.aY);have hbg : ∀b,(Value.slice (some ⟨h1.size,0,none⟩) 1 1).ownBlock=some b->h1.size<=b:=fun b hb=>by simp only[Value.ownBlock,Kx]at hb;omega
 show LC.wp Tryz.prog z _ _ (h1.push (.cells (Value.agg #[.slice sa sl sc,.int .i64 0,.int .i64 0,.slice none 0 0,.int .i64 0,.slice none 0 0]).cells T.aY));generalize h1.push (.cells (Value.agg #[.slice sa sl sc,.int .i64 0,.int .i64 0,.slice none 0 0,.int .i64 0,.slice none 0 0]).cells T.aY)=h2 at hbx hle2;have w2:=w1.add (k:=(0,0)) ((Own.ay (by simp)).trans (ho0 _ (by decide))) (jB (W:=W) (d:=RawN.mk (n:=5) [.slice sa sl sc,.int .i64 0,.int .i64 0,.slice none 0 0,.int .i64 0,.slice none 0 0]) hbx (qu rfl (by simp[Value.oneCell'])) (by decide)) hle2 hbg;generalize h1.size=M at w2;generalize hvs:Value.slice sa sl sc=vs at hs w2;obtain⟨m0,hm0⟩ : ∃m0:MS,m0=⟨0,0,[],0,[]⟩:=⟨_,rfl⟩;obtain⟨o2,ho2⟩ : ∃o2:Own,o2=fun k=>if k=(0,0) then bx T.aY M (RawN.mk (n:=5) (mkL vs 0 0 (.slice none 0 0) 0 (.slice none 0 0))) else if k=(0,1) then it T.int (.slice none 0 0) ([]:List Int) else if k=(0,2) then it T.fq (.slice none 0 0) ([]:List BlkM) else gV R o0 k:=⟨_,rfl⟩;have w2:Owns W h2 o2:=w2.nils fun k i hk=>by
  rw[ho2]at hk;dsimp only at hk;split at hk
  ·rename_i e;rw[e];exact .inl hk
  rename_i e0;split at hk
  ·cases hk;exact .inr ⟨rfl,OwnT.nil (α:=Int) _ _ _⟩
  split at hk
  ·cases hk;exact .inr ⟨rfl,OwnT.nil (α:=BlkM) _ _ _⟩
  refine .inl ?_;rw[Own.ay e0];by_cases e8:k=(8,0)
  ·subst e8;exact hk
  rw[Own.ay e8];unfold gV at hk;rw[if_neg e8]at hk;split at hk
  ·exact hk
  cases hk
 have w2:Mk s M vs W h2 o2 m0:=⟨w2,hs,.slice none 0 0,.slice none 0 0,[],by rw[ho2,hm0];rfl,by rw[ho2,hm0];rfl,by rw[ho2];rfl,by rw[hm0];rfl,fun i hi=>by rw[hm0]at hi;simp at hi,fun i hi=>by rw[hm0]at hi;simp at hi,fun i hi=>by rw[hm0]at hi;simp at hi⟩;have f2 : ∀k:Key,3<=k.1->o2 k=gV R o0 k:=fun k hk=>by rw[ho2];dsimp only;rw[if_neg (by rintro rfl;simp at hk),if_neg (by rintro rfl;simp at hk),if_neg (by rintro rfl;simp at hk)]
 clear w1 hbx hbg hle2 q1 ho2;subst hz;refine ab fun z hz=>?_;simp;refine af (by kernel_rfl) (w2.take (by rw[hm0];decide) (n:=5) (by decide) (by decide)) ?_;rintro _ h3 ⟨rfl,o3,w3,f3⟩;have tv:=dd (s:=s) (at_:=m0.at_) (n:=5) (by decide);obtain⟨vb,vl,lb,bb⟩:=w3.box;refine w3.own.dK (k:=(0,0)) (n:=5) (i:=2) (e:=T.aY) (B:=M) (l:=mkL vs m0.took.at_ m0.took.ps vb m0.took.next vl) bb.box (by decide) (by kernel_rfl) rfl rfl rfl fun h4 w4 _=>?_;have b4:=bb.boxed ⟨m0.took.at_,aD s m0.at_ 5,m0.took.blocks,m0.took.next,m0.took.live⟩ rfl rfl
 subst hz;refine ab fun z hz=>?_;have w4:Mk s M vs W h4 _ _:=⟨w4,w3.src,vb,vl,lb,b4⟩;have rd:=w4.reads b4;simp[rd.ps];refine w4.own.dK (k:=(0,0)) (n:=5) (i:=4) (e:=T.aY) (B:=M) (l:=mkL vs m0.took.at_ (aD s m0.at_ 5) vb m0.took.next vl) b4.box (by decide) (by kernel_rfl) rfl rfl rfl fun h5 w5 _=>?_;have b5:=b4.boxed ⟨m0.took.at_,aD s m0.at_ 5,m0.took.blocks,aD s m0.at_ 5,m0.took.live⟩ rfl rfl
 have w5:Mk s M vs W h5 _ _:=⟨w5,w3.src,vb,vl,lb,b5⟩;obtain⟨o5,ho5⟩ : ∃o5,o5=(o3.upd (0,0) (bx T.aY M (RawN.mk (n:=5) (mkL vs m0.took.at_ (aD s m0.at_ 5) vb m0.took.next vl)))).upd (0,0) (bx T.aY M (RawN.mk (n:=5) (mkL vs m0.took.at_ (aD s m0.at_ 5) vb (aD s m0.at_ 5) vl))):=⟨_,rfl⟩;have f5 : ∀k:Key,3<=k.1->o5 k=gV R o0 k:=fun k hk=>by rw[ho5,Own.ay (by rintro rfl;simp at hk),Own.ay (by rintro rfl;simp at hk),f3 k hk,f2 k hk]
 rw[hm0]at w5;have w5:Mk s M vs W h5 o5 ⟨1,aD s 0 5,[],aD s 0 5,[]⟩:=by rw[ho5,hm0];exact w5
 clear b5 b4 rd w4 bb w3 f3 w2 f2 ho5 hvs;subst hz;refine ab fun z hz=>?_;simp;refine af (by kernel_rfl) (w5.take (show 1<=_ by omega) (n:=9) (by decide) (by decide)) ?_;rintro _ h6 ⟨rfl,o6,w6,f6⟩;have w6:Mk s M vs W h6 o6 (tZ s):=w6;have f6 : ∀k:Key,3<=k.1->o6 k=gV R o0 k:=fun k hk=>(f6 k hk).trans (f5 k hk);clear w5 f5;have hN:=Cl (s:=s)
 obtain⟨n1,n2⟩:=js (s:=s);have hw:IntKind.i64.wrap (1+aD s 1 9)=(bH s:Nat):=by rw[hN];exact bE (by omega) (by omega)
 simp[hw];subst hz;refine ab fun z hz=>?_;simp;refine af (by kernel_rfl) (AE (ri:=gV R o0) w6 (fun k hk=>f6 k (by omega)) (fun k h1 h2=>(f6 k h1).trans (by unfold gV;rw[if_neg (by rintro rfl;simp at h2),if_neg (by omega)])) (n:=bH s) zn (by omega) n1 (by omega)) ?_;rintro vt h7 ⟨W7,o7,g7,w7,r7,e7,st⟩;have w7:Mk s M vs W7 h7 o7 (iL s).2:=w7;have st:SlRd W7 vt (iL s).1:=st;have f7 : ∀k:Key,3<=k.1->o7 k=gV R o0 k:=fun k hk=>by
  by_cases e:8<=k.1
  ·exact r7 k e
  rw[e7 k hk (by omega)];unfold gV;rw[if_neg (by rintro rfl;simp at e),if_neg (by omega)]
 clear r7 e7 w6 f6;have k1:=yj (s:=s);have s4:=ue (s:=s);subst hz;refine ab fun z hz=>?_;simp;refine mV (α:=BlkM) (W:=W7) (k:=.i64) (n:=bH s) (d:=⟨⟨.slice none 0 0⟩,⟨.slice none 0 0⟩,⟨0,[],[],⟨0⟩⟩⟩) El.lN (by rfl) (by rfl) ⟨[.slice none 0 0],_,rfl,⟨rfl,rfl⟩,[.slice none 0 0],_,rfl,⟨rfl,rfl⟩,[.int .i64 0],_,rfl,⟨rfl,by decide,by decide⟩,[.slice none 0 0],_,rfl,⟨_,rfl,aI⟩,[.slice none 0 0],_,rfl,⟨_,rfl,aI⟩,rfl,by decide,by decide⟩ (by omega) (by omega) fun vb8 h8 ob8 m8 hle8 hb8=>?_;obtain⟨vb,vl,lb,bb⟩:=w7.box;have wa:=w7.own.sub (o':=o7.upd (0,2) none) fun j i hj=>by
  unfold Own.upd at hj;split at hj
  ·cases hj
  exact hj
 have wb:=wa.add (k:=(0,2)) Own.an ob8 hle8 (fun b hb=>by rw[hb8]at hb;cases hb;exact Kz _);have hv8:=(wb.cells (k:=(0,2)) Own.an).2;obtain⟨o8,ho8⟩ : ∃o8:Own,o8=fun k=>if k.1=1/\k.2<bH s then it T.ni (.slice none 0 0) ([]:List PhiD) else if k.1=2/\k.2<bH s then it T.eV (.slice none 0 0) ([]:List InsD) else o7.upd (0,2) (it T.fq vb8 (List.replicate (bH s) (BlkM.mk ⟨.slice none 0 0⟩ ⟨.slice none 0 0⟩ ⟨0,[],[],⟨0⟩⟩))) k:=⟨_,rfl⟩;have w8:Owns W7 h8 o8:=wb.nils fun k i hk=>by
  rw[ho8]at hk;dsimp only at hk;split at hk
  ·cases hk;exact .inr ⟨rfl,OwnT.nil (α:=PhiD) _ _ _⟩
  split at hk
  ·cases hk;exact .inr ⟨rfl,OwnT.nil (α:=InsD) _ _ _⟩
  refine .inl ?_;by_cases e:k=(0,2)
  ·subst e;rw[Own.an]at hk ⊢;exact hk
  rw[Own.ay e]at hk;rw[Own.ay e,Own.ay e];exact hk
 have c8 : ∀k:Key,¬(k.1=1/\k.2<bH s)->¬(k.1=2/\k.2<bH s)->o8 k=o7.upd (0,2) (it T.fq vb8 (List.replicate (bH s) (BlkM.mk ⟨.slice none 0 0⟩ ⟨.slice none 0 0⟩ ⟨0,[],[],⟨0⟩⟩))) k:=fun k h1 h2=>by rw[ho8];dsimp only;rw[if_neg h1,if_neg h2]
 refine w8.dK (k:=(0,0)) (n:=5) (i:=3) (e:=T.aY) (B:=M) (l:=mkL vs (iL s).2.at_ (iL s).2.ps vb (iL s).2.next vl) (by rw[c8 _ (by simp) (by simp),Own.ay (by simp)];exact bb.box) (by decide) (by kernel_rfl) rfl rfl hv8 fun h9 w9 _=>?_;obtain⟨o9,ho9⟩ : ∃o9:Own,o9=o8.upd (0,0) (bx T.aY M (RawN.mk (n:=5) (mkL vs (iL s).2.at_ (iL s).2.ps vb8 (iL s).2.next vl))):=⟨_,rfl⟩;have w9:Owns W7 h9 o9:=by rw[ho9];exact w9
 have b9:MkB M vs { (iL s).2 with blocks:=List.replicate (bH s) qS } o9 vb8 vl (List.replicate (bH s) (BlkM.mk ⟨.slice none 0 0⟩ ⟨.slice none 0 0⟩ ⟨0,[],[],⟨0⟩⟩)):=by
  rw[ho9];refine⟨rfl,?_,?_,by simp,fun i hi=>?_,fun i hi=>?_,fun i hi=>?_⟩
  ·rw[Own.ay (by simp),c8 _ (by simp) (by simp),Own.ay (by simp)];exact bb.live
  ·rw[Own.ay (by simp),c8 _ (by simp) (by simp),Own.an]
  ·have hi:i<bH s:=by simpa using hi
   rw[aB hi,aB hi];rfl
  ·have hi:i<bH s:=by simpa using hi
   rw[Own.ay (by simp),ho8];dsimp only;rw[if_pos ⟨rfl,hi⟩,aB hi,aB hi];rfl
  have hi:i<bH s:=by simpa using hi
  rw[Own.ay (by simp),ho8];dsimp only;rw[if_neg (by simp),if_pos ⟨rfl,hi⟩,aB hi,aB hi];rfl
 have x9:Nx s M vs W7 h9 (gV R o0) { (iL s).2 with blocks:=List.replicate (bH s) qS }:=⟨W7,o9,View.le_refl _,⟨w9,w7.src,vb8,vl,_,b9⟩,fun k hk=>by rw[ho9,Own.ay (by rintro rfl;simp at hk),c8 _ (by omega) (by omega),Own.ay (by rintro rfl;simp at hk)];exact f7 k hk⟩;clear b9 w9 ho9 c8 w8 ho8 wb wa hv8 bb ob8 m8 hle8 hb8 w7 f7;subst hz;refine ab fun z hz=>?_;refine ab fun y hy=>?_;simp;subst hy;refine FX (vr:=.pointer (some ⟨R,0,none⟩)) st k1.len x9 (by simp) (by omega) (by simp[bF,ag,ah]) fun h10 x10=>?_;have x10:Nx s M vs W7 h10 (gV R o0) (qx s):=x10
 clear x9;simp;subst hz;refine ab fun z hz=>?_;simp;obtain⟨Wa,oa,ga,wa,fa⟩:=x10;refine mV (α:=Int) (W:=Wa) (k:=.i64) (n:=bH s) (d:=0) El.aP (by rfl) (by rfl) ⟨rfl,by decide,by decide⟩ (by omega) (by omega) fun vp h11 ob11 m11 hle11 hb11=>?_;have x11:Nx s M vs W7 h11 ((gV R o0).upd (5,0) (it T.int vp (List.replicate (bH s) (0:Int)))) (qx s):=by
  have w11:=wa.own.add (k:=(5,0)) ((fa _ (by decide)).trans rfl) ob11 hle11 (fun b hb=>by rw[hb11]at hb;cases hb;exact Kz _);obtain⟨vb,vl,lb,bb⟩:=wa.box;refine⟨Wa,_,ga,⟨w11,wa.src,vb,vl,lb,bb.frame fun q hq=>Own.ay (by rintro rfl;simp at hq)⟩,fun q hq=>?_⟩;unfold Own.upd;split
  ·rfl
  exact fa q hq
 clear wa fa ob11 m11 hb11;subst hz;refine ab fun z hz=>?_;refine ab fun y hy=>?_;simp;subst hy;obtain⟨z2,g2⟩:=y7 (s:=s);have p0:Ph (bH s) 200 0 (List.replicate (bH s) (0:Int),qx s):=by
  have hz : ∀j,nth (List.replicate (bH s) (0:Int)) j=0:=fun j=>by
   rcases KB j (bH s)with hj | hj
   ·rw[aB hj]
   rw[de (by simpa using hj)];rfl
  exact⟨z2,by simp,fun j _=>hz j,fun j=>by show 0<=nth (List.replicate _ (0:Int)) j/\nth (List.replicate _ (0:Int)) j<=3;rw[hz];omega⟩
 refine F7 (x0:=(List.replicate (bH s) (0:Int),qx s)) (vr:=.pointer (some ⟨R,0,none⟩)) (vt:=vt) (vp:=vp) x11 p0 n1 (by omega) (by omega) (by simp[bF,ag,ah]) fun h12 x12=>?_;have x12:Nx s M vs W7 h12 ((gV R o0).upd (5,0) (it T.int vp (jC s).1)) (jC s).2:=x12;obtain⟨ph,pc,g3⟩:=qW (s:=s);clear p0 x11 z2 g2;simp;subst hz;refine ab fun z hz=>?_;simp;obtain⟨Wa,oa,ga,wa,fa⟩:=x12;refine mV (α:=Bool) (W:=Wa) (k:=.i64) (n:=bH s) (d:=false) El.nu (by rfl) (by rfl) rfl (by omega) (by omega) fun vd h13 ob13 m13 hle13 hb13=>?_;have x13:Nx s M vs W7 h13 (((gV R o0).upd (5,0) (it T.int vp (jC s).1)).upd (6,0) (it T.bool vd (List.replicate (bH s) false))) (jC s).2:=by
  have w13:=wa.own.add (k:=(6,0)) ((fa _ (by decide)).trans rfl) ob13 hle13 (fun b hb=>by rw[hb13]at hb;cases hb;exact Kz _);obtain⟨vb,vl,lb,bb⟩:=wa.box;refine⟨Wa,_,ga,⟨w13,wa.src,vb,vl,lb,bb.frame fun q hq=>Own.ay (by rintro rfl;simp at hq)⟩,fun q hq=>?_⟩;unfold Own.upd;split
  ·rfl
  exact fa q hq
 clear wa fa ob13 m13 hb13;subst hz;refine ab fun z hz=>?_;refine ab fun y hy=>?_;simp;subst hy;refine F3 (a:=16000) (p:=27) (x0:=(List.replicate (bH s) false,(jC s).2)) (vr:=.pointer (some ⟨R,0,none⟩)) (vp:=vp) x13 st k1.len rfl rfl rfl z7 n2 (by omega) (by omega) (by omega) (by simp[bF,ag,ah]) fun h14 x14=>?_;have x14:Nx s M vs W7 h14 (((gV R o0).upd (5,0) (it T.int vp (jC s).1)).upd (6,0) (it T.bool vd (wL s).1)) (wL s).2:=x14;obtain⟨q4,pc4⟩:=yF (s:=s);clear x13 pc g3;simp;subst hz;refine ab fun z hz=>?_;refine ab fun y hy=>?_;simp;subst hy;refine Fh (vr:=.pointer (some ⟨R,0,none⟩)) (vt:=vt) (vp:=vp) (vd:=vd) (lp:=(jC s).1) x14 ((Own.ay (by simp)).trans Own.an) rfl rfl q4 pc4 ph.len ph.rng n1 n2 (by omega) (by omega) (by omega) (by omega) (by simp[bF,ag,ah]) fun h15 x15=>?_;have x15:Nx s M vs W7 h15 (((gV R o0).upd (5,0) (it T.int vp (jC s).1)).upd (6,0) (it T.bool vd (wL s).1)) (sT s):=x15
 have q5:=ml (s:=s);clear x14 q4 pc4 ph;simp;subst hz;refine ab fun z hz=>?_;obtain⟨Wa,oa,ga,wa,fa⟩:=x15;obtain⟨vb,vl,lb,bb⟩:=wa.box;have rd:=wa.reads bb
 simp[rd.f];have hvb:vb.oneCell'=true:=rd.blk.cells.2;refine wa.own.gZ (k:=(8,0)) (α:=RawN 1) (β:=RawN 1) Part.all (B:=R) (D:=RawN.mk (n:=1) [.int .i64 0,.slice none 0 0]) (d:=RawN.mk (n:=1) [.int .i64 (sT s).ps,vb]) ((fa _ (by decide)).trans rfl) (by kernel_rfl) rfl rfl (qu rfl (by intro c hc;simp only[KP,MX,or_false]at hc;rcases hc with rfl | rfl<;>first | rfl | exact hvb)) fun h16 w16 _=>?_;have c16:=w16.uh (k:=(8,0)) (n:=1) (l:=[.int .i64 (sT s).ps,vb]) Own.an
 have c16:Un.ev (vw h16) (.au 2) (.pointer (some ⟨R,0,none⟩))=some (.agg #[.int .i64 (sT s).ps,vb]):=c16;have b16:=bb.frame (o':=oa.upd (8,0) (bx T.eI R (RawN.mk (n:=1) [.int .i64 (sT s).ps,vb]))) fun q hq=>Own.ay (by rintro rfl;simp at hq);have w16:Mk s M vs Wa h16 _ (sT s):=⟨w16,wa.src,vb,vl,lb,b16⟩
 have rd16:=w16.reads b16;subst hz;simp[c16];refine hK _ _ ⟨Wa,fun k=>if 3<=k.1 then o0 k else if k=(0,2)\/k.1=1\/k.1=2 then oa k else none,vb,lb,View.le_trans g7 ga,w16.own.sub fun k i hk=>?_,fun k hk=>if_pos hk,⟨?_,b16.len,b16.term,fun i hi=>?_,fun i hi=>?_⟩,rfl⟩
 ·split at hk
  ·rename_i e3;rcases KB k.1 10 with e | e
   ·rw[ho0 k e]at hk;cases hk
   have h1:oa k=o0 k:=(fa k (by omega)).trans (by rw[Own.ay (by rintro rfl;simp at e),Own.ay (by rintro rfl;simp at e)];unfold gV;rw[if_neg (by rintro rfl;simp at e),if_pos e]);rw[Own.ay (by rintro rfl;simp at e),h1];exact hk
  rename_i e3;split at hk
  ·rw[Own.ay (by rintro rfl;simp at e3)];exact hk
  cases hk
 ·have:=b16.blk;rw[Own.ay (by simp)]at this;simpa using this
 ·have:=b16.phis i hi;rw[Own.ay (by simp)]at this;exact(by simp:_=oa (1,i)).trans this
 have:=b16.ins i hi;rw[Own.ay (by simp)]at this;exact(by simp:_=oa (2,i)).trans this
theorem GJ{s:List Int}{vs:Value}{h:Heap}{W:View}{o0:Own}(w0:Owns W h o0)(ho0 : ∀k:Key,k.1<10->o0 k=none)(hs:SlRd W vs s):
  aw Tryz.prog N.aA #[vs] h (fun u h'=>∃W',W.le W'/\Owns W' h' o0/\Rd W' u (lq s)):=by refine(Fk w0 ho0 hs).mono ?_;rintro u h' ⟨W1,o,vb,lb,hW,w,ho,b,rfl⟩;obtain⟨W2,hW2,w2,sb⟩:=b.freeze w ho fun k hk=>ho0 k (by omega);have mp:=Aa (s:=s);have mi:I64 (lq s).params:=⟨by omega,by omega⟩;exact⟨W2,View.le_trans hW hW2,w2,⟨_,rfl,[.int .i64 (lq s).params],[vb],rfl,⟨rfl,mi⟩,vb,rfl,sb⟩⟩
theorem CJ{s:List Int}{v:Value}{h:Heap}{W:View}{o0:Own}(w0:Owns W h o0)(ho0 : ∀k:Key,k.1<10->o0 k=none)(h21:o0 (21,0)=none)(hs:SlRd W v s):
  aw Tryz.prog N.fY #[v] h (fun u h'=>∃W',W.le W'/\Owns W' h' o0/\Rd W' u (lq (s.take 200))):=by
 refine ao (args:=[v]) follows F.fY E.fY (Kw (by kernel_rfl)) fun K hK=>?_;dsimp only[L.fY];have hb:=hs.bound;refine ab fun z hz=>?_;simp;refine w0.cO (k:=(21,0)) (n:=1) (z:=.agg #[.int .i64 0,.slice none 0 0]) h21 (by kernel_rfl) rfl (by decide) (by simp[Value.cells,Value.oneCell']) fun h1 hle1 w1=>?_;generalize h.size=R at w1;subst hz;refine ab fun z hz=>?_;have ho : ∀k:Key,k.1<10->(o0.upd (21,0) (bx T.eI R (RawN.mk (n:=1) (Value.agg #[.int .i64 0,.slice none 0 0]).cells.toList))) k=none:=fun k hk=>(Own.ay (by rintro rfl;simp at hk)).trans (ho0 k hk)
 have fin : ∀(W2:View) (h2:Heap) (u:Value) (ρ:Env),W.le W2->Owns W2 h2 (o0.upd (21,0) (bx T.eI R (RawN.mk (n:=1) (Value.agg #[.int .i64 0,.slice none 0 0]).cells.toList)))->Rd W2 u (lq (s.take 200))->Lft.look ρ 2=some (ptr R)->∀(po:OP) (us:List (Nat × Value)),asg us (.tmp 2)=ptr R->asg us (.tmp 8)=u->
   @Lft.step po Tryz.prog (Op.store 27 (Operand.tmp 2) (Operand.tmp 8)) 0 us h2 fun _ h'=>LC.wp Tryz.prog z (dH [.un (.au 2) (.tmp 2)] K) ρ h':=fun W2 h2 u ρ hW w2 r hl po us e1 e2=>by
  have q:=gD r;obtain⟨cs,rfl,h3⟩:=r;have hl3:=Rep.len h3;refine w2.pL (k:=(21,0)) (n:=1) (l':=cs.toList) Own.an (by kernel_rfl) e1 (by simpa using e2) (by rw[hl3];rfl) (fun c hc=>Rep.flat h3 c hc) fun h4 w4 _=>?_;rw[hz];have hall:=w4.uh (k:=(21,0)) (n:=1) (e:=T.eI) (B:=R) (l:=cs.toList) Own.an
  simp at hall;simp[hl,hall];refine hK _ _ ⟨W2,hW,w4.sub fun j i hj=>?_,⟨_,rfl,h3⟩⟩;have:j≠(21,0):=by rintro rfl;rw[h21]at hj;cases hj
  rw[Own.ay this,Own.ay this];exact hj
 clear hK;have tk : ∃us,Bn.ev .hi v (.int .i64 (if(200:Int)<s.length then 200 else s.length))=some us/\SlRd W us (s.take 200):=by
  by_cases q:(200:Int)<s.length
  ·obtain⟨u,h2,h3⟩:=hs.take (n:=200) (by omega) (kd:=.i64);exact⟨u,by rw[if_pos q];exact h2,h3⟩
  obtain⟨u,h2,h3⟩:=hs.take (n:=s.length) (by omega) (kd:=.i64);refine⟨u,by rw[if_neg q];exact h2,?_⟩;rw[KG (by omega)];rw[KG (Kz _)]at h3;exact h3
 obtain⟨us,h2,h3⟩:=tk;simp[hs.len,h2];refine af (by kernel_rfl) (GJ w1 ho h3) ?_;rintro u8 h8 ⟨W8,hW8,w8,r8⟩;exact fin W8 h8 u8 [(0,v),(2,ptr R),(8,u8)] hW8 w8 r8 rfl _ [(2,ptr R),(8,u8)] rfl rfl
theorem DR{s:List Int}{v:Value}{h:Heap}(hs:SlRd (vw h) v s):aw Tryz.prog N.fY #[v] h (fun u h'=>(vw h).le (vw h')/\Rd (vw h') u (lq (s.take 200))):=
 (CJ (Owns.start (View.le_refl (vw h))) (fun _ _=>rfl) rfl hs).mono fun u h' ⟨W',q1,w',r'⟩=>⟨View.le_trans q1 w'.wle,r'.mono w'.wle⟩
theorem yT{H:View}{B:Nat}{d:Int × Int}(h:At H ⟨B,0,none⟩ d):aj H ⟨B,0,none⟩=some (.int .i64 d.1)/\aj H ⟨B,1,none⟩=some (.int .i64 d.2)/\I64 d.1/\I64 d.2:=by obtain⟨cs,h1,e,r1,r2⟩:=h;subst e;exact⟨by simpa using gu h1 (i:=0) rfl,by simpa using gu h1 (i:=1) rfl,r1,r2⟩
theorem A3{a:EndD}:BW a a=true:=by simp[BW]
set_option maxHeartbeats 2000000 in
theorem xY{s:List Int}{a t:Int × Int}{v va vt:Value}{h:Heap}(ht:Tab h)(hM:lI)(hs:SlRd (vw h) v s)(ha:Rd (vw h) va a)(hvt:Rd (vw h) vt t):
  aw Tryz.prog N.dh #[v,va,vt] h (fun u h'=>u = .bool true/\(vw h).le (vw h')):=by
 refine ao (args:=[v,va,vt]) follows F.dh E.dh (Kw (by kernel_rfl)) fun K hK=>?_;dsimp only[L.dh];have c0:=Cx.start (h:=h) (View.le_refl (vw h));refine ab fun z hz=>?_;simp;refine c0.dy rfl ha fun A h1 W1 hW1 c1 at1 hle1=>?_;refine c1.dy rfl (hvt.mono hW1) fun B h2 W2 hW2 c2 at2 hle2=>?_;have at1:=at1.mono hW2
 subst hz;refine ab fun z hz=>?_;simp;refine af (by kernel_rfl) (Dd (ht.mono c2.le0)) ?_;rintro _ h3 ⟨hle3,rfl⟩;have c3:=c2.ext hle3;have hW3:=c2.up (h':=h3);subst hz;refine ab fun z hz=>?_;simp;refine af (by kernel_rfl) (DR (hs.mono c3.le0)) ?_;rintro uf h4 ⟨hle4,rf⟩;have l04:(vw h).le (vw h4):=View.le_trans c3.le0 hle4
 have at1:=at1.mono (View.le_trans hW3 (View.le_trans c3.wle hle4));have at2:=at2.mono (View.le_trans hW3 (View.le_trans c3.wle hle4));clear c0 c1 c2 c3 hW1 hW2 hW3 hle1 hle2 hle3 hs ha hvt;obtain⟨f,hf⟩ : ∃f,f=lq (s.take 200):=⟨_,rfl⟩;rw[<-hf]at rf;have hsm:SmF f:=by rw[hf];exact FL
 have hfl:=DM (s:=s.take 200);rw[<-hf]at hfl;clear hf;have c4:=Cx.start (h:=h4) (View.le_refl (vw h4));refine c4.dZ (α:=ak) rf (n:=2) (z:=.agg #[.int .i64 0,.slice none 0 0]) (by kernel_rfl) rfl rfl (by kernel_rfl) (fun _=>by simp) (fun _=>by simp) fun F h5 W5 hW5 c5 at5 hle5=>?_;have at1:=at1.mono hW5
 have at2:=at2.mono hW5;obtain⟨uF,hF,rF⟩:=at5.ldN rfl (N:=2) rfl;subst hz;obtain⟨p0,p1,pr0,pr1⟩:=yT at1;obtain⟨t0,t1,tr0,tr1⟩:=yT at2;obtain⟨vb,fb,hvb⟩:=(at5.part ak.qz).sl;have fb:aj W5 ⟨F,1,none⟩=some vb:=by simpa using fb
 obtain⟨r1,e1,l1⟩:=HM (x:=a.1);obtain⟨r2,e2,l2⟩:=HM (x:=a.2);obtain⟨b,hb⟩ : ∃b:Nat,b=r1 % f.blocks.length:=⟨_,rfl⟩;have hbl:b<f.blocks.length:=by rw[hb];exact Nat.mod_lt _ (by omega)
 have eR : ∀(x m:Nat),0<m->Bn.ev (.div .rem) (.int .i64 (x:Int)) (.int .i64 (m:Int))=some (.int .i64 ((x % m:Nat):Int)):=fun x m hm=>by rw[EG (by omega)];rfl
 have eb:(r1:Int).tmod (f.blocks.length:Int)=(b:Int):=by rw[hb];rfl
 have nz:¬((f.blocks.length:Int)=0):=by omega
 have x0 : ∀X,Bn.ev (.aidx 2 1) (.pointer (some ⟨X,0,none⟩)) (.int .i64 0)=some (.pointer (some ⟨X,0,none⟩)):=fun _=>rfl;have x1 : ∀X,Bn.ev (.aidx 2 1) (.pointer (some ⟨X,0,none⟩)) (.int .i64 1)=some (.pointer (some ⟨X,1,none⟩)):=fun _=>rfl
 refine ab fun z hz=>?_;simp[x0,x1,ae c5.wle p0,ae c5.wle fb,e1,hvb.len,eR r1 f.blocks.length (by omega),<-hb];subst hz;obtain⟨vi,fi,hvi⟩:=((hvb.at hbl).part BlkD.lV).sl;rw[<-az hbl]at hvi;have qb:=hvb.idxn (k:=.i64) (N:=6) rfl (i:=(b:Int)) (by omega) (by omega);simp at qb;obtain⟨p,hp⟩ : ∃p:Nat,p=r2 % ((nth f.blocks b).ins.length+1):=⟨_,rfl⟩;have hpl:p<(nth f.blocks b).ins.length+1:=by rw[hp];exact Nat.mod_lt _ (by omega)
 have hi:=hvi.bound;have ep:(r2:Int).tmod ((nth f.blocks b).ins.length+1:Int)=(p:Int):=by rw[hp];rfl
 have nz2:¬(((nth f.blocks b).ins.length:Int)+1=0):=by omega
 have ew:IntKind.i64.wrap (((nth f.blocks b).ins.length:Int)+1)=((nth f.blocks b).ins.length:Int)+1:=bE (by omega) (by omega);have eR2:Bn.ev (.div .rem) (.int .i64 (r2:Int)) (.int .i64 (((nth f.blocks b).ins.length:Int)+1))=some (.int .i64 (p:Int)):=by rw[EG (by omega),ep]
 have fi':aj W5 (((slA vb).add (b*6)).add 1)=some vi:=fi;refine ab fun z hz=>?_;simp[x0,x1,ae c5.wle p1,ae c5.wle fb,ae c5.wle fi',qb,e2,hvi.len,ew,eR2];subst hz;clear e1 e2 l1 l2 eR eR2 ep eb nz nz2 ew p0 p1 hb hp r1 r2;have l05:=View.le_trans l04 c5.le0
 refine ab fun z hz=>?_;simp;refine CG [5,6,7,8,9,10,11] (fun(_:Unit) k=>[.pointer (some ⟨B,0,none⟩),.bool false,.bool true,.pointer (some ⟨F,0,none⟩),.int .i64 b,.int .i64 p,.int .i64 k])
  (fun _ k h6=>(vw h5).le (vw h6)) 38 () rfl (View.le_refl _) ?_;rintro _ k h6 hk hle6 K2 hK2;refine ab fun y hy=>?_;simp;refine af (by kernel_rfl) (pH (ht.mono (View.le_trans l05 hle6))) ?_;rintro _ h7 ⟨hle7,rfl⟩;have le7:=View.le_trans hle6 hle7;by_cases hk8:k=38
 ·subst hk8;simp;subst hz;simp;exact hK _ _ ⟨rfl,View.le_trans l05 le7⟩
 have hk37:(k:Int)<=37:=by omega
 simp[hk37];subst hy;refine ab fun y hy=>?_;rw[aH];refine ab fun x hx=>?_;have v7:=View.le_trans c5.wle le7;simp[hF _ v7,x0,ae v7 t0];refine af (by kernel_rfl) (yq (W:=vw h7) (View.le_refl _) (rF.mono v7) hsm (fun _ _ _=>hM) ⟨by omega,by omega⟩ tr0) ?_;rintro _ h8 ⟨hle8,u1,u2,rfl,su1,ru2⟩;simp;refine dX (X:=vw h8) (z:=.agg endZ.toArray) (by kernel_rfl) rfl (by kernel_rfl) ru2 (fun _=>by simp) (fun _=>by simp) fun h9 hle9 _ at9=>?_;have at9:=at9 (vw h9) hle9 rfl
 generalize h8.size=C at at9;subst hx;refine ab fun x hx=>?_;have v9:=View.le_trans v7 (View.le_trans hle8 hle9);simp[hF _ v9,x1,ae v9 t1];refine af (by kernel_rfl) (yq (W:=vw h9) (View.le_refl _) (rF.mono v9) hsm (fun _ _ _=>hM) ⟨by omega,by omega⟩ tr1) ?_;rintro _ h10 ⟨hle10,u3,u4,rfl,su3,ru4⟩;simp;refine dX (X:=vw h10) (z:=.agg endZ.toArray) (by kernel_rfl) rfl (by kernel_rfl) ru4 (fun _=>by simp) (fun _=>by simp) fun h11 hle11 _ at11=>?_;have at11:=at11 (vw h11) hle11 rfl
 generalize h10.size=D at at11;have q811:=View.le_trans hle9 (View.le_trans hle10 hle11);have q911:=View.le_trans hle10 hle11;have su1:=su1.mono q811;have su3:=su3.mono hle11;obtain⟨n1,hn1,rn1⟩:=at9.ldN rfl (N:=5) rfl;obtain⟨n2,hn2,rn2⟩:=at11.ldN rfl (N:=5) rfl;have v11:=View.le_trans v9 q911;have le11:(vw h5).le (vw h11):=View.le_trans le7 (View.le_trans hle8 q811);have hs1:(ff f b p k t.1).isSome=(ff f b p k t.2).isSome/\(pS (ff f b p k t.1)).length=(pS (ff f b p k t.2)).length/\Br (ff f b p k t.1)=Br (ff f b p k t.2):=by
  by_cases h26:(k:Int)=26\/(k:Int)=30
  ·rcases vR (f:=f) (b:=b) (p:=p) (pat:=k) (t:=t.1) (t':=t.2) h26 with⟨e1,e2⟩ | ⟨_,_,_,_,x,y,c2,c2',e1,e2,e3,e4,e5,_,_⟩
   ·rw[e1,e2];exact⟨rfl,rfl,rfl⟩
   rw[e1,e2];exact⟨rfl,by show x.code.length=y.code.length;rw[e4,e5];rfl,e3⟩
  rw[uo (t':=t.2) (by omega) (by omega)];exact⟨rfl,rfl,rfl⟩
 subst hx;refine ab fun x hx=>?_;obtain⟨e1,e2,e3⟩:=hs1;have l1:=su1.len (K:=vw h11);have l2:=su3.len (K:=vw h11);rw[e2]at l1;rw[e1];have ewk:IntKind.i64.wrap ((k:Int)+1)=((k+1:Nat):Int):=by rw[bE (by omega) (by omega)];omega
 have h1:=hn1 _ q911;have h2:=hn2 _ (View.le_refl _);obtain⟨q,hq⟩ : ∃q,q=(ff f b p k t.2).isSome:=⟨_,rfl⟩;rw[<-hq];generalize hnc:(pS (ff f b p k t.2)).length=nc at l1 l2;simp[l1,l2,h1,h2];refine af (by kernel_rfl) (AO (W:=vw h11) (View.le_refl _) (rn1.mono q911) rn2) ?_;rintro _ h12 ⟨rfl,hle12⟩;rw[e3,A3];simp;subst hx;have le12:=View.le_trans le11 hle12;have v12:=View.le_trans v11 hle12;have su1:=su1.mono hle12;have su3:=su3.mono hle12;refine ab fun x hx=>?_;by_cases h26:(k:Int)=26\/(k:Int)=30
 ·have key:LC.wp Tryz.prog x (eY 1 (eU (LC.wp Tryz.prog y (eU K2 (eY 0 (eU (LC.wp Tryz.prog z (dH [E.tmp 6] K)) (dH [E.tmp 6] K))))) (eU K2 (eY 0 (eU (LC.wp Tryz.prog z (dH [E.tmp 6] K)) (dH [E.tmp 6] K))))))
    [(5,.pointer (some ⟨B,0,none⟩)),(6,.bool false),(7,.bool true),(8,.pointer (some ⟨F,0,none⟩)),(9,.int .i64 b),(10,.int .i64 p),(11,.int .i64 k),(12,u1),(13,.pointer (some ⟨C,0,none⟩)),(14,.bool q),(15,u3),(16,.pointer (some ⟨D,0,none⟩)),(17,.bool q),(40,.int .i64 k),(41,.int .i64 37),(52,.tuple #[u1,u2,.bool q]),(53,u1),(54,u2),(55,.bool q),(63,.tuple #[u3,u4,.bool q]),(64,u3),(65,u4),(66,.bool q),(77,.bool false),(80,.bool true)] h12:=by
   rw[hx];generalize he1:(E.bin (Bn.cmp BinOp.neq) (E.un Un.len (E.tmp 12)) (E.con (Value.int IntKind.i64 2)))=e1;generalize he2:(E.bin (Bn.cmp BinOp.neq) (E.un Un.load (E.un (Un.fld 0) (E.bin (Bn.idx 8) (E.tmp 12) (E.con (Value.int IntKind.i64 0))))) (E.con (Value.int IntKind.i64 4)))=e2;generalize he3:(E.bin (Bn.cmp BinOp.neq) (E.un Un.load (E.un (Un.fld 1) (E.bin (Bn.idx 8) (E.tmp 12) (E.con (Value.int IntKind.i64 0))))) (E.un Un.load (E.bin (Bn.aidx 2 1) (E.tmp 5) (E.con (Value.int IntKind.i64 0)))))=e3;generalize he4:(E.bin (Bn.cmp BinOp.neq) (E.un Un.load (E.un (Un.fld 1) (E.bin (Bn.idx 8) (E.tmp 15) (E.con (Value.int IntKind.i64 0))))) (E.un Un.load (E.bin (Bn.aidx 2 1) (E.tmp 5) (E.con (Value.int IntKind.i64 1)))))=e4;generalize he5:(E.bin (Bn.cmp BinOp.neq) (E.un Un.load (E.un (Un.fld 4) (E.bin (Bn.idx 8) (E.tmp 12) (E.con (Value.int IntKind.i64 1))))) (E.un Un.load (E.bin (Bn.aidx 2 1) (E.tmp 5) (E.con (Value.int IntKind.i64 0)))))=e5;generalize he6:(E.bin (Bn.cmp BinOp.neq) (E.un Un.load (E.un (Un.fld 4) (E.bin (Bn.idx 8) (E.tmp 15) (E.con (Value.int IntKind.i64 1))))) (E.un Un.load (E.bin (Bn.aidx 2 1) (E.tmp 5) (E.con (Value.int IntKind.i64 1)))))=e6;generalize he7:(E.bin (Bn.cmp BinOp.neq) (E.un Un.load (E.un (Un.fld 6) (E.bin (Bn.idx 8) (E.tmp 12) (E.con (Value.int IntKind.i64 0))))) (E.un Un.load (E.un (Un.fld 4) (E.bin (Bn.idx 5) (E.un Un.load (E.un (Un.fld 1) (E.bin (Bn.idx 6) (E.un Un.load (E.un (Un.fld 1) (E.tmp 8))) (E.tmp 9)))) (E.tmp 10)))))=e7;refine ab fun x hx=>?_;have done_ : ∀ρ:Env,bF [5,6,7,8,9,10,11] ρ=[5,6,7,8,9,10,11].zip [.pointer (some ⟨B,0,none⟩),.bool false,.bool true,.pointer (some ⟨F,0,none⟩),.int .i64 b,.int .i64 p,.int .i64 ((k+1:Nat):Int)]->K2 ρ h12:=fun ρ he=>hK2 () ρ h12 (by omega) he le12;cases q with
   | false=>simp;rw[hx];simp;rw[hy];simp;exact done_ _ (by rw[ewk];rfl)
   | true=>
    rcases vR (f:=f) (b:=b) (p:=p) (pat:=k) (t:=t.1) (t':=t.2) h26 with⟨_,w2⟩ | ⟨hpi,_,_,_,xx,yy,c2,c2',g1,g2,_,g4,g5,g6,g7⟩
    ·rw[w2]at hq;cases hq
    have hpi':p<(nth f.blocks b).ins.length:=by simpa using hpi
    have su1:SlRd (vw h12) u1 [(⟨4,t.1,0,0,0,0,(nth (nth f.blocks b).ins p).imm,[]⟩:aW),c2]:=by rw[g1,show pS (some xx)=xx.code from rfl,g4]at su1;exact su1
    have su3:SlRd (vw h12) u3 [(⟨4,t.2,0,0,0,0,(nth (nth f.blocks b).ins p).imm,[]⟩:aW),c2']:=by rw[g2,show pS (some yy)=yy.code from rfl,g5]at su3;exact su3
    have a1:=su1.idxn (k:=.i64) (N:=8) rfl (i:=0) (by decide) (by simp);have a2:=su1.idxn (k:=.i64) (N:=8) rfl (i:=1) (by decide) (by simp);have a3:=su3.idxn (k:=.i64) (N:=8) rfl (i:=0) (by decide) (by simp);have a4:=su3.idxn (k:=.i64) (N:=8) rfl (i:=1) (by decide) (by simp);have b1:=((su1.at (i:=0) (by simp)).part aW.qw).int;have b2:=((su1.at (i:=0) (by simp)).part aW.JJ).int;have b3:=((su3.at (i:=0) (by simp)).part aW.JJ).int;have b4:=((su1.at (i:=1) (by simp)).part aW.Hr).int;have b5:=((su3.at (i:=1) (by simp)).part aW.Hr).int;have b6:=((su1.at (i:=0) (by simp)).part aW.gP).i32;have n8:Rep.n aW=8:=rfl;simp[n8,g6,g7]at a1 a2 a3 a4 b1 b2 b3 b4 b5 b6;have w1:=su1.len (K:=vw h12);simp at w1;have f1:=ae v12 fb;have f2:=ae v12 fi';have f3:=hvi.idxn (k:=.i64) (N:=5) rfl (i:=(p:Int)) (by omega) (by omega);have f4:=ae v12 ((hvi.at hpi').part InsD.gP).i32;rw[<-az hpi']at f4;have n5:Rep.n InsD=5:=rfl;simp[n5]at f3 f4;have t0':=ae v12 t0;have t1':=ae v12 t1;have v1 : ∀ρ:Nat->Option Value,ρ 12=some u1->ev ρ (vw h12) e1=some (.bool false):=fun ρ r1=>by rw[<-he1];simp[r1,w1]
    have v2 : ∀ρ:Nat->Option Value,ρ 12=some u1->ev ρ (vw h12) e2=some (.bool false):=fun ρ r1=>by rw[<-he2];simp[r1,a1,b1]
    have v3 : ∀ρ:Nat->Option Value,ρ 12=some u1->ρ 5=some (.pointer (some ⟨B,0,none⟩))->ev ρ (vw h12) e3=some (.bool false):=fun ρ r1 r2=>by rw[<-he3];simp[r1,r2,a1,b2,x0,t0']
    have v4 : ∀ρ:Nat->Option Value,ρ 15=some u3->ρ 5=some (.pointer (some ⟨B,0,none⟩))->ev ρ (vw h12) e4=some (.bool false):=fun ρ r1 r2=>by rw[<-he4];simp[r1,r2,a3,b3,x1,t1']
    have v5 : ∀ρ:Nat->Option Value,ρ 12=some u1->ρ 5=some (.pointer (some ⟨B,0,none⟩))->ev ρ (vw h12) e5=some (.bool false):=fun ρ r1 r2=>by rw[<-he5];simp[r1,r2,a2,b4,x0,t0']
    have v6 : ∀ρ:Nat->Option Value,ρ 15=some u3->ρ 5=some (.pointer (some ⟨B,0,none⟩))->ev ρ (vw h12) e6=some (.bool false):=fun ρ r1 r2=>by rw[<-he6];simp[r1,r2,a4,b5,x1,t1']
    have v7 : ∀ρ:Nat->Option Value,ρ 12=some u1->ρ 8=some (.pointer (some ⟨F,0,none⟩))->ρ 9=some (.int .i64 b)->ρ 10=some (.int .i64 p)->ev ρ (vw h12) e7=some (.bool false):=fun ρ r1 r2 r3 r4=>by rw[<-he7];simp[r1,r2,r3,r4,a1,b6,f1,f2,f3,f4,qb]
    simp[v1,v2,v3,v4,v5,v6,v7];rw[hx];simp;rw[hy];simp;exact done_ _ (by rw[ewk];rfl)
  rcases h26 with e | e
  ·have e':k=26:=by omega
   subst e';simp;exact key
  have e':k=30:=by omega
  subst e';simp;exact key
 have n26:¬(k:Int)=26:=fun e=>h26 (.inl e);have n30:¬(k:Int)=30:=fun e=>h26 (.inr e)
 have m26:¬k=26:=by omega
 have m30:¬k=30:=by omega
 rw[uo (t':=t.2) n26 n30]at su1;simp[n26,n30,m26,m30];refine af (by kernel_rfl) (E2 su1 su3) ?_;rintro _ h13 ⟨rfl,hle13⟩;simp;subst hy;simp;refine hK2 () _ _ (by omega) (by rw[ewk];rfl) (View.le_trans le12 hle13)
section
open Go Go.Lft Go.ChangeShapes Go.WideShapes Go.ChangeAt Go.RowKit
theorem Tryz.kI:Tryz.f9.params = #[T.aP,T.gL,T.gL]:=by kernel_rfl
theorem sn(os:Os)(started:os.Started)(H:Type)(enc:TypeId × Value->H):
  ReturnsInHanded {} Tryz.checked os 9 .any (fun w args=>(Rows.tileTempsSpec.pre enc Tryz.prog Tryz.f9 [] false w args/\laidMetH Tryz.prog zx w)/\sizedMet enc Tryz.prog Tryz.f9 (OpenSpec.ofChange Rows.tileTempsSpec) false w args) (Rows.tileTempsSpec.post enc Tryz.prog Tryz.f9 false true false false):=
 Jg (C:=Tryz.checked) (X:=fun w=>laidMetH Tryz.prog zx w) (F:=Tab) (fun _ _ hh h=>h.of_heap hh) (fun _ h=>zf h) Tryz.own started (by kernel_rfl) Tryz.func9 rfl
  (ChangeSpec.witness_shaped (enc:=enc) (C:=Tryz.checked) (os:=os) (X:=fun w _=>laidMetH Tryz.prog zx w) false (World.doorLaid Tryz.prog 400 os) #[.slice none 0 0,.agg #[.int .i64 0,.int .i64 0],.agg #[.int .i64 0,.int .i64 0]] 8 rfl (World.shaped_of_RefB (by kernel_rfl) (by kernel_rfl)) (by kernel_rfl) (by kernel_rfl) (by kernel_rfl) (DL os _))
  Tryz.laidOut (fun t ht=>by rw[Tryz.kI]at ht;simp only[KP,MX,or_false]at ht;rcases ht with rfl | rfl | rfl<;>exact⟨by kernel_rfl,of_decide_eq_true (by kernel_rfl)⟩) rfl
  (fun ds hds=>by
   match ds,hds with
   | [a,b,c],_=>rfl) rfl (tb:=4) (by kernel_rfl) Tryz.kI rtIs rtPr rtPr fun h v1 x1 v2 x2 v3 x3 ht h1 h2 h3=>xY ht HZ (eE.1 h1) h2 h3
theorem vN:Rows.TileTempsSaid:=
 OpenClaim.holds_of_wide 9 Tryz.f9 rfl rfl rfl rfl rfl rfl rfl ⟨rfl,rfl,rfl,rfl,rfl⟩ rfl rfl rfl rfl rfl (by kernel_rfl) Tryz.func9 (by kernel_rfl)
  (of_decide_eq_true (by kernel_rfl)) (by unfold Func.isWrapper;first | (rw[if_pos (by decide +kernel)];kernel_rfl) | (rw[if_neg (by decide +kernel)];exact⟨rfl,rfl⟩))
  (fun os started H enc _=>sn os started H enc)
theorem tiletemps_holds:Rows.TileTempsCardSaid:=
 Claim7.holds_tied_plain_at .later [] [.listed,.data] true Rows.tileTempsCard.stood.harness true
  vN (fun _ h=>by cases h) (by kernel_rfl) (fun _ h=>by cases h) tileTemps_row_tie rfl ⟨rfl,rfl⟩ (by kernel_rfl) rfl
  (fun f fn hf hfn=>by
   obtain rfl : f = 9 := Option.some.inj ((show Tryz.prog.funcNamed "jacquard/jacquardlaw06.TileTemps" = some 9 by kernel_rfl).symm.trans hf) |>.symm;obtain rfl:fn=Tryz.f9:=(Option.some.inj (Tryz.func9.symm.trans hfn)).symm;exact⟨by kernel_rfl,fun j t ht=>by
    rw[Tryz.kI]at ht;have hm:t∈[T.aP,T.gL,T.gL]:=by simpa using Array.mem_of_getElem? ht
    have hall:([T.aP,T.gL,T.gL].all fun u=>!Tryz.prog.wantsStandIn u)=true:=by kernel_rfl
    exact(show Tryz.prog.wantsStandIn t=false by simpa using Lo.1 hall t hm)⟩)
  (by kernel_rfl)
end
end Go.Proofs.YtnfiilgdjpdlkaaGreatDoor
