/- A part of the proof: Ou, Nb, Qh, LftTs, Qm, Ia, Qv, Qw, Qx, Qy, Bb, Bc, Bd. -/
import Derived.Test.YtnfiilgdjpdlkaaGreatDoorZTMea7
set_option linter.unusedSimpArgs false
set_option linter.unusedVariables false
open Go.Value renaming int->Sf,slice->Sn,pointer->Sp
open Go.IntKind renaming i64->Sg,i32->Si
open Option renaming some->Sj,none->Sk
open Bool renaming true->Sq,false->Sr
open Go.Proofs.Tryz renaming prog->Ss
namespace Go.Proofs.YtnfiilgdjpdlkaaGreatDoor
open Go Go.Lft
theorem Fv:kq twoF=true:=by kernel_rfl
theorem Al:SmF twoF:=by
 refine⟨by decide,λi hi=>?_⟩;have hi:i<1:=hi;obtain rfl:i=0:=by omega
 refine⟨by decide,by decide,by decide,by decide,λj hj=>absurd hj (P5 _),λj hj=>?_⟩;have hj:j<2:=hj;rcases j with _ | _ | j
 ·decide
 ·decide
 omega
theorem zq: ∀i∈du twoF,i.op=15\/i.op=16->ll:=by intro i hi ho;have:du twoF=[⟨1,2,0,[],⟨5⟩⟩,⟨2,3,0,[1,2],⟨0⟩⟩]:=rfl;rw[this]at hi;simp at hi;rcases hi with rfl | rfl<;>simp at ho
theorem GY:Down twoF (whS twoF):=JH (lS Fv) Al (by intro i hi;have:du twoF=[⟨1,2,0,[],⟨5⟩⟩,⟨2,3,0,[1,2],⟨0⟩⟩]:=rfl;rw[this]at hi;simp at hi;rcases hi with rfl | rfl<;>simp)
theorem LI:eM twoF 0 1 16=Sj ⟨[1],[2],[⟨18,3,0,1,0,0,⟨5⟩,[]⟩],dH⟩:=by kernel_rfl
theorem Nk:eM twoF 0 1 3=Sj ⟨[1,2],[],[⟨5,3,0,1,2,0,⟨0⟩,[]⟩],dH⟩:=by kernel_rfl
theorem LH:eM twoF 0 1 17=none:=by kernel_rfl
theorem IL:dE twoF 0 1 16 9=Sj ⟨[1],[2],[⟨18,3,0,1,0,0,⟨5⟩,[]⟩],dH⟩:=by kernel_rfl
theorem Ll:dE twoF 0 2 0 9=Sj ⟨[3],[],[],⟨7,3,0,[],⟨0⟩⟩⟩:=by kernel_rfl
theorem JI:jQ [⟨1,0⟩,⟨38,0⟩]=(20,1):=by kernel_rfl
theorem Ls:jl [⟨1,0⟩] twoF=(21,0,2):=by kernel_rfl
theorem ID:jl [⟨16,0⟩] twoF=(0,0,0):=by kernel_rfl
theorem KN:sy 16=⟨#[97,100,100,105]⟩:=by kernel_rfl
theorem two'{h:Heap}:aw Ss 33 #[] h (λu h'=>(vw h).le (vw h')/\Rd (vw h') u twoF):=
 (KS Sb).mono λu h' ⟨h1,h2⟩=>⟨h1,h2.mono (jM h1)⟩
variable{vb:Value}
theorem Dp{a:List Int}{va:Value}{h:Heap}(ha:SlRd (vw h) va a)(hb:SlRd (vw h) vb a):aw Ss 19 #[va,vb] h (λu h'=>u = .bool Sq/\h'=h):=
 (Es ha hb).mono λu h' ⟨h1,h2⟩=>⟨by rw[h1,decide_eq_true rfl],h2⟩
theorem La{a:List aZ}{va:Value}{h:Heap}(ha:SlRd (vw h) va a)(hb:SlRd (vw h) vb a):aw Ss 17 #[va,vb] h (λu h'=>u = .bool Sq/\(vw h).le (vw h')):=
 (BM Sb ha hb).mono λu h' ⟨h1,h2⟩=>⟨by rw[h1,decide_eq_true rfl],h2⟩
theorem tV{v:Value}{pat:Int}{h:Heap}(hv:Rd (vw h) v twoF)(hp:I64 pat){r:Option FitD}(hr:eM twoF 0 1 pat=r):
  aw Ss 15 #[v,Sf Sg 0,Sf Sg 1,Sf Sg pat] h (λu h'=>(vw h).le (vw h')/\∃v1 v2,u = .tuple #[v1,v2,.bool r.isSome]/\SlRd (vw h') v1 (Ey r)/\SlRd (vw h') v2 (EK r)):=by rw[<-hr];exact Bm Sb hv Al zq hp
theorem BG{v:Value}{p pat:Int}{h:Heap}(hv:Rd (vw h) v twoF)(hp:I64 pat){r:Option FitD}(hr:dE twoF 0 p pat 9=r):
  aw Ss 16 #[v,Sf Sg 0,Sf Sg p,Sf Sg pat,Sf Sg 9] h (λu h'=>(vw h).le (vw h')/\∃v1 v2,u = .tuple #[v1,v2,.bool r.isSome]/\SlRd (vw h') v1 (tG r)/\Rd (vw h') v2 (GO r)):=by rw[<-hr];exact Er Sb hv Al zq hp ⟨S1,S1⟩
theorem wV{l:List eB}{vl v:Value}{h:Heap}(hl:SlRd (vw h) vl l)(hv:Rd (vw h) v twoF)(ht:Tab h){r:Int × Int × Int}(hr:jl l twoF=r):
  aw Ss 26 #[vl,v] h (λu h'=>(vw h).le (vw h')/\u = .tuple #[Sf Sg r.1,Sf Sg r.2.1,Sf Sg r.2.2]):=by rw[<-hr];exact E9 Sb hl hv Al ht zq λ_=>GY
theorem Gk{h:Heap}(ht:Tab h):aw Ss 11 #[] h (λu h'=>(vw h).le (vw h')/\u = .bool Sq):=by refine aj (args:=[]) follows Tryz.func11 E.gu S8 λK hK=>?_;dsimp only[L.gu,lkF,lkG];refine ab λz hz=>?_;simp;subst hz;refine ab λz hz=>?_;simp;refine af R9 two' ?_;rintro u26 h1 ⟨le1,r1⟩;refine af R9 (tV r1 ⟨S1,S1⟩ LI) ?_;rintro _ h2 ⟨le2,va,vb,rfl,sa,sb⟩;simp;subst hz;refine ab λz hz=>?_;simp;refine af R9 two' ?_;rintro u32 h3 ⟨le3,r3⟩;refine af R9 (tV r3 ⟨S1,S1⟩ Nk) ?_;rintro _ h4 ⟨le4,vc,vd,rfl,sc,sd⟩;simp;subst hz;refine ab λz hz=>?_;simp;refine af R9 two' ?_;rintro u38 h5 ⟨le5,r5⟩;refine af R9 (tV r5 ⟨S1,S1⟩ LH) ?_;rintro _ h6 ⟨le6,ve,vf,rfl,se,sf⟩;simp;subst hz;refine ab λz hz=>?_;simp;refine af R9 two' ?_;rintro u44 h7 ⟨le7,r7⟩;refine af R9 (BG r7 ⟨S1,S1⟩ IL) ?_;rintro _ h8 ⟨le8,vg,vh,rfl,sg,sh⟩;simp;refine dv (X:=vw h8) (z:=.agg endZ.toArray) R9 rfl R9 sh S3 S3 λh9 le9 _ _=>?_;subst hz;refine ab λz hz=>?_;simp;refine af R9 two' ?_;rintro u50 h10 ⟨le10,r10⟩;refine af R9 (BG r10 ⟨S1,S1⟩ Ll) ?_;rintro _ h11 ⟨le11,vi,vj,rfl,si,sj⟩;simp;refine dv (X:=vw h11) (z:=.agg endZ.toArray) R9 rfl R9 sj S3 S3 λh12 le12 _ at12=>?_;have at12:At (vw h12) ⟨h11.size,0,Sk⟩ (⟨7,3,0,[],⟨0⟩⟩:EndD):=at12 (vw h12) le12 rfl;have e0:=(at12.part EndD.tB).int;have e1:=(at12.part EndD.MQ).int;generalize h11.size=B at e0 e1;simp at e0 e1;subst hz;have la:(vw h).le (vw h12):=Sc le1 (Sc le2 (Sc le3 (Sc le4 (Sc le5 (Sc le6 (Sc le7 (Sc le8 (Sc le9 (Sc le10 (Sc le11 le12))))))))));refine ab λz hz=>?_;simp;refine az (t:=T.mH) (z:=zz1) (places:=zpd) (vs:=[(0,Sf Sg 1)]) (cs:=#[Sf Sg 1,Sf Sg 0]) R9 R9 Sa R9 ?_;refine az (t:=T.mH) (z:=zz1) (places:=zpd) (vs:=[(0,Sf Sg 38)]) (cs:=#[Sf Sg 38,Sf Sg 0]) R9 R9 Sa R9 ?_;refine kL (α:=eB) (ds:=[⟨1,0⟩,⟨38,0⟩]) (vs:=[.agg #[Sf Sg 1,Sf Sg 0],.agg #[Sf Sg 38,Sf Sg 0]]) (X:=nothing) El.ko Sa ⟨sY ⟨S1,S1⟩ ⟨S1,S1⟩,sY ⟨S1,S1⟩ ⟨S1,S1⟩,trivial⟩ rfl S1 S1 λu58 h13 le13 _ s13 _=>?_;have s13:=s13 (vw h13) bK rfl;have t13:Tab h13:=ht.mono (Sc la le13);refine af R9 (zg Sb s13 t13) ?_;rw[JI];rintro _ h14 ⟨le14,rfl⟩;simp;subst hz;refine ab λz hz=>?_;simp;refine az (t:=T.mH) (z:=zz1) (places:=zpd) (vs:=[(0,Sf Sg 1)]) (cs:=#[Sf Sg 1,Sf Sg 0]) R9 R9 Sa R9 ?_;refine kL (α:=eB) (ds:=[⟨1,0⟩]) (vs:=[.agg #[Sf Sg 1,Sf Sg 0]]) (X:=nothing) El.ko Sa ⟨sY ⟨S1,S1⟩ ⟨S1,S1⟩,trivial⟩ rfl S1 S1 λu64 h15 le15 _ s15 _=>?_;have s15:=s15 (vw h15) bK rfl;refine af R9 two' ?_;rintro u65 h16 ⟨le16,r16⟩;refine af R9 (wV (s15.mono le16) r16 (t13.mono (Sc le14 (Sc le15 le16))) Ls) ?_;rintro _ h17 ⟨le17,rfl⟩;simp;subst hz;refine ab λz hz=>?_;simp;refine az (t:=T.mH) (z:=zz1) (places:=zpd) (vs:=[(0,Sf Sg 16)]) (cs:=#[Sf Sg 16,Sf Sg 0]) R9 R9 Sa R9 ?_;refine kL (α:=eB) (ds:=[⟨16,0⟩]) (vs:=[.agg #[Sf Sg 16,Sf Sg 0]]) (X:=nothing) El.ko Sa ⟨sY ⟨S1,S1⟩ ⟨S1,S1⟩,trivial⟩ rfl S1 S1 λu72 h18 le18 _ s18 _=>?_;have s18:=s18 (vw h18) bK rfl;refine af R9 two' ?_;rintro u73 h19 ⟨le19,r19⟩;have l1219:(vw h12).le (vw h19):=Sc le13 (Sc le14 (Sc le15 (Sc le16 (Sc le17 (Sc le18 le19)))));refine af R9 (wV (s18.mono le19) r19 (ht.mono (Sc la l1219)) ID) ?_;rintro _ h20 ⟨le20,rfl⟩;have l1220:=Sc l1219 le20;simp;subst hz;refine ab λz hz=>?_;have l212:(vw h2).le (vw h12):=Sc le3 (Sc le4 (Sc le5 (Sc le6 (Sc le7 (Sc le8 (Sc le9 (Sc le10 (Sc le11 le12))))))));have l412:(vw h4).le (vw h12):=Sc le5 (Sc le6 (Sc le7 (Sc le8 (Sc le9 (Sc le10 (Sc le11 le12))))));have l812:(vw h8).le (vw h12):=Sc le9 (Sc le10 (Sc le11 le12));have sa:=(sa.mono l212).mono l1220;have sb:=(sb.mono l212).mono l1220;have sc:=(sc.mono l412).mono l1220;have sd:=(sd.mono l412).mono l1220;have sg:=(sg.mono l812).mono l1220;have e0:=ae l1220 e0;have e1:=ae l1220 e1;have la:=Sc la l1220;clear le1 le2 le3 le4 le5 le6 le7 le8 le9 le10 le11 le12 le13 le14 le15 le16 le17 le18 le19 le20 l212 l412 l812 l1219 l1220;refine yC λy hy=>?_;simp;refine kL (α:=Int) (ds:=[1]) (vs:=[Sf Sg 1]) (X:=nothing) El.aV R9 ⟨bO.2 ⟨rfl,by decide⟩,trivial⟩ rfl S1 S1 λu79 h21 le21 _ s21 _=>?_;have s21:=s21 (vw h21) bK rfl;subst hy;refine bJ λy hy=>?_;simp;refine af R9 (Dp (sa.mono le21) s21) ?_;rintro _ h21 ⟨rfl,rfl⟩;subst hy;refine bJ λy hy=>?_;simp;refine kL (α:=Int) (ds:=[2]) (vs:=[Sf Sg 2]) (X:=nothing) El.aV R9 ⟨bO.2 ⟨rfl,by decide⟩,trivial⟩ rfl S1 S1 λu83 h22 le22 _ s22 _=>?_;have s22:=s22 (vw h22) bK rfl;subst hy;refine bJ λy hy=>?_;simp;refine af R9 (Dp (sb.mono (Sc le21 le22)) s22) ?_;rintro _ h22 ⟨rfl,rfl⟩;subst hy;refine bJ λy hy=>?_;simp;refine kL (α:=Int) (ds:=[1,2]) (vs:=[Sf Sg 1,Sf Sg 2]) (X:=nothing) El.aV R9 ⟨bO.2 ⟨rfl,by decide⟩,bO.2 ⟨rfl,by decide⟩,trivial⟩ rfl S1 S1 λu91 h23 le23 _ s23 _=>?_;have s23:=s23 (vw h23) bK rfl;subst hy;refine bJ λy hy=>?_;simp;refine af R9 (Dp (sc.mono (Sc le21 (Sc le22 le23))) s23) ?_;rintro _ h23 ⟨rfl,rfl⟩;have l23:=Sc le21 (Sc le22 le23);subst hy;have sd':SlRd (vw h23) vd ([]:List Int):=sd.mono l23;have hd:=sd'.len (K:=vw h23);simp at hd;simp[hd];subst hz;refine ab λz hz=>?_;have sg':SlRd (vw h23) vg [(⟨18,3,0,1,0,0,⟨5⟩,[]⟩:aZ)]:=sg.mono l23;have e0:=ae l23 e0;have e1:=ae l23 e1;have la:=Sc la l23;clear sa sb sc sd sd' sg hd l23 le21 le22 le23 s21 s22 s23;refine yC λy hy=>?_;simp;refine az (t:=T.ed) (z:=zz8) (places:=zpb) (vs:=[(0,Sf Sg 18),(1,Sf Sg 3),(3,Sf Sg 1),(6,Sf Si 5)]) (cs:=#[Sf Sg 18,Sf Sg 3,Sf Sg 0,Sf Sg 1,Sf Sg 0,Sf Sg 0,Sf Si 5,Sn Sk 0 0]) R9 R9 Sa R9 ?_;subst hy;refine bJ λy hy=>?_;simp;refine kL (α:=aZ) (ds:=[⟨18,3,0,1,0,0,⟨5⟩,[]⟩]) (vs:=[.agg #[Sf Sg 18,Sf Sg 3,Sf Sg 0,Sf Sg 1,Sf Sg 0,Sf Sg 0,Sf Si 5,Sn Sk 0 0]]) (X:=nothing) El.jr Sa ⟨iH S1 S1 aQ,trivial⟩ rfl S1 S1 λu113 h24 le24 _ s24 _=>?_;have s24:=s24 (vw h24) bK rfl;subst hy;refine bJ λy hy=>?_;simp;refine af R9 (La (sg'.mono le24) s24) ?_;rintro _ h25 ⟨rfl,le25⟩;have l25:=Sc le24 le25;have e0:=ae l25 e0;have e1:=ae l25 e1;subst hy;refine bJ λy hy=>?_;simp[e0,e1];refine af R9 (rA (ht.mono (Sc la l25))) ?_;rintro _ h26 ⟨le26,rfl⟩;subst hy;refine bJ λy hy=>?_;simp;refine af R9 Lb ?_;rintro ua h27 ⟨le27,sall⟩;have hl:=sall.len (K:=vw h27);have e37:allT.length=37:=rfl;rw[e37]at hl;have l27:=Sc l25 (Sc le26 le27);subst hy;refine bJ λy hy=>?_;simp[hl];refine af R9 (DK (pat:=16) (ht.mono (Sc la l27)) ⟨S1,S1⟩) ?_;rw[KN];rintro _ h28 ⟨le28,rfl⟩;subst hy;simp[show(Bn.eqS Sr).ev (.string ⟨#[97,100,100,105]⟩) (.string ⟨#[97,100,100,105]⟩)=Sj (.bool Sq) from by kernel_rfl];subst hz;simp;exact hK _ _ ⟨Sc la (Sc l27 le28),rfl⟩
section
variable {s:List Int} {M:Nat} {vs:Value} {W:View} {h:Heap} {o:Own} {m:MS}
theorem MkB.boxed{vl:Value}{lb:List BlkM}(bb:MkB M vs m o vb vl lb)(m':MS)(h1:m'.blocks=m.blocks)(h2:m'.live=m.live):MkB M vs m' (o.upd (0,0) (bx T.bj M (RawN.mk (n:=5) (mkL vs m'.at_ m'.ps vb m'.next vl)))) vb vl lb:=
 ⟨rfl,by rw[h2];exact bb.live,bb.blk,by rw[h1];exact bb.len,by rw[h1];exact bb.term,by rw[h1];exact λi hi=>bb.phis i hi,by rw[h1];exact λi hi=>bb.ins i hi⟩
end
def iq (R:Nat) (i10:Own):Own:=λk=>if k=(8,0) then bx T.ee R (RawN.mk (n:=1) [Sf Sg 0,Sn Sk 0 0]) else if 10<=k.1 then i10 k else Sk
structure FnB (o:Own) (vb:Value) (lb:List BlkM) (f:an):Prop where
 blk:o (0,2)=it T.eZ vb lb
 len:lb.length=f.blocks.length
 term : ∀i,i<f.blocks.length->(nth lb i).term=(nth f.blocks i).term
 phis : ∀i,i<f.blocks.length->o (1,i)=it T.oG (nth lb i).phis.v (nth f.blocks i).phis
 ins : ∀i,i<f.blocks.length->o (2,i)=it T.eA (nth lb i).ins.v (nth f.blocks i).ins
theorem Lc{H:View}{lb:List BlkM}{f:an}(h0:SlRd H vb lb)(hl:lb.length=f.blocks.length)(ht : ∀i,i<f.blocks.length->(nth lb i).term=(nth f.blocks i).term)(h1 : ∀i,i<f.blocks.length->SlRd H (nth lb i).phis.v (nth f.blocks i).phis)(h2 : ∀i,i<f.blocks.length->SlRd H (nth lb i).ins.v (nth f.blocks i).ins):SlRd H vb f.blocks:=by refine zS h0 rfl hl λi g1 g2 cs hr=>?_;have:=Cj hr (p:=(nth f.blocks i).phis) (i:=(nth f.blocks i).ins) (by have:=h1 i g2;rwa [ay g1]at this) (by have:=h2 i g2;rwa [ay g1]at this);have ht:=ht i g2;rw[ay g1]at ht;rw[ht]at this;rw[<-ay g2];exact this
theorem FnB.freeze{W:View}{h:Heap}{o o0:Own}{lb:List BlkM}{f:an}(b:FnB o vb lb f)(w:Owns W h o)(ho : ∀k:Key,3<=k.1->o k=o0 k)(ho0 : ∀k:Key,k.1<3->o0 k=Sk): ∃W',W.le W'/\Owns W' h o0/\SlRd W' vb f.blocks:=by
 obtain⟨W17,hW17,w17,fr⟩:=w.yo (λk=>decide (k.1<3));refine⟨W17,hW17,w17.sub λk i hk=>?_,Lc (fr (k:=(0,2)) Sa b.blk) b.len b.term (λi hi=>fr (k:=(1,i)) Sa (b.phis i hi)) λi hi=>fr (k:=(2,i)) Sa (b.ins i hi)⟩;rcases OD k.1 3 with e | e
 ·rw[ho0 k e]at hk;cases hk
 have h2:¬k.1<3:=by omega
 simp only[h2,decide_false,PI,if_false];rw[ho k e];exact hk
theorem Hh{s:List Int}{vs:Value}{h:Heap}{W:View}{o0:Own}(w0:Owns W h o0)(ho0 : ∀k:Key,k.1<10->o0 k=Sk)(hs:SlRd W vs s):
  aw Ss 35 #[vs] h (λu h'=>∃W' o vb lb,W.le W'/\Owns W' h' o/\(∀k:Key,3<=k.1->o k=o0 k)/\FnB o vb lb (jF s)/\u = .agg #[Sf Sg (jF s).params,vb]):=by
 refine aj (args:=[vs]) follows Tryz.func35 E.aq S8 λK hK=>?_;have hs0:=hs;obtain⟨sa,sc,rfl,_⟩:=hs0;dsimp only[L.aq,lkF,lkG];refine ab λz hz=>?_;simp;refine w0.cC (k:=(8,0)) (n:=1) (z:=.agg #[Sf Sg 0,Sn Sk 0 0]) (ho0 _ S1) R9 rfl S1 S6 λh1 q1 w1=>?_;generalize h.size=R at w1;subst hz;refine ab λz hz=>?_;simp;refine az (z:=zz12) (places:=[(0,1),(1,1),(2,2),(4,1),(5,1)]) (vs:=[(0,.slice sa s.length sc)]) (cs:=#[.slice sa s.length sc,Sf Sg 0,Sf Sg 0,Sn Sk 0 0,Sf Sg 0,Sn Sk 0 0]) R9 R9 Sa R9 ?_;generalize s.length=sl at hs;refine dc rfl ?_;have hbx:(h1.push (.cells (Value.agg #[.slice sa sl sc,Sf Sg 0,Sf Sg 0,Sn Sk 0 0,Sf Sg 0,Sn Sk 0 0]).cells T.bj))[h1.size]? = Sj (.cells (Value.agg #[.slice sa sl sc,Sf Sg 0,Sf Sg 0,Sn Sk 0 0,Sf Sg 0,Sn Sk 0 0]).cells T.bj (0,0)):=by simp
 have hle2:=bP h1 (.cells (Value.agg #[.slice sa sl sc,Sf Sg 0,Sf Sg 0,Sn Sk 0 0,Sf Sg 0,Sn Sk 0 0]).cells T.bj);have hbg : ∀b,(Sn (Sj ⟨h1.size,0,Sk⟩) 1 1).ownBlock=Sj b->h1.size<=b:=λb hb=>by simp only[Value.ownBlock,Ow]at hb;omega
 show LC.wp Ss z _ _ (h1.push (.cells (Value.agg #[.slice sa sl sc,Sf Sg 0,Sf Sg 0,Sn Sk 0 0,Sf Sg 0,Sn Sk 0 0]).cells T.bj));generalize h1.push (.cells (Value.agg #[.slice sa sl sc,Sf Sg 0,Sf Sg 0,Sn Sk 0 0,Sf Sg 0,Sn Sk 0 0]).cells T.bj)=h2 at hbx hle2;have w2:=w1.add (k:=(0,0)) ((Own.aA Sa).trans (ho0 _ S1)) (jS (W:=W) (d:=RawN.mk (n:=5) [.slice sa sl sc,Sf Sg 0,Sf Sg 0,Sn Sk 0 0,Sf Sg 0,Sn Sk 0 0]) hbx (sG rfl S5) S1) hle2 hbg;generalize h1.size=M at w2;generalize hvs:Value.slice sa sl sc=vs at hs w2;obtain⟨m0,hm0⟩ : ∃m0:MS,m0=⟨0,0,[],0,[]⟩:=⟨_,rfl⟩;obtain⟨o2,ho2⟩ : ∃o2:Own,o2=λk=>if k=(0,0) then bx T.bj M (RawN.mk (n:=5) (mkL vs 0 0 (Sn Sk 0 0) 0 (Sn Sk 0 0))) else if k=(0,1) then it T.int (Sn Sk 0 0) ([]:List Int) else if k=(0,2) then it T.eZ (Sn Sk 0 0) ([]:List BlkM) else iq R o0 k:=⟨_,rfl⟩;have w2:Owns W h2 o2:=w2.nils λk i hk=>by
  rw[ho2]at hk;dsimp only at hk;split at hk
  ·rename_i e;rw[e];exact .inl hk
  rename_i e0;split at hk
  ·cases hk;exact .inr ⟨rfl,OwnT.nil (α:=Int) _ _ _⟩
  split at hk
  ·cases hk;exact .inr ⟨rfl,OwnT.nil (α:=BlkM) _ _ _⟩
  refine .inl ?_;rw[Own.aA e0];by_cases e8:k=(8,0)
  ·subst e8;exact hk
  rw[Own.aA e8];unfold iq at hk;rw[if_neg e8]at hk;split at hk
  ·exact hk
  cases hk
 have w2:Mk s M vs W h2 o2 m0:=⟨w2,hs,Sn Sk 0 0,Sn Sk 0 0,[],by rw[ho2,hm0];rfl,by rw[ho2,hm0];rfl,by rw[ho2];rfl,by rw[hm0];rfl,λi hi=>by rw[hm0]at hi;simp at hi,λi hi=>by rw[hm0]at hi;simp at hi,λi hi=>by rw[hm0]at hi;simp at hi⟩;have f2 : ∀k:Key,3<=k.1->o2 k=iq R o0 k:=λk hk=>by rw[ho2];dsimp only;rw[if_neg (by rintro rfl;simp at hk),if_neg (by rintro rfl;simp at hk),if_neg (by rintro rfl;simp at hk)]
 clear w1 hbx hbg hle2 q1 ho2;subst hz;refine ab λz hz=>?_;simp;refine af R9 (w2.take (by rw[hm0];decide) (n:=5) S1 S1) ?_;rintro _ h3 ⟨rfl,o3,w3,f3⟩;have tv:=bF (s:=s) (at_:=m0.at_) (n:=5) S1;obtain⟨vb,vl,lb,bb⟩:=w3.box;refine w3.own.dp (k:=(0,0)) (n:=5) (i:=2) (e:=T.bj) (B:=M) (l:=mkL vs m0.took.at_ m0.took.ps vb m0.took.next vl) bb.box S1 R9 rfl rfl rfl λh4 w4 _=>?_;have b4:=bb.boxed ⟨m0.took.at_,aF s m0.at_ 5,m0.took.blocks,m0.took.next,m0.took.live⟩ rfl rfl;subst hz;refine ab λz hz=>?_;have w4:Mk s M vs W h4 _ _:=⟨w4,w3.src,vb,vl,lb,b4⟩;have rd:=w4.reads b4;simp[rd.ps];refine w4.own.dp (k:=(0,0)) (n:=5) (i:=4) (e:=T.bj) (B:=M) (l:=mkL vs m0.took.at_ (aF s m0.at_ 5) vb m0.took.next vl) b4.box S1 R9 rfl rfl rfl λh5 w5 _=>?_;have b5:=b4.boxed ⟨m0.took.at_,aF s m0.at_ 5,m0.took.blocks,aF s m0.at_ 5,m0.took.live⟩ rfl rfl;have w5:Mk s M vs W h5 _ _:=⟨w5,w3.src,vb,vl,lb,b5⟩;obtain⟨o5,ho5⟩ : ∃o5,o5=(o3.upd (0,0) (bx T.bj M (RawN.mk (n:=5) (mkL vs m0.took.at_ (aF s m0.at_ 5) vb m0.took.next vl)))).upd (0,0) (bx T.bj M (RawN.mk (n:=5) (mkL vs m0.took.at_ (aF s m0.at_ 5) vb (aF s m0.at_ 5) vl))):=⟨_,rfl⟩;have f5 : ∀k:Key,3<=k.1->o5 k=iq R o0 k:=λk hk=>by rw[ho5,Own.aA (by rintro rfl;simp at hk),Own.aA (by rintro rfl;simp at hk),f3 k hk,f2 k hk]
 rw[hm0]at w5;have w5:Mk s M vs W h5 o5 ⟨1,aF s 0 5,[],aF s 0 5,[]⟩:=by rw[ho5,hm0];exact w5
 clear b5 b4 rd w4 bb w3 f3 w2 f2 ho5 hvs;subst hz;refine ab λz hz=>?_;simp;refine af R9 (w5.take (show 1<=_ by omega) (n:=9) S1 S1) ?_;rintro _ h6 ⟨rfl,o6,w6,f6⟩;have w6:Mk s M vs W h6 o6 (vQ s):=w6;have f6 : ∀k:Key,3<=k.1->o6 k=iq R o0 k:=λk hk=>(f6 k hk).trans (f5 k hk);clear w5 f5;have hN:=Fy (s:=s);obtain⟨n1,n2⟩:=e9 (s:=s);have hw:IntKind.i64.wrap (1+aF s 1 9)=(aL s:Nat):=by rw[hN];exact bC S0 S0
 simp[hw];subst hz;refine ab λz hz=>?_;simp;refine af R9 (Dt (ri:=iq R o0) w6 (λk hk=>f6 k S0) (λk h1 h2=>(f6 k h1).trans (by unfold iq;rw[if_neg (by rintro rfl;simp at h2),if_neg S0])) (n:=aL s) BT S0 n1 S0) ?_;rintro vt h7 ⟨W7,o7,g7,w7,r7,e7,st⟩;have w7:Mk s M vs W7 h7 o7 (eJ s).2:=w7;have st:SlRd W7 vt (eJ s).1:=st;have f7 : ∀k:Key,3<=k.1->o7 k=iq R o0 k:=λk hk=>by
  by_cases e:8<=k.1
  ·exact r7 k e
  rw[e7 k hk S0];unfold iq;rw[if_neg (by rintro rfl;simp at e),if_neg S0]
 clear r7 e7 w6 f6;have k1:=Ai (s:=s);have s4:=rE (s:=s);subst hz;refine ab λz hz=>?_;simp;refine og (α:=BlkM) (W:=W7) (k:=.i64) (n:=aL s) (d:=⟨⟨Sn Sk 0 0⟩,⟨Sn Sk 0 0⟩,⟨0,[],[],⟨0⟩⟩⟩) El.nh S2 S2 ⟨[Sn Sk 0 0],_,rfl,⟨rfl,rfl⟩,[Sn Sk 0 0],_,rfl,⟨rfl,rfl⟩,[Sf Sg 0],_,rfl,⟨rfl,by decide,by decide⟩,[Sn Sk 0 0],_,rfl,⟨_,rfl,aQ⟩,[Sn Sk 0 0],_,rfl,⟨_,rfl,aQ⟩,rfl,by decide,by decide⟩ S0 S0 λvb8 h8 ob8 m8 hle8 hb8=>?_;obtain⟨vb,vl,lb,bb⟩:=w7.box;have wa:=w7.own.sub (o':=o7.upd (0,2) Sk) λj i hj=>by
  unfold Own.upd at hj;split at hj
  ·cases hj
  exact hj
 have wb:=wa.add (k:=(0,2)) Own.ao ob8 hle8 (λb hb=>by rw[hb8]at hb;cases hb;exact OA _);have hv8:=(wb.cells (k:=(0,2)) Own.ao).2;obtain⟨o8,ho8⟩ : ∃o8:Own,o8=λk=>if k.1=1/\k.2<aL s then it T.oG (Sn Sk 0 0) ([]:List PhiD) else if k.1=2/\k.2<aL s then it T.eA (Sn Sk 0 0) ([]:List InsD) else o7.upd (0,2) (it T.eZ vb8 (List.replicate (aL s) (BlkM.mk ⟨Sn Sk 0 0⟩ ⟨Sn Sk 0 0⟩ ⟨0,[],[],⟨0⟩⟩))) k:=⟨_,rfl⟩;have w8:Owns W7 h8 o8:=wb.nils λk i hk=>by
  rw[ho8]at hk;dsimp only at hk;split at hk
  ·cases hk;exact .inr ⟨rfl,OwnT.nil (α:=PhiD) _ _ _⟩
  split at hk
  ·cases hk;exact .inr ⟨rfl,OwnT.nil (α:=InsD) _ _ _⟩
  refine .inl ?_;by_cases e:k=(0,2)
  ·subst e;rw[Own.ao]at hk ⊢;exact hk
  rw[Own.aA e]at hk;rw[Own.aA e,Own.aA e];exact hk
 have c8 : ∀k:Key,¬(k.1=1/\k.2<aL s)->¬(k.1=2/\k.2<aL s)->o8 k=o7.upd (0,2) (it T.eZ vb8 (List.replicate (aL s) (BlkM.mk ⟨Sn Sk 0 0⟩ ⟨Sn Sk 0 0⟩ ⟨0,[],[],⟨0⟩⟩))) k:=λk h1 h2=>by rw[ho8];dsimp only;rw[if_neg h1,if_neg h2]
 refine w8.dp (k:=(0,0)) (n:=5) (i:=3) (e:=T.bj) (B:=M) (l:=mkL vs (eJ s).2.at_ (eJ s).2.ps vb (eJ s).2.next vl) (by rw[c8 _ Sa Sa,Own.aA Sa];exact bb.box) S1 R9 rfl rfl hv8 λh9 w9 _=>?_;obtain⟨o9,ho9⟩ : ∃o9:Own,o9=o8.upd (0,0) (bx T.bj M (RawN.mk (n:=5) (mkL vs (eJ s).2.at_ (eJ s).2.ps vb8 (eJ s).2.next vl))):=⟨_,rfl⟩;have w9:Owns W7 h9 o9:=by rw[ho9];exact w9
 have b9:MkB M vs { (eJ s).2 with blocks:=List.replicate (aL s) pT } o9 vb8 vl (List.replicate (aL s) (BlkM.mk ⟨Sn Sk 0 0⟩ ⟨Sn Sk 0 0⟩ ⟨0,[],[],⟨0⟩⟩)):=by
  rw[ho9];refine⟨rfl,?_,?_,by simp,λi hi=>?_,λi hi=>?_,λi hi=>?_⟩
  ·rw[Own.aA Sa,c8 _ Sa Sa,Own.aA Sa];exact bb.live
  ·rw[Own.aA Sa,c8 _ Sa Sa,Own.ao]
  ·have hi:i<aL s:=by simpa using hi
   rw[aC hi,aC hi];rfl
  ·have hi:i<aL s:=by simpa using hi
   rw[Own.aA Sa,ho8];dsimp only;rw[if_pos ⟨rfl,hi⟩,aC hi,aC hi];rfl
  have hi:i<aL s:=by simpa using hi
  rw[Own.aA Sa,ho8];dsimp only;rw[if_neg Sa,if_pos ⟨rfl,hi⟩,aC hi,aC hi];rfl
 have x9:Nx s M vs W7 h9 (iq R o0) { (eJ s).2 with blocks:=List.replicate (aL s) pT }:=⟨W7,o9,View.le_refl _,⟨w9,w7.src,vb8,vl,_,b9⟩,λk hk=>by rw[ho9,Own.aA (by rintro rfl;simp at hk),c8 _ S0 S0,Own.aA (by rintro rfl;simp at hk)];exact f7 k hk⟩;clear b9 w9 ho9 c8 w8 ho8 wb wa hv8 bb ob8 m8 hle8 hb8 w7 f7;subst hz;refine ab λz hz=>?_;refine ab λy hy=>?_;simp;subst hy;refine Jv (vr:=ptz R) st k1.len x9 Sa S0 (by simp[bQ,ag,ah]) λh10 x10=>?_;have x10:Nx s M vs W7 h10 (iq R o0) (lF s):=x10;clear x9;simp;subst hz;refine ab λz hz=>?_;simp;obtain⟨Wa,oa,ga,wa,fa⟩:=x10;refine og (α:=Int) (W:=Wa) (k:=.i64) (n:=aL s) (d:=0) El.aV S2 S2 ⟨rfl,by decide,by decide⟩ S0 S0 λvp h11 ob11 m11 hle11 hb11=>?_;have x11:Nx s M vs W7 h11 ((iq R o0).upd (5,0) (it T.int vp (List.replicate (aL s) (0:Int)))) (lF s):=by
  have w11:=wa.own.add (k:=(5,0)) ((fa _ S1).trans rfl) ob11 hle11 (λb hb=>by rw[hb11]at hb;cases hb;exact OA _);obtain⟨vb,vl,lb,bb⟩:=wa.box;refine⟨Wa,_,ga,⟨w11,wa.src,vb,vl,lb,bb.frame λq hq=>Own.aA (by rintro rfl;simp at hq)⟩,λq hq=>?_⟩;unfold Own.upd;split
  ·rfl
  exact fa q hq
 clear wa fa ob11 m11 hb11;subst hz;refine ab λz hz=>?_;refine ab λy hy=>?_;simp;subst hy;obtain⟨z2,g2⟩:=Cq (s:=s);have p0:Ph (aL s) 200 0 (List.replicate (aL s) (0:Int),lF s):=by
  have hz : ∀j,nth (List.replicate (aL s) (0:Int)) j=0:=λj=>by
   rcases OD j (aL s)with hj | hj
   ·rw[aC hj]
   rw[bz (by simpa using hj)];rfl
  exact⟨z2,by simp,λj _=>hz j,λj=>by show 0<=nth (List.replicate _ (0:Int)) j/\nth (List.replicate _ (0:Int)) j<=3;rw[hz];omega⟩
 refine JY (x0:=(List.replicate (aL s) (0:Int),lF s)) (vr:=ptz R) (vt:=vt) (vp:=vp) x11 p0 n1 S0 S0 (by simp[bQ,ag,ah]) λh12 x12=>?_;have x12:Nx s M vs W7 h12 ((iq R o0).upd (5,0) (it T.int vp (fR s).1)) (fR s).2:=x12;obtain⟨ph,pc,g3⟩:=oY (s:=s);clear p0 x11 z2 g2;simp;subst hz;refine ab λz hz=>?_;simp;obtain⟨Wa,oa,ga,wa,fa⟩:=x12;refine og (α:=Bool) (W:=Wa) (k:=.i64) (n:=aL s) (d:=false) El.oB S2 S2 rfl S0 S0 λvd h13 ob13 m13 hle13 hb13=>?_;have x13:Nx s M vs W7 h13 (((iq R o0).upd (5,0) (it T.int vp (fR s).1)).upd (6,0) (it T.bool vd (List.replicate (aL s) Sr))) (fR s).2:=by
  have w13:=wa.own.add (k:=(6,0)) ((fa _ S1).trans rfl) ob13 hle13 (λb hb=>by rw[hb13]at hb;cases hb;exact OA _);obtain⟨vb,vl,lb,bb⟩:=wa.box;refine⟨Wa,_,ga,⟨w13,wa.src,vb,vl,lb,bb.frame λq hq=>Own.aA (by rintro rfl;simp at hq)⟩,λq hq=>?_⟩;unfold Own.upd;split
  ·rfl
  exact fa q hq
 clear wa fa ob13 m13 hb13;subst hz;refine ab λz hz=>?_;refine ab λy hy=>?_;simp;subst hy;refine I4 (a:=16000) (p:=27) (x0:=(List.replicate (aL s) Sr,(fR s).2)) (vr:=ptz R) (vp:=vp) x13 st k1.len rfl rfl rfl Ck n2 S0 S0 S0 (by simp[bQ,ag,ah]) λh14 x14=>?_;have x14:Nx s M vs W7 h14 (((iq R o0).upd (5,0) (it T.int vp (fR s).1)).upd (6,0) (it T.bool vd (nE s).1)) (nE s).2:=x14;obtain⟨q4,pc4⟩:=xn (s:=s);clear x13 pc g3;simp;subst hz;refine ab λz hz=>?_;refine ab λy hy=>?_;simp;subst hy;refine Iq (vr:=ptz R) (vt:=vt) (vp:=vp) (vd:=vd) (lp:=(fR s).1) x14 ((Own.aA Sa).trans Own.ao) rfl rfl q4 pc4 ph.len ph.rng n1 n2 S0 S0 S0 S0 (by simp[bQ,ag,ah]) λh15 x15=>?_;have x15:Nx s M vs W7 h15 (((iq R o0).upd (5,0) (it T.int vp (fR s).1)).upd (6,0) (it T.bool vd (nE s).1)) (gJ s):=x15;have q5:=nR (s:=s);clear x14 q4 pc4 ph;simp;subst hz;refine ab λz hz=>?_;obtain⟨Wa,oa,ga,wa,fa⟩:=x15;obtain⟨vb,vl,lb,bb⟩:=wa.box;have rd:=wa.reads bb;simp[rd.f];have hvb:vb.oneCell'=true:=rd.blk.cells.2;refine wa.own.iE (k:=(8,0)) (α:=RawN 1) (β:=RawN 1) Part.all (B:=R) (D:=RawN.mk (n:=1) [Sf Sg 0,Sn Sk 0 0]) (d:=RawN.mk (n:=1) [Sf Sg (gJ s).ps,vb]) ((fa _ S1).trans rfl) R9 rfl rfl (sG rfl (by intro c hc;simp only[OQ,QT,or_false]at hc;rcases hc with rfl | rfl<;>first | rfl | exact hvb)) λh16 w16 _=>?_;have c16:=w16.xc (k:=(8,0)) (n:=1) (l:=[Sf Sg (gJ s).ps,vb]) Own.ao;have c16:Un.ev (vw h16) (.bV 2) (ptz R)=Sj (.agg #[Sf Sg (gJ s).ps,vb]):=c16;have b16:=bb.frame (o':=oa.upd (8,0) (bx T.ee R (RawN.mk (n:=1) [Sf Sg (gJ s).ps,vb]))) λq hq=>Own.aA (by rintro rfl;simp at hq);have w16:Mk s M vs Wa h16 _ (gJ s):=⟨w16,wa.src,vb,vl,lb,b16⟩;have rd16:=w16.reads b16;subst hz;simp[c16];refine hK _ _ ⟨Wa,λk=>if 3<=k.1 then o0 k else if k=(0,2)\/k.1=1\/k.1=2 then oa k else Sk,vb,lb,Sc g7 ga,w16.own.sub λk i hk=>?_,λk hk=>if_pos hk,⟨?_,b16.len,b16.term,λi hi=>?_,λi hi=>?_⟩,rfl⟩
 ·split at hk
  ·rename_i e3;rcases OD k.1 10 with e | e
   ·rw[ho0 k e]at hk;cases hk
   have h1:oa k=o0 k:=(fa k S0).trans (by rw[Own.aA (by rintro rfl;simp at e),Own.aA (by rintro rfl;simp at e)];unfold iq;rw[if_neg (by rintro rfl;simp at e),if_pos e]);rw[Own.aA (by rintro rfl;simp at e),h1];exact hk
  rename_i e3;split at hk
  ·rw[Own.aA (by rintro rfl;simp at e3)];exact hk
  cases hk
 ·have:=b16.blk;rw[Own.aA Sa]at this;simpa using this
 ·have:=b16.phis i hi;rw[Own.aA Sa]at this;exact(by simp:_=oa (1,i)).trans this
 have:=b16.ins i hi;rw[Own.aA Sa]at this;exact(by simp:_=oa (2,i)).trans this
theorem Jz{s:List Int}{vs:Value}{h:Heap}{W:View}{o0:Own}(w0:Owns W h o0)(ho0 : ∀k:Key,k.1<10->o0 k=Sk)(hs:SlRd W vs s):
  aw Ss 35 #[vs] h (λu h'=>∃W',W.le W'/\Owns W' h' o0/\Rd W' u (jF s)):=by refine(Hh w0 ho0 hs).mono ?_;rintro u h' ⟨W1,o,vb,lb,hW,w,ho,b,rfl⟩;obtain⟨W2,hW2,w2,sb⟩:=b.freeze w ho λk hk=>ho0 k S0;have mp:=vN (s:=s);have mi:I64 (jF s).params:=S4;exact⟨W2,Sc hW hW2,w2,⟨_,rfl,[Sf Sg (jF s).params],[vb],rfl,⟨rfl,mi⟩,vb,rfl,sb⟩⟩
theorem E2{s:List Int}{v:Value}{h:Heap}{W:View}{o0:Own}(w0:Owns W h o0)(ho0 : ∀k:Key,k.1<10->o0 k=Sk)(h21:o0 (21,0)=Sk)(hs:SlRd W v s):
  aw Ss 13 #[v] h (λu h'=>∃W',W.le W'/\Owns W' h' o0/\Rd W' u (jF (s.take 200))):=by
 refine aj (args:=[v]) follows Tryz.func13 E.n8 S8 λK hK=>?_;dsimp only[L.n8,lkF,lkG];have hb:=hs.bound;refine ab λz hz=>?_;simp;refine w0.cC (k:=(21,0)) (n:=1) (z:=.agg #[Sf Sg 0,Sn Sk 0 0]) h21 R9 rfl S1 S6 λh1 hle1 w1=>?_;generalize h.size=R at w1;subst hz;refine ab λz hz=>?_;have ho : ∀k:Key,k.1<10->(o0.upd (21,0) (bx T.ee R (RawN.mk (n:=1) (Value.agg #[Sf Sg 0,Sn Sk 0 0]).cells.toList))) k=none:=λk hk=>(Own.aA (by rintro rfl;simp at hk)).trans (ho0 k hk);have fin : ∀(W2:View) (h2:Heap) (u:Value) (ρ:Env),W.le W2->Owns W2 h2 (o0.upd (21,0) (bx T.ee R (RawN.mk (n:=1) (Value.agg #[Sf Sg 0,Sn Sk 0 0]).cells.toList)))->Rd W2 u (jF (s.take 200))->Lft.look ρ 2=Sj (ptr R)->∀(po:OP) (us:List (Nat × Value)),asg us (.tmp 2)=ptr R->asg us (.tmp 8)=u->
   @Lft.step po Ss (Op.store 27 (Operand.tmp 2) (Operand.tmp 8)) 0 us h2 λ_ h'=>LC.wp Ss z (dF [.un (.bV 2) (.tmp 2)] K) ρ h':=λW2 h2 u ρ hW w2 r hl po us e1 e2=>by
  have q:=gN r;obtain⟨cs,rfl,h3⟩:=r;have hl3:=Rep.len h3;refine w2.rU (k:=(21,0)) (n:=1) (l':=cs.toList) Own.ao R9 e1 (by simpa using e2) (by rw[hl3];rfl) (λc hc=>Rep.flat h3 c hc) λh4 w4 _=>?_;rw[hz];have hall:=w4.xc (k:=(21,0)) (n:=1) (e:=T.ee) (B:=R) (l:=cs.toList) Own.ao;simp at hall;simp[hl,hall];refine hK _ _ ⟨W2,hW,w4.sub λj i hj=>?_,⟨_,rfl,h3⟩⟩;have:j≠(21,0):=by rintro rfl;rw[h21]at hj;cases hj
  rw[Own.aA this,Own.aA this];exact hj
 clear hK;have tk : ∃us,Bn.ev .hi v (Sf Sg (if(200:Int)<s.length then 200 else s.length))=Sj us/\SlRd W us (s.take 200):=by
  by_cases q:(200:Int)<s.length
  ·obtain⟨u,h2,h3⟩:=hs.take (n:=200) S0 (kd:=.i64);exact⟨u,by rw[if_pos q];exact h2,h3⟩
  obtain⟨u,h2,h3⟩:=hs.take (n:=s.length) S0 (kd:=.i64);refine⟨u,by rw[if_neg q];exact h2,?_⟩;rw[OK S0];rw[OK (OA _)]at h3;exact h3
 obtain⟨us,h2,h3⟩:=tk;simp[hs.len,h2];refine af R9 (Jz w1 ho h3) ?_;rintro u8 h8 ⟨W8,hW8,w8,r8⟩;exact fin W8 h8 u8 [(0,v),(2,ptr R),(8,u8)] hW8 w8 r8 rfl _ [(2,ptr R),(8,u8)] rfl rfl
theorem Hk{s:List Int}{v:Value}{h:Heap}(hs:SlRd (vw h) v s):aw Ss 13 #[v] h (λu h'=>(vw h).le (vw h')/\Rd (vw h') u (jF (s.take 200))):=
 (E2 (Owns.start (View.le_refl (vw h))) (λ_ _=>rfl) rfl hs).mono λu h' ⟨W',q1,w',r'⟩=>⟨Sc q1 w'.wle,r'.mono w'.wle⟩
theorem HL{H:View}{B:Nat}{d:Int × Int}(h:At H ⟨B,0,Sk⟩ d):ak H ⟨B,0,Sk⟩=Sj (Sf Sg d.1)/\ak H ⟨B,1,Sk⟩=Sj (Sf Sg d.2)/\I64 d.1/\I64 d.2:=by obtain⟨cs,h1,e,r1,r2⟩:=h;subst e;exact⟨by simpa using gw h1 (i:=0) rfl,by simpa using gw h1 (i:=1) rfl,r1,r2⟩
end Go.Proofs.YtnfiilgdjpdlkaaGreatDoor
namespace Go.Lft
open Go
variable {pp:PP} {P:Program} {Q:Post} {ρ:Env} {h:Heap} {kl:List Nat} {c:Nat} {e:E} {a b x:LC}
theorem nZ {i:Nat} (hx:x.wp P (ff i Q) ρ h):LC.wp P (.block i x) Q ρ h:=hx
theorem G7 {v:Value} (hk:ρ.all (λp=>!kl.contains p.1&&!(p.1 == c))=Sq):bX (setE (bX ρ kl) c v) [c]=ρ:=by have h:=Po.1 hk;simp only[OG,P1,beq_eq_false_iff_ne,ne_eq]at h;have h1:bX ρ kl=ρ:=mg λp hp=>(h p hp).1;rw[h1];exact mJ λp hp=>(h p hp).2
theorem Bz (v:Bool) (hk:ρ.all (λp=>!kl.contains p.1&&!(p.1 == c))=Sq) (he:ev (look ρ) (vw h) e=Sj (.bool v)) (hx:LC.wp P (bif v then a else b) Q ρ h) :
  LC.wp P (.seq (.reg Sr (.fin kl [(c,e)] [])) (.cond (.tmp c) [c] a b)) Q ρ h:=by
 rw[sJ,lN];refine⟨[(c,.bool v)],?_,trivial,?_⟩
 ·simp only[part];simp[evP,he]
 simp only[dd,fj];rw[lY];have hl:ev (look (setE (bX ρ kl) c (.bool v))) (vw h) (.tmp c)=Sj (.bool v):=by simp[ag]
 rw[hl,G7 hk];cases v
 ·simpa using hx
 simpa using hx
theorem dU (hk:ρ.all (λp=>!kl.contains p.1&&!(p.1 == c))=Sq) (he:ev (look ρ) (vw h) e=Sj (.bool Sq)) (hx:LC.wp P a Q ρ h) :
  LC.wp P (.seq (.reg Sr (.fin kl [(c,e)] [])) (.cond (.tmp c) [c] a b)) Q ρ h:=Bz Sq hk he hx
theorem dJ (hk:ρ.all (λp=>!kl.contains p.1&&!(p.1 == c))=Sq) (he:ev (look ρ) (vw h) e=Sj (.bool Sr)) (hx:LC.wp P b Q ρ h) :
  LC.wp P (.seq (.reg Sr (.fin kl [(c,e)] [])) (.cond (.tmp c) [c] a b)) Q ρ h:=Bz Sr hk he hx
end Go.Lft
namespace Go.Lft
open Go
variable {pp:PP} {P:Program} {Q:Post} {ρ:Env} {h:Heap} {kl:List Nat} {c:Nat} {e:E} {a b x:LC}
end Go.Lft
namespace Go.Lft
open Go
variable {pp:PP} {P:Program} {Q:Post} {ρ:Env} {h:Heap} {kl:List Nat} {c:Nat} {e:E} {a b x:LC}
end Go.Lft
namespace Go.Lft
open Go
structure FitR where
 fit:FitD
 ok:Bool
 deriving Inhabited
instance:Rep FitR:=Rep.via λx=>Cat.mk x.fit x.ok
end Go.Lft
namespace Go.Proofs.YtnfiilgdjpdlkaaGreatDoor
open Go Go.Lft
end Go.Proofs.YtnfiilgdjpdlkaaGreatDoor
namespace Go.Lft
open Go
variable {po:OP}
theorem Ly {P:Program} {t ty rt:TypeId} {us:List (Nat × Value)} {h:Heap} {K:Value->Heap->Prop} {x y:Operand} {k k2:IntKind} {a:Int} {n:Nat} (hx:asg us x = .int k a) (hy:asg us y = .int k2 n) (hn:n<k.bits) (hk:K (.int k (k.wrap (a*2 ^ n))) h):step P (.binOp .shl t x y rt) ty us h K:=by refine cI (cf λw hw=>⟨.int k (k.wrap (a*2 ^ n)),w,?_,Same.refl _,by rw[hw];exact hk⟩);simp only[bI,execOp,hx,hy];have e:min n k.bits=n:=PK (Nat.le_of_lt hn);simp[eqGuard,binOp,Op.shift,e];omega
theorem Gp {P:Program} {t ty rt:TypeId} {us:List (Nat × Value)} {h:Heap} {K:Value->Heap->Prop} {x y:Operand} {k k2:IntKind} {a:Int} {n:Nat} (hx:asg us x = .int k a) (hy:asg us y = .int k2 n) (hn:n<k.bits) (hk:K (.int k (a.fdiv (2 ^ n))) h):step P (.binOp .shr t x y rt) ty us h K:=by refine cI (cf λw hw=>⟨.int k (a.fdiv (2 ^ n)),w,?_,Same.refl _,by rw[hw];exact hk⟩);simp only[bI,execOp,hx,hy];have e:min n k.bits=n:=PK (Nat.le_of_lt hn);simp[eqGuard,binOp,Op.shift,e];omega
end Go.Lft
namespace Go.Proofs.YtnfiilgdjpdlkaaGreatDoor
open Go Go.Lft
instance:Inhabited I32:=⟨⟨0⟩⟩
def bitW (op:BinOp) (a b:Int):Int:=(EJ .i32 op a b).getD 0
def jK (a b:Int) (n:Nat):Nat->Int
 | 2=>IntKind.i32.wrap (a+b)
 | 3=>IntKind.i32.wrap (a-b)
 | 4=>IntKind.i32.wrap (a*b)
 | 5=>bitW .and a b
 | 6=>bitW .or a b
 | 7=>bitW .xor a b
 | 8=>IntKind.i32.wrap (a*2 ^ n)
 | 9=>IntKind.i32.wrap ((IntKind.u32.wrap a).fdiv (2 ^ n))
 | 10=>a.fdiv (2 ^ n)
 | 11=>if a=b then 1 else 0
 | 12=>if a<b then 1 else 0
 | 13=>if IntKind.u32.wrap a<IntKind.u32.wrap b then 1 else 0
 | _=>IntKind.i32.wrap (a.tdiv b)
section
variable {h:Heap} {A B:Nat} {a b:Int} {n:Nat}
theorem C2 {x:Bool}:aw Ss 84 #[.bool x] h (λu h'=>h'=h/\u = Sf Si (if x then 1 else 0)):=by refine aj (args:=[.bool x]) follows Tryz.func84 E.sR S8 λK hK=>?_;dsimp only[L.sR,lkF,lkG];cases x<;>simp<;>exact hK _ _ ⟨rfl,rfl⟩
theorem Ec {op:BinOp} (ho:op = .and\/op = .or\/op = .xor):Bn.ev (.bits op) (Sf Si a) (Sf Si b)=Sj (Sf Si (bitW op a b)):=by rcases ho with rfl | rfl | rfl<;>simp[Bn.ev,i2,vI,EJ,bitW]
theorem Li (ha:ak (vw h) ⟨A,0,Sk⟩=Sj (Sf Si a)) (hb:ak (vw h) ⟨B,0,Sk⟩=Sj (Sf Si b)):aw Ss 74 #[ptz A,ptz B] h (λu h'=>h'=h/\u = Sf Si (jK a b n 2)):=by refine aj (args:=[ptz A,ptz B]) follows Tryz.func74 E.qp S8 λK hK=>?_;dsimp only[L.qp,lkF,lkG];simp[ha,hb];exact hK _ _ ⟨rfl,rfl⟩
theorem LA (ha:ak (vw h) ⟨A,0,Sk⟩=Sj (Sf Si a)) (hb:ak (vw h) ⟨B,0,Sk⟩=Sj (Sf Si b)):aw Ss 75 #[ptz A,ptz B] h (λu h'=>h'=h/\u = Sf Si (jK a b n 3)):=by refine aj (args:=[ptz A,ptz B]) follows Tryz.func75 E.qH S8 λK hK=>?_;dsimp only[L.qH,lkF,lkG];simp[ha,hb];exact hK _ _ ⟨rfl,rfl⟩
theorem Lz (ha:ak (vw h) ⟨A,0,Sk⟩=Sj (Sf Si a)) (hb:ak (vw h) ⟨B,0,Sk⟩=Sj (Sf Si b)):aw Ss 76 #[ptz A,ptz B] h (λu h'=>h'=h/\u = Sf Si (jK a b n 4)):=by refine aj (args:=[ptz A,ptz B]) follows Tryz.func76 E.qd S8 λK hK=>?_;dsimp only[L.qd,lkF,lkG];simp[ha,hb];exact hK _ _ ⟨rfl,rfl⟩
theorem KY (ha:ak (vw h) ⟨A,0,Sk⟩=Sj (Sf Si a)) (hb:ak (vw h) ⟨B,0,Sk⟩=Sj (Sf Si b)):aw Ss 77 #[ptz A,ptz B] h (λu h'=>h'=h/\u = Sf Si (jK a b n 5)):=by refine aj (args:=[ptz A,ptz B]) follows Tryz.func77 E.qe S8 λK hK=>?_;dsimp only[L.qe,lkF,lkG];simp[ha,hb,Ec (a:=a) (b:=b) (op:=.and) Sa];exact hK _ _ ⟨rfl,rfl⟩
theorem Ln (ha:ak (vw h) ⟨A,0,Sk⟩=Sj (Sf Si a)) (hb:ak (vw h) ⟨B,0,Sk⟩=Sj (Sf Si b)):aw Ss 78 #[ptz A,ptz B] h (λu h'=>h'=h/\u = Sf Si (jK a b n 6)):=by refine aj (args:=[ptz A,ptz B]) follows Tryz.func78 E.qT S8 λK hK=>?_;dsimp only[L.qT,lkF,lkG];simp[ha,hb,Ec (a:=a) (b:=b) (op:=.or) Sa];exact hK _ _ ⟨rfl,rfl⟩
theorem Ld (ha:ak (vw h) ⟨A,0,Sk⟩=Sj (Sf Si a)) (hb:ak (vw h) ⟨B,0,Sk⟩=Sj (Sf Si b)):aw Ss 79 #[ptz A,ptz B] h (λu h'=>h'=h/\u = Sf Si (jK a b n 7)):=by refine aj (args:=[ptz A,ptz B]) follows Tryz.func79 E.qy S8 λK hK=>?_;dsimp only[L.qy,lkF,lkG];simp[ha,hb,Ec (a:=a) (b:=b) (op:=.xor) Sa];exact hK _ _ ⟨rfl,rfl⟩
theorem L7 (ha:ak (vw h) ⟨A,0,Sk⟩=Sj (Sf Si a)) (hb:ak (vw h) ⟨B,0,Sk⟩=Sj (.int .u32 n)) (hn:n<32):aw Ss 80 #[ptz A,ptz B] h (λu h'=>h'=h/\u = Sf Si (jK a b n 8)):=by refine aj (args:=[ptz A,ptz B]) follows Tryz.func80 E.pV S8 λK hK=>?_;dsimp only[L.pV,lkF,lkG];simp[ha,hb];refine Ly (k:=.i32) (k2:=.u32) (a:=a) (n:=n) rfl rfl hn ?_;exact hK _ _ ⟨rfl,rfl⟩
theorem LV (ha:ak (vw h) ⟨A,0,Sk⟩=Sj (Sf Si a)) (hb:ak (vw h) ⟨B,0,Sk⟩=Sj (.int .u32 n)) (hn:n<32):aw Ss 81 #[ptz A,ptz B] h (λu h'=>h'=h/\u = Sf Si (jK a b n 9)):=by refine aj (args:=[ptz A,ptz B]) follows Tryz.func81 E.qz S8 λK hK=>?_;dsimp only[L.qz,lkF,lkG];simp[ha,hb];refine Gp (k:=.u32) (k2:=.u32) (a:=IntKind.u32.wrap a) (n:=n) rfl rfl hn ?_;simp;exact hK _ _ ⟨rfl,rfl⟩
theorem Lx (ha:ak (vw h) ⟨A,0,Sk⟩=Sj (Sf Si a)) (hb:ak (vw h) ⟨B,0,Sk⟩=Sj (.int .u32 n)) (hn:n<32):aw Ss 82 #[ptz A,ptz B] h (λu h'=>h'=h/\u = Sf Si (jK a b n 10)):=by refine aj (args:=[ptz A,ptz B]) follows Tryz.func82 E.qg S8 λK hK=>?_;dsimp only[L.qg,lkF,lkG];simp[ha,hb];refine Gp (k:=.i32) (k2:=.u32) (a:=a) (n:=n) rfl rfl hn ?_;exact hK _ _ ⟨rfl,rfl⟩
theorem I3 (ha:ak (vw h) ⟨A,0,Sk⟩=Sj (Sf Si a)) (hb:ak (vw h) ⟨B,0,Sk⟩=Sj (Sf Si b)):aw Ss 83 #[ptz A,ptz B] h (λu h'=>h'=h/\u = Sf Si (jK a b n 11)):=by refine aj (args:=[ptz A,ptz B]) follows Tryz.func83 E.oq S8 λK hK=>?_;dsimp only[L.oq,lkF,lkG];simp[ha,hb];refine af R9 C2 ?_;rintro _ _ ⟨rfl,rfl⟩;refine hK _ _ ⟨rfl,?_⟩;simp[jK]
theorem IP (ha:ak (vw h) ⟨A,0,Sk⟩=Sj (Sf Si a)) (hb:ak (vw h) ⟨B,0,Sk⟩=Sj (Sf Si b)):aw Ss 85 #[ptz A,ptz B] h (λu h'=>h'=h/\u = Sf Si (jK a b n 12)):=by refine aj (args:=[ptz A,ptz B]) follows Tryz.func85 E.oy S8 λK hK=>?_;dsimp only[L.oy,lkF,lkG];simp[ha,hb];refine af R9 C2 ?_;rintro _ _ ⟨rfl,rfl⟩;refine hK _ _ ⟨rfl,?_⟩;simp[jK]
theorem Jg (ha:ak (vw h) ⟨A,0,Sk⟩=Sj (Sf Si a)) (hb:ak (vw h) ⟨B,0,Sk⟩=Sj (Sf Si b)):aw Ss 86 #[ptz A,ptz B] h (λu h'=>h'=h/\u = Sf Si (jK a b n 13)):=by refine aj (args:=[ptz A,ptz B]) follows Tryz.func86 E.oh S8 λK hK=>?_;dsimp only[L.oh,lkF,lkG];simp[ha,hb];refine af R9 C2 ?_;rintro _ _ ⟨rfl,rfl⟩;refine hK _ _ ⟨rfl,?_⟩;simp[jK]
theorem Jp (ha:ak (vw h) ⟨A,0,Sk⟩=Sj (Sf Si a)) (hb:ak (vw h) ⟨B,0,Sk⟩=Sj (Sf Si b)) (h0:b≠0):aw Ss 87 #[ptz A,ptz B] h (λu h'=>h'=h/\u = Sf Si (jK a b n 14)):=by
 refine aj (args:=[ptz A,ptz B]) follows Tryz.func87 E.oM S8 λK hK=>?_;dsimp only[L.oM,lkF,lkG];have e:Bn.ev (.div .quo) (Sf Si a) (Sf Si b)=Sj (Sf Si (IntKind.i32.wrap (a.tdiv b))):=by simp[Bn.ev,i2,vI,divI,h0]
 simp[ha,hb,e];exact hK _ _ ⟨rfl,rfl⟩
end
def opF (A B D:Nat):Nat->Value
 | 2=>.func (.func 74) #[] #[Sp (Sj ⟨A,0,Sk⟩),Sp (Sj ⟨B,0,Sk⟩)]
 | 3=>.func (.func 75) #[] #[Sp (Sj ⟨A,0,Sk⟩),Sp (Sj ⟨B,0,Sk⟩)]
 | 4=>.func (.func 76) #[] #[Sp (Sj ⟨A,0,Sk⟩),Sp (Sj ⟨B,0,Sk⟩)]
 | 5=>.func (.func 77) #[] #[Sp (Sj ⟨A,0,Sk⟩),Sp (Sj ⟨B,0,Sk⟩)]
 | 6=>.func (.func 78) #[] #[Sp (Sj ⟨A,0,Sk⟩),Sp (Sj ⟨B,0,Sk⟩)]
 | 7=>.func (.func 79) #[] #[Sp (Sj ⟨A,0,Sk⟩),Sp (Sj ⟨B,0,Sk⟩)]
 | 8=>.func (.func 80) #[] #[Sp (Sj ⟨A,0,Sk⟩),Sp (Sj ⟨D,0,Sk⟩)]
 | 9=>.func (.func 81) #[] #[Sp (Sj ⟨A,0,Sk⟩),Sp (Sj ⟨D,0,Sk⟩)]
 | 10=>.func (.func 82) #[] #[Sp (Sj ⟨A,0,Sk⟩),Sp (Sj ⟨D,0,Sk⟩)]
 | 11=>.func (.func 83) #[] #[Sp (Sj ⟨A,0,Sk⟩),Sp (Sj ⟨B,0,Sk⟩)]
 | 12=>.func (.func 85) #[] #[Sp (Sj ⟨A,0,Sk⟩),Sp (Sj ⟨B,0,Sk⟩)]
 | 13=>.func (.func 86) #[] #[Sp (Sj ⟨A,0,Sk⟩),Sp (Sj ⟨B,0,Sk⟩)]
 | _=>.func (.func 87) #[] #[Sp (Sj ⟨A,0,Sk⟩),Sp (Sj ⟨B,0,Sk⟩)]
def opM (A B D k:Nat):Value->Option Value
 | Sf Sg j=>if 2<=j/\j<k then Sj (opF A B D j.toNat) else Sk
 | _=>Sk
section
variable {po:OP} {A B D k r:Nat} {h:Heap} {us:List (Nat × Value)} {ty:TypeId} {K:Value->Heap->Prop} {x y:Operand}
theorem Hb:opM A B D 2=λ_=>none:=by
 funext v;unfold opM;split
 ·rw[if_neg S0]
 rfl
theorem kz {j:Int} (hj:j=k) (hk:2<=k) (m:de (.int .i64) h r (opM A B D k)) (hx:asg us x = .map (Sj r)) (hy:asg us y=opF A B D k)
  (hK : ∀h':Heap,h'.size=h.size->(∀b,b≠r->h'[b]? = h[b]?)->de (.int .i64) h' r (opM A B D (k+1))->K undef h'):Lft.step Ss (.insert T.pC x (.const (Sf Sg j)) y) ty us h K:=by
 subst hj;refine jE (.inr rfl) (t:=T.pC) (k:=T.int) (e:=T.Cr) (u:=Sf Sg k) R9 R9 hx rfl hy ez m (opM A B D (k+1)) ?_ ?_ hK
 ·show(if 2<=(k:Int)/\(k:Int)<((k+1:Nat):Int) then Sj (opF A B D (k:Int).toNat) else Sk)=_;rw[if_pos S0];rfl
 intro v hv;unfold opM;split
 ·rename_i q;have hq:q≠k:=λe=>hv (by rw[e]);by_cases c:2<=q/\q<(k:Int)
  ·rw[if_pos S0,if_pos c]
  rw[if_neg S0,if_neg c]
 rfl
end
def doOk (op b:Int):Bool:=decide (2<=op)&&decide (op<=14)&&!(decide (op=14)&&decide (b=0))
def wdoS (op a b:Int):Int:=if doOk op b then jK a b ((IntKind.u32.wrap b).tmod 32).toNat op.toNat else 0
theorem uj {op a b:Int} {h:Heap}:aw Ss 48 #[Sf Sg op,Sf Si a,Sf Si b] h (λu h'=>u = .tuple #[Sf Si (wdoS op a b),.bool (doOk op b)]/\(vw h).le (vw h')):=by
 refine aj (args:=[Sf Sg op,Sf Si a,Sf Si b]) follows Tryz.func48 E.vW S8 λKc hK=>?_;dsimp only[L.vW,lkF,lkG];refine ab λz hz=>?_;simp;refine dc (v:=Sf Si a) rfl ?_;have q1:=bP h (.cells (Sf Si a).cells T.int32);have c1:ak (vw (h.push (.cells (Sf Si a).cells T.int32))) ⟨h.size,0,Sk⟩=Sj (Sf Si a):=by simp[ak,vw,Value.cells]
 generalize h.push (.cells (Sf Si a).cells T.int32)=h1 at q1 c1;generalize h.size=A at c1;refine dc (v:=Sf Si b) rfl ?_;have q2:=bP h1 (.cells (Sf Si b).cells T.int32);have c2:ak (vw (h1.push (.cells (Sf Si b).cells T.int32))) ⟨h1.size,0,Sk⟩=Sj (Sf Si b):=by simp[ak,vw,Value.cells]
 have c1:=ae q2 c1;generalize h1.push (.cells (Sf Si b).cells T.int32)=h2 at q2 c1 c2;generalize h1.size=B at c2;have hn0:0<=(IntKind.u32.wrap b).tmod 32:=R3 _ (by unfold IntKind.wrap;simp[IntKind.signed];omega);have hn1:(IntKind.u32.wrap b).tmod 32<32:=Q4 _ S1;obtain⟨n,hn⟩ : ∃n:Nat,n=((IntKind.u32.wrap b).tmod 32).toNat:=⟨_,rfl⟩;have en:(IntKind.u32.wrap b).tmod 32=(n:Int):=by omega
 have e3:Bn.ev (.div .rem) (.int .u32 (IntKind.u32.wrap b)) (.int .u32 32)=Sj (.int .u32 n):=by rw[<-en];simp[Bn.ev,i2,vI,divI]
 subst hz;refine ab λz hz=>?_;simp[c2,e3];refine gA (n:=1) (z:=.int .u32 0) (v:=.int .u32 n) R9 rfl R9 rfl (by intro c hc;simp[Value.cells]at hc;subst hc;rfl) S3 S3 λh3 q3 hs3 hb3=>?_;have c3:ak (vw h3) ⟨h2.size,0,Sk⟩=Sj (.int .u32 n):=by simp[ak,vw,hb3,Value.cells]
 have c1:=ae q3 c1;have c2:=ae q3 c2;generalize h2.size=D at c3;subst hz;refine ab λz hz=>?_;simp;refine kG ?_;have m2:de (.int .i64) (h3.push (.map #[] 0)) h3.size (opM A B D 2):=by rw[Hb];exact de.none Sa
 have q4:=bP h3 (.map #[] 0);have c1':=c1;have c2':=c2;have c3':=c3;generalize h3.push (.map #[] 0)=g2 at q4 m2;obtain⟨r,hr⟩ : ∃r,r=h3.size:=⟨_,rfl⟩;rw[<-hr]at m2 ⊢;refine kz (A:=A) (B:=B) (D:=D) (k:=2) (r:=r) S2 S1 m2 S2 S2 λg3 s3 o3 m3=>?_;refine kz (A:=A) (B:=B) (D:=D) (k:=3) (r:=r) S2 S1 m3 S2 S2 λg4 s4 o4 m4=>?_;refine kz (A:=A) (B:=B) (D:=D) (k:=4) (r:=r) S2 S1 m4 S2 S2 λg5 s5 o5 m5=>?_;refine kz (A:=A) (B:=B) (D:=D) (k:=5) (r:=r) S2 S1 m5 S2 S2 λg6 s6 o6 m6=>?_;refine kz (A:=A) (B:=B) (D:=D) (k:=6) (r:=r) S2 S1 m6 S2 S2 λg7 s7 o7 m7=>?_;refine kz (A:=A) (B:=B) (D:=D) (k:=7) (r:=r) S2 S1 m7 S2 S2 λg8 s8 o8 m8=>?_;refine kz (A:=A) (B:=B) (D:=D) (k:=8) (r:=r) S2 S1 m8 S2 S2 λg9 s9 o9 m9=>?_;refine kz (A:=A) (B:=B) (D:=D) (k:=9) (r:=r) S2 S1 m9 S2 S2 λg10 s10 o10 m10=>?_;refine kz (A:=A) (B:=B) (D:=D) (k:=10) (r:=r) S2 S1 m10 S2 S2 λg11 s11 o11 m11=>?_;refine kz (A:=A) (B:=B) (D:=D) (k:=11) (r:=r) S2 S1 m11 S2 S2 λg12 s12 o12 m12=>?_;refine kz (A:=A) (B:=B) (D:=D) (k:=12) (r:=r) S2 S1 m12 S2 S2 λg13 s13 o13 m13=>?_;refine kz (A:=A) (B:=B) (D:=D) (k:=13) (r:=r) S2 S1 m13 S2 S2 λg14 s14 o14 m14=>?_;refine kz (A:=A) (B:=B) (D:=D) (k:=14) (r:=r) S2 S1 m14 S2 S2 λg15 s15 o15 m15=>?_;have old : ∀b,b≠r->g15[b]? = g2[b]?:=λb hb=>by rw[o15 b hb,o14 b hb,o13 b hb,o12 b hb,o11 b hb,o10 b hb,o9 b hb,o8 b hb,o7 b hb,o6 b hb,o5 b hb,o4 b hb,o3 b hb]
 have hsz:g15.size=g2.size:=by rw[s15,s14,s13,s12,s11,s10,s9,s8,s7,s6,s5,s4,s3]
 have old3:(vw h3).le (vw g15):=λb o hb=>by have hlt:b<h3.size:=(OJ.1 (show h3[b]? = Sj o from hb)).1;have:g15[b]? = g2[b]?:=old b S0;show g15[b]? = Sj o;rw[this];exact q4 b o hb
 have c1:=ae old3 c1';have c2:=ae old3 c2';have c3:=ae old3 c3';clear o3 o4 o5 o6 o7 o8 o9 o10 o11 o12 o13 o14 o15 s3 s4 s5 s6 s7 s8 s9 s10 s11 s12 s13 s14 s15 m2 m3 m4 m5 m6 m7 m8 m9 m10 m11 m12 m13 m14;refine yP (f:=opM A B D 15) (z:=.nilFunc) (k:=T.int) (e:=T.Cr) (d:=.int .i64) (r:=r) (u:=Sf Sg op) R9 R9 R9 rfl rfl ez m15 ?_;obtain⟨fv,hfv⟩ : ∃fv,fv=(opM A B D 15 (Sf Sg op)).getD .nilFunc:=⟨_,rfl⟩;rw[<-hfv];subst hz;refine ab λz hz=>?_;simp;by_cases hop:2<=op/\op<=14
 ·obtain⟨i,hi⟩ : ∃i:Nat,i=op.toNat:=⟨_,rfl⟩;obtain rfl:op=(i:Int):=by omega
  have hfv:fv=opF A B D i:=by rw[hfv];show((if 2<=(i:Int)/\(i:Int)<((15:Nat):Int) then Sj (opF A B D (i:Int).toNat) else Sk):Option Value).getD _=_;rw[if_pos S0];rfl
  have hnn:uI fv=false:=by rw[hfv];unfold opF;split<;>rfl
  refine Ad (v:=fv) (ps:=#[]) (rs:=#[T.int32]) (vr:=false) R9 (by rw[hfv];unfold opF;split<;>rfl) rfl rfl ?_;rw[hnn];simp[c2];have qq:=Sc q1 (Sc q2 (Sc q3 old3));by_cases c:(i:Int)=14/\b=0
  ·have hd:doOk (i:Int) b=false:=by unfold doOk;rw[c.1,c.2];rfl
   simp[c.1,c.2];refine hK _ _ ⟨by unfold wdoS;rw[hd];rfl,qq⟩
  have hd:doOk (i:Int) b=true:=by unfold doOk;simp;omega
  have hc:(decide ((i:Int)=14)&&decide (b=0))=false:=by simpa using c
  rw[hc];have hv:wdoS (i:Int) a b=jK a b n i:=by unfold wdoS;rw[hd,if_pos rfl,hn];rfl
  simp;subst hz;have fin : ∀(v:Value) (h':Heap),(h'=g15/\v = Sf Si (jK a b n i))->Kc (.tuple #[v,.bool Sq]) h':=by rintro _ _ ⟨rfl,rfl⟩;exact hK _ _ ⟨by rw[hv,hd],qq⟩
  simp;have hi2:i=2\/i=3\/i=4\/i=5\/i=6\/i=7\/i=8\/i=9\/i=10\/i=11\/i=12\/i=13\/i=14:=by omega
  have hn32:n<32:=by omega
  rcases hi2 with rfl | rfl | rfl | rfl | rfl | rfl | rfl | rfl | rfl | rfl | rfl | rfl | rfl
  ·exact aU (f:=74) (ops:=[]) (by rw[hfv];rfl) R9 (Li c1 c2) fin
  ·exact aU (f:=75) (ops:=[]) (by rw[hfv];rfl) R9 (LA c1 c2) fin
  ·exact aU (f:=76) (ops:=[]) (by rw[hfv];rfl) R9 (Lz c1 c2) fin
  ·exact aU (f:=77) (ops:=[]) (by rw[hfv];rfl) R9 (KY c1 c2) fin
  ·exact aU (f:=78) (ops:=[]) (by rw[hfv];rfl) R9 (Ln c1 c2) fin
  ·exact aU (f:=79) (ops:=[]) (by rw[hfv];rfl) R9 (Ld c1 c2) fin
  ·exact aU (f:=80) (ops:=[]) (by rw[hfv];rfl) R9 (L7 c1 c3 hn32) fin
  ·exact aU (f:=81) (ops:=[]) (by rw[hfv];rfl) R9 (LV c1 c3 hn32) fin
  ·exact aU (f:=82) (ops:=[]) (by rw[hfv];rfl) R9 (Lx c1 c3 hn32) fin
  ·exact aU (f:=83) (ops:=[]) (by rw[hfv];rfl) R9 (I3 c1 c2) fin
  ·exact aU (f:=85) (ops:=[]) (by rw[hfv];rfl) R9 (IP c1 c2) fin
  ·exact aU (f:=86) (ops:=[]) (by rw[hfv];rfl) R9 (Jg c1 c2) fin
  exact aU (f:=87) (ops:=[]) (by rw[hfv];rfl) R9 (Jp c1 c2 (λe=>c ⟨rfl,e⟩)) fin
 have hfv:fv = .nilFunc:=by rw[hfv];show((if 2<=op/\op<((15:Nat):Int) then Sj (opF A B D op.toNat) else Sk):Option Value).getD _=_;rw[if_neg S0];rfl
 subst hfv;refine Ad (v:=.nilFunc) (ps:=#[]) (rs:=#[T.int32]) (vr:=false) R9 rfl rfl rfl ?_;have hd:doOk op b=false:=by unfold doOk;simp;omega
 simp[uI];refine hK _ _ ⟨by unfold wdoS;rw[hd];rfl,Sc q1 (Sc q2 (Sc q3 old3))⟩
end Go.Proofs.YtnfiilgdjpdlkaaGreatDoor
namespace Go.Lft
open Go
section
variable {po po2:OP} {α:Type} [Rep α] {W:View} {h:Heap} {k k2:Key} {e:TypeId} {v:Value} {l:List α} {P:Program} {ty:TypeId} {us:List (Nat × Value)}
theorem Owns.Gh {t ty2:TypeId} {bytes:Nat} {z u:Value} {x y y2:Operand} {d:α} {o:Own} {us2:Value->List (Nat × Value)} {K:Value->Value->Heap->Prop} (w:Owns W h o) (hk2:o k2=Sk) (hT:ef P t e (Rep.n α) bytes z) (hn:Rep.n α<=1000) (hx:asg us x=u) (hr:Rd W u d) (s:SlRd W v l) (hb:(1+l.length)*bytes<=140737488355328) (hb2:1+l.length<=140737488355328) (hy : ∀u,asg (us2 u) y=u) (hy2 : ∀u,asg (us2 u) y2=v)
  (hK : ∀u v' h' W',W.le W'->Owns W' h' o->SlRd W' v' (d::l)->K u v' h') :
  @step po P (.buildSlice t 1 #[(0,x)]) ty us h λu h2=>@step po2 P (.call ⟨.builtin .append,#[y,y2],#[t,t]⟩) ty2 (us2 u) h2 λv' h3=>K u v' h3:=by
 refine En hT hx hr hn λh1 hle1 own1=>?_;have w1:=w.add (k:=k2) hk2 own1 hle1 (λb hb=>by simp only[Value.ownBlock,Ow]at hb;omega);refine w1.dB (k:=k2) (v:=Sn (Sj ⟨h.size,0,Sk⟩) 1 1) (l:=[d]) (l2:=l) Own.ao hT (hy _) (hy2 _) (s.src w1.wle) (by simpa using hb) (by simpa using hb2) λv' h2 w2 m2=>?_;have hle:=jk (h:=h2) (w2.av k2 _ Own.ao);obtain⟨w3,s3⟩:=w2.freeze (k:=k2) Own.ao;refine hK _ v' h2 _ hle (w3.sub λj i hj=>?_) s3;by_cases c:j=k2
 ·subst c;rw[hk2]at hj;cases hj
 rw[Own.aA c,Own.aA c,Own.aA c];exact hj
end
end Go.Lft
namespace Go.Proofs.YtnfiilgdjpdlkaaGreatDoor
open Go Go.Lft
theorem MG{l:List Int}{n:Int}{v:Value}{h:Heap}(hs:SlRd (vw h) v l):aw Ss 29 #[v,Sf Sg n] h (λu h'=>h'=h/\u = .bool (l.contains n)):=by
 refine aj (args:=[v,Sf Sg n]) follows Tryz.func29 E.gL S8 λK hK=>?_;dsimp only[L.gL,lkF,lkG];refine ab λz hz=>?_;simp;subst hz;refine ab λz hz=>?_;simp;refine cW [0,1,5] (fun(_:Unit) k=>[v,Sf Sg n,Sf Sg k]) (λ_ k h2=>h2=h/\(l.take k).contains n=Sr) l.length ()
  rfl (by obtain⟨_,_,_,_,hb,_⟩:=hs;omega) rfl ⟨rfl,rfl⟩ (λ_ _=>rfl) (λ_ k h2 hk e=>by rw[e.1];simp[hs.len]) ?_ ?_
 ·rintro _ k h2 hk ⟨rfl,hc⟩ K2 hK2;have q:=hs.idx1 (k:=.i64) (i:=(k:Int)) rfl S0 S0;have p:=hs.int Sb (i:=k) hk;simp at p q;have et:(l.take (k+1)).contains n=((l.take k).contains n||decide (n=nth l k)):=by rw[OS hk,List.contains_append,<-ay hk];simp[List.contains_cons]
  by_cases c:nth l k=n
  ·refine nZ ?_;refine dU S2 (by simp[q,p,c]) ?_;simp;refine hK _ _ ⟨rfl,?_⟩;have:l.contains n=true:=by rw[List.contains_iff_mem,<-c];exact aS hk
   rw[this]
  refine nZ ?_;refine dJ S2 (by simp[q,p,c]) ?_;simp;exact hK2 () _ _ rfl rfl ⟨rfl,by rw[et,hc];simp;exact λe=>c e.symm⟩
 rintro _ h2 ⟨rfl,hc⟩;rw[OK (OA _)]at hc;simp;subst hz;simp;exact hK _ _ ⟨rfl,by rw[hc]⟩
theorem By{v:Int}{w:Int × Int}{ns:List Int}: ∀{l:WL},(ns.foldl (bT v w) l).length=l.length+ns.count v:=by
 induction ns with
 | nil=>intro l;simp
 | cons n ns ih=>
  intro l;rw[O3,ih,PL];unfold bT;by_cases c:n=v
  ·rw[if_pos c,if_pos (by simp[c])];simp;omega
  rw[if_neg c,if_neg (by simp[c])];omega
theorem FQ{v:Int}{l:List Th}: ∀{y:WL},(l.foldl (qO v) y).length=y.length+(l.map λt=>t.tks.count v).sum:=by
 induction l with
 | nil=>intro y;simp
 | cons t l ih=>intro y;rw[O3,ih];unfold qO;rw[By,PJ,List.sum_cons];omega
theorem AB{f:an}{v:Int}(h:cS f v=Sq):(jq v (aB f)).length=1:=by unfold cS jD at h;simp only[OG]at h;have hb:=h.1;unfold lP at hb;simp at hb;exact hb.1.1.1.2
theorem L4{l:List Nat}{n:Nat}(h:n∈l):n<=l.sum:=by
 induction l with
 | nil=>cases h
 | cons a l ih=>
  rw[List.sum_cons];rcases OQ.1 h with rfl | h
  ·omega
  have:=ih h;omega
theorem mF{f:an}{v:Int}(h:cS f v=Sq){t:Th}(ht:t∈aB f):t.tks.count v<=1:=by have e:=AB h;unfold jq at e;rw[FQ]at e;have:=L4 (PG.2 ⟨t,ht,rfl⟩:t.tks.count v∈(aB f).map λt=>t.tks.count v);simp at e;omega
theorem rJ{f:an}{v:Int}(h:cS f v=Sq){t t':Th}(ht:t∈aB f)(ht':t'∈aB f)(hk:v∈t.tks)(hk':v∈t'.tks):t.blk=t'.blk/\t.place=t'.place:=by
 have e:=AB h;have m1:(t.blk,t.place)∈jq v (aB f):=rR.2 (.inr ⟨t,ht,rfl,hk⟩);have m2:(t'.blk,t'.place)∈jq v (aB f):=rR.2 (.inr ⟨t',ht',rfl,hk'⟩);match hl:jq v (aB f),e with
 | [y],_=>rw[hl]at m1 m2;simp at m1 m2;have:=m1.trans m2.symm;exact⟨congrArg Prod.fst this,congrArg Prod.snd this⟩
variable{op:Int}
theorem kD{f:an}{v:Int}(hf:(aD f v op).2=Sq){t:Th}(ht:t∈aB f)(hk:v∈t.tks){b:Nat}(hb:t.blk=b):
  ∃m:Nat,b<f.blocks.length/\m<(nth f.blocks b).ins.length/\(m:Int)<t.place/\nth (nth f.blocks b).ins m=(aD f v op).1/\(aD f v op).1.op≠16/\(aD f v op).1.dst=v:=by
 obtain⟨m1,m2,m3,m4,m5⟩:=dm hf;obtain⟨b2,k2,hb2,hk2,e2⟩:=iz.1 m1;have hm:v∈(insT f b2 k2).mks:=by show v∈bg (nth (nth f.blocks b2).ins k2);rw[<-e2];unfold bg;rw[if_neg m5];split<;>simp[m4]
 obtain⟨q1,q2⟩:=nv m3 (dr hb2 hk2) ht hm hk;have q1:(b2:Int)=t.blk:=q1;have q2:(k2:Int)<t.place:=q2;obtain rfl:b2=b:=by omega
 exact⟨k2,hb2,hk2,q2,e2.symm,m5,m4⟩
def Ex (f:an) (b:Nat) (i:Int) (u:Int) (P:InsD->Prop):Prop:=∃m:Nat,m<(nth f.blocks b).ins.length/\(m:Int)<i/\(nth (nth f.blocks b).ins m).op≠16/\(nth (nth f.blocks b).ins m).dst=u/\P (nth (nth f.blocks b).ins m)
structure qF (f:an) (b:Nat) (i:Int) (own takes inner:List Int):Prop where
 fold : ∀u∈inner,cS f u=Sq
 out : ∀u∈inner,u∉takes
 made : ∀u∈inner,Ex f b i u λ_=>True
 from_ : ∀v∈takes,v∈own\/∃u∈inner,Ex f b i u λx=>v∈x.args
 two:inner.length<=2
 inn : ∀u∈inner,u∈own\/∃w∈inner,Ex f b i w λx=>u∈x.args
 cnt : ∀v,cS f v=Sq->takes.count v<=1
 len : ∃m:Nat,takes.length<=own.length+(nth (nth f.blocks b).ins m).args.length
theorem uu : ∀{l r:List Int},(∀v,l.count v<=r.count v)->l.length<=r.length
 | [],r,_=>QD _
 | a::l,r,h=>by
  have h1:=h a;rw[Rv]at h1;have hm:a∈r:=Pw.1 S0;have ih:=uu (l:=l) (r:=r.erase a) λv=>by have h2:=h v;rw[List.count_erase];rw[PL]at h2;split at h2<;>rename_i c<;>simp_all<;>omega
  rw[List.length_erase_of_mem hm]at ih;have:=List.length_pos_of_mem hm;simp only[Py];omega
section
variable {f:an} {b:Nat} {t:Th} {takes:List Int}
theorem wL(ht:t∈aB f)(h : ∀v,takes.count v<=t.tks.count v){i:Int}:qF f b i t.tks takes []:=
 ⟨λ_ h=>(nomatch h),λ_ h=>(nomatch h),λ_ h=>(nomatch h),λv hv=>.inl (Pw.1 (QG (Pw.2 hv) (h v))),by simp,λ_ h=>(nomatch h),λv hf=>OY (h v) (mF hf ht),0,OY (uu h) (RV _ _)⟩
theorem BE{l:List Int}{a:Int}(h:a∈l.erase a):2<=l.count a:=by have h1:=Pw.2 h;rw[List.count_erase_self]at h1;omega
theorem qJ{a:Int}(ht:t∈aB f)(hb:t.blk=b)(ha:a∈t.tks)(hf:(aD f a op).2=Sq)(hC : ∀v,takes.count v<=(t.tks.erase a).count v+(aD f a op).1.args.count v):qF f b t.place t.tks takes [a]:=by
 have hT : ∀v∈takes,v∈t.tks.erase a\/v∈(aD f a op).1.args:=λv hv=>by
  have h1:=Pw.2 hv;have h2:=hC v;rcases Pv ((t.tks.erase a).count v)with h | h
  ·exact .inr (Pw.1 S0)
  exact .inl (Pw.1 h)
 obtain⟨m,hb1,hm,hlt,e,h16,hd⟩:=kD hf ht ha hb;obtain⟨-,-,hfo,-,-⟩:=dm hf;refine⟨λu hu=>?_,λu hu hv=>?_,λu hu=>?_,λv hv=>?_,by simp,λu hu=>.inl (by rw[OC.1 hu];exact ha),λv hv=>?_,m,?_⟩;rotate_left 4
 ·have h1:=hC v;have h2:=mF hv ht;have hx:(insT f b m).tks=(aD f a op).1.args:=by show(nth (nth f.blocks b).ins m).args=_;rw[e]
  have h3:=mF hv (dr hb1 hm);rw[hx]at h3;have h4:(t.tks.erase a).count v<=t.tks.count v:=List.erase_sublist.count_le _;rcases Pv ((t.tks.erase a).count v)with h | h
  ·omega
  rcases Pv ((aD f a op).1.args.count v)with h5 | h5
  ·omega
  have:=rJ hv ht (dr hb1 hm) (Pw.1 S0) (by rw[hx];exact Pw.1 h5);have h2:t.place=(m:Int):=this.2;omega
 ·have h1:=uu (l:=takes) (r:=t.tks.erase a++(aD f a op).1.args) λv=>by rw[List.count_append];exact hC v
  rw[OI]at h1;have h2:=List.length_erase_le (a:=a) (l:=t.tks);rw[e];omega
 ·rw[OC.1 hu];exact hfo
 ·rw[OC.1 hu]at hv;rcases hT a hv with h | h
  ·have:=BE h;have:=mF hfo ht;omega
  have:=rJ hfo ht (dr hb1 hm) ha (by show a∈(nth (nth f.blocks b).ins m).args;rw[e];exact h);have h2:t.place=(m:Int):=this.2;omega
 ·rw[OC.1 hu];exact⟨m,hm,hlt,by rw[e];exact h16,by rw[e];exact hd,trivial⟩
 rcases hT v hv with h | h
 ·exact .inl (List.mem_of_mem_erase h)
 exact .inr ⟨a,by simp,m,hm,hlt,by rw[e];exact h16,by rw[e];exact hd,by rw[e];exact h⟩
theorem EW{a c p op2:Int}{r:List Int}(ht:t∈aB f)(hb:t.blk=b)(ha:a∈t.tks)(hf:(aD f a op).2=Sq)(hc:(aD f c op2).2=Sq)(hD:(aD f a op).1.args=p::c::r)(hC : ∀v,takes.count v<=(t.tks.erase a).count v+[p].count v):qF f b t.place t.tks takes [a,c]:=by
 have hT : ∀v∈takes,v∈t.tks.erase a\/v=p:=λv hv=>by
  have h1:=Pw.2 hv;have h2:=hC v;rcases Pv ((t.tks.erase a).count v)with h | h
  ·exact .inr (OC.1 (Pw.1 S0))
  exact .inl (Pw.1 h)
 obtain⟨m,hb1,hm,hlt,e,h16,hd⟩:=kD hf ht ha hb;have hx:(insT f b m).tks=p::c::r:=by show(nth (nth f.blocks b).ins m).args=_;rw[e,hD]
 have hcm:c∈(insT f b m).tks:=by rw[hx];simp
 obtain⟨m2,-,hm2,hlt2,e2,h162,hd2⟩:=kD hc (dr hb1 hm) hcm (b:=b) rfl;have hlt2:(m2:Int)<m:=hlt2;obtain⟨-,-,hfo,-,-⟩:=dm hf;obtain⟨-,-,hfc,-,-⟩:=dm hc;have one:=qJ (takes:=takes) ht hb ha hf (λv=>OY (hC v) (Rz (by rw[hD,PL,PL];simp) _));have a2:Ex f b t.place c λ_=>True:=⟨m2,hm2,by omega,by rw[e2];exact h162,by rw[e2];exact hd2,trivial⟩;refine⟨λu hu=>?_,λu hu hv=>?_,λu hu=>?_,λv hv=>?_,by simp,λu hu=>?_,one.cnt,one.len⟩;rotate_left 4
 ·rcases OQ.1 hu with rfl | hu
  ·exact .inl ha
  rw[OC.1 hu];exact .inr ⟨a,by simp,m,hm,hlt,by rw[e];exact h16,by rw[e];exact hd,by show c∈(nth (nth f.blocks b).ins m).args;rw[e,hD];simp⟩
 ·rcases OQ.1 hu with rfl | hu
  ·exact hfo
  rw[OC.1 hu];exact hfc
 ·rcases OQ.1 hu with rfl | hu
  ·exact one.out u Sa hv
  rw[OC.1 hu]at hv;rcases hT c hv with h | h
  ·have:=rJ hfc ht (dr hb1 hm) (List.mem_of_mem_erase h) hcm;have h2:t.place=(m:Int):=this.2;omega
  have h1:=mF hfc (dr hb1 hm);rw[hx,<-h,Rv,Rv]at h1;omega
 ·rcases OQ.1 hu with rfl | hu
  ·exact one.made u Sa
  rw[OC.1 hu];exact a2
 rcases one.from_ v hv with h | ⟨u,hu,h⟩
 ·exact .inl h
 exact .inr ⟨u,by rw[OC.1 hu];simp,h⟩
theorem j9{l:List Int}(h:2<=l.length): ∃r,l=nth l 0::nth l 1::r:=by
 match l,h with
 | a::b::r,_=>exact⟨r,rfl⟩
theorem CC{l:List Int}(h:1<=l.length):l=nth l 0::l.drop 1:=by
 match l,h with
 | a::r,_=>rfl
theorem FR{a b:Int}{r:List Int}:a∈(a::b::r).erase b:=by
 by_cases c:a=b
 ·subst c;rw[Rx];simp
 rw[List.erase_cons_tail (by simpa using c)];simp
theorem E8{i:InsD}{m lo hi sg:Int}{x:FitD}(ht:t∈aB f)(hb:t.blk=b)(hk:t.tks=i.args)(hl:2<=i.args.length)(h:immS f i m lo hi sg=Sj x):qF f b t.place t.tks x.takes x.inner:=by
 unfold immS at h;split at h
 ·rename_i hc;cases h;unfold dW at hc;simp only[OG]at hc;obtain⟨r,e⟩:=j9 hl;refine qJ ht hb (by rw[hk];exact aS S0) hc.1 λv=>OY ?_ (RV _ _);rw[hk];have:=FR (a:=nth i.args 0) (b:=nth i.args 1) (r:=r);rw[<-e]at this;exact(List.singleton_sublist.2 this).count_le _
 cases h
variable{temp:Int}
theorem FB{i:InsD}{pl su:Int}{k:Nat}{x:FitD}(ht:t∈aB f)(hb:t.blk=b)(hk:t.tks=i.args)(hall : ∀i∈du f,rT i)(hl:1<=i.args.length)(h:memS f i temp op pl su k=Sj x):qF f b t.place t.tks x.takes x.inner:=by
 have e:=CC hl;have ha:nth i.args 0∈t.tks:=by rw[hk];exact aS S0
 have er:t.tks.erase (nth i.args 0)=i.args.drop 1:=by have q:(nth i.args 0::i.args.drop 1).erase (nth i.args 0)=i.args.drop 1:=Rx _ _;rw[<-e]at q;rw[hk];exact q
 have own : ∀v,(nth i.args 0::i.args.drop 1).count v<=t.tks.count v:=λv=>by rw[hk,<-e];exact OA _
 match k with
 | 0=>
  simp only[memS]at h;split at h
  ·cases h;exact wL ht own
  cases h
 | 1=>
  simp only[memS]at h;split at h
  ·rename_i hf;split at h
   ·rename_i hc;cases h;unfold dW at hc;simp only[OG]at hc;obtain⟨m1,m2,-⟩:=dm hf;obtain⟨r,e2⟩:=j9 ((hall _ m1).two S0);refine EW ht hb ha hf hc.1.1 e2 λv=>?_;rw[er,PL,PL];simp
   cases h
  cases h
 | 2=>
  simp only[memS]at h;split at h
  ·rename_i hf;simp only[OG]at hf;cases h;obtain⟨m1,m2,-⟩:=dm hf.1;have h2:=(hall _ m1).two S0;refine qJ ht hb ha hf.1 λv=>?_;obtain⟨r,e2⟩:=j9 h2;rw[er,e2,PL,PL,PL,PL];simp[nth];omega
  cases h
 | k+3=>simp only[memS]at h;cases h;exact wL ht own
end
def valW (ws:List I32) (v:Int):Int:=IntKind.i32.wrap ((nth ws (v.tmod ws.length).toNat).v+IntKind.i32.wrap v)
def mkW (g:Int->Option Int) (x:InsD):Option Int:=
 if x.op=1 then Sj x.imm.v else(x.args[0]?).bind λp=>(g p).bind λa=>if x.op=15\/x.op=16 then Sj (IntKind.i32.wrap (a+x.imm.v)) else(x.args[1]?).bind λq=>(g q).bind λc=>Sj (wdoS x.op a c)
def gvW (f:an) (b:Nat) (inner:List Int) (ws:List I32):Nat->Int->Option Int
 | 0,_=>Sk
 | n+1,v=>if inner.contains v then(match (nth f.blocks b).ins.find? (dQ v)with | none=>Sj 0 | some x=>mkW (gvW f b inner ws n) x) else if 0<=v then Sj (valW ws v) else Sk
def kf (ws:List I32) (m:aZ):Int × Bool:=
 if m.op=3\/m.op=4 then(m.imm.v,Sq)
 else if 5<=m.op/\m.op<=17 then(wdoS (m.op-3) (valW ws m.a) (valW ws m.b),Sq)
 else if m.op=18\/m.op=24\/m.op=26 then(IntKind.i32.wrap (valW ws m.a+m.imm.v),Sq)
 else if m.op=19 then(bitW .and (valW ws m.a) m.imm.v,Sq)
 else if 20<=m.op/\m.op<=22 then(wdoS (m.op-12) (valW ws m.a) m.imm.v,Sq)
 else if m.op=23 then(IntKind.i32.wrap (IntKind.i32.wrap (valW ws m.a*valW ws m.b)+valW ws m.c),Sq)
 else if m.op=25\/m.op=27 then(IntKind.i32.wrap (valW ws m.a+valW ws m.b),Sq)
 else(0,Sr)
theorem zw{a:Int}:IntKind.i32.wrap a=(a+2147483648) % 4294967296-2147483648:=by unfold IntKind.wrap;simp[IntKind.signed,IntKind.bits];omega
theorem zr{a c:Int}:IntKind.i32.wrap (a+IntKind.i32.wrap c)=IntKind.i32.wrap (a+c):=by simp only[zw];omega
theorem Cs{a c:Int}:IntKind.i32.wrap (IntKind.i32.wrap a+c)=IntKind.i32.wrap (a+c):=by simp only[zw];omega
theorem A7{a:Int}(h:-2147483648<=a/\a<=2147483647):IntKind.i32.wrap a=a:=by rw[zw];omega
section
variable {f:an} {b:Nat} {ws:List I32} {inner:List Int} {v:Int} {n:Nat}
theorem E5(h:cS f v=Sq):(ma v (aB f)).length=1:=by unfold cS jD at h;simp only[OG]at h;have hb:=h.1;unfold lP at hb;simp at hb;exact hb.1.1.1.1
theorem CY(h:cS f v=Sq){t t':Th}(ht:t∈aB f)(ht':t'∈aB f)(hk:v∈t.mks)(hk':v∈t'.mks):t.place=t'.place:=by
 have e:=E5 h;have m1:(t.blk,t.place)∈ma v (aB f):=lQ.2 (.inr ⟨t,ht,rfl,hk⟩);have m2:(t'.blk,t'.place)∈ma v (aB f):=lQ.2 (.inr ⟨t',ht',rfl,hk'⟩);match hl:ma v (aB f),e with
 | [y],_=>rw[hl]at m1 m2;simp at m1 m2;have:=m1.trans m2.symm;exact congrArg Prod.snd this
theorem DW{x:InsD}(h:x.op≠16):x.dst∈bg x:=by unfold bg;rw[if_neg h];split<;>simp
theorem Dc(hf:(aD f v op).2=Sq)(hb:b<f.blocks.length){k:Nat}(hk:k<(nth f.blocks b).ins.length)(he:nth (nth f.blocks b).ins k=(aD f v op).1):
  (nth f.blocks b).ins.find? (dQ v)=Sj (aD f v op).1:=by
 obtain⟨m1,m2,m3,m4,m5⟩:=dm hf;rw[Rs];refine⟨by simp[dQ,m4,m5],k,hk,by rw[<-ay hk];exact he,λj hj=>?_⟩;have hj2:j<(nth f.blocks b).ins.length:=by omega
 rw[<-ay hj2];cases c:dQ v (nth (nth f.blocks b).ins j)with
 | false=>rfl
 | true=>
  simp[dQ]at c;have e1:v∈(insT f b j).mks:=by show v∈bg _;rw[<-c.2];exact DW c.1
  have e2:v∈(insT f b k).mks:=by show v∈bg _;rw[he];have:=DW m5;rw[m4]at this;exact this
  have:=CY m3 (dr hb hj2) (dr hb hk) e1 e2;have q:(j:Int)=(k:Int):=this;omega
theorem mw(m:gp f){t:Th}(ht:t∈aB f)(hp:0<=t.place)(hv:v∈t.tks):0<=v:=by
 have hpar:=m.params.1;rcases m.takes t ht hp v hv with h | ⟨t',h1,h2,-⟩
 ·exact h.1
 have:=((m.good t' h1).mks v h2).1;omega
theorem nr(h:v∉inner)(h0:0<=v):gvW f b inner ws (n+1) v=Sj (valW ws v):=by unfold gvW;rw[if_neg (by simpa using h),if_pos h0]
theorem Ns(h:v∈inner){x:InsD}(hx:(nth f.blocks b).ins.find? (dQ v)=Sj x):gvW f b inner ws (n+1) v=mkW (gvW f b inner ws n) x:=by rw[gvW,if_pos (by simpa using h),hx]
theorem sI{g:Int->Option Int}{x:InsD}(h:x.op=1):mkW g x=Sj x.imm.v:=by unfold mkW;rw[if_pos h]
theorem yY{g:Int->Option Int}{x:InsD}{p q a c:Int}{r:List Int}(h1:x.op≠1)(h2:x.op≠15)(h3:x.op≠16)(e:x.args=p::q::r)(ha:g p=Sj a)(hc:g q=Sj c):mkW g x=Sj (wdoS x.op a c):=by unfold mkW;simp[h1,h2,h3,e,ha,hc]
theorem Du{g:Int->Option Int}{x:InsD}{p a:Int}{r:List Int}(h2:x.op=15\/x.op=16)(e:x.args=p::r)(ha:g p=Sj a):mkW g x=Sj (IntKind.i32.wrap (a+x.imm.v)):=by unfold mkW;rw[if_neg S0];simp[h2,e,ha]
theorem zD{a c:Int}:wdoS 2 a c=IntKind.i32.wrap (a+c):=by unfold wdoS;rw[if_pos (by simp[doOk])];rfl
theorem Lp{a c:Int}:wdoS 3 a c=IntKind.i32.wrap (a-c):=by unfold wdoS;rw[if_pos (by simp[doOk])];rfl
theorem Mg{a c:Int}:wdoS 4 a c=IntKind.i32.wrap (a*c):=by unfold wdoS;rw[if_pos (by simp[doOk])];rfl
theorem I7{a c:Int}:wdoS 5 a c=bitW .and a c:=by unfold wdoS;rw[if_pos (by simp[doOk])];rfl
theorem th{t:Th}(hf:(aD f v op).2=Sq)(ht:t∈aB f)(hk:v∈t.tks)(hb:t.blk=b)(hv:v∈inner):gvW f b inner ws (n+1) v=mkW (gvW f b inner ws n) (aD f v op).1:=by obtain⟨k,h1,h2,h3,h4,h5,h6⟩:=kD hf ht hk hb;exact Ns hv (Dc hf h1 h2 h4)
theorem qL{i:InsD}{t:Th}{mo lo hi sg:Int}{x:FitD}(m:gp f)(ht:t∈aB f)(hb:t.blk=b)(hp:0<=t.place)(hk:t.tks=i.args)(hl:2<=i.args.length)(ho:2<=i.op/\i.op<=14)(h:immS f i mo lo hi sg=Sj x):
  ∃K,lo<=K/\K<=hi/\x.code=[⟨mo,i.dst,0,nth i.args 0,0,0,w32 (sg*K),[]⟩]/\mkW (gvW f b x.inner ws 3) i=Sj (wdoS i.op (valW ws (nth i.args 0)) K):=by
 have io:=E8 ht hb hk hl h;unfold immS at h;split at h
 ·rename_i hc;cases h;unfold dW at hc ⊢;simp only[OG]at hc;obtain⟨r,e⟩:=j9 hl;have hr:=hc.2;simp[inR]at hr;refine⟨(aD f (nth i.args 1) 1).1.imm.v,hr.1,hr.2,rfl,?_⟩;have k0:nth i.args 0∈t.tks:=by rw[hk];exact aS S0
  have k1:nth i.args 1∈t.tks:=by rw[hk];exact aS S0
  obtain⟨m1,m2,m3,m4,m5⟩:=dm hc.1;refine yY S0 S0 S0 e (nr (λq=>io.out _ q Sa) (mw m ht hp k0)) ?_;rw[th hc.1 ht k1 hb Sa,sI m2]
 cases h
variable{temp:Int}
theorem yp{i:InsD}{t:Th}{pl su:Int}{k:Nat}{x:FitD}(m:gp f)(hr : ∀i∈du f,-2147483648<=i.imm.v/\i.imm.v<=2147483647)(ht:t∈aB f)(hb:t.blk=b)(hp:0<=t.place)(hk:t.tks=i.args)(hall : ∀i∈du f,rT i)(hl:1<=i.args.length)(ho:i.op=15\/i.op=16)(hps:(pl=24/\su=25)\/(pl=26/\su=27))(h:memS f i temp op pl su k=Sj x)(hx:x.code.length=1):
  ∃r,kf ws (nth x.code 0)=(r,Sq)/\mkW (gvW f b x.inner ws 3) i=Sj r:=by
 have io:=FB ht hb hk hall hl h;have e:=CC hl;have k0:nth i.args 0∈t.tks:=by rw[hk];exact aS S0
 have p0:=mw m ht hp k0;have l1 : ∀a im,kf ws (gk i op pl ⟨pl,0,0,a,0,0,im,[]⟩)=(IntKind.i32.wrap (valW ws a+im.v),Sq):=λa im=>by unfold gk;rcases hps with⟨rfl,rfl⟩ | ⟨rfl,rfl⟩<;>split<;>simp[kf]
 have l2 : ∀a c,kf ws (gk i op pl ⟨su,0,0,a,c,0,⟨0⟩,[]⟩)=(IntKind.i32.wrap (valW ws a+valW ws c),Sq):=λa c=>by unfold gk;rcases hps with⟨rfl,rfl⟩ | ⟨rfl,rfl⟩<;>split<;>simp[kf]
 match k with
 | 0=>
  simp only[memS]at h;split at h
  ·cases h;exact⟨_,l1 _ _,Du ho e (nr Sa p0)⟩
  cases h
 | 1=>
  simp only[memS]at h;split at h
  ·rename_i hf;split at h
   ·rename_i hc;cases h;unfold dW at hc io ⊢;simp only[OG]at hc;obtain⟨m1,m2,m3,m4,m5⟩:=dm hf;obtain⟨n1,n2,-⟩:=dm hc.1.1;obtain⟨r,e2⟩:=j9 ((hall _ m1).two S0);obtain⟨j,q1,q2,q3,q4,q5,q6⟩:=kD hf ht k0 hb;have hx2:(insT f b j).tks=(aD f (nth i.args 0) 2).1.args:=by show(nth (nth f.blocks b).ins j).args=_;rw[q4]
    have kp:nth (aD f (nth i.args 0) 2).1.args 0∈(insT f b j).tks:=by rw[hx2];exact aS (by have:=(hall _ m1).two S0;omega)
    have kc:nth (aD f (nth i.args 0) 2).1.args 1∈(insT f b j).tks:=by rw[hx2];exact aS (by have:=(hall _ m1).two S0;omega)
    have tj:=dr q1 q2;refine⟨_,l1 _ _,?_⟩;refine(Du ho e ((th hf ht k0 hb Sa).trans (yY S0 S0 S0 e2 (nr (λq=>io.out _ q Sa) (mw m tj (by show(0:Int)<=(j:Int);omega) kp)) ((th hc.1.1 tj kc rfl Sa).trans (sI n2))))).trans ?_;rw[m2,zD,Cs];show Sj (IntKind.i32.wrap _)=Sj (IntKind.i32.wrap (_+IntKind.i32.wrap _));rw[zr,Int.add_assoc]
   cases h
  cases h
 | 2=>
  simp only[memS]at h;split at h
  ·rename_i hf;simp only[OG,decide_eq_true_eq]at hf;cases h;obtain⟨m1,m2,m3,m4,m5⟩:=dm hf.1;have h2:=(hall _ m1).two S0;obtain⟨r,e2⟩:=j9 h2;obtain⟨j,q1,q2,q3,q4,q5,q6⟩:=kD hf.1 ht k0 hb;have hx2:(insT f b j).tks=(aD f (nth i.args 0) 2).1.args:=by show(nth (nth f.blocks b).ins j).args=_;rw[q4]
   have kp:nth (aD f (nth i.args 0) 2).1.args 0∈(insT f b j).tks:=by rw[hx2];exact aS S0
   have kc:nth (aD f (nth i.args 0) 2).1.args 1∈(insT f b j).tks:=by rw[hx2];exact aS S0
   have tj:=dr q1 q2;have pj:0<=(insT f b j).place:=by show(0:Int)<=(j:Int);omega
   refine⟨_,l2 _ _,?_⟩;refine(Du ho e ((th hf.1 ht k0 hb Sa).trans (yY S0 S0 S0 e2 (nr (λq=>io.out _ q Sa) (mw m tj pj kp)) (nr (λq=>io.out _ q Sa) (mw m tj pj kc))))).trans ?_;rw[m2,zD,Cs,hf.2,Int.add_zero]
  cases h
 | k+3=>simp only[memS]at h;cases h;simp at hx
theorem Dl{p:Nat}{d a c:Int}(h:3<=p/\p<=15):kf ws ⟨(p:Int)+2,d,0,a,c,0,⟨0⟩,[]⟩=(wdoS (p-1) (valW ws a) (valW ws c),Sq):=by unfold kf;show(if(p:Int)+2=3\/(p:Int)+2=4 then _ else if 5<=(p:Int)+2/\(p:Int)+2<=17 then _ else _)=_;rw[if_neg S0,if_pos S0];rw[show(p:Int)+2-3=p-1 by omega]
theorem Dv{p:Nat}{d a:Int}{im:I32}(h:19<=p/\p<=21):kf ws ⟨(p:Int)+1,d,0,a,0,0,im,[]⟩=(wdoS (p-11) (valW ws a) im.v,Sq):=by unfold kf;show(if(p:Int)+1=3\/(p:Int)+1=4 then _ else if 5<=(p:Int)+1/\(p:Int)+1<=17 then _ else if(p:Int)+1=18\/(p:Int)+1=24\/(p:Int)+1=26 then _ else if(p:Int)+1=19 then _ else if 20<=(p:Int)+1/\(p:Int)+1<=22 then _ else _)=_;rw[if_neg S0,if_neg S0,if_neg S0,if_neg S0,if_pos S0];rw[show(p:Int)+1-12=p-11 by omega]
theorem EY{d a c e:Int}{im:I32}:kf ws ⟨23,d,0,a,c,e,im,[]⟩=(IntKind.i32.wrap (IntKind.i32.wrap (valW ws a*valW ws c)+valW ws e),Sq):=by simp[kf]
variable{pat:Int}
set_option maxHeartbeats 1000000 in
theorem FI{k:Nat}{x:FitD}(m:gp f)(hsm:SmF f)(hr : ∀i∈du f,-2147483648<=i.imm.v/\i.imm.v<=2147483647)(hb:b<f.blocks.length)(hk:k<(nth f.blocks b).ins.length)(hop:(nth (nth f.blocks b).ins k).op≠17/\(nth (nth f.blocks b).ins k).op≠18)(h:patS f (nth (nth f.blocks b).ins k) temp pat=Sj x)(hx:x.code.length=1):
    ∃r,kf ws (nth x.code 0)=(r,Sq)/\mkW (gvW f b x.inner ws 3) (nth (nth f.blocks b).ins k)=Sj r:=by
  have hall:=vY m hsm
  have ht:=dr hb hk
  have hm:nth (nth f.blocks b).ins k∈du f:=iz.2 ⟨b,k,hb,hk,rfl⟩
  have hp:0<=(insT f b k).place:=by show(0:Int)<=(k:Int);omega
  have htk:(insT f b k).tks=(nth (nth f.blocks b).ins k).args:=rfl
  have hbl:(insT f b k).blk=b:=rfl
  have ha:=hall _ hm
  have hir:=hr _ hm
  generalize nth (nth f.blocks b).ins k=i at *
  generalize insT f b k=t at *
  unfold patS at h
  split at h
  · rename_i c
    obtain⟨c1,c2,c3⟩:=c
    have hp1:1<=pat.toNat/\pat.toNat<=32:=by omega
    generalize pat.toNat=p at *
    have opi:3<=p->p<=22->2<=i.op/\i.op<=14:=by
      intro h2 h30
      rw[c3]
      unfold opOf
      repeat' split
      all_goals omega
    have opm:23<=p->p<=30->i.op=15\/i.op=16:=by
      intro h2 h30
      rw[c3]
      unfold opOf
      repeat' split
      all_goals omega
    have op1:p<=2->i.op=1:=by
      intro h2
      rw[c3]
      unfold opOf
      rw[if_pos S0]
    have opx:31<=p->i.op=17\/i.op=18:=by
      intro h2
      rw[c3]
      unfold opOf
      repeat' split
      all_goals omega
    have len2:3<=p->p<=22->2<=i.args.length:=λh1 h2=>ha.two (.inl (opi h1 h2))
    have len1:23<=p->p<=30->1<=i.args.length:=λh1 h2=>by
      rcases opm h1 h2 with q | q
      · exact ha.one q
      · have:=ha.two (.inr (.inl q));omega
    unfold doS at h
    by_cases p1:p=1
    · rw[if_pos p1]at h
      split at h
      · cases h;exact⟨_,by simp[kf];rfl,sI (op1 S0)⟩
      · cases h
    rw[if_neg p1]at h
    by_cases p2:p=2
    · rw[if_pos p2]at h;cases h;exact⟨_,by simp[kf];rfl,sI (op1 S0)⟩
    rw[if_neg p2]at h
    by_cases p15:p<=15
    · rw[if_pos p15]at h;cases h
      obtain⟨r,e⟩:=j9 (len2 S0 S0)
      have o:=opi S0 S0
      have k0:nth i.args 0∈t.tks:=by rw[htk];exact aS (by have:=len2 S0 S0;omega)
      have k1:nth i.args 1∈t.tks:=by rw[htk];exact aS (by have:=len2 S0 S0;omega)
      refine⟨_,Dl S0,?_⟩
      rw[yY S0 S0 S0 e (nr Sa (mw m ht hp k0)) (nr Sa (mw m ht hp k1))]
      have eo:i.op=(p:Int)-1:=by rw[c3];unfold opOf;rw[if_neg S0,if_pos S0]
      rw[eo]
    rw[if_neg p15]at h
    by_cases p16:p=16
    · rw[if_pos p16]at h
      obtain⟨K,q1,q2,q3,q4⟩:=qL (ws:=ws) m ht hbl hp htk (len2 S0 S0) (opi S0 S0) h
      have eo:i.op=2:=by rw[c3,p16];rfl
      refine⟨_,?_,q4⟩
      rw[q3,eo,zD]
      show(IntKind.i32.wrap (_+IntKind.i32.wrap (1*K)),Sq)=_
      rw[zr,Int.one_mul]
      rfl
    rw[if_neg p16]at h
    by_cases p17:p=17
    · rw[if_pos p17]at h
      obtain⟨K,q1,q2,q3,q4⟩:=qL (ws:=ws) m ht hbl hp htk (len2 S0 S0) (opi S0 S0) h
      have eo:i.op=3:=by rw[c3,p17];rfl
      refine⟨_,?_,q4⟩
      rw[q3,eo,Lp]
      show(IntKind.i32.wrap (_+IntKind.i32.wrap (-1*K)),Sq)=_
      rw[zr,show ∀a:Int,a+-1*K=a-K from λa=>by omega]
      rfl
    rw[if_neg p17]at h
    by_cases p18:p=18
    · rw[if_pos p18]at h
      obtain⟨K,q1,q2,q3,q4⟩:=qL (ws:=ws) m ht hbl hp htk (len2 S0 S0) (opi S0 S0) h
      have eo:i.op=5:=by rw[c3,p18];rfl
      refine⟨_,?_,q4⟩
      rw[q3,eo,I7]
      show(bitW .and _ (IntKind.i32.wrap (1*K)),Sq)=_
      rw[Int.one_mul,A7 S0]
      rfl
    rw[if_neg p18]at h
    by_cases p21:p<=21
    · rw[if_pos p21]at h
      obtain⟨K,q1,q2,q3,q4⟩:=qL (ws:=ws) m ht hbl hp htk (len2 S0 S0) (opi S0 S0) h
      have eo:i.op=(p:Int)-11:=by
                                            rw[c3];unfold opOf;repeat' split
                                            all_goals omega
      refine⟨_,?_,q4⟩
      rw[q3,eo]
      refine(Dv S0).trans ?_
      show(wdoS _ _ (IntKind.i32.wrap (1*K)),Sq)=_
      rw[Int.one_mul,A7 S0]
    rw[if_neg p21]at h
    by_cases p22:p=22
    · rw[if_pos p22]at h
      by_cases q:(aD f (nth i.args 0) 4).2=Sq
      · rw[if_pos q]at h
        have l2:=len2 S0 S0
        obtain⟨m1,m2,-⟩:=dm q
        have l3:=(hall _ m1).two S0
        obtain⟨r,e⟩:=j9 l2
        obtain⟨r2,e2⟩:=j9 l3
        have k0:nth i.args 0∈t.tks:=by rw[htk];exact aS S0
        have k1:nth i.args 1∈t.tks:=by rw[htk];exact aS S0
        obtain⟨j,z1,z2,z3,z4,z5,z6⟩:=kD q ht k0 hbl
        have tj:=dr z1 z2
        have hx2:(insT f b j).tks=(aD f (nth i.args 0) 4).1.args:=by show(nth (nth f.blocks b).ins j).args=_;rw[z4]
        have kp:nth (aD f (nth i.args 0) 4).1.args 0∈(insT f b j).tks:=by rw[hx2];exact aS S0
        have kc:nth (aD f (nth i.args 0) 4).1.args 1∈(insT f b j).tks:=by rw[hx2];exact aS S0
        have pj:0<=(insT f b j).place:=by show(0:Int)<=(j:Int);omega
        have io:qF f b t.place t.tks [nth (aD f (nth i.args 0) 4).1.args 0,nth (aD f (nth i.args 0) 4).1.args 1,nth i.args 1] [nth i.args 0]:=by
          refine qJ ht hbl k0 q λv=>?_
          have w:(nth i.args 0::nth i.args 1::r).erase (nth i.args 0)=nth i.args 1::r:=Rx _ _
          rw[<-e]at w
          rw[htk,w,e2]
          simp only[PL,nth]
          simp;omega
        cases h
        have o:=opi S0 S0
        have eo:i.op=2:=by rw[c3,p22];rfl
        refine⟨_,?_,yY S0 S0 S0 e ((th q ht k0 hbl Sa).trans (yY S0 S0 S0 e2 (nr (λz=>io.out _ z Sa) (mw m tj pj kp)) (nr (λz=>io.out _ z Sa) (mw m tj pj kc)))) (nr (λz=>io.out _ z Sa) (mw m ht hp k1))⟩
        rw[eo,m2,zD,Mg]
        exact EY
      · rw[if_neg q]at h;cases h
    rw[if_neg p22]at h
    by_cases p26:p<=26
    · rw[if_pos p26]at h;exact yp m hr ht hbl hp htk hall (len1 S0 S0) (opm S0 S0) (.inl ⟨rfl,rfl⟩) h hx
    rw[if_neg p26]at h
    by_cases p30:p<=30
    · rw[if_pos p30]at h;exact yp m hr ht hbl hp htk hall (len1 S0 S0) (opm S0 S0) (.inr ⟨rfl,rfl⟩) h hx
    exfalso
    have:=opx S0
    omega
  · cases h
theorem Ba{i:InsD}{x:FitD}(h:patS f i temp pat=Sj x)(hp:pat=26\/pat=30):x.code.length=2:=by
 rcases hp with rfl | rfl
 ·rw[zY]at h;split at h
  ·cases h;rfl
  cases h
 rw[zF]at h;split at h
 ·cases h;rfl
 cases h
theorem F2{k:Nat}{x y:FitD}(hsm:SmF f)(hr : ∀i∈du f,-2147483648<=i.imm.v/\i.imm.v<=2147483647)(hb:b<f.blocks.length)(hk:k<(nth f.blocks b).ins.length)(hop:(nth (nth f.blocks b).ins k).op≠17/\(nth (nth f.blocks b).ins k).op≠18)(h1:eM f b k pat=Sj y)(h2:dE f b k pat 8000=Sj x)(hx:x.code.length=1):
  ∃r,kf ws (nth x.code 0)=(r,Sq)/\mkW (gvW f b y.inner ws 3) (nth (nth f.blocks b).ins k)=Sj r:=by
 have ep : ∀t z,dE f b k pat t=Sj z->gp f/\patS f (nth (nth f.blocks b).ins k) t pat=Sj z:=λt z h=>by
  unfold dE at h;split at h
  ·rename_i c;simp only[OG]at c;refine⟨lS c.2,?_⟩;have es:dI f b k t=⟨f,nth (nth f.blocks b).ins k,mG,Sr,t⟩:=by unfold dI;rw[show((b:Int)).toNat=b by omega,if_neg S0];rfl
   rw[es]at h;exact h
  cases h
 obtain⟨m,q⟩:=ep _ _ h2;have n1:pat≠26:=λe=>by have:=Ba q (.inl e);omega
 have n2:pat≠30:=λe=>by have:=Ba q (.inr e);omega
 unfold eM at h1;split at h1
 ·rw[xj n1 n2 (t':=8000),h2]at h1;cases h1;exact FI m hsm hr hb hk hop q hx
 cases h1
end
section
variable {W:View} {f:an} {b:Nat} {inner:List Int} {ws:List I32} {vf vi vw':Value} {n:Nat}
variable{vws:Value}
theorem wD{h:Heap}{v:Int}(hw:SlRd (vw h) vws ws)(h0:0<=v)(hn:0<ws.length):
  ∃p,Bn.ev (.idx 1) vws (Sf Sg (v.tmod ws.length))=Sj (Sp (Sj p))/\ak (vw h) p=Sj (Sf Si (nth ws (v.tmod ws.length).toNat).v):=by
 have h1:0<=v.tmod ws.length:=R3 _ h0;have h2:v.tmod ws.length<ws.length:=Q4 _ S0;have hlt:(v.tmod ws.length).toNat<ws.length:=by omega
 have hat:=(hw.at hlt).i32;rw[show(v.tmod ws.length).toNat*Rep.n I32=(v.tmod ws.length).toNat from Px _,<-ay hlt]at hat;exact⟨_,hw.idx1 rfl (k:=.i64) h1 h2,hat⟩
def Eh (W:View) (f:an) (b:Nat) (vi vws:Value) (g:Int->Option Int):Prop:=
 ∀(v r:Int) (vf:Value) (h:Heap),I64 v->W.le (vw h)->Rd (vw h) vf f->g v=Sj r->aw Ss 49 #[vf,Sf Sg b,Sf Sg v,vi,vws] h (λu h'=>u = Sf Si r/\(vw h).le (vw h'))
def Ay (W:View) (f:an) (b:Nat) (vi vws:Value) (g:Int->Option Int):Prop:=
 ∀(x:InsD) (vx:Value) (r:Int) (vf:Value) (h:Heap),Rd (vw h) vx x->W.le (vw h)->Rd (vw h) vf f->mkW g x=Sj r->aw Ss 32 #[vf,Sf Sg b,vx,vi,vws] h (λu h'=>u = Sf Si r/\(vw h).le (vw h'))
set_option maxHeartbeats 1000000 in
theorem sS{g:Int->Option Int}(hg:Eh W f b vi vws g):Ay W f b vi vws g:=by
 intro x vx r vf h rx hW rf hr;refine aj (args:=[vf,Sf Sg b,vx,vi,vws]) follows Tryz.func32 E.mU S8 λK hK=>?_;dsimp only[L.mU,lkF,lkG];refine ab λz hz=>?_;simp;refine fI rfl rf λh1 e1 hle1 hs1 hat1=>?_;refine fI rfl (rx.mono hle1) λh2 e2 hle2 hs2 hat2=>?_;generalize h.size=A at hat1;generalize h1.size=B at hat2;have hat1:=hat1.mono hle2;have l2:(vw h).le (vw h2):=Sc hle1 hle2;obtain⟨c0,-,-,va,ca,sa⟩:=kJ hat2;have c4:ak (vw h2) ⟨B,4,Sk⟩=Sj (Sf Si x.imm.v):=by simpa using(hat2.part InsD.je).i32
 obtain⟨uF,huf,ruf⟩:=hat1.ldN rfl (N:=2) rfl;subst hz;unfold mkW at hr;refine ab λz hz=>?_;by_cases o1:x.op=1
 ·rw[if_pos o1]at hr;cases hr;simp[c0,o1,c4];exact hK _ _ ⟨rfl,l2⟩
 rw[if_neg o1]at hr;simp[c0,o1];subst hz;cases hp:x.args[0]? with
 | none=>rw[hp]at hr;cases hr
 | some p=>
 rw[hp]at hr;simp only[OT]at hr;cases ha:g p with
 | none=>rw[ha]at hr;cases hr
 | some a=>
 rw[ha]at hr;simp only[OT]at hr;obtain⟨hp1,hp2⟩:=PX.1 hp;have q0:=sa.idx1 (k:=.i64) (i:=0) rfl S0 S0;have p0:=sa.int Sb hp1;have r0:=sa.range hp1;rw[ay hp1,hp2]at p0 r0;simp at q0 p0;refine ab λz hz=>?_;refine aO (vw h2) Sb ?_;simp[huf _ Sb,ca,q0,p0];refine af R9 (hg p a uF h2 r0 (Sc hW l2) ruf ha) ?_;rintro _ h3 ⟨rfl,hle3⟩;have l3:=Sc l2 hle3;have c0:=ae hle3 c0;have c4:=ae hle3 c4;have ca:=ae hle3 ca;subst hz;refine ab λz hz=>?_;by_cases om:x.op=15\/x.op=16
 ·rw[if_pos om]at hr;cases hr;refine dU S2 (by rcases om with e | e<;>simp[c0,e]) ?_;simp[c4];exact hK _ _ ⟨rfl,l3⟩
 rw[if_neg om]at hr;have om1:¬x.op=15:=λe=>om (.inl e);have om2:¬x.op=16:=λe=>om (.inr e);refine dJ S2 (by simp[c0,om1,om2]) ?_;try simp
 subst hz;cases hq:x.args[1]? with
 | none=>rw[hq]at hr;cases hr
 | some q=>
 rw[hq]at hr;simp only[OT]at hr;cases hc:g q with
 | none=>rw[hc]at hr;cases hr
 | some c=>
 rw[hc]at hr;simp only[OT,Ow]at hr;obtain⟨hq1,hq2⟩:=PX.1 hq;have q1:=(sa.mono hle3).idx1 (k:=.i64) (i:=1) rfl S0 S0;have p1:=sa.int hle3 hq1;have r1:=sa.range hq1;rw[ay hq1,hq2]at p1 r1;simp at q1 p1;refine ab λz hz=>?_;refine aO (vw h3) Sb ?_;simp[huf _ hle3,ca,q1,p1,c0];refine af R9 (hg q c uF h3 r1 (Sc hW l3) (ruf.mono hle3) hc) ?_;rintro _ h4 ⟨rfl,hle4⟩;refine⟨hle4,?_⟩;refine af R9 uj ?_;rintro _ h5 ⟨rfl,hle5⟩;try simp
 subst hz;simp;exact hK _ _ ⟨by rw[hr],Sc l3 (Sc hle4 hle5)⟩
set_option maxHeartbeats 1000000 in
theorem wR(hb:b<f.blocks.length)(sm:SmF f)(hi:SlRd W vi inner)(hw:SlRd W vws ws)(hn:0<ws.length)(hm:Ay W f b vi vws (gvW f b inner ws n)):Eh W f b vi vws (gvW f b inner ws (n+1)):=by
 intro v r vf h rv hW rf hr;refine aj (args:=[vf,Sf Sg b,Sf Sg v,vi,vws]) follows Tryz.func49 E.dP S8 λK hK=>?_;dsimp only[L.dP,lkF,lkG];refine ab λz hz=>?_;simp;refine fI rfl rf λh1 e1 hle1 hs1 hat1=>?_;generalize h.size=A at hat1;have l1:=Sc hW hle1;obtain⟨uF,huf,ruf⟩:=hat1.ldN rfl (N:=2) rfl;obtain⟨-,vb,cb,sb⟩:=iZ hat1;subst hz;unfold gvW at hr;refine ab λz hz=>?_;simp;refine af R9 (MG (hi.mono l1)) ?_;rintro _ h1 ⟨rfl,rfl⟩;cases hc:inner.contains v with
 | false=>
  rw[hc,if_neg Sa]at hr;split at hr
  ·rename_i h0;cases hr;obtain⟨p,w1,w2⟩:=wD (hw.mono l1) h0 hn;have hl:=(hw.mono l1).len (K:=vw h1);simp[hl,show ¬ws=[] from λe=>by simp[e]at hn,w1,w2];exact hK _ _ ⟨rfl,hle1⟩
  cases hr
 | true=>
  rw[hc,if_pos rfl]at hr;simp;subst hz;refine ab λz hz=>?_;have qb:=sb.idxn (k:=.i64) (N:=6) rfl (i:=(b:Int)) S0 S0;have n6:Rep.n BlkD=6:=rfl;obtain⟨vin,cin,sin⟩:=((sb.at hb).part BlkD.mB).list;simp[n6]at qb cin;simp[cb,qb,cin];subst hz;rw[ay hb]at hr;have hsb:=(sm.blk b hb).ins;rw[ay hb]at hsb;generalize hins:f.blocks[b].ins=ins at *;refine ab λz hz=>?_;simp;refine cW [1,2,3,4,5,11,12] (fun(_:Unit) j=>[Sf Sg b,Sf Sg v,vi,vws,ptz A,vin,Sf Sg j])
   (λ_ j h=>h=h1/\∀j'<j,dQ v (nth ins j')=Sr) ins.length () R9 S0 rfl ⟨rfl,λ_ h=>by omega⟩ (λ_ _=>rfl) ?_ ?_ ?_
  ·rintro _ j h hj ⟨rfl,-⟩;simp[sin.len]
  ·rintro _ j h hj ⟨rfl,ho⟩ K2 hK2;have hj:j<ins.length:=hj;have qj:=sin.idxn (k:=.i64) (N:=5) rfl (i:=(j:Int)) S0 S0;have c0:=((sin.at hj).part InsD.tB).int;have c1:=((sin.at hj).part InsD.iy).int;obtain⟨ux,hux,rux⟩:=(sin.at hj).ldN rfl (N:=5) rfl;have n5:Rep.n InsD=5:=rfl;simp[n5]at qj c0 c1;have hux:=hux _ Sb;simp[n5]at hux;refine nZ ?_;cases hp:dQ v (nth ins j)with
   | true=>
    have hp2:=hp;simp[dQ]at hp2;rw[ay hj]at hp2;have hf:ins.find? (dQ v)=Sj ins[j]:=by rw[Rs];refine⟨by rw[<-ay hj];exact hp,j,hj,rfl,λi hi=>?_⟩;have:=ho i hi;rw[ay S0]at this;rw[this];rfl
    rw[hf]at hr;refine dU S2 (by simp[qj,c0,c1,hp2.1,hp2.2]) ?_;refine ab λy hy=>?_;refine aO (vw h) Sb ?_;simp[huf _ Sb,qj,hux];refine af R9 (hm ins[j] ux r uF h rux l1 ruf hr) ?_;rintro _ h3 ⟨rfl,hle3⟩;subst hy;simp;exact hK _ _ ⟨rfl,Sc hle1 hle3⟩
   | false=>
    have hp2:¬(ins[j].op≠16/\ins[j].dst=v):=λe=>by rw[ay hj]at hp;simp[dQ,e.1,e.2]at hp
    by_cases c16:ins[j].op=16
    ·refine dJ S2 (by simp[qj,c0,c1,c16]) ?_;simp;exact hK2 () _ _ rfl rfl ⟨rfl,λi hi=>by
      by_cases e:i=j
      ·subst e;exact hp
      exact ho i S0⟩
    have cd:¬ins[j].dst=v:=λe=>hp2 ⟨c16,e⟩;refine dJ S2 (by simp[qj,c0,c1,c16,cd]) ?_;simp;exact hK2 () _ _ rfl rfl ⟨rfl,λi hi=>by
     by_cases e:i=j
     ·subst e;exact hp
     exact ho i S0⟩
  rintro _ h ⟨rfl,ho⟩;have hf:ins.find? (dQ v)=none:=by rw[List.find?_eq_none];intro x hx;obtain⟨i,hi,rfl⟩:=OU hx;rw[<-ay hi,ho i hi];simp
  rw[hf]at hr;cases hr;simp;subst hz;simp;exact hK _ _ ⟨rfl,hle1⟩
theorem Gf(hb:b<f.blocks.length)(sm:SmF f)(hi:SlRd W vi inner)(hw:SlRd W vws ws)(hn:0<ws.length):Ay W f b vi vws (gvW f b inner ws 3):=
 sS (wR hb sm hi hw hn (sS (wR hb sm hi hw hn (sS (wR hb sm hi hw hn (sS λv r vf h _ _ _ hr=>nomatch hr))))))
set_option maxHeartbeats 2000000 in
theorem JZ{m:aZ}{vm:Value}{h:Heap}(rm:Rd (vw h) vm m)(hw:SlRd (vw h) vws ws)(hn:0<ws.length)(ha:0<=m.a)(hb:0<=m.b)(hc:0<=m.c):
  aw Ss 31 #[vm,vws] h (λu h'=>u = .tuple #[Sf Si (kf ws m).1,.bool (kf ws m).2]/\(vw h).le (vw h')):=by
 refine aj (args:=[vm,vws]) follows Tryz.func31 E.ox S8 λK hK=>?_;dsimp only[L.ox,lkF,lkG];refine ab λz hz=>?_;simp;refine fI rfl rm λh1 e1 hle1 hs1 at1=>?_;generalize h.size=A at at1;have hw1:=hw.mono hle1;have a0:=(at1.part aZ.tB).int;have a3:=(at1.part aZ.MQ).int;have a4:=(at1.part aZ.Nu).int;have a5:=(at1.part aZ.Nv).int;have a6:=(at1.part aZ.je).i32;simp at a0 a3 a4 a5 a6;have hl:=hw1.len (K:=vw h1);have ne:¬ws=[]:=λe=>by simp[e]at hn
 subst hz;refine ab λz hz=>?_;refine aO (vw h1) Sb ?_;obtain⟨p,w1,w2⟩:=wD hw1 ha hn;simp[a3,hl,ne,w1,w2];subst hz;clear w1 w2 p;refine ab λz hz=>?_;refine aO (vw h1) Sb ?_;obtain⟨p,w1,w2⟩:=wD hw1 hb hn;simp[a4,hl,ne,w1,w2];subst hz;clear w1 w2 p;refine ab λz hz=>?_;refine aO (vw h1) Sb ?_;obtain⟨p,w1,w2⟩:=wD hw1 hc hn;simp[a5,hl,ne,w1,w2];subst hz;clear w1 w2 p;have vA:IntKind.i32.wrap ((nth ws (m.a.tmod ws.length).toNat).v+IntKind.i32.wrap m.a)=valW ws m.a:=rfl;have vB:IntKind.i32.wrap ((nth ws (m.b.tmod ws.length).toNat).v+IntKind.i32.wrap m.b)=valW ws m.b:=rfl;have vC:IntKind.i32.wrap ((nth ws (m.c.tmod ws.length).toNat).v+IntKind.i32.wrap m.c)=valW ws m.c:=rfl;rw[vA,vB,vC];clear vA vB vC;refine ab λz hz=>?_;refine nZ ?_;unfold kf at hK;by_cases c1:m.op=3\/m.op=4
 ·rw[if_pos c1]at hK;refine dU S2 (by rcases c1 with e | e<;>simp[a0,e]) ?_;simp[a6];exact hK _ _ ⟨rfl,hle1⟩
 rw[if_neg c1]at hK;have d3:¬m.op=3:=λe=>c1 (.inl e);have d4:¬m.op=4:=λe=>c1 (.inr e);refine dJ S2 (by simp[a0,d3,d4]) ?_;by_cases c2:5<=m.op/\m.op<=17
 ·rw[if_pos c2]at hK;refine dU S2 (by simp[a0,c2.1,c2.2]) ?_;have ew:IntKind.i64.wrap (IntKind.i64.wrap (m.op-5)+2)=m.op-3:=by rw[bC (a:=m.op-5) S0 S0,bC S0 S0];omega
  refine ab λy hy=>?_;simp[a0,ew];refine af R9 uj ?_;rintro _ h2 ⟨rfl,hle2⟩;try simp
  subst hy;simp;exact hK _ _ ⟨rfl,Sc hle1 hle2⟩
 rw[if_neg c2]at hK;refine dJ S2 (by by_cases e:5<=m.op<;>simp[a0,e];omega) ?_;by_cases c3:m.op=18\/m.op=24\/m.op=26
 ·rw[if_pos c3]at hK;refine dU S2 (by rcases c3 with e | e | e<;>simp[a0,e]) ?_;simp[a6];exact hK _ _ ⟨rfl,hle1⟩
 rw[if_neg c3]at hK;have d5:¬m.op=18:=λe=>c3 (.inl e);have d6:¬m.op=24:=λe=>c3 (.inr (.inl e));have d7:¬m.op=26:=λe=>c3 (.inr (.inr e));refine dJ S2 (by simp[a0,d5,d6,d7]) ?_;by_cases c4:m.op=19
 ·rw[if_pos c4]at hK;refine dU S2 (by simp[a0,c4]) ?_;simp[a6,Ec];exact hK _ _ ⟨rfl,hle1⟩
 rw[if_neg c4]at hK;refine dJ S2 (by simp[a0,c4]) ?_;by_cases c5:20<=m.op/\m.op<=22
 ·rw[if_pos c5]at hK;refine dU S2 (by simp[a0,c5.1,c5.2]) ?_;have ew:IntKind.i64.wrap (IntKind.i64.wrap (m.op-20)+8)=m.op-12:=by rw[bC (a:=m.op-20) S0 S0,bC S0 S0];omega
  refine ab λy hy=>?_;simp[a0,ew,a6];refine af R9 uj ?_;rintro _ h2 ⟨rfl,hle2⟩;try simp
  subst hy;simp;exact hK _ _ ⟨rfl,Sc hle1 hle2⟩
 rw[if_neg c5]at hK;refine dJ S2 (by by_cases e:20<=m.op<;>simp[a0,e];omega) ?_;by_cases c6:m.op=23
 ·rw[if_pos c6]at hK;refine dU S2 (by simp[a0,c6]) ?_;simp;exact hK _ _ ⟨rfl,hle1⟩
 rw[if_neg c6]at hK;refine dJ S2 (by simp[a0,c6]) ?_;by_cases c7:m.op=25\/m.op=27
 ·rw[if_pos c7]at hK;refine dU S2 (by rcases c7 with e | e<;>simp[a0,e]) ?_;simp;exact hK _ _ ⟨rfl,hle1⟩
 rw[if_neg c7]at hK;have d8:¬m.op=25:=λe=>c7 (.inl e);have d9:¬m.op=27:=λe=>c7 (.inr e);refine dJ S2 (by simp[a0,d8,d9]) ?_;simp;subst hz;simp;exact hK _ _ ⟨rfl,hle1⟩
end
theorem C7{f:an}{b k:Nat}(m:gp f)(hr:kq f=Sq)(hb:b<f.blocks.length)(hk:k<(nth f.blocks b).ins.length): ∃p:Nat,1<=p/\p<=37/\(eM f b k p).isSome=true:=by
 obtain⟨q1,q2,q3,q4⟩:=CN (f:=f) (Jh m hb hk);refine⟨xE (nth (nth f.blocks b).ins k).op,q3,by omega,?_⟩;have hp:cR f b k=true:=by simp[cR];omega
 have es:dI f b k 0=⟨f,nth (nth f.blocks b).ins k,mG,Sr,0⟩:=by unfold dI;rw[show((b:Int)).toNat=b by omega,if_neg S0];rfl
 unfold eM dE;rw[if_pos S0,hp,hr,es];show(patS f _ 0 _).isSome=Sq;unfold patS;rw[if_pos ⟨by omega,by omega,by rw[OR];exact q2.symm⟩,OR];exact q1
variable{pat:Int}
theorem Bb{f:an}{b p:Int}(h:1<=pat):(dE f b p pat 8000).isSome=(eM f b p pat).isSome:=by
 unfold eM;rw[if_pos h];by_cases h26:pat=26\/pat=30
 ·rcases Fh (f:=f) (b:=b) (p:=p) (pat:=pat) (t:=8000) (t':=0) h26 with⟨e1,e2⟩ | ⟨_,_,_,_,x,y,c2,c2',e1,e2,_⟩
  ·rw[e1,e2]
  rw[e1,e2];rfl
 rw[xj (t':=0) S0 S0]
theorem JJ{f:an}{b p t:Int}{x:FitD}(h:dE f b p pat t=Sj x):gp f:=by
 unfold dE at h;split at h
 ·rename_i c;simp only[OG]at c;exact lS c.2
 cases h
theorem zJ{l:List Int}{i:Nat}(h : ∀v∈l,0<=v):0<=nth l i:=by
 by_cases c:i<l.length
 ·exact h _ (aS c)
 rw[show nth l i=0 from by unfold nth;simp[O9 (by omega:l.length<=i)]];omega
theorem Bt{f:an}(m:gp f): ∀i∈du f,∀v∈i.args,0<=v:=λi hi v hv=>by obtain⟨b,k,hb,hk,rfl⟩:=iz.1 hi;exact mw m (dr hb hk) (by show(0:Int)<=(k:Int);omega) hv
theorem FA{f:an}(m:gp f){v:Int}: ∀w∈(aD f v op).1.args,0<=w:=by
 unfold aD;cases h:nS f v with
 | none=>intro w hw;cases hw
 | some i=>exact Bt m i (PW h)
def PosM (m:aZ):Prop:=0<=m.a/\0<=m.b/\0<=m.c
theorem sU{i:InsD}{pl:Int}{m:aZ}(hi : ∀v∈i.args,0<=v)(h:PosM m):PosM (gk i op pl m):=by
 obtain⟨h1,h2,h3⟩:=h;have:=zJ (i:=1) hi;unfold gk;split
 ·exact⟨h1,h2,h3⟩
 split
 ·exact⟨h1,this,h3⟩
 exact⟨h1,h2,this⟩
variable{temp:Int}
set_option maxHeartbeats 1000000 in
theorem Gq{f:an}{i:InsD}{x:FitD}(m:gp f)(hi : ∀v∈i.args,0<=v)(ht:0<=temp)(h:patS f i temp pat=Sj x): ∀c∈x.code,PosM c:=by
 have n : ∀k,0<=nth i.args k:=λk=>zJ hi;have nf : ∀v op k,0<=nth (aD f v op).1.args k:=λv op k=>zJ (FA m);have one : ∀c:aZ,PosM c->∀d∈[c],PosM d:=λc hc d hd=>by rw[OC.1 hd];exact hc
 have im : ∀{mo lo hi' sg:Int},immS f i mo lo hi' sg=Sj x->∀c∈x.code,PosM c:=λh=>by
  unfold immS at h;split at h
  ·cases h;exact one _ ⟨n 0,O5 0,O5 0⟩
  cases h
 have me : ∀{op pl su:Int} {k:Nat},memS f i temp op pl su k=Sj x->∀c∈x.code,PosM c:=fun{op pl su k} h=>by
  match k with
  | 0=>
   simp only[memS]at h;split at h
   ·cases h;exact one _ (sU hi ⟨n 0,O5 0,O5 0⟩)
   cases h
  | 1=>
   simp only[memS]at h;split at h
   ·split at h
    ·cases h;exact one _ (sU hi ⟨nf _ _ 0,O5 0,O5 0⟩)
    cases h
   cases h
  | 2=>
   simp only[memS]at h;split at h
   ·cases h;exact one _ (sU hi ⟨nf _ _ 0,nf _ _ 1,O5 0⟩)
   cases h
  | k+3=>
   simp only[memS]at h;cases h;intro c hc;rcases OQ.1 hc with rfl | hc
   ·exact⟨O5 0,O5 0,O5 0⟩
   exact one _ (sU hi ⟨n 0,ht,O5 0⟩) c hc
 unfold patS at h;split at h
 ·generalize pat.toNat=p at *;unfold doS at h;by_cases c1:p=1
  ·rw[if_pos c1]at h;split at h
   ·cases h;exact one _ ⟨O5 0,O5 0,O5 0⟩
   cases h
  rw[if_neg c1]at h;by_cases c2:p=2
  ·rw[if_pos c2]at h;cases h;exact one _ ⟨O5 0,O5 0,O5 0⟩
  rw[if_neg c2]at h;by_cases c3:p<=15
  ·rw[if_pos c3]at h;cases h;exact one _ ⟨n 0,n 1,O5 0⟩
  rw[if_neg c3]at h;by_cases c4:p=16
  ·rw[if_pos c4]at h;exact im h
  rw[if_neg c4]at h;by_cases c5:p=17
  ·rw[if_pos c5]at h;exact im h
  rw[if_neg c5]at h;by_cases c6:p=18
  ·rw[if_pos c6]at h;exact im h
  rw[if_neg c6]at h;by_cases c7:p<=21
  ·rw[if_pos c7]at h;exact im h
  rw[if_neg c7]at h;by_cases c8:p=22
  ·rw[if_pos c8]at h;split at h
   ·cases h;exact one _ ⟨nf _ _ 0,nf _ _ 1,n 1⟩
   cases h
  rw[if_neg c8]at h;by_cases c9:p<=26
  ·rw[if_pos c9]at h;exact me h
  rw[if_neg c9]at h;by_cases c10:p<=30
  ·rw[if_pos c10]at h;exact me h
  rw[if_neg c10]at h;by_cases c11:p=31
  ·rw[if_pos c11]at h;cases h;exact one _ ⟨O5 0,O5 0,O5 0⟩
  rw[if_neg c11]at h;cases h;exact one _ ⟨n 0,n 1,O5 0⟩
 cases h
theorem JS{f:an}{b k:Nat}{t:Int}{x:FitD}(ht:0<=t)(hb:b<f.blocks.length)(hk:k<(nth f.blocks b).ins.length)(h:dE f b k pat t=Sj x): ∀c∈x.code,PosM c:=by
 have m:=JJ h;unfold dE at h;split at h
 ·have es:dI f b k t=⟨f,nth (nth f.blocks b).ins k,mG,Sr,t⟩:=by unfold dI;rw[show((b:Int)).toNat=b by omega,if_neg S0];rfl
  rw[es]at h;exact Gq m (Bt m _ (iz.2 ⟨b,k,hb,hk,rfl⟩)) ht h
 cases h
theorem LQ{W:View}{v:Value}{l:List I32}(hs:SlRd W v l): ∃us,Bn.ev .hi v (Sf Sg (if(10:Int)<l.length then 10 else l.length))=Sj us/\SlRd W us (l.take 10):=by
 by_cases q:(10:Int)<l.length
 ·obtain⟨u,h2,h3⟩:=hs.take (n:=10) S0 (kd:=.i64);exact⟨u,by rw[if_pos q];exact h2,h3⟩
 obtain⟨u,h2,h3⟩:=hs.take (n:=l.length) S0 (kd:=.i64);refine⟨u,by rw[if_neg q];exact h2,?_⟩;rw[OK S0];rw[OK (OA _)]at h3;exact h3
set_option maxHeartbeats 2000000 in
theorem Ax{s:List Int}{a:Int × Int}{l:List I32}{vs va vl:Value}{h:Heap}(ht:Tab h)(hM:ll)(hs:SlRd (vw h) vs s)(ha:Rd (vw h) va a)(hl:SlRd (vw h) vl l):
  aw Ss 10 #[vs,va,vl] h (λu h'=>u = .bool Sq/\(vw h).le (vw h')):=by
 refine aj (args:=[vs,va,vl]) follows Tryz.func10 E.cw S8 λK hK=>?_;dsimp only[L.cw,lkF,lkG];have c0:=Cx.start (h:=h) (View.le_refl (vw h));refine ab λz hz=>?_;simp;refine c0.dc rfl ha λA h1 W1 hW1 c1 at1 hle1=>?_;subst hz;refine ab λz hz=>?_;simp;refine af R9 (Gk (ht.mono c1.le0)) ?_;rintro _ h3 ⟨hle3,rfl⟩;have c3:=c1.ext hle3;have hW3:=c1.up (h':=h3);subst hz;refine ab λz hz=>?_;simp;refine af R9 (Hk (hs.mono c3.le0)) ?_;rintro uf h4 ⟨hle4,rf⟩;have l04:(vw h).le (vw h4):=Sc c3.le0 hle4;have at1:=at1.mono (Sc hW3 (Sc c3.wle hle4));have hl4:=hl.mono l04;clear c0 c1 c3 hW1 hW3 hle1 hle3 hs ha hl;have him:=wE rf;have hright:kq (jF (s.take 200))=true:=by unfold kq;rw[Fj];rfl
 have hmay:gp (jF (s.take 200)):=AR;obtain⟨f,hf⟩ : ∃f,f=jF (s.take 200):=⟨_,rfl⟩;rw[<-hf]at rf him hright hmay;have hsm:SmF f:=by rw[hf];exact Jn
 have hfl:=G8 (s:=s.take 200);rw[<-hf]at hfl;clear hf;refine dv (X:=vw h4) (z:=zz4) R9 rfl R9 rf S3 S3 λh5 hle5 _ at5=>?_;have at5:=at5 (vw h5) hle5 rfl;generalize h4.size=F at at5;have at1:=at1.mono hle5;have hl5:=hl4.mono hle5;have l05:=Sc l04 hle5;clear rf hl4;subst hz;refine ab λz hz=>?_;obtain⟨us,eu,su⟩:=LQ hl5;have w5:Owns (vw h5) h5 (λ_=>Sk):=Owns.start Sb;simp[hl5.len,eu];refine w5.Gh (k2:=(0,1)) (d:=(⟨7⟩:I32)) rfl El.oe S1 rfl (u:=Sf Si 7) (zV.2 ⟨rfl,by decide⟩) su S7 S7 (λ_=>rfl) (λ_=>rfl) λ_ vw2 h6 W6 hW6 w6 s6=>?_;have l56:(vw h5).le (vw h6):=Sc hW6 w6.wle;have s6:=s6.mono w6.wle;obtain⟨ws,hws⟩ : ∃ws:List I32,ws=⟨7⟩::l.take 10:=⟨_,rfl⟩;rw[<-hws]at s6;have hn:0<ws.length:=by rw[hws];simp
 clear hws su eu hl5 w6 hW6 w5;have at1:=at1.mono l56;have at5:=at5.mono l56;have l06:=Sc l05 l56;clear us;obtain⟨uF,hF,rF⟩:=at5.ldN rfl (N:=2) rfl;subst hz;obtain⟨p0,p1,pr0,pr1⟩:=HL at1;obtain⟨vb,fb,hvb⟩:=(at5.part an.sM).sl;have fb:ak (vw h6) ⟨F,1,Sk⟩=Sj vb:=by simpa using fb
 obtain⟨r1,e1,l1⟩:=KK (x:=a.1);obtain⟨r2,e2,l2⟩:=KK (x:=a.2);obtain⟨b,hb⟩ : ∃b:Nat,b=r1 % f.blocks.length:=⟨_,rfl⟩;have hbl:b<f.blocks.length:=by rw[hb];exact Nat.mod_lt _ S0
 have eR : ∀(x m:Nat),0<m->Bn.ev (.div .rem) (Sf Sg (x:Int)) (Sf Sg (m:Int))=Sj (Sf Sg ((x % m:Nat):Int)):=λx m hm=>by rw[LS S0];rfl
 have x0 : ∀X,Bn.ev (.aidx 2 1) (ptz X) (Sf Sg 0)=Sj (ptz X):=λ_=>rfl;have x1 : ∀X,Bn.ev (.aidx 2 1) (ptz X) (Sf Sg 1)=Sj (Sp (Sj ⟨X,1,Sk⟩)):=λ_=>rfl;refine ab λz hz=>?_;simp[x0,x1,p0,fb,e1,hvb.len,eR r1 f.blocks.length S0,<-hb];subst hz;have qb:=hvb.idxn (k:=.i64) (N:=6) rfl (i:=(b:Int)) S0 S0;have n6:Rep.n BlkD=6:=rfl;obtain⟨ux,hux,rux⟩:=(hvb.at hbl).ldN rfl (N:=6) rfl;have hux:=hux _ Sb;simp[n6]at qb hux;refine ab λz hz=>?_;simp[fb,qb,hux];refine dv (X:=vw h6) (z:=zz3) R9 rfl R9 rux S3 S3 λh7 hle7 _ at7=>?_;have at7:=at7 (vw h7) hle7 rfl;generalize h6.size=X at at7;obtain⟨vin,cin,sin⟩:=(at7.part BlkD.mB).list;simp at cin;rw[<-ay hbl]at sin;have p1:=ae hle7 p1;have hF7:=λK (q:(vw h7).le K)=>hF K (Sc hle7 q);have rF7:=rF.mono hle7;have s7:=s6.mono hle7;have l07:=Sc l06 hle7;have ht7:=ht.mono l07;clear at1 at5 at7 rux qb rF hF fb hvb p0 pr0 s6 hle7 l06 l05 l04 l56 ht hle4 hle5;have hsb:=(hsm.blk b hbl).ins;subst hz;refine ab λz hz=>?_;by_cases hi0:(nth f.blocks b).ins.length=0
 ·refine dU S2 (by simp[cin,sin.len,hi0]) ?_;simp;exact hK _ _ ⟨rfl,l07⟩
 refine dJ S2 (by simp[cin,sin.len];exact λe=>hi0 (by rw[e];rfl)) ?_;try simp
 subst hz;obtain⟨i,hi⟩ : ∃i:Nat,i=r2 % (nth f.blocks b).ins.length:=⟨_,rfl⟩;have hil:i<(nth f.blocks b).ins.length:=by rw[hi];exact Nat.mod_lt _ S0
 refine ab λz hz=>?_;simp[x1,p1,e2,cin,sin.len,eR r2 _ (show 0<(nth f.blocks b).ins.length by omega),<-hi];subst hz;clear e1 e2 l1 l2 eR hb hi r1 r2 p1 x0 x1 pr1;have qi:=sin.idxn (k:=.i64) (N:=5) rfl (i:=(i:Int)) S0 S0;have c0:=((sin.at hil).part InsD.tB).int;obtain⟨ui,hui,rui⟩:=(sin.at hil).ldN rfl (N:=5) rfl;have n5:Rep.n InsD=5:=rfl;simp[n5]at qi c0 hui;rw[<-ay hil]at c0 rui;refine ab λz hz=>?_;by_cases hop:(nth (nth f.blocks b).ins i).op=17\/(nth (nth f.blocks b).ins i).op=18
 ·refine dU S2 (by rcases hop with e | e<;>simp[cin,qi,c0,e]) ?_;simp;exact hK _ _ ⟨rfl,l07⟩
 have o17:¬(nth (nth f.blocks b).ins i).op=17:=λe=>hop (.inl e);have o18:¬(nth (nth f.blocks b).ins i).op=18:=λe=>hop (.inr e);refine dJ S2 (by simp[cin,qi,c0,o17,o18]) ?_;try simp
 subst hz;refine ab λz hz=>?_;simp;subst hz;refine ab λz hz=>?_;simp;refine FF [2,7,8,9,10,11,12,13] (fun(s:Bool) k=>[vw2,.bool Sq,ptz F,Sf Sg b,ptz X,Sf Sg i,.bool s,Sf Sg ((k:Int)+1)])
  (λs k h=>(vw h7).le (vw h)/\∀p:Nat,1<=p->p<=k->(eM f b i p).isSome=Sq->s=Sq) 37 Sr rfl ⟨View.le_refl _,λp h1 h2=>by omega⟩ ?_;rintro so k h8 hk ⟨hle8,hso⟩ K2 hK2;dsimp only[L.cw.l1,lkF,lkG];have ht8:=ht7.mono hle8;refine ab λy hy=>?_;refine ab λw hw=>?_;simp;refine af R9 (rA ht8) ?_;rintro _ h9 ⟨hle9,rfl⟩;simp;subst hw;have l9:=Sc hle8 hle9;by_cases ck:k<37
 ·have ck2:(k:Int)+1<=37:=by omega
  have ewk:IntKind.i64.wrap ((k:Int)+1+1)=(k:Int)+1+1:=bC S0 S0;simp[ck2];subst hy;refine ab λy hy=>?_;refine ab λw hw=>?_;simp[hF7 _ l9];refine af R9 (Bm (b:=(b:Int)) (p:=(i:Int)) (pat:=(k:Int)+1) (W:=vw h9) Sb (rF7.mono l9) hsm (λ_ _ _=>hM) (by constructor<;>omega)) ?_;rintro _ h10 ⟨hle10,v1,v2,rfl,s1,s2⟩;simp;subst hw;have l10:=Sc l9 hle10;refine ab λw hw=>?_;simp[hF7 _ l10];refine af R9 (Er (b:=(b:Int)) (p:=(i:Int)) (pat:=(k:Int)+1) (temp:=8000) (W:=vw h10) Sb (rF7.mono l10) hsm (λ_ _ _=>hM) S4 S4) ?_;rintro _ h11 ⟨hle11,u1,u2,rfl,su1,ru2⟩;simp;refine dv (X:=vw h11) (z:=.agg endZ.toArray) R9 rfl R9 ru2 S3 S3 λh12 hle12 _ at12=>?_;have l11:=Sc l10 hle11;have l12:=Sc l11 hle12;have s2:=s2.mono (Sc hle11 hle12);have su1:=su1.mono hle12;clear at12 ru2 s1;subst hw;rw[Bb S0];refine ab λw hw=>?_;have lc:=su1.len (K:=vw h12);generalize hms:(eM f b i ((k:Int)+1)).isSome=q at *;simp;subst hw;refine ab λw hw=>?_;by_cases cq:q=Sq/\(tG (dE f b i ((k:Int)+1) 8000)).length=1
  ·obtain⟨rfl,c1⟩:=cq;obtain⟨y0,ey⟩:=Qq.1 hms;obtain⟨x0,ex⟩:=Qq.1 ((Bb (f:=f) (b:=b) (p:=i) (pat:=(k:Int)+1) S0).trans hms);rw[ex]at c1 su1 lc;rw[ey]at s2;have c1:x0.code.length=1:=c1;have su1:SlRd (vw h12) u1 x0.code:=su1;have s2:SlRd (vw h12) v2 y0.inner:=s2;have lc:Un.ev (vw h12) Un.len u1=Sj (Sf Sg x0.code.length):=lc;rw[c1]at lc;obtain⟨r,m1,m2⟩:=F2 (ws:=ws) hsm him hbl hil ⟨o17,o18⟩ ey ex c1;have hpos:=JS S0 hbl hil ex;have h0:0<x0.code.length:=by omega
   obtain⟨g1,g2,g3⟩:=hpos _ (PD h0);rw[ay h0]at m1;have q0:=su1.idxn (k:=.i64) (N:=8) rfl (i:=0) S0 S0;obtain⟨um,hum,rum⟩:=(su1.at h0).ldN rfl (N:=8) rfl;have hum:=hum _ Sb;simp at q0 hum;refine dJ S2 (by simp[lc]) ?_;try simp
   subst hw;refine ab λw hw=>?_;simp;subst hw;refine ab λw hw=>?_;simp[q0,hum];refine af R9 (JZ rum (s7.mono l12) hn g1 g2 g3) ?_;rintro _ h13 ⟨rfl,hle13⟩;rw[m1];simp;subst hw;have l13:=Sc l12 hle13;refine aO (vw h13) Sb ?_;simp[hF7 _ l13,ae l13 cin,qi,hui _ l13];refine af R9 (Gf (W:=vw h12) hbl hsm s2 (s7.mono l12) hn (nth (nth f.blocks b).ins i) ui r uF h13 (rui.mono l13) hle13 (rF7.mono l13) m2) ?_;rintro _ h14 ⟨rfl,hle14⟩;try simp
   refine⟨hle14,?_⟩;try simp
   subst hy;simp[ewk];exact hK2 Sq _ _ ck rfl ⟨Sc l13 hle14,λ_ _ _ _=>rfl⟩
  have ht105:(!q||decide ¬((tG (dE f b i ((k:Int)+1) 8000)).length:Int)=1)=true:=by
   cases q with
   | false=>rfl
   | true=>have:¬(tG (dE f b i ((k:Int)+1) 8000)).length=1:=λe=>cq ⟨rfl,e⟩;simp;omega
  refine dU S2 (by cases q<;>simp[lc]at ht105 ⊢<;>exact ht105) ?_;simp;subst hy;simp[ewk];refine hK2 (so||q) _ _ ck rfl ⟨l12,λp h1 h2 h3=>?_⟩;by_cases e:p=k+1
  ·subst e;rw[show((k+1:Nat):Int)=(k:Int)+1 by omega,hms]at h3;simp[h3]
  rw[hso p h1 S0 h3];rfl
 have ck2:¬(k:Int)+1<=37:=by omega
 obtain⟨p,g1,g2,g3⟩:=C7 hmay hright hbl hil;have hst:so=true:=hso p g1 S0 g3;subst hst;simp[ck2];subst hz;simp;exact hK _ _ ⟨rfl,Sc l07 l9⟩
end Go.Proofs.YtnfiilgdjpdlkaaGreatDoor
