/- A part of the proof: Md, Me, Mf, Mg, Mh, Mi, Mj, Mk, Ml, Mm, Mn, Mo, Mp, Mq, Mr, Ms, Mt, Mu, Mv, Mw, Mx, My. -/
import Derived.Test.YtnfiilgdjpdlkaaGreatDoorZTRaw4
set_option linter.unusedSimpArgs false
set_option linter.unusedVariables false
open Go.Value renaming int->RG,slice->RL,pointer->RM
open Go.IntKind renaming i64->RH,i32->RI
open Option renaming some->RJ,none->RK
open Bool renaming true->RN,false->RO
open Go.Proofs.Tryz renaming prog->RP
namespace Go.Proofs.YtnfiilgdjpdlkaaGreatDoor
open Go Go.Lft
section
variable{b:Nat}
theorem Cz{H:View}{n:Nat}{cs:List Value}(hc:jf H ⟨b,0,RK⟩ cs)(hl:cs.length=n):Un.ev H (.aZ n) (RM (RJ ⟨b,0,RK⟩))=RJ (.agg cs.toArray):=by have:=gj hc n 0 #[] R3;simp only[Un.ev,vP,Ov];rw[this];simp[<-hl]
theorem E9{H:View}{n:Nat}{cs:Array Value}{t:TypeId}(hb:H b=RJ (.cells cs t (0,0)))(hl:cs.size=n):Un.ev H (.aZ n) (RM (RJ ⟨b,0,RK⟩))=RJ (.agg cs):=by have:jf H ⟨b,0,RK⟩ cs.toList:=⟨cs,t,(0,0),rfl,hb,by simp[NY]⟩;simpa using Cz this (by simpa using hl)
variable{vs vb vl:Value}{lb:List BlkM}
theorem MkB.KT{s:List Int}{M:Nat}{W:View}{h:Heap}{o:Own}{m:MS}(w:Owns W h o)(b:MkB M vs m o vb vl lb):
  ∃X:View,W.le X/\X.le (vw h)/\(∀i,i<=5->an X ⟨M,i,RK⟩=RJ ((mkL vs m.at_ m.ps vb m.next vl).getD i undef))/\SlRd X vb lb/\Av X vl/\∀i,i<m.blocks.length->Av X (nth lb i).phis.v/\Av X (nth lb i).ins.v:=by obtain⟨w5,s5⟩:=w.freeze (k:=(0,0)) (v:=RL (RJ ⟨M,0,RK⟩) 1 1) (l:=[RawN.mk (n:=5) (mkL vs m.at_ m.ps vb m.next vl)]) b.box;have hb2:o.upd (0,0) RK (0,2)=it T.fy vb lb:=b.blk;obtain⟨w6,s6⟩:=w5.freeze (k:=(0,2)) (v:=vb) (l:=lb) hb2;have s5:=s5.mono (jJ (h:=h) (w5.av (0,2) _ hb2));refine⟨_,RE (jJ (h:=h) (w.av (0,0) _ b.box)) (jJ (h:=h) (w5.av (0,2) _ hb2)),w6.wle,λi hi=>?_,s6,w6.av (0,1) _ b.live,λi hi=>⟨w6.av (1,i) _ (b.phis i hi),w6.av (2,i) _ (b.ins i hi)⟩⟩;have:=((s5.at (i:=0) Sa).part (RawN.p (n:=5) (o:=i) hi)).raw;simpa[slA]using this
variable {s:List Int} {M:Nat} {vs:Value} {W:View} {h:Heap} {o:Own} {m:MS}
theorem MkB.cell(w:Owns W h o)(b:MkB M vs m o vb vl lb){i:Nat}(hi:i<=5):an (vw h) ⟨M,i,RK⟩=RJ ((mkL vs m.at_ m.ps vb m.next vl).getD i undef):=w.raw b.box hi
theorem MkB.gQ(bb:MkB M vs m o vb vl lb)(hb:b<m.blocks.length){x':BlkD}{y':BlkM}{o':Own}(hy:y'.term=x'.term)(h02:o' (0,2)=it T.fy vb (lb.set b y'))(h1:o' (1,b)=it T.pC y'.phis.v x'.phis)(h2:o' (2,b)=it T.dR y'.ins.v x'.ins)(ho : ∀q:Key,q≠(0,2)->q≠(1,b)->q≠(2,b)->o' q=o q):MkB M vs { m with blocks:=m.blocks.set b x' } o' vb vl (lb.set b y'):=by
 have hbl:b<lb.length:=by rw[bb.len];exact hb
 refine⟨(ho _ Sa Sa Sa).trans bb.box,(ho _ Sa Sa Sa).trans bb.live,h02,by simp[bb.len],λj hj=>?_,λj hj=>?_,λj hj=>?_⟩;all_goals
  have hj:j<m.blocks.length:=by simpa using hj
  have hjl:j<lb.length:=by rw[bb.len];exact hj
  show _=_
  simp only[bN hj,bN hjl]
  by_cases e:b=j
  ·subst e
   simp only[if_true]
   assumption
  ·simp only[if_neg e]
   first
    | exact bb.term j hj
    | exact(ho _ Sa (λq=>e (by injection q with _ q;exact q.symm)) Sa).trans (bb.phis j hj)
    | exact(ho _ Sa Sa (λq=>e (by injection q with _ q;exact q.symm))).trans (bb.ins j hj)
theorem Mk.value(w:Mk s M vs W h o m)(h1:m.at_<=999999990)(hl:m.live.length<=1000000000):
  az RP 124 #[RM (RJ ⟨M,0,RK⟩)] h (λu h'=>(m.live.length=0/\u = .tuple #[RG RH 0,.bool RO]/\h'=h)\/(m.live.length≠0/\u = .tuple #[RG RH (y8 s m),.bool RN]/\I64 (y8 s m)/\∃o',Mk s M vs W h' o' m.took.took/\∀k:Key,3<=k.1->o' k=o k)):=by
 refine ao (args:=[RM (RJ ⟨M,0,RK⟩)]) follows Tryz.func124 E.iK RB λK hK=>?_;obtain⟨vb,vl,lb,b⟩:=w.box;have c5:an (vw h) ⟨M,5,RK⟩=RJ vl:=b.cell w.own (i:=5) R4;have hsl:=w.own.now b.live;dsimp only[L.iK,lkF,lkG];refine aa λz hz=>?_;simp;subst hz;refine aa λz hz=>?_;by_cases h0:m.live.length=0
 ·have h0':m.live=[]:=N3 h0;simp[c5,hsl.len,h0];exact hK _ _ (.inl ⟨h0,rfl,rfl⟩)
 have h0':¬(m.live=[]):=λe=>h0 (by rw[e];rfl);simp[c5,hsl.len,h0'];subst hz;refine aa λz hz=>?_;simp[c5,hsl.len];refine ah R1 (w.take R3 (n:=(m.live.length:Int)) R3 R3) ?_;rintro _ h2 ⟨rfl,o2,w2,f2⟩;subst hz;refine aa λz hz=>?_;simp;refine ah R1 (w2.take (show m.at_+1<=_ by omega) (n:=3) R4 R4) ?_;rintro _ h3 ⟨rfl,o3,w3,f3⟩;have hx:m.took.at_=m.at_+1:=rfl;rw[hx];have hf : ∀k:Key,3<=k.1->o3 k=o k:=λk hk=>(f3 k hk).trans (f2 k hk);have hv:y8 s m=_:=y8.eq_1 s m;obtain⟨vb3,vl3,lb3,b3⟩:=w3.box;have c53:an (vw h3) ⟨M,5,RK⟩=RJ vl3:=b3.cell w3.own (i:=5) R4;have hsl3:SlRd (vw h3) vl3 m.live:=w3.own.now b3.live;obtain⟨r0,r1⟩:=di (s:=s) (at_:=m.at_) (n:=(m.live.length:Int)) R3;generalize aR s m.at_ m.live.length=x at hv r0 r1;generalize aR s (m.at_+1) 3=q at hv;obtain⟨i,hi,hvi,hii⟩ : ∃i:Nat,i<m.live.length/\y8 s m=nth m.live i/\(i:Int)=if q=0 then(m.live.length:Int)-1 else x:=by
  by_cases c:q=0
  ·rw[if_pos c]at hv ⊢;exact⟨m.live.length-1,by omega,hv,by omega⟩
  rw[if_neg c]at hv ⊢;exact⟨x.toNat,by omega,hv,by omega⟩
 have h64:IntKind.i64.wrap ((m.live.length:Int)-1)=(m.live.length:Int)-1:=bh R3 R3;have fin : ∀ρ:Env,ρ=[(0,RM (RJ ⟨M,0,RK⟩)),(2,RG RH 0),(3,.bool RO),(4,RG RH i),(17,RG RH x),(19,RG RH q)]->LC.wp RP z (cO [.tmp 2,.tmp 3] K) ρ h3:=by rintro _ rfl;subst hz;refine aa λz hz=>?_;simp(disch:=omega)[c53,hsl3.idx1 rfl,hsl3.int RD];subst hz;simp;exact hK _ _ (.inr ⟨h0,by rw[hvi],by rw[hvi];exact hsl3.range hi,o3,w3,hf⟩)
 by_cases c:q=0
 ·rw[if_pos c]at hii;simp[c,c53,hsl3.len,h64];refine fin _ ?_;rw[hii,c]
 rw[if_neg c]at hii;simp[c];refine fin _ ?_;rw[hii]
theorem Mk.add (w:Mk s M vs W h o m) {b:Nat} {i:InsD} {v:Value} (hb:b<m.blocks.length) (hi:Rd W v i) (hn:(nth m.blocks b).ins.length<=100000000) (hl:m.live.length<=100000000) :
    az RP 89 #[RM (RJ ⟨M,0,RK⟩),RG RH b,v] h (λu h'=>Nx s M vs W h' o (m.add b i)):=by
  refine ao (args:=[RM (RJ ⟨M,0,RK⟩),RG RH b,v]) follows Tryz.func89 E.jD RB λK hK=>?_
  obtain⟨vb,vl,lb,bb⟩:=w.box
  obtain⟨va,rfl,hir,hia⟩:=JA hi
  dsimp only[L.jD,lkF,lkG]
  refine aa λz hz=>?_
  simp
  refine fW rfl (hi.mono w.own.wle) λh1 e1 hle1 hs1 hat=>?_
  have w1:=w.own.ext hle1
  have hbx:(grow W h h1) h.size=RJ (.cells #[RG RH i.op,RG RH i.dst,RG RH i.two,va,RG RI i.imm.v] T.dR (0,0)):=by
    rw[ck (NO _),e1];simp[Value.cells]
  have hi1:=hi.mono (aW (h':=h1) w.own.wle)
  have src1:=w.src.mono (aW (h':=h1) w.own.wle)
  have hW1:=aW (h':=h1) w.own.wle
  clear hat e1
  have hld:=E9 hbx (n:=5) rfl
  generalize grow W h h1=W1 at w1 hld hi1 src1 hW1
  generalize h.size=B at hld
  subst hz
  refine aa λz hz=>?_
  obtain⟨X,hWX,hX,cX,sX,avl,avX⟩:=bb.KT (s:=s) w1
  have c3:an X ⟨M,3,RK⟩=RJ vb:=cX 3 R4
  have hbl:b<lb.length:=by rw[bb.len];exact hb
  have a1:=(sX.at hbl).part BlkM.jY
  have hsv:=sX.bound
  have a2:an X (((slA vb).add (b*6)).add 1)=RJ (nth lb b).ins.v:=by rw[aA hbl];exact a1.raw
  have hldX:Un.ev X (.aZ 5) (RM (RJ ⟨B,0,RK⟩))=RJ (.agg #[RG RH i.op,RG RH i.dst,RG RH i.two,va,RG RI i.imm.v]):=by
    have:=dk (ρ:=λ_=>RK) (e:=.un (.aZ 5) (.con (RM (RJ ⟨B,0,RK⟩)))) hWX (by simpa using hld)
    simpa using this
  refine aH X hX ?_
  simp(disch:=omega)[c3,sX.idxn (N:=6) rfl,a2,hldX]
  refine oh (α:=InsD) (W:=W1) (d:=i) El.oM rfl hi1 λu5 h5 src hle5 hs5=>⟨RE hX hle5,?_⟩
  refine(w1.ext' hle5).dU (k:=(2,b)) (α:=InsD) (v:=(nth lb b).ins.v) (l:=(nth m.blocks b).ins) (l2:=[i]) (bb.ins b hb) El.oM rfl rfl src R9 R9 λv6 h6 w6 m6=>⟨(m6.view (RE hX hle5) (avX b hb).2).1,?_⟩
  have hv6:=(w6.cells (k:=(2,b)) Own.aj).2
  refine w6.qW (k:=(0,2)) (α:=BlkM) BlkM.jY (v:=vb) (l:=lb) (i:=b) (d:=⟨v6⟩) bb.blk R1 rfl rfl hbl (om.2 ⟨rfl,hv6⟩) λh7 w7 _=>?_
  have b7:=bb.gQ hb (x':={ nth m.blocks b with ins:=(nth m.blocks b).ins++[i] }) (y':={ lb[b]with ins:=⟨v6⟩ }) (o':=(o.upd (2,b) (it T.dR v6 ((nth m.blocks b).ins++[i]))).upd (0,2) (it T.fy vb (lb.set b { lb[b]with ins:=⟨v6⟩ }))) (by rw[<-bb.term b hb,aA hbl]) Own.aj (by rw[<-aA hbl];exact bb.phis b hb) ((Own.aB Sa).trans Own.aj) (λq h1 h2 h3=>by rw[Own.aB h1,Own.aB h3])
  generalize hm7:({ m with blocks:=m.blocks.set b { nth m.blocks b with ins:=(nth m.blocks b).ins++[i] } }:MS)=m7 at b7
  have hadd:m.add b i={ m7 with live:=m.live++cT i }:=by rw[<-hm7];rfl
  have hl7:m7.live=m.live:=by rw[<-hm7]
  have hf7 : ∀k:Key,3<=k.1->((o.upd (2,b) (it T.dR v6 ((nth m.blocks b).ins++[i]))).upd (0,2) (it T.fy vb (lb.set b { lb[b]with ins:=⟨v6⟩ }))) k=o k:=λk hk=>by
    rw[Own.aB (by rintro rfl;simp at hk),Own.aB (by rintro rfl;simp at hk)]
  generalize (o.upd (2,b) (it T.dR v6 ((nth m.blocks b).ins++[i]))).upd (0,2) (it T.fy vb (lb.set b { lb[b]with ins:=⟨v6⟩ }))=o7 at w7 b7 hf7
  generalize lb.set b { lb[b]with ins:=⟨v6⟩ }=lb7 at b7
  clear src avX m6
  subst hz
  refine aa λz hz=>?_
  have hld7:Un.ev (vw h7) (.aZ 5) (RM (RJ ⟨B,0,RK⟩))=RJ (.agg #[RG RH i.op,RG RH i.dst,RG RH i.two,va,RG RI i.imm.v]):=by
    have:=dk (ρ:=λ_=>RK) (e:=.un (.aZ 5) (.con (RM (RJ ⟨B,0,RK⟩)))) w7.wle (by simpa using hld)
    simpa using this
  simp[hld7]
  refine ah R1 (qR (hi1.mono w7.wle)) ?_
  rintro u8 h8 ⟨hle8,hu8,-⟩
  have w8:=w7.ext hle8
  have hu8:SlRd (grow W1 h7 h8) u8 (cT i):=hu8.mono (xz (NO _) RD)
  have hW8:=aW (h':=h8) w7.wle
  generalize grow W1 h7 h8=W8 at w8 hu8 hW8
  subst hz
  have c58:an (vw h8) ⟨M,5,RK⟩=RJ vl:=b7.cell w8 (i:=5) R4
  have hmk:(cT i).length<=2:=by
                                         unfold cT;repeat' split
                                         all_goals simp
  simp[c58]
  refine w8.dU (k:=(0,1)) (α:=Int) (v:=vl) (l:=m.live) (l2:=cT i) (by rw[<-hl7];exact b7.live) El.aQ rfl rfl (hu8.src w8.wle) R3 R3 λv9 h9 w9 m9=>?_
  have hv9:=(w9.cells (k:=(0,1)) Own.aj).2
  have hbx9:(o7.upd (0,1) (it T.int v9 (m.live++cT i))) (0,0)=bx T.bu M (RawN.mk (n:=5) (mkL vs m7.at_ m7.ps vb m7.next vl)):=b7.box
  refine w9.dB (k:=(0,0)) (n:=5) (i:=5) (e:=T.bu) (B:=M) (l:=mkL vs m7.at_ m7.ps vb m7.next vl) hbx9 R4 R1 rfl rfl hv9 λh10 w10 _=>?_
  refine hK _ _ ⟨W8,_,RE hW1 hW8,⟨w10,src1.mono hW8,vb,v9,lb7,?_⟩,λk hk=>?_⟩
  · rw[hadd]
    exact⟨rfl,rfl,b7.blk,b7.len,b7.term,b7.phis,b7.ins⟩
  · rw[Own.aB (by rintro rfl;simp at hk),Own.aB (by rintro rfl;simp at hk)]
    exact hf7 k hk
end
section
structure MS.ok (c:Nat) (m:MS):Prop where
 at_:m.at_<=c
 n0:0<=m.next
 next:m.next<=c
 live:m.live.length<=c
 ins : ∀i,(nth m.blocks i).ins.length<=c
theorem MS.ok.mono{c d:Nat}{m:MS}(h:m.ok c)(hd:c<=d):m.ok d:=
 ⟨by have:=h.at_;omega,h.n0,by have:=h.next;omega,by have:=h.live;omega,λi=>by have:=h.ins i;omega⟩
theorem MS.ok.took {c:Nat} {m:MS} (h:m.ok c):m.took.ok (c+1):=
 ⟨by have:=h.at_;show m.at_+1<=_;omega,h.n0,by have:=h.next;show m.next<=_;omega,by have:=h.live;show m.live.length<=_;omega,λi=>by have:=h.ins i;show(nth m.blocks i).ins.length<=_;omega⟩
theorem MS.ok.aS {c:Nat} {m:MS} (h:m.ok c):m.aS.ok (c+1):=
 ⟨by have:=h.at_;show m.at_<=_;omega,by have:=h.n0;show 0<=m.next+1;omega,by have:=h.next;show m.next+1<=_;omega,by have:=h.live;show m.live.length<=_;omega,λi=>by have:=h.ins i;show(nth m.blocks i).ins.length<=_;omega⟩
theorem F6{i:InsD}:(cT i).length<=2:=by
 unfold cT;repeat' split
 all_goals simp
theorem MS.ok.add {c b:Nat} {m:MS} {i:InsD} (h:m.ok c):(m.add b i).ok (c+2):=by
 refine⟨by have:=h.at_;show m.at_<=_;omega,h.n0,by have:=h.next;show m.next<=_;omega,?_,λj=>?_⟩
 ·have:=h.live;have:=F6 (i:=i);show(m.live++cT i).length<=_;rw[N1];omega
 show(nth (m.blocks.set b _) j).ins.length<=_;have hj:=h.ins j;rcases NQ j m.blocks.length with hl | hl
 ·rw[bN hl];split
  ·rename_i e;subst e;rw[N1,OC];omega
  omega
 rw[dp (by simpa using hl)];rw[dp hl]at hj;omega
theorem MS.ok.constant {c b:Nat} {m:MS} {n:Int} (h:m.ok c):(m.constant b n).ok (c+3):=h.aS.add
theorem MS.ok.two {c b:Nat} {m:MS} {op x y:Int} (h:m.ok c):(m.two b op x y).ok (c+3):=h.aS.add
variable {s:List Int} {M:Nat} {vs:Value} {W:View} {h:Heap} {o:Own} {m:MS}
theorem MS.ok.aT {c b:Nat} (h:m.ok c):(aT s m b).2.ok (c+10):=by
 unfold Go.Proofs.YtnfiilgdjpdlkaaGreatDoor.aT;repeat' split
 ·exact(h.took.took.constant).mono R3
 ·exact(h.took.took.took.took.took.constant).mono R3
 exact(h.took.took.took).mono R3
variable{b:Nat}
theorem nR{i:InsD}:(m.add b i).blocks.length=m.blocks.length:=by simp[MS.add]
theorem ep:(aT s m b).2.blocks.length=m.blocks.length:=by
 unfold aT;repeat' split
 all_goals simp[Eu,MS.constant,nR,MS.took,MS.aS]
theorem Mk.constant (w:Mk s M vs W h o m) {b c:Nat} {n:Int} (hb:b<m.blocks.length) (hm:m.ok c) (hc:c<=1000000) (hn:-2147483648<=n/\n<=2147483647) :
  az RP 58 #[RM (RJ ⟨M,0,RK⟩),RG RH b,RG RI n] h (λu h'=>u = RG RH m.next/\Nx s M vs W h' o (m.constant b n)):=by refine ao (args:=[RM (RJ ⟨M,0,RK⟩),RG RH b,RG RI n]) follows Tryz.func58 E.gn RB λK hK=>?_;have q1:=hm.next;have q0:=hm.n0;dsimp only[L.gn,lkF,lkG];refine aa λz hz=>?_;simp;subst hz;refine aa λz hz=>?_;simp;refine ah R1 (w.fresh q0 R3) ?_;rintro _ h2 ⟨rfl,o2,w2,f2⟩;subst hz;refine aa λz hz=>?_;simp;refine ak (z:=.agg #[RG RH 0,RG RH 0,RG RH 0,RL RK 0 0,RG RI 0]) (places:=[(0,1),(1,1),(2,1),(3,1),(4,1)]) (vs:=[(0,RG RH 1),(1,RG RH m.next),(4,RG RI n)]) (cs:=#[RG RH 1,RG RH m.next,RG RH 0,RL RK 0 0,RG RI n]) R1 R1 Sa R1 ?_;have hm2:=hm.aS;refine ah R1 (w2.add (i:=conD m.next n) hb (BT (imm:=⟨n⟩) ⟨⟨R4,R4⟩,R6,⟨R4,R4⟩,hn⟩ aE) (by have:=hm2.ins b;omega) (by have:=hm2.live;omega)) ?_;rintro u3 h3 n3;subst hz;simp;exact hK _ _ ⟨rfl,n3.trans RD f2⟩
theorem Ef(w:Mk s M vs W h o m){c:Nat}(hb:b<m.blocks.length)(hm:m.ok c)(hc:c<=999990):
  az RP 88 #[RM (RJ ⟨M,0,RK⟩),RG RH b] h (λu h'=>u = RG RH (aT s m b).1/\I64 (aT s m b).1/\Nx s M vs W h' o (aT s m b).2):=by
 refine ao (args:=[RM (RJ ⟨M,0,RK⟩),RG RH b]) follows Tryz.func88 E.jq RB λK hK=>?_;have qa:=hm.at_;have ql:=hm.live;have hsd:aT s m b=_:=aT.eq_1 s m b;dsimp only[L.jq,lkF,lkG];refine aa λz hz=>?_;simp;subst hz;refine aa λz hz=>?_;simp;refine ah R1 (w.value R3 R3) ?_;rintro u h2 hu;have con : ∀{m2:MS} {o2:Own} {h2:Heap} {ρ:Env} {z:LC},Mk s M vs W h2 o2 m2->(∀k:Key,3<=k.1->o2 k=o k)->m2.ok (c+3)->b<m2.blocks.length->aT s m b=(m2.next,Eu s m2 b)->Lft.look ρ 0=RJ (RM (RJ ⟨M,0,RK⟩))->Lft.look ρ 1=RJ (RG RH b)->
   LC.wp RP (.seq (.reg RO (.loud [19,20,21] [(19,(.tmp 0)),(20,(.tmp 1))] [(21,(.tmp 0))] RK [] RO (.call ⟨.value (.func 59),#[(.tmp 21)],#[T.rU]⟩) 21 (RJ 22) RN
   (.loud [] [] [(19,(.tmp 19)),(20,(.tmp 20)),(22,(.tmp 22))] RK [] RO (.call ⟨.value (.func 58),#[(.tmp 19),(.tmp 20),(.tmp 22)],#[T.rU,3,21]⟩) 3 (RJ 23) RN
    (.fin [4] [(4,(.tmp 23))] [])))) .ret) (eU (LC.wp RP z (cO [.tmp 4] K)) (cO [.tmp 4] K)) ρ h2:=by intro m2 o2 h2 ρ z w2 f2 k2 b2 e2 r0 r1;refine aa λy hy=>?_;simp[r0,r1];refine ah R1 (w2.word (by have:=k2.at_;omega)) ?_;rintro _ h3 ⟨rfl,o3,w3,f3⟩;simp[af,ag,r0,r1];refine ah R1 (w3.constant (n:=lL s m2) b2 k2.took.took R3 rC) ?_;rintro _ h4 ⟨rfl,n4⟩;subst hy;simp[af,ag];refine hK _ _ ⟨by rw[e2];rfl,by rw[e2];have:=k2.n0;have:=k2.next;exact⟨by show _<=m2.next;omega,by show m2.next<=_;omega⟩,?_⟩;rw[e2];exact n4.trans RD λk hk=>(f3 k hk).trans (f2 k hk)
 rcases hu with⟨h0,rfl,rfl⟩ | ⟨h0,rfl,hi64,o2,w2,f2⟩
 ·rw[if_pos h0]at hsd;simp;subst hz;refine aa λz hz=>?_;refine aa λy hy=>?_;simp;subst hy;refine aN Sa ?_;exact con w (λ_ _=>rfl) (hm.mono R3) hb hsd (by simp[af,ag]) (by simp[af,ag])
 rw[if_neg h0]at hsd;simp;subst hz;refine aa λz hz=>?_;refine aa λy hy=>?_;simp;have k2:=hm.took.took;refine ah R1 (w2.take (by have:=k2.at_;omega) (n:=9) R4 R4) ?_;rintro _ h3 ⟨rfl,o3,w3,f3⟩;have hx:m.took.took.at_=m.at_+2:=rfl;rw[hx];simp;subst hy;by_cases c9:aR s (m.at_+2) 9=0
 ·rw[if_pos c9]at hsd;refine aN (by simp[c9]) ?_;exact con w3 (λk hk=>(f3 k hk).trans (f2 k hk)) k2.took hb hsd (by simp[af,ag]) (by simp[af,ag])
 rw[if_neg c9]at hsd;refine aP (by simp[c9]) ?_;simp;subst hz;simp;refine hK _ _ ⟨by rw[hsd],by rw[hsd];exact hi64,?_⟩;rw[hsd];exact w3.nx.trans RD λk hk=>(f3 k hk).trans (f2 k hk)
end
def Nz (s:List Int) (M:Nat) (vs:Value) (W0:View) (h:Heap) (o0:Own) (m:MS) (u:Value) (ds:List Int):Prop:=∃W o,W0.le W/\Mk s M vs W h o m/\(∀k:Key,3<=k.1->o k=o0 k)/\SlRd W u ds
section
variable {s:List Int} {M:Nat} {vs:Value} {W0:View} {h:Heap} {o0:Own} {m:MS} {u:Value} {ds:List Int}
theorem Nx.z(n:Nx s M vs W0 h o0 m):Nz s M vs W0 h o0 m (RL RK 0 0) []:=by obtain⟨W,o,h1,h2,h3⟩:=n;exact⟨W,o,h1,h2,h3,aE⟩
theorem Nz.x(n:Nz s M vs W0 h o0 m u ds):Nx s M vs W0 h o0 m:=by obtain⟨W,o,h1,h2,h3,_⟩:=n;exact⟨W,o,h1,h2,h3⟩
theorem Nz.call{f:FuncId}{args:Array Value}{m':MS}{U:Value->Prop}(hc : ∀{W o},Mk s M vs W h o m->az RP f args h (λu h'=>U u/\Nx s M vs W h' o m'))(n:Nz s M vs W0 h o0 m u ds):
  az RP f args h (λv h'=>U v/\Nz s M vs W0 h' o0 m' u ds):=by obtain⟨W,o,h1,h2,h3,h4⟩:=n;refine(hc h2).mono ?_;rintro v h' ⟨hU,W',o',g1,g2,g3⟩;exact⟨hU,W',o',RE h1 g1,g2,λk hk=>(g3 k hk).trans (h3 k hk),h4.mono g1⟩
theorem fq(n:Nz s M vs W0 h o0 m u ds){c:Nat}(hm:m.ok c)(hc:c<=1000000){k:Int}(hk:0<k)(hk2:k<=1000000000):
  az RP 34 #[RM (RJ ⟨M,0,RK⟩),RG RH k] h (λv h'=>v = RG RH (aR s m.at_ k)/\Nz s M vs W0 h' o0 m.took u ds):=
 n.call (U:=λv=>v=_) λw=>((w.take (by have:=hm.at_;omega) hk hk2).mono λv h' ⟨e,o',w',f'⟩=>⟨e,w'.nx.trans RD f'⟩)
theorem hZ(n:Nz s M vs W0 h o0 m u ds){c:Nat}(hm:m.ok c)(hc:c<=1000000):
  az RP 52 #[RM (RJ ⟨M,0,RK⟩)] h (λv h'=>v = RG RH m.next/\Nz s M vs W0 h' o0 m.aS u ds):=
 n.call (U:=λv=>v=_) λw=>((w.fresh hm.n0 (by have:=hm.next;omega)).mono λv h' ⟨e,o',w',f'⟩=>⟨e,w'.nx.trans RD f'⟩)
theorem Af(n:Nz s M vs W0 h o0 m u ds){c:Nat}(hm:m.ok c)(hc:c<=1000000):
  az RP 59 #[RM (RJ ⟨M,0,RK⟩)] h (λv h'=>v = RG RI (lL s m)/\Nz s M vs W0 h' o0 m.took.took u ds):=
 n.call (U:=λv=>v=_) λw=>((w.word (by have:=hm.at_;omega)).mono λv h' ⟨e,o',w',f'⟩=>⟨e,w'.nx.trans RD f'⟩)
variable{b:Nat}
theorem gM(n:Nz s M vs W0 h o0 m u ds){c:Nat}(hb:b<m.blocks.length)(hm:m.ok c)(hc:c<=1000000){k:Int}(hk:-2147483648<=k/\k<=2147483647):
  az RP 58 #[RM (RJ ⟨M,0,RK⟩),RG RH b,RG RI k] h (λv h'=>v = RG RH m.next/\Nz s M vs W0 h' o0 (m.constant b k) u ds):=
 n.call (U:=λv=>v=_) λw=>w.constant hb hm hc hk
theorem je(n:Nz s M vs W0 h o0 m u ds){c:Nat}(hb:b<m.blocks.length)(hm:m.ok c)(hc:c<=999990):
  az RP 88 #[RM (RJ ⟨M,0,RK⟩),RG RH b] h (λv h'=>(v = RG RH (aT s m b).1/\I64 (aT s m b).1)/\Nz s M vs W0 h' o0 (aT s m b).2 u ds):=
 n.call (U:=λv=>v=_/\_) λw=>(Ef w hb hm hc).mono λv h' ⟨e1,e2,e3⟩=>⟨⟨e1,e2⟩,e3⟩
variable{op:Int}
theorem lS(n:Nz s M vs W0 h o0 m u ds){c:Nat}{d two imm:Int}(hb:b<m.blocks.length)(hm:m.ok c)(hc:c<=1000000)(h1:I64 op)(h2:I64 d)(h3:I64 two)(h4:-2147483648<=imm/\imm<=2147483647):
  az RP 89 #[RM (RJ ⟨M,0,RK⟩),RG RH b,.agg #[RG RH op,RG RH d,RG RH two,u,RG RI imm]] h (λv h'=>Nx s M vs W0 h' o0 (m.add b ⟨op,d,two,ds,⟨imm⟩⟩)):=by obtain⟨W,o,g1,g2,g3,g4⟩:=n;refine(g2.add (i:=⟨op,d,two,ds,⟨imm⟩⟩) hb (BT (imm:=⟨imm⟩) ⟨h1,h2,h3,h4⟩ g4) (by have:=hm.ins b;omega) (by have:=hm.live;omega)).mono ?_;rintro v h' n';exact n'.trans g1 g3
theorem Nz.lit{po:OP}(n:Nz s M vs W0 h o0 m u ds){ty:TypeId}{ps:Array (Nat × Operand)}{us:List (Nat × Value)}{ls:List Int}{k:Nat}{K:Value->Heap->Prop}(hp:ps.map (λp=>(p.1,asg us p.2))=(((ls.map λx=>RG RH x).zipIdx 0).map λp=>(p.2,p.1)).toArray)(hr : ∀x∈ls,I64 x)(hn:ls.length=k)(hb:k<=16777216)(hk : ∀a n c h',(vw h).le (vw h')->Nz s M vs W0 h' o0 m (.slice a n c) ls->K (.slice a n c) h'):@Lft.step po RP (.buildSlice T.aQ k ps) ty us h K:=by
 obtain⟨W,o,g1,g2,g3,g4⟩:=n;have hra : ∀l:List Int,(∀x∈l,I64 x)->na W (l.map λx=>RG RH x) l:=by
  intro l;induction l with
  | nil=>intro _;trivial
  | cons a l ih=>intro hl;exact⟨bg.2 ⟨rfl,hl a Sa⟩,ih λx hx=>hl x (by simp[hx])⟩
 refine mq (X:=W) (ds:=ls) (vs:=ls.map λx=>RG RH x) rfl El.aQ hp (hra ls hr) g2.own.wle hn hb λv h' hle hs hv _=>?_;have hs2:=hv _ (aW g2.own.wle) (ck (NO _));obtain⟨a,cp,rfl,_⟩:=id hs2;refine hk _ _ _ h' hle ?_;exact⟨_,o,RE g1 (aW g2.own.wle),⟨g2.own.ext hle,g2.src.mono (aW g2.own.wle),g2.box⟩,g3,hs2⟩
end
theorem MS.ok.kJ{c:Nat}{m:MS}(h:m.ok c)(hc:c<=1000000):I64 m.next:=by have:=h.n0;have:=h.next;constructor<;>omega
variable{b:Nat}
theorem dY{m:MS}{n:Int}:(m.constant b n).blocks.length=m.blocks.length:=nR
variable{op:Int}
theorem pD{m:MS}{x y:Int}:(m.two b op x y).blocks.length=m.blocks.length:=nR
theorem i64c{x:Int}(h0:-1000<=x:=by decide)(h1:x<=1000:=by decide):I64 x:=R6
variable{vs:Value}
theorem F4{s:List Int}{M:Nat}{W0:View}{h:Heap}{o0:Own}{m:MS}(n:Nx s M vs W0 h o0 m){c:Nat}{store:Bool}(hb:b<m.blocks.length)(hm:m.ok c)(hc:c<=900000):
  az RP 90 #[RM (RJ ⟨M,0,RK⟩),RG RH b,.bool store] h (λv h'=>Nx s M vs W0 h' o0 (jL s m b store)):=by
 refine ao (args:=[RM (RJ ⟨M,0,RK⟩),RG RH b,.bool store]) follows Tryz.func90 E.gX RB λK hK=>?_;dsimp only[L.gX,lkF,lkG];have n:=n.z;have hmm:jL s m b store=_:=jL.eq_1 s m b store;refine aa λz hz=>?_;simp;refine ah R1 (fq n hm R3 (k:=9) R4 R4) ?_;rintro _ h1 ⟨rfl,n⟩;simp;refine ah R1 (gM n (b:=b) hb hm.took R3 (k:=IntKind.i32.wrap (aR s m.at_ 9)) nV) ?_;rintro _ h2 ⟨rfl,n⟩;have q:=hm.took.constant (b:=b) (n:=IntKind.i32.wrap (aR s m.at_ 9));have hb1:b<(m.took.constant b (IntKind.i32.wrap (aR s m.at_ 9))).blocks.length:=by rw[dY];exact hb
 obtain⟨m1,hm1⟩ : ∃m1,m1=m.took.constant b (IntKind.i32.wrap (aR s m.at_ 9)):=⟨_,rfl⟩;have had:pK s m b=_:=pK.eq_1 s m b;rw[<-hm1]at n q hb1;simp only[<-hm1]at had;have hnx:I64 m.next:=hm.kJ R3;have hnt:m.took.next=m.next:=rfl;rw[hnt];generalize m.next=a0 at had hnx;clear hm1 hm hnt;subst hz;refine aa λz hz=>?_;have fin : ∀(a:Int) (m2:MS) (h':Heap) (ρ:Env),pK s m b=(a,m2)->I64 a->m2.ok (c+30)->b<m2.blocks.length->Nz s M vs W0 h' o0 m2 (RL RK 0 0) []->Lft.look ρ 0=RJ (RM (RJ ⟨M,0,RK⟩))->Lft.look ρ 1=RJ (RG RH b)->Lft.look ρ 2=RJ (.bool store)->Lft.look ρ 6=RJ (RG RH a)->LC.wp RP z (cO [] K) ρ h':=by
  intro a m2 h' ρ e ha q hb n r0 r1 r2 r6;subst hz;simp only[e]at hmm;refine aa λz hz=>?_;simp[af,ag,r0,r1,r2,r6];refine ah R1 (fq n q R3 (k:=4) R4 R4) ?_;rintro _ h1 ⟨rfl,n⟩;simp[af,ag,r0,r1,r2,r6];subst hz;refine aa λz hz=>?_;have fin2 : ∀(i:Int) (m3:MS) (h':Heap) (ρ:Env),offS s m2=(i,m3)->(-2147483648<=i/\i<=2147483647)->m3.ok (c+40)->b<m3.blocks.length->Nz s M vs W0 h' o0 m3 (RL RK 0 0) []->Lft.look ρ 0=RJ (RM (RJ ⟨M,0,RK⟩))->Lft.look ρ 1=RJ (RG RH b)->Lft.look ρ 2=RJ (.bool store)->Lft.look ρ 6=RJ (RG RH a)->Lft.look ρ 11=RJ (RG RI i)->LC.wp RP z (cO [] K) ρ h':=by
   intro i m3 h' ρ e hi q hb n r0 r1 r2 r6 r11;subst hz;simp only[e]at hmm;refine aa λz hz=>?_;simp[af,ag,r0,r1,r2,r6,r11];subst hz;cases store with
   | true=>rw[if_pos rfl]at hmm;refine aN (by simp[af,ag,r2]) ?_;simp[af,ag,r0,r1,r2,r6,r11];refine ah R1 (je n hb q R3) ?_;rintro _ h1 ⟨⟨rfl,hs⟩,n⟩;refine n.lit (ls:=[a,(aT s m3 b).1]) Sa (by simp[ha,hs]) rfl R4 λua un uc h2 _ n=>?_;refine ak (z:=.agg #[RG RH 0,RG RH 0,RG RH 0,RL RK 0 0,RG RI 0]) (places:=[(0,1),(1,1),(2,1),(3,1),(4,1)]) (vs:=[(0,RG RH 16),(3,.slice ua un uc),(4,RG RI i)]) (cs:=#[RG RH 16,RG RH 0,RG RH 0,.slice ua un uc,RG RI i]) R1 R1 Sa R1 ?_;refine ah R1 (lS n (b:=b) (by rw[ep];exact hb) (q.aT (b:=b)) R3 i64c i64c i64c hi) ?_;rintro _ h3 n;refine hK _ _ ?_;rw[hmm];exact n
   | false=>rw[if_neg Sa]at hmm;refine aP (by simp[af,ag,r2]) ?_;simp[af,ag,r0,r1,r2,r6,r11];refine ah R1 (hZ n q R3) ?_;rintro _ h1 ⟨rfl,n⟩;refine n.lit (ls:=[a]) Sa (by simp[ha]) rfl R4 λua un uc h2 _ n=>?_;refine ak (z:=.agg #[RG RH 0,RG RH 0,RG RH 0,RL RK 0 0,RG RI 0]) (places:=[(0,1),(1,1),(2,1),(3,1),(4,1)]) (vs:=[(0,RG RH 15),(1,RG RH m3.next),(3,.slice ua un uc),(4,RG RI i)]) (cs:=#[RG RH 15,RG RH m3.next,RG RH 0,.slice ua un uc,RG RI i]) R1 R1 Sa R1 ?_;refine ah R1 (lS n (b:=b) hb q.aS R3 i64c (q.kJ R3) i64c hi) ?_;rintro _ h3 n;refine hK _ _ ?_;rw[hmm];exact n
  have hof:offS s m2=_:=offS.eq_1 s m2;refine aa λy hy=>?_;simp[af,ag,r0,r1,r2,r6];refine ah R1 (fq n q.took R3 (k:=12) R4 R4) ?_;rintro _ h2 ⟨rfl,n⟩;have hx:m2.took.at_=m2.at_+1:=rfl;rw[hx];simp[af,ag,r0,r1,r2,r6];subst hy;by_cases c12:aR s (m2.at_+1) 12=0
  ·rw[if_pos c12]at hof;refine aN (by simp[af,ag,c12]) ?_;simp[af,ag,r0,r1,r2,r6];refine ah R1 (Af n q.took.took R3) ?_;rintro _ h3 ⟨rfl,n⟩;exact fin2 _ _ h3 _ hof rC (q.took.took.took.took.mono R3) hb n (by simp[af,ag,r0]) (by simp[af,ag,r1]) (by simp[af,ag,r2]) (by simp[af,ag,r6]) (by simp[af,ag])
  rw[if_neg c12]at hof;refine aP (by simp[af,ag,c12]) ?_;simp[af,ag,r0,r1,r2,r6];exact fin2 _ _ h2 _ hof nV (q.took.took.mono R3) hb n (by simp[af,ag,r0]) (by simp[af,ag,r1]) (by simp[af,ag,r2]) (by simp[af,ag,r6]) (by simp[af,ag])
 refine aa λy hy=>?_;simp;refine ah R1 (fq n q R3 (k:=3) R4 R4) ?_;rintro _ h3 ⟨rfl,n⟩;simp;subst hy;by_cases c3:aR s m1.at_ 3=0
 ·rw[if_pos c3]at had;refine aN (by simp[c3]) ?_;refine aa λy hy=>?_;simp;refine ah R1 (je n (b:=b) hb1 q.took R3) ?_;rintro _ h4 ⟨⟨rfl,hs⟩,n⟩;have q:=q.took.aT (s:=s) (b:=b);have hb2:b<(aT s m1.took b).2.blocks.length:=by rw[ep];exact hb1
  generalize aT s m1.took b=r at had hs n q hb2;subst hy;refine aa λy hy=>?_;simp;refine ah R1 (gM n (b:=b) hb2 q R3 (k:=7) R4) ?_;rintro _ h5 ⟨rfl,n⟩;subst hy;refine aa λy hy=>?_;simp;have q5:=q.constant (b:=b) (n:=7);refine ah R1 (hZ n q5 R3) ?_;rintro _ h6 ⟨rfl,n⟩;have hn5:(r.2.constant b 7).next=r.2.next+1:=rfl;rw[hn5];subst hy;refine aa λy hy=>?_;simp;have i5:=q5.kJ R3;rw[hn5]at i5;refine n.lit (ls:=[r.1,r.2.next]) Sa (by simp[hs,q.kJ (by omega:c+1+3+1+10<=1000000)]) rfl R4 λua un uc h7 _ n=>?_;refine ak (z:=.agg #[RG RH 0,RG RH 0,RG RH 0,RL RK 0 0,RG RI 0]) (places:=[(0,1),(1,1),(2,1),(3,1),(4,1)]) (vs:=[(0,RG RH 5),(1,RG RH (r.2.next+1)),(3,.slice ua un uc)]) (cs:=#[RG RH 5,RG RH (r.2.next+1),RG RH 0,.slice ua un uc,RG RI 0]) R1 R1 Sa R1 ?_;refine ah R1 (lS n (b:=b) (imm:=0) (by rw[show(r.2.constant b 7).aS.blocks=(r.2.constant b 7).blocks from rfl,dY];exact hb2) q5.aS R3 i64c i5 i64c R4) ?_;rintro _ h8 n;have n:Nx s M vs W0 h8 o0 ((r.2.constant b 7).two b 5 r.1 r.2.next):=n;have q6:=q5.two (b:=b) (op:=5) (x:=r.1) (y:=r.2.next);have hb3:b<((r.2.constant b 7).two b 5 r.1 r.2.next).blocks.length:=by rw[pD,dY];exact hb2
  generalize (r.2.constant b 7).two b 5 r.1 r.2.next=m3 at had n q6 hb3;have n:=n.z;subst hy;refine aa λy hy=>?_;simp;refine ah R1 (hZ n q6 R3) ?_;rintro _ h9 ⟨rfl,n⟩;subst hy;refine aa λy hy=>?_;simp;refine n.lit (ls:=[a0,r.2.next+1]) Sa (by simp[hnx,i5]) rfl R4 λua2 un2 uc2 h10 _ n=>?_;refine ak (z:=.agg #[RG RH 0,RG RH 0,RG RH 0,RL RK 0 0,RG RI 0]) (places:=[(0,1),(1,1),(2,1),(3,1),(4,1)]) (vs:=[(0,RG RH 2),(1,RG RH m3.next),(3,.slice ua2 un2 uc2)]) (cs:=#[RG RH 2,RG RH m3.next,RG RH 0,.slice ua2 un2 uc2,RG RI 0]) R1 R1 Sa R1 ?_;refine ah R1 (lS n (b:=b) (imm:=0) hb3 q6.aS R3 i64c (q6.kJ R3) i64c R4) ?_;rintro _ h11 n;subst hy;simp;refine fin m3.next (m3.two b 2 a0 (r.2.next+1)) h11 _ had (q6.kJ R3) (q6.two.mono R3) (by rw[pD];exact hb3) n.z ?_ ?_ ?_ ?_;all_goals simp
 rw[if_neg c3]at had;refine aP (by simp[c3]) ?_;simp;exact fin a0 m1.took h3 _ had hnx (q.took.mono R3) hb1 n Sa Sa Sa Sa
section
variable {s:List Int} {M:Nat} {vs:Value} {W0:View} {h:Heap} {o0:Own} {m:MS} {u:Value} {ds:List Int}
theorem Nz.le (n:Nz s M vs W0 h o0 m u ds):W0.le (vw h):=by obtain⟨W,o,h1,h2,_⟩:=n;exact RE h1 h2.own.wle
theorem Nz.base(n:Nz s M vs W0 h o0 m u ds): ∃W o,Nz s M vs W h o m u ds/\SlRd W u ds/\∀{h' m' u' ds'},Nz s M vs W h' o m' u' ds'->Nz s M vs W0 h' o0 m' u' ds':=by obtain⟨W,o,h1,h2,h3,h4⟩:=n;refine⟨W,o,⟨W,o,View.le_refl _,h2,λ_ _=>rfl,h4⟩,h4,?_⟩;rintro h' m' u' ds' ⟨W',o',g1,g2,g3,g4⟩;exact⟨W',o',RE h1 g1,g2,λk hk=>(g3 k hk).trans (h3 k hk),g4⟩
end
theorem H6{H:View}{B n:Nat}{l:List Int}{t:TypeId}(hb:H B=RJ (.cells (l.map λx=>RG RH x).toArray t (0,0)))(hn:l.length=n)(h1:0<n/\n<=1000)(hr : ∀x∈l,I64 x):SlRd H (RL (RJ ⟨B,0,RK⟩) n n) l:=by
 refine⟨RJ ⟨B,0,RK⟩,n,by rw[hn],by omega,by omega,.inr ⟨⟨B,0,RK⟩,rfl,rfl,λi hi=>?_⟩⟩;have e:(⟨B,0,RK⟩:Addr).add (i*Rep.n Int)=⟨B,i,RK⟩:=by show(⟨B,0,RK⟩:Addr).add (i*1)=_;simp
 rw[e];refine⟨[RG RH l[i]],⟨_,t,(0,0),rfl,hb,?_⟩,(bg (v:=RG RH l[i]) (H:=H)).2 ⟨rfl,hr _ (O5 hi)⟩ |> λq=>?_⟩
 ·show((l.map λx=>RG RH x).toArray.toList.drop i).take 1=_;rw[List.toList_toArray,OG (by simpa using hi)];simp
 exact⟨rfl,hr _ (O5 hi)⟩
theorem Hb: ∀x∈opsL,I64 x:=by
 intro x hx;have : ∀x∈opsL,0<=x/\x<=12:=by decide
 have:=this x hx;exact R6
variable{vb vl:Value}{lb:List BlkM}
theorem MkB.frame{M:Nat}{m:MS}{o o':Own}(b:MkB M vs m o vb vl lb)(hf : ∀k:Key,k.1<3->o' k=o k):MkB M vs m o' vb vl lb:=
 ⟨(hf _ R4).trans b.box,(hf _ R4).trans b.live,(hf _ R4).trans b.blk,b.len,b.term,λi hi=>(hf _ (by show 1<3;decide)).trans (b.phis i hi),λi hi=>(hf _ (by show 2<3;decide)).trans (b.ins i hi)⟩
theorem A3{s:List Int}{x:List Int × MS}: ∀k,(up (iU s b) k x).2.blocks.length=x.2.blocks.length:=by
 intro k;induction k with
 | zero=>rfl
 | succ k ih=>show(aT s (up (iU s b) k x).2 b).2.blocks.length=_;rw[ep,ih]
theorem Ek{s:List Int}{c:Nat}{x:List Int × MS}(hx:x.2.ok c): ∀k,(up (iU s b) k x).2.ok (c+10*k)/\(up (iU s b) k x).1.length=x.1.length+k/\(up (iU s b) k x).2.blocks.length=x.2.blocks.length:=by
 intro k;induction k with
 | zero=>exact⟨hx,rfl,rfl⟩
 | succ k ih=>
  obtain⟨h1,h2,h3⟩:=ih;refine⟨(h1.aT).mono R3,?_,?_⟩
  ·show((up (iU s b) k x).1++[_]).length=_;rw[N1,h2,OC];omega
  show(aT s (up (iU s b) k x).2 b).2.blocks.length=_;rw[ep,h3]
theorem xS{s:List Int}{M:Nat}{W0:View}{h:Heap}{o0:Own}{m:MS}(n:Nx s M vs W0 h o0 m){c:Nat}(hb:b<m.blocks.length)(hm:m.ok c)(hc:c<=800000)(hfree:o0 (9,0)=RK):
  az RP 55 #[RM (RJ ⟨M,0,RK⟩),RG RH b] h (λv h'=>Nx s M vs W0 h' o0 (aY s b m)):=by
 refine ao (args:=[RM (RJ ⟨M,0,RK⟩),RG RH b]) follows Tryz.func55 E.bo RB λK hK=>?_;dsimp only[L.bo,lkF,lkG];have n:=n.z;have hmm:aY s b m=_:=aY.eq_1 s b m;refine aa λz hz=>?_;simp;refine ah R1 (fq n hm R3 (k:=20) R4 R4) ?_;rintro _ h1 ⟨rfl,n⟩;obtain⟨k0,k1⟩:=di (s:=s) (at_:=m.at_) (n:=20) R4;have q:=hm.took;have hb1:b<m.took.blocks.length:=hb;subst hz;generalize aR s m.at_ 20=k at hmm k0 k1;generalize hm1:m.took=m1 at hmm n q hb1;have hw:lL s m1=lL s m1:=rfl;simp only[aU];refine aa λz hz=>?_;simp;subst hz;by_cases c1:k<12
 ·rw[if_pos c1]at hmm;refine aN (by simp[c1]) ?_;obtain⟨kn,rfl⟩ : ∃kn:Nat,k=kn:=⟨k.toNat,by omega⟩;have hkn:kn<12:=by omega
  refine aa λz hz=>?_;simp;have hcs:(#[RG RH 2,RG RH 2,RG RH 3,RG RH 4,RG RH 5,RG RH 6,RG RH 7,RG RH 8,RG RH 9,RG RH 10,RG RH 12,RG RH 11]:Array Value)=(opsL.map λx=>RG RH x).toArray:=rfl;refine ak (z:=.agg #[RG RH 0,RG RH 0,RG RH 0,RG RH 0,RG RH 0,RG RH 0,RG RH 0,RG RH 0,RG RH 0,RG RH 0,RG RH 0,RG RH 0]) (places:=[(0,1),(1,1),(2,1),(3,1),(4,1),(5,1),(6,1),(7,1),(8,1),(9,1),(10,1),(11,1)]) (vs:=[(0,RG RH 2),(1,RG RH 2),(2,RG RH 3),(3,RG RH 4),(4,RG RH 5),(5,RG RH 6),(6,RG RH 7),(7,RG RH 8),(8,RG RH 9),(9,RG RH 10),(10,RG RH 12),(11,RG RH 11)])
   (cs:=#[RG RH 2,RG RH 2,RG RH 3,RG RH 4,RG RH 5,RG RH 6,RG RH 7,RG RH 8,RG RH 9,RG RH 10,RG RH 12,RG RH 11]) R1 R1 Sa R1 ?_;refine fG (v:=.agg #[RG RH 2,RG RH 2,RG RH 3,RG RH 4,RG RH 5,RG RH 6,RG RH 7,RG RH 8,RG RH 9,RG RH 10,RG RH 12,RG RH 11]) (z:=.agg #[RG RH 0,RG RH 0,RG RH 0,RG RH 0,RG RH 0,RG RH 0,RG RH 0,RG RH 0,RG RH 0,RG RH 0,RG RH 0,RG RH 0]) (n:=12) R1 rfl R1 rfl R8 R5 R5 λh2 hle2 hs2 hb2=>?_
  have n:Nz s M vs W0 h2 o0 m1 (RL (RJ ⟨h1.size,0,RK⟩) 12 12) opsL:=by
   obtain⟨W,o,g1,g2,g3,g4⟩:=n;refine⟨_,o,RE g1 (aW g2.own.wle),⟨g2.own.ext hle2,g2.src.mono (aW g2.own.wle),g2.box⟩,g3,?_⟩;have hg:grow W h1 h2 h1.size=RJ (.cells (opsL.map λx=>RG RH x).toArray T.IH (0,0)):=by rw[ck (NO _),hb2];rfl
   exact H6 hg rfl R4 Hb
  generalize h1.size=B at n;subst hz;refine aa λz hz=>?_;simp;refine ah R1 (je n hb1 q R3) ?_;rintro _ h3 ⟨⟨rfl,i2⟩,n⟩;have q:=q.aT (s:=s) (b:=b);have hb2:b<(aT s m1 b).2.blocks.length:=by rw[ep];exact hb1
  simp only[binS]at hmm;generalize aT s m1 b=r1 at hmm n q hb2 i2;subst hz;refine aa λz hz=>?_;simp;refine ah R1 (je n hb2 q R3) ?_;rintro _ h4 ⟨⟨rfl,i3⟩,n⟩;have q:=q.aT (s:=s) (b:=b);have hb3:b<(aT s r1.2 b).2.blocks.length:=by rw[ep];exact hb2
  generalize aT s r1.2 b=r2 at hmm n q hb3 i3;subst hz;refine aa λz hz=>?_;have fin : ∀(e:Int) (m3:MS) (h':Heap) (ρ:Env),aY s b m=m3.two b (nth opsL kn) r1.1 e->I64 e->m3.ok (c+60)->b<m3.blocks.length->Nz s M vs W0 h' o0 m3 (RL (RJ ⟨B,0,RK⟩) 12 12) opsL->Lft.look ρ 0=RJ (RM (RJ ⟨M,0,RK⟩))->Lft.look ρ 1=RJ (RG RH b)->Lft.look ρ 4=RJ (RG RH kn)->Lft.look ρ 5=RJ (RM (RJ ⟨B,0,RK⟩))->Lft.look ρ 6=RJ (RG RH r1.1)->Lft.look ρ 7=RJ (RG RH e)->LC.wp RP z (fe 0 (cO [] K)) ρ h':=by
   intro e m3 h' ρ hmm ie q hb n r0 r1' r4 r5 r6 r7;subst hz;obtain⟨W,o,n,sl,back⟩:=n.base;have iop:=sl.range (i:=kn) (by show kn<12;omega);have hop:an W ⟨B,kn,RK⟩=RJ (RG RH (nth opsL kn)):=by have:=sl.int (View.le_refl W) (i:=kn) (by show kn<12;omega);simpa[slA]using this
   have hix:Bn.ev (.aidx 12 1) (RM (RJ ⟨B,0,RK⟩)) (RG RH kn)=RJ (RM (RJ ⟨B,kn,RK⟩)):=by simp only[Bn.ev,vP,vI,Ov];rw[if_pos R6];simp
   generalize nth opsL kn=op at hmm iop hop;refine aH W n.le ?_;simp[af,ag,r0,r1',r4,r5,r6,r7,hix,hop];constructor
   ·refine ah R1 (hZ n q R3) ?_;rintro _ h4 ⟨rfl,n⟩;refine⟨n.le,?_⟩;refine n.lit (ls:=[r1.1,e]) Sa (by simp[i2,ie]) rfl R4 λua un uc h5 _ n=>⟨n.le,?_⟩;refine ak (z:=.agg #[RG RH 0,RG RH 0,RG RH 0,RL RK 0 0,RG RI 0]) (places:=[(0,1),(1,1),(2,1),(3,1),(4,1)]) (vs:=[(0,RG RH op),(1,RG RH m3.next),(3,.slice ua un uc)]) (cs:=#[RG RH op,RG RH m3.next,RG RH 0,.slice ua un uc,RG RI 0]) R1 R1 Sa R1 ?_;refine ah R1 (lS n (b:=b) hb q.aS R3 iop (q.kJ R3) i64c R4) ?_;rintro _ h6 n;exact hK _ _ (by rw[hmm];exact(back n.z).x)
   refine n.lit (ls:=[r1.1,e]) Sa (by simp[i2,ie]) rfl R4 λua un uc h5 _ n=>⟨n.le,?_⟩;refine ah R1 (hZ n q R3) ?_;rintro _ h4 ⟨rfl,n⟩;refine⟨n.le,?_⟩;refine ak (z:=.agg #[RG RH 0,RG RH 0,RG RH 0,RL RK 0 0,RG RI 0]) (places:=[(0,1),(1,1),(2,1),(3,1),(4,1)]) (vs:=[(0,RG RH op),(1,RG RH m3.next),(3,.slice ua un uc)]) (cs:=#[RG RH op,RG RH m3.next,RG RH 0,.slice ua un uc,RG RI 0]) R1 R1 Sa R1 ?_;refine ah R1 (lS n (b:=b) hb q.aS R3 iop (q.kJ R3) i64c R4) ?_;rintro _ h6 n;exact hK _ _ (by rw[hmm];exact(back n.z).x)
  refine aa λy hy=>?_;simp;refine ah R1 (fq n q R3 (k:=3) R4 R4) ?_;rintro _ h5 ⟨rfl,n⟩;simp;subst hy;by_cases c4:aR s r2.2.at_ 3=0
  ·rw[if_pos c4]at hmm;refine aN (by simp[c4]) ?_;simp;refine ah R1 (fq n q.took R3 (k:=40) R4 R4) ?_;rintro _ h6 ⟨rfl,n⟩;have hx:r2.2.took.at_=r2.2.at_+1:=rfl;rw[hx];simp;refine ah R1 (gM n (b:=b) hb3 q.took.took R3 (k:=IntKind.i32.wrap (IntKind.i64.wrap (aR s (r2.2.at_+1) 40-8))) nV) ?_;rintro _ h7 ⟨rfl,n⟩;refine fin r2.2.next _ h7 _ hmm (q.kJ R3) (q.took.took.constant.mono R3) (by rw[dY];exact hb3) n ?_ ?_ ?_ ?_ ?_ ?_;all_goals simp
   rfl
  rw[if_neg c4]at hmm;refine aP (by simp[c4]) ?_;simp;refine fin r2.1 _ h5 _ hmm i3 (q.took.mono R3) hb3 n ?_ ?_ ?_ ?_ ?_ ?_;all_goals simp
 rw[if_neg c1]at hmm;refine aP (by simp[c1]) ?_;refine aa λz hz=>?_;simp;subst hz;by_cases c2:k=12
 ·rw[if_pos c2]at hmm;refine aN (by simp[c2]) ?_;refine aa λz hz=>?_;simp;refine ah R1 (je n hb1 q R3) ?_;rintro _ h2 ⟨⟨rfl,i2⟩,n⟩;have q:=q.aT (s:=s) (b:=b);have hb2:b<(aT s m1 b).2.blocks.length:=by rw[ep];exact hb1
  simp only[ltuS]at hmm;generalize aT s m1 b=r1 at hmm n q hb2 i2;subst hz;refine aa λz hz=>?_;simp;refine ah R1 (je n hb2 q R3) ?_;rintro _ h3 ⟨⟨rfl,i3⟩,n⟩;have q:=q.aT (s:=s) (b:=b);have hb3:b<(aT s r1.2 b).2.blocks.length:=by rw[ep];exact hb2
  generalize aT s r1.2 b=r2 at hmm n q hb3 i3;subst hz;simp;refine ah R1 (hZ n q R3) ?_;rintro _ h4 ⟨rfl,n⟩;refine n.lit (ls:=[r1.1,r2.1]) Sa (by simp[i2,i3]) rfl R4 λua un uc h5 _ n=>?_;refine ak (z:=.agg #[RG RH 0,RG RH 0,RG RH 0,RL RK 0 0,RG RI 0]) (places:=[(0,1),(1,1),(2,1),(3,1),(4,1)]) (vs:=[(0,RG RH 13),(1,RG RH r2.2.next),(3,.slice ua un uc)]) (cs:=#[RG RH 13,RG RH r2.2.next,RG RH 0,.slice ua un uc,RG RI 0]) R1 R1 Sa R1 ?_;refine ah R1 (lS n (b:=b) hb3 q.aS R3 i64c (q.kJ R3) i64c R4) ?_;rintro _ h6 n;exact hK _ _ (by rw[hmm];exact n)
 rw[if_neg c2]at hmm;refine aP (by simp[c2]) ?_;refine aa λz hz=>?_;simp;subst hz;by_cases c3:k=13
 ·rw[if_pos c3]at hmm;refine aN (by simp[c3]) ?_;refine aa λz hz=>?_;simp;refine ah R1 (je n hb1 q R3) ?_;rintro _ h2 ⟨⟨rfl,i2⟩,n⟩;have q:=q.aT (s:=s) (b:=b);have hb2:b<(aT s m1 b).2.blocks.length:=by rw[ep];exact hb1
  simp only[divS]at hmm;generalize aT s m1 b=r1 at hmm n q hb2 i2;subst hz;refine aa λz hz=>?_;simp;refine ah R1 (fq n q R3 (k:=12) R4 R4) ?_;rintro _ h3 ⟨rfl,n⟩;simp;refine ah R1 (gM n (b:=b) hb2 q.took R3 (k:=IntKind.i32.wrap (aR s r1.2.at_ 12)) nV) ?_;rintro _ h4 ⟨rfl,n⟩;have i4:I64 r1.2.took.next:=q.took.kJ R3;have q:=q.took.constant (b:=b) (n:=IntKind.i32.wrap (aR s r1.2.at_ 12));have hb3:b<(r1.2.took.constant b (IntKind.i32.wrap (aR s r1.2.at_ 12))).blocks.length:=by rw[dY];exact hb2
  have ht:r1.2.took.next=r1.2.next:=rfl;rw[ht]at i4 ⊢;generalize r1.2.took.constant b (IntKind.i32.wrap (aR s r1.2.at_ 12))=m2 at hmm n q hb3;generalize r1.2.next=d at hmm i4;subst hz;refine aa λz hz=>?_;have fin : ∀(e:Int) (m3:MS) (h':Heap) (ρ:Env),aY s b m=m3.two b 14 r1.1 e->I64 e->m3.ok (c+60)->b<m3.blocks.length->Nz s M vs W0 h' o0 m3 (RL RK 0 0) []->Lft.look ρ 0=RJ (RM (RJ ⟨M,0,RK⟩))->Lft.look ρ 1=RJ (RG RH b)->Lft.look ρ 10=RJ (RG RH r1.1)->Lft.look ρ 11=RJ (RG RH e)->LC.wp RP z (fe 0 (cO [] K)) ρ h':=by intro e m3 h' ρ hmm ie q hb n r0 r1' r10 r11;subst hz;simp[af,ag,r0,r1',r10,r11];refine ah R1 (hZ n q R3) ?_;rintro _ h4 ⟨rfl,n⟩;refine n.lit (ls:=[r1.1,e]) Sa (by simp[i2,ie]) rfl R4 λua un uc h5 _ n=>?_;refine ak (z:=.agg #[RG RH 0,RG RH 0,RG RH 0,RL RK 0 0,RG RI 0]) (places:=[(0,1),(1,1),(2,1),(3,1),(4,1)]) (vs:=[(0,RG RH 14),(1,RG RH m3.next),(3,.slice ua un uc)]) (cs:=#[RG RH 14,RG RH m3.next,RG RH 0,.slice ua un uc,RG RI 0]) R1 R1 Sa R1 ?_;refine ah R1 (lS n (b:=b) hb q.aS R3 i64c (q.kJ R3) i64c R4) ?_;rintro _ h6 n;exact hK _ _ (by rw[hmm];exact n)
  refine aa λy hy=>?_;simp;refine ah R1 (fq n q R3 (k:=3) R4 R4) ?_;rintro _ h5 ⟨rfl,n⟩;simp;subst hy;by_cases c4:0<aR s m2.at_ 3
  ·rw[if_pos c4]at hmm;refine aN (by simp[c4]) ?_;simp;refine ah R1 (fq n q.took R3 (k:=12) R4 R4) ?_;rintro _ h6 ⟨rfl,n⟩;have hx:m2.took.at_=m2.at_+1:=rfl;rw[hx];simp;refine ah R1 (gM n (b:=b) hb3 q.took.took R3 (k:=IntKind.i32.wrap (1+IntKind.i32.wrap (aR s (m2.at_+1) 12))) nV) ?_;rintro _ h7 ⟨rfl,n⟩;refine fin m2.next _ h7 _ hmm (q.kJ R3) (q.took.took.constant.mono R3) (by rw[dY];exact hb3) n ?_ ?_ ?_ ?_;all_goals simp
   rfl
  rw[if_neg c4]at hmm;refine aP (by simp[c4]) ?_;simp;refine fin d _ h5 _ hmm i4 (q.took.mono R3) hb3 n ?_ ?_ ?_ ?_;all_goals simp
 rw[if_neg c3]at hmm;refine aP (by simp[c3]) ?_;refine aa λz hz=>?_;simp;subst hz;by_cases c4:k<16
 ·rw[if_pos c4]at hmm;refine aN (by simp[c4]) ?_;simp;refine ah R1 (F4 n.x (store:=decide (k=15)) hb1 q R3) ?_;rintro _ h2 n;exact hK _ _ (by rw[hmm];exact n)
 rw[if_neg c4]at hmm;refine aP (by simp[c4]) ?_;refine aa λz hz=>?_;simp;subst hz;by_cases c5:k=16
 ·rw[if_pos c5]at hmm;refine aN (by simp[c5]) ?_;refine aa λz hz=>?_;simp;obtain⟨W,o,g1,w,f,-⟩:=n;have hk9:o (9,0)=none:=(f _ R4).trans hfree;refine w.own.nu (k:=(9,0)) (α:=Int) hk9 El.aQ λv h2 hle2 hv w2 _=>?_;have w2:Mk s M vs W h2 (o.upd (9,0) (it T.int v ([]:List Int))) m1:=by obtain⟨vb,vl,lb,bb⟩:=w.box;exact⟨w2,w.src,vb,vl,lb,bb.frame λk hk=>Own.aB (by rintro rfl;simp at hk)⟩
  subst hz;refine aa λz hz=>?_;simp;refine ah R1 (w2.take (by have:=q.at_;omega) (n:=5) R4 R4) ?_;rintro _ h3 ⟨rfl,o3,w3,f3⟩;simp only[pQ]at hmm;have q:=q.took;have hb2:b<m1.took.blocks.length:=hb1;obtain⟨t0,t1⟩:=di (s:=s) (at_:=m1.at_) (n:=5) R4;generalize aR s m1.at_ 5=t at hmm t0 t1;obtain⟨tn,rfl⟩ : ∃tn:Nat,t=tn:=⟨t.toNat,by omega⟩;rw[show((tn:Int)).toNat=tn by omega]at hmm;have hup:=Ek (s:=s) (b:=b) (x:=([],m1.took)) q;generalize m1.took=m2 at hmm q hb2 hup w3;subst hz;refine aa λz hz=>?_;simp;refine bX [0,1,4,12,13,14] (fun(v:Value) i=>[RM (RJ ⟨M,0,RK⟩),RG RH b,RG RH k,v,RG RH tn,RG RH i]) (λv i h4=>∃W' o',W0.le W'/\Mk s M vs W' h4 o' (up (iU s b) i ([],m2)).2/\o' (9,0)=it T.int v (up (iU s b) i ([],m2)).1/\∀q:Key,3<=q.1->q≠(9,0)->o' q=o0 q) tn v
   rfl R3 rfl ⟨W,o3,g1,w3,(f3 _ R4).trans Own.aj,λq h1 h2=>(f3 q h1).trans ((Own.aB h2).trans (f q h1))⟩ (λ_ _=>rfl) (λv k h hk m=>by simp) ?_ ?_
  ·rintro v i h4 hlt ⟨W4,o4,g4,w4,e4,f4⟩ K2 hK2;obtain⟨qi,li,bi⟩:=hup i;have e5:up (iU s b) (i+1) ([],m2)=((up (iU s b) i ([],m2)).1++[(aT s (up (iU s b) i ([],m2)).2 b).1],(aT s (up (iU s b) i ([],m2)).2 b).2):=rfl;have hb4:b<(up (iU s b) i ([],m2)).2.blocks.length:=by rw[bi];exact hb2
   generalize up (iU s b) i ([],m2)=x at w4 e4 e5 qi li bi hb4;have li:x.1.length=i:=by simpa using li
   simp;refine ah R1 (Ef w4 hb4 qi R3) ?_;rintro _ h5 ⟨rfl,i5,W5,o5,g5,w5,f5⟩;have e6:o5 (9,0)=it T.int v x.1:=(f5 _ R4).trans e4;refine w5.own.jl (k:=(9,0)) (α:=Int) (d:=(aT s x.2 b).1) e6 El.aQ rfl (bg.2 ⟨rfl,i5⟩) R3 R3 (λ_=>rfl) (λ_=>rfl) λu v' h6 w6 _=>?_;refine hK2 v' _ _ rfl rfl ⟨W5,_,RE g4 g5,⟨w6,w5.src,?_⟩,?_,?_⟩
   ·obtain⟨vb,vl,lb,bb⟩:=w5.box;rw[e5];exact⟨vb,vl,lb,bb.frame λk hk=>Own.aB (by rintro rfl;simp at hk)⟩
   ·rw[e5];exact Own.aj
   intro q h1 h2;exact(Own.aB h2).trans ((f5 q h1).trans (f4 q h1 h2))
  rintro v h4 ⟨W4,o4,g4,w4,e4,f4⟩;obtain⟨qi,li,bi⟩:=hup tn;have hb4:b<(up (iU s b) tn ([],m2)).2.blocks.length:=by rw[bi];exact hb2
  generalize up (iU s b) tn ([],m2)=x at w4 e4 qi li bi hb4 hmm;obtain⟨w5,sl⟩:=w4.own.freeze e4;have sl2:=sl;obtain⟨ua,uc,rfl,_⟩:=sl2;have hWp:=jJ (h:=h4) (w4.own.av _ _ e4);have n:Nz s M vs W0 h4 o0 x.2 (.slice ua x.1.length uc) x.1:=by
   obtain⟨vb,vl,lb,bb⟩:=w4.box;refine⟨_,_,RE g4 hWp,⟨w5,w4.src.mono hWp,vb,vl,lb,bb.frame λk hk=>Own.aB (by rintro rfl;simp at hk)⟩,λq h1=>?_,sl⟩;by_cases e:q=(9,0)
   ·rw[e,Own.aj,hfree]
   exact(Own.aB e).trans (f4 q h1 e)
  generalize x.1.length=un at n;simp;subst hz;simp;refine ah R1 (hZ n qi R3) ?_;rintro _ h5 ⟨rfl,n⟩;refine ah R1 (fq n qi.aS R3 (k:=5) R4 R4) ?_;rintro _ h6 ⟨rfl,n⟩;have hx:x.2.aS.at_=x.2.at_:=rfl;rw[hx];simp;refine ak (z:=.agg #[RG RH 0,RG RH 0,RG RH 0,RL RK 0 0,RG RI 0]) (places:=[(0,1),(1,1),(2,1),(3,1),(4,1)]) (vs:=[(0,RG RH 17),(1,RG RH x.2.next),(3,.slice ua un uc),(4,RG RI (IntKind.i32.wrap (aR s x.2.at_ 5)))]) (cs:=#[RG RH 17,RG RH x.2.next,RG RH 0,.slice ua un uc,RG RI (IntKind.i32.wrap (aR s x.2.at_ 5))]) R1 R1 Sa R1 ?_;refine ah R1 (lS n (b:=b) hb4 qi.aS.took R3 i64c (qi.kJ R3) i64c nV) ?_;rintro _ h7 n;exact hK _ _ (by rw[hmm];exact n)
 rw[if_neg c5]at hmm;refine aP (by simp[c5]) ?_;refine aa λz hz=>?_;simp;subst hz;by_cases c6:k=17
 ·rw[if_pos c6]at hmm;refine aN (by simp[c6]) ?_;refine aa λz hz=>?_;simp;refine ah R1 (je n hb1 q R3) ?_;rintro _ h2 ⟨⟨rfl,i2⟩,n⟩;have q:=q.aT (s:=s) (b:=b);have hb2:b<(aT s m1 b).2.blocks.length:=by rw[ep];exact hb1
  simp only[zJ]at hmm;generalize aT s m1 b=r1 at hmm n q hb2 i2;subst hz;refine aa λz hz=>?_;simp;refine ah R1 (je n hb2 q R3) ?_;rintro _ h3 ⟨⟨rfl,i3⟩,n⟩;have q:=q.aT (s:=s) (b:=b);have hb3:b<(aT s r1.2 b).2.blocks.length:=by rw[ep];exact hb2
  generalize aT s r1.2 b=r2 at hmm n q hb3 i3;subst hz;refine aa λz hz=>?_;simp;refine ah R1 (hZ n q R3) ?_;rintro _ h4 ⟨rfl,n⟩;subst hz;simp;refine ah R1 (hZ n q.aS R3) ?_;rintro _ h5 ⟨rfl,n⟩;have hx:r2.2.aS.next=r2.2.next+1:=rfl;rw[hx];have j5:=q.aS.kJ R3;rw[hx]at j5;refine n.lit (ls:=[r1.1,r2.1]) Sa (by simp[i2,i3]) rfl R4 λua un uc h5 _ n=>?_;refine ak (z:=.agg #[RG RH 0,RG RH 0,RG RH 0,RL RK 0 0,RG RI 0]) (places:=[(0,1),(1,1),(2,1),(3,1),(4,1)]) (vs:=[(0,RG RH 18),(1,RG RH r2.2.next),(2,RG RH (r2.2.next+1)),(3,.slice ua un uc)]) (cs:=#[RG RH 18,RG RH r2.2.next,RG RH (r2.2.next+1),.slice ua un uc,RG RI 0]) R1 R1 Sa R1 ?_;refine ah R1 (lS n (b:=b) hb3 q.aS.aS R3 i64c (q.kJ R3) j5 R4) ?_;rintro _ h6 n;exact hK _ _ (by rw[hmm];exact n)
 rw[if_neg c6]at hmm;refine aP (by simp[c6]) ?_;simp;refine ah R1 (Af n q R3) ?_;rintro _ h2 ⟨rfl,n⟩;refine ah R1 (gM n (b:=b) hb1 q.took.took R3 (k:=lL s m1) rC) ?_;rintro _ h3 ⟨rfl,n⟩;exact hK _ _ (by rw[hmm];exact n.x)
section
variable {s:List Int} {m:MS} {b c:Nat}
theorem oP:m.took.blocks.length=m.blocks.length:=rfl
theorem qB:m.aS.blocks.length=m.blocks.length:=rfl
theorem MS.ok.addr(h:m.ok c):(pK s m b).2.ok (c+30):=by
 unfold pK;simp only;split
 ·exact((((h.took.constant).took.aT).constant).two.two).mono R3
 exact(h.took.constant.took).mono R3
theorem Gl:(pK s m b).2.blocks.length=m.blocks.length:=by unfold pK;simp only;split<;>simp[pD,dY,ep,oP]
theorem MS.ok.off(h:m.ok c):(offS s m).2.ok (c+4):=by
 unfold offS;split
 ·exact h.took.took.took.took
 exact h.took.took.mono R3
theorem IM:(offS s m).2.blocks.length=m.blocks.length:=by unfold offS;split<;>rfl
theorem MS.ok.memory{st:Bool}(h:m.ok c):(jL s m b st).ok (c+60):=by
 unfold jL;simp only;split
 ·exact(((h.addr).off.aT).add).mono R3
 exact(((h.addr).off.aS).add).mono R3
theorem DL{st:Bool}:(jL s m b st).blocks.length=m.blocks.length:=by unfold jL;simp only;split<;>simp[nR,ep,IM,Gl,qB]
theorem MS.ok.bin(h:m.ok c):(binS s m b op).ok (c+60):=by
 unfold binS;simp only;split
 ·exact((h.aT.aT).took.took.constant.two).mono R3
 exact((h.aT.aT).took.two).mono R3
theorem JX:(binS s m b op).blocks.length=m.blocks.length:=by unfold binS;simp only;split<;>simp[pD,dY,ep,oP]
theorem MS.ok.div(h:m.ok c):(divS s m b).ok (c+60):=by
 unfold divS;simp only;split
 ·exact((h.aT).took.constant.took.took.constant.two).mono R3
 exact((h.aT).took.constant.took.two).mono R3
theorem JL:(divS s m b).blocks.length=m.blocks.length:=by unfold divS;simp only;split<;>simp[pD,dY,ep,oP]
theorem MS.ok.pQ (h:m.ok c):(pQ s m b).ok (c+70):=by unfold Go.Proofs.YtnfiilgdjpdlkaaGreatDoor.pQ;simp only;have ht:=di (s:=s) (at_:=m.at_) (n:=5) R4;have:=(Ek (s:=s) (b:=b) (x:=([],m.took)) h.took (aR s m.at_ 5).toNat).1;exact(this.aS.took.add).mono R3
theorem HM:(pQ s m b).blocks.length=m.blocks.length:=by unfold pQ;simp only;rw[nR,oP,qB];exact A3 (s:=s) (b:=b) (x:=([],m.took)) _
theorem MS.ok.jT(h:m.ok c):(aY s b m).ok (c+80):=by
 unfold aY;simp only;repeat' split
 ·exact h.took.bin.mono R3
 ·unfold ltuS;exact(h.took.aT.aT.two).mono R3
 ·exact h.took.div.mono R3
 ·exact h.took.memory.mono R3
 ·exact h.took.pQ.mono R3
 ·unfold zJ;exact(h.took.aT.aT.aS.aS.add).mono R3
 exact h.took.took.took.constant.mono R3
theorem pL:(aY s b m).blocks.length=m.blocks.length:=by
 unfold aY;simp only;repeat' split
 all_goals simp[JX,ltuS,JL,DL,HM,zJ,pD,dY,ep,oP,qB,nR]
end
def MS.AF (m:MS) (b:Nat) (t:cB):MS:={ m with blocks:=m.blocks.set b { nth m.blocks b with term:=t } }
def cmpL:List Int:=[11,12,13]
def jk (s:List Int) (to:List Int) (b:Nat) (m:MS):cB × MS:=
 if to.length=0 then
  if aR s m.at_ 8=0 then(⟨5,[],[],⟨IntKind.i32.wrap (aR s (m.at_+1) 200)⟩⟩,m.took.took)
  else if 1<aR s m.at_ 8 then(⟨4,[(aT s m.took b).1],[],⟨0⟩⟩,(aT s m.took b).2)
  else(⟨4,[],[],⟨0⟩⟩,m.took)
 else if to.length=1 then(⟨1,[],to,⟨0⟩⟩,m)
 else if to.length=2 then
  let r:=aT s m b
  if aR s r.2.at_ 2=0 then
   let w:=aT s r.2.took b
   (⟨2,[w.2.next],to,⟨0⟩⟩,w.2.aS.took.add b ⟨nth cmpL (aR s w.2.at_ 3).toNat,w.2.next,0,[r.1,w.1],⟨0⟩⟩)
  else(⟨2,[r.1],to,⟨0⟩⟩,r.2.took)
 else
  let r:=aT s m b
  let m2:=r.2.constant b 7
  (⟨3,[m2.next],to,⟨0⟩⟩,m2.two b 5 r.1 r.2.next)
def qH (s:List Int) (to:List Int) (b:Nat) (m:MS):MS:=(jk s to b m).2.AF b (jk s to b m).1
section
variable {s:List Int} {M:Nat} {vs:Value} {W0:View} {h:Heap} {o0:Own} {m:MS} {u:Value} {ds:List Int}
theorem Nz.dB {po:OP} (n:Nz s M vs W0 h o0 m u ds) {k:Key} {e:TypeId} {B N i:Nat} {l:List Value} {ty t:TypeId} {us:List (Nat × Value)} {x y:Operand} {v:Value} {K:Value->Heap->Prop} (h3:3<=k.1) (hk:o0 k=bx e B (RawN.mk (n:=N) l)) (hi:i<=N) (hsz:df RP t=RJ 1) (hx:asg us x = RM (RJ ⟨B,i,RK⟩)) (hy:asg us y=v) (hv:v.oneCell'=RN)
  (hK : ∀h',Nz s M vs W0 h' (o0.upd k (bx e B (RawN.mk (n:=N) (l.set i v)))) m u ds->K undef h'):@Lft.step po RP (.store t x y) ty us h K:=by
 obtain⟨W,o,g1,w,f,sl⟩:=n;refine w.own.dB (k:=k) (n:=N) (i:=i) (e:=e) (B:=B) (l:=l) ((f k h3).trans hk) hi hsz hx hy hv λh' w' _=>hK h' ?_;obtain⟨vb,vl,lb,bb⟩:=w.box;refine⟨W,_,g1,⟨w',w.src,vb,vl,lb,bb.frame λq hq=>Own.aB (by rintro rfl;omega)⟩,λq hq=>?_,sl⟩;unfold Own.upd;split
 ·rfl
 exact f q hq
theorem Nz.re(n:Nz s M vs W0 h o0 m u ds){o0':Own}(he : ∀k,o0' k=o0 k):Nz s M vs W0 h o0' m u ds:=by obtain⟨W,o,g1,w,f,sl⟩:=n;exact⟨W,o,g1,w,λk hk=>(f k hk).trans (he k).symm,sl⟩
theorem Mk.IV{po:OP}{W:View}{o:Own}(w:Mk s M vs W h o m)(bb:MkB M vs m o vb vl lb){t:cB}{v:Value}{ty ty2:TypeId}{us:List (Nat × Value)}{x y:Operand}{K:Value->Heap->Prop}(hb:b<m.blocks.length)(hsz:df RP ty2=RJ 4)(hx:asg us x = RM (RJ (((slA vb).add (b*6)).add 2)))(hy:asg us y=v)(hr:Rd W v t)(hK : ∀h' o',Mk s M vs W h' o' (m.AF b t)->(∀k:Key,3<=k.1->o' k=o k)->K undef h'):@Lft.step po RP (.store ty2 x y) ty us h K:=by
 have hbl:b<lb.length:=by rw[bb.len];exact hb
 refine w.own.qW (k:=(0,2)) (α:=BlkM) BlkM.mY (v:=vb) (l:=lb) (i:=b) (d:=t) bb.blk hsz hx hy hbl hr λh7 w7 _=>?_;refine hK h7 _ ⟨w7,w.src,vb,vl,_,bb.gQ hb (x':={ nth m.blocks b with term:=t }) (y':={ lb[b]with term:=t }) rfl Own.aj ?_ ?_ λq h1 _ _=>Own.aB h1⟩ (oF R4)
 ·rw[Own.aB Sa,bb.phis b hb,aA hbl]
 rw[Own.aB Sa,bb.ins b hb,aA hbl]
end
theorem E0{H:View}{va vt:Value}{a t:List Int}{kd:Int}{imm:I32}(h3:SlRd H va a)(h4:SlRd H vt t)(h5:I64 kd)(h6:-2147483648<=imm.v/\imm.v<=2147483647):Rd H (.agg #[RG RH kd,va,vt,RG RI imm.v]) (cB.mk kd a t imm):=
 ⟨_,rfl,[RG RH kd],_,rfl,⟨rfl,h5⟩,[va],_,rfl,⟨va,rfl,h3⟩,[vt],_,rfl,⟨vt,rfl,h4⟩,rfl,h6⟩
theorem GL: ∀x∈cmpL,I64 x:=by
 intro x hx;have : ∀x∈cmpL,0<=x/\x<=13:=by decide
 have:=this x hx;exact R6
theorem La{s:List Int}{M:Nat}{W0:View}{h:Heap}{o0:Own}{m:MS}{vt:Value}{to:List Int}(n:Nx s M vs W0 h o0 m){c:Nat}(hb:b<m.blocks.length)(hm:m.ok c)(hc:c<=800000)(hfree:o0 (9,1)=RK)(ht:SlRd W0 vt to):
  az RP 56 #[RM (RJ ⟨M,0,RK⟩),RG RH b,vt] h (λv h'=>Nx s M vs W0 h' o0 (qH s to b m)):=by
 refine ao (args:=[RM (RJ ⟨M,0,RK⟩),RG RH b,vt]) follows Tryz.func56 E.jI RB λK hK=>?_;dsimp only[L.jI,lkF,lkG];have hmm:qH s to b m=_:=qH.eq_1 s to b m;have htm:jk s to b m=_:=jk.eq_1 s to b m;obtain⟨Wb,ob,gb,wb,fb⟩:=n;refine aa λz hz=>?_;simp;refine ak (z:=.agg #[RG RH 0,RL RK 0 0,RL RK 0 0,RG RI 0]) (places:=[(0,1),(1,1),(2,1),(3,1)]) (vs:=[]) (cs:=#[RG RH 0,RL RK 0 0,RL RK 0 0,RG RI 0]) R1 R1 Sa R1 ?_;refine wb.own.dA (k:=(9,1)) (n:=3) (l:=[RG RH 0,RL RK 0 0,RL RK 0 0,RG RI 0]) ((fb _ R4).trans hfree) (z:=.agg #[RG RH 0,RL RK 0 0,RL RK 0 0,RG RI 0]) R1 rfl R1 rfl R4 R7 R5 R5 λh1 q1 w1=>?_;generalize h.size=B at w1;obtain⟨o1,ho1⟩ : ∃o1,o1=ob.upd (9,1) (bx T.jy B (RawN.mk (n:=3) [RG RH 0,RL RK 0 0,RL RK 0 0,RG RI 0])):=⟨_,rfl⟩;have k1:o1 (9,1)=bx T.jy B (RawN.mk (n:=3) [RG RH 0,RL RK 0 0,RL RK 0 0,RG RI 0]):=by rw[ho1,Own.aj]
 have ht:=ht.mono gb;have n:Nz s M vs Wb h1 o1 m (RL RK 0 0) []:=by obtain⟨vb,vl,lb,bb⟩:=wb.box;rw[ho1];exact⟨Wb,_,View.le_refl _,⟨w1,wb.src,vb,vl,lb,bb.frame λq hq=>Own.aB (by rintro rfl;simp at hq)⟩,λ_ _=>rfl,aE⟩
 have back : ∀{h':Heap} {W':View} {o':Own} {m':MS} {i:Option Lft.Item},Wb.le W'->Mk s M vs W' h' o' m'->(∀k:Key,3<=k.1->o' k=o1.upd (9,1) i k)->Nx s M vs W0 h' o0 m':=by
  intro h' W' o' m' i g w f;refine⟨W',o'.upd (9,1) RK,RE gb g,⟨w.own.sub λq j hq=>?_,w.src,?_⟩,λk hk=>?_⟩
  ·unfold Own.upd at hq;split at hq
   ·cases hq
   exact hq
  ·obtain⟨vb,vl,lb,bb⟩:=w.box;exact⟨vb,vl,lb,bb.frame λq hq=>Own.aB (by rintro rfl;simp at hq)⟩
  by_cases e:k=(9,1)
  ·rw[e,Own.aj,hfree]
  rw[Own.aB e,f k hk,Own.aB e,ho1,Own.aB e,fb k hk]
 clear wb w1 q1;subst hz;refine aa λz hz=>?_;have fin : ∀(kd:Int) (va vt':Value) (args to':List Int) (im:Int) (m2:MS) (h':Heap) (ρ:Env),jk s to b m=(⟨kd,args,to',⟨im⟩⟩,m2)->I64 kd->(-2147483648<=im/\im<=2147483647)->b<m2.blocks.length->Nz s M vs Wb h' (o1.upd (9,1) (bx T.jy B (RawN.mk (n:=3) [RG RH kd,va,vt',RG RI im]))) m2 va args->SlRd Wb vt' to'->Lft.look ρ 0=RJ (RM (RJ ⟨M,0,RK⟩))->Lft.look ρ 1=RJ (RG RH b)->Lft.look ρ 6=RJ (RM (RJ ⟨B,0,RK⟩))->LC.wp RP z (cO [] K) ρ h':=by
  intro kd va vt' args to' im m2 h' ρ e ikd iim hb n ht' r0 r1 r6;subst hz;rw[e]at hmm;obtain⟨W,o,g1,w,f,sl⟩:=n;obtain⟨vb,vl,lb,bb⟩:=w.box;have hk:o (9,1)=bx T.jy B (RawN.mk (n:=3) [RG RH kd,va,vt',RG RI im]):=(f _ R4).trans Own.aj;have c4:=w.own.yf (k:=(9,1)) (n:=3) hk;have c4:Un.ev (vw h') (.aZ 4) (RM (RJ ⟨B,0,RK⟩))=RJ (.agg #[RG RH kd,va,vt',RG RI im]):=c4;have c3:an (vw h') ⟨M,3,RK⟩=RJ vb:=bb.cell w.own (i:=3) R4;have hbl:b<lb.length:=by rw[bb.len];exact hb
  have sb:=w.own.now bb.blk;have sbb:=sb.bound;refine aH (vw h') RD ?_;simp(disch:=omega)[r0,r1,r6,c3,c4,sb.idxn (N:=6) rfl];refine w.IV bb (b:=b) (t:=⟨kd,args,to',⟨im⟩⟩) hb R1 rfl rfl (E0 (imm:=⟨im⟩) sl (ht'.mono g1) ikd iim) λh2 o2 w2 f2=>?_;refine hK _ _ ?_;rw[hmm];exact back g1 w2 λk hk=>(f2 k hk).trans (f k hk)
 have hlen : ∀{Q:View},Un.ev Q .len vt=RJ (RG RH to.length):=fun{Q}=>ht.len;refine aa λy hy=>?_;simp[hlen];subst hy;simp only[aU];refine aa λy hy=>?_;simp;subst hy;by_cases c0:to.length=0
 ·have c0':to=[]:=N3 c0;rw[if_pos c0]at htm;refine aN (by simp[c0,c0']) ?_;refine aa λy hy=>?_;simp;refine n.dB (k:=(9,1)) (i:=0) R4 k1 R4 R1 rfl rfl rfl λh2 n=>?_;subst hy;refine aa λy hy=>?_;simp;refine ah R1 (fq n hm R3 (k:=8) R4 R4) ?_;rintro _ h3 ⟨rfl,n⟩;obtain⟨t0,t1⟩:=di (s:=s) (at_:=m.at_) (n:=8) R4;subst hy;refine aa λy hy=>?_;simp;subst hy;have n:Nz s M vs Wb h3 (o1.upd (9,1) (bx T.jy B (RawN.mk (n:=3) [RG RH 4,RL RK 0 0,RL RK 0 0,RG RI 0]))) m.took (RL RK 0 0) []:=n;by_cases c1:aR s m.at_ 8=0
  ·rw[if_pos c1]at htm;refine aN (by simp[c1]) ?_;refine aa λy hy=>?_;simp;refine n.dB (k:=(9,1)) (i:=0) R4 Own.aj R4 R1 rfl rfl rfl λh4 n=>?_;subst hy;simp;refine ah R1 (fq n hm.took R3 (k:=200) R4 R4) ?_;rintro _ h5 ⟨rfl,n⟩;have hx:m.took.at_=m.at_+1:=rfl;rw[hx];simp;refine n.dB (k:=(9,1)) (i:=3) R4 Own.aj R4 R1 rfl rfl rfl λh6 n=>?_;refine fin 5 (RL RK 0 0) (RL RK 0 0) [] [] _ _ h6 _ htm i64c nV hb ?_ aE ?_ ?_ ?_
   ·exact n.re λk=>by rw[eC,eC];rfl
   all_goals simp
  rw[if_neg c1]at htm;refine aP (by simp[c1]) ?_;refine aa λy hy=>?_;simp;subst hy;by_cases c2:1<aR s m.at_ 8
  ·rw[if_pos c2]at htm;refine aN (by simp[c2]) ?_;simp;refine ah R1 (je n (b:=b) hb hm.took R3) ?_;rintro _ h4 ⟨⟨rfl,i4⟩,n⟩;have hb2:b<(aT s m.took b).2.blocks.length:=by rw[ep];exact hb
   generalize aT s m.took b=r at htm i4 n hb2;refine n.lit (ls:=[r.1]) Sa (by simp[i4]) rfl R4 λua un uc h5 _ n=>?_;refine n.dB (k:=(9,1)) (i:=1) R4 Own.aj R4 R1 rfl rfl rfl λh6 n=>?_;refine fin 4 (.slice ua un uc) (RL RK 0 0) [r.1] [] 0 _ h6 _ htm i64c R4 hb2 (n.re λk=>by rw[eC];rfl) aE ?_ ?_ ?_;all_goals simp
  rw[if_neg c2]at htm;refine aP (by simp[c2]) ?_;simp;refine fin 4 (RL RK 0 0) (RL RK 0 0) [] [] 0 _ h3 _ htm i64c R4 hb n aE ?_ ?_ ?_;all_goals simp
 rw[if_neg c0]at htm;have c0':¬to=[]:=λe=>c0 (by rw[e];rfl);have hvt:vt.oneCell'=true:=ht.cells.2;refine aP (by simp[c0']) ?_;refine aa λy hy=>?_;simp;subst hy;by_cases c1:to.length=1
 ·rw[if_pos c1]at htm;refine aN (by simp[c1]) ?_;refine aa λy hy=>?_;simp;refine n.dB (k:=(9,1)) (i:=0) R4 k1 R4 R1 rfl rfl rfl λh2 n=>?_;subst hy;simp;refine n.dB (k:=(9,1)) (i:=2) R4 Own.aj R4 R1 rfl rfl hvt λh3 n=>?_;refine fin 1 (RL RK 0 0) vt [] to 0 _ h3 _ htm i64c R4 hb (n.re λk=>by rw[eC];rfl) ht ?_ ?_ ?_;all_goals simp
 rw[if_neg c1]at htm;refine aP R9 ?_;refine aa λy hy=>?_;simp;subst hy;by_cases c2:to.length=2
 ·rw[if_pos c2]at htm;refine aN (by simp[c2]) ?_;refine aa λy hy=>?_;simp;refine n.dB (k:=(9,1)) (i:=0) R4 k1 R4 R1 rfl rfl rfl λh2 n=>?_;subst hy;refine aa λy hy=>?_;simp;refine n.dB (k:=(9,1)) (i:=2) R4 Own.aj R4 R1 rfl rfl hvt λh3 n=>?_;have n:Nz s M vs Wb h3 (o1.upd (9,1) (bx T.jy B (RawN.mk (n:=3) [RG RH 2,RL RK 0 0,vt,RG RI 0]))) m (RL RK 0 0) []:=n.re λk=>by rw[eC];rfl
  subst hy;refine aa λy hy=>?_;simp;refine ah R1 (je n (b:=b) hb hm R3) ?_;rintro _ h4 ⟨⟨rfl,i4⟩,n⟩;have q:=hm.aT (s:=s) (b:=b);have hb2:b<(aT s m b).2.blocks.length:=by rw[ep];exact hb
  simp only at htm;generalize aT s m b=r at htm i4 n hb2 q;subst hy;refine aa λy hy=>?_;have fin2 : ∀(v:Int) (m3:MS) (h':Heap) (ρ:Env) (u:Value) (ds:List Int),jk s to b m=(⟨2,[v],to,⟨0⟩⟩,m3)->I64 v->b<m3.blocks.length->Nz s M vs Wb h' (o1.upd (9,1) (bx T.jy B (RawN.mk (n:=3) [RG RH 2,RL RK 0 0,vt,RG RI 0]))) m3 u ds->Lft.look ρ 0=RJ (RM (RJ ⟨M,0,RK⟩))->Lft.look ρ 1=RJ (RG RH b)->Lft.look ρ 6=RJ (RM (RJ ⟨B,0,RK⟩))->Lft.look ρ 8=RJ (RG RH v)->LC.wp RP y (fe 0 (eU (LC.wp RP z (cO [] K)) (cO [] K))) ρ h':=by intro v m3 h' ρ u ds e iv hb n r0 r1 r6 r8;subst hy;simp[af,ag,r0,r1,r6,r8];refine n.lit (ls:=[v]) Sa (by simp[iv]) rfl R4 λua un uc h5 _ n=>?_;refine n.dB (k:=(9,1)) (i:=1) R4 Own.aj R4 R1 rfl rfl rfl λh6 n=>?_;refine fin 2 (.slice ua un uc) vt [v] to 0 _ h6 _ e i64c R4 hb (n.re λk=>by rw[eC];rfl) ht ?_ ?_ ?_;all_goals simp[af,ag,r0,r1,r6,r8]
  refine aa λx hx=>?_;simp;refine ah R1 (fq n q R3 (k:=2) R4 R4) ?_;rintro _ h5 ⟨rfl,n⟩;simp;subst hx;by_cases c3:aR s r.2.at_ 2=0
  ·rw[if_pos c3]at htm;refine aN (by simp[c3]) ?_;refine aa λx hx=>?_;simp;refine ak (z:=.agg #[RG RH 0,RG RH 0,RG RH 0]) (places:=[(0,1),(1,1),(2,1)]) (vs:=[(0,RG RH 11),(1,RG RH 12),(2,RG RH 13)]) (cs:=#[RG RH 11,RG RH 12,RG RH 13]) R1 R1 Sa R1 ?_;refine fG (v:=.agg #[RG RH 11,RG RH 12,RG RH 13]) (z:=.agg #[RG RH 0,RG RH 0,RG RH 0]) (n:=3) R1 rfl R1 rfl R8 R5 R5 λh6 hle6 hs6 hb6=>?_;have n:Nz s M vs Wb h6 (o1.upd (9,1) (bx T.jy B (RawN.mk (n:=3) [RG RH 2,RL RK 0 0,vt,RG RI 0]))) r.2.took (RL (RJ ⟨h5.size,0,RK⟩) 3 3) cmpL:=by
    obtain⟨W,o,g1,g2,g3,g4⟩:=n;refine⟨_,o,RE g1 (aW g2.own.wle),⟨g2.own.ext hle6,g2.src.mono (aW g2.own.wle),g2.box⟩,g3,?_⟩;have hg:grow W h5 h6 h5.size=RJ (.cells (cmpL.map λx=>RG RH x).toArray T.KK (0,0)):=by rw[ck (NO _),hb6];rfl
    exact H6 hg rfl R4 GL
   generalize h5.size=C at n;subst hx;refine aa λx hx=>?_;simp;refine ah R1 (je n (b:=b) hb2 q.took R3) ?_;rintro _ h7 ⟨⟨rfl,i7⟩,n⟩;have q:=q.took.aT (s:=s) (b:=b);have hb3:b<(aT s r.2.took b).2.blocks.length:=by rw[ep];exact hb2
   generalize aT s r.2.took b=w at htm i7 n hb3 q;subst hx;refine aa λx hx=>?_;simp;refine ah R1 (hZ n q R3) ?_;rintro _ h8 ⟨rfl,n⟩;have iw:=q.kJ R3;subst hx;refine aa λx hx=>?_;simp;refine ah R1 (fq n q.aS R3 (k:=3) R4 R4) ?_;rintro _ h9 ⟨rfl,n⟩;have hfx:w.2.aS.at_=w.2.at_:=rfl;rw[hfx];obtain⟨t0,t1⟩:=di (s:=s) (at_:=w.2.at_) (n:=3) R4;generalize aR s w.2.at_ 3=k at htm t0 t1;obtain⟨kn,rfl⟩ : ∃kn:Nat,k=kn:=⟨k.toNat,by omega⟩;rw[show((kn:Int)).toNat=kn by omega]at htm;obtain⟨iop,hop⟩:I64 (nth cmpL kn)/\an (vw h9) ⟨C,kn,RK⟩=RJ (RG RH (nth cmpL kn)):=by obtain⟨W,o,g1,g2,g3,g4⟩:=n;refine⟨g4.range (i:=kn) (by show kn<3;omega),?_⟩;have:=g4.int g2.own.wle (i:=kn) (by show kn<3;omega);simpa[slA]using this
   have hix:Bn.ev (.aidx 3 1) (RM (RJ ⟨C,0,RK⟩)) (RG RH kn)=RJ (RM (RJ ⟨C,kn,RK⟩)):=by simp only[Bn.ev,vP,vI,Ov];rw[if_pos R6];simp
   generalize nth cmpL kn=op at htm iop hop;simp[hix,hop];refine n.lit (ls:=[r.1,w.1]) Sa (by simp[i4,i7]) rfl R4 λua un uc h10 _ n=>?_;refine ak (z:=.agg #[RG RH 0,RG RH 0,RG RH 0,RL RK 0 0,RG RI 0]) (places:=[(0,1),(1,1),(2,1),(3,1),(4,1)]) (vs:=[(0,RG RH op),(1,RG RH w.2.next),(3,.slice ua un uc)]) (cs:=#[RG RH op,RG RH w.2.next,RG RH 0,.slice ua un uc,RG RI 0]) R1 R1 Sa R1 ?_;refine ah R1 (lS n (b:=b) hb3 q.aS.took R3 iop iw i64c R4) ?_;rintro _ h11 n;subst hx;simp;refine fin2 w.2.next _ h11 _ _ _ htm iw (by rw[nR];exact hb3) n.z ?_ ?_ ?_ ?_;all_goals simp
  rw[if_neg c3]at htm;refine aP (by simp[c3]) ?_;simp;refine fin2 r.1 _ h5 _ _ _ htm i4 hb2 n ?_ ?_ ?_ ?_;all_goals simp
 rw[if_neg c2]at htm;refine aP R9 ?_;refine aa λy hy=>?_;simp;refine n.dB (k:=(9,1)) (i:=0) R4 k1 R4 R1 rfl rfl rfl λh2 n=>?_;subst hy;refine aa λy hy=>?_;simp;refine n.dB (k:=(9,1)) (i:=2) R4 Own.aj R4 R1 rfl rfl hvt λh3 n=>?_;have n:Nz s M vs Wb h3 (o1.upd (9,1) (bx T.jy B (RawN.mk (n:=3) [RG RH 3,RL RK 0 0,vt,RG RI 0]))) m (RL RK 0 0) []:=n.re λk=>by rw[eC];rfl
 subst hy;refine aa λy hy=>?_;simp;refine ah R1 (je n (b:=b) hb hm R3) ?_;rintro _ h4 ⟨⟨rfl,i4⟩,n⟩;have q:=hm.aT (s:=s) (b:=b);have hb2:b<(aT s m b).2.blocks.length:=by rw[ep];exact hb
 simp only at htm;generalize aT s m b=r at htm i4 n hb2 q;subst hy;refine aa λy hy=>?_;simp;refine ah R1 (gM n (b:=b) hb2 q R3 (k:=7) R4) ?_;rintro _ h5 ⟨rfl,n⟩;have i5:=q.kJ R3;have q5:=q.constant (b:=b) (n:=7);have hb3:b<(r.2.constant b 7).blocks.length:=by rw[dY];exact hb2
 generalize r.2.constant b 7=m2 at htm n q5 hb3;generalize r.2.next=d at htm i5;subst hy;refine aa λy hy=>?_;simp;refine ah R1 (hZ n q5 R3) ?_;rintro _ h6 ⟨rfl,n⟩;have i6:=q5.kJ R3;subst hy;refine aa λy hy=>?_;simp;refine n.lit (ls:=[r.1,d]) Sa (by simp[i4,i5]) rfl R4 λua un uc h7 _ n=>?_;refine ak (z:=.agg #[RG RH 0,RG RH 0,RG RH 0,RL RK 0 0,RG RI 0]) (places:=[(0,1),(1,1),(2,1),(3,1),(4,1)]) (vs:=[(0,RG RH 5),(1,RG RH m2.next),(3,.slice ua un uc)]) (cs:=#[RG RH 5,RG RH m2.next,RG RH 0,.slice ua un uc,RG RI 0]) R1 R1 Sa R1 ?_;refine ah R1 (lS n (b:=b) hb3 q5.aS R3 i64c i6 i64c R4) ?_;rintro _ h8 n;have n:=n.z;subst hy;simp;refine n.lit (ls:=[m2.next]) Sa (by simp[i6]) rfl R4 λua un uc h9 _ n=>?_;refine n.dB (k:=(9,1)) (i:=1) R4 Own.aj R4 R1 rfl rfl rfl λh10 n=>?_;refine fin 3 (.slice ua un uc) vt [m2.next] to 0 _ h10 _ htm i64c R4 (show b<(m2.two b 5 r.1 d).blocks.length by rw[pD];exact hb3) (n.re λk=>by rw[eC];rfl) ht ?_ ?_ ?_;all_goals simp
def uM (f:aq) (b:Nat) (t:Th):Bool:=decide (t.blk=b)||!nth (dF f t.blk) b
def eZ (f:aq) (b:Nat) (out:List Int) (t:Th):List Int:=if uM f b t then out++t.mks else out
def jd (f:aq) (b:Nat):List Int:=(aC f).foldl (eZ f b) (rows (λi=>(i:Int)) f.params.toNat)
def wx (v:Value) (l:List Int):Own:=λk=>if k=(0,0) then it T.int v l else RK
theorem yI{v v':Value}{l l':List Int}(q:Key):wx v' l' q=(wx v l).upd (0,0) (it T.int v' l') q:=by
 unfold wx Own.upd;repeat' split
 all_goals first | rfl | simp_all
theorem yM{l:List Th}{f:aq}{c:Nat}(hl : ∀t∈l,t.mks.length<=c): ∀{out:List Int},(l.foldl (eZ f b) out).length<=out.length+c*l.length:=by
 induction l with
 | nil=>intro out;simp
 | cons t l ih=>
  intro out;have h1:=ih (λt ht=>hl t (by simp[ht])) (out:=eZ f b out t);have h2:(eZ f b out t).length<=out.length+c:=by
   unfold eZ;have:=hl t Sa;split
   ·rw[N1];omega
   omega
  rw[N8,OX,QX];omega
theorem Av.MD{V W:View}{v:Value}(hw:Av W v)(h:V.le W):Av V v:=λb hb=>by
 cases hv:V b with
 | none=>rfl
 | some x=>have:=h b x hv;rw[hw b hb]at this;cases this
theorem Cy{W W':View}{h:Heap}{e:TypeId}{v:Value}{l:List Int}(o:OwnT W h e v l):OwnT W' h e v l:=by obtain⟨b,xs,h1,h2⟩:=o;exact⟨b,xs,h1,λi hi=>h2 i hi⟩
theorem MB{h:Heap}{v:Value}(ha:Av (vw h) v): ∀b,v.ownBlock=RJ b->h.size<=b:=λb hb=>by have:h[b]? = none:=ha b hb;rwa [Array.getElem?_eq_none_iff]at this
theorem CE{f:aq}{v:Value}{h:Heap}(hv:Rd (vw h) v f)(hsm:SmF f)(hp:0<=f.params/\f.params<=1000)(hb:b<f.blocks.length)(hmk : ∀t∈aC f,t.mks.length<=1000)(hth:(aC f).length<=1000000):
  az RP 57 #[v,RG RH b] h (λu h'=>(vw h).le (vw h')/\(∀b,u.ownBlock=RJ b->h.size<=b)/\OwnT nothing h' T.int u (jd f b)):=by
 refine ao (args:=[v,RG RH b]) follows Tryz.func57 E.cm RB λK hK=>?_;dsimp only[L.cm,lkF,lkG];refine aa λz hz=>?_;simp;refine fW rfl hv λh1 _ hle1 hs1 hat=>?_;obtain⟨cp,vb,cb⟩:=gH hat;obtain⟨uf,huf,hufr⟩:=hat.aZ rfl;have huf:Un.ev (vw h1) (.aZ 2) (RM (RJ ⟨h.size,0,RK⟩))=RJ uf:=huf;generalize h.size=B at cp cb huf;subst hz;refine aa λz hz=>?_;simp;refine(Owns.start (h:=h1) (View.le_refl (vw h1))).nu (k:=(0,0)) (α:=Int) rfl El.aQ λvo h2 hle2 hvo w2 _=>?_;have w2:Owns (vw h1) h2 (wx vo []):=w2.congr λq=>by unfold wx Own.upd;split<;>rfl
 subst hz;refine aa λz hz=>?_;simp;obtain⟨n,hn⟩ : ∃n:Nat,n=f.params.toNat:=⟨_,rfl⟩;have hpn:f.params=n:=by omega
 rw[hpn]at cp;refine bX [0,1,2,5,6] (fun(vo:Value) i=>[v,RG RH b,RM (RJ ⟨B,0,RK⟩),vo,RG RH i]) (λvo i h3=>Owns (vw h1) h3 (wx vo (rows (λi=>(i:Int)) i))) n vo
  rfl R3 rfl w2 (λ_ _=>rfl) (λv k h3 hk m=>by simp[ae m.wle cp]) ?_ ?_
 ·rintro vo i h3 hlt w3 K2 hK2;simp;refine w3.jl (k:=(0,0)) (α:=Int) (v:=vo) (l:=rows (λi=>(i:Int)) i) (d:=(i:Int)) rfl El.aQ rfl (bg.2 ⟨rfl,by constructor<;>omega⟩) R9 R9 (λ_=>rfl) (λ_=>rfl) λu v' h4 w4 _=>?_;refine hK2 v' _ _ rfl rfl (w4.congr λq=>?_);rw[e9];exact yI q
 rintro vo h3 w3;simp;subst hz;refine aa λz hz=>?_;have huf3:Un.ev (vw h3) (.aZ 2) (RM (RJ ⟨B,0,RK⟩))=RJ uf:=by have:=dk (ρ:=λ_=>RK) (e:=.un (.aZ 2) (.con (RM (RJ ⟨B,0,RK⟩)))) w3.wle (by simpa using huf);simpa using this
 simp[huf3];refine ah R1 (kD hufr w3.wle hsm) ?_;rintro vt h4 ⟨hle4,hst⟩;have w4:=w3.ext hle4;have hW4:=aW (h':=h4) w3.wle;generalize grow (vw h1) h3 h4=W4 at hst w4 hW4;subst hz;refine aa λz hz=>?_;simp;have hsd:jd f b=(aC f).foldl (eZ f b) (rows (λi=>(i:Int)) n):=by rw[hn];rfl
 have hlen : ∀i,((List.take i (aC f)).foldl (eZ f b) (rows (λi=>(i:Int)) n)).length<=1001001000:=λi=>by
  have h1:=yM (l:=List.take i (aC f)) (f:=f) (b:=b) (c:=1000) (λt ht=>hmk t (List.mem_of_mem_take ht)) (out:=rows (λi=>(i:Int)) n);have h2:(List.take i (aC f)).length<=(aC f).length:=by simp;omega
  rw[nv]at h1;omega
 generalize rows (λi=>(i:Int)) n=base at w4 hsd hlen;have tb:=hst.bound;refine bX [0,1,2,5,7,8] (fun(vo:Value) i=>[v,RG RH b,RM (RJ ⟨B,0,RK⟩),vo,vt,RG RH i]) (λvo i h5=>∃W,W4.le W/\Owns W h5 (wx vo ((List.take i (aC f)).foldl (eZ f b) base))) (aC f).length vo
  rfl R3 rfl ⟨W4,View.le_refl _,w4⟩ (λ_ _=>rfl) (λv k h5 hk ⟨W,q1,q2⟩=>by simp[hst.len]) ?_ ?_
 ·rintro vo i h5 hlt ⟨W5,hW5,w5⟩ K2 hK2;have hst5:=hst.mono hW5;have hl5:=hlen i;have hsucc:(List.take (i+1) (aC f)).foldl (eZ f b) base=eZ f b ((List.take i (aC f)).foldl (eZ f b) base) (nth (aC f) i):=by rw[NT hlt,O8,aA hlt];rfl
  generalize (List.take i (aC f)).foldl (eZ f b) base=out at w5 hsucc hl5;have hat5:=hst5.at hlt;rw[<-aA hlt]at hat5;have hmt:=hmk _ (bz hlt);generalize nth (aC f) i=t at hat5 hsucc hmt;have hblk:an W5 (((slA vt).add (i*4)).add 0)=RJ (RG RH t.blk):=(hat5.part Th.zi).int;obtain⟨vm,hvm⟩:=(hat5.part Th.BI).sl;have hvm1:an W5 (((slA vt).add (i*4)).add 2)=RJ vm:=hvm.1;have hvm2:=hvm.2;have h64:=(hat5.part Th.zi).rng;simp only[aU];refine aa λy hy=>?_;simp;subst hy;refine aa λy hy=>?_;have fin : ∀(h6:Heap) (ρ:Env) (W6:View),W5.le W6->Owns W6 h6 (wx vo out)->Lft.look ρ 0=RJ v->Lft.look ρ 1=RJ (RG RH b)->Lft.look ρ 2=RJ (RM (RJ ⟨B,0,RK⟩))->Lft.look ρ 5=RJ vo->Lft.look ρ 7=RJ vt->Lft.look ρ 8=RJ (RG RH i)->Lft.look ρ 9=RJ (.bool (uM f b t))->
    LC.wp RP y (fe 3 (eU K2 (fe 2 (eU (LC.wp RP z (cO [.tmp 4] K)) (cO [.tmp 4] K))))) ρ h6:=by
   intro h6 ρ W6 hW6 w6 r0 r1 r2 r5 r7 r8 r9;subst hy;refine aa λy hy=>?_;simp[af,ag,r9];subst hy;have hsp:eZ f b out t=if uM f b t then out++t.mks else out:=rfl;rw[hsp]at hsucc;by_cases ca:uM f b t=RN
   ·rw[if_pos ca]at hsucc;refine aN (by simp[af,ag,ca]) ?_;have hst6:=hst5.mono (RE hW6 w6.wle);simp(disch:=omega)[af,ag,r0,r1,r2,r5,r7,r8,hst6.idxn (N:=4) rfl,ae (RE hW6 w6.wle) hvm1];refine w6.dU (k:=(0,0)) (α:=Int) (v:=vo) (l:=out) (l2:=t.mks) rfl El.aQ rfl rfl ((hvm2.mono hW6).src w6.wle) R3 R3 λv' h7 w7 _=>?_;refine hK2 v' _ _ ?_ ?_ ⟨W6,RE hW5 hW6,w7.congr λq=>?_⟩
    ·simp[af,ag,r8]
    ·simp[bF,af,ag,r0,r1,r2,r5,r7,r8]
    rw[hsucc];exact yI q
   rw[if_neg ca]at hsucc;refine aP (by simp[af,ag,ca]) ?_;simp;refine hK2 vo _ _ ?_ ?_ ⟨W6,RE hW5 hW6,by rw[hsucc];exact w6⟩
   ·simp[af,ag,r8]
   simp[bF,af,ag,r0,r1,r2,r5,r7,r8]
  refine aa λx hx=>?_;simp(disch:=omega)[(hst5.mono w5.wle).idxn (N:=4) rfl,ae w5.wle hblk];subst hx;by_cases cb:t.blk=b
  ·refine aP (by simp[cb]) ?_;simp;refine fin h5 _ W5 RD w5 ?_ ?_ ?_ ?_ ?_ ?_ ?_;all_goals simp[uM,cb]
  refine aN (by simp[cb]) ?_;refine aa λx hx=>?_;have hf5:Rd (vw h5) uf f:=hufr.mono (RE hW4 (RE hW5 w5.wle));have huf5:Un.ev (vw h5) (.aZ 2) (RM (RJ ⟨B,0,RK⟩))=RJ uf:=by have:=dk (ρ:=λ_=>RK) (e:=.un (.aZ 2) (.con (RM (RJ ⟨B,0,RK⟩)))) (RE hW4 (RE hW5 w5.wle)) (by simpa using huf);simpa using this
  refine aH (vw h5) RD ?_;simp(disch:=omega)[(hst5.mono w5.wle).idxn (N:=4) rfl,ae w5.wle hblk,huf5];refine ah R1 (oW hf5 (by have:=hsm.len;omega)) ?_;rintro ur h6 ⟨hle6,hur⟩;have w6:=w5.ext hle6;have hW6:=aW (h':=h6) w5.wle;have hur6:SlRd (vw h6) ur (dF f t.blk):=hur.mono (lK h5 h6);have hrl:(dF f t.blk).length=f.blocks.length:=my;subst hx;simp(disch:=omega)[hur6.idx1 rfl,hur6.bool RD];refine fin h6 _ _ hW6 w6 ?_ ?_ ?_ ?_ ?_ ?_ ?_;all_goals simp[uM,cb]
 rintro vo h5 ⟨W5,hW5,w5⟩;rw[OK,<-hsd]at w5;simp;subst hz;simp;have hX:(vw h).le W5:=RE hle1 (RE hW4 hW5);exact hK _ _ ⟨RE hX w5.wle,MB (Av.MD (w5.av (0,0) _ rfl) hX),Cy (w5.get (k:=(0,0)) (v:=vo) rfl)⟩
end Go.Proofs.YtnfiilgdjpdlkaaGreatDoor
namespace Go.Lft
open Go
theorem xd {P:Program} {Q:Post} {ρ:Env} {h:Heap} {a i c:Nat} {ks ks2:List Nat} {ce:E} {body:LC} {σ:Type} (kp:List Nat) (vals:σ->Nat->List Value) (J:σ->Nat->Heap->Prop) (n:Nat) (d:Nat) (s0:σ)
  (hok:vU kp ks ks2 c i=RN) (hn:n+d<=9223372036854775806) (h0:bF kp ρ=kp.zip (vals s0 0)) (hj:J s0 0 h)
  (hi : ∀s k,look (kp.zip (vals s k)) i=RJ (RG RH ((k+d:Nat):Int)))
  (hb : ∀s k h,k<=n->J s k h->ev (look (kp.zip (vals s k))) (vw h) ce=RJ (.bool (decide (k<n))))
  (round : ∀s k h,k<n->J s k h->∀K:Env->Heap->Prop,(∀s' ρ' h',look ρ' i=RJ (RG RH ((k+d:Nat):Int))->bF kp (setE ρ' i (RG RH (((k+d:Nat):Int)+1)))=kp.zip (vals s' (k+1))->J s' (k+1) h'->K ρ' h')->body.wp P (eU K (fe a Q)) (kp.zip (vals s k)) h)
  (done : ∀s h,J s n h->Q .normal (kp.zip (vals s n)) h):LC.wp P (forC a i c ks ks2 ce body) (fe a Q) ρ h:=by
 simp only[vU,OJ,NS,Pl,bne_iff_ne,OV,beq_iff_eq,ne_eq]at hok;refine gY kp (λm ρ h=>∃s k,k<=n/\ρ=kp.zip (vals s k)/\m=n-k/\J s k h) n ⟨s0,0,by omega,h0,by omega,hj⟩ ?_;rintro m ρ h ⟨s,k,hk,rfl,rfl,hJ⟩ K hK;have hkill:bY (kp.zip (vals s k)) ks=kp.zip (vals s k):=mZ λp hp=>(hok p.1 (zip_fst hp)).1.1;have hne : ∀p∈kp.zip (vals s k),p.1≠c:=λp hp=>(hok p.1 (zip_fst hp)).1.2;have hk2 : ∀v,bY (setE (kp.zip (vals s k)) c v) [c]=kp.zip (vals s k):=λv=>ni hne;have hlk : ∀v,look (setE (kp.zip (vals s k)) c v) c=RJ v:=λv=>by rw[af,if_pos rfl]
 simp only[pF,kF,jX,iu,lF,nZ,hb s k h hk hJ,Ov,km,nS,true_and,dx,hkill,fQ,lI,lT,hlk,mw,hk2,tO,sY,oX,oU,if_true];refine⟨λhlt=>?_,λhge=>?_⟩
 ·have hlt':k<n:=by omega
  rw[nH];refine round s k h hlt' hJ _ λs' ρ' h' hl he hJ'=>?_;simp only[kF,jX,iu,lF,nZ,mL,lT,hl,nS,true_and,Ov,Ab,Ov,AP,km,dx,fQ,true_and];rw[bh R3 R3];refine hK (n-(k+1)) _ _ R3 ⟨s',k+1,by omega,?_,rfl,hJ'⟩;rw[<-he];refine oy λt ht=>?_;rw[af,af,ag];split
  ·rfl
  rename_i hti;rcases(hok t ht).2 with e | e
  ·exact absurd e.symm hti
  rw[e];rfl
 have:k=n:=by omega
 subst this;exact done s h hJ
open Classical in
/-- Several of one's own, written no more. -/
theorem Owns.zn {W:View} {h:Heap} {o:Own} (w:Owns W h o) (S:Key->Bool) :
  ∃W':View,W.le W'/\Owns W' h (λk=>if S k then RK else o k)/\∀{k:Key} {α:Type} [r:Rep α] {e:TypeId} {v:Value} {l:List α},S k=RN->o k=it e v l->SlRd W' v l:=by
 have hle:W.le (λb=>if ∃k i,S k=RN/\o k=RJ i/\i.v.ownBlock=RJ b then h[b]? else W b):=λb x hb=>by
  show(if _ then _ else _)=_;rw[if_neg]
  ·exact hb
  rintro⟨k,i,_,h2,h3⟩;rw[w.av k i h2 b h3]at hb;cases hb
 refine⟨λb=>if ∃k i,S k=RN/\o k=RJ i/\i.v.ownBlock=RJ b then h[b]? else W b,hle,?_,?_⟩
 ·refine⟨λb x hb=>?_,λk i hk=>?_,λk i hk b hb=>?_,λk k' i i' b hk hk'=>?_⟩
  ·split at hb
   ·exact hb
   exact w.wle b x hb
  ·split at hk
   ·cases hk
   exact @OwnT.mono i.α i.rep _ _ _ _ _ (w.own k i hk) _ hle
  ·split at hk
   ·cases hk
   rename_i hs;show(if _ then _ else _)=_;rw[if_neg]
   ·exact w.av k i hk b hb
   rintro⟨k',i',h1,h2,h3⟩;exact hs (w.dj k k' i i' b hk h2 hb h3▸h1)
  split at hk
  ·cases hk
  split at hk'
  ·cases hk'
  exact w.dj k k' i i' b hk hk'
 intro k α r e v l hs hk;refine(w.get hk).rd hle λb hb=>?_;rw[if_pos ⟨k,_,hs,hk,hb⟩]
theorem Owns.nils {W:View} {h:Heap} {o o':Own} (w:Owns W h o) (ho : ∀k i,o' k=RJ i->o k=RJ i\/(i.v = RL RK 0 0/\@OwnT i.α i.rep W h i.e i.v i.l)):Owns W h o':=by
 have hnb : ∀{i:Item} {b:Nat},i.v = RL RK 0 0->i.v.ownBlock=RJ b->False:=λe hb=>by rw[e]at hb;simp[Value.ownBlock]at hb
 refine⟨w.wle,λk i hk=>?_,λk i hk b hb=>?_,λk k' i i' b hk hk' hb hb'=>?_⟩
 ·rcases ho k i hk with h1 | ⟨_,h1⟩
  ·exact w.own k i h1
  exact h1
 ·rcases ho k i hk with h1 | ⟨e,_⟩
  ·exact w.av k i h1 b hb
  exact(hnb e hb).elim
 rcases ho k i hk with h1 | ⟨e,_⟩
 ·rcases ho k' i' hk' with h2 | ⟨e,_⟩
  ·exact w.dj k k' i i' b h1 h2 hb hb'
  exact(hnb e hb').elim
 exact(hnb e hb).elim
end Go.Lft
namespace Go.Proofs.YtnfiilgdjpdlkaaGreatDoor
open Go Go.Lft
abbrev TgS:=List (List Int) × MS
def pY (x:TgS) (p b:Nat) (m:MS):TgS:=(x.1.set p (nth x.1 p++[(b:Int)]),m)
def tgA (s:List Int) (k:Nat) (x:TgS):TgS:=
 if aR s x.2.at_ 3=0 then pY x (aR s (x.2.at_+1) ((k+1:Nat):Int)).toNat (k+1) x.2.took.took
 else pY x k (k+1) x.2.took
def tgI (s:List Int) (n b:Nat) (x:TgS):TgS:=
 let t:=1+aR s x.2.at_ ((n:Int)-1)
 if t<=b then
  if aR s (x.2.at_+1) 2=0 then pY x b (min (b+1) (n-1)) x.2.took.took else pY x b t.toNat x.2.took.took
 else pY x b t.toNat x.2.took
def tgB (s:List Int) (n b:Nat) (x:TgS):TgS:=up (λ_=>tgI s n b) (if 1<n then(aR s x.2.at_ 6-3).toNat else 0) (x.1,x.2.took)
def qE (s:List Int) (n:Nat) (m:MS):TgS:=up (tgB s n) n (up (tgA s) (n-1) (List.replicate n [],m))
structure TgO (ri:Own) (o:Own) (vo:Value) (l:List (List Int)) (rv:List Raw):Prop where
 res : ∀k:Key,8<=k.1->o k=ri k
 top:o (3,0)=it T.aQ vo rv
 len:rv.length=l.length
 row : ∀i,i<l.length->o (4,i)=it T.int (nth rv i).v (nth l i)
 els : ∀k:Key,3<=k.1->k.1<8->k≠(3,0)->(∀i,i<l.length->k≠(4,i))->o k=RK
theorem TgO.put {ri:Own} {o:Own} {vo:Value} {l:List (List Int)} {rv:List Raw} (q:TgO ri o vo l rv) {p:Nat} (hp:p<l.length) {v':Value} {r:List Int}:TgO ri ((o.upd (4,p) (it T.int v' r)).upd (3,0) (it T.aQ vo (rv.set p ⟨v'⟩))) vo (l.set p r) (rv.set p ⟨v'⟩):=by
 have hpr:p<rv.length:=by rw[q.len];exact hp
 refine⟨λk hk=>(Own.aB (by rintro rfl;simp at hk)).trans ((Own.aB (by rintro rfl;simp at hk)).trans (q.res k hk)),Own.aj,by simp[q.len],λi hi=>?_,λk h1 h8 h2 h3=>?_⟩
 ·have hi:i<l.length:=by simpa using hi
  have hir:i<rv.length:=by rw[q.len];exact hi
  rw[Own.aB Sa,bN hir,bN hi];by_cases e:p=i
  ·subst e;rw[Own.aj,if_pos rfl,if_pos rfl]
  rw[Own.aB (λe2=>e (by injection e2 with _ e2;exact e2.symm)),if_neg e,if_neg e];exact q.row i hi
 have h3 : ∀i,i<l.length->k≠(4,i):=λi hi=>h3 i (by simpa using hi);rw[Own.aB h2,Own.aB (h3 p hp)];exact q.els k h1 h8 h2 h3
def Tg (ri:Own) (s:List Int) (M:Nat) (vs:Value) (W:View) (vo:Value) (h:Heap) (x:TgS):Prop:=∃W' o rv,W.le W'/\Mk s M vs W' h o x.2/\TgO ri o vo x.1 rv
section
variable {s:List Int} {M:Nat} {vs:Value} {W:View} {vo:Value} {h:Heap} {x:TgS} {ri:Own}
theorem Tg.take (t:Tg ri s M vs W vo h x) {c:Nat} (hm:x.2.ok c) (hc:c<=1000000) {k:Int} (hk:0<k) (hk2:k<=1000000000) :
  az RP 34 #[RM (RJ ⟨M,0,RK⟩),RG RH k] h (λv h'=>v = RG RH (aR s x.2.at_ k)/\Tg ri s M vs W vo h' (x.1,x.2.took)):=by obtain⟨W',o,rv,g,w,q⟩:=t;refine(w.take (by have:=hm.at_;omega) hk hk2).mono ?_;rintro v h' ⟨e,o',w',f⟩;exact⟨e,W',o',rv,g,w',λk hk=>(f k R3).trans (q.res k hk),(f _ R4).trans q.top,q.len,λi hi=>(f _ (by show 3<=4;decide)).trans (q.row i hi),λk h1 h8 h2 h3=>(f _ h1).trans (q.els k h1 h8 h2 h3)⟩
theorem Tg.idx (t:Tg ri s M vs W vo h x) {k:IntKind} {i:Int} (h0:0<=i) (h1:i<x.1.length):Bn.ev (.idx 1) vo (.int k i)=RJ (RM (RJ ((slA vo).add i.toNat))):=by obtain⟨W',o,rv,g,w,q⟩:=t;exact(w.own.now q.top).idx1 rfl h0 (by rw[q.len];exact h1)
theorem Tg.put {po po2 po3:OP} (t:Tg ri s M vs W vo h x) {p:Nat} (hp:p<x.1.length) (hl:(nth x.1 p).length<=1000000) {b:Nat} (hb:b<=1000000) :
  ∃v:Value,an (vw h) ((slA vo).add p)=RJ v/\∀{ty ty2 ty3:TypeId} {a a1 a2:Operand} {c1 c2:Operand} {us:List (Nat × Value)} {us2:Value->List (Nat × Value)} {us3:Value->Value->List (Nat × Value)} {K:Value->Value->Value->Heap->Prop},
   asg us a = RG RH b->(∀u,asg (us2 u) a1=v)->(∀u,asg (us2 u) a2=u)->(∀u v',asg (us3 u v') c1 = RM (RJ ((slA vo).add p)))->(∀u v',asg (us3 u v') c2=v')->(∀u v' h',Tg ri s M vs W vo h' (pY x p b x.2)->K u v' undef h')->
   @Lft.step po RP (.buildSlice T.aQ 1 #[(0,a)]) ty us h λu h2=>@Lft.step po2 RP (.call ⟨.builtin .append,#[a1,a2],#[T.aQ,T.aQ]⟩) ty2 (us2 u) h2 λv' h3=>@Lft.step po3 RP (.store T.aQ c1 c2) ty3 (us3 u v') h3 λw h4=>K u v' w h4:=by
 obtain⟨W',o,rv,g,w,q⟩:=t;have hpr:p<rv.length:=by rw[q.len];exact hp
 have hcell:=((w.own.now q.top).at hpr).raw;have hn:Rep.n Raw=1:=rfl;rw[hn,OR,<-aA hpr]at hcell;refine⟨_,hcell,fun{ty ty2 ty3 a a1 a2 c1 c2 us us2 us3 K} ha ha1 ha2 hc1 hc2 hK=>?_⟩;refine w.own.jl (k:=(4,p)) (α:=Int) (d:=(b:Int)) (q.row p hp) El.aQ ha (bg.2 ⟨rfl,by constructor<;>omega⟩) R3 R3 ha1 ha2 λu v' h3 w3 _=>?_;have hv:=(w3.cells (k:=(4,p)) Own.aj).2;refine w3.aK (k:=(3,0)) (α:=Raw) (v:=vo) (l:=rv) (i:=p) (d:=⟨v'⟩) ((Own.aB Sa).trans q.top) R1 (by rw[hc1,hn,OR]) (hc2 u v') hpr (om.2 ⟨rfl,hv⟩) λh4 w4 _=>hK u v' h4 ?_;obtain⟨vb,vl,lb,bb⟩:=w.box;exact⟨W',_,_,g,⟨w4,w.src,vb,vl,lb,bb.frame λk hk=>by rw[Own.aB (by rintro rfl;simp at hk),Own.aB (by rintro rfl;simp at hk)]⟩,q.put hp⟩
end
theorem y6 {x:TgS} {p b:Nat} {m:MS}:(pY x p b m).1.length=x.1.length:=by simp[pY]
theorem Fv {x:TgS} {p b c:Nat} {m:MS} (h : ∀i,(nth x.1 i).length<=c) : ∀i,(nth (pY x p b m).1 i).length<=c+1:=by
 intro i;have hi:=h i;rcases NQ i x.1.length with hl | hl
 ·show(nth (x.1.set p _) i).length<=_;rw[bN hl];split
  ·rename_i e;subst e;rw[N1,OC];omega
  omega
 rw[dp (by rw[y6];exact hl)];show 0<=_;omega
structure TgK (n c:Nat) (x:TgS):Prop where
 len:x.1.length=n
 row : ∀i,(nth x.1 i).length<=c
 ok:x.2.ok c
theorem TgK.mono {n c d:Nat} {x:TgS} (h:TgK n c x) (hd:c<=d):TgK n d x:=⟨h.len,λi=>OD (h.row i) hd,h.ok.mono hd⟩
theorem TgK.put {n c p b:Nat} {x:TgS} {m:MS} (h:TgK n c x) (hm:m.ok (c+2)):TgK n (c+2) (pY x p b m):=⟨y6.trans h.len,λi=>by have:=Fv (p:=p) (b:=b) (m:=m) h.row i;omega,hm⟩
theorem LD {s:List Int} {n c k:Nat} {x:TgS} (h:TgK n c x):TgK n (c+2) (tgA s k x):=by
 unfold tgA;split
 ·exact h.put h.ok.took.took
 exact h.put (h.ok.took.mono R3)
theorem LH {s:List Int} {n c b:Nat} {x:TgS} (h:TgK n c x):TgK n (c+2) (tgI s n b x):=by
 unfold tgI;simp only;repeat' split
 ·exact h.put h.ok.took.took
 ·exact h.put h.ok.took.took
 exact h.put (h.ok.took.mono R3)
theorem Ak {s:List Int} {n c:Nat} {x:TgS} (h:TgK n c x) : ∀k,TgK n (c+2*k) (up (tgA s) k x)
 | 0=>h
 | k+1=>(LD (Ak h k)).mono R3
theorem DF {s:List Int} {n c b:Nat} {x:TgS} (h:TgK n c x) : ∀k,TgK n (c+2*k) (up (λ_=>tgI s n b) k x)
 | 0=>h
 | k+1=>(LH (DF h k)).mono R3
theorem Lh {s:List Int} {n c b:Nat} {x:TgS} (h:TgK n c x):TgK n (c+10) (tgB s n b x):=by unfold tgB;have ht:=di (s:=s) (at_:=x.2.at_) (n:=6) R4;have h1:TgK n (c+1) (x.1,x.2.took):=⟨h.len,λi=>by have:=h.row i;show(nth x.1 i).length<=_;omega,h.ok.took⟩;refine(DF h1 _).mono ?_;split<;>omega
theorem DC {s:List Int} {n c:Nat} {x:TgS} (h:TgK n c x) : ∀k,TgK n (c+10*k) (up (tgB s n) k x)
 | 0=>h
 | k+1=>(Lh (DC h k)).mono R3
theorem Dl {s:List Int} {M:Nat} {vs:Value} {W:View} {h:Heap} {o:Own} {m:MS} {ri:Own} (w:Mk s M vs W h o m) (hres : ∀k:Key,8<=k.1->o k=ri k) (ho : ∀k:Key,3<=k.1->k.1<8->o k=RK) {n c:Nat} (hm:m.ok c) (hc:c<=1000) (hn1:1<=n) (hn2:n<=100) :
  az RP 50 #[RM (RJ ⟨M,0,RK⟩),RG RH n] h (λu h'=>∃W' o',W.le W'/\Mk s M vs W' h' o' (qE s n m).2/\(∀k:Key,8<=k.1->o' k=ri k)/\(∀k:Key,3<=k.1->k.1<8->o' k=RK)/\SlRd W' u (qE s n m).1):=by
 refine ao (args:=[RM (RJ ⟨M,0,RK⟩),RG RH n]) follows Tryz.func50 E.aO RB λK hK=>?_;have htd:qE s n m=_:=rfl;dsimp only[L.aO,lkF,lkG];refine aa λz hz=>?_;simp;subst hz;refine aa λz hz=>?_;simp;refine mH (α:=Raw) (W:=W) (k:=.i64) (n:=n) (d:=⟨RL RK 0 0⟩) El.kI RA RA ⟨rfl,rfl⟩ R3 R3 λvo h1 o1 m1 hle1 hb1=>?_;have t1:Tg ri s M vs W vo h1 (List.replicate n [],m):=by
  have w1:=w.own.add (k:=(3,0)) (ho _ R4 R4) o1 hle1 (λb hb=>by rw[hb1]at hb;cases hb;exact NO _);have w2:=w1.nils (o':=λk=>if k.1=4/\k.2<n then it T.int (RL RK 0 0) ([]:List Int) else o.upd (3,0) (it T.aQ vo (List.replicate n (Raw.mk (RL RK 0 0)))) k) λk i hk=>by
   split at hk
   ·cases hk;exact .inr ⟨rfl,OwnT.nil (α:=Int) W h1 T.int⟩
   exact .inl hk
  obtain⟨vb,vl,lb,bb⟩:=w.box;refine⟨W,_,List.replicate n ⟨RL RK 0 0⟩,View.le_refl _,⟨w2,w.src,vb,vl,lb,bb.frame λk hk=>?_⟩,?_,rfl,by simp,λi hi=>?_,λk h1 h8 h2 h3=>?_⟩
  ·have h4:¬(k.1=4/\k.2<n):=by omega
   show(if _ then _ else _)=_;rw[if_neg h4,Own.aB (by rintro rfl;simp at hk)]
  ·intro k hk;show(if _ then _ else _)=_;rw[if_neg R3,Own.aB (by rintro rfl;simp at hk),hres k hk]
  ·have hi:i<n:=by simpa using hi
   show(if _ then _ else _)=_;rw[if_pos ⟨rfl,hi⟩,aI hi,aI hi]
  show(if _ then _ else _)=_;rw[if_neg,Own.aB h2,ho k h1 h8];rintro⟨e1,e2⟩;refine h3 k.2 (by simpa using e2) ?_;rw[<-e1]
 have k1:TgK n c (List.replicate n [],m):=⟨by simp,λi=>by
  rcases NQ i n with hi | hi
  ·rw[aI hi];show 0<=_;omega
  rw[dp (by simpa using hi)];show 0<=_;omega,hm⟩;clear m1 o1 w ho;obtain⟨x0,hx0⟩ : ∃x0:TgS,x0=(List.replicate n [],m):=⟨_,rfl⟩;rw[<-hx0]at t1 k1;have htd:qE s n m=up (tgB s n) n (up (tgA s) (n-1) x0):=by rw[hx0];rfl
 clear hx0;subst hz;refine aa λz hz=>?_;simp;refine xd [0,1,5,6] (fun(_:Unit) k=>[RM (RJ ⟨M,0,RK⟩),RG RH n,vo,RG RH ((k+1:Nat):Int)]) (λ_ k h2=>Tg ri s M vs W vo h2 (up (tgA s) k x0)) (n-1) 1 ()
  rfl R3 rfl t1 (λ_ _=>rfl) (λv k h2 hk m=>by simp;omega) ?_ ?_
 ·rintro _ k h2 hlt t2 K2 hK2;have kx:=Ak (s:=s) k1 k;have e2:up (tgA s) (k+1) x0=tgA s k (up (tgA s) k x0):=rfl;rw[e2]at hK2;generalize up (tgA s) k x0=x at t2 kx hK2;have hxl:=kx.len;simp only[aU];refine aa λy hy=>?_;simp;rw[show IntKind.i64.wrap (k:Int)=k from bh R3 R3];subst hy;refine aa λy hy=>?_;have fin : ∀(p:Nat) (m':MS) (h':Heap) (ρ:Env),tgA s k x=pY x p (k+1) m'->p<n->Tg ri s M vs W vo h' (x.1,m')->Lft.look ρ 0=RJ (RM (RJ ⟨M,0,RK⟩))->Lft.look ρ 1=RJ (RG RH n)->Lft.look ρ 5=RJ vo->Lft.look ρ 6=RJ (RG RH ((k+1:Nat):Int))->Lft.look ρ 7=RJ (RG RH p)->
    LC.wp RP y (fe 1 (eU K2 (fe 0 (eU (LC.wp RP z (cO [.tmp 4] K)) (cO [.tmp 4] K))))) ρ h':=by
   intro p m' h' ρ e hp t r0 r1 r5 r6 r7;subst hy;obtain⟨vr,hvr,put⟩:=t.put (p:=p) (b:=k+1) (by show p<x.1.length;omega) (by have:=kx.row p;show(nth x.1 p).length<=_;omega) R3;have hix:=t.idx (k:=.i64) (i:=p) R3 (by show(p:Int)<x.1.length;omega);simp only[Ow]at hix;simp[af,ag,r0,r1,r5,r6,r7,hix,hvr];refine put Sa R5 R5 (λ_ _=>by simp) (λ_ _=>by simp) λu v' h3 t3=>?_;refine hK2 () _ _ ?_ ?_ (by rw[e];exact t3)
   ·simp[af,ag,r6]
   simp[bF,af,ag,r0,r1,r5]
  have had:tgA s k x=_:=tgA.eq_1 s k x;refine aa λw hw=>?_;simp;refine ah R1 (t2.take kx.ok R3 (k:=3) R4 R4) ?_;rintro _ h3 ⟨rfl,t3⟩;simp;subst hw;by_cases c3:aR s x.2.at_ 3=0
  ·rw[if_pos c3]at had;refine aN (by simp[c3]) ?_;simp;refine ah R1 (t3.take kx.ok.took R3 (k:=((k+1:Nat):Int)) R3 R3) ?_;rintro _ h4 ⟨rfl,t4⟩;have hx:(x.1,x.2.took).2.at_=x.2.at_+1:=rfl;rw[hx];obtain⟨u0,u1⟩:=di (s:=s) (at_:=x.2.at_+1) (n:=((k+1:Nat):Int)) R3;generalize aR s (x.2.at_+1) ((k+1:Nat):Int)=q at had u0 u1;refine fin q.toNat _ h4 _ had R3 t4 ?_ ?_ ?_ ?_ ?_;all_goals simp
   omega
  rw[if_neg c3]at had;refine aP (by simp[c3]) ?_;simp;refine fin k _ h3 _ had R3 t3 ?_ ?_ ?_ ?_ ?_;all_goals simp
 rintro _ h2 t2;have k2:=Ak (s:=s) k1 (n-1);generalize up (tgA s) (n-1) x0=x1 at t2 k2 htd;simp;subst hz;refine aa λz hz=>?_;simp;refine bX [0,1,5,8] (fun(_:Unit) k=>[RM (RJ ⟨M,0,RK⟩),RG RH n,vo,RG RH k]) (λ_ k h3=>Tg ri s M vs W vo h3 (up (tgB s n) k x1)) n ()
  rfl R3 rfl t2 (λ_ _=>rfl) (λv k h3 hk m=>by simp) ?_ ?_
 ·rintro _ b h3 hlt t3 K2 hK2;have kx:=(DC (s:=s) k2 b).mono (d:=3000) R3;have e3:up (tgB s n) (b+1) x1=tgB s n b (up (tgB s n) b x1):=rfl;rw[e3]at hK2;generalize up (tgB s n) b x1=x at t3 kx hK2;simp only[aU];refine aa λy hy=>?_;simp;refine ah R1 (t3.take kx.ok R3 (k:=6) R4 R4) ?_;rintro _ h4 ⟨rfl,t4⟩;have hbd:tgB s n b x=_:=tgB.eq_1 s n b x;obtain⟨r0,r1⟩:=di (s:=s) (at_:=x.2.at_) (n:=6) R4;generalize aR s x.2.at_ 6=r at hbd r0 r1;have kx1:TgK n 3001 (x.1,x.2.took):=⟨kx.len,λi=>by have:=kx.row i;show(nth x.1 i).length<=_;omega,kx.ok.took⟩;obtain⟨cnt,hcnt⟩ : ∃cnt:Nat,cnt=if 1<n then(r-3).toNat else 0:=⟨_,rfl⟩;have hc3:cnt<=3:=by rw[hcnt];split<;>omega
  rw[<-hcnt]at hbd;generalize (x.1,x.2.took)=x2 at t4 kx1 hbd;subst hy;refine aa λy hy=>?_;simp;subst hy;simp only[aU];have hw3:IntKind.i64.wrap (r-3)=r-3:=bh R3 R3;refine HP [0,1,5,8,9,10] (fun(_:Unit) k=>[RM (RJ ⟨M,0,RK⟩),RG RH n,vo,RG RH b,RG RH r,RG RH k]) (λ_ k h5=>Tg ri s M vs W vo h5 (up (λ_=>tgI s n b) k x2)) cnt ()
   rfl R3 rfl t4 (λ_ _=>rfl) (λv k h5 hk m=>by
    by_cases hn:1<n
    ·rw[if_pos hn]at hcnt;by_cases hk2:k<cnt
     ·have e1:(k:Int)<r-3:=by omega
      simp[hw3,e1,hk2];omega
     have e1:¬(k:Int)<r-3:=by omega
     simp[hw3,e1,hk2]
    rw[if_neg hn]at hcnt;have e2:¬k<cnt:=by omega
    by_cases e1:(k:Int)<r-3
    ·simp[hw3,e1,e2];omega
    simp[hw3,e1,e2]) ?_ ?_
  ·rintro _ k h5 hltk t5 K3 hK3;have hn2:1<n:=by
    rw[hcnt]at hltk;split at hltk
    ·assumption
    omega
   have kx3:=(DF (s:=s) (b:=b) kx1 k).mono (d:=4000) R3;have e5:up (λ_=>tgI s n b) (k+1) x2=tgI s n b (up (λ_=>tgI s n b) k x2):=rfl;rw[e5]at hK3;generalize up (λ_=>tgI s n b) k x2=x at t5 kx3 hK3;have hxl:=kx3.len;have hid:tgI s n b x=_:=tgI.eq_1 s n b x;have hwn:IntKind.i64.wrap ((n:Int)-1)=(n:Int)-1:=bh R3 R3;simp only[aU];refine aa λy hy=>?_;simp[hwn];refine ah R1 (t5.take kx3.ok R3 (k:=(n:Int)-1) R3 R3) ?_;rintro _ h6 ⟨rfl,t6⟩;obtain⟨q0,q1⟩:=di (s:=s) (at_:=x.2.at_) (n:=(n:Int)-1) R3;generalize aR s x.2.at_ ((n:Int)-1)=q at hid q0 q1;have hwq:IntKind.i64.wrap (1+q)=1+q:=bh R3 R3;simp[hwq];subst hy;refine aa λy hy=>?_;refine ff (λρ h'=>∃(t:Nat) (m':MS) (v0 v:Value),tgI s n b x=pY x b t m'/\t<=1000/\Tg ri s M vs W vo h' (x.1,m')/\ρ=[(0,RM (RJ ⟨M,0,RK⟩)),(1,RG RH n),(5,vo),(8,RG RH b),(9,RG RH r),(10,RG RH k),(11,RG RH t),(57,RG RH q),(62,v0),(64,v)]) ?_ ?_
   ·intro K4 hK4;refine aa λw hw=>?_;by_cases c1:1+q<=b
    ·rw[if_pos c1]at hid;simp[c1];refine ah R1 (t6.take kx3.ok.took R3 (k:=2) R4 R4) ?_;rintro _ h7 ⟨rfl,t7⟩;have hx:(x.1,x.2.took).2.at_=x.2.at_+1:=rfl;rw[hx];simp;subst hw;by_cases c2:aR s (x.2.at_+1) 2=0
     ·rw[if_pos c2]at hid;refine aN (by simp[c2]) ?_;simp;refine hK4 _ _ ⟨min (b+1) (n-1),_,.bool RN,RG RH (aR s (x.2.at_+1) 2),hid,by omega,t7,?_⟩;rw[hwn,show IntKind.i64.wrap ((b:Int)+1)=(b:Int)+1 from bh R3 R3];rw[show(if(n:Int)-1<(b:Int)+1 then(n:Int)-1 else(b:Int)+1)=((min (b+1) (n-1):Nat):Int) by split<;>omega]
     rw[if_neg c2]at hid;refine aP (by simp[c2]) ?_;simp;refine hK4 _ _ ⟨(1+q).toNat,_,.bool RN,RG RH (aR s (x.2.at_+1) 2),hid,by omega,t7,?_⟩;rw[show(((1+q).toNat:Nat):Int)=1+q by omega]
    rw[if_neg c1]at hid;simp[c1];subst hw;refine aP Sa ?_;simp;refine hK4 _ _ ⟨(1+q).toNat,_,.bool RO,undef,hid,by omega,t6,?_⟩;rw[show(((1+q).toNat:Nat):Int)=1+q by omega]
   rintro _ h7 ⟨t,m',v0,v,e,ht,t7,rfl⟩;subst hy;obtain⟨vr,hvr,put⟩:=t7.put (p:=b) (b:=t) (by show b<x.1.length;omega) (by have:=kx3.row b;show(nth x.1 b).length<=_;omega) R3;have hix:=t7.idx (k:=.i64) (i:=b) R3 (by show(b:Int)<x.1.length;omega);simp only[Ow]at hix;simp[hix,hvr];refine put rfl (λ_=>rfl) (λ_=>rfl) (λ_ _=>rfl) (λ_ _=>rfl) λu v' h8 t8=>?_;exact hK3 () _ _ rfl rfl (by rw[e];exact t8)
  rintro _ h5 t5;simp;refine hK2 () _ _ rfl rfl (by rw[hbd];exact t5)
 rintro _ h3 t3;rw[<-htd]at t3;simp;subst hz;simp;refine hK _ _ ?_;obtain⟨W',o,rv,g,w,q⟩:=t3;obtain⟨W2,g2,w2,fr⟩:=w.own.zn (λk=>decide (3<=k.1)&&decide (k.1<8));obtain⟨vb,vl,lb,bb⟩:=w.box;refine⟨W2,_,RE g g2,⟨w2,w.src.mono g2,vb,vl,lb,bb.frame λk hk=>?_⟩,?_,λk hk h8=>by simp[hk,h8],?_⟩
 ·have:¬3<=k.1:=by omega
  simp[this]
 ·intro k hk;have h1:3<=k.1:=by omega
  have h2:¬k.1<8:=by omega
  simp[h2];exact q.res k hk
 refine Ag (fr (k:=(3,0)) R4 q.top) rfl q.len λi h1 h2 cs hr=>?_;obtain⟨e,_⟩:cs=[(rv[i]).v]/\_:=hr;refine⟨_,e,?_⟩;have:=fr (k:=(4,i)) Sa (q.row i h2);rwa [aA h1,aA h2]at this
end Go.Proofs.YtnfiilgdjpdlkaaGreatDoor
namespace Go.Proofs.YtnfiilgdjpdlkaaGreatDoor
open Go Go.Lft
section
structure Grw (b k:Nat) (m m':MS):Prop where
 at0:m.at_<=m'.at_
 at1:m'.at_<=m.at_+k
 n0:m.next<=m'.next
 n1:m'.next<=m.next+k
 ps:m'.ps=m.ps
 live:m'.live.length<=m.live.length+k
 len:m'.blocks.length=m.blocks.length
 els : ∀i,i≠b->nth m'.blocks i=nth m.blocks i
 ins:(nth m'.blocks b).ins.length<=(nth m.blocks b).ins.length+k
 phis:(nth m'.blocks b).phis=(nth m.blocks b).phis
 term:(nth m'.blocks b).term=(nth m.blocks b).term
variable {s:List Int} {m m' m2:MS} {b c k l:Nat}
theorem Grw.refl:Grw b 0 m m:=⟨NO _,NO _,QB _,by omega,rfl,NO _,rfl,λ_ _=>rfl,NO _,rfl,rfl⟩
theorem Grw.trans (g:Grw b k m m') (h:Grw b l m' m2):Grw b (k+l) m m2:=
 ⟨OD g.at0 h.at0,by have:=g.at1;have:=h.at1;omega,Int.le_trans g.n0 h.n0,by have:=g.n1;have:=h.n1;omega,h.ps.trans g.ps,by have:=g.live;have:=h.live;omega,h.len.trans g.len,λi hi=>(h.els i hi).trans (g.els i hi),by have:=g.ins;have:=h.ins;omega,h.phis.trans g.phis,h.term.trans g.term⟩
theorem Grw.mono(g:Grw b k m m')(h:k<=l):Grw b l m m':=
 ⟨g.at0,by have:=g.at1;omega,g.n0,by have:=g.n1;omega,g.ps,by have:=g.live;omega,g.len,g.els,by have:=g.ins;omega,g.phis,g.term⟩
theorem Grw.took (g:Grw b k m m'):Grw b (k+1) m m'.took:=g.trans ⟨by show _<=m'.at_+1;omega,NO _,QB _,by show m'.next<=_;omega,rfl,by show m'.live.length<=_;omega,rfl,λ_ _=>rfl,by show(nth m'.blocks b).ins.length<=_;omega,rfl,rfl⟩
theorem Grw.aS (g:Grw b k m m'):Grw b (k+1) m m'.aS:=g.trans ⟨NO _,by show m'.at_<=_;omega,by show _<=m'.next+1;omega,QB _,rfl,by show m'.live.length<=_;omega,rfl,λ_ _=>rfl,by show(nth m'.blocks b).ins.length<=_;omega,rfl,rfl⟩
theorem Grw.add {i:InsD} (hb:b<m.blocks.length) (g:Grw b k m m'):Grw b (k+2) m (m'.add b i):=by
 have hb':b<m'.blocks.length:=by rw[g.len];exact hb
 have e:nth (m'.add b i).blocks b={ nth m'.blocks b with ins:=(nth m'.blocks b).ins++[i] }:=by show nth (m'.blocks.set b _) b=_;rw[bN hb',if_pos rfl]
 refine g.trans ⟨NO _,by show m'.at_<=_;omega,QB _,by show m'.next<=_;omega,rfl,?_,nR,λj hj=>?_,?_,by rw[e],by rw[e]⟩
 ·show(m'.live++cT i).length<=_;have h2:(cT i).length<=2:=by
   unfold cT;repeat' split
   all_goals simp
  rw[N1];omega
 ·show nth (m'.blocks.set b _) j=_;rcases NQ j m'.blocks.length with hl | hl
  ·rw[bN hl,if_neg (λe=>hj e.symm)]
  rw[dp (by simpa using hl),dp hl]
 rw[e];show((nth m'.blocks b).ins++[i]).length<=_;rw[N1,OC];omega
theorem Grw.constant {n:Int} (hb:b<m.blocks.length) (g:Grw b k m m'):Grw b (k+3) m (m'.constant b n):=g.aS.add hb
theorem Grw.two {op x y:Int} (hb:b<m.blocks.length) (g:Grw b k m m'):Grw b (k+3) m (m'.two b op x y):=g.aS.add hb
theorem Grw.kK(hb:b<m.blocks.length)(g:Grw b k m m'):Grw b (k+10) m (aT s m' b).2:=by
 unfold aT;repeat' split
 ·exact(g.took.took.constant hb).mono R3
 ·exact(g.took.took.took.took.took.constant hb).mono R3
 exact(g.took.took.took).mono R3
theorem Grw.addr(hb:b<m.blocks.length)(g:Grw b k m m'):Grw b (k+30) m (pK s m' b).2:=by
 unfold pK;simp only;split
 ·exact(((((g.took.constant hb).took.kK hb).constant hb).two hb).two hb).mono R3
 exact((g.took.constant hb).took).mono R3
theorem Grw.off(g:Grw b k m m'):Grw b (k+4) m (offS s m').2:=by
 unfold offS;split
 ·exact g.took.took.took.took
 exact g.took.took.mono R3
theorem Grw.memory{st:Bool}(hb:b<m.blocks.length)(g:Grw b k m m'):Grw b (k+60) m (jL s m' b st):=by
 unfold jL;simp only;split
 ·exact((((g.addr hb).off.kK hb)).add hb).mono R3
 exact(((g.addr hb).off.aS).add hb).mono R3
theorem Grw.bin{op:Int}(hb:b<m.blocks.length)(g:Grw b k m m'):Grw b (k+60) m (binS s m' b op):=by
 unfold binS;simp only;split
 ·exact((((g.kK hb).kK hb).took.took.constant hb).two hb).mono R3
 exact(((g.kK hb).kK hb).took.two hb).mono R3
theorem Grw.div(hb:b<m.blocks.length)(g:Grw b k m m'):Grw b (k+60) m (divS s m' b):=by
 unfold divS;simp only;split
 ·exact((((g.kK hb).took.constant hb).took.took.constant hb).two hb).mono R3
 exact(((g.kK hb).took.constant hb).took.two hb).mono R3
theorem Grw.args (hb:b<m.blocks.length) {x:List Int × MS} (g:Grw b k m x.2) : ∀n,Grw b (k+10*n) m (up (iU s b) n x).2
 | 0=>g
 | n+1=>((Grw.args hb g n).kK hb).mono R3
theorem Grw.call(hb:b<m.blocks.length)(g:Grw b k m m'):Grw b (k+70) m (pQ s m' b):=by unfold pQ;simp only;have ht:=di (s:=s) (at_:=m'.at_) (n:=5) R4;have g2:=Grw.args (s:=s) hb (x:=([],m'.took)) g.took (aR s m'.at_ 5).toNat;exact(g2.aS.took.add hb).mono R3
theorem Grw.jT(hb:b<m.blocks.length)(g:Grw b k m m'):Grw b (k+80) m (aY s b m'):=by
 unfold aY;simp only;repeat' split
 ·exact(g.took.bin hb).mono R3
 ·unfold ltuS;exact(((g.took.kK hb).kK hb).two hb).mono R3
 ·exact(g.took.div hb).mono R3
 ·exact(g.took.memory hb).mono R3
 ·exact(g.took.call hb).mono R3
 ·unfold zJ;exact(((g.took.kK hb).kK hb).aS.aS.add hb).mono R3
 exact(g.took.took.took.constant hb).mono R3
theorem Grw.jg (hb:b<m.blocks.length) (g:Grw b k m m') : ∀n,Grw b (k+80*n) m (up (λ_=>aY s b) n m')
 | 0=>g
 | n+1=>((Grw.jg hb g n).jT hb).mono R3
theorem Grw.J2{to:List Int}(hb:b<m.blocks.length)(g:Grw b k m m'):Grw b (k+40) m (jk s to b m').2:=by
 unfold jk;simp only;repeat' split
 ·exact g.took.took.mono R3
 ·exact(g.took.kK hb).mono R3
 ·exact g.took.mono R3
 ·exact g.mono R3
 ·exact((((g.kK hb).took.kK hb)).aS.took.add hb).mono R3
 ·exact(g.kK hb).took.mono R3
 exact(((g.kK hb).constant hb).two hb).mono R3
def MS.f (m:MS):aq:=⟨m.ps,m.blocks⟩
def MS.mO (m:MS) (b:Nat) (l:List Int):MS:={ m with blocks:=m.blocks.set b { nth m.blocks b with term:={ (nth m.blocks b).term with to:=l } } }
def iP (s:List Int) (m:MS) (b:Nat):Int:=
 if 1<(cD m.f b).length then aR s m.at_ 4 else if aR s m.at_ 6=0 then 1 else 0
def fB (b:Nat) (m:MS):MS:={ m.aS with blocks:=m.blocks.set b { nth m.blocks b with phis:=(nth m.blocks b).phis++[⟨m.next,[]⟩] } }
def fE (s:List Int) (k:Nat) (x:List Int × MS):List Int × MS:=
 (x.1.set (k+1) (iP s x.2 (k+1)),up (λ_=>fB (k+1)) (iP s x.2 (k+1)).toNat x.2.took)
def sn (f:aq) (n:Nat):List BL:=rows (λa=>dF f (a:Int)) n
def uK (dn:BL) (away:List BL) (b n:Nat):Bool:=up (λa r=>r&&(decide (a=b)||nth dn a||nth (nth away a) b)) n (!nth dn b)
def iV (m:MS) (dn:BL) (away:List BL) (b:Nat) (a:Nat) (l:List Int):List Int:=
 if decide (a≠b)&&(!nth dn a||nth (nth away a) b) then l
 else l++(nth m.blocks a).phis.map PhiD.dst++(nth m.blocks a).ins.flatMap cT
def nK (m:MS) (dn:BL) (away:List BL) (b n:Nat):List Int:=up (iV m dn away b) n (rows (λi=>(i:Int)) m.ps.toNat)
def jF (s:List Int) (to:List (List Int)) (n:Nat) (dn:BL) (away:List BL) (b:Nat) (m:MS):MS:=
 let m1:MS:={ m with live:=nK m dn away b n }
 qH s (nth to b) b (up (λ_=>aY s b) (aR s m1.at_ 7).toNat m1.took)
def cR (s:List Int) (to:List (List Int)) (n:Nat) (b:Nat) (x:BL × MS):BL × MS:=
 if uK x.1 (sn x.2.f n) b n then(x.1.set b RN,jF s to n (x.1.set b RN) (sn x.2.f n) b x.2) else x
def ed (s:List Int) (p:List Int) (k:Nat) (x:List InD × MS):List InD × MS:=
 let b:=(nth p k).toNat
 let l:=jd x.2.f b
 let r:List Int × MS:=if l.length=0 then([x.2.next],x.2.took.took.constant b (lL s x.2)) else(l,x.2)
 (x.1++[⟨nth p k,nth r.1 (aR s r.2.at_ r.1.length).toNat⟩],r.2.took)
def MS.tF (m:MS) (b i:Nat) (l:List InD):MS:={ m with blocks:=m.blocks.set b { nth m.blocks b with phis:=(nth m.blocks b).phis.set i { nth (nth m.blocks b).phis i with ins:=l } } }
def phi3 (s:List Int) (b:Nat) (p:List Int) (i:Nat) (m:MS):MS:=(up (ed s p) p.length ([],m)).2.tF b i (up (ed s p) p.length ([],m)).1
def blk3 (s:List Int) (phis:List Int) (k:Nat) (m:MS):MS:=up (phi3 s (k+1) (cD m.f ((k+1:Nat):Int))) (nth phis (k+1)).toNat m
def xa (s:List Int):MS:=⟨2,aR s 0 5,[],aR s 0 5,[]⟩
def bZ (s:List Int):Nat:=(1+aR s 1 9).toNat
def ju (s:List Int):TgS:=qE s (bZ s) (xa s)
def tQ:BlkD:=⟨[],[],⟨0,[],[],⟨0⟩⟩⟩
def tJ (s:List Int):MS:=up (λb m=>m.mO b (nth (ju s).1 b)) (bZ s) { (ju s).2 with blocks:=List.replicate (bZ s) tQ }
def kh (s:List Int):List Int × MS:=up (fE s) (bZ s-1) (List.replicate (bZ s) 0,tJ s)
def zu (s:List Int):BL × MS:=up (λ_=>up (cR s (ju s).1 (bZ s)) (bZ s)) (bZ s) (List.replicate (bZ s) RO,(kh s).2)
def vR (s:List Int):MS:=up (blk3 s (kh s).1) (bZ s-1) (zu s).2
def pM (s:List Int):aq:=(vR s).f
end
section
variable {s:List Int} {M:Nat} {vs:Value} {W0:View} {h:Heap} {o0:Own} {m:MS} {u:Value} {ds:List Int}
structure Reads (M:Nat) (m:MS) (h:Heap) (vb vl:Value):Prop where
 ps:an (vw h) ⟨M,2,RK⟩=RJ (RG RH m.ps)
 nx:an (vw h) ⟨M,4,RK⟩=RJ (RG RH m.next)
 cb:an (vw h) ⟨M,3,RK⟩=RJ vb
 cl:an (vw h) ⟨M,5,RK⟩=RJ vl
 f:Un.ev (vw h) (.aZ 2) (RM (RJ ⟨M,2,RK⟩))=RJ (.agg #[RG RH m.ps,vb])
 blk:SlRd (vw h) vb m.blocks
 live:SlRd (vw h) vl m.live
variable{vb vl:Value}
theorem Reads.rd(r:Reads M m h vb vl)(hp:I64 m.ps):Rd (vw h) (.agg #[RG RH m.ps,vb]) m.f:=⟨_,rfl,[RG RH m.ps],[vb],rfl,⟨rfl,hp⟩,vb,rfl,r.blk⟩
variable{W:View}
theorem Mk.reads{o:Own}(w:Mk s M vs W h o m){lb:List BlkM}(bb:MkB M vs m o vb vl lb):Reads M m h vb vl:=by
 have c2:an (vw h) ⟨M,2,RK⟩=RJ (RG RH m.ps):=bb.cell w.own (i:=2) R4;have c3:an (vw h) ⟨M,3,RK⟩=RJ vb:=bb.cell w.own (i:=3) R4;refine⟨c2,bb.cell w.own (i:=4) R4,c3,bb.cell w.own (i:=5) R4,?_,?_,w.own.now bb.live⟩
 ·have hat:=w.own.yf bb.box;obtain⟨cs,⟨cur,e,fz,g1,g2,g3⟩,he,_⟩:=w.own.atW bb.box;have:jf (vw h) ⟨M,2,RK⟩ [RG RH m.ps,vb]:=⟨cur,e,fz,rfl,g2,by
   have g3:(cur.toList.drop 0).take cs.length=cs:=g3;have he:cs=mkL vs m.at_ m.ps vb m.next vl:=he;rw[PH]at g3;have hd:cs.drop 2=(cur.toList.drop 2).take (cs.length-2):=by have:=congrArg (List.drop 2) g3;rw[Pw]at this;exact this.symm
   have hl:cs.length=6:=by rw[he];rfl
   have h2:(cs.drop 2).take 2=(cur.toList.drop 2).take 2:=by rw[hd,hl,Px];rfl
   show(cur.toList.drop 2).take 2=_;rw[<-h2,he];rfl⟩;have:=gj this 2 0 #[] rfl;simp only[Un.ev,vP,Ov];rw[this];simp
 refine Ag (w.own.now bb.blk) rfl bb.len λi h1 h2 cs hr=>?_;have:=CK hr (p:=(nth m.blocks i).phis) (i:=(nth m.blocks i).ins) (by have:=w.own.now (bb.phis i h2);rwa [aA h1]at this) (by have:=w.own.now (bb.ins i h2);rwa [aA h1]at this);have ht:=bb.term i h2;rw[aA h1]at ht;rw[ht]at this;rw[<-aA h2];exact this
theorem Nz.reads (n:Nz s M vs W0 h o0 m u ds) : ∃vb vl,Reads M m h vb vl:=by obtain⟨W,o,g,w,f,sl⟩:=n;obtain⟨vb,vl,lb,bb⟩:=w.box;exact⟨vb,vl,w.reads bb⟩
variable{α:Type}
theorem Nz.at[Rep α](n:Nz s M vs W0 h o0 m u ds){k:Key}(h3:3<=k.1){e:TypeId}{v:Value}{l:List α}(hk:o0 k=it e v l):SlRd (vw h) v l:=by obtain⟨W,o,g,w,f,sl⟩:=n;exact w.own.now ((f k h3).trans hk)
end
theorem BlkM.yb:Part BlkM (List Int) 4 (λd=>d.term.to) (λd x=>{ d with term:={ d.term with to:=x } }):=(Part.snd (Part.snd ((Part.snd (Part.snd (Part.fst Part.all))).via (α:=Cat Int (Cat (List Int) (Cat (List Int) I32))) (f:=λd:cB=>Cat.mk d.kind (Cat.mk d.args (Cat.mk d.to d.imm))) (g':=cB.to) (s':=λd x=>{ d with to:=x }) (λ_=>rfl) λ_ _=>rfl))).via (λ_=>rfl) λ_ _=>rfl
section
variable {s:List Int} {M:Nat} {vs:Value} {W0:View} {h:Heap} {o0:Own} {m:MS} {u:Value} {ds:List Int}
variable{po:OP}{α:Type}{ty:TypeId}{us:List (Nat × Value)}
theorem Nz.I0[r:Rep α](n:Nz s M vs W0 h o0 m u ds){k:Key}{e:TypeId}{i:Nat}{v:Value}{l:List α}{t:TypeId}{x y:Operand}{d:α}{w:Value}{K:Value->Heap->Prop}(h3:3<=k.1)(hk:o0 k=it e v l)(hi:i<l.length)(hsz:df RP t=RJ (Rep.n α))(hx:asg us x = RM (RJ ((slA v).add (i*Rep.n α))))(hy:asg us y=w)(hr : ∀W,Rd W w d)(hK : ∀h',Nz s M vs W0 h' (o0.upd k (it e v (l.set i d))) m u ds->K undef h'):@Lft.step po RP (.store t x y) ty us h K:=by
 obtain⟨W,o,g1,wk,f,sl⟩:=n;refine wk.own.aK (k:=k) (v:=v) (l:=l) (i:=i) (d:=d) ((f k h3).trans hk) hsz hx hy hi (hr W) λh' w' _=>hK h' ?_;obtain⟨vb,vl,lb,bb⟩:=wk.box;refine⟨W,_,g1,⟨w',wk.src,vb,vl,lb,bb.frame λq hq=>Own.aB (by rintro rfl;omega)⟩,λq hq=>?_,sl⟩;unfold Own.upd;split
 ·rfl
 exact f q hq
variable{W:View}{vb vl:Value}{b:Nat}{ty2:TypeId}
theorem Mk.MF{o:Own}(w:Mk s M vs W h o m){lb:List BlkM}(bb:MkB M vs m o vb vl lb){l:List Int}{v:Value}{x y:Operand}{K:Value->Heap->Prop}(hb:b<m.blocks.length)(hsz:df RP ty2=RJ 1)(hx:asg us x = RM (RJ (((slA vb).add (b*6)).add 4)))(hy:asg us y=v)(hr:SlRd W v l)(hK : ∀h' o',Mk s M vs W h' o' (m.mO b l)->(∀k:Key,3<=k.1->o' k=o k)->K undef h'):@Lft.step po RP (.store ty2 x y) ty us h K:=by
 have hbl:b<lb.length:=by rw[bb.len];exact hb
 refine w.own.qW (k:=(0,2)) (α:=BlkM) BlkM.yb (v:=vb) (l:=lb) (i:=b) (d:=l) bb.blk hsz hx hy hbl (eG.2 hr) λh7 w7 _=>?_;have ht:=bb.term b hb;rw[aA hbl]at ht;refine hK h7 _ ⟨w7,w.src,vb,vl,_,bb.gQ hb (x':={ nth m.blocks b with term:={ (nth m.blocks b).term with to:=l } }) (y':={ lb[b]with term:={ lb[b].term with to:=l } }) (by rw[<-ht]) Own.aj ?_ ?_ λq h1 _ _=>Own.aB h1⟩ (oF R4)
 ·rw[Own.aB Sa,bb.phis b hb,aA hbl]
 rw[Own.aB Sa,bb.ins b hb,aA hbl]
end
theorem sW {to:List (List Int)} {m:MS} : ∀k,(up (λb m=>MS.mO m b (nth to b)) k m).blocks.length=m.blocks.length
 | 0=>rfl
 | k+1=>by show(List.set _ _ _).length=_;rw[OH];exact sW k
variable{M n:Nat}{vs vt vr:Value}{W0:View}{o0:Own}{to:List (List Int)}{Q:Post}{ρ:Env}
theorem Jf{s:List Int}{h:Heap}{m:MS}(hto:SlRd W0 vt to)(hn:to.length=n)(x:Nx s M vs W0 h o0 m)(hlen:m.blocks.length=n)(hn2:n<=100)(h0:bF [2,3,4,5,6] ρ=[(2,vr),(3,RM (RJ ⟨M,0,RK⟩)),(4,RG RH n),(5,vt),(6,RG RH 0)])(hQ : ∀h',Nx s M vs W0 h' o0 (up (λb m=>m.mO b (nth to b)) n m)->Q .normal [(2,vr),(3,RM (RJ ⟨M,0,RK⟩)),(4,RG RH n),(5,vt),(6,RG RH n)] h'):
  LC.wp RP (.block 0 (.loop L.au.l1)) Q ρ h:=by
 simp only[aU];refine bX [2,3,4,5,6] (fun(_:Unit) k=>[vr,RM (RJ ⟨M,0,RK⟩),RG RH n,vt,RG RH k]) (λ_ k h2=>Nx s M vs W0 h2 o0 (up (λb m=>m.mO b (nth to b)) k m)) n ()
  rfl R3 h0 x (λ_ _=>rfl) (λv k h2 hk m=>by simp) ?_ ?_
 ·rintro _ b h2 hlt x2 K2 hK2;have hlb:(up (λb m=>MS.mO m b (nth to b)) b m).blocks.length=n:=(sW b).trans hlen;have e2:up (λb m=>MS.mO m b (nth to b)) (b+1) m=(up (λb m=>MS.mO m b (nth to b)) b m).mO b (nth to b):=rfl;rw[e2]at hK2;generalize up (λb m=>MS.mO m b (nth to b)) b m=m2 at x2 hK2 hlb;obtain⟨rv,hrv⟩:=hto.rows;obtain⟨hr1,hr2⟩:=hrv b R3;obtain⟨W,o,g,w,f⟩:=x2;obtain⟨vb,vl,lb,bb⟩:=w.box;have rd:=w.reads bb;have ito:=(hto.mono g).mono w.own.wle;simp only[aU];refine aH (vw h2) RD ?_;simp(disch:=omega)[rd.cb,rd.blk.idxn (N:=6) rfl,ito.idx1 rfl,hr1 _ (RE g w.own.wle)];refine w.MF bb (b:=b) (l:=nth to b) R3 R1 rfl rfl (hr2.mono g) λh3 o3 w3 f3=>?_;exact hK2 () _ _ rfl rfl ⟨W,o3,g,w3,λk hk=>(f3 k hk).trans (f k hk)⟩
 rintro _ h2 x2;exact hQ h2 x2
theorem sub_le{H K L:View}(h:H.sub K)(k:K.le L):H.sub L:=λb o hb=>by obtain⟨o',h1,h2⟩:=h b o hb;exact⟨o',k _ _ h1,h2⟩
variable{W:View}
theorem Owns.HA{h:Heap}{o:Own}{k:Key}{B:Nat}{e:TypeId}{l:List Value}(w:Owns W h o)(hk:o k=bx e B (RawN.mk (n:=n) l)): ∃cur,h[B]? = RJ (.cells cur e (0,0))/\∃r,cur.toList=l++r:=by
 obtain⟨hb,xs,⟨hl,hown⟩,hel⟩:=w.get (k:=k) (v:=RL (RJ ⟨B,0,RK⟩) 1 1) (l:=[RawN.mk (n:=n) l]) hk;have h0:=hel 0 Sa;simp only[P9,PH,PE,OC,Rm]at h0 hl;rw[NY R3]at h0;obtain⟨h0,_,_⟩:xs=l/\_:=h0;subst h0;rcases hown with⟨h1,_⟩ | ⟨g,cap,cur,h1,h2,h3,h4,h5,h6⟩
 ·cases h1
 simp only[Value.slice.injEq,NN,Addr.mk.injEq]at h1;obtain⟨⟨rfl,_⟩,_⟩:=h1;refine⟨cur,h2,cur.toList.drop (1*Rep.n (RawN n)),?_⟩;have h6:cur.toList.take (1*Rep.n (RawN n))=xs:=by simpa using h6
 rw[<-h6,PA]
section
variable {s:List Int} {M:Nat} {vs:Value} {W:View} {h:Heap} {o:Own} {m:MS} {vb vl:Value} {lb:List BlkM}
theorem MkB.Ie(w:Owns W h o)(bb:MkB M vs m o vb vl lb): ∃H:View,H.sub (vw h)/\an H ⟨M,3,RK⟩=RJ vb/\SlRd H vb lb/\
  ∀h2 o2,Owns W h2 o2->MkB M vs m.aS o2 vb vl lb->(∀X:View,X.le (vw h)->X M=RK->X.le (vw h2))->∃X:View,H.sub X/\W.le X/\X.le (vw h2)/\SlRd X vb lb/\∀i,i<m.blocks.length->Av X (nth lb i).phis.v:=by
 obtain⟨cur,hM,r,hr⟩:=Owns.HA w bb.box;have aM:=w.av (0,0) _ bb.box;have aM:W M=none:=aM M rfl;have avb:=w.av (0,2) _ bb.blk;have hne : ∀b,vb.ownBlock=RJ b->b≠M:=λb hb e=>by have:=w.dj (0,2) (0,0) _ _ b bb.blk bb.box hb (by rw[e];rfl);simp at this
 obtain⟨w6,s6⟩:=w.freeze bb.blk;have hYM:(W.plus vb h) M=none:=by unfold View.plus;rw[if_neg (λe=>hne M e rfl)];exact aM
 have hYle:(W.plus vb h).le (vw h):=w6.wle;let P:Obj:=.cells #[vs,RG RH m.at_,RG RH m.ps,vb] T.bu (0,0);have hpre : ∀{c:Array Value} {r:List Value} {nx:Int},c.toList=mkL vs m.at_ m.ps vb nx vl++r->(Obj.cells c T.bu (0,0)=P\/∃c1 c2 t fz,P = .cells c1 t fz/\Obj.cells c T.bu (0,0) = .cells c2 t fz/\∃r:List Value,c2.toList=c1.toList++r):=fun{c r nx} hc=>.inr ⟨_,c,_,_,rfl,rfl,[RG RH nx,vl]++r,by rw[hc];rfl⟩;refine⟨λb=>if b=M then RJ P else(W.plus vb h) b,λb x hb=>?_,?_,?_,λh2 o2 w2 b2 keep=>?_⟩
 ·dsimp only at hb;split at hb
  ·rename_i e;cases hb;subst e;exact⟨_,hM,hpre hr⟩
  exact⟨x,hYle b x hb,.inl rfl⟩
 ·simp[an,P]
 ·refine s6.mono λb x hb=>?_;show(if b=M then RJ P else(W.plus vb h) b)=_;rw[if_neg]
  ·exact hb
  rintro rfl;rw[hYM]at hb;cases hb
 obtain⟨cur2,hM2,r2,hr2⟩:=Owns.HA w2 b2.box;have hY2:=keep _ hYle hYM;refine⟨λb=>if b=M then h2[M]? else(W.plus vb h) b,λb x hb=>?_,λb x hb=>?_,λb x hb=>?_,s6.mono λb x hb=>?_,λi hi b hb=>?_⟩
 ·dsimp only at hb;split at hb
  ·rename_i e;cases hb;subst e;exact⟨_,by simp[hM2],hpre hr2⟩
  rename_i e;exact⟨x,by simpa[e]using hb,.inl rfl⟩
 ·have e:b≠M:=by rintro rfl;rw[aM]at hb;cases hb
  show(if b=M then h2[M]? else(W.plus vb h) b)=_;rw[if_neg e];exact jJ avb b x hb
 ·dsimp only at hb;split at hb
  ·rename_i e;subst e;exact hb
  exact hY2 b x hb
 ·have e:b≠M:=by rintro rfl;rw[hYM]at hb;cases hb
  show(if b=M then h2[M]? else(W.plus vb h) b)=_;rw[if_neg e];exact hb
 have e:b≠M:=λe=>by have:=w.dj (1,i) (0,0) _ _ b (bb.phis i hi) bb.box hb (by rw[e];rfl);simp at this
 show(if b=M then h2[M]? else(W.plus vb h) b)=_;rw[if_neg e];exact w6.av (1,i) _ ((Own.aB Sa).trans (bb.phis i hi)) b hb
theorem Mk.KX(w:Mk s M vs W h o m)(bb:MkB M vs m o vb vl lb)(h0:0<=m.next)(h1:m.next<=1000000000):
  az RP 52 #[RM (RJ ⟨M,0,RK⟩)] h (λu h'=>u = RG RH m.next/\∃o',Mk s M vs W h' o' m.aS/\MkB M vs m.aS o' vb vl lb/\(∀k:Key,3<=k.1->o' k=o k)/\∀X:View,X.le (vw h)->X M=RK->X.le (vw h')):=by refine(Bh w.own bb.box h0 h1).mono ?_;rintro u h' ⟨rfl,w2,keep⟩;exact⟨rfl,_,⟨w2,w.src,vb,vl,lb,bb.at⟩,bb.at,oF R4,keep⟩
end
theorem Nz.ext{s:List Int}{M:Nat}{vs:Value}{W0:View}{h h':Heap}{o0:Own}{m:MS}{u:Value}{ds:List Int}(n:Nz s M vs W0 h o0 m u ds)(hle:(vw h).le (vw h')):Nz s M vs W0 h' o0 m u ds:=by obtain⟨W,o,g,w,f,sl⟩:=n;exact⟨W,o,g,⟨w.own.ext' hle,w.src,w.box⟩,f,sl⟩
structure Sz (n a p i:Nat) (m:MS):Prop where
 at_:m.at_<=a
 n0:0<=m.next
 next:m.next<=a
 live:m.live.length<=a
 ps0:0<=m.ps
 ps1:m.ps<=4
 len:m.blocks.length=n
 phis : ∀j,(nth m.blocks j).phis.length<=p
 ins : ∀j,(nth m.blocks j).ins.length<=i
theorem Sz.mono{n a p i a' p' i':Nat}{m:MS}(z:Sz n a p i m)(h1:a<=a')(h2:p<=p')(h3:i<=i'):Sz n a' p' i' m:=
 ⟨OD z.at_ h1,z.n0,by have:=z.next;omega,OD z.live h1,z.ps0,z.ps1,z.len,λj=>OD (z.phis j) h2,λj=>OD (z.ins j) h3⟩
theorem Sz.ok {n a p i:Nat} {m:MS} (z:Sz n a p i m) (h:i<=a):m.ok a:=⟨z.at_,z.n0,z.next,z.live,λj=>OD (z.ins j) h⟩
theorem Sz.took {n a p i:Nat} {m:MS} (z:Sz n a p i m):Sz n (a+1) p i m.took:=⟨by have:=z.at_;show m.at_+1<=_;omega,z.n0,by have:=z.next;show m.next<=_;omega,by have:=z.live;show m.live.length<=_;omega,z.ps0,z.ps1,z.len,z.phis,z.ins⟩
variable{b:Nat}
theorem Sz.gQ{a p i:Nat}{m:MS}(z:Sz n a p i m){x:BlkD}(h1:x.phis.length<=p)(h2:x.ins.length<=i):Sz n a p i { m with blocks:=m.blocks.set b x }:=by
 refine⟨z.at_,z.n0,z.next,z.live,z.ps0,z.ps1,by show(m.blocks.set b x).length=_;rw[OH];exact z.len,λj=>?_,λj=>?_⟩;all_goals
  show List.length (α:=_) _<=_
  rcases NQ j m.blocks.length with hl | hl
  ·simp only[bN hl]
   split
   ·assumption
   ·first | exact z.phis j | exact z.ins j
  ·first
    | (have:=z.phis j;rw[dp hl]at this;rw[dp (by simpa using hl)];exact this)
    | (have:=z.ins j;rw[dp hl]at this;rw[dp (by simpa using hl)];exact this)
theorem Sz.fB {n a p i b:Nat} {m:MS} (z:Sz n a p i m):Sz n (a+1) (p+1) i (fB b m):=by have h1:Sz n (a+1) (p+1) i m.aS:=⟨by have:=z.at_;show m.at_<=_;omega,by have:=z.n0;show 0<=m.next+1;omega,by have:=z.next;show m.next+1<=_;omega,by have:=z.live;show m.live.length<=_;omega,z.ps0,z.ps1,z.len,λj=>by have:=z.phis j;show(nth m.blocks j).phis.length<=_;omega,z.ins⟩;exact h1.gQ (b:=b) (x:={ nth m.blocks b with phis:=(nth m.blocks b).phis++[⟨m.next,[]⟩] }) (by have:=z.phis b;show((nth m.blocks b).phis++[_]).length<=_;rw[N1,OC];omega) (z.ins b)
theorem Sz.qZ {n a p i b:Nat} {m:MS} (z:Sz n a p i m) : ∀k,Sz n (a+k) (p+k) i (up (λ_=>Go.Proofs.YtnfiilgdjpdlkaaGreatDoor.fB b) k m)
 | 0=>z
 | k+1=>(Sz.qZ z k).fB
section
variable {s:List Int} {M:Nat} {vs:Value} {W0:View} {h:Heap} {o0:Own} {m:MS}
variable{vp:Value}{lp:List Int}
theorem IX{a p i cnt:Nat}{vq:Value}(x:Nx s M vs W0 h o0 m)(hk:o0 (5,0)=it T.int vp lp)(z:Sz n a p i m)(hb:b<n)(hlp:lp.length=n)(hcnt:nth lp b=cnt)(hc:cnt<=10)(hn:n<=100)(ha:a<=100000)(hp:p<=100000)(h0:bF [2,3,4,5,7,8,9,10] ρ=[(2,vr),(3,RM (RJ ⟨M,0,RK⟩)),(4,RG RH n),(5,vt),(7,vp),(8,RG RH b),(9,vq),(10,RG RH 0)])(hQ : ∀h',Nx s M vs W0 h' o0 (up (λ_=>fB b) cnt m)->Q .normal [(2,vr),(3,RM (RJ ⟨M,0,RK⟩)),(4,RG RH n),(5,vt),(7,vp),(8,RG RH b),(9,vq),(10,RG RH cnt)] h'):
  LC.wp RP (.block 4 (.loop L.au.l3)) Q ρ h:=by
 simp only[aU];refine bX [2,3,4,5,7,8,9,10] (fun(_:Unit) k=>[vr,RM (RJ ⟨M,0,RK⟩),RG RH n,vt,vp,RG RH b,vq,RG RH k]) (λ_ k h2=>Nx s M vs W0 h2 o0 (up (λ_=>fB b) k m)) cnt ()
  rfl R3 h0 x (λ_ _=>rfl) (λv k h2 hk2 m=>by have sp:=m.z.at R4 hk;have e:=sp.int RD (i:=b) R3;rw[hcnt]at e;simp(disch:=omega)[sp.idx1 rfl,e]) ?_ ?_
 ·rintro _ k h2 hlt x2 K2 hK2;have z2:=z.qZ (b:=b) k;have e2:up (λ_=>fB b) (k+1) m=fB b (up (λ_=>fB b) k m):=rfl;rw[e2]at hK2;generalize up (λ_=>fB b) k m=m2 at x2 hK2 z2;have hbl:b<m2.blocks.length:=by rw[z2.len];exact hb
  obtain⟨W,o,g,w,f⟩:=x2;obtain⟨vb,vl,lb,bb⟩:=w.box;have hbb:b<lb.length:=by rw[bb.len];exact hbl
  obtain⟨H,hH,c3,sH,Ie⟩:=bb.Ie w.own;have a1:=(sH.at hbb).part BlkM.sQ;have a2:an H (((slA vb).add (b*6)).add 0)=RJ (nth lb b).phis.v:=by rw[aA hbb];exact a1.raw
  have sb:=sH.bound;simp only[aU];refine Ge H hH ?_;simp(disch:=omega)[c3,sH.idxn (N:=6) rfl,a2];refine ah R1 (w.KX bb z2.n0 (by have:=z2.next;omega)) ?_;rintro _ h3 ⟨rfl,o3,w3,b3,f3,keep⟩;obtain⟨X,hHX,hWX,hX,sX,avX⟩:=Ie h3 o3 w3.own b3 keep;refine⟨sub_le hHX hX,?_⟩;refine ak (z:=.agg #[RG RH 0,RL RK 0 0]) (places:=[(0,1),(1,1)]) (vs:=[(0,RG RH m2.next)]) (cs:=#[RG RH m2.next,RL RK 0 0]) R1 R1 Sa R1 ?_;refine⟨sub_le hHX hX,?_⟩;have i64:I64 m2.next:=by have:=z2.n0;have:=z2.next;constructor<;>omega
  have hph:=z2.phis b;refine oh (α:=PhiD) (W:=W) (d:=⟨m2.next,[]⟩) El.rp rfl (H8 i64 aE) λu5 h5 src hle5 hs5=>⟨sub_le hHX (RE hX hle5),?_⟩;refine(w3.own.ext' hle5).dU (k:=(1,b)) (α:=PhiD) (v:=(nth lb b).phis.v) (l:=(nth m2.blocks b).phis) (l2:=[⟨m2.next,[]⟩]) (b3.phis b hbl) El.rp rfl rfl src R9 R9 λv6 h6 w6 m6=>⟨sub_le hHX (m6.view (RE hX hle5) (avX b hbl)).1,?_⟩;have hv6:=(w6.cells (k:=(1,b)) Own.aj).2;refine w6.qW (k:=(0,2)) (α:=BlkM) BlkM.sQ (v:=vb) (l:=lb) (i:=b) (d:=⟨v6⟩) b3.blk R1 rfl rfl hbb (om.2 ⟨rfl,hv6⟩) λh7 w7 _=>?_;have b7:=b3.gQ (b:=b) hbl (x':={ nth m2.blocks b with phis:=(nth m2.blocks b).phis++[⟨m2.next,[]⟩] }) (y':={ lb[b]with phis:=⟨v6⟩ }) (o':=(o3.upd (1,b) (it T.pC v6 ((nth m2.blocks b).phis++[⟨m2.next,[]⟩]))).upd (0,2) (it T.fy vb (lb.set b { lb[b]with phis:=⟨v6⟩ }))) (by rw[<-bb.term b hbl,aA hbb]) Own.aj ((Own.aB Sa).trans Own.aj) (by rw[Own.aB Sa,Own.aB Sa,b3.ins b hbl,aA hbb];rfl) (λq h1 h2 h3=>by rw[Own.aB h1,Own.aB h2]);refine hK2 () _ _ rfl rfl ⟨W,_,g,⟨w7,w.src,vb,vl,_,b7⟩,λk hk=>?_⟩;rw[Own.aB (by rintro rfl;simp at hk),Own.aB (by rintro rfl;simp at hk)];exact(f3 k hk).trans (f k hk)
 rintro _ h2 x2;exact hQ h2 x2
end
variable{po:OP}{α:Type}{ty:TypeId}{us:List (Nat × Value)}
theorem Nz.xU{s:List Int}{h:Heap}{m:MS}{u:Value}{ds:List Int}[r:Rep α](n:Nz s M vs W0 h o0 m u ds){k:Key}{e:TypeId}{i:Nat}{v:Value}{l:List α}{t:TypeId}{x y:Operand}{d:α}{w:Value}{K:Value->Heap->Prop}(h1:Rep.n α=1)(h3:3<=k.1)(hk:o0 k=it e v l)(hi:i<l.length)(hsz:df RP t=RJ 1)(hx:asg us x = RM (RJ ((slA v).add i)))(hy:asg us y=w)(hr : ∀W,Rd W w d)(hK : ∀h',Nz s M vs W0 h' (o0.upd k (it e v (l.set i d))) m u ds->K undef h'):@Lft.step po RP (.store t x y) ty us h K:=
 n.I0 h3 hk hi (by rw[hsz,h1]) (by rw[hx,h1,OR]) hy hr hK
theorem sI{s:List Int}{m:MS}:0<=iP s m b/\iP s m b<=3:=by
 unfold iP;have:=di (s:=s) (at_:=m.at_) (n:=4) R4;repeat' split
 all_goals omega
theorem Hg{l:List Int}{i:Nat}{x:Int}(h:nth l i=x)(hi:i<l.length):l.set i x=l:=by rw[<-h,aA hi];exact List.set_getElem_self hi
structure Ph (n a k:Nat) (x:List Int × MS):Prop where
 z:Sz n (a+10*k) (3*k) 0 x.2
 len:x.1.length=n
 zero : ∀j,k<j->nth x.1 j=0
 rng : ∀j,0<=nth x.1 j/\nth x.1 j<=3
theorem yq{s:List Int}{a k:Nat}{x:List Int × MS}(p:Ph n a k x):Ph n a (k+1) (fE s k x):=by
 obtain⟨c0,c1⟩:=sI (s:=s) (m:=x.2) (b:=k+1);have hset : ∀j,nth (x.1.set (k+1) (iP s x.2 (k+1))) j=if k+1=j/\j<x.1.length then iP s x.2 (k+1) else nth x.1 j:=λj=>by
  rcases NQ j x.1.length with hl | hl
  ·rw[bN hl];by_cases e:k+1=j
   ·rw[if_pos e,if_pos ⟨e,hl⟩]
   rw[if_neg e,if_neg (λq=>e q.1)]
  rw[dp (by simpa using hl),if_neg R3,dp hl]
 refine⟨?_,?_,λj hj=>?_,λj=>?_⟩
 ·have:=(p.z.took).qZ (b:=k+1) (iP s x.2 (k+1)).toNat;exact this.mono R3 R3 (NO _)
 ·show(x.1.set _ _).length=_;rw[OH];exact p.len
 ·show nth (x.1.set _ _) j=_;rw[hset,if_neg R3];exact p.zero j R3
 show 0<=nth (x.1.set _ _) j/\nth (x.1.set _ _) j<=3;rw[hset];split
 ·exact⟨c0,c1⟩
 exact p.rng j
theorem AB {s:List Int} {n a:Nat} {x:List Int × MS} (p:Ph n a 0 x) : ∀k,Ph n a k (up (fE s) k x)
 | 0=>p
 | k+1=>yq (AB p k)
variable{vp:Value}
theorem JW{s:List Int}{h:Heap}{a:Nat}{x0:List Int × MS}(x:Nx s M vs W0 h (o0.upd (5,0) (it T.int vp x0.1)) x0.2)(p0:Ph n a 0 x0)(hn1:1<=n)(hn:n<=100)(ha:a<=10000)(h0:bF [2,3,4,5,7,8] ρ=[(2,vr),(3,RM (RJ ⟨M,0,RK⟩)),(4,RG RH n),(5,vt),(7,vp),(8,RG RH 1)])(hQ : ∀h',Nx s M vs W0 h' (o0.upd (5,0) (it T.int vp (up (fE s) (n-1) x0).1)) (up (fE s) (n-1) x0).2->Q .normal [(2,vr),(3,RM (RJ ⟨M,0,RK⟩)),(4,RG RH n),(5,vt),(7,vp),(8,RG RH n)] h'):
  LC.wp RP (.block 2 (.loop L.au.l2)) Q ρ h:=by
 simp only[aU];refine xd [2,3,4,5,7,8] (fun(_:Unit) k=>[vr,RM (RJ ⟨M,0,RK⟩),RG RH n,vt,vp,RG RH ((k+1:Nat):Int)]) (λ_ k h2=>Nx s M vs W0 h2 (o0.upd (5,0) (it T.int vp (up (fE s) k x0).1)) (up (fE s) k x0).2) (n-1) 1 ()
  rfl R3 h0 x (λ_ _=>rfl) (λv k h2 hk2 m=>by simp;omega) ?_ ?_
 ·rintro _ k h2 hlt x2 K2 hK2;have p2:=AB (s:=s) p0 k;have e2:up (fE s) (k+1) x0=fE s k (up (fE s) k x0):=rfl;have p3:=yq (s:=s) p2;rw[e2]at hK2;generalize up (fE s) k x0=y at x2 hK2 p2 p3;obtain⟨lp,m⟩:=y;have z:Sz n (a+10*k) (3*k) 0 m:=p2.z;have x2:Nx s M vs W0 h2 (o0.upd (5,0) (it T.int vp lp)) m:=x2;have q:m.ok (a+10*k):=z.ok R3;have hlen:lp.length=n:=p2.len;simp only[aU];refine aa λy hy=>?_;obtain⟨vb,vl,rd⟩:=x2.z.reads;simp[rd.f];refine ah R1 (qu (b:=((k+1:Nat):Int)) (rd.rd ⟨by have:=z.ps0;show _<=m.ps;omega,by have:=z.ps1;show m.ps<=_;omega⟩) (by show m.blocks.length<=_;rw[z.len];omega)) ?_;rintro vq h3 ⟨hle3,hq⟩;have n3:=x2.z.ext hle3;have hcd:iP s m (k+1)=_:=iP.eq_1 s m (k+1);obtain⟨pl,hpl⟩ : ∃pl:Nat,pl=(cD m.f ((k+1:Nat):Int)).length:=⟨_,rfl⟩;have hql : ∀{Q:View},Un.ev Q .len vq=RJ (RG RH pl):=fun{Q}=>by rw[hpl];exact hq.len
  rw[<-hpl]at hcd;clear hq x2 rd hpl;subst hy;refine aa λy hy=>?_;have fin : ∀(h':Heap) (ρ:Env),Nz s M vs W0 h' (o0.upd (5,0) (it T.int vp (lp.set (k+1) (iP s m (k+1))))) m.took (RL RK 0 0) []->Lft.look ρ 2=RJ vr->Lft.look ρ 3=RJ (RM (RJ ⟨M,0,RK⟩))->Lft.look ρ 4=RJ (RG RH n)->Lft.look ρ 5=RJ vt->Lft.look ρ 7=RJ vp->Lft.look ρ 8=RJ (RG RH ((k+1:Nat):Int))->Lft.look ρ 9=RJ vq->
    LC.wp RP y (fe 3 (eU K2 (fe 2 Q))) ρ h':=by
   intro h' ρ n' r2 r3 r4 r5 r7 r8 r9;subst hy;refine aa λy hy=>?_;simp;subst hy;obtain⟨c0,c1⟩:=sI (s:=s) (m:=m) (b:=k+1);refine IX (vr:=vr) (vt:=vt) (b:=k+1) (cnt:=(iP s m (k+1)).toNat) (vq:=vq) n'.x Own.aj z.took R3 (by rw[OH];exact hlen) (by rw[bN R3,if_pos rfl];omega) R3 hn R3 R3 ?_ λh4 x4=>?_
   ·simp[bF,af,ag,r2,r3,r4,r5,r7,r8,r9]
   simp;exact hK2 () _ _ rfl rfl x4
  refine aa λw hw=>?_;simp[hql];subst hw;by_cases c1:1<pl
  ·rw[if_pos c1]at hcd;refine aN R9 ?_;simp;refine ah R1 (fq n3 q R3 (k:=4) R4 R4) ?_;rintro _ h4 ⟨rfl,n4⟩;have sp:=n4.at (k:=(5,0)) R4 Own.aj;simp(disch:=omega)[sp.idx1 rfl];refine n4.xU (k:=(5,0)) (α:=Int) (i:=k+1) (d:=aR s m.at_ 4) rfl R4 Own.aj R3 R1 rfl rfl (λW=>bg.2 ⟨rfl,by have:=di (s:=s) (at_:=m.at_) (n:=4) R4;constructor<;>omega⟩) λh5 n5=>?_;refine fin h5 _ (n5.re λq=>by rw[eC,hcd]) ?_ ?_ ?_ ?_ ?_ ?_ ?_;all_goals simp
  rw[if_neg c1]at hcd;refine aP R9 ?_;refine aa λw hw=>?_;simp;refine ah R1 (fq n3 q R3 (k:=6) R4 R4) ?_;rintro _ h4 ⟨rfl,n4⟩;simp;subst hw;by_cases c2:aR s m.at_ 6=0
  ·rw[if_pos c2]at hcd;refine aN (by simp[c2]) ?_;have sp:=n4.at (k:=(5,0)) R4 Own.aj;simp(disch:=omega)[sp.idx1 rfl];refine n4.xU (k:=(5,0)) (α:=Int) (i:=k+1) (d:=1) rfl R4 Own.aj R3 R1 rfl rfl (λW=>bg.2 ⟨rfl,by decide,by decide⟩) λh5 n5=>?_;refine fin h5 _ (n5.re λq=>by rw[eC,hcd]) ?_ ?_ ?_ ?_ ?_ ?_ ?_;all_goals simp
  rw[if_neg c2]at hcd;refine aP (by simp[c2]) ?_;simp;have e:lp.set (k+1) (iP s m (k+1))=lp:=by rw[hcd];exact Hg (p2.zero (k+1) R3) R3
  refine fin h4 _ (n4.re λq=>by rw[e]) ?_ ?_ ?_ ?_ ?_ ?_ ?_;all_goals simp
 rintro _ h2 x2;have e:n-1+1=n:=by omega
 have:=hQ h2 x2;simpa[e]using this
section
variable {s:List Int} {M:Nat} {vs:Value} {W0:View} {h:Heap} {o0:Own} {m:MS}
theorem Gk{a p i:Nat}(z:Sz n a p i m):I64 m.ps:=by have:=z.ps0;have:=z.ps1;constructor<;>omega
variable{vd va:Value}
theorem Jq{a p i:Nat}{r:Bool}{t:Nat}(x:Nx s M vs W0 h (o0.upd (7,0) (it T.lQ va ([]:List BL))) m)(hfree:o0 (7,0)=RK)(z:Sz n a p i m)(hn:n<=100)(h0:bF [2,3,4,5,7,11,12,13,14,15,16] ρ=[(2,vr),(3,RM (RJ ⟨M,0,RK⟩)),(4,RG RH n),(5,vt),(7,vp),(11,vd),(12,RG RH t),(13,RG RH b),(14,.bool r),(15,va),(16,RG RH 0)])(hQ : ∀h' W' va,W0.le W'->Nx s M vs W' h' o0 m->SlRd W' va (sn m.f n)->Q .normal [(2,vr),(3,RM (RJ ⟨M,0,RK⟩)),(4,RG RH n),(5,vt),(7,vp),(11,vd),(12,RG RH t),(13,RG RH b),(14,.bool r),(15,va),(16,RG RH n)] h'):
  LC.wp RP (.block 10 (.loop L.au.l6)) Q ρ h:=by
 simp only[aU];refine bX [2,3,4,5,7,11,12,13,14,15,16] (fun(va:Value) k=>[vr,RM (RJ ⟨M,0,RK⟩),RG RH n,vt,vp,vd,RG RH t,RG RH b,.bool r,va,RG RH k]) (λva k h2=>Nx s M vs W0 h2 (o0.upd (7,0) (it T.lQ va (rows (λa=>dF m.f (a:Int)) k))) m) n va
  rfl R3 h0 x (λ_ _=>rfl) (λv k h2 hk2 m=>by simp) ?_ ?_
 ·rintro va k h2 hlt x2 K2 hK2;simp only[aU];obtain⟨vb,vl,rd⟩:=x2.z.reads;simp[rd.f];refine ah R1 (oW (wo:=(k:Int)) (rd.rd (Gk z)) (by show m.blocks.length<=_;rw[z.len];omega)) ?_;rintro ur h3 ⟨hle3,hur⟩;obtain⟨W,o,g,w,f⟩:=x2;have w3:=w.own.ext hle3;have hW3:=aW (h':=h3) w.own.wle;have hur:=hur.mono (gu W h2 h3);generalize grow W h2 h3=W3 at w3 hW3 hur;refine w3.jl (k:=(7,0)) (α:=BL) (d:=dF m.f (k:Int)) ((f _ R4).trans Own.aj) El.rm rfl (eG.2 hur) R9 R9 (λ_=>rfl) (λ_=>rfl) λu v' h4 w4 _=>?_;obtain⟨vb,vl,lb,bb⟩:=w.box;refine hK2 v' _ _ rfl rfl ⟨W3,_,RE g hW3,⟨w4,w.src.mono hW3,vb,vl,lb,bb.frame λq hq=>Own.aB (by rintro rfl;simp at hq)⟩,λq hq=>?_⟩;rw[e9];unfold Own.upd;split
  ·rfl
  rename_i e;rw[f q hq,Own.aB e]
 rintro va h2 ⟨W,o,g,w,f⟩;have hk:=(f (7,0) R4).trans Own.aj;obtain⟨w2,sl⟩:=w.own.freeze hk;have hWp:=jJ (h:=h2) (w.own.av _ _ hk);obtain⟨vb,vl,lb,bb⟩:=w.box;refine hQ h2 _ va (RE g hWp) ⟨_,_,View.le_refl _,⟨w2,w.src.mono hWp,vb,vl,lb,bb.frame λq hq=>Own.aB (by rintro rfl;simp at hq)⟩,λq hq=>?_⟩ sl;by_cases e:q=(7,0)
 ·rw[e,Own.aj,hfree]
 rw[Own.aB e,f q hq,Own.aB e]
variable{dn:BL}{away:List BL}
theorem Jm{r:Bool}{t:Nat}(sd:SlRd (vw h) vd dn)(sa:SlRd (vw h) va away)(hb:b<n)(hdn:dn.length=n)(hal:away.length=n)(har : ∀i,i<n->(nth away i).length=n)(hn:n<=100)(h0:bF [2,3,4,5,7,11,12,13,14,15,17] ρ=[(2,vr),(3,RM (RJ ⟨M,0,RK⟩)),(4,RG RH n),(5,vt),(7,vp),(11,vd),(12,RG RH t),(13,RG RH b),(14,.bool r),(15,va),(17,RG RH 0)])(hQ:Q .normal [(2,vr),(3,RM (RJ ⟨M,0,RK⟩)),(4,RG RH n),(5,vt),(7,vp),(11,vd),(12,RG RH t),(13,RG RH b),(14,.bool (up (λa r=>r&&(decide (a=b)||nth dn a||nth (nth away a) b)) n r)),(15,va),(17,RG RH n)] h):
  LC.wp RP (.block 12 (.loop L.au.l7)) Q ρ h:=by
 simp only[aU];refine bX [2,3,4,5,7,11,12,13,14,15,17] (fun(r:Bool) k=>[vr,RM (RJ ⟨M,0,RK⟩),RG RH n,vt,vp,vd,RG RH t,RG RH b,.bool r,va,RG RH k]) (λr2 k h2=>h2=h/\r2=up (λa r=>r&&(decide (a=b)||nth dn a||nth (nth away a) b)) k r) n r
  rfl R3 h0 ⟨rfl,rfl⟩ (λ_ _=>rfl) (λv k h2 hk2 m=>by simp) ?_ ?_
 ·rintro r2 k h2 hlt ⟨rfl,hr2⟩ K2 hK2;have e:up (λa r=>r&&(decide (a=b)||nth dn a||nth (nth away a) b)) (k+1) r=(r2&&(decide (k=b)||nth dn k||nth (nth away k) b)):=by rw[hr2];rfl
  rw[e]at hK2;clear e hr2;obtain⟨rv,hrv⟩:=sa.rows;obtain⟨ha1,ha2⟩:=hrv k R3;have hl:=har k hlt;have hkb : ∀{A:Type},True:=trivial;simp only[aU];cases r2 with
  | false=>simp;exact hK2 RO _ _ rfl rfl ⟨rfl,rfl⟩
  | true=>
   by_cases c:k=b
   ·subst c;simp;exact hK2 RN _ _ rfl rfl ⟨rfl,by simp⟩
   have c':¬((k:Int)=(b:Int)):=by omega
   cases hd:nth dn k with
   | true=>simp(disch:=omega)[c,c',sd.idx1 rfl,sd.bool RD,hd];exact hK2 RN _ _ rfl rfl ⟨rfl,by simp[hd]⟩
   | false=>simp(disch:=omega)[c,c',sd.idx1 rfl,sd.bool RD,hd,sa.idx1 rfl,ha1 _ RD,ha2.idx1 rfl,ha2.bool RD];exact hK2 _ _ _ rfl rfl ⟨rfl,by simp[hd,c]⟩
 rintro r2 h2 ⟨rfl,rfl⟩;exact hQ
end
def MS.dg (m:MS) (l:List Int):MS:={ m with live:=l }
section
variable {s:List Int} {M:Nat} {vs:Value} {W0:View} {h:Heap} {o0:Own} {m:MS}
variable{vb vl:Value}{ty2:TypeId}
theorem Mk.z7{po2:OP}{o:Own}(w:Mk s M vs W h o m){lb:List BlkM}(bb:MkB M vs m o vb vl lb){l2:List Int}{u:Value}{x y c1 c2:Operand}{us2:Value->List (Nat × Value)}{K:Value->Value->Heap->Prop}(src:SrcT (vw h) W u l2)(hl:m.live.length+l2.length<=1000000)(hx:asg us x=vl)(hy:asg us y=u)(hc1 : ∀v,asg (us2 v) c1 = RM (RJ ⟨M,5,RK⟩))(hc2 : ∀v,asg (us2 v) c2=v)(hK : ∀v h' o',Mk s M vs W h' o' (m.dg (m.live++l2))->(∀k:Key,3<=k.1->o' k=o k)->K v undef h'):
  @Lft.step po RP (.call ⟨.builtin .append,#[x,y],#[T.aQ,T.aQ]⟩) ty us h λv h2=>@Lft.step po2 RP (.store T.aQ c1 c2) ty2 (us2 v) h2 λw h3=>K v w h3:=by
 refine w.own.dU (k:=(0,1)) (α:=Int) (v:=vl) (l:=m.live) (l2:=l2) bb.live El.aQ hx hy src R3 R3 λv h2 w2 _=>?_;have hv:=(w2.cells (k:=(0,1)) Own.aj).2;refine w2.dB (k:=(0,0)) (n:=5) (i:=5) (e:=T.bu) (B:=M) (l:=mkL vs m.at_ m.ps vb m.next vl) ((Own.aB Sa).trans bb.box) R4 R1 (hc1 v) (hc2 v) hv λh3 w3 _=>?_;refine hK v h3 _ ⟨w3,w.src,vb,v,lb,⟨rfl,rfl,(Own.aB Sa).trans ((Own.aB Sa).trans bb.blk),bb.len,bb.term,λi hi=>?_,λi hi=>?_⟩⟩ λk hk=>?_
 ·exact(Own.aB Sa).trans ((Own.aB Sa).trans (bb.phis i hi))
 ·exact(Own.aB Sa).trans ((Own.aB Sa).trans (bb.ins i hi))
 rw[Own.aB (by rintro rfl;simp at hk),Own.aB (by rintro rfl;simp at hk)]
variable{vd va:Value}
theorem I8{a p i c:Nat}{r:Bool}{t:Nat}(x:Nx s M vs W0 h o0 (m.dg []))(z:Sz n a p i m)(hc:m.ps=c)(h0:bF [2,3,4,5,7,11,12,13,15,18] ρ=[(2,vr),(3,RM (RJ ⟨M,0,RK⟩)),(4,RG RH n),(5,vt),(7,vp),(11,vd),(12,RG RH t),(13,RG RH b),(15,va),(18,RG RH 0)])(hQ : ∀h',Nx s M vs W0 h' o0 (m.dg (rows (λi=>(i:Int)) c))->Q .normal [(2,vr),(3,RM (RJ ⟨M,0,RK⟩)),(4,RG RH n),(5,vt),(7,vp),(11,vd),(12,RG RH t),(13,RG RH b),(15,va),(18,RG RH c)] h'):
  LC.wp RP (.block 14 (.loop L.au.l8)) Q ρ h:=by
 have hc4:c<=4:=by have:=z.ps1;omega
 simp only[aU];refine bX [2,3,4,5,7,11,12,13,15,18] (fun(_:Unit) k=>[vr,RM (RJ ⟨M,0,RK⟩),RG RH n,vt,vp,vd,RG RH t,RG RH b,va,RG RH k]) (λ_ k h2=>Nx s M vs W0 h2 o0 (m.dg (rows (λi=>(i:Int)) k))) c ()
  rfl R3 h0 x (λ_ _=>rfl) (λv k h2 hk2 x2=>by obtain⟨vb,vl,rd⟩:=x2.z.reads;have e:(m.dg (rows (λi=>(i:Int)) k)).ps=c:=hc;simp[rd.ps,e]) ?_ ?_
 ·rintro _ k h2 hlt x2 K2 hK2;obtain⟨W,o,g,w,f⟩:=x2;obtain⟨vb,vl,lb,bb⟩:=w.box;have rd:=w.reads bb;simp only[aU];simp[rd.cl];refine oh (α:=Int) (W:=W) (d:=(k:Int)) El.aQ rfl (bg.2 ⟨rfl,by constructor<;>omega⟩) λu5 h5 src hle5 hs5=>?_;have w5:Mk s M vs W h5 o (m.dg (rows (λi=>(i:Int)) k)):=⟨w.own.ext' hle5,w.src,w.box⟩;refine w5.z7 bb src (by show(rows _ k).length+1<=_;simp;omega) rfl rfl (λ_=>rfl) (λ_=>rfl) λv h6 o6 w6 f6=>?_;refine hK2 () _ _ rfl rfl ⟨W,o6,g,?_,λk hk=>(f6 k hk).trans (f k hk)⟩;rw[e9];exact w6
 rintro _ h2 x2;exact hQ h2 x2
theorem GD{a p i ai:Nat}{t:Nat}{lv:List Int}(x:Nx s M vs W0 h o0 (m.dg lv))(z:Sz n a p i m)(hai:ai<n)(hn:n<=100)(hl:lv.length<=100000)(hp:p<=100000)(h0:bF [2,3,4,5,7,11,12,13,15,19,20] ρ=[(2,vr),(3,RM (RJ ⟨M,0,RK⟩)),(4,RG RH n),(5,vt),(7,vp),(11,vd),(12,RG RH t),(13,RG RH b),(15,va),(19,RG RH ai),(20,RG RH 0)])(hQ : ∀h':Heap,Nx s M vs W0 h' o0 (m.dg (lv++(nth m.blocks ai).phis.map PhiD.dst))->Q .normal [(2,vr),(3,RM (RJ ⟨M,0,RK⟩)),(4,RG RH n),(5,vt),(7,vp),(11,vd),(12,RG RH t),(13,RG RH b),(15,va),(19,RG RH ai),(20,RG RH (nth m.blocks ai).phis.length)] h'):
  LC.wp RP (.block 18 (.loop L.au.l10)) Q ρ h:=by
 have hpl:=z.phis ai;have hlen:ai<m.blocks.length:=by rw[z.len];exact hai
 simp only[aU];have read : ∀{h2:Heap} {lv2:List Int} {vb vl:Value},Reads M (m.dg lv2) h2 vb vl->∃vph,an (vw h2) (((slA vb).add (ai*6)).add 0)=RJ vph/\SlRd (vw h2) vph (nth m.blocks ai).phis/\Bn.ev (.idx 6) vb (RG RH ai)=RJ (RM (RJ ((slA vb).add (ai*6)))):=by intro h2 lv2 vb vl rd;have hb:=rd.blk;have hl2:ai<(m.dg lv2).blocks.length:=hlen;obtain⟨vph,h1⟩:=((hb.at hl2).part BlkD.sQ).sl;have h2:=h1.2;have e:(m.dg lv2).blocks[ai]=nth m.blocks ai:=(aA hl2).symm;rw[e]at h2;exact⟨vph,h1.1,h2,by have:=hb.idxn (N:=6) rfl (k:=.i64) (i:=ai) R3 R3;simpa using this⟩
 refine bX [2,3,4,5,7,11,12,13,15,19,20] (fun(_:Unit) k=>[vr,RM (RJ ⟨M,0,RK⟩),RG RH n,vt,vp,vd,RG RH t,RG RH b,va,RG RH ai,RG RH k]) (λ_ k h2=>Nx s M vs W0 h2 o0 (m.dg (lv++((nth m.blocks ai).phis.take k).map PhiD.dst))) (nth m.blocks ai).phis.length ()
  rfl R3 h0 (by simpa using x) (λ_ _=>rfl) (λv k h2 hk2 x2=>by obtain⟨vb,vl,rd⟩:=x2.z.reads;obtain⟨vph,r1,r2,r3⟩:=read rd;simp[rd.cb,r3,r1,r2.len]) ?_ ?_
 ·rintro _ k h2 hlt x2 K2 hK2;obtain⟨W,o,g,w,f⟩:=x2;obtain⟨vb,vl,lb,bb⟩:=w.box;have rd:=w.reads bb;obtain⟨vph,r1,r2,r3⟩:=read rd;have r4:an (vw h2) (((slA vph).add (k*2)).add 0)=RJ (RG RH (nth m.blocks ai).phis[k].dst):=((r2.at hlt).part PhiD.iB).int;have i64:=((r2.at hlt).part PhiD.iB).rng;have r5:Bn.ev (.idx 2) vph (RG RH k)=RJ (RM (RJ ((slA vph).add (k*2)))):=by have:=r2.idxn (N:=2) rfl (k:=.i64) (i:=k) R3 R3;simpa using this
  simp only[aU];refine aH (vw h2) RD ?_;simp[rd.cl,rd.cb,r3,r1,r4,r5];refine oh (α:=Int) (W:=W) (d:=(nth m.blocks ai).phis[k].dst) El.aQ rfl (bg.2 ⟨rfl,i64⟩) λu5 h5 src hle5 hs5=>⟨hle5,?_⟩;have w5:Mk s M vs W h5 o (m.dg (lv++((nth m.blocks ai).phis.take k).map PhiD.dst)):=⟨w.own.ext' hle5,w.src,w.box⟩;refine w5.z7 bb src (by show(lv++_).length+1<=_;simp;omega) rfl rfl (λ_=>rfl) (λ_=>rfl) λv h6 o6 w6 f6=>?_;refine hK2 () _ _ rfl rfl ⟨W,o6,g,?_,λk hk=>(f6 k hk).trans (f k hk)⟩;rw[NT hlt,PY,<-List.append_assoc];exact w6
 rintro _ h2 x2;rw[OK]at x2;exact hQ h2 x2
end
theorem CO{l:List InsD}:(l.flatMap cT).length<=2*l.length:=by
 induction l with
 | nil=>simp
 | cons a l ih=>
  have:(cT a).length<=2:=by
   unfold cT;repeat' split
   all_goals simp
  simp only[P6,N1,OX];omega
section
variable {s:List Int} {M:Nat} {vs:Value} {W0:View} {h:Heap} {o0:Own} {m:MS}
variable{vd va:Value}
theorem Hc{a p i ai:Nat}{t:Nat}{lv:List Int}(x:Nx s M vs W0 h o0 (m.dg lv))(z:Sz n a p i m)(hai:ai<n)(hn:n<=100)(hl:lv.length<=100000)(hi:i<=100000)(h0:bF [2,3,4,5,7,11,12,13,15,19,21] ρ=[(2,vr),(3,RM (RJ ⟨M,0,RK⟩)),(4,RG RH n),(5,vt),(7,vp),(11,vd),(12,RG RH t),(13,RG RH b),(15,va),(19,RG RH ai),(21,RG RH 0)])(hQ : ∀h':Heap,Nx s M vs W0 h' o0 (m.dg (lv++(nth m.blocks ai).ins.flatMap cT))->Q .normal [(2,vr),(3,RM (RJ ⟨M,0,RK⟩)),(4,RG RH n),(5,vt),(7,vp),(11,vd),(12,RG RH t),(13,RG RH b),(15,va),(19,RG RH ai),(21,RG RH (nth m.blocks ai).ins.length)] h'):
  LC.wp RP (.block 20 (.loop L.au.l11)) Q ρ h:=by
 have hil:=z.ins ai;have hlen:ai<m.blocks.length:=by rw[z.len];exact hai
 simp only[aU];have read : ∀{h2:Heap} {lv2:List Int} {vb vl:Value},Reads M (m.dg lv2) h2 vb vl->∃vi,an (vw h2) (((slA vb).add (ai*6)).add 1)=RJ vi/\SlRd (vw h2) vi (nth m.blocks ai).ins/\Bn.ev (.idx 6) vb (RG RH ai)=RJ (RM (RJ ((slA vb).add (ai*6)))):=by intro h2 lv2 vb vl rd;have hb:=rd.blk;have hl2:ai<(m.dg lv2).blocks.length:=hlen;obtain⟨vi,h1⟩:=((hb.at hl2).part BlkD.jY).sl;have h2:=h1.2;have e:(m.dg lv2).blocks[ai]=nth m.blocks ai:=(aA hl2).symm;rw[e]at h2;exact⟨vi,h1.1,h2,by have:=hb.idxn (N:=6) rfl (k:=.i64) (i:=ai) R3 R3;simpa using this⟩
 refine bX [2,3,4,5,7,11,12,13,15,19,21] (fun(_:Unit) k=>[vr,RM (RJ ⟨M,0,RK⟩),RG RH n,vt,vp,vd,RG RH t,RG RH b,va,RG RH ai,RG RH k]) (λ_ k h2=>Nx s M vs W0 h2 o0 (m.dg (lv++((nth m.blocks ai).ins.take k).flatMap cT))) (nth m.blocks ai).ins.length ()
  rfl R3 h0 (by simpa using x) (λ_ _=>rfl) (λv k h2 hk2 x2=>by obtain⟨vb,vl,rd⟩:=x2.z.reads;obtain⟨vi,r1,r2,r3⟩:=read rd;simp[rd.cb,r3,r1,r2.len]) ?_ ?_
 ·rintro _ k h2 hlt x2 K2 hK2;obtain⟨vb,vl,rd⟩:=x2.z.reads;obtain⟨vi,r1,r2,r3⟩:=read rd;obtain⟨ux,hux,huxr⟩:=r2.wh rfl (N:=5) rfl hlt;have r5:Bn.ev (.idx 5) vi (RG RH k)=RJ (RM (RJ ((slA vi).add (k*5)))):=by have:=r2.idxn (N:=5) rfl (k:=.i64) (i:=k) R3 R3;simpa using this
  simp only[aU];refine aa λy hy=>?_;simp[rd.cb,r3,r1,r5,hux _ RD];refine ah R1 (qR huxr) ?_;rintro um h3 ⟨hle3,hum,-⟩;clear rd r1 r2 r3 r5 hux;obtain⟨W,o,g,w,f⟩:=x2;have w3:=w.own.ext hle3;have hW3:=aW (h':=h3) w.own.wle;have hum:=hum.mono (gu W h2 h3);generalize grow W h2 h3=W3 at w3 hW3 hum;have w4:Mk s M vs W3 h3 o (m.dg (lv++((nth m.blocks ai).ins.take k).flatMap cT)):=⟨w3,w.src.mono hW3,w.box⟩;obtain⟨vb,vl,lb,bb⟩:=w4.box;have rd:=w4.reads bb;subst hy;simp[rd.cl];have hfl:=CO (l:=(nth m.blocks ai).ins.take k);have hml:(cT (nth (nth m.blocks ai).ins k)).length<=2:=by
   unfold cT;repeat' split
   all_goals simp
  refine w4.z7 bb (hum.src w3.wle) (by show(lv++_).length+_<=_;simp at hfl ⊢;omega) rfl rfl (λ_=>rfl) (λ_=>rfl) λv h6 o6 w6 f6=>?_;refine hK2 () _ _ rfl rfl ⟨W3,o6,RE g hW3,?_,λk hk=>(f6 k hk).trans (f k hk)⟩;rw[NT hlt,List.flatMap_append,List.flatMap_singleton,<-List.append_assoc,<-aA hlt];exact w6
 rintro _ h2 x2;rw[OK]at x2;exact hQ h2 x2
variable{dn:BL}{away:List BL}
theorem Fl{a p i:Nat}(z:Sz n a p i m){ai:Nat}{l:List Int}:(iV m dn away b ai l).length<=l.length+p+2*i:=by
 unfold iV;split
 ·omega
 have h1:=z.phis ai;have h2:=z.ins ai;have h3:=CO (l:=(nth m.blocks ai).ins);simp only[N1,Po];omega
theorem oS {n a p i:Nat} (z:Sz n a p i m) {dn:BL} {away:List BL} {b:Nat} {l:List Int} : ∀k,(up (iV m dn away b) k l).length<=l.length+(p+2*i)*k
 | 0=>NO _
 | k+1=>by have:=oS z (dn:=dn) (away:=away) (b:=b) (l:=l) k;have h2:=Fl z (dn:=dn) (away:=away) (b:=b) (ai:=k) (l:=up (iV m dn away b) k l);show(iV m dn away b k (up (iV m dn away b) k l)).length<=_;rw[QX];omega
theorem J0{a p i:Nat}{t:Nat}{l0:List Int}(x:Nx s M vs W0 h o0 (m.dg l0))(z:Sz n a p i m)(hd:o0 (6,0)=it T.bool vd dn)(sa:SlRd W0 va away)(hb:b<n)(hdn:dn.length=n)(hal:away.length=n)(har : ∀i,i<n->(nth away i).length=n)(hn:n<=10)(hl:l0.length<=10)(hp:p<=1000)(hi:i<=3000)(h0:bF [2,3,4,5,7,11,12,13,15,19] ρ=[(2,vr),(3,RM (RJ ⟨M,0,RK⟩)),(4,RG RH n),(5,vt),(7,vp),(11,vd),(12,RG RH t),(13,RG RH b),(15,va),(19,RG RH 0)])(hQ : ∀h':Heap,Nx s M vs W0 h' o0 (m.dg (up (iV m dn away b) n l0))->Q .normal [(2,vr),(3,RM (RJ ⟨M,0,RK⟩)),(4,RG RH n),(5,vt),(7,vp),(11,vd),(12,RG RH t),(13,RG RH b),(15,va),(19,RG RH n)] h'):
  LC.wp RP (.block 16 (.loop L.au.l9)) Q ρ h:=by
 simp only[aU];refine bX [2,3,4,5,7,11,12,13,15,19] (fun(_:Unit) k=>[vr,RM (RJ ⟨M,0,RK⟩),RG RH n,vt,vp,vd,RG RH t,RG RH b,va,RG RH k]) (λ_ k h2=>Nx s M vs W0 h2 o0 (m.dg (up (iV m dn away b) k l0))) n ()
  rfl R3 h0 x (λ_ _=>rfl) (λv k h2 hk2 x2=>by simp) ?_ ?_
 ·rintro _ k h2 hlt x2 K2 hK2;have e2:up (iV m dn away b) (k+1) l0=iV m dn away b k (up (iV m dn away b) k l0):=rfl;rw[e2]at hK2;have hll:=oS z (dn:=dn) (away:=away) (b:=b) (l:=l0) k;have hll:(up (iV m dn away b) k l0).length<=80000:=by have:(p+2*i)*k<=7000*10:=P8 R3 R3;omega
  generalize up (iV m dn away b) k l0=lv at x2 hK2 hll;have hla:iV m dn away b k lv=_:=iV.eq_1 m dn away b k lv;have sd:=x2.z.at R4 hd;have sa2:=sa.mono x2.z.le;obtain⟨rv,hrv⟩:=sa2.rows;obtain⟨ha1,ha2⟩:=hrv k R3;have hal2:=har k hlt;simp only[aU];refine aa λy hy=>?_;have fin : ∀ρ,Lft.look ρ 2=RJ vr->Lft.look ρ 3=RJ (RM (RJ ⟨M,0,RK⟩))->Lft.look ρ 4=RJ (RG RH n)->Lft.look ρ 5=RJ vt->Lft.look ρ 7=RJ vp->Lft.look ρ 11=RJ vd->Lft.look ρ 12=RJ (RG RH t)->Lft.look ρ 13=RJ (RG RH b)->Lft.look ρ 15=RJ va->Lft.look ρ 19=RJ (RG RH k)->(decide (k≠b)&&(!nth dn k||nth (nth away k) b))=RO->
    LC.wp RP y (fe 17 (eU K2 (fe 16 Q))) ρ h2:=by
   intro ρ r2 r3 r4 r5 r7 r11 r12 r13 r15 r19 hc;subst hy;rw[if_neg (by rw[hc];simp)]at hla;refine aa λy hy=>?_;refine aa λw hw=>?_;simp;subst hw;refine GD (vr:=vr) (vt:=vt) (vp:=vp) (vd:=vd) (va:=va) (t:=t) (b:=b) (ai:=k) x2 z hlt R3 R3 R3 ?_ λh3 x3=>?_
   ·simp[bF,af,ag,r2,r3,r4,r5,r7,r11,r12,r13,r15,r19]
   simp;subst hy;refine aa λw hw=>?_;simp;subst hw;have hph:=z.phis k;refine Hc (vr:=vr) (vt:=vt) (vp:=vp) (vd:=vd) (va:=va) (t:=t) (b:=b) (ai:=k) x3 z hlt R3 R9 R3 ?_ λh4 x4=>?_
   ·simp[bF,af,ag]
   simp;refine hK2 () _ _ rfl rfl (by rw[hla];exact x4)
  refine aa λw hw=>?_;by_cases c:k=b
  ·subst c;simp;subst hw;refine aP Sa ?_;simp;refine fin _ ?_ ?_ ?_ ?_ ?_ ?_ ?_ ?_ ?_ ?_ Sa;all_goals simp
  have c':¬((k:Int)=(b:Int)):=by omega
  cases hd2:nth dn k with
  | false=>simp(disch:=omega)[c,c',sd.idx1 rfl,sd.bool RD,hd2];subst hw;refine aN Sa ?_;simp;refine hK2 () _ _ rfl rfl ?_;rw[if_pos (by simp[c,hd2])]at hla;rw[hla];exact x2
  | true=>
   simp(disch:=omega)[c,c',sd.idx1 rfl,sd.bool RD,hd2,sa2.idx1 rfl,ha1 _ RD,ha2.idx1 rfl,ha2.bool RD];subst hw;cases hw2:nth (nth away k) b with
   | true=>refine aN (by simp[hw2]) ?_;simp;refine hK2 () _ _ rfl rfl ?_;rw[if_pos (by simp[c,hd2,hw2])]at hla;rw[hla];exact x2
   | false=>refine aP (by simp[hw2]) ?_;simp;refine fin _ ?_ ?_ ?_ ?_ ?_ ?_ ?_ ?_ ?_ ?_ (by simp[c,hd2,hw2]);all_goals simp
 rintro _ h2 x2;exact hQ h2 x2
end
structure B2 (n a p:Nat) (x:BL × MS):Prop where
 z:Sz n a p 700 x.2
 len:x.1.length=n
 none : ∀j,j<n->nth x.1 j=RO->(nth x.2.blocks j).ins.length=0
variable{dn:BL}{away:List BL}
theorem zz{a p:Nat}{m:MS}(z:Sz n a p 700 m)(hn:n<=10)(hp:p<=100):(nK m dn away b n).length<=15100:=by have:=oS z (dn:=dn) (away:=away) (b:=b) (l:=rows (λi=>(i:Int)) m.ps.toNat) n;rw[nv]at this;have h2:(p+2*700)*n<=1500*10:=P8 R3 hn;have:=z.ps1;unfold nK;omega
theorem qd{m:MS}{j:Nat}{t:cB}(hb:b<m.blocks.length):nth (m.AF b t).blocks j=if b=j then{ nth m.blocks b with term:=t } else nth m.blocks j:=by
 show nth (m.blocks.set b _) j=_;rcases NQ j m.blocks.length with hl | hl
 ·rw[bN hl]
 rw[dp (by simpa using hl),dp hl,if_neg R3]
theorem DQ{s:List Int}{a p:Nat}{m:MS}(z:Sz n a p 700 m)(hb:b<n)(h0:(nth m.blocks b).ins.length=0)(hn:n<=10)(hp:p<=100)(ha:16000<=a):
  Sz n (a+600) p 700 (jF s to n dn away b m)/\∀j,j≠b->(nth (jF s to n dn away b m).blocks j).ins=(nth m.blocks j).ins:=by
 have hll:=zz (dn:=dn) (away:=away) (b:=b) z hn hp;have ht:=di (s:=s) (at_:=m.at_) (n:=7) R4;have hbl:b<m.blocks.length:=by rw[z.len];exact hb
 obtain⟨m1,hm1⟩ : ∃m1:MS,m1=MS.took { m with live:=nK m dn away b n }:=⟨_,rfl⟩;have z1:Sz n (a+1) p 700 m1:=by rw[hm1];exact Sz.took ⟨z.at_,z.n0,z.next,by show(nK m dn away b n).length<=_;omega,z.ps0,z.ps1,z.len,z.phis,z.ins⟩
 have hl1:m1.live.length<=15100:=by rw[hm1];exact hll
 have e1 : ∀j,nth m1.blocks j=nth m.blocks j:=λj=>by rw[hm1];rfl
 have hb1:b<m1.blocks.length:=by rw[z1.len];exact hb
 have g:=((Grw.refl (b:=b) (m:=m1)).jg (s:=s) hb1 (aR s m.at_ 7).toNat).J2 (s:=s) (to:=nth to b) hb1;have g:=g.mono (l:=520) R3;have e:jF s to n dn away b m=qH s (nth to b) b (up (λ_=>aY s b) (aR s m.at_ 7).toNat m1):=by rw[hm1];rfl
 rw[e];unfold qH;generalize jk s (nth to b) b (up (λ_=>aY s b) (aR s m.at_ 7).toNat m1)=r at g;have hbr:b<r.2.blocks.length:=by rw[g.len];exact hb1
 have hown:=g.ins;rw[e1,h0]at hown;refine⟨⟨?_,?_,?_,?_,?_,?_,?_,λj=>?_,λj=>?_⟩,λj hj=>?_⟩
 ·show r.2.at_<=_;have:=g.at1;have:=z1.at_;omega
 ·show 0<=r.2.next;have:=g.n0;have:=z1.n0;omega
 ·show r.2.next<=_;have:=g.n1;have:=z1.next;omega
 ·show r.2.live.length<=_;have:=g.live;omega
 ·show 0<=r.2.ps;rw[g.ps];exact z1.ps0
 ·show r.2.ps<=4;rw[g.ps];exact z1.ps1
 ·show(r.2.blocks.set b _).length=n;rw[OH,g.len];exact z1.len
 ·rw[qd hbr];split
  ·rename_i e;subst e;show(nth r.2.blocks b).phis.length<=_;rw[g.phis];exact z1.phis b
  rename_i e;rw[g.els j (λq=>e q.symm)];exact z1.phis j
 ·rw[qd hbr];split
  ·rename_i e;subst e;show(nth r.2.blocks b).ins.length<=_;omega
  rename_i e;rw[g.els j (λq=>e q.symm)];exact z1.ins j
 rw[qd hbr,if_neg (λq=>hj q.symm),g.els j hj,e1]
theorem sy{s:List Int}{a p:Nat}{x:BL × MS}(q:B2 n a p x)(hb:b<n)(hn:n<=10)(hp:p<=100)(ha:16000<=a)(h0:uK x.1 (sn x.2.f n) b n=RN->nth x.1 b=RO):B2 n (a+600) p (cR s to n b x):=by
 unfold cR;split
 ·rename_i hr;obtain⟨z2,e2⟩:=DQ (s:=s) (to:=to) (dn:=x.1.set b RN) (away:=sn x.2.f n) q.z hb (q.none b hb (h0 hr)) hn hp ha;refine⟨z2,by show(x.1.set b RN).length=n;rw[OH];exact q.len,λj hj h=>?_⟩;have h:nth (x.1.set b RN) j=false:=h;rw[bN (by rw[q.len];exact hj)]at h;split at h
  ·cases h
  rename_i e;show(nth (jF _ _ _ _ _ _ _).blocks j).ins.length=0;rw[e2 j (λr=>e r.symm)];exact q.none j hj h
 exact⟨q.z.mono R3 (NO _) (NO _),q.len,q.none⟩
theorem Gm {f:Nat->Bool} : ∀(n:Nat) (r:Bool),up (λa r=>r&&f a) n r=RN->r=RN
 | 0,r,h=>h
 | n+1,r,h=>by have h:(up (λa r=>r&&f a) n r&&f n)=true:=h;simp only[NS]at h;exact Gm n r h.1
theorem rh(h:uK dn away b n=RN):nth dn b=false:=by unfold uK at h;have:=Gm _ _ h;simpa using this
section
variable {s:List Int} {M:Nat} {vs:Value} {W0:View} {h:Heap} {o0:Own} {m:MS}
variable{vd va:Value}
theorem Gp{k c:Nat}{t:Nat}(x:Nx s M vs W0 h o0 m)(hfree:o0 (9,0)=RK)(hm:m.ok c)(hc:c<=100000)(hk:k<=100)(hb:b<m.blocks.length)(h0:bF [2,3,4,5,7,11,12,13,15,23,24] ρ=[(2,vr),(3,RM (RJ ⟨M,0,RK⟩)),(4,RG RH n),(5,vt),(7,vp),(11,vd),(12,RG RH t),(13,RG RH b),(15,va),(23,RG RH k),(24,RG RH 0)])(hQ : ∀h':Heap,Nx s M vs W0 h' o0 (up (λ_=>aY s b) k m)->Q .normal [(2,vr),(3,RM (RJ ⟨M,0,RK⟩)),(4,RG RH n),(5,vt),(7,vp),(11,vd),(12,RG RH t),(13,RG RH b),(15,va),(23,RG RH k),(24,RG RH k)] h'):
  LC.wp RP (.block 22 (.loop L.au.l12)) Q ρ h:=by
 have oks : ∀j,(up (λ_=>aY s b) j m).ok (c+80*j)/\(up (λ_=>aY s b) j m).blocks.length=m.blocks.length:=by
  intro j;induction j with
  | zero=>exact⟨hm,rfl⟩
  | succ j ih=>exact⟨(ih.1.jT (s:=s) (b:=b)).mono R3,(pL (s:=s) (b:=b)).trans ih.2⟩
 simp only[aU];refine bX [2,3,4,5,7,11,12,13,15,23,24] (fun(_:Unit) j=>[vr,RM (RJ ⟨M,0,RK⟩),RG RH n,vt,vp,vd,RG RH t,RG RH b,va,RG RH k,RG RH j]) (λ_ j h2=>Nx s M vs W0 h2 o0 (up (λ_=>aY s b) j m)) k ()
  rfl R3 h0 x (λ_ _=>rfl) (λv k h2 hk2 x2=>by simp) ?_ ?_
 ·rintro _ j h2 hlt x2 K2 hK2;obtain⟨q1,q2⟩:=oks j;have e2:up (λ_=>aY s b) (j+1) m=aY s b (up (λ_=>aY s b) j m):=rfl;rw[e2]at hK2;generalize up (λ_=>aY s b) j m=m2 at x2 hK2 q1 q2;simp only[aU];simp;refine ah R1 (xS x2 (b:=b) R3 q1 R3 hfree) ?_;rintro _ h3 x3;exact hK2 () _ _ rfl rfl x3
 rintro _ h2 x2;exact hQ h2 x2
end
theorem Nx.up{s:List Int}{h:Heap}{m:MS}(x:Nx s M vs W h o0 m)(hW:W0.le W):Nx s M vs W0 h o0 m:=by obtain⟨W',o,g,w,f⟩:=x;exact⟨W',o,RE hW g,w,f⟩
theorem Nx.re{s:List Int}{h:Heap}{o0':Own}{m:MS}(x:Nx s M vs W h o0 m)(he : ∀k,o0' k=o0 k):Nx s M vs W h o0' m:=by obtain⟨W',o,g,w,f⟩:=x;exact⟨W',o,g,w,λk hk=>(f k hk).trans (he k).symm⟩
theorem Nx.nu {po:OP} {s:List Int} {M:Nat} {vs:Value} {W0:View} {h:Heap} {o0:Own} {m:MS} {α:Type} [r:Rep α] {ty e t:TypeId} {us:List (Nat × Value)} {k:Key} {bytes:Nat} {z:Value} {K:Value->Heap->Prop} (x:Nx s M vs W0 h o0 m) (h3:3<=k.1) (hk:o0 k=RK) (hT:fm RP t e (Rep.n α) bytes z)
  (hK : ∀v h',v.oneCell'=RN->Nx s M vs W0 h' (o0.upd k (it e v ([]:List α))) m->K v h'):@Lft.step po RP (.buildSlice t 0 #[]) ty us h K:=by
 obtain⟨W,o,g,w,f⟩:=x;refine w.own.nu (k:=k) (α:=α) ((f k h3).trans hk) hT λv h2 hle2 hv w2 _=>hK v h2 hv ?_;obtain⟨vb,vl,lb,bb⟩:=w.box;refine⟨W,_,g,⟨w2,w.src,vb,vl,lb,bb.frame λq hq=>Own.aB (by rintro rfl;omega)⟩,λq hq=>?_⟩;unfold Own.upd;split
 ·rfl
 exact f q hq
variable{ty2:TypeId}
theorem Nx.Ir{po2:OP}{s:List Int}{h:Heap}{m:MS}{us2:Value->List (Nat × Value)}{c1 c2:Operand}{K:Value->Value->Heap->Prop}(x:Nx s M vs W0 h o0 m)(hc1 : ∀v,asg (us2 v) c1 = RM (RJ ⟨M,5,RK⟩))(hc2 : ∀v,asg (us2 v) c2=v)(hK : ∀v h',Nx s M vs W0 h' o0 (m.dg [])->K v undef h'):@Lft.step po RP (.buildSlice T.aQ 0 #[]) ty us h λv h2=>@Lft.step po2 RP (.store T.aQ c1 c2) ty2 (us2 v) h2 λw h3=>K v w h3:=by
 obtain⟨W,o,g,w,f⟩:=x;obtain⟨vb,vl,lb,bb⟩:=w.box;have w1:=w.own.sub (o':=o.upd (0,1) RK) λj i hj=>by
  unfold Own.upd at hj;split at hj
  ·cases hj
  exact hj
 refine w1.nu (k:=(0,1)) (α:=Int) Own.aj El.aQ λv h2 hle2 hv w2 _=>?_;have w2:=w2.congr (o':=o.upd (0,1) (it T.int v ([]:List Int))) λq=>by unfold Own.upd;split<;>rfl
 refine w2.dB (k:=(0,0)) (n:=5) (i:=5) (e:=T.bu) (B:=M) (l:=mkL vs m.at_ m.ps vb m.next vl) ((Own.aB Sa).trans bb.box) R4 R1 (hc1 v) (hc2 v) hv λh3 w3 _=>?_;refine hK v h3 ⟨W,_,g,⟨w3,w.src,vb,v,lb,⟨rfl,rfl,(Own.aB Sa).trans ((Own.aB Sa).trans bb.blk),bb.len,bb.term,λi hi=>?_,λi hi=>?_⟩⟩,λk hk=>?_⟩
 ·exact(Own.aB Sa).trans ((Own.aB Sa).trans (bb.phis i hi))
 ·exact(Own.aB Sa).trans ((Own.aB Sa).trans (bb.ins i hi))
 rw[Own.aB (by rintro rfl;simp at hk),Own.aB (by rintro rfl;simp at hk)];exact f k hk
section
variable {s:List Int} {M:Nat} {vs:Value} {W0:View} {h:Heap} {o0:Own} {m:MS}
variable{vd:Value}
theorem Jh{a p:Nat}{t:Nat}{x0:BL × MS}(x:Nx s M vs W0 h (o0.upd (6,0) (it T.bool vd x0.1)) x0.2)(hto:SlRd W0 vt to)(htl:to.length=n)(f7:o0 (7,0)=RK)(f90:o0 (9,0)=RK)(f91:o0 (9,1)=RK)(q:B2 n a p x0)(hn:n<=10)(hp:p<=100)(ha:16000<=a)(ha2:a<=90000)(h0:bF [2,3,4,5,7,11,12,13] ρ=[(2,vr),(3,RM (RJ ⟨M,0,RK⟩)),(4,RG RH n),(5,vt),(7,vp),(11,vd),(12,RG RH t),(13,RG RH 0)])(hQ : ∀h':Heap,Nx s M vs W0 h' (o0.upd (6,0) (it T.bool vd (up (cR s to n) n x0).1)) (up (cR s to n) n x0).2->Q .normal [(2,vr),(3,RM (RJ ⟨M,0,RK⟩)),(4,RG RH n),(5,vt),(7,vp),(11,vd),(12,RG RH t),(13,RG RH n)] h'):
  LC.wp RP (.block 8 (.loop L.au.l5)) Q ρ h:=by
 have oks : ∀j,j<=n->B2 n (a+600*j) p (up (cR s to n) j x0):=by
  intro j;induction j with
  | zero=>intro _;exact q
  | succ j ih=>intro hj;have:=sy (s:=s) (to:=to) (b:=j) (ih R3) R3 hn hp R3 λh=>rh h;exact⟨this.z.mono R3 (NO _) (NO _),this.len,this.none⟩
 simp only[aU];refine bX [2,3,4,5,7,11,12,13] (fun(_:Unit) j=>[vr,RM (RJ ⟨M,0,RK⟩),RG RH n,vt,vp,vd,RG RH t,RG RH j]) (λ_ j h2=>Nx s M vs W0 h2 (o0.upd (6,0) (it T.bool vd (up (cR s to n) j x0).1)) (up (cR s to n) j x0).2) n ()
  rfl R3 h0 x (λ_ _=>rfl) (λv k h2 hk2 x2=>by simp) ?_ ?_
 ·rintro _ b h2 hlt x2 K2 hK2;have q2:=oks b R3;have e2:up (cR s to n) (b+1) x0=cR s to n b (up (cR s to n) b x0):=rfl;rw[e2]at hK2;generalize up (cR s to n) b x0=y at x2 hK2 q2;obtain⟨dn,m⟩:=y;have x2:Nx s M vs W0 h2 (o0.upd (6,0) (it T.bool vd dn)) m:=x2;have z:Sz n (a+600*b) p 700 m:=q2.z;have hdn:dn.length=n:=q2.len;have hbs:cR s to n b (dn,m)=_:=cR.eq_1 s to n b (dn,m);simp only at hbs;have sd:=x2.z.at R4 Own.aj;simp only[aU];refine aa λy hy=>?_;simp(disch:=omega)[sd.idx1 rfl,sd.bool RD];subst hy;refine aa λy hy=>?_;simp;refine x2.nu (k:=(7,0)) (α:=BL) R4 ((Own.aB Sa).trans f7) El.rm λva h3 hva x3=>?_;clear sd;subst hy;refine aa λy hy=>?_;refine aa λw hw=>?_;simp;subst hw;refine Jq (vr:=vr) (vt:=vt) (vp:=vp) (vd:=vd) (t:=t) (b:=b) (r:=!nth dn b) x3 ((Own.aB Sa).trans f7) z R3 (by simp[bF,af,ag]) λh4 W4 va hW4 x4 sa=>?_;clear x3 hva x2;have hal:(sn m.f n).length=n:=by unfold sn;simp
  have har : ∀i,i<n->(nth (sn m.f n) i).length=n:=λi hi=>by unfold sn;rw[gG hi,my];exact z.len
  generalize sn m.f n=away at sa hbs hal har;simp;subst hy;refine aa λy hy=>?_;refine aa λw hw=>?_;simp;subst hw;have sd:=x4.z.at R4 Own.aj;refine Jm (M:=M) (n:=n) (b:=b) (vr:=vr) (vt:=vt) (vp:=vp) (vd:=vd) (va:=va) (t:=t) (r:=!nth dn b) sd (sa.mono x4.z.le) hlt hdn hal har R3 (by simp[bF,af,ag]) ?_;have hrd:up (λa r=>r&&(decide (a=b)||nth dn a||nth (nth away a) b)) n (!nth dn b)=uK dn away b n:=rfl;rw[hrd];simp;subst hy;refine aa λy hy=>?_;refine aa λw hw=>?_;simp;subst hw;cases hr:uK dn away b n with
  | false=>rw[hr]at hbs;rw[if_neg Sa]at hbs;refine aN Sa ?_;simp;refine hK2 () _ _ rfl rfl ?_;rw[hbs];exact x4.up hW4
  | true=>
   rw[hr]at hbs;rw[if_pos rfl]at hbs;have hnb:=rh hr;have hib:=q2.none b hlt hnb;refine aP Sa ?_;simp;subst hy;refine aa λy hy=>?_;simp(disch:=omega)[sd.idx1 rfl];refine x4.z.xU (k:=(6,0)) (α:=Bool) (i:=b) (d:=true) rfl R4 Own.aj R3 R1 rfl rfl (λW=>wQ.2 rfl) λh5 n5=>?_;have x5:Nx s M vs W4 h5 (o0.upd (6,0) (it T.bool vd (dn.set b RN))) m:=n5.x.re λq=>by rw[eC]
   clear n5 x4 sd;subst hy;refine aa λy hy=>?_;simp;refine x5.Ir (λ_=>rfl) (λ_=>rfl) λv6 h6 x6=>?_;subst hy;obtain⟨c,hc⟩ : ∃c:Nat,m.ps=c:=⟨m.ps.toNat,by have:=z.ps0;omega⟩;have hc4:c<=4:=by have:=z.ps1;omega
   refine aa λy hy=>?_;refine aa λw hw=>?_;simp;subst hw;refine I8 (n:=n) (b:=b) (vr:=vr) (vt:=vt) (vp:=vp) (vd:=vd) (va:=va) (t:=t) (r:=true) x6 z hc (by simp[bF,af,ag]) λh7 x7=>?_;simp;subst hy;refine aa λy hy=>?_;refine aa λw hw=>?_;simp;subst hw;refine J0 (n:=n) (b:=b) (vr:=vr) (vt:=vt) (vp:=vp) (vd:=vd) (va:=va) (t:=t) (dn:=dn.set b RN) (away:=away) x7 z Own.aj sa hlt (by rw[OH];exact hdn) hal har hn R9 R3 R3 (by simp[bF,af,ag]) λh8 x8=>?_;have hlv:up (iV m (dn.set b RN) away b) n (rows (λi=>(i:Int)) c)=nK m (dn.set b RN) away b n:=by unfold nK;rw[hc];rfl
   rw[hlv]at x8;have hll:=zz (dn:=dn.set b RN) (away:=away) (b:=b) z hn hp;have hdo:jF s to n (dn.set b RN) away b m=qH s (nth to b) b (up (λ_=>aY s b) (aR s m.at_ 7).toNat (MS.took (m.dg (nK m (dn.set b RN) away b n)))):=rfl;rw[hdo]at hbs;obtain⟨m1,hm1⟩ : ∃m1,m1=m.dg (nK m (dn.set b RN) away b n):=⟨_,rfl⟩;have z1:Sz n (a+600*b) p 700 m1:=by rw[hm1];exact⟨z.at_,z.n0,z.next,by show(nK _ _ _ _ _).length<=_;omega,z.ps0,z.ps1,z.len,z.phis,z.ins⟩
   have ea:m.at_=m1.at_:=by rw[hm1];rfl
   rw[<-hm1]at x8 hbs;rw[ea]at hbs;clear hlv hdo hm1 ea x7 x6 x5;simp;subst hy;refine aa λy hy=>?_;simp;refine ah R1 (fq x8.z (z1.ok R3) R3 (k:=7) R4 R4) ?_;rintro _ h9 ⟨rfl,n9⟩;obtain⟨t0,t1⟩:=di (s:=s) (at_:=m1.at_) (n:=7) R4;generalize aR s m1.at_ 7=kk at hbs t0 t1;obtain⟨k,rfl⟩ : ∃k:Nat,kk=k:=⟨kk.toNat,by omega⟩;rw[show((k:Int)).toNat=k by omega]at hbs;subst hy;refine aa λy hy=>?_;refine aa λw hw=>?_;simp;subst hw;have zok:=(z1.took).ok (show 700<=_ by omega);refine Gp (n:=n) (b:=b) (k:=k) (c:=a+600*b+1) (vr:=vr) (vt:=vt) (vp:=vp) (vd:=vd) (va:=va) (t:=t) n9.x ((Own.aB Sa).trans f90) zok R3 R3 (by show b<m1.blocks.length;rw[z1.len];exact hlt) (by simp[bF,af,ag]) λh10 x10=>?_;have oks2 : ∀j,(up (λ_=>aY s b) j m1.took).ok (a+600*b+1+80*j)/\(up (λ_=>aY s b) j m1.took).blocks.length=n:=by
    intro j;induction j with
    | zero=>exact⟨zok,z1.len⟩
    | succ j ih=>exact⟨(ih.1.jT (s:=s) (b:=b)).mono R3,(pL (s:=s) (b:=b)).trans ih.2⟩
   obtain⟨k1,k2⟩:=oks2 k;generalize up (λ_=>aY s b) k m1.took=m2 at x10 hbs k1 k2;obtain⟨rv,hrv⟩:=hto.rows;obtain⟨hr1,hr2⟩:=hrv b R3;have ito:=(hto.mono hW4).mono x10.z.le;simp;subst hy;simp(disch:=omega)[ito.idx1 rfl,hr1 _ (RE hW4 x10.z.le)];refine ah R1 (La x10 (b:=b) R3 k1 R3 ((Own.aB Sa).trans f91) (hr2.mono hW4)) ?_;rintro _ h11 x11;refine hK2 () _ _ rfl rfl ?_;rw[hbs];exact x11.up hW4
 rintro _ h2 x2;exact hQ h2 x2
end
section
structure GdB (x:BlkD):Prop where
 ins : ∀i∈x.ins,i.args.length<=10
 args:x.term.args.length<=10
 to:x.term.to.length<=1000
 phis : ∀p∈x.phis,p.ins.length<=1000
def Gd (m:MS):Prop:=∀j,j<m.blocks.length->GdB (nth m.blocks j)
variable {s:List Int} {m:MS} {b:Nat}
theorem Gd.took (g:Gd m):Gd m.took:=g
theorem Gd.aS (g:Gd m):Gd m.aS:=g
theorem Gd.gQ(g:Gd m){x:BlkD}(hx:b<m.blocks.length->GdB x):Gd { m with blocks:=m.blocks.set b x }:=λj hj=>by
 have hj:j<m.blocks.length:=by simpa using hj
 show GdB (nth (m.blocks.set b x) j);rw[bN hj];split
 ·rename_i e;exact hx R3
 exact g j hj
theorem Gd.add (g:Gd m) {i:InsD} (hi:i.args.length<=10):Gd (m.add b i):=by
 have:=g.gQ (b:=b) (x:={ nth m.blocks b with ins:=(nth m.blocks b).ins++[i] }) λhb=>⟨λj hj=>by
  rcases NU.1 hj with h | h
  ·exact(g b hb).ins j h
  rw[NW]at h;rw[h];exact hi,(g b hb).args,(g b hb).to,(g b hb).phis⟩;exact this
theorem Gd.constant (g:Gd m) {n:Int}:Gd (m.constant b n):=g.aS.add (by show 0<=10;omega)
theorem Gd.two (g:Gd m) {op x y:Int}:Gd (m.two b op x y):=g.aS.add (by show 2<=10;omega)
theorem Gd.aT (g:Gd m):Gd (aT s m b).2:=by
 unfold Go.Proofs.YtnfiilgdjpdlkaaGreatDoor.aT;repeat' split
 ·exact g.took.took.constant
 ·exact g.took.took.took.took.took.constant
 exact g.took.took.took
theorem Gd.addr(g:Gd m):Gd (pK s m b).2:=by
 unfold pK;simp only;split
 ·exact g.took.constant.took.aT.constant.two.two
 exact g.took.constant.took
theorem Gd.off(g:Gd m):Gd (offS s m).2:=by
 unfold offS;split
 ·exact g.took.took.took.took
 exact g.took.took
theorem Gd.memory(g:Gd m){st:Bool}:Gd (jL s m b st):=by
 unfold jL;simp only;split
 ·exact g.addr.off.aT.add (by show 2<=10;omega)
 exact g.addr.off.aS.add (by show 1<=10;omega)
theorem Gd.bin(g:Gd m){op:Int}:Gd (binS s m b op):=by
 unfold binS;simp only;split
 ·exact g.aT.aT.took.took.constant.two
 exact g.aT.aT.took.two
theorem Gd.div(g:Gd m):Gd (divS s m b):=by
 unfold divS;simp only;split
 ·exact g.aT.took.constant.took.took.constant.two
 exact g.aT.took.constant.took.two
theorem Gd.args {x:List Int × MS} (g:Gd x.2) : ∀n,Gd (up (iU s b) n x).2/\(up (iU s b) n x).1.length=x.1.length+n
 | 0=>⟨g,rfl⟩
 | n+1=>⟨(Gd.args g n).1.aT,by show((up (iU s b) n x).1++[_]).length=_;rw[N1,(Gd.args g n).2,OC];omega⟩
theorem Gd.call(g:Gd m):Gd (pQ s m b):=by unfold pQ;simp only;have ht:=di (s:=s) (at_:=m.at_) (n:=5) R4;obtain⟨g2,l2⟩:=Gd.args (s:=s) (b:=b) (x:=([],m.took)) g.took (aR s m.at_ 5).toNat;refine g2.aS.took.add ?_;show(up (iU s b) (aR s m.at_ 5).toNat ([],m.took)).1.length<=10;rw[l2];simp;omega
theorem Gd.jT(g:Gd m):Gd (aY s b m):=by
 unfold aY;simp only;repeat' split
 ·exact g.took.bin
 ·unfold ltuS;exact g.took.aT.aT.two
 ·exact g.took.div
 ·exact g.took.memory
 ·exact g.took.call
 ·unfold zJ;exact g.took.aT.aT.aS.aS.add (by show 2<=10;omega)
 exact g.took.took.took.constant
theorem Gd.jg (g:Gd m) : ∀n,Gd (up (λ_=>aY s b) n m)
 | 0=>g
 | n+1=>(Gd.jg g n).jT
theorem Gd.Mv(g:Gd m){to:List Int}(ht:to.length<=1000):Gd (qH s to b m):=by
 have h:Gd (jk s to b m).2/\(jk s to b m).1.args.length<=10/\(jk s to b m).1.to.length<=1000:=by
  unfold jk;simp only;repeat' split
  ·exact⟨g.took.took,by show 0<=10;omega,by show 0<=1000;omega⟩
  ·exact⟨g.took.aT,by show 1<=10;omega,by show 0<=1000;omega⟩
  ·exact⟨g.took,by show 0<=10;omega,by show 0<=1000;omega⟩
  ·exact⟨g,by show 0<=10;omega,ht⟩
  ·exact⟨g.aT.took.aT.aS.took.add (by show 2<=10;omega),by show 1<=10;omega,ht⟩
  ·exact⟨g.aT.took,by show 1<=10;omega,ht⟩
  exact⟨g.aT.constant.two,by show 1<=10;omega,ht⟩
 obtain⟨h1,h2,h3⟩:=h;exact h1.gQ λhb=>⟨(h1 b hb).ins,h2,h3,(h1 b hb).phis⟩
theorem Gd.mO (g:Gd m) {l:List Int} (hl:l.length<=1000):Gd (m.mO b l):=g.gQ λhb=>⟨(g b hb).ins,(g b hb).args,hl,(g b hb).phis⟩
theorem Gd.fB (g:Gd m):Gd (Go.Proofs.YtnfiilgdjpdlkaaGreatDoor.fB b m):=by
 have:=g.aS.gQ (b:=b) (x:={ nth m.blocks b with phis:=(nth m.blocks b).phis++[⟨m.next,[]⟩] }) λhb=>⟨(g b hb).ins,(g b hb).args,(g b hb).to,λp hp=>by
  rcases NU.1 hp with h | h
  ·exact(g b hb).phis p h
  rw[NW]at h;rw[h];show 0<=1000;omega⟩;exact this
theorem Gd.qZ (g:Gd m) : ∀n,Gd (up (λ_=>Go.Proofs.YtnfiilgdjpdlkaaGreatDoor.fB b) n m)
 | 0=>g
 | n+1=>(Gd.qZ g n).fB
theorem Gd.tF (g:Gd m) {i:Nat} {l:List InD} (hl:l.length<=1000):Gd (m.tF b i l):=g.gQ λhb=>⟨(g b hb).ins,(g b hb).args,(g b hb).to,λp hp=>by
 rcases Qt hp with h | h
 ·exact(g b hb).phis p h
 rw[h];exact hl⟩
theorem Gd.smF{a p i:Nat}(g:Gd m)(z:Sz n a p i m)(hn:n<=10000)(hp:p<=10000)(hi:i<=10000):SmF m.f:=by refine⟨by show m.blocks.length<=_;rw[z.len];exact hn,λj hj=>?_⟩;have hj:j<m.blocks.length:=hj;have h:=g j hj;have e:nth m.f.blocks j=nth m.blocks j:=rfl;rw[e];exact⟨OD (z.phis j) hp,OD (z.ins j) hi,by have:=h.args;omega,by have:=h.to;omega,λk hk=>by have:=h.phis _ (bz hk);omega,λk hk=>by have:=h.ins _ (bz hk);omega⟩
theorem xv {f:aq} : ∀n,∀t∈thTo f n,t.mks.length<=1000
 | 0,t,h=>by cases h
 | n+1,t,h=>by
  rw[ij]at h;rcases NU.1 h with h | h
  ·exact xv n t h
  unfold thB at h;simp only[NU,NW,rows,Pk,PC]at h;rcases h with(⟨i,_,rfl⟩ | ⟨i,_,rfl⟩) | rfl
  ·show 1<=1000;omega
  ·show(cT _).length<=1000;unfold cT;repeat' split
   all_goals simp
  show 0<=1000;omega
theorem BY {n a p i:Nat} (z:Sz n a p i m) : ∀k,(thTo m.f k).length<=(p+i+1)*k
 | 0=>NO _
 | k+1=>by have h1:=BY z k;have h2:=z.phis k;have h3:=z.ins k;have e:nth m.f.blocks k=nth m.blocks k:=rfl;rw[ij,N1,QX];unfold thB;simp only[N1,nv,OC,e];omega
theorem sZ{a p i:Nat}(z:Sz n a p i m)(hn:n<=10)(hp:p<=1000)(hi:i<=3000):(aC m.f).length<=60000:=by
 have h1:=BY z n;have h2:(p+i+1)*n<=5000*10:=P8 R3 hn;have e:aC m.f=thTo m.f n:=by unfold aC;rw[show m.f.blocks.length=n from z.len]
 rw[e];omega
theorem xe{a p i:Nat}(z:Sz n a p i m)(hn:n<=10)(hp:p<=1000)(hi:i<=3000):(jd m.f b).length<=70000000:=by
 have h:=yM (l:=aC m.f) (f:=m.f) (b:=b) (c:=1000) (xv _) (out:=rows (λi=>(i:Int)) m.f.params.toNat);have h2:=sZ z hn hp hi;have h3:m.f.params.toNat<=4:=by have:=z.ps1;show m.ps.toNat<=4;omega
 rw[nv]at h;have e:jd m.f b=(aC m.f).foldl (eZ m.f b) (rows (λi=>(i:Int)) m.f.params.toNat):=rfl;rw[e];omega
end
structure P3 (n a p i:Nat) (m:MS):Prop where
 z:Sz n a p i m
 g:Gd m
theorem P3.mono {n a p i a' p' i':Nat} {m:MS} (q:P3 n a p i m) (h1:a<=a') (h2:p<=p') (h3:i<=i'):P3 n a' p' i' m:=⟨q.z.mono h1 h2 h3,q.g⟩
theorem Sz.const{a p i:Nat}{m:MS}{k:Int}(z:Sz n a p i m):Sz n (a+3) p (i+1) (m.constant b k):=by have h1:Sz n (a+3) p (i+1) { m.aS with live:=m.live++cT (conD m.next k) }:=⟨by have:=z.at_;show m.at_<=_;omega,by have:=z.n0;show 0<=m.next+1;omega,by have:=z.next;show m.next+1<=_;omega,by have:=z.live;show(m.live++[m.next]).length<=_;rw[N1,OC];omega,z.ps0,z.ps1,z.len,z.phis,λj=>by have:=z.ins j;show(nth m.blocks j).ins.length<=_;omega⟩;exact h1.gQ (b:=b) (x:={ nth m.blocks b with ins:=(nth m.blocks b).ins++[conD m.next k] }) (z.phis b) (by have:=z.ins b;show((nth m.blocks b).ins++[_]).length<=_;rw[N1,OC];omega)
theorem Sz.tF {n a p i b j:Nat} {m:MS} {l:List InD} (z:Sz n a p i m):Sz n a p i (m.tF b j l):=
 z.gQ (by show((nth m.blocks b).phis.set j _).length<=_;rw[OH];exact z.phis b) (z.ins b)
def rowS (s:List Int) (b:Nat) (m:MS):List Int × MS:=if(jd m.f b).length=0 then([m.next],m.took.took.constant b (lL s m)) else(jd m.f b,m)
theorem Hz{s:List Int}{m:MS}:0<(rowS s b m).1.length:=by
 unfold rowS;split
 ·show 0<1;omega
 show 0<(jd m.f b).length;omega
theorem HX{s:List Int}{a p i:Nat}{m:MS}(z:Sz n a p i m)(hn:n<=10)(hp:p<=1000)(hi:i<=3000):(rowS s b m).1.length<=70000000:=by
 unfold rowS;split
 ·show 1<=70000000;omega
 exact xe z hn hp hi
theorem EK{s:List Int}{a p i:Nat}{m:MS}(q:P3 n a p i m):P3 n (a+5) p (i+1) (rowS s b m).2:=by
 unfold rowS;split
 ·exact⟨(q.z.took.took.const).mono R3 (NO _) (NO _),q.g.took.took.constant⟩
 exact q.mono R3 (NO _) R3
theorem FZ{s:List Int}{p:List Int}{k:Nat}{x:List InD × MS}(h:nth p k=b):ed s p k x=(x.1++[⟨b,nth (rowS s b x.2).1 (aR s (rowS s b x.2).2.at_ (rowS s b x.2).1.length).toNat⟩],(rowS s b x.2).2.took):=by unfold ed;rw[h];rfl
theorem kV {s:List Int} {n a p i:Nat} {pl:List Int} {x:List InD × MS} (q:P3 n a p i x.2) : ∀k,P3 n (a+6*k) p (i+k) (up (ed s pl) k x).2/\(up (ed s pl) k x).1.length=x.1.length+k
 | 0=>⟨q,rfl⟩
 | k+1=>by
  obtain⟨h1,h2⟩:=kV (pl:=pl) q k;have h3:=EK (s:=s) (b:=(nth pl k).toNat) h1;refine⟨?_,?_⟩
  ·have e:(up (ed s pl) (k+1) x).2=(rowS s (nth pl k).toNat (up (ed s pl) k x).2).2.took:=rfl;rw[e];exact⟨(h3.z.took).mono R3 (NO _) R3,h3.g.took⟩
  have e:(up (ed s pl) (k+1) x).1=(up (ed s pl) k x).1++[⟨nth pl k,nth (rowS s (nth pl k).toNat (up (ed s pl) k x).2).1 (aR s (rowS s (nth pl k).toNat (up (ed s pl) k x).2).2.at_ (rowS s (nth pl k).toNat (up (ed s pl) k x).2).1.length).toNat⟩]:=rfl;rw[e,N1,h2,OC];omega
variable{pl:List Int}
theorem JZ{s:List Int}{a p i j:Nat}{m:MS}(q:P3 n a p i m)(hp:pl.length<=9):P3 n (a+54) p (i+9) (phi3 s b pl j m):=by obtain⟨h1,h2⟩:=kV (s:=s) (pl:=pl) (x:=([],m)) q pl.length;exact⟨(h1.z.tF).mono R3 (NO _) R3,h1.g.tF (by rw[h2];show 0+_<=_;omega)⟩
theorem pG {s:List Int} {n a p i b:Nat} {pl:List Int} {m:MS} (q:P3 n a p i m) (hp:pl.length<=9) : ∀k,P3 n (a+54*k) p (i+9*k) (up (phi3 s b pl) k m)
 | 0=>q
 | k+1=>(JZ (pG q hp k) hp).mono R3 (NO _) R3
theorem K8{H:View}{a b:Int}(ha:I64 a)(hb:I64 b):Rd H (.agg #[RG RH a,RG RH b]) (InD.mk a b):=⟨_,rfl,[RG RH a],[RG RH b],rfl,⟨rfl,ha⟩,rfl,hb⟩
section
variable {s:List Int} {M:Nat} {vs:Value} {W0:View} {h:Heap} {o0:Own} {m:MS}
theorem Nx.I3(x:Nx s M vs W0 h o0 m){h':Heap}{k:Key}{u:Value}{l:List Int}(h3:3<=k.1)(hk:o0 k=RK)(hle:(vw h).le (vw h'))(hb : ∀b,u.ownBlock=RJ b->h.size<=b)(ho:OwnT nothing h' T.int u l):Nx s M vs W0 h' (o0.upd k (it T.int u l)) m:=by
 obtain⟨W,o,g,w,f⟩:=x;have w2:=w.own.add (k:=k) ((f k h3).trans hk) (Cy (W':=W) ho) hle hb;obtain⟨vb,vl,lb,bb⟩:=w.box;refine⟨W,_,g,⟨w2,w.src,vb,vl,lb,bb.frame λq hq=>Own.aB (by rintro rfl;omega)⟩,λq hq=>?_⟩;unfold Own.upd;split
 ·rfl
 exact f q hq
theorem Nx.freeze {α:Type} [r:Rep α] {k:Key} {e:TypeId} {v:Value} {l:List α} (x:Nx s M vs W0 h (o0.upd k (it e v l)) m) (h3:3<=k.1) (hk:o0 k=RK) : ∃W',W0.le W'/\Nx s M vs W' h o0 m/\SlRd W' v l:=by
 obtain⟨W,o,g,w,f⟩:=x;have hk2:=(f k h3).trans Own.aj;obtain⟨w2,sl⟩:=w.own.freeze hk2;have hWp:=jJ (h:=h) (w.own.av _ _ hk2);obtain⟨vb,vl,lb,bb⟩:=w.box;refine⟨_,RE g hWp,⟨_,_,View.le_refl _,⟨w2,w.src.mono hWp,vb,vl,lb,bb.frame λq hq=>Own.aB (by rintro rfl;omega)⟩,λq hq=>?_⟩,sl⟩;by_cases e2:q=k
 ·rw[e2,Own.aj,hk]
 rw[Own.aB e2,f q hq,Own.aB e2]
theorem Nx.jl {po po2:OP} {α:Type} [r:Rep α] {k:Key} {e t ty ty2:TypeId} {bytes:Nat} {z:Value} {v:Value} {l:List α} (x:Nx s M vs W0 h o0 m) (h3:3<=k.1) (hk:o0 k=it e v l) {a y y2:Operand} {us:List (Nat × Value)} {us2:Value->List (Nat × Value)} {u:Value} {d:α} {K:Value->Value->Heap->Prop} (hT:fm RP t e (Rep.n α) bytes z) (hx:asg us a=u) (hr : ∀W,Rd W u d)
  (hb:(l.length+1)*bytes<=140737488355328) (hb2:l.length+1<=140737488355328) (hy : ∀u,asg (us2 u) y=v) (hy2 : ∀u,asg (us2 u) y2=u)
  (hK : ∀u v' h',Nx s M vs W0 h' (o0.upd k (it e v' (l++[d]))) m->K u v' h') :
  @Lft.step po RP (.buildSlice t 1 #[(0,a)]) ty us h λu h2=>@Lft.step po2 RP (.call ⟨.builtin .append,#[y,y2],#[t,t]⟩) ty2 (us2 u) h2 λv' h3=>K u v' h3:=by
 obtain⟨W,o,g,w,f⟩:=x;refine w.own.jl (k:=k) (d:=d) ((f k h3).trans hk) hT hx (hr W) hb hb2 hy hy2 λu v' h' w2 _=>hK u v' h' ?_;obtain⟨vb,vl,lb,bb⟩:=w.box;refine⟨W,_,g,⟨w2,w.src,vb,vl,lb,bb.frame λq hq=>Own.aB (by rintro rfl;omega)⟩,λq hq=>?_⟩;unfold Own.upd;split
 ·rfl
 exact f q hq
variable{vd:Value}
theorem GV{a p i j:Nat}{vq vi:Value}(x:Nx s M vs W0 h (o0.upd (7,2) (it T.uH vi ([]:List InD))) m)(f71:o0 (7,1)=RK)(q:P3 n a p i m)(hn:n<=10)(ha:a<=500000)(hia:i<=a)(hp:p<=100)(hi:i<=2000)(hq:SlRd W0 vq pl)(hpl:pl.length<=9)(hpr : ∀k,k<pl.length->∃c:Nat,nth pl k=c/\c<n)(h0:bF [2,3,4,5,7,11,25,26,27,28,29] ρ=[(2,vr),(3,RM (RJ ⟨M,0,RK⟩)),(4,RG RH n),(5,vt),(7,vp),(11,vd),(25,RG RH b),(26,vq),(27,RG RH j),(28,vi),(29,RG RH 0)])(hQ : ∀(h':Heap) vi,Nx s M vs W0 h' (o0.upd (7,2) (it T.uH vi (up (ed s pl) pl.length ([],m)).1)) (up (ed s pl) pl.length ([],m)).2->Q .normal [(2,vr),(3,RM (RJ ⟨M,0,RK⟩)),(4,RG RH n),(5,vt),(7,vp),(11,vd),(25,RG RH b),(26,vq),(27,RG RH j),(28,vi),(29,RG RH pl.length)] h'):
  LC.wp RP (.block 28 (.loop L.au.l15)) Q ρ h:=by
 simp only[aU];refine bX [2,3,4,5,7,11,25,26,27,28,29] (fun(vi:Value) k=>[vr,RM (RJ ⟨M,0,RK⟩),RG RH n,vt,vp,vd,RG RH b,vq,RG RH j,vi,RG RH k]) (λvi k h2=>Nx s M vs W0 h2 (o0.upd (7,2) (it T.uH vi (up (ed s pl) k ([],m)).1)) (up (ed s pl) k ([],m)).2) pl.length vi
  rfl R3 h0 x (λ_ _=>rfl) (λv k h2 hk2 x2=>by simp[hq.len]) ?_ ?_
 ·rintro vi k h2 hlt x2 K2 hK2;obtain⟨q2,hl2⟩:=kV (s:=s) (pl:=pl) (x:=([],m)) q k;obtain⟨c,hc,hcn⟩:=hpr k hlt;have e2:up (ed s pl) (k+1) ([],m)=ed s pl k (up (ed s pl) k ([],m)):=rfl;rw[e2,FZ hc]at hK2;have hl2:(up (ed s pl) k ([],m)).1.length<=9:=by rw[hl2];simp;omega
  generalize up (ed s pl) k ([],m)=y at x2 hK2 q2 hl2;obtain⟨il,m2⟩:=y;have q2:P3 n (a+54) p (i+9) m2:=P3.mono q2 R3 (NO _) R3;have hl2:il.length<=9:=hl2;have x2:Nx s M vs W0 h2 (o0.upd (7,2) (it T.uH vi il)) m2:=x2;simp only at hK2;have hcell : ∀{h':Heap},W0.le (vw h')->an (vw h') ((slA vq).add k)=RJ (RG RH c):=λg=>by rw[hq.int g hlt,hc]
  have hcell0:an W0 ((slA vq).add k)=RJ (RG RH c):=by rw[hq.int RD hlt,hc]
  have hrow:rowS s c m2=_:=rowS.eq_1 s c m2;have hq3:=EK (s:=s) (b:=c) q2;have hpos:=Hz (s:=s) (b:=c) (m:=m2);have hrl0:=HX (s:=s) (b:=c) q2.z hn R3 R3;simp only[aU];refine aa λy hy=>?_;obtain⟨vb,vl,rd⟩:=x2.z.reads;refine aH (vw h2) RD ?_;simp(disch:=omega)[rd.f,(hq.mono x2.z.le).idx1 rfl,hcell x2.z.le];have hth:(aC m2.f).length<=60000:=sZ q2.z hn R3 R3;refine ah R1 (CE (b:=c) (rd.rd (Gk q2.z)) (q2.g.smF q2.z R3 R3 R3) ⟨q2.z.ps0,by have:=q2.z.ps1;show m2.ps<=_;omega⟩ (by show c<m2.blocks.length;rw[q2.z.len];exact hcn) (xv _) R3) ?_;rintro u3 h3 ⟨hle3,hb3,ho3⟩;have x3:=x2.I3 (k:=(7,1)) R4 ((Own.aB Sa).trans f71) hle3 hb3 ho3;clear rd x2 ho3 hb3;generalize jd m2.f c=sl at x3 hrow;subst hy;refine aa λy hy=>?_;have fin : ∀(v30:Value) (h':Heap) (ρ:Env),Nx s M vs W0 h' ((o0.upd (7,2) (it T.uH vi il)).upd (7,1) (it T.int v30 (rowS s c m2).1)) (rowS s c m2).2->Lft.look ρ 2=RJ vr->Lft.look ρ 3=RJ (RM (RJ ⟨M,0,RK⟩))->Lft.look ρ 4=RJ (RG RH n)->Lft.look ρ 5=RJ vt->Lft.look ρ 7=RJ vp->Lft.look ρ 11=RJ vd->Lft.look ρ 25=RJ (RG RH b)->Lft.look ρ 26=RJ vq->Lft.look ρ 27=RJ (RG RH j)->Lft.look ρ 28=RJ vi->Lft.look ρ 29=RJ (RG RH k)->Lft.look ρ 30=RJ v30->
    LC.wp RP y (fe 29 (eU K2 (fe 28 Q))) ρ h':=by
   intro v30 h' ρ x4 r2 r3 r4 r5 r7 r11 r25 r26 r27 r28 r29 r30;subst hy;generalize rowS s c m2=r at x4 hK2 hq3 hpos hrl0;obtain⟨W4,hW4,x4,s4⟩:=x4.freeze R4 ((Own.aB Sa).trans f71);have hrl:=s4.bound;refine aH W4 x4.z.le ?_;simp(disch:=omega)[af,ag,r2,r3,r4,r5,r7,r11,r25,r26,r27,r28,r29,r30,(hq.mono hW4).idx1 rfl,ae hW4 hcell0,s4.len];refine ah R1 (fq x4.z (hq3.z.ok R3) R3 (k:=(r.1.length:Int)) R3 R3) ?_;rintro _ h5 ⟨rfl,n5⟩;refine⟨n5.le,?_⟩;obtain⟨t0,t1⟩:=di (s:=s) (at_:=r.2.at_) (n:=(r.1.length:Int)) R3;generalize aR s r.2.at_ (r.1.length:Int)=tv at t0 t1 hK2;have hrng:=s4.range (i:=tv.toNat) R3;simp(disch:=omega)[af,ag,r2,r3,r4,r5,r7,r11,r25,r26,r27,r28,r29,r30,s4.idx1 rfl,s4.int RD];refine ak (z:=.agg #[RG RH 0,RG RH 0]) (places:=[(0,1),(1,1)]) (vs:=[(0,RG RH c),(1,RG RH (nth r.1 tv.toNat))]) (cs:=#[RG RH c,RG RH (nth r.1 tv.toNat)]) R1 R1 Sa R1 ?_;refine n5.x.jl (k:=(7,2)) (α:=InD) (d:=⟨c,nth r.1 tv.toNat⟩) R4 Own.aj El.tK rfl (λW=>K8 R6 hrng) R3 R3 (λ_=>rfl) (λ_=>rfl) λu v' h6 x6=>?_;refine hK2 v' _ _ ?_ ?_ ((x6.re λq=>by rw[eC]).up hW4)
   ·simp[af,ag,r29]
   simp[bF,af,ag,r2,r3,r4,r5,r7,r11,r25,r26,r27,r28,r29]
  have hsl:=(x3.z.at (k:=(7,1)) R4 Own.aj).len (K:=vw h3);have hlen3 : ∀{Q:View},Un.ev Q .len u3=RJ (RG RH sl.length):=fun{Q}=>(x3.z.at (k:=(7,1)) R4 Own.aj).len;refine aa λw hw=>?_;simp[hlen3];subst hw;by_cases c0:sl.length=0
  ·have c0':sl=[]:=N3 c0;rw[if_pos c0]at hrow;refine aN (by simp[c0,c0']) ?_;refine aH W0 x3.z.le ?_;simp(disch:=omega)[hq.idx1 rfl,hcell0];refine ah R1 (Af x3.z (q2.z.ok R3) R3) ?_;rintro _ h4 ⟨rfl,n4⟩;refine⟨n4.le,?_⟩;refine ah R1 (gM n4 (b:=c) (by show c<m2.blocks.length;rw[q2.z.len];exact hcn) (q2.z.took.took.ok R3) R3 rC) ?_;rintro _ h5 ⟨rfl,n5⟩;have i64:I64 m2.next:=by have:=q2.z.n0;have:=q2.z.next;constructor<;>omega
   subst c0';refine n5.x.jl (k:=(7,1)) (α:=Int) (d:=m2.next) R4 Own.aj El.aQ rfl (λW=>bg.2 ⟨rfl,i64⟩) Sa Sa (λ_=>rfl) (λ_=>rfl) λu v' h6 x6=>?_;refine fin v' h6 _ ?_ ?_ ?_ ?_ ?_ ?_ ?_ ?_ ?_ ?_ ?_ ?_ ?_
   ·rw[hrow];exact x6.re λq=>by rw[eC];rfl
   all_goals simp
  rw[if_neg c0]at hrow;have c0':¬sl=[]:=λe=>c0 (by rw[e];rfl);refine aP (by simp[c0']) ?_;simp;refine fin u3 h3 _ ?_ ?_ ?_ ?_ ?_ ?_ ?_ ?_ ?_ ?_ ?_ ?_ ?_
  ·rw[hrow];exact x3
  all_goals simp
 rintro vi h2 x2;exact hQ h2 vi x2
end
def Pc (lp:List Int) (m:MS):Prop:=∀j,((nth m.blocks j).phis.length:Int)=nth lp j
variable{lp:List Int}
theorem Pc.grw{m m':MS}{k:Nat}(p:Pc lp m)(g:Grw b k m m'):Pc lp m':=λj=>by
 by_cases e:j=b
 ·subst e;rw[g.phis];exact p j
 rw[g.els j e];exact p j
theorem Pc.gQ{m:MS}{x:BlkD}(p:Pc lp m)(hx:x.phis.length=(nth m.blocks b).phis.length):Pc lp { m with blocks:=m.blocks.set b x }:=λj=>by
 show((nth (m.blocks.set b x) j).phis.length:Int)=_;rcases NQ j m.blocks.length with hl | hl
 ·rw[bN hl];split
  ·rename_i e;subst e;rw[hx];exact p b
  exact p j
 rw[dp (by simpa using hl)];have:=p j;rwa [dp hl]at this
theorem Pc.jF {s:List Int} {to:List (List Int)} {n b:Nat} {dn:BL} {away:List BL} {lp:List Int} {m:MS} (p:Pc lp m) (hb:b<m.blocks.length):Pc lp (jF s to n dn away b m):=by have p1:Pc lp (MS.took { m with live:=nK m dn away b n }):=p;have hb1:b<(MS.took { m with live:=nK m dn away b n }).blocks.length:=hb;have g:=((Grw.refl (b:=b) (m:=MS.took { m with live:=nK m dn away b n })).jg (s:=s) hb1 (aR s m.at_ 7).toNat).J2 (s:=s) (to:=nth to b) hb1;exact(p1.grw g).gQ rfl
theorem Pc.cR {s:List Int} {to:List (List Int)} {n b:Nat} {lp:List Int} {x:BL × MS} (p:Pc lp x.2) (hb:b<x.2.blocks.length):Pc lp (cR s to n b x).2:=by
 unfold Go.Proofs.YtnfiilgdjpdlkaaGreatDoor.cR;split
 ·exact p.jF hb
 exact p
theorem Pc.rowS {s:List Int} {b:Nat} {lp:List Int} {m:MS} (p:Pc lp m) (hb:b<m.blocks.length):Pc lp (rowS s b m).2:=by
 unfold Go.Proofs.YtnfiilgdjpdlkaaGreatDoor.rowS;split
 ·have p1:Pc lp m.took.took:=p;exact p1.grw ((Grw.refl (b:=b) (m:=m.took.took)).constant hb)
 exact p
theorem Fq{s:List Int}{m:MS}:(rowS s b m).2.blocks.length=m.blocks.length:=by
 unfold rowS;split
 ·exact dY
 rfl
theorem Pc.kV {s:List Int} {pl:List Int} {lp:List Int} {x:List InD × MS} (p:Pc lp x.2) (hb : ∀k,k<pl.length->(nth pl k).toNat<x.2.blocks.length) : ∀k,k<=pl.length->Pc lp (up (ed s pl) k x).2/\(up (ed s pl) k x).2.blocks.length=x.2.blocks.length
 | 0,_=>⟨p,rfl⟩
 | k+1,h=>by obtain⟨h1,h2⟩:=Pc.kV (s:=s) p hb k R3;have e:(up (ed s pl) (k+1) x).2=(Go.Proofs.YtnfiilgdjpdlkaaGreatDoor.rowS s (nth pl k).toNat (up (ed s pl) k x).2).2.took:=rfl;rw[e];exact⟨h1.rowS (by rw[h2];exact hb k R3),(oP).trans (Fq.trans h2)⟩
theorem Pc.phi3 {s:List Int} {b j:Nat} {pl:List Int} {lp:List Int} {m:MS} (p:Pc lp m) (hb : ∀k,k<pl.length->(nth pl k).toNat<m.blocks.length):Pc lp (phi3 s b pl j m)/\(phi3 s b pl j m).blocks.length=m.blocks.length:=by obtain⟨h1,h2⟩:=Pc.kV (s:=s) (pl:=pl) (x:=([],m)) p hb pl.length (NO _);exact⟨h1.gQ Sa,by show(List.set _ _ _).length=_;rw[OH];exact h2⟩
theorem Pc.pG {s:List Int} {b:Nat} {pl:List Int} {lp:List Int} {m:MS} (p:Pc lp m) (hb : ∀k,k<pl.length->(nth pl k).toNat<m.blocks.length) : ∀k,Pc lp (up (Go.Proofs.YtnfiilgdjpdlkaaGreatDoor.phi3 s b pl) k m)/\(up (Go.Proofs.YtnfiilgdjpdlkaaGreatDoor.phi3 s b pl) k m).blocks.length=m.blocks.length
 | 0=>⟨p,rfl⟩
 | k+1=>by obtain⟨h1,h2⟩:=Pc.pG (s:=s) (b:=b) p hb k;obtain⟨h3,h4⟩:=Pc.phi3 (s:=s) (b:=b) (j:=k) h1 (λk hk=>by rw[h2];exact hb k hk);exact⟨h3,h4.trans h2⟩
theorem yg {p:Nat->Bool} : ∀(n:Nat) (v:Int),v∈sift p (λa=>(a:Int)) n->∃c:Nat,v=c/\c<n
 | 0,v,h=>by cases h
 | n+1,v,h=>by
  cases hp:p n with
  | true=>
   rw[oI hp]at h;rcases NU.1 h with h | h
   ·obtain⟨c,h1,h2⟩:=yg n v h;exact⟨c,h1,by omega⟩
   rw[NW]at h;exact⟨n,h,by omega⟩
  | false=>rw[nb hp]at h;obtain⟨c,h1,h2⟩:=yg n v h;exact⟨c,h1,by omega⟩
theorem BJ{p:Nat->Bool}(n k:Nat)(hk:k<(sift p (λa=>(a:Int)) n).length): ∃c:Nat,nth (sift p (λa=>(a:Int)) n) k=c/\c<n:=yg n _ (bz hk)
section
variable {s:List Int} {M:Nat} {vs:Value} {W0:View} {h:Heap} {o0:Own} {m:MS}
theorem Nx.My[r:Rep α](x:Nx s M vs W0 h o0 m){h':Heap}{u:Value}{l:List α}(hle:(vw h).le (vw h'))(hs:SlRd (fresh h h') u l): ∃W',W0.le W'/\Nx s M vs W' h' o0 m/\SlRd W' u l:=by obtain⟨W,o,g,w,f⟩:=x;have hW:=aW (h':=h') w.own.wle;exact⟨_,RE g hW,⟨_,o,View.le_refl _,⟨w.own.ext hle,w.src.mono hW,w.box⟩,f⟩,hs.mono (gu W h h')⟩
variable{vb vl:Value}
theorem Mk.Mo{o:Own}(w:Mk s M vs W h o m){lb:List BlkM}(bb:MkB M vs m o vb vl lb){i:Nat}{l:List InD}{v:Value}{x y:Operand}{K:Value->Heap->Prop}(hb:b<m.blocks.length)(hi:i<(nth m.blocks b).phis.length)(hsz:df RP ty2=RJ 1)(hx:asg us x = RM (RJ (((slA (nth lb b).phis.v).add (i*2)).add 1)))(hy:asg us y=v)(hr:SlRd W v l)(hK : ∀h' o',Mk s M vs W h' o' (m.tF b i l)->(∀k:Key,3<=k.1->o' k=o k)->K undef h'):@Lft.step po RP (.store ty2 x y) ty us h K:=by
 have hbl:b<lb.length:=by rw[bb.len];exact hb
 refine w.own.qW (k:=(1,b)) (α:=PhiD) PhiD.jY (v:=(nth lb b).phis.v) (l:=(nth m.blocks b).phis) (i:=i) (d:=l) (bb.phis b hb) hsz hx hy hi (eG.2 hr) λh7 w7 _=>?_;have hs:lb.set b (nth lb b)=lb:=by rw[aA hbl];exact List.set_getElem_self hbl
 have b7:=bb.gQ hb (x':={ nth m.blocks b with phis:=(nth m.blocks b).phis.set i { nth (nth m.blocks b).phis i with ins:=l } }) (y':=nth lb b) (o':=o.upd (1,b) (it T.pC (nth lb b).phis.v ((nth m.blocks b).phis.set i { (nth m.blocks b).phis[i]with ins:=l }))) (bb.term b hb) (by rw[hs,Own.aB Sa];exact bb.blk) (by rw[Own.aj,aA hi]) (by rw[Own.aB Sa];exact bb.ins b hb) (λq h1 h2 h3=>Own.aB h2);rw[hs]at b7;exact hK h7 _ ⟨w7,w.src,vb,vl,lb,b7⟩ λk hk=>Own.aB (by rintro rfl;simp at hk)
end
end Go.Proofs.YtnfiilgdjpdlkaaGreatDoor
