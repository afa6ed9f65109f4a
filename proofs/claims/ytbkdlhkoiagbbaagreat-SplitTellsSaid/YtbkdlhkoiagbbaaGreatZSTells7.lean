/- For every input SplitTells returns true: functions are split, or not, as the document says. No condition. -/
import Derived.Test.YtbkdlhkoiagbbaaGreatZSTells6
import Derived.Laws.BytesArg
import Derived.Test.YtbkdlhkoiagbbaaGreatRows
set_option linter.unusedSimpArgs false
set_option linter.unusedVariables false
namespace Go.Proofs.YtbkdlhkoiagbbaaGreat
open Go Go.Lft
set_option maxHeartbeats 4000000 in
theorem xB{f:an}{c:Nat}{v:Value}{q0 q1 q2:Int}{h:Heap}{W:View}{o0:Own}(w0:Owns W h o0)(ho0 : ∀k:Key,k.1<10->o0 k=none)(hv:Rd W v f)(hf:TF c f)(hc:c<=5000)(i0:I64 q0)(i1:I64 q1)(i2:I64 q2):
  az Tryz.prog N.fA #[v,.agg #[.int .i64 q0,.int .i64 q1,.int .i64 q2]] h (fun u h'=>∃W' f',W.le W'/\Owns W' h' o0/\TF (c+1) f'/\Rd W' u f'):=by
 refine aq (args:=[v,.agg #[.int .i64 q0,.int .i64 q1,.int .i64 q2]]) follows F.fA E.fA (LD (by kernel_rfl)) fun K hK=>?_;dsimp only[L.fA];obtain⟨vbs,rfl,ips,sbl⟩ : ∃vbs,v = .agg #[.int .i64 f.params,vbs]/\I64 f.params/\SlRd W vbs f.blocks:=by obtain⟨cs,rfl,c1,r1,e1,⟨rfl,h1⟩,vb,h2,h3⟩:=hv;exact⟨vb,by rw[<-Array.toList_inj.1 ((by rw[e1,h2];rfl):cs.toList = #[Value.int .i64 f.params,vb].toList)],h1,h3⟩
 refine aa fun z hz=>?_;simp;refine j6 (v:=.agg #[.int .i64 f.params,vbs]) rfl ?_;have hb1:(h.push (.cells (Value.agg #[.int .i64 f.params,vbs]).cells T.ar))[h.size]? = some (.cells (Value.agg #[.int .i64 f.params,vbs]).cells T.ar (0,0)):=by simp
 have hle1:=bm h (.cells (Value.agg #[.int .i64 f.params,vbs]).cells T.ar);generalize h.push (.cells (Value.agg #[.int .i64 f.params,vbs]).cells T.ar)=h1 at hb1 hle1;have hvbs:=sbl.cells.2;have w1:=w0.add (k:=(8,1)) (ho0 _ (by decide)) (iq (W:=W) (d:=RawN.mk (n:=1) [.int .i64 f.params,vbs]) hb1 (eP rfl (by intro c hc;simp only[L4,MF,or_false]at hc;rcases hc with rfl | rfl<;>first | rfl | exact hvbs)) (by decide)) hle1 (fun b hb=>by simp only[Value.ownBlock,LF]at hb;omega);generalize h.size=F at w1;refine j6 (v:=.agg #[.int .i64 q0,.int .i64 q1,.int .i64 q2]) rfl ?_;have hb2:(h1.push (.cells (Value.agg #[.int .i64 q0,.int .i64 q1,.int .i64 q2]).cells T.mH))[h1.size]? = some (.cells (Value.agg #[.int .i64 q0,.int .i64 q1,.int .i64 q2]).cells T.mH (0,0)):=by simp
 have hle2:=bm h1 (.cells (Value.agg #[.int .i64 q0,.int .i64 q1,.int .i64 q2]).cells T.mH);generalize h1.push (.cells (Value.agg #[.int .i64 q0,.int .i64 q1,.int .i64 q2]).cells T.mH)=h2 at hb2 hle2;have w2:=w1.ext hle2;have hg2:grow W h1 h2 h1.size=some (.cells (([q0,q1,q2]:List Int).map fun x=>Value.int .i64 x).toArray T.mH (0,0)):=by rw[cM (LG _),hb2];rfl
 have sq:SlRd (grow W h1 h2) (.slice (some ⟨h1.size,0,none⟩) 3 3) [q0,q1,q2]:=BD hg2 rfl (by decide) (by intro x hx;simp only[L4,MF,or_false]at hx;rcases hx with rfl | rfl | rfl<;>assumption);have hW2:=aH (h':=h2) w1.wle;generalize grow W h1 h2=W2 at w2 sq hW2;generalize h1.size=Q at sq;refine w2.kF (k:=(8,0)) (n:=1) (z:=.agg #[.int .i64 0,.slice none 0 0]) (by rw[Own.ab (by simp)];exact ho0 _ (by decide)) (by kernel_rfl) rfl (by decide) (by simp[Value.cells,Value.oneCell']) fun h3 q3 w3=>?_;generalize h2.size=R at w3;have hsb2:=sbl.mono hW2
 clear hb1 hle1 hb2 hle2 hg2 w1 w2 q3;subst hz;refine aa fun z hz=>?_;simp;refine w3.dy (k:=(3,0)) (α:=BlkD) (by rw[Own.ab (by simp),Own.ab (by simp)];exact ho0 _ (by decide)) El.fH fun v4 h4 hle4 hv4 w4 _=>?_;have c4:ao (vw h4) ⟨F,1,none⟩=some vbs:=w4.raw (k:=(8,1)) (e:=T.ar) (n:=1) (l:=[.int .i64 f.params,vbs]) (by rw[Own.ab (by simp),Own.ab (by simp),Own.af];rfl) (i:=1) (by decide);simp[c4];have hbl:=hf.len;refine w4.bw (k:=(3,0)) (α:=BlkD) (l:=([]:List BlkD)) (l2:=f.blocks) Own.af El.fH rfl rfl (hsb2.src w4.wle) (by simp;omega) (by simp;omega) fun vbk h5 w5 _=>?_;rw[MB]at w5;have hvk:=(w5.cells (k:=(3,0)) Own.af).2
 subst hz;refine aa fun z hz=>?_;simp;refine w5.bu (k:=(8,1)) (n:=1) (i:=1) (e:=T.ar) (B:=F) (l:=[.int .i64 f.params,vbs]) (by rw[Own.ab (by simp),Own.ab (by simp),Own.ab (by simp),Own.af];rfl) (by decide) (by kernel_rfl) rfl rfl hvk fun h6 w6 _=>?_;obtain⟨o6,ho6⟩ : ∃o6:Own,o6=fun k=>if k=(8,0) then bx T.ar R (RawN.mk (n:=1) [.int .i64 0,.slice none 0 0]) else if k=(8,1) then bx T.ar F (RawN.mk (n:=1) [.int .i64 f.params,vbk]) else if k=(3,0) then it T.ay vbk f.blocks else o0 k:=⟨_,rfl⟩;have w6:Owns W2 h6 o6:=w6.congr fun k=>by
  rw[ho6];unfold Own.upd;repeat' split
  all_goals first | rfl | simp_all
 clear w5 w4 w3 c4;have hlen : ∀{Q:View},Un.ev Q .len vbk=some (.int .i64 f.blocks.length):=fun{Q}=>(w6.now (k:=(3,0)) (v:=vbk) (l:=f.blocks) (by rw[ho6];rfl)).len;subst hz;refine aa fun z hz=>?_;refine aa fun y hy=>?_;simp[hlen];subst hy;by_cases c0:f.blocks.length=0
 ·have c0':f.blocks=[]:=LO c0;refine aw (by simp[c0,c0']) ?_;refine aa fun y hy=>?_;have ca:=w6.dI (k:=(8,1)) (n:=1) (l:=[.int .i64 f.params,vbk]) (e:=T.ar) (B:=F) (by rw[ho6];rfl)
  have ca:Un.ev (vw h6) (.al 2) (.pointer (some ⟨F,0,none⟩))=some (.agg #[.int .i64 f.params,vbk]):=ca;simp[ca];refine w6.ez (k:=(8,0)) (α:=RawN 1) (β:=RawN 1) Part.all (B:=R) (D:=RawN.mk (n:=1) [.int .i64 0,.slice none 0 0]) (d:=RawN.mk (n:=1) [.int .i64 f.params,vbk]) (by rw[ho6];rfl) (by kernel_rfl) rfl rfl (eP rfl (by intro c hc;simp only[L4,MF,or_false]at hc;rcases hc with rfl | rfl<;>first | rfl | exact hvk)) fun h7 w7 _=>?_;have cb:=w7.dI (k:=(8,0)) (n:=1) (l:=[.int .i64 f.params,vbk]) Own.af
  have cb:Un.ev (vw h7) (.al 2) (.pointer (some ⟨R,0,none⟩))=some (.agg #[.int .i64 f.params,vbk]):=cb;have sb7:=w7.now (k:=(3,0)) (v:=vbk) (l:=f.blocks) (by rw[Own.ab (by simp),ho6];rfl);subst hy;simp[cb];obtain⟨w8,s8⟩:=w7.freeze (k:=(3,0)) (v:=vbk) (l:=f.blocks) (by rw[Own.ab (by simp),ho6];rfl);have hW8:=eD (h:=h7) (w7.av (3,0) ⟨_,_,T.ay,vbk,f.blocks⟩ (by rw[Own.ab (by simp),ho6];rfl));have w9:=w8.sub (o':=o0) fun k i hk=>by
   rcases LI k.1 10 with e | e
   ·rw[ho0 k e]at hk;cases hk
   rw[Own.ab (by rintro rfl;simp at e),Own.ab (by rintro rfl;simp at e),ho6];dsimp only;rw[if_neg (by rintro rfl;simp at e),if_neg (by rintro rfl;simp at e),if_neg (by rintro rfl;simp at e)];exact hk
  exact hK _ _ ⟨_,f,View.le_trans hW2 hW8,w9,hf.mono (by omega),⟨_,rfl,[.int .i64 f.params],[vbk],rfl,⟨rfl,ips⟩,vbk,rfl,s8⟩⟩
 have c0':¬f.blocks=[]:=fun e=>c0 (by rw[e];rfl);refine au (by simp[c0']) ?_;simp;subst hz;refine aa fun z hz=>?_;simp;refine Dr (n:=3) (e:=T.int) (sz:=1) U.mH (by kernel_rfl) rfl ?_;refine aE (z:=.agg #[.slice none 0 0,.int .i64 0,.int .i64 0,.slice none 0 0,.int .i64 0,.slice none 0 0]) (places:=[(0,1),(1,1),(2,2),(4,1),(5,1)]) (vs:=[(0,.slice (some ⟨Q,0,none⟩) 3 3)]) (cs:=#[.slice (some ⟨Q,0,none⟩) 3 3,.int .i64 0,.int .i64 0,.slice none 0 0,.int .i64 0,.slice none 0 0]) (by kernel_rfl) (by kernel_rfl) (by simp) (by rfl) ?_;refine j6 (v:=.agg #[.slice (some ⟨Q,0,none⟩) 3 3,.int .i64 0,.int .i64 0,.slice none 0 0,.int .i64 0,.slice none 0 0]) rfl ?_;have hbx:(h6.push (.cells (Value.agg #[.slice (some ⟨Q,0,none⟩) 3 3,.int .i64 0,.int .i64 0,.slice none 0 0,.int .i64 0,.slice none 0 0]).cells T.aN))[h6.size]? = some (.cells (Value.agg #[.slice (some ⟨Q,0,none⟩) 3 3,.int .i64 0,.int .i64 0,.slice none 0 0,.int .i64 0,.slice none 0 0]).cells T.aN (0,0)):=by simp
 have hle7:=bm h6 (.cells (Value.agg #[.slice (some ⟨Q,0,none⟩) 3 3,.int .i64 0,.int .i64 0,.slice none 0 0,.int .i64 0,.slice none 0 0]).cells T.aN);generalize h6.push (.cells (Value.agg #[.slice (some ⟨Q,0,none⟩) 3 3,.int .i64 0,.int .i64 0,.slice none 0 0,.int .i64 0,.slice none 0 0]).cells T.aN)=h7 at hbx hle7;have w7:=w6.add (k:=(0,0)) (by rw[ho6];exact ho0 _ (by decide)) (iq (W:=W2) (d:=RawN.mk (n:=5) [.slice (some ⟨Q,0,none⟩) 3 3,.int .i64 0,.int .i64 0,.slice none 0 0,.int .i64 0,.slice none 0 0]) hbx (eP rfl (by simp[Value.oneCell'])) (by decide)) hle7 (fun b hb=>by simp only[Value.ownBlock,LF]at hb;omega);generalize h6.size=M at w7;generalize Value.slice (some ⟨Q,0,none⟩) 3 3=vs at sq w7;obtain⟨o7,ho7⟩ : ∃o7:Own,o7=fun k=>if k=(0,0) then bx T.aN M (RawN.mk (n:=5) (mkL vs 0 0 (.slice none 0 0) 0 (.slice none 0 0))) else if k=(0,1) then it T.int (.slice none 0 0) ([]:List Int) else if k=(0,2) then it T.ay (.slice none 0 0) ([]:List BlkM) else o6 k:=⟨_,rfl⟩;have w7:Owns W2 h7 o7:=w7.nils fun k i hk=>by
  rw[ho7]at hk;dsimp only at hk;split at hk
  ·rename_i e;rw[e];exact .inl hk
  rename_i e0;split at hk
  ·cases hk;exact .inr ⟨rfl,OwnT.nil (α:=Int) _ _ _⟩
  split at hk
  ·cases hk;exact .inr ⟨rfl,OwnT.nil (α:=BlkM) _ _ _⟩
  refine .inl ?_;rw[Own.ab e0];exact hk
 have w7:Mk [q0,q1,q2] M vs W2 h7 o7 ⟨0,0,[],0,[]⟩:=⟨w7,sq,.slice none 0 0,.slice none 0 0,[],by rw[ho7];rfl,by rw[ho7];rfl,by rw[ho7];rfl,rfl,fun i hi=>by simp at hi,fun i hi=>by simp at hi,fun i hi=>by simp at hi⟩;have f7 : ∀k:Key,3<=k.1->o7 k=o6 k:=fun k hk=>by rw[ho7];dsimp only;rw[if_neg (by rintro rfl;simp at hk),if_neg (by rintro rfl;simp at hk),if_neg (by rintro rfl;simp at hk)]
 clear hbx hle7 w6 ho7;subst hz;refine aa fun z hz=>?_;simp;refine aj (by kernel_rfl) (w7.take (by decide) (n:=12) (by decide) (by decide)) ?_;rintro _ h8 ⟨rfl,o8,w8,f8⟩;obtain⟨t0,t1⟩:=cc (s:=[q0,q1,q2]) (at_:=0) (n:=12) (by decide);simp;subst hz;refine aa fun z hz=>?_;simp[hlen];refine aj (by kernel_rfl) (w8.take (by decide) (n:=(f.blocks.length:Int)) (by omega) (by omega)) ?_;rintro _ h9 ⟨rfl,o9,w9,f9⟩;obtain⟨b0,b1⟩:=cc (s:=[q0,q1,q2]) (at_:=1) (n:=(f.blocks.length:Int)) (by omega);subst hz;refine aa fun z hz=>?_;simp;refine aj (by kernel_rfl) (w9.take (by decide) (n:=40) (by decide) (by decide)) ?_;rintro _ h10 ⟨rfl,o10,w10,f10⟩;obtain⟨n0,n1⟩:=cc (s:=[q0,q1,q2]) (at_:=2) (n:=40) (by decide);have e0:MS.at_ ⟨0,0,[],0,[]⟩=0:=rfl;have e1:MS.at_ (MS.took ⟨0,0,[],0,[]⟩)=1:=rfl;have e2:MS.at_ (MS.took (MS.took ⟨0,0,[],0,[]⟩))=2:=rfl;rw[e1,e2];have w10:=w10.own.sub (o':=o6) fun k i hk=>by
  have hk3:3<=k.1:=by
   rw[ho6]at hk;dsimp only at hk;split at hk
   ·rename_i e;rw[e];decide
   split at hk
   ·rename_i e;rw[e];decide
   split at hk
   ·rename_i e;rw[e];decide
   rcases LI k.1 10 with e | e
   ·rw[ho0 k e]at hk;cases hk
   omega
  rw[f10 k hk3,f9 k hk3,f8 k hk3,f7 k hk3];exact hk
 clear f10 f9 f8 f7 w9 w8 w7 e0 e1 e2;generalize aG [q0,q1,q2] 0 12=what at t0 t1;generalize aG [q0,q1,q2] 1 f.blocks.length=bb at b0 b1;generalize aG [q0,q1,q2] 2 40=nn at n0 n1;obtain⟨b,rfl⟩ : ∃b:Nat,bb=b:=⟨bb.toNat,by omega⟩;obtain⟨n,rfl⟩ : ∃n:Nat,nn=n:=⟨nn.toNat,by omega⟩;subst hz;have hbl2:b<f.blocks.length:=by omega
 have tb:=hf.blk _ (MD hbl2);refine aa fun z hz=>?_;obtain⟨ux,hux,huxr⟩:=Owns.ldW w10 (k:=(3,0)) (v:=vbk) (l:=f.blocks) (by rw[ho6];rfl) rfl (N:=6) rfl hbl2;have sbk:=w10.now (k:=(3,0)) (v:=vbk) (l:=f.blocks) (by rw[ho6];rfl)
 obtain⟨vp,vi,va,vt,rfl,rp,ri,ra,rt,ik,im⟩:=C9 huxr;generalize f.blocks[b]=xb at tb rp ri ra rt ik im hux huxr;have bp:=rp.cells.2;have bi:=ri.cells.2;have ba:=ra.cells.2;have bt:=rt.cells.2;simp(disch:=omega)[sbk.idxn (N:=6) rfl,hux];refine w10.mI (k:=(3,1)) (n:=5) (l:=[vp,vi,.int .i64 xb.term.kind,va,vt,.int .i32 xb.term.imm.v]) (by rw[ho6];exact ho0 _ (by decide)) (z:=.agg #[.slice none 0 0,.slice none 0 0,.int .i64 0,.slice none 0 0,.slice none 0 0,.int .i32 0]) (by kernel_rfl) rfl (by kernel_rfl) rfl (by decide) (by intro c hc;simp only[L4,MF,or_false]at hc;rcases hc with rfl | rfl | rfl | rfl | rfl | rfl<;>first | rfl | assumption) (fun _=>by simp) (fun _=>by simp) fun h11 q11 w11=>?_;generalize h10.size=X at w11;subst hz;refine aa fun z hz=>?_;simp;refine w11.dy (k:=(3,2)) (α:=InsD) (by rw[Own.ab (by simp),ho6];exact ho0 _ (by decide)) El.jf fun v12 h12 hle12 hv12 w12 _=>?_;have c12:ao (vw h12) ⟨X,1,none⟩=some vi:=w12.raw (k:=(3,1)) (e:=T.ay) (n:=5) (l:=[vp,vi,.int .i64 xb.term.kind,va,vt,.int .i32 xb.term.imm.v]) (by rw[Own.ab (by simp),Own.af]) (i:=1) (by decide)
 simp[c12];refine w12.bw (k:=(3,2)) (α:=InsD) (l:=([]:List InsD)) (l2:=xb.ins) Own.af El.jf rfl rfl (ri.src w12.wle) (by have:=tb.ins;simp;omega) (by have:=tb.ins;simp;omega) fun vi2 h13 w13 _=>?_;rw[MB]at w13;have hvi2:=(w13.cells (k:=(3,2)) Own.af).2;refine w13.bu (k:=(3,1)) (n:=5) (i:=1) (e:=T.ay) (B:=X) (l:=[vp,vi,.int .i64 xb.term.kind,va,vt,.int .i32 xb.term.imm.v]) (by rw[Own.ab (by simp),Own.ab (by simp),Own.af]) (by decide) (by kernel_rfl) rfl rfl hvi2 fun h14 w14 _=>?_;subst hz;refine aa fun z hz=>?_;simp;refine w14.dy (k:=(3,3)) (α:=PhiD) (by rw[Own.ab (by simp),Own.ab (by simp),Own.ab (by simp),Own.ab (by simp),ho6];exact ho0 _ (by decide)) El.gM fun v15 h15 hle15 hv15 w15 _=>?_;have c15:ao (vw h15) ⟨X,0,none⟩=some vp:=w15.raw (k:=(3,1)) (e:=T.ay) (n:=5) (l:=[vp,vi2,.int .i64 xb.term.kind,va,vt,.int .i32 xb.term.imm.v]) (by rw[Own.ab (by simp),Own.af];rfl) (i:=0) (by decide)
 simp[c15];refine w15.bw (k:=(3,3)) (α:=PhiD) (l:=([]:List PhiD)) (l2:=xb.phis) Own.af El.gM rfl rfl (rp.src w15.wle) (by have:=tb.phis;simp;omega) (by have:=tb.phis;simp;omega) fun vp2 h16 w16 _=>?_;rw[MB]at w16;have hvp2:=(w16.cells (k:=(3,3)) Own.af).2;refine w16.bu (k:=(3,1)) (n:=5) (i:=0) (e:=T.ay) (B:=X) (l:=[vp,vi2,.int .i64 xb.term.kind,va,vt,.int .i32 xb.term.imm.v]) (by rw[Own.ab (by simp),Own.ab (by simp),Own.af];rfl) (by decide) (by kernel_rfl) rfl rfl hvp2 fun h17 w17 _=>?_;have tu : ∃o,Tu R F X o0 c W2 vbk f.blocks W2 o f.params vp2 vi2 va vt xb.term.kind xb.term.imm.v xb.phis xb.ins xb.term.args xb.term.to/\Owns W2 h17 o:=by
  refine⟨_,⟨View.le_refl _,?_,?_,?_,?_,?_,?_,?_,?_,ra,rt,ips,ik,im,⟨tb.phis,tb.ins,tb.args,tb.to,tb.pin,tb.iar⟩⟩,w17⟩
  ·simp[Own.upd,ho6]
  ·simp[Own.upd,ho6]
  ·simp[Own.upd,ho6]
  ·simp[Own.upd]
  ·simp[Own.upd]
  ·simp[Own.upd]
  ·simp[Own.upd,ho6,ho0]
  intro k hk;repeat rw[Own.ab (by rintro rfl;simp at hk)]
  rw[ho6];dsimp only;rw[if_neg (by rintro rfl;simp at hk),if_neg (by rintro rfl;simp at hk),if_neg (by rintro rfl;simp at hk)]
 clear w17 w16 w15 w14 w13 w12 w11 w10 c15 c12 rp ri hux huxr bp bi ba bt;obtain⟨o17,t,w17⟩:=tu;have hc0 : ∀{i:Nat},i<=5->ao (vw h17) ⟨X,i,none⟩=some ([vp2,vi2,.int .i64 xb.term.kind,va,vt,.int .i32 xb.term.imm.v].getD i undef):=fun hi=>w17.raw t.box hi;have x0:ao (vw h17) ⟨X,0,none⟩=some vp2:=hc0 (i:=0) (by decide)
 have x1:ao (vw h17) ⟨X,1,none⟩=some vi2:=hc0 (i:=1) (by decide);have x4:ao (vw h17) ⟨X,4,none⟩=some vt:=hc0 (i:=4) (by decide);have sI:=w17.now t.ins;have sP:=w17.now t.phis;have sT:=t.rt;have hli : ∀{Q:View},Un.ev Q .len vi2=some (.int .i64 xb.ins.length):=fun{Q}=>sI.len;have hlp : ∀{Q:View},Un.ev Q .len vp2=some (.int .i64 xb.phis.length):=fun{Q}=>sP.len
 have hlt : ∀{Q:View},Un.ev Q .len vt=some (.int .i64 xb.term.to.length):=fun{Q}=>sT.len;have tbi:=tb.ins
 have tbp:=tb.phis;have tbt:=tb.to;clear hc0;subst hz;refine aa fun z hz=>?_;simp;subst hz;refine aa fun z hz=>?_;obtain⟨j,hj1,hj2⟩ : ∃j:Nat,(0<xb.ins.length->j<xb.ins.length)/\(j:Int)=if 0<xb.ins.length then(n:Int).tmod xb.ins.length else 0:=by
  by_cases c1:0<xb.ins.length
  ·refine⟨((n:Int).tmod xb.ins.length).toNat,fun _=>?_,?_⟩
   ·have:=M1 (n:Int) (show(0:Int)<xb.ins.length by omega);have:=Ns (xb.ins.length:Int) (show(0:Int)<=n by omega);omega
   rw[if_pos c1];have:=Ns (xb.ins.length:Int) (show(0:Int)<=n by omega);omega
  exact⟨0,fun q=>absurd q c1,by rw[if_neg c1];rfl⟩
 have sw : ∀ρ:Env,Lft.look ρ 2=some (.pointer (some ⟨F,0,none⟩))->Lft.look ρ 4=some (.pointer (some ⟨R,0,none⟩))->Lft.look ρ 5=some vbk->Lft.look ρ 7=some (.int .i64 what)->Lft.look ρ 8=some (.int .i64 b)->Lft.look ρ 9=some (.int .i64 n)->Lft.look ρ 10=some (.pointer (some ⟨X,0,none⟩))->Lft.look ρ 11=some (.int .i64 j)->LC.wp Tryz.prog z (fq [.un (.al 2) (.tmp 4)] K) ρ h17:=by
  intro ρ r2 r4 r5 r7 r8 r9 r10 r11;subst hz;refine aa fun z hz=>?_;have fin : ∀(h':Heap) (ρ:Env),TuE R F X o0 (c+1) W2 vbk f.blocks h'->Lft.look ρ 2=some (.pointer (some ⟨F,0,none⟩))->Lft.look ρ 4=some (.pointer (some ⟨R,0,none⟩))->Lft.look ρ 5=some vbk->Lft.look ρ 8=some (.int .i64 b)->Lft.look ρ 10=some (.pointer (some ⟨X,0,none⟩))->LC.wp Tryz.prog z (fq [.un (.al 2) (.tmp 4)] K) ρ h':=by
   intro h' ρ tE r2 r4 r5 r8 r10;subst hz;obtain⟨W,o,ps',vp',vi',va',vt',kd',im',lp',li',la',lt',t,w⟩:=tE;have sbk:=w.now t.blk;have cx:=w.dI (k:=(3,1)) t.box;have cx:Un.ev (vw h') (.al 6) (.pointer (some ⟨X,0,none⟩))=some (.agg #[vp',vi',.int .i64 kd',va',vt',.int .i32 im']):=cx;obtain⟨wA,sI⟩:=w.freeze t.ins;obtain⟨wB,sP⟩:=wA.freeze ((Own.ab (by simp)).trans t.phis);have sI:=sI.mono (eD (h:=h') (wA.av _ _ ((Own.ab (by simp)).trans t.phis)));have hWW:=View.le_trans (eD (h:=h') (w.av _ _ t.ins)) (eD (h:=h') (wA.av _ _ ((Own.ab (by simp)).trans t.phis)));refine aa fun z hz=>?_;simp(disch:=omega)[ag,ah,r2,r4,r5,r8,r10,cx,sbk.idxn (N:=6) rfl];refine wB.ky (k:=(3,0)) (α:=BlkD) (v:=vbk) (l:=f.blocks) (i:=b) (d:=⟨lp',li',⟨kd',la',lt',⟨im'⟩⟩⟩) ((Own.ab (by simp)).trans ((Own.ab (by simp)).trans t.blk)) (by kernel_rfl) rfl rfl (by omega) (rB (imm:=⟨im'⟩) sP sI (t.ra.mono hWW) (t.rt.mono hWW) t.ikd t.iim) fun h2 w2 _=>?_;subst hz;refine aa fun z hz=>?_;have fF:(((o.upd (3,2) none).upd (3,3) none).upd (3,0) (it T.ay vbk (f.blocks.set b ⟨lp',li',⟨kd',la',lt',⟨im'⟩⟩⟩))) (8,1)=bx T.ar F (RawN.mk (n:=1) [.int .i64 ps',vbk]):=by simp[Own.upd,t.fn]
   have fR:(((o.upd (3,2) none).upd (3,3) none).upd (3,0) (it T.ay vbk (f.blocks.set b ⟨lp',li',⟨kd',la',lt',⟨im'⟩⟩⟩))) (8,0)=bx T.ar R (RawN.mk (n:=1) [.int .i64 0,.slice none 0 0]):=by simp[Own.upd,t.res]
   have cF:=w2.dI (k:=(8,1)) fF;have cF:Un.ev (vw h2) (.al 2) (.pointer (some ⟨F,0,none⟩))=some (.agg #[.int .i64 ps',vbk]):=cF;simp[ag,ah,r2,r4,r5,r8,r10,cF];refine w2.ez (k:=(8,0)) (α:=RawN 1) (β:=RawN 1) Part.all (B:=R) (D:=RawN.mk (n:=1) [.int .i64 0,.slice none 0 0]) (d:=RawN.mk (n:=1) [.int .i64 ps',vbk]) fR (by kernel_rfl) rfl rfl (eP rfl (by intro c hc;simp only[L4,MF,or_false]at hc;rcases hc with rfl | rfl<;>first | rfl | exact hvk)) fun h3 w3 _=>?_;have cb:=w3.dI (k:=(8,0)) (n:=1) (l:=[.int .i64 ps',vbk]) Own.af
   have cb:Un.ev (vw h3) (.al 2) (.pointer (some ⟨R,0,none⟩))=some (.agg #[.int .i64 ps',vbk]):=cb;have sb3:=w3.now (k:=(3,0)) (v:=vbk) (l:=f.blocks.set b ⟨lp',li',⟨kd',la',lt',⟨im'⟩⟩⟩) (by rw[Own.ab (by simp),Own.af]);subst hz;simp[ag,ah,r2,r4,r5,r8,r10,cb];obtain⟨w4,s4⟩:=w3.freeze (k:=(3,0)) (v:=vbk) (l:=f.blocks.set b ⟨lp',li',⟨kd',la',lt',⟨im'⟩⟩⟩) (by rw[Own.ab (by simp),Own.af]);have hW4:=eD (h:=h3) (w3.av (3,0) _ ((Own.ab (by simp)).trans Own.af));have w5:=w4.sub (o':=o0) fun k i hk=>by
    rcases LI k.1 10 with e | e
    ·rw[ho0 k e]at hk;cases hk
    rw[Own.ab (by rintro rfl;simp at e),Own.ab (by rintro rfl;simp at e),Own.ab (by rintro rfl;simp at e),Own.ab (by rintro rfl;simp at e),Own.ab (by rintro rfl;simp at e),t.fr k e];exact hk
   refine hK _ _ ⟨_,⟨ps',f.blocks.set b ⟨lp',li',⟨kd',la',lt',⟨im'⟩⟩⟩⟩,View.le_trans hW2 (View.le_trans t.le (View.le_trans hWW hW4)),w5,⟨by show(f.blocks.set b _).length<=_;rw[LN];exact hf.len,fun x hx=>?_⟩,⟨_,rfl,[.int .i64 ps'],[vbk],rfl,⟨rfl,t.ips⟩,vbk,rfl,s4⟩⟩;rcases MY hx with q | q
   ·exact(hf.blk x q).mono (by omega)
   rw[q];exact t.tb
  refine aa fun y hy=>?_;simp[ag,ah,r2,r4,r5,r7,r8,r9,r10,r11];subst hy;simp only[aR];refine aa fun y hy=>?_;simp[ag,ah,r2,r4,r5,r7,r8,r9,r10,r11];subst hy;by_cases w0:what=0
  ·refine aw (by simp[ag,ah,w0]) ?_;simp[ag,ah,r2,r4,r5,r7,r8,r9,r10,r11];refine t.DO w17 zg (by kernel_rfl) rfl rfl fun h2 tE=>?_;refine fin _ _ (tE.mono (by omega)) ?_ ?_ ?_ ?_ ?_<;>simp[ag,ah,r2,r4,r5,r8,r10]
  refine au (by simp[ag,ah,w0]) ?_;refine aa fun y hy=>?_;simp[ag,ah,r2,r4,r5,r7,r8,r9,r10,r11];subst hy;by_cases w1:what=1
  ·refine aw (by simp[ag,ah,w1]) ?_;refine aa fun y hy=>?_;simp[ag,ah,r2,r4,r5,r7,r8,r9,r10,r11,x1,hli];subst hy;by_cases c1:0<xb.ins.length
   ·have hj:=hj1 c1;refine aw (by simp[ag,ah];exact c1) ?_;simp(disch:=omega)[ag,ah,r2,r4,r5,r7,r8,r9,r10,r11,x1,sI.idxn (N:=5) rfl];refine t.Bs InsD.HR w17 (j:=j) (d:=_) hj (dr.2 ⟨rfl,zg⟩) (t.tb.iar xb.ins[j] (MD hj)) (by kernel_rfl) rfl rfl fun h2 tE=>?_;refine fin _ _ (tE.mono (by omega)) ?_ ?_ ?_ ?_ ?_<;>simp[ag,ah,r2,r4,r5,r8,r10]
   have he:xb.ins=[]:=LO (by omega);refine au (by simp[ag,ah,he]) ?_;simp;refine fin _ _ (TuE.mono ⟨_,_,_,_,_,_,_,_,_,_,_,_,_,t,w17⟩ (by omega)) ?_ ?_ ?_ ?_ ?_<;>simp[ag,ah,r2,r4,r5,r8,r10]
  refine au (by simp[ag,ah,w1]) ?_;refine aa fun y hy=>?_;simp[ag,ah,r2,r4,r5,r7,r8,r9,r10,r11];subst hy;by_cases w2:what=2
  ·refine aw (by simp[ag,ah,w2]) ?_;refine aa fun y hy=>?_;simp[ag,ah,r2,r4,r5,r7,r8,r9,r10,r11,x1,hli];subst hy;by_cases c1:0<xb.ins.length
   ·have hj:=hj1 c1;refine aw (by simp[ag,ah];exact c1) ?_;simp(disch:=omega)[ag,ah,r2,r4,r5,r7,r8,r9,r10,r11,x1,sI.idxn (N:=5) rfl];refine t.Bs InsD.kQ w17 (j:=j) (d:=(n:Int)) hj (dr.2 ⟨rfl,by constructor<;>omega⟩) (t.tb.iar xb.ins[j] (MD hj)) (by kernel_rfl) rfl rfl fun h2 tE=>?_;refine fin _ _ (tE.mono (by omega)) ?_ ?_ ?_ ?_ ?_<;>simp[ag,ah,r2,r4,r5,r8,r10]
   have he:xb.ins=[]:=LO (by omega);refine au (by simp[ag,ah,he]) ?_;simp;refine fin _ _ (TuE.mono ⟨_,_,_,_,_,_,_,_,_,_,_,_,_,t,w17⟩ (by omega)) ?_ ?_ ?_ ?_ ?_<;>simp[ag,ah,r2,r4,r5,r8,r10]
  refine au (by simp[ag,ah,w2]) ?_;refine aa fun y hy=>?_;simp[ag,ah,r2,r4,r5,r7,r8,r9,r10,r11];subst hy;by_cases w3:what=3
  ·refine aw (by simp[ag,ah,w3]) ?_;refine aa fun y hy=>?_;by_cases c1:0<xb.ins.length
   ·have hj:=hj1 c1;have c1i:(0:Int)<xb.ins.length:=by omega
    obtain⟨va3,ca3,ra3⟩:=Owns.insW w17 t.ins hj;have hta:=t.tb.iar _ (MD hj);simp(disch:=omega)[ag,ah,r2,r4,r5,r7,r8,r9,r10,r11,x1,hli,c1,c1i,sI.idxn (N:=5) rfl,ca3,ra3.len];subst hy;by_cases c2:0<xb.ins[j].args.length
    ·refine aw (by simp[ag,ah];first | exact c2 | omega) ?_;refine aa fun y hy=>?_;simp[ag,ah];refine w17.dy (k:=(4,0)) (α:=Int) t.free El.aS fun v18 h18 hle18 hv18 w18 _=>?_;simp(disch:=omega)[ag,ah,r2,r4,r5,r7,r8,r9,r10,r11,ae hle18 x1,(sI.mono hle18).idxn (N:=5) rfl,ae hle18 ca3];refine w18.bw (k:=(4,0)) (α:=Int) (l:=([]:List Int)) (l2:=xb.ins[j].args) Own.af El.aS rfl rfl (ra3.src w18.wle) (by simp;omega) (by simp;omega) fun v19 h19 w19 _=>?_;rw[MB]at w19;have w19:Owns W2 h19 (o17.upd (4,0) (it T.int v19 xb.ins[j].args)):=w19.congr fun q=>by rw[cz]
     subst hy;refine aa fun y hy=>?_;have s19:=w19.now (k:=(4,0)) Own.af;have m0:=Ns (xb.ins[j].args.length:Int) (show(0:Int)<=n by omega);have m1:=M1 (n:Int) (show(0:Int)<xb.ins[j].args.length by omega);have hne:¬xb.ins[j].args=[]:=fun e=>by rw[e]at c2;simp at c2
     simp(disch:=omega)[ag,ah,r2,r4,r5,r7,r8,r9,r10,r11,s19.len,hne,s19.idx1 rfl];refine w19.ky (k:=(4,0)) (α:=Int) (v:=v19) (l:=xb.ins[j].args) (i:=((n:Int).tmod xb.ins[j].args.length).toNat) (d:=(n:Int)) Own.af (by kernel_rfl) (by rw[show Rep.n Int=1 from rfl,MP];rfl) rfl (by omega) (dr.2 ⟨rfl,by constructor<;>omega⟩) fun h20 w20 _=>?_;have w20:Owns W2 h20 (o17.upd (4,0) (it T.int v19 (xb.ins[j].args.set ((n:Int).tmod xb.ins[j].args.length).toNat n))):=w20.congr fun q=>by rw[cz]
     subst hy;have x1':ao (vw h20) ⟨X,1,none⟩=some vi2:=w20.raw (k:=(3,1)) ((Own.ab (by simp)).trans t.box) (i:=1) (by decide);have sI':=w20.now (k:=(3,2)) ((Own.ab (by simp)).trans t.ins);obtain⟨w21,s21⟩:=w20.freeze Own.af;have hWp:=eD (h:=h20) (w20.av _ _ Own.af);have w21:=w21.congr (o':=o17) fun q=>by
      rw[cz];unfold Own.upd;split
      ·rename_i e;rw[e];exact t.free
      rfl
     simp(disch:=omega)[ag,ah,r2,r4,r5,r7,r8,r9,r10,r11,x1',sI'.idxn (N:=5) rfl];refine(t.wider hWp).Bs InsD.qn w21 (j:=j) (d:=xb.ins[j].args.set ((n:Int).tmod xb.ins[j].args.length).toNat n) hj (fy.2 s21) (by show(List.set _ _ _).length<=_;rw[LN];exact hta) (by kernel_rfl) rfl rfl fun h2 tE=>?_;refine fin _ _ (tE.mono (by omega)) ?_ ?_ ?_ ?_ ?_<;>simp[ag,ah,r2,r4,r5,r8,r10]
    refine au (by simp[ag,ah];first | omega | exact LO (by omega)) ?_;simp;refine fin _ _ (TuE.mono ⟨_,_,_,_,_,_,_,_,_,_,_,_,_,t,w17⟩ (by omega)) ?_ ?_ ?_ ?_ ?_<;>simp[ag,ah,r2,r4,r5,r8,r10]
   have he:xb.ins=[]:=LO (by omega);have c1i:¬(0:Int)<xb.ins.length:=by omega
   simp[ag,ah,r2,r4,r5,r7,r8,r9,r10,r11,x1,hli,c1,c1i];subst hy;refine au (by simp[ag,ah]) ?_;simp;refine fin _ _ (TuE.mono ⟨_,_,_,_,_,_,_,_,_,_,_,_,_,t,w17⟩ (by omega)) ?_ ?_ ?_ ?_ ?_<;>simp[ag,ah,r2,r4,r5,r8,r10]
  refine au (by simp[ag,ah,w3]) ?_;refine aa fun y hy=>?_;simp[ag,ah,r2,r4,r5,r7,r8,r9,r10,r11];subst hy;by_cases w4:what=4
  ·refine aw (by simp[ag,ah,w4]) ?_;simp[ag,ah];refine w17.dy (k:=(4,0)) (α:=Int) t.free El.aS fun v18 h18 hle18 hv18 w18 _=>?_;simp(disch:=omega)[ag,ah,r2,r4,r5,r7,r8,r9,r10,r11,ae hle18 x4];refine w18.bw (k:=(4,0)) (α:=Int) (l:=([]:List Int)) (l2:=xb.term.to) Own.af El.aS rfl rfl (t.rt.src w18.wle) (by simp;omega) (by simp;omega) fun v19 h19 w19 _=>?_;rw[MB]at w19;have w19:Owns W2 h19 (o17.upd (4,0) (it T.int v19 xb.term.to)):=w19.congr fun q=>by rw[cz]
   refine w19.fg (k:=(4,0)) (α:=Int) (d:=IntKind.i64.wrap ((n:Int).tmod 12-1)) Own.af El.aS rfl (dr.2 ⟨rfl,zg⟩) (by omega) (by omega) (fun _=>rfl) (fun _=>rfl) fun u20 v20 h20 w20 _=>?_;have w20:Owns W2 h20 (o17.upd (4,0) (it T.int v20 (xb.term.to++[IntKind.i64.wrap ((n:Int).tmod 12-1)]))):=w20.congr fun q=>by rw[cz]
   obtain⟨w21,s21⟩:=w20.freeze Own.af;have hWp:=eD (h:=h20) (w20.av _ _ Own.af);have w21:=w21.congr (o':=o17) fun q=>by
    rw[cz];unfold Own.upd;split
    ·rename_i e;rw[e];exact t.free
    rfl
   refine((t.wider hWp).more (d:=c+1) (by omega)).Db w21 s21 (by rw[LH,LJ];omega) (by kernel_rfl) rfl rfl fun h2 tE=>?_;refine fin _ _ tE ?_ ?_ ?_ ?_ ?_<;>simp[ag,ah,r2,r4,r5,r8,r10]
  refine au (by simp[ag,ah,w4]) ?_;refine aa fun y hy=>?_;simp[ag,ah,r2,r4,r5,r7,r8,r9,r10,r11];subst hy;by_cases w5:what=5
  ·refine aw (by simp[ag,ah,w5]) ?_;simp[ag,ah,r2,r4,r5,r7,r8,r9,r10,r11];have m0:=Ns (7:Int) (show(0:Int)<=n by omega);have m1:=M1 (n:Int) (show(0:Int)<7 by omega);refine t.G5 w17 (p:=(n:Int).tmod 7) (by constructor<;>omega) (by kernel_rfl) rfl rfl fun h2 tE=>?_;refine fin _ _ (tE.mono (by omega)) ?_ ?_ ?_ ?_ ?_<;>simp[ag,ah,r2,r4,r5,r8,r10]
  refine au (by simp[ag,ah,w5]) ?_;refine aa fun y hy=>?_;simp[ag,ah,r2,r4,r5,r7,r8,r9,r10,r11];subst hy;by_cases w6:what=6
  ·refine aw (by simp[ag,ah,w6]) ?_;refine aa fun y hy=>?_;simp[ag,ah,r2,r4,r5,r7,r8,r9,r10,r11,x0,hlp];subst hy;by_cases c1:0<xb.phis.length
   ·refine aw (by simp[ag,ah];exact c1) ?_;have m0:=Ns (xb.phis.length:Int) (show(0:Int)<=n by omega);have m1:=M1 (n:Int) (show(0:Int)<xb.phis.length by omega);obtain⟨q,hq⟩ : ∃q:Nat,(n:Int).tmod xb.phis.length=q:=⟨((n:Int).tmod xb.phis.length).toNat,by omega⟩;have hql:q<xb.phis.length:=by omega
    obtain⟨va3,ca3,ra3⟩:=Owns.phiW w17 t.phis hql;have hta:=t.tb.pin _ (MD hql);have hne:¬xb.phis=[]:=fun e=>by rw[e]at c1;simp at c1
    have q50:=Ns (5:Int) (show(0:Int)<=n by omega);have q51:=M1 (n:Int) (show(0:Int)<5 by omega);have ixq:Bn.ev (.idx 2) vp2 (.int .i64 q)=some (.pointer (some ((slA vp2).add (q*2)))):=by have:=sP.idxn (N:=2) rfl (k:=.i64) (i:=q) (by omega) (by omega);simpa using this
    refine bF (vw h17) (View.le_refl _) ?_;simp[ag,ah,r2,r4,r5,r7,r8,r9,r10,r11,x0,hlp,hne,hq,ixq,ca3];have A2 : ∀{po2 po3:OP} {W:View} {hh:Heap} {v1 u:Value} {ty ty3:TypeId} {us:List (Nat × Value)} {us3:Value->List (Nat × Value)} {x y c1 c2:Operand} {K2:Value->Value->Heap->Prop},W2.le W->Owns W hh (o17.upd (4,0) (it T.bI v1 xb.phis[q].ins))->SlRd W u [InD.mk ((n:Int).tmod 5) n]->(vw h17).le (vw hh)->Av (vw h17) v1->asg us x=v1->asg us y=u->
      (∀v,asg (us3 v) c1 = .pointer (some (((slA vp2).add (q*2)).add 1)))->(∀v,asg (us3 v) c2=v)->(∀v h',TuE R F X o0 (c+1) W2 vbk f.blocks h'->K2 v undef h')->
      @Lft.step po2 Tryz.prog (.call ⟨.builtin .append,#[x,y],#[T.bZ,T.bZ]⟩) ty us hh fun v h'=>(vw h17).le (vw h')/\@Lft.step po3 Tryz.prog (.store T.bZ c1 c2) ty3 (us3 v) h' fun w h''=>K2 v w h'':=by
     intro po2 po3 W hh v1 u ty ty3 us us3 x y c1 c2 K2 hW w su le av hx hy hc1 hc2 hK2;refine w.bw (k:=(4,0)) (α:=InD) (l:=xb.phis[q].ins) (l2:=[InD.mk ((n:Int).tmod 5) n]) Own.af El.bZ hx hy (su.src w.wle) (by simp;omega) (by simp;omega) fun v2 h2 wb m2=>⟨(m2.view le av).1,?_⟩;have wb:Owns W h2 (o17.upd (4,0) (it T.bI v2 (xb.phis[q].ins++[InD.mk ((n:Int).tmod 5) n]))):=wb.congr fun k=>by rw[cz]
     obtain⟨wc,sc⟩:=wb.freeze Own.af;have hWp:=eD (h:=h2) (wb.av _ _ Own.af);have wc:=wc.congr (o':=o17) fun k=>by
      rw[cz];unfold Own.upd;split
      ·rename_i e;rw[e];exact t.free
      rfl
     exact((t.wider (View.le_trans hW hWp)).more (d:=c+1) (by omega)).GK wc (j:=q) hql sc (by rw[LH,LJ];omega) (by kernel_rfl) (hc1 v2) (hc2 v2) fun h' tE=>hK2 v2 h' tE
    have i5:I64 ((n:Int).tmod 5):=⟨by omega,by omega⟩;have in_:I64 (n:Int):=⟨by omega,by omega⟩;constructor
    ·refine w17.dy (k:=(4,0)) (α:=InD) t.free El.bZ fun v0 h18 le18 _ w18 av18=>⟨le18,?_⟩;have av18:=av18 (vw h17) (View.le_refl _);constructor
     ·refine w18.bw (k:=(4,0)) (α:=InD) (l:=([]:List InD)) (l2:=xb.phis[q].ins) Own.af El.bZ rfl rfl (ra3.src w18.wle) (by simp;omega) (by simp;omega) fun v1 h19 w19 m19=>?_;obtain⟨le19,av19⟩:=m19.view le18 av18;rw[MB]at w19;have w19:Owns W2 h19 (o17.upd (4,0) (it T.bI v1 xb.phis[q].ins)):=w19.congr fun k=>by rw[cz]
      refine⟨le19,?_⟩;refine aE (z:=.agg #[.int .i64 0,.int .i64 0]) (places:=[(0,1),(1,1)]) (vs:=[(0,.int .i64 ((n:Int).tmod 5)),(1,.int .i64 n)]) (cs:=#[.int .i64 ((n:Int).tmod 5),.int .i64 n]) (by kernel_rfl) (by kernel_rfl) (by simp) (by rfl) ⟨le19,?_⟩;refine mV i5 in_ rfl fun h20 le20 su=>⟨View.le_trans le19 le20,?_⟩;refine A2 (aH w19.wle) (w19.ext le20) (su _ (cM (LG _))) (View.le_trans le19 le20) av19 rfl rfl (fun _=>rfl) (fun _=>rfl) fun v h' tE=>?_;refine fin _ _ tE ?_ ?_ ?_ ?_ ?_<;>simp[ag,ah,r2,r4,r5,r8,r10]
     refine aE (z:=.agg #[.int .i64 0,.int .i64 0]) (places:=[(0,1),(1,1)]) (vs:=[(0,.int .i64 ((n:Int).tmod 5)),(1,.int .i64 n)]) (cs:=#[.int .i64 ((n:Int).tmod 5),.int .i64 n]) (by kernel_rfl) (by kernel_rfl) (by simp) (by rfl) ⟨le18,?_⟩;constructor
     ·refine w18.bw (k:=(4,0)) (α:=InD) (l:=([]:List InD)) (l2:=xb.phis[q].ins) Own.af El.bZ rfl rfl (ra3.src w18.wle) (by simp;omega) (by simp;omega) fun v1 h19 w19 m19=>?_;obtain⟨le19,av19⟩:=m19.view le18 av18;rw[MB]at w19;have w19:Owns W2 h19 (o17.upd (4,0) (it T.bI v1 xb.phis[q].ins)):=w19.congr fun k=>by rw[cz]
      refine⟨le19,?_⟩;refine mV i5 in_ rfl fun h20 le20 su=>⟨View.le_trans le19 le20,?_⟩;refine A2 (aH w19.wle) (w19.ext le20) (su _ (cM (LG _))) (View.le_trans le19 le20) av19 rfl rfl (fun _=>rfl) (fun _=>rfl) fun v h' tE=>?_;refine fin _ _ tE ?_ ?_ ?_ ?_ ?_<;>simp[ag,ah,r2,r4,r5,r8,r10]
     refine mV i5 in_ rfl fun h20 le20 su=>⟨View.le_trans le18 le20,?_⟩;have w20:=w18.ext le20;have hW20:=aH (h':=h20) w18.wle;have su:=su _ (cM (W:=W2) (LG _));refine w20.bw (k:=(4,0)) (α:=InD) (l:=([]:List InD)) (l2:=xb.phis[q].ins) Own.af El.bZ rfl rfl ((ra3.mono hW20).src w20.wle) (by simp;omega) (by simp;omega) fun v1 h21 w21 m21=>?_;obtain⟨le21,av21⟩:=m21.view (View.le_trans le18 le20) av18;rw[MB]at w21;have w21:=w21.congr (o':=o17.upd (4,0) (it T.bI v1 xb.phis[q].ins)) fun k=>by rw[cz]
     refine⟨le21,?_⟩;refine A2 hW20 w21 su le21 av21 rfl rfl (fun _=>rfl) (fun _=>rfl) fun v h' tE=>?_;refine fin _ _ tE ?_ ?_ ?_ ?_ ?_<;>simp[ag,ah,r2,r4,r5,r8,r10]
    refine aE (z:=.agg #[.int .i64 0,.int .i64 0]) (places:=[(0,1),(1,1)]) (vs:=[(0,.int .i64 ((n:Int).tmod 5)),(1,.int .i64 n)]) (cs:=#[.int .i64 ((n:Int).tmod 5),.int .i64 n]) (by kernel_rfl) (by kernel_rfl) (by simp) (by rfl) ⟨View.le_refl _,?_⟩;constructor
    ·refine w17.dy (k:=(4,0)) (α:=InD) t.free El.bZ fun v0 h18 le18 _ w18 av18=>⟨le18,?_⟩;have av18:=av18 (vw h17) (View.le_refl _);constructor
     ·refine w18.bw (k:=(4,0)) (α:=InD) (l:=([]:List InD)) (l2:=xb.phis[q].ins) Own.af El.bZ rfl rfl (ra3.src w18.wle) (by simp;omega) (by simp;omega) fun v1 h19 w19 m19=>?_;obtain⟨le19,av19⟩:=m19.view le18 av18;rw[MB]at w19;have w19:Owns W2 h19 (o17.upd (4,0) (it T.bI v1 xb.phis[q].ins)):=w19.congr fun k=>by rw[cz]
      refine⟨le19,?_⟩;refine mV i5 in_ rfl fun h20 le20 su=>⟨View.le_trans le19 le20,?_⟩;refine A2 (aH w19.wle) (w19.ext le20) (su _ (cM (LG _))) (View.le_trans le19 le20) av19 rfl rfl (fun _=>rfl) (fun _=>rfl) fun v h' tE=>?_;refine fin _ _ tE ?_ ?_ ?_ ?_ ?_<;>simp[ag,ah,r2,r4,r5,r8,r10]
     refine mV i5 in_ rfl fun h20 le20 su=>⟨View.le_trans le18 le20,?_⟩;have w20:=w18.ext le20;have hW20:=aH (h':=h20) w18.wle;have su:=su _ (cM (W:=W2) (LG _));refine w20.bw (k:=(4,0)) (α:=InD) (l:=([]:List InD)) (l2:=xb.phis[q].ins) Own.af El.bZ rfl rfl ((ra3.mono hW20).src w20.wle) (by simp;omega) (by simp;omega) fun v1 h21 w21 m21=>?_;obtain⟨le21,av21⟩:=m21.view (View.le_trans le18 le20) av18;rw[MB]at w21;have w21:=w21.congr (o':=o17.upd (4,0) (it T.bI v1 xb.phis[q].ins)) fun k=>by rw[cz]
     refine⟨le21,?_⟩;refine A2 hW20 w21 su le21 av21 rfl rfl (fun _=>rfl) (fun _=>rfl) fun v h' tE=>?_;refine fin _ _ tE ?_ ?_ ?_ ?_ ?_<;>simp[ag,ah,r2,r4,r5,r8,r10]
    refine mV i5 in_ rfl fun h18 le18 su=>⟨le18,?_⟩;have w18:=w17.ext le18;have hW18:=aH (h':=h18) w17.wle;have su:=su _ (cM (W:=W2) (LG _));refine w18.dy (k:=(4,0)) (α:=InD) t.free El.bZ fun v0 h19 le19 _ w19 av19=>⟨View.le_trans le18 le19,?_⟩;have av19:=av19 (vw h17) le18
    refine w19.bw (k:=(4,0)) (α:=InD) (l:=([]:List InD)) (l2:=xb.phis[q].ins) Own.af El.bZ rfl rfl ((ra3.mono hW18).src w19.wle) (by simp;omega) (by simp;omega) fun v1 h21 w21 m21=>?_;obtain⟨le21,av21⟩:=m21.view (View.le_trans le18 le19) av19;rw[MB]at w21;have w21:=w21.congr (o':=o17.upd (4,0) (it T.bI v1 xb.phis[q].ins)) fun k=>by rw[cz]
    refine⟨le21,?_⟩;refine A2 hW18 w21 su le21 av21 rfl rfl (fun _=>rfl) (fun _=>rfl) fun v h' tE=>?_;refine fin _ _ tE ?_ ?_ ?_ ?_ ?_<;>simp[ag,ah,r2,r4,r5,r8,r10]
   have he:xb.phis=[]:=LO (by omega);refine au (by simp[ag,ah,he]) ?_;simp;refine fin _ _ (TuE.mono ⟨_,_,_,_,_,_,_,_,_,_,_,_,_,t,w17⟩ (by omega)) ?_ ?_ ?_ ?_ ?_<;>simp[ag,ah,r2,r4,r5,r8,r10]
  refine au (by simp[ag,ah,w6]) ?_;refine aa fun y hy=>?_;simp[ag,ah,r2,r4,r5,r7,r8,r9,r10,r11];subst hy;by_cases w7:what=7
  ·refine aw (by simp[ag,ah,w7]) ?_;refine aa fun y hy=>?_;by_cases c1:0<xb.phis.length
   ·have c1i:(0:Int)<xb.phis.length:=by omega
    obtain⟨va3,ca3,ra3⟩:=Owns.phiW w17 t.phis c1;have ca3:ao (vw h17) (((slA vp2).add 0).add 1)=some va3:=by have:=ca3;rwa [Ny]at this
    have hta:=t.tb.pin _ (MD c1);have hix : ∀{l:List PhiD},SlRd (vw h17) vp2 l->True:=fun _=>trivial;have ix0:Bn.ev (.idx 2) vp2 (.int .i64 0)=some (.pointer (some ((slA vp2).add 0))):=by have:=sP.idxn (N:=2) rfl (k:=.i64) (i:=0) (by omega) (by omega);simpa using this
    simp(disch:=omega)[ag,ah,r2,r4,r5,r7,r8,r9,r10,r11,x0,hlp,c1,c1i,ix0,ca3,ra3.len];subst hy;by_cases c2:0<xb.phis[0].ins.length
    ·refine aw (by simp[ag,ah];first | exact c2 | omega) ?_;refine aa fun y hy=>?_;simp[ag,ah];refine w17.dy (k:=(4,0)) (α:=InD) t.free El.bZ fun v18 h18 hle18 hv18 w18 _=>?_;simp(disch:=omega)[ag,ah,r2,r4,r5,r7,r8,r9,r10,r11,ae hle18 x0,ix0,ae hle18 ca3];refine w18.bw (k:=(4,0)) (α:=InD) (l:=([]:List InD)) (l2:=xb.phis[0].ins) Own.af El.bZ rfl rfl (ra3.src w18.wle) (by simp;omega) (by simp;omega) fun v19 h19 w19 _=>?_;rw[MB]at w19;have w19:Owns W2 h19 (o17.upd (4,0) (it T.bI v19 xb.phis[0].ins)):=w19.congr fun q=>by rw[cz]
     subst hy;refine aa fun y hy=>?_;have s19:=w19.now (k:=(4,0)) Own.af;have m0:=Ns (xb.phis[0].ins.length:Int) (show(0:Int)<=n by omega);have m1:=M1 (n:Int) (show(0:Int)<xb.phis[0].ins.length by omega);have hne:¬xb.phis[0].ins=[]:=fun e=>by rw[e]at c2;simp at c2
     simp(disch:=omega)[ag,ah,r2,r4,r5,r7,r8,r9,r10,r11,s19.len,hne,s19.idxn (N:=2) rfl];refine w19.je (k:=(4,0)) (α:=InD) InD.rn (v:=v19) (l:=xb.phis[0].ins) (i:=((n:Int).tmod xb.phis[0].ins.length).toNat) (d:=(n:Int)) Own.af (by kernel_rfl) rfl rfl (by omega) (dr.2 ⟨rfl,by constructor<;>omega⟩) fun h20 w20 _=>?_;have w20:Owns W2 h20 (o17.upd (4,0) (it T.bI v19 _)):=w20.congr fun q=>by rw[cz]
     subst hy;have x0':ao (vw h20) ⟨X,0,none⟩=some vp2:=w20.raw (k:=(3,1)) ((Own.ab (by simp)).trans t.box) (i:=0) (by decide);obtain⟨w21,s21⟩:=w20.freeze Own.af;have hWp:=eD (h:=h20) (w20.av _ _ Own.af);have w21:=w21.congr (o':=o17) fun q=>by
      rw[cz];unfold Own.upd;split
      ·rename_i e;rw[e];exact t.free
      rfl
     simp(disch:=omega)[ag,ah,r2,r4,r5,r7,r8,r9,r10,r11,x0',ix0];refine(t.wider hWp).GK w21 (j:=0) c1 s21 (by rw[LN];exact hta) (by kernel_rfl) (by rw[Ny];rfl) rfl fun h2 tE=>?_;refine fin _ _ (tE.mono (by omega)) ?_ ?_ ?_ ?_ ?_<;>simp[ag,ah,r2,r4,r5,r8,r10]
    have he:xb.phis[0].ins=[]:=LO (by omega);refine au (by simp[ag,ah,he]) ?_;simp;refine fin _ _ (TuE.mono ⟨_,_,_,_,_,_,_,_,_,_,_,_,_,t,w17⟩ (by omega)) ?_ ?_ ?_ ?_ ?_<;>simp[ag,ah,r2,r4,r5,r8,r10]
   have he:xb.phis=[]:=LO (by omega);have c1i:¬(0:Int)<xb.phis.length:=by omega
   simp[ag,ah,r2,r4,r5,r7,r8,r9,r10,r11,x0,hlp,c1,c1i];subst hy;refine au (by simp[ag,ah,he]) ?_;simp;refine fin _ _ (TuE.mono ⟨_,_,_,_,_,_,_,_,_,_,_,_,_,t,w17⟩ (by omega)) ?_ ?_ ?_ ?_ ?_<;>simp[ag,ah,r2,r4,r5,r8,r10]
  refine au (by simp[ag,ah,w7]) ?_;refine aa fun y hy=>?_;simp[ag,ah,r2,r4,r5,r7,r8,r9,r10,r11];subst hy;by_cases w8:what=8
  ·refine aw (by simp[ag,ah,w8]) ?_;refine aa fun y hy=>?_;simp[ag,ah,r2,r4,r5,r7,r8,r9,r10,r11,x1,hli];subst hy;by_cases c1:0<xb.ins.length
   ·have hj:=hj1 c1;refine aw (by simp[ag,ah];exact c1) ?_;obtain⟨v1,v2,e1,e2,wc,src⟩:=Owns.cut w17 t.ins (N:=5) rfl hj;have hwj:IntKind.i64.wrap ((j:Int)+1)=(j:Int)+1:=bJ (by omega) (by omega);refine bF (vw h17) (View.le_refl _) ?_;simp[ag,ah,r2,r4,r5,r7,r8,r9,r10,r11,x1,e1,e2,hwj];refine wc.bw (k:=(3,2)) (α:=InsD) (l:=xb.ins.take j) (l2:=xb.ins.drop (j+1)) Own.af El.jf rfl rfl src (by simp;omega) (by simp;omega) fun v18 h18 w18 _=>?_;have w18:Owns W2 h18 (o17.upd (3,2) (it T.cg v18 (xb.ins.take j++xb.ins.drop (j+1)))):=w18.congr fun q=>by rw[cz]
    refine t.HA w18 (by simp;omega) (fun i hi=>by
     rcases LP.1 hi with q | q
     ·exact t.tb.iar i (NH q)
     exact t.tb.iar i (OC q)) (by kernel_rfl) rfl rfl fun h2 tE=>?_;refine fin _ _ (tE.mono (by omega)) ?_ ?_ ?_ ?_ ?_<;>simp[ag,ah,r2,r4,r5,r8,r10]
   have he:xb.ins=[]:=LO (by omega);refine au (by simp[ag,ah,he]) ?_;simp;refine fin _ _ (TuE.mono ⟨_,_,_,_,_,_,_,_,_,_,_,_,_,t,w17⟩ (by omega)) ?_ ?_ ?_ ?_ ?_<;>simp[ag,ah,r2,r4,r5,r8,r10]
  refine au (by simp[ag,ah,w8]) ?_;refine aa fun y hy=>?_;simp[ag,ah,r2,r4,r5,r7,r8,r9,r10,r11];subst hy;by_cases w9:what=9
  ·refine aw (by simp[ag,ah,w9]) ?_;refine aa fun y hy=>?_;simp[ag,ah,r2,r4,r5,r7,r8,r9,r10,r11,x1,hli];subst hy;by_cases c1:1<xb.ins.length
   ·have hj:=hj1 (by omega);refine aw (by simp[ag,ah];omega) ?_;have h0i:0<xb.ins.length:=by omega
    obtain⟨u0,hu0,hr0⟩:=Owns.ldW w17 t.ins rfl (N:=5) rfl h0i;obtain⟨uj,huj,hrj⟩:=Owns.ldW w17 t.ins rfl (N:=5) rfl hj;rw[Ny]at hu0;obtain⟨va0,rfl,rng0,ra0⟩:=uD hr0;have ix0:Bn.ev (.idx 5) vi2 (.int .i64 0)=some (.pointer (some ((slA vi2).add 0))):=by have:=sI.idxn (N:=5) rfl (k:=.i64) (i:=0) (by omega) (by omega);simpa using this
    refine aa fun y hy=>?_;simp(disch:=omega)[ag,ah,r2,r4,r5,r7,r8,r9,r10,r11,x1,ix0,hu0];have hva0:=ra0.cells.2;refine w17.mI (k:=(4,0)) (n:=4) (l:=[.int .i64 xb.ins[0].op,.int .i64 xb.ins[0].dst,.int .i64 xb.ins[0].two,va0,.int .i32 xb.ins[0].imm.v]) t.free (z:=.agg #[.int .i64 0,.int .i64 0,.int .i64 0,.slice none 0 0,.int .i32 0]) (by kernel_rfl) rfl (by kernel_rfl) rfl (by decide) (by intro c hc;simp only[L4,MF,or_false]at hc;rcases hc with rfl | rfl | rfl | rfl | rfl<;>first | rfl | assumption) (fun _=>by simp) (fun _=>by simp) fun h18 q18 w18=>?_;generalize h17.size=Y at w18;have x18:=ae q18 x1
    have huj18:Un.ev (vw h18) (.al 5) (.pointer (some ((slA vi2).add (j*5))))=some uj:=by have:=cV (ρ:=fun _=>none) (e:=.un (.al 5) (.con (.pointer (some ((slA vi2).add (j*5)))))) q18 (by simpa using huj);simpa using this
    subst hy;refine aa fun y hy=>?_;refine bF (vw h18) (View.le_refl _) ?_;simp(disch:=omega)[ag,ah,r2,r4,r5,r7,r8,r9,r10,r11,x18,ix0,sI.idxn (N:=5) rfl,huj18];refine w18.ky (k:=(3,2)) (α:=InsD) (v:=vi2) (l:=xb.ins) (i:=0) (d:=xb.ins[j]) ((Own.ab (by simp)).trans t.ins) (by kernel_rfl) (by rw[Ny];rfl) rfl h0i hrj fun h19 w19 _=>?_;have cY:=w19.dI (k:=(4,0)) (n:=4) ((Own.ab (by simp)).trans Own.af);have cY:Un.ev (vw h19) (.al 5) (.pointer (some ⟨Y,0,none⟩))=some (.agg #[.int .i64 xb.ins[0].op,.int .i64 xb.ins[0].dst,.int .i64 xb.ins[0].two,va0,.int .i32 xb.ins[0].imm.v]):=cY;have x19:ao (vw h19) ⟨X,1,none⟩=some vi2:=w19.raw (k:=(3,1)) ((Own.ab (by simp)).trans ((Own.ab (by simp)).trans t.box)) (i:=1) (by decide);have s19:=w19.now (k:=(3,2)) Own.af;subst hy;simp(disch:=first | omega | (simp;omega)) [ag,ah,r2,r4,r5,r7,r8,r9,r10,r11,x19,cY,s19.idxn (N:=5) rfl];refine w19.ky (k:=(3,2)) (α:=InsD) (v:=vi2) (l:=xb.ins.set 0 xb.ins[j]) (i:=j) (d:=xb.ins[0]) Own.af (by kernel_rfl) rfl rfl (by rw[LN];exact hj) hr0 fun h20 w20 _=>?_;have w20:Owns W2 h20 (o17.upd (3,2) (it T.cg vi2 ((xb.ins.set 0 xb.ins[j]).set j xb.ins[0]))):=w20.sub fun k i hk=>by
     have hk4:k≠(4,0):=by rintro rfl;rw[Own.ab (by simp),t.free]at hk;cases hk
     by_cases e:k=(3,2)
     ·subst e;rw[Own.af]at hk ⊢;exact hk
     rw[Own.ab e]at hk;rw[Own.ab e,Own.ab e,Own.ab hk4];exact hk
    refine fin _ _ (TuE.mono ⟨W2,_,f.params,vp2,vi2,va,vt,xb.term.kind,xb.term.imm.v,xb.phis,(xb.ins.set 0 xb.ins[j]).set j xb.ins[0],xb.term.args,xb.term.to,⟨t.le,(Own.ab (by simp)).trans t.res,(Own.ab (by simp)).trans t.fn,(Own.ab (by simp)).trans t.blk,(Own.ab (by simp)).trans t.box,Own.af,(Own.ab (by simp)).trans t.phis,(Own.ab (by simp)).trans t.free,fun k hk=>(Own.ab (by rintro rfl;simp at hk)).trans (t.fr k hk),t.ra,t.rt,t.ips,t.ikd,t.iim,⟨t.tb.phis,by rw[LN,LN];exact t.tb.ins,t.tb.args,t.tb.to,t.tb.pin,fun i hi=>?_⟩⟩,w20⟩ (by omega)) ?_ ?_ ?_ ?_ ?_
    ·rcases MY hi with q | q
     ·rcases MY q with q | q
      ·exact t.tb.iar i q
      rw[q];exact t.tb.iar _ (MD hj)
     rw[q];exact t.tb.iar _ (MD h0i)
    all_goals simp[ag,ah,r2,r4,r5,r8,r10]
   refine au (by simp[ag,ah];omega) ?_;simp;refine fin _ _ (TuE.mono ⟨_,_,_,_,_,_,_,_,_,_,_,_,_,t,w17⟩ (by omega)) ?_ ?_ ?_ ?_ ?_<;>simp[ag,ah,r2,r4,r5,r8,r10]
  refine au (by simp[ag,ah,w9]) ?_;refine aa fun y hy=>?_;simp[ag,ah,r2,r4,r5,r7,r8,r9,r10,r11];subst hy;by_cases w10:what=10
  ·refine aw (by simp[ag,ah,w10]) ?_;refine aa fun y hy=>?_;simp[ag,ah,r2,r4,r5,r7,r8,r9,r10,r11,x4,hlt];subst hy;by_cases c1:0<xb.term.to.length
   ·refine aw (by simp[ag,ah];exact c1) ?_;refine aa fun y hy=>?_;simp[ag,ah];refine w17.dy (k:=(4,0)) (α:=Int) t.free El.aS fun v18 h18 hle18 hv18 w18 _=>?_;simp(disch:=omega)[ag,ah,r2,r4,r5,r7,r8,r9,r10,r11,ae hle18 x4];refine w18.bw (k:=(4,0)) (α:=Int) (l:=([]:List Int)) (l2:=xb.term.to) Own.af El.aS rfl rfl (t.rt.src w18.wle) (by simp;omega) (by simp;omega) fun v19 h19 w19 _=>?_;rw[MB]at w19;have w19:Owns W2 h19 (o17.upd (4,0) (it T.int v19 xb.term.to)):=w19.congr fun q=>by rw[cz]
    subst hy;refine aa fun y hy=>?_;have s19:=w19.now (k:=(4,0)) Own.af;have m0:=Ns (xb.term.to.length:Int) (show(0:Int)<=n by omega);have m1:=M1 (n:Int) (show(0:Int)<xb.term.to.length by omega);have q0:=Ns (11:Int) (show(0:Int)<=n by omega);have q1:=M1 (n:Int) (show(0:Int)<11 by omega);have hne:¬xb.term.to=[]:=fun e=>by rw[e]at c1;simp at c1
    simp(disch:=omega)[ag,ah,r2,r4,r5,r7,r8,r9,r10,r11,s19.len,hne,s19.idx1 rfl];refine w19.ky (k:=(4,0)) (α:=Int) (v:=v19) (l:=xb.term.to) (i:=((n:Int).tmod xb.term.to.length).toNat) (d:=(n:Int).tmod 11) Own.af (by kernel_rfl) (by rw[show Rep.n Int=1 from rfl,MP];rfl) rfl (by omega) (dr.2 ⟨rfl,by constructor<;>omega⟩) fun h20 w20 _=>?_;have w20:Owns W2 h20 (o17.upd (4,0) (it T.int v19 (xb.term.to.set ((n:Int).tmod xb.term.to.length).toNat ((n:Int).tmod 11)))):=w20.congr fun q=>by rw[cz]
    subst hy;obtain⟨w21,s21⟩:=w20.freeze Own.af;have hWp:=eD (h:=h20) (w20.av _ _ Own.af);have w21:=w21.congr (o':=o17) fun q=>by
     rw[cz];unfold Own.upd;split
     ·rename_i e;rw[e];exact t.free
     rfl
    simp(disch:=omega)[ag,ah,r2,r4,r5,r7,r8,r9,r10,r11];refine(t.wider hWp).Db w21 s21 (by rw[LN];exact t.tb.to) (by kernel_rfl) rfl rfl fun h2 tE=>?_;refine fin _ _ (tE.mono (by omega)) ?_ ?_ ?_ ?_ ?_<;>simp[ag,ah,r2,r4,r5,r8,r10]
   have he:xb.term.to=[]:=LO (by omega);refine au (by simp[ag,ah,he]) ?_;simp;refine fin _ _ (TuE.mono ⟨_,_,_,_,_,_,_,_,_,_,_,_,_,t,w17⟩ (by omega)) ?_ ?_ ?_ ?_ ?_<;>simp[ag,ah,r2,r4,r5,r8,r10]
  refine au (by simp[ag,ah,w10]) ?_;simp[ag,ah,r2,r4,r5,r7,r8,r9,r10,r11,x0];refine aE (z:=.agg #[.int .i64 0,.slice none 0 0]) (places:=[(0,1),(1,1)]) (vs:=[(0,.int .i64 n)]) (cs:=#[.int .i64 n,.slice none 0 0]) (by kernel_rfl) (by kernel_rfl) (by simp) (by rfl) ?_;refine w17.fg (k:=(3,3)) (α:=PhiD) (d:=⟨n,[]⟩) t.phis El.gM rfl (uU ⟨by omega,by omega⟩ fo) (by omega) (by omega) (fun _=>rfl) (fun _=>rfl) fun u18 v18 h18 w18 _=>?_;refine(t.more (d:=c+1) (by omega)).Hh w18 (by rw[LH,LJ];omega) (fun i hi=>by
   rcases LP.1 hi with q | q
   ·have:=t.tb.pin i q;omega
   rw[LM]at q;rw[q];exact NA _) (by kernel_rfl) rfl rfl fun h2 tE=>?_;refine fin _ _ tE ?_ ?_ ?_ ?_ ?_<;>simp[ag,ah,r2,r4,r5,r8,r10]
 refine aa fun y hy=>?_;simp[x1,hli];subst hy;by_cases c1:0<xb.ins.length
 ·rw[if_pos c1]at hj2;have hne:¬xb.ins=[]:=fun e=>by rw[e]at c1;simp at c1
  refine aw (by simp[hne];exact c1) ?_;simp[x1,hli,hne];refine sw _ ?_ ?_ ?_ ?_ ?_ ?_ ?_ ?_;all_goals simp[hj2]
 rw[if_neg c1]at hj2;have he:xb.ins=[]:=LO (by omega);refine au (by simp[he]) ?_;simp;refine sw _ ?_ ?_ ?_ ?_ ?_ ?_ ?_ ?_;all_goals simp[hj2]
def mO (X:Own) (D:Nat) (ps:Int) (vo:Value) (vp:Nat->Value) (pin:Nat->Nat->Value) (S:Nat->Nat->Bool) (l:List BlkD):Own:=(fwO X vo vp pin S l).upd (3,0) (bx T.ar D (RawN.mk (n:=1) [.int .i64 ps,vo]))
section
variable {X:Own} {W:View} {h:Heap} {D:Nat} {ps:Int} {vo:Value} {vp:Nat->Value} {pin:Nat->Nat->Value} {S:Nat->Nat->Bool} {l:List BlkD} {b i:Nat}
theorem wW:(mO X D ps vo vp pin S l) (3,0)=bx T.ar D (RawN.mk (n:=1) [.int .i64 ps,vo]):=Own.af
theorem Eo:(mO X D ps vo vp pin S l) (0,0)=it T.ay vo (rows (fun b=>bkW (vp b) (nth l b)) l.length):=(Own.ab (by simp)).trans (if_pos rfl)
theorem FA(hb:b<l.length):(mO X D ps vo vp pin S l) (1,b)=it T.cE (vp b) (rows (phW (pin b) (nth l b).phis) (nth l b).phis.length):=by refine(Own.ab (by simp)).trans ?_;unfold fwO;rw[if_neg (by simp),if_pos rfl,if_pos hb]
theorem JC(hb:b<l.length)(hi:i<(nth l b).phis.length)(hS:S b i=false):(mO X D ps vo vp pin S l) (10+b,i)=it T.bI (pin b i) (nth (nth l b).phis i).ins:=by
 refine(Own.ab (by simp<;>omega)).trans ?_;unfold fwO;have e:10+b-10=b:=by omega
 rw[if_neg (by simp<;>omega),if_neg (by simp<;>omega),if_pos (by simp)];dsimp only;rw[e,if_pos ⟨hb,hi,hS⟩]
theorem nu(w:Owns W h (mO X D ps vo vp pin S l)):ao (vw h) ⟨D,1,none⟩=some vo:=w.raw (k:=(3,0)) wW (i:=1) (by decide)
theorem KK(w:Owns W h (mO X D ps vo vp pin S l)):Un.ev (vw h) (.al 2) (.pointer (some ⟨D,0,none⟩))=some (.agg #[.int .i64 ps,vo]):=w.dI (k:=(3,0)) (n:=1) wW
theorem sA(w:Owns W h (mO X D ps vo vp pin S l)):SlRd (vw h) vo (rows (fun b=>bkW (vp b) (nth l b)) l.length):=w.now Eo
theorem Fh(w:Owns W h (mO X D ps vo vp pin S l)){K:View}:Un.ev K .len vo=some (.int .i64 l.length):=by rw[(sA w).len,fP]
theorem rX(w:Owns W h (mO X D ps vo vp pin S l))(hb:b<l.length):Bn.ev (.idx 6) vo (.int .i64 b)=some (.pointer (some ((slA vo).add (b*6)))):=(sA w).idxn (N:=6) rfl (M3 _) (by simp;omega)
theorem F7(w:Owns W h (mO X D ps vo vp pin S l))(hb:b<l.length):At (vw h) ((slA vo).add (b*6)) (bkW (vp b) (nth l b)):=by
 have hl:b<(rows (fun b=>bkW (vp b) (nth l b)) l.length).length:=by simpa using hb
 have a:=(sA w).at hl;rwa [dV hl]at a
theorem Ao(w:Owns W h (mO X D ps vo vp pin S l))(hb:b<l.length):ao (vw h) (((slA vo).add (b*6)).add 0)=some (vp b):=((F7 w hb).part BkW.km).raw
theorem sQ(w:Owns W h (mO X D ps vo vp pin S l))(hb:b<l.length):SlRd (vw h) (vp b) (rows (phW (pin b) (nth l b).phis) (nth l b).phis.length):=w.now (FA hb)
theorem C4(w:Owns W h (mO X D ps vo vp pin S l))(hb:b<l.length){K:View}:Un.ev K .len (vp b)=some (.int .i64 (nth l b).phis.length):=by rw[(sQ w hb).len,fP]
theorem BA(w:Owns W h (mO X D ps vo vp pin S l))(hb:b<l.length)(hi:i<(nth l b).phis.length):Bn.ev (.idx 2) (vp b) (.int .i64 i)=some (.pointer (some ((slA (vp b)).add (i*2)))):=(sQ w hb).idxn (N:=2) rfl (M3 _) (by simp;omega)
theorem FX(w:Owns W h (mO X D ps vo vp pin S l))(hb:b<l.length)(hi:i<(nth l b).phis.length):ao (vw h) (((slA (vp b)).add (i*2)).add 1)=some (pin b i):=by
 have hl:i<(rows (phW (pin b) (nth l b).phis) (nth l b).phis.length).length:=by simpa using hi
 have a:=(sQ w hb).at hl;rw[dV hl]at a;exact(a.part PhO.jr).raw
theorem wj(w:Owns W h (mO X D ps vo vp pin S l))(hb:b<l.length)(hi:i<(nth l b).phis.length)(hS:S b i=false):SlRd (vw h) (pin b i) (nth (nth l b).phis i).ins:=w.now (JC hb hi hS)
theorem BX(w:Owns W h (mO X D ps vo vp pin S l)){h':Heap}(hle:(vw h).le (vw h')):Owns (grow W h h') h' (mO X D ps vo vp pin S l):=w.ext hle
theorem jL{d:BlkD}{p:PhiD}:(cJ d i p).phis=d.phis.set i p:=rfl
variable{ins':List InD}
theorem GL{pin':Nat->Nat->Value}{S':Nat->Nat->Bool}(hb:b<l.length)(hi:i<(nth l b).phis.length)(hp : ∀c m,¬(c=b/\m=i)->pin' c m=pin c m)(hS : ∀c m,¬(c=b/\m=i)->S' c m=S c m){q:Key}(h1:q≠(10+b,i))(h2:q≠(1,b)):
  fwO X vo vp pin' S' (l.set b (cJ (nth l b) i ⟨(nth (nth l b).phis i).dst,ins'⟩)) q=fwO X vo vp pin S l q:=by
 have hset : ∀c,c<l.length->nth (l.set b (cJ (nth l b) i ⟨(nth (nth l b).phis i).dst,ins'⟩)) c=if b=c then cJ (nth l b) i ⟨(nth (nth l b).phis i).dst,ins'⟩ else nth l c:=fun c hc=>aF hc;unfold fwO;split
 ·congr 1;rw[LN];refine iK fun c hc=>?_;rw[hset c hc];split
  ·rename_i e;subst e;rfl
  rfl
 split
 ·rename_i e1 e2;rw[LN];split
  ·rename_i e3;have e4:q.2≠b:=fun e=>h2 (by rw[<-e2,<-e]);rw[hset _ e3,if_neg (fun e=>e4 e.symm)];congr 1;refine iK fun m hm=>?_;unfold phW;rw[hp _ _ (fun e=>e4 e.1)]
  rfl
 split
 ·rename_i e1 e2 e3;rw[LN];by_cases e4:q.1-10<l.length
  ·rw[hset _ e4];by_cases e5:b=q.1-10
   ·have e6:q.2≠i:=fun e=>h1 (by rw[<-e,e5,Nat.add_sub_cancel' e3]);have hc:¬(q.1-10=b/\q.2=i):=fun e=>e6 e.2
    rw[if_pos e5,jL,LN,hp _ _ hc,hS _ _ hc,<-e5];by_cases e7:q.2<(nth l b).phis.length
    ·have e8:nth ((nth l b).phis.set i ⟨(nth (nth l b).phis i).dst,ins'⟩) q.2=nth (nth l b).phis q.2:=by rw[aF e7,if_neg (fun e=>e6 e.symm)]
     rw[e8]
    rw[if_neg (fun c=>e7 c.2.1),if_neg (fun c=>e7 c.2.1)]
   have hc:¬(q.1-10=b/\q.2=i):=fun e=>e5 e.1.symm;rw[if_neg e5,hp _ _ hc,hS _ _ hc]
  rw[if_neg (fun c=>e4 c.1),if_neg (fun c=>e4 c.1)]
 rfl
theorem EU{pin':Nat->Value}(hb:b<l.length)(hi:i<(nth l b).phis.length)(hp : ∀m,m≠i->pin' m=pin b m):
  rows (phW pin' (cJ (nth l b) i ⟨(nth (nth l b).phis i).dst,ins'⟩).phis) (cJ (nth l b) i ⟨(nth (nth l b).phis i).dst,ins'⟩).phis.length=(rows (phW (pin b) (nth l b).phis) (nth l b).phis.length).set i ⟨(nth (nth l b).phis i).dst,⟨pin' i⟩⟩:=by
 rw[jL,LN];refine MJ (by simp) fun m h1 h2=>?_;rw[dV,Od];have hm:m<(nth l b).phis.length:=by simpa using h1
 unfold phW;rw[aF hm];split
 ·rename_i e;subst e;rfl
 rename_i e;rw[dV,hp m (fun c=>e c.symm)]
theorem HW(hb:b<l.length)(hi:i<(nth l b).phis.length)(hS:S b i=false)(w:Owns W h ((mO X D ps vo vp pin S l).upd (10+b,i) (it T.bI (pin b i) ins'))):Owns W h (mO X D ps vo vp pin S (l.set b (cJ (nth l b) i ⟨(nth (nth l b).phis i).dst,ins'⟩))):=by
 refine w.congr fun q=>?_;by_cases e0:q=(3,0)
 ·subst e0;rw[Own.ab (by simp<;>omega),wW,wW]
 by_cases e1:q=(10+b,i)
 ·subst e1;rw[Own.af,JC (by simpa using hb) (by rw[aF hb,if_pos rfl,jL,LN];exact hi) hS,aF hb,if_pos rfl,jL,aF hi,if_pos rfl]
 rw[Own.ab e1];by_cases e2:q=(1,b)
 ·subst e2;rw[FA (by simpa using hb),FA hb,aF hb,if_pos rfl,EU hb hi (fun _ _=>rfl)];congr 1;refine MJ (by simp) fun m h1 h2=>?_;rw[Od];split
  ·rename_i e;subst e;rw[dV];rfl
  rfl
 unfold mO;rw[Own.ab e0,Own.ab e0];exact GL hb hi (fun _ _ _=>rfl) (fun _ _ _=>rfl) e1 e2
theorem Hy{u:Value}(hb:b<l.length)(hi:i<(nth l b).phis.length)(w:Owns W h ((mO X D ps vo vp pin S l).upd (1,b) (it T.cE (vp b) ((rows (phW (pin b) (nth l b).phis) (nth l b).phis.length).set i ⟨(nth (nth l b).phis i).dst,⟨u⟩⟩)))):
  Owns W h (mO X D ps vo vp (fun c m=>if c=b/\m=i then u else pin c m) (fun c m=>if c=b/\m=i then true else S c m) (l.set b (cJ (nth l b) i ⟨(nth (nth l b).phis i).dst,ins'⟩))):=by
 refine w.sub fun q x hq=>?_;by_cases e0:q=(3,0)
 ·subst e0;rw[Own.ab (by simp),wW];rw[wW]at hq;exact hq
 by_cases e2:q=(1,b)
 ·subst e2;rw[Own.af];rw[FA (by simpa using hb),aF hb,if_pos rfl,EU (pin:=pin) hb hi (fun m hm=>if_neg (fun c=>hm c.2)),if_pos ⟨rfl,rfl⟩]at hq;exact hq
 rw[Own.ab e2];unfold mO at hq ⊢;rw[Own.ab e0]at hq ⊢;by_cases e1:q=(10+b,i)
 ·exfalso;subst e1;unfold fwO at hq;have e:10+b-10=b:=by omega
  rw[if_neg (by simp<;>omega),if_neg (by simp<;>omega),if_pos (by simp)]at hq;dsimp only at hq;rw[e,if_neg (fun c=>by have:=c.2.2;rw[if_pos ⟨rfl,rfl⟩]at this;cases this)]at hq;cases hq
 rw[GL hb hi (fun c m hc=>if_neg hc) (fun c m hc=>if_neg hc) e1 e2]at hq;exact hq
theorem FZ{t:List Int}(hb:b<l.length)(w:Owns W h ((mO X D ps vo vp pin S l).upd (0,0) (it T.ay vo ((rows (fun b=>bkW (vp b) (nth l b)) l.length).set b { bkW (vp b) (nth l b)with term:={ (nth l b).term with to:=t } })))):Owns W h (mO X D ps vo vp pin S (l.set b (gO (nth l b) t))):=by
 have hset : ∀c,c<l.length->nth (l.set b (gO (nth l b) t)) c=if b=c then gO (nth l b) t else nth l c:=fun c hc=>aF hc;have hph : ∀c,c<l.length->(nth (l.set b (gO (nth l b) t)) c).phis=(nth l c).phis:=fun c hc=>by
  rw[hset c hc];split
  ·rename_i e;subst e;rfl
  rfl
 refine w.congr fun q=>?_;by_cases e0:q=(3,0)
 ·subst e0;rw[Own.ab (by simp),wW,wW]
 by_cases e1:q=(0,0)
 ·subst e1;rw[Own.af,Eo,LN];congr 1;refine MJ (by simp) fun m h1 h2=>?_;have hm:m<l.length:=by simpa using h1
  rw[dV,Od,hset m hm];split
  ·rename_i e;subst e;rfl
  rw[dV]
 rw[Own.ab e1];unfold mO;rw[Own.ab e0,Own.ab e0];unfold fwO;rw[if_neg e1,if_neg e1,LN];split
 ·split
  ·rename_i e3;rw[hph _ e3]
  rfl
 split
 ·by_cases e4:q.1-10<l.length
  ·rw[hph _ e4]
  rw[if_neg (fun c=>e4 c.1),if_neg (fun c=>e4 c.1)]
 rfl
theorem HV{vo':Value}{t:Int}(w:Owns W h (((mO X D ps vo vp pin S l).upd (0,0) (it T.ay vo' (rows (fun b=>bkW (vp b) (nth l b)) l.length++[bkW (.slice none 0 0) (eK t)]))).upd (3,0) (bx T.ar D (RawN.mk (n:=1) [.int .i64 ps,vo'])))):
  Owns W h (mO X D ps vo' (fun c=>if c=l.length then .slice none 0 0 else vp c) pin S (l++[eK t])):=by
 refine w.nils fun q x hq=>?_;by_cases e0:q=(3,0)
 ·subst e0;rw[wW]at hq;rw[Own.af];exact .inl hq
 rw[Own.ab e0];by_cases e1:q=(0,0)
 ·subst e1;rw[Eo]at hq;rw[Own.af,<-hq];left;congr 1;rw[LH,LJ,eG];congr 1
  ·refine iK fun c hc=>?_;rw[fX hc,if_neg (by omega)]
  rw[gk,if_pos rfl]
 rw[Own.ab e1];unfold mO at hq ⊢;rw[Own.ab e0]at hq ⊢;unfold fwO at hq ⊢;rw[if_neg e1]at hq ⊢;rw[LH,LJ]at hq;split at hq
 ·rename_i e2;rw[if_pos e2];split at hq
  ·rename_i e3;by_cases e4:q.2=l.length
   ·rw[e4,gk]at hq;dsimp only at hq;rw[if_pos rfl]at hq;cases hq;exact .inr ⟨rfl,OwnT.nil (α:=PhO) _ h T.cE⟩
   rw[fX (by omega)]at hq;dsimp only at hq;rw[if_neg e4]at hq;rw[if_pos (by omega)];exact .inl hq
  cases hq
 rename_i e2;rw[if_neg e2];split at hq
 ·rename_i e3;rw[if_pos e3];split at hq
  ·rename_i e4;by_cases e5:q.1-10=l.length
   ·rw[e5,gk]at e4;exact absurd e4.2.1 (MC _)
   rw[fX (by omega)]at hq e4;rw[if_pos ⟨by omega,e4.2⟩];exact .inl hq
  cases hq
 rename_i e3;rw[if_neg e3];exact .inl hq
theorem Jh(w:Owns W h (mO X D ps vo vp pin S l))(ro : ∀b i,b<l.length->i<(nth l b).phis.length->S b i=true->SlRd W (pin b i) (nth (nth l b).phis i).ins):SlRd (vw h) vo l:=by
 refine mq (sA w) rfl (by simp) fun b g1 g2 cs hr=>?_;rw[dV]at hr;have hP:SlRd (vw h) (vp b) (nth l b).phis:=by
  refine mq (sQ w g2) rfl (by simp) fun i k1 k2 cs hr=>?_;rw[dV]at hr;have:=C6 hr (l:=(nth (nth l b).phis i).ins) (by
   show SlRd (vw h) (pin b i) _;cases hs:S b i with
   | false=>exact wj w g2 k2 hs
   | true=>exact(ro b i g2 k2 hs).mono w.wle);rw[<-ak k2];exact this
 have:=G1 hr hP;rw[<-ak g2];exact this
end
def frmS (a n:Int) (x:InD):InD:=⟨if x.frm=a then n else x.frm,x.val⟩
def phS (a n:Int) (p:PhiD):PhiD:=⟨p.dst,p.ins.map (frmS a n)⟩
def wE (a n:Int) (d:BlkD):BlkD:={ d with phis:=d.phis.map (phS a n) }
def fV (l:List BlkD) (e:Int × Int):List BlkD:=(l++[eK e.2]).set e.1.toNat (gO (nth (l++[eK e.2]) e.1.toNat) ((nth (l++[eK e.2]) e.1.toNat).term.to.map (swS e.2 l.length)))
def gK (l:List BlkD) (e:Int × Int):List BlkD:=(fV l e).set e.2.toNat (wE e.1 l.length (nth (fV l e) e.2.toNat))
def kq (d:BlkD):BlkD:={ d with phis:=d.phis.map fun p=>⟨p.dst,j9 p.ins p.ins.length⟩ }
section
variable {X:Own} {W:View} {h:Heap} {D:Nat} {ps:Int} {vo:Value} {vp:Nat->Value} {pin:Nat->Nat->Value} {l:List BlkD} {b i:Nat} {a n:Int} {Q:Post} {ρ:Env} {v1 v2 v4 v6:Value}
theorem KJ(hb:b<l.length)(hi:i<(nth l b).phis.length)(hn:I64 n)(w:Owns W h (mO X D ps vo vp pin (fun _ _=>false) l))(hρ:aZ [1,2,4,5,6,7,8,9,10,11] ρ=[1,2,4,5,6,7,8,9,10,11].zip [v1,v2,v4,.pointer (some ⟨D,0,none⟩),v6,.int .i64 a,.int .i64 b,.int .i64 n,.int .i64 i,.int .i64 0])(hQ : ∀h' y,Owns W h' (mO X D ps vo vp pin (fun _ _=>false) (l.set b (cJ (nth l b) i (phS a n (nth (nth l b).phis i)))))->Q .normal ([1,2,4,5,6,7,8,9,10,11].zip [v1,v2,v4,.pointer (some ⟨D,0,none⟩),v6,.int .i64 a,.int .i64 b,.int .i64 n,.int .i64 i,y]) h'):
  LC.wp Tryz.prog L.bH.l3.loop (dJ 4 Q) ρ h:=by
 have bd:=(wj w hb hi rfl).bound;obtain⟨p,hp⟩ : ∃p,p=nth (nth l b).phis i:=⟨_,rfl⟩;rw[<-hp]at bd hQ;have hlen : ∀j,(dq (frmS a n) p.ins j).length=p.ins.length:=fun j=>iB;obtain⟨Lj,hLj⟩ : ∃Lj:Nat->List BlkD,Lj=fun j=>l.set b (cJ (nth l b) i ⟨p.dst,dq (frmS a n) p.ins j⟩):=⟨_,rfl⟩;have hbj : ∀j,b<(Lj j).length:=fun j=>by rw[hLj];simpa using hb
 have hnb : ∀j,nth (Lj j) b=cJ (nth l b) i ⟨p.dst,dq (frmS a n) p.ins j⟩:=fun j=>by rw[hLj];dsimp only;rw[aF hb,if_pos rfl]
 have hij : ∀j,i<(nth (Lj j) b).phis.length:=fun j=>by rw[hnb,jL,LN];exact hi
 have hni : ∀j,nth (nth (Lj j) b).phis i=⟨p.dst,dq (frmS a n) p.ins j⟩:=fun j=>by rw[hnb,jL,aF hi,if_pos rfl]
 have h0:Lj 0=l:=by
  rw[hLj];dsimp only;rw[jC];have e:(⟨p.dst,p.ins⟩:PhiD)=nth (nth l b).phis i:=by rw[hp]
  rw[e];have e2:cJ (nth l b) i (nth (nth l b).phis i)=nth l b:=by unfold cJ;rw[ak hi,MT hi]
  rw[e2,ak hb,MT hb]
 have hs : ∀j x,(Lj j).set b (cJ (nth (Lj j) b) i ⟨p.dst,x⟩)=l.set b (cJ (nth l b) i ⟨p.dst,x⟩):=fun j x=>by rw[hnb,qL,hLj];dsimp only;rw[OH]
 refine aO [1,2,4,5,6,7,8,9,10,11] (fun(_:Unit) j=>[v1,v2,v4,.pointer (some ⟨D,0,none⟩),v6,.int .i64 a,.int .i64 b,.int .i64 n,.int .i64 i,.int .i64 j])
  (fun _ j h1=>Owns W h1 (mO X D ps vo vp pin (fun _ _=>false) (Lj j))) p.ins.length ()
  rfl (by omega) hρ (by rw[h0];exact w) (fun _ _=>rfl) (fun _ j h1 hk t=>?_) ?_ ?_
 ·have e:=(wj t (hbj j) (hij j) rfl).len (K:=vw h1);rw[hni,hlen]at e;simp[nu t,rX t (hbj j),Ao t (hbj j),BA t (hbj j) (hij j),FX t (hbj j) (hij j),e]
 ·rintro _ j h1 hj t K2 hK2;have sI:=wj t (hbj j) (hij j) rfl;rw[hni]at sI;have sI:SlRd (vw h1) (pin b i) (dq (frmS a n) p.ins j):=sI;have hjl:j<(dq (frmS a n) p.ins j).length:=by rw[hlen];exact hj
  have aI:=(yT sI hjl).1;rw[iC hj]at aI;have ix:=sI.idxn (N:=2) rfl (k:=.i64) (i:=j) (by omega) (by omega);rw[LY]at ix;have hsucc:=jB (g:=frmS a n) hj;simp[nu t,rX t (hbj j),Ao t (hbj j),BA t (hbj j) (hij j),FX t (hbj j) (hij j),ix,aI];refine⟨fun hc=>?_,fun hc=>?_⟩
  ·refine t.je (k:=(10+b,i)) (α:=InD) InD.mE (v:=pin b i) (l:=dq (frmS a n) p.ins j) (i:=j) (d:=n) (by rw[JC (hbj j) (hij j) rfl,hni]) (by kernel_rfl) rfl rfl hjl (dr.2 ⟨rfl,hn⟩) fun h2 t2 _=>?_;have e1:(dq (frmS a n) p.ins j)[j]'hjl=nth p.ins j:=by rw[<-ak hjl,iC hj]
   have e2:frmS a n (nth p.ins j)={ nth p.ins j with frm:=n }:=by unfold frmS;rw[if_pos hc]
   rw[e1,<-e2,hsucc]at t2;have t3:=HW (hbj j) (hij j) rfl t2;rw[hni]at t3;dsimp only at t3;rw[hs]at t3;exact hK2 () _ _ rfl rfl (by rw[hLj];exact t3)
  have e2:frmS a n (nth p.ins j)=nth p.ins j:=by unfold frmS;rw[if_neg hc]
  have e3:dq (frmS a n) p.ins (j+1)=dq (frmS a n) p.ins j:=by
   rw[<-hsucc,e2];have e1:(dq (frmS a n) p.ins j)[j]'hjl=nth p.ins j:=by rw[<-ak hjl,iC hj]
   rw[<-e1,MT]
  have e4:Lj (j+1)=Lj j:=by rw[hLj];dsimp only;rw[e3]
  exact hK2 () _ _ rfl rfl (by rw[e4];exact t)
 rintro _ h1 t;refine hQ _ _ ?_;have e:Lj p.ins.length=l.set b (cJ (nth l b) i (phS a n p)):=by rw[hLj];dsimp only;rw[kf];rfl
 rw[<-e];exact t
theorem KI(hb:b<l.length)(hn:I64 n)(w:Owns W h (mO X D ps vo vp pin (fun _ _=>false) l))(hρ:aZ [1,2,4,5,6,7,8,9,10] ρ=[1,2,4,5,6,7,8,9,10].zip [v1,v2,v4,.pointer (some ⟨D,0,none⟩),v6,.int .i64 a,.int .i64 b,.int .i64 n,.int .i64 0])(hQ : ∀h' y,Owns W h' (mO X D ps vo vp pin (fun _ _=>false) (l.set b (wE a n (nth l b))))->Q .normal ([1,2,4,5,6,7,8,9,10].zip [v1,v2,v4,.pointer (some ⟨D,0,none⟩),v6,.int .i64 a,.int .i64 b,.int .i64 n,y]) h'):
  LC.wp Tryz.prog L.bH.l2.loop (dJ 2 Q) ρ h:=by
 have bd:=(sQ w hb).bound;rw[fP]at bd;obtain⟨d,hd⟩ : ∃d,d=nth l b:=⟨_,rfl⟩;rw[<-hd]at bd hQ;obtain⟨Lj,hLj⟩ : ∃Lj:Nat->List BlkD,Lj=fun j=>l.set b { d with phis:=dq (phS a n) d.phis j }:=⟨_,rfl⟩;have hbj : ∀j,b<(Lj j).length:=fun j=>by rw[hLj];simpa using hb
 have hnb : ∀j,nth (Lj j) b={ d with phis:=dq (phS a n) d.phis j }:=fun j=>by rw[hLj];dsimp only;rw[aF hb,if_pos rfl]
 have hlen : ∀j,(nth (Lj j) b).phis.length=d.phis.length:=fun j=>by rw[hnb];exact iB
 have h0:Lj 0=l:=by rw[hLj];dsimp only;rw[jC,hd,ak hb,MT hb]
 refine aO [1,2,4,5,6,7,8,9,10] (fun(_:Unit) j=>[v1,v2,v4,.pointer (some ⟨D,0,none⟩),v6,.int .i64 a,.int .i64 b,.int .i64 n,.int .i64 j])
  (fun _ j h1=>Owns W h1 (mO X D ps vo vp pin (fun _ _=>false) (Lj j))) d.phis.length ()
  rfl (by omega) hρ (by rw[h0];exact w) (fun _ _=>rfl) (fun _ j h1 hk t=>?_) ?_ ?_
 ·simp[nu t,rX t (hbj j),Ao t (hbj j),C4 t (hbj j),hlen]
 ·rintro _ j h1 hj t K2 hK2;simp;refine KJ (hbj j) (by rw[hlen];exact hj) hn t rfl fun h2 y t2=>?_;simp;refine hK2 () _ _ rfl rfl ?_;have e:(Lj j).set b (cJ (nth (Lj j) b) j (phS a n (nth (nth (Lj j) b).phis j)))=Lj (j+1):=by rw[hnb];dsimp only;rw[iC hj];unfold cJ;dsimp only;rw[jB hj,hLj];dsimp only;rw[OH]
  rw[<-e];exact t2
 rintro _ h1 t;refine hQ _ _ ?_;have e:Lj d.phis.length=l.set b (wE a n d):=by rw[hLj];dsimp only;rw[kf];rfl
 rw[<-e];exact t
theorem G9{α:Type}[Rep α]{H:View}{v:Value}{l:List α}(hs:SlRd H v l)(hl:0<l.length){m k1 k2:Nat}:(((slA v).add m).add k1).add k2=((slA v).add m).add (k1+k2):=by
 obtain⟨x,cap,rfl,_,_,h⟩:=hs;rcases h with rfl | ⟨ad,rfl,hsp,_⟩
 ·simp at hl
 obtain⟨b,o,s⟩:=ad;simp only at hsp;subst hsp;show(((⟨b,o,none⟩:Addr).add m).add k1).add k2=((⟨b,o,none⟩:Addr).add m).add (k1+k2);simp[O9]
theorem BkW.kz:Part BkW da 2 BkW.term (fun d x=>{ d with term:=x }):=(Part.snd (Part.snd Part.all)).via (fun _=>rfl) fun _ _=>rfl
def docK (l:List BlkD) (ed:List (Int × Int)) (k:Nat):List BlkD:=(ed.take k).foldl gK l
theorem tO{e:Int × Int}:(gK l e).length=l.length+1:=by unfold gK fV;simp
variable{ed:List (Int × Int)}
theorem mU{k:Nat}(hk:k<ed.length):docK l ed (k+1)=gK (docK l ed k) (nth ed k):=by unfold docK;rw[M0,List.getElem?_eq_getElem hk,NS,ak hk];rfl
theorem zZ {ed:List (Int × Int)} : ∀{k:Nat},k<=ed.length->(docK l ed k).length=l.length+k
 | 0,_=>rfl
 | k+1,h=>by rw[mU (by omega),tO,zZ (by omega)];omega
theorem HJ{e:Int × Int}{N:Nat}(h1:1<=N)(h : ∀b,b<l.length->(nth l b).term.to.length<=N): ∀b,b<(gK l e).length->(nth (gK l e) b).term.to.length<=N:=by
 have g1 : ∀b,b<(l++[eK e.2]).length->(nth (l++[eK e.2]) b).term.to.length<=N:=fun b hb=>by
  by_cases e4:b=l.length
  ·rw[e4,gk];exact h1
  have hb':b<l.length:=by rw[LH,LJ]at hb;omega
  rw[fX hb'];exact h b hb'
 have g2 : ∀b,b<(fV l e).length->(nth (fV l e) b).term.to.length<=N:=fun b hb=>by
  unfold fV at hb ⊢;rw[LN]at hb;rw[aF hb];split
  ·rename_i e5;show(List.map _ _).length<=N;rw[L6,e5];exact g1 b hb
  exact g1 b hb
 intro b hb;unfold gK at hb ⊢;rw[LN]at hb;rw[aF hb];split
 ·rename_i e5;rw[e5];exact g2 b hb
 exact g2 b hb
theorem CN {ed:List (Int × Int)} {N:Nat} (h1:1<=N) (h : ∀b,b<l.length->(nth l b).term.to.length<=N) : ∀{k:Nat},k<=ed.length->∀b,b<(docK l ed k).length->(nth (docK l ed k) b).term.to.length<=N
 | 0,_=>h
 | k+1,hk=>by rw[mU (by omega)];exact HJ h1 (CN h1 h (by omega))
theorem Ky{W0:View}(hs:SlRd W0 v4 ed)(hed : ∀e∈ed,(0<=e.1/\e.1<l.length)/\0<=e.2/\e.2<l.length)(hln:l.length+ed.length<=512)(hto : ∀b,b<l.length->(nth l b).term.to.length<=10000)(w:Owns W0 h (mO X D ps vo vp pin (fun _ _=>false) l))(hρ:aZ [1,2,4,5,6] ρ=[1,2,4,5,6].zip [v1,v2,v4,.pointer (some ⟨D,0,none⟩),.int .i64 0])(hQ : ∀h' W vo vp y,W0.le W->Owns W h' (mO X D ps vo vp pin (fun _ _=>false) (docK l ed ed.length))->Q .normal ([1,2,4,5,6].zip [v1,v2,v4,.pointer (some ⟨D,0,none⟩),y]) h'):
  LC.wp Tryz.prog L.bH.l1.loop (dJ 0 Q) ρ h:=by
 refine aO [1,2,4,5,6] (fun(_:Unit) k=>[v1,v2,v4,.pointer (some ⟨D,0,none⟩),.int .i64 k])
  (fun _ k h1=>∃W vo vp,W0.le W/\Owns W h1 (mO X D ps vo vp pin (fun _ _=>false) (docK l ed k))) ed.length ()
  rfl (by omega) hρ ⟨W0,vo,vp,View.le_refl _,w⟩ (fun _ _=>rfl) (fun _ k h1 hk ⟨W,vo,vp,q1,q2⟩=>by simp[(hs.mono (View.le_trans q1 q2.wle)).len]) ?_ ?_
 ·rintro _ k h1 hk ⟨W1,vo1,vp1,hW1,w1⟩ K2 hK2;have hlk:=zZ (l:=l) (ed:=ed) (k:=k) (by omega);have he:=hed _ (bc hk);have hsc:=mU (l:=l) hk;have hto1:=CN (ed:=ed) (by decide) hto (k:=k) (by omega);have s1:=hs.mono (View.le_trans hW1 w1.wle);generalize docK l ed k=L at w1 hlk hsc hto1;generalize hee:nth ed k=e at he hsc;obtain⟨d0,d1⟩:=s1.H9 (View.le_refl _) hk;rw[hee]at d0 d1;obtain⟨⟨ha0,ha1⟩,hb0,hb1⟩:=he;obtain⟨a,ha⟩:=Nr ha0;obtain⟨b,hbb⟩:=Nr hb0;have d0:ao (vw h1) (((slA v4).add (k*2)).add 0)=some (.int .i64 (a:Int)):=by rw[d0,ha]
  have d1:ao (vw h1) (((slA v4).add (k*2)).add 1)=some (.int .i64 (b:Int)):=by rw[d1,hbb]
  refine aa fun y hy=>?_;simp(disch:=omega)[s1.idxn (N:=2) rfl,yV,d0];subst hy;refine aa fun y hy=>?_;simp(disch:=omega)[s1.idxn (N:=2) rfl,yV,d1];subst hy;refine aa fun y hy=>?_;simp[nu w1,Fh w1];subst hy;refine aa fun y hy=>?_;simp[nu w1];have hnI:I64 (L.length:Int):=⟨by omega,by omega⟩;refine lA (α:=Int) (X:=nothing) (ds:=[(b:Int)]) (vs:=[.int .i64 b]) rfl El.aS (by simp) ⟨mN (by omega) (by omega),trivial⟩ dg rfl (by omega) fun ut h2 q2 hsz2 hu2 hub2=>?_;have w2:=BX w1 q2
  have hu2:=hu2 (grow W1 h1 h2) dg (cM (LG _));have hW2:=aH (h':=h2) w1.wle;generalize grow W1 h1 h2=W2 at w2 hu2 hW2;refine aE (z:=.agg #[.int .i64 0,.slice none 0 0,.slice none 0 0,.int .i32 0]) (places:=[(0,1),(1,1),(2,1),(3,1)]) (vs:=[(0,.int .i64 1),(2,ut)]) (cs:=#[.int .i64 1,.slice none 0 0,ut,.int .i32 0]) (by kernel_rfl) (by kernel_rfl) (by simp) (by simp[Instr.fill,hu2.cells.1]) ?_;refine aE (z:=.agg #[.slice none 0 0,.slice none 0 0,.int .i64 0,.slice none 0 0,.slice none 0 0,.int .i32 0]) (places:=[(0,1),(1,1),(2,4)]) (vs:=[(2,.agg #[.int .i64 1,.slice none 0 0,ut,.int .i32 0])]) (cs:=#[.slice none 0 0,.slice none 0 0,.int .i64 1,.slice none 0 0,ut,.int .i32 0]) (by kernel_rfl) (by kernel_rfl) (by simp) (by rfl) ?_;refine w2.fg (k:=(0,0)) (α:=BkW) (v:=vo1) (l:=rows (fun b=>bkW (vp1 b) (nth L b)) L.length) (d:=bkW (.slice none 0 0) (eK b)) Eo El.fH rfl (FW rfl fo fo hu2 ⟨by decide,by decide⟩ (by decide)) (by simp;omega) (by simp;omega) (fun _=>rfl) (fun _=>rfl) fun u3 v3 h3 w3 _=>?_;have hv3:=(w3.cells (k:=(0,0)) Own.af).2
  refine w3.bu (k:=(3,0)) (n:=1) (i:=1) (e:=T.ar) (B:=D) (l:=[.int .i64 ps,vo1]) ((Own.ab (by simp)).trans wW) (by decide) (by kernel_rfl) rfl rfl hv3 fun h4 w4 _=>?_;have w4:=HV w4;obtain⟨L1,hL1⟩ : ∃L1,L1=L++[eK b]:=⟨_,rfl⟩;rw[<-hL1]at w4;have hl1:L1.length=L.length+1:=by rw[hL1];simp
  generalize (fun c=>if c=L.length then Value.slice none 0 0 else vp1 c)=vp2 at w4;subst hy;refine aa fun y hy=>?_;have haL:a<L1.length:=by omega
  have aB:=F7 w4 haL;obtain⟨v5,c5,s5⟩:=((aB.part BkW.kz).part da.tY).sl;have s5:SlRd (vw h4) v5 (nth L1 a).term.to:=s5;have hW4:=View.le_trans hW2 w4.wle;have htl:(nth L1 a).term.to.length<=1000000:=by
   have:a<L.length:=by omega
   rw[hL1,fX this];have:=hto1 a this;omega
  refine bF (vw h4) (View.le_refl _) ?_;simp[nu w4,rX w4 haL,c5];refine aj (by kernel_rfl) (wS s5 hnI htl) ?_;rintro u6 h6 ⟨q6,s6⟩;refine⟨q6,?_⟩;have w6:=BX w4 q6;have s6:=s6.mono (qU (W:=W2) (LG _) (View.le_refl _));have hW6:=aH (h':=h6) w4.wle;generalize grow W2 h4 h6=W6 at w6 s6 hW6;have hrl:a<(rows (fun b=>bkW (vp2 b) (nth L1 b)) L1.length).length:=by rw[fP];exact haL
  refine w6.je (k:=(0,0)) (α:=BkW) BkW.tY (v:=v3) (l:=rows (fun b=>bkW (vp2 b) (nth L1 b)) L1.length) (i:=a) (d:=(nth L1 a).term.to.map (swS b L.length)) Eo (by kernel_rfl) (by show Value.pointer (some ((((slA v3).add (a*6)).add 2).add 2))=_;rw[G9 (sA w6) (by rw[fP];omega)];rfl) rfl hrl (fy.2 s6) fun h7 w7 _=>?_;rw[dV hrl]at w7;have w7:=FZ haL w7;obtain⟨L2,hL2⟩ : ∃L2,L2=L1.set a (gO (nth L1 a) ((nth L1 a).term.to.map (swS b L.length))):=⟨_,rfl⟩;rw[<-hL2]at w7;have hl2:L2.length=L.length+1:=by rw[hL2,LN,hl1]
  subst hy;simp;refine KI (b:=b) (a:=a) (n:=(L.length:Int)) (by omega) hnI w7 rfl fun h8 y8 w8=>?_;simp;refine hK2 () _ _ rfl rfl ⟨W6,v3,vp2,View.le_trans hW1 (View.le_trans hW2 hW6),?_⟩;rw[hsc];have e1:fV L e=L2:=by unfold fV;rw[ha,hbb,hL2,hL1];simp
  have e2:gK L e=L2.set b (wE a L.length (nth L2 b)):=by unfold gK;rw[e1,ha,hbb];simp
  rw[e2];exact w8
 rintro _ h1 ⟨W1,vo1,vp1,hW1,w1⟩;exact hQ _ _ _ _ _ hW1 w1
def RoI (W:View) (pin:Nat->Nat->Value) (S:Nat->Nat->Bool) (l:List BlkD):Prop:=∀b i,b<l.length->i<(nth l b).phis.length->S b i=true->SlRd W (pin b i) (nth (nth l b).phis i).ins
def srtP (p:PhiD):PhiD:=⟨p.dst,j9 p.ins p.ins.length⟩
theorem Ks{S:Nat->Nat->Bool}{W0:View}(hb:b<l.length)(hS : ∀i,S b i=false)(hins : ∀i,i<(nth l b).phis.length->(nth (nth l b).phis i).ins.length<=1000000)(w:Owns W0 h (mO X D ps vo vp pin S l))(ro:RoI W0 pin S l)(hρ:aZ [1,2,5,12,13] ρ=[1,2,5,12,13].zip [v1,v2,.pointer (some ⟨D,0,none⟩),.int .i64 b,.int .i64 0])(hQ : ∀h' W pin' S' y,W0.le W->Owns W h' (mO X D ps vo vp pin' S' (l.set b (kq (nth l b))))->RoI W pin' S' (l.set b (kq (nth l b)))->(∀c i,c≠b->S' c i=S c i)->Q .normal ([1,2,5,12,13].zip [v1,v2,.pointer (some ⟨D,0,none⟩),.int .i64 b,y]) h'):
  LC.wp Tryz.prog L.bH.l5.loop (dJ 8 Q) ρ h:=by
 have bd:=(sQ w hb).bound;rw[fP]at bd;obtain⟨d,hd⟩ : ∃d,d=nth l b:=⟨_,rfl⟩;rw[<-hd]at bd hQ hins;obtain⟨Lj,hLj⟩ : ∃Lj:Nat->List BlkD,Lj=fun j=>l.set b { d with phis:=dq srtP d.phis j }:=⟨_,rfl⟩;have hbj : ∀j,b<(Lj j).length:=fun j=>by rw[hLj];simpa using hb
 have hnb : ∀j,nth (Lj j) b={ d with phis:=dq srtP d.phis j }:=fun j=>by rw[hLj];dsimp only;rw[aF hb,if_pos rfl]
 have hlen : ∀j,(nth (Lj j) b).phis.length=d.phis.length:=fun j=>by rw[hnb];exact iB
 have h0:Lj 0=l:=by rw[hLj];dsimp only;rw[jC,hd,ak hb,MT hb]
 refine aO [1,2,5,12,13] (fun(_:Unit) j=>[v1,v2,.pointer (some ⟨D,0,none⟩),.int .i64 b,.int .i64 j])
  (fun _ j h1=>∃W pin' S',W0.le W/\Owns W h1 (mO X D ps vo vp pin' S' (Lj j))/\RoI W pin' S' (Lj j)/\(∀c i,c≠b->S' c i=S c i)/\∀i,j<=i->S' b i=false) d.phis.length ()
  rfl (by omega) hρ ⟨W0,pin,S,View.le_refl _,by rw[h0];exact w,by rw[h0];exact ro,fun _ _ _=>rfl,fun i _=>hS i⟩ (fun _ _=>rfl) (fun _ j h1 hk ⟨W,pin',S',_,t,_⟩=>?_) ?_ ?_
 ·simp[nu t,rX t (hbj j),Ao t (hbj j),C4 t (hbj j),hlen]
 ·rintro _ j h1 hj ⟨W1,pin1,S1,hW1,t,ro1,hS1,hS2⟩ K2 hK2;have hij:j<(nth (Lj j) b).phis.length:=by rw[hlen];exact hj
  have hpj:nth (nth (Lj j) b).phis j=nth d.phis j:=by rw[hnb];exact iC hj
  have sI:=wj t (hbj j) hij (hS2 j (LG _));rw[hpj]at sI;refine bF (vw h1) (View.le_refl _) ?_;simp[nu t,rX t (hbj j),Ao t (hbj j),BA t (hbj j) hij,FX t (hbj j) hij];refine aj (by kernel_rfl) (yH sI (hins j hj)) ?_;rintro u2 h2 ⟨q2,s2⟩;refine⟨q2,?_⟩;have w2:=BX t q2;have s2:=s2.mono (qU (W:=W1) (LG _) (View.le_refl _));have hW2:=aH (h':=h2) t.wle;generalize grow W1 h1 h2=W2 at w2 s2 hW2;have hrl:j<(rows (phW (pin1 b) (nth (Lj j) b).phis) (nth (Lj j) b).phis.length).length:=by rw[fP];exact hij
  refine w2.je (k:=(1,b)) (α:=PhO) PhO.jr (v:=vp b) (l:=rows (phW (pin1 b) (nth (Lj j) b).phis) (nth (Lj j) b).phis.length) (i:=j) (d:=⟨u2⟩) (FA (hbj j)) (by kernel_rfl) rfl rfl hrl (qx.2 ⟨rfl,s2.cells.2⟩) fun h3 w3 _=>?_;rw[dV hrl]at w3;have w3:=Hy (ins':=j9 (nth d.phis j).ins (nth d.phis j).ins.length) (hbj j) hij w3;have e:(Lj j).set b (cJ (nth (Lj j) b) j ⟨(nth (nth (Lj j) b).phis j).dst,j9 (nth d.phis j).ins (nth d.phis j).ins.length⟩)=Lj (j+1):=by rw[hpj,hnb];have:(⟨(nth d.phis j).dst,j9 (nth d.phis j).ins (nth d.phis j).ins.length⟩:PhiD)=srtP (nth d.phis j):=rfl;rw[this];unfold cJ;dsimp only;rw[jB hj,hLj];dsimp only;rw[OH]
  rw[e]at w3;refine hK2 () _ _ rfl rfl ⟨W2,_,_,View.le_trans hW1 hW2,w3,fun c i hc hi hs=>?_,fun c i hc=>?_,fun i hi=>?_⟩
  ·dsimp only at hs ⊢;by_cases ec:c=b/\i=j
   ·obtain⟨rfl,rfl⟩:=ec;rw[if_pos ⟨rfl,rfl⟩];have:nth (nth (Lj (i+1)) c).phis i=srtP (nth d.phis i):=by rw[hnb];dsimp only;rw[pN hj,if_pos (Oy _)]
    rw[this];exact s2
   rw[if_neg ec]at hs ⊢;have hcj:c<(Lj j).length:=by rw[hLj]at hc ⊢;simpa using hc
   have e2:nth (nth (Lj (j+1)) c).phis i=nth (nth (Lj j) c).phis i/\(nth (Lj (j+1)) c).phis.length=(nth (Lj j) c).phis.length:=by
    by_cases e3:c=b
    ·subst e3;have hne:i≠j:=fun q=>ec ⟨rfl,q⟩;have hid:i<d.phis.length:=by rw[hlen]at hi;exact hi
     refine⟨?_,by rw[hlen,hlen]⟩;rw[hnb,hnb];dsimp only;rw[pN hid,pN hid];by_cases g:i<j
     ·rw[if_pos (by omega),if_pos g]
     rw[if_neg (by omega),if_neg g]
    have hcl:c<l.length:=by rw[hLj]at hcj;simpa using hcj
    have : ∀j,nth (Lj j) c=nth l c:=fun j=>by rw[hLj];dsimp only;rw[aF hcl,if_neg (fun q=>e3 q.symm)]
    rw[this,this];exact⟨rfl,rfl⟩
   rw[e2.1];exact(ro1 c i hcj (by rw[<-e2.2];exact hi) hs).mono hW2
  ·exact(if_neg (fun q=>hc q.1)).trans (hS1 c i hc)
  exact(if_neg (fun q=>by have:=q.2;omega)).trans (hS2 i (by omega))
 rintro _ h1 ⟨W1,pin1,S1,hW1,t,ro1,hS1,hS2⟩;have e:Lj d.phis.length=l.set b (kq d):=by rw[hLj];dsimp only;rw[kf];rfl
 rw[e]at t ro1;exact hQ _ _ _ _ _ hW1 t ro1 hS1
theorem KH{W0:View}(hins : ∀b,b<l.length->∀i,i<(nth l b).phis.length->(nth (nth l b).phis i).ins.length<=1000000)(w:Owns W0 h (mO X D ps vo vp pin (fun _ _=>false) l))(hρ:aZ [1,2,5,12] ρ=[1,2,5,12].zip [v1,v2,.pointer (some ⟨D,0,none⟩),.int .i64 0])(hQ : ∀h' W pin' S' y,W0.le W->Owns W h' (mO X D ps vo vp pin' S' (l.map kq))->RoI W pin' S' (l.map kq)->Q .normal ([1,2,5,12].zip [v1,v2,.pointer (some ⟨D,0,none⟩),y]) h'):
  LC.wp Tryz.prog L.bH.l4.loop (dJ 6 Q) ρ h:=by
 have bd:=(sA w).bound;rw[fP]at bd;have hlen : ∀k,(dq kq l k).length=l.length:=fun k=>iB;have ro0:RoI W0 pin (fun _ _=>false) (dq kq l 0):=fun b i _ _ hs=>by cases hs
 refine aO [1,2,5,12] (fun(_:Unit) b=>[v1,v2,.pointer (some ⟨D,0,none⟩),.int .i64 b])
  (fun _ b h1=>∃W pin' S',W0.le W/\Owns W h1 (mO X D ps vo vp pin' S' (dq kq l b))/\RoI W pin' S' (dq kq l b)/\∀c i,b<=c->S' c i=false) l.length ()
  rfl (by omega) hρ ⟨W0,pin,fun _ _=>false,View.le_refl _,by rw[jC];exact w,ro0,fun _ _ _=>rfl⟩ (fun _ _=>rfl) (fun _ b h1 hk ⟨W,pin',S',_,t,_⟩=>?_) ?_ ?_
 ·simp[nu t,Fh t,hlen]
 ·rintro _ b h1 hb ⟨W1,pin1,S1,hW1,t,ro1,hS1⟩ K2 hK2;have hb':b<(dq kq l b).length:=by rw[hlen];exact hb
  have hcur:nth (dq kq l b) b=nth l b:=iC hb;simp;refine Ks hb' (fun i=>hS1 b i (LG _)) (by rw[hcur];exact hins b hb) t ro1 rfl fun h2 W2 pin2 S2 y2 hW2 w2 ro2 hS2=>?_;rw[hcur,jB hb]at w2 ro2;simp;exact hK2 () _ _ rfl rfl ⟨W2,pin2,S2,View.le_trans hW1 hW2,w2,ro2,fun c i hc=>by rw[hS2 c i (by omega)];exact hS1 c i (by omega)⟩
 rintro _ h1 ⟨W1,pin1,S1,hW1,t,ro1,hS1⟩;rw[kf]at t ro1;exact hQ _ _ _ _ _ hW1 t ro1
theorem Gn{e:Int × Int}{N:Nat}(h : ∀b,b<l.length->∀i,i<(nth l b).phis.length->(nth (nth l b).phis i).ins.length<=N): ∀b,b<(gK l e).length->∀i,i<(nth (gK l e) b).phis.length->(nth (nth (gK l e) b).phis i).ins.length<=N:=by
 have g1 : ∀b,b<(l++[eK e.2]).length->∀i,i<(nth (l++[eK e.2]) b).phis.length->(nth (nth (l++[eK e.2]) b).phis i).ins.length<=N:=fun b hb=>by
  by_cases e4:b=l.length
  ·rw[e4,gk];exact fun i hi=>absurd hi (MC _)
  have hb':b<l.length:=by rw[LH,LJ]at hb;omega
  rw[fX hb'];exact h b hb'
 have g2 : ∀b,b<(fV l e).length->∀i,i<(nth (fV l e) b).phis.length->(nth (nth (fV l e) b).phis i).ins.length<=N:=fun b hb=>by
  unfold fV at hb ⊢;rw[LN]at hb;rw[aF hb];split
  ·rename_i e5;rw[e5];exact g1 b hb
  exact g1 b hb
 intro b hb;unfold gK at hb ⊢;rw[LN]at hb;rw[aF hb];split
 ·rename_i e5;rw[e5];intro i hi;have hi:i<((nth (fV l e) b).phis.map (phS e.1 l.length)).length:=hi;show(nth ((nth (fV l e) b).phis.map (phS e.1 l.length)) i).ins.length<=N;rw[ak hi,NC];have hi2:i<(nth (fV l e) b).phis.length:=by simpa using hi
  show(List.map _ _).length<=N;rw[L6,<-ak hi2];exact g2 b hb i hi2
 exact g2 b hb
theorem AB {ed:List (Int × Int)} {N:Nat} (h : ∀b,b<l.length->∀i,i<(nth l b).phis.length->(nth (nth l b).phis i).ins.length<=N) : ∀{k:Nat},k<=ed.length->∀b,b<(docK l ed k).length->∀i,i<(nth (docK l ed k) b).phis.length->(nth (nth (docK l ed k) b).phis i).ins.length<=N
 | 0,_=>h
 | k+1,hk=>by rw[mU (by omega)];exact Gn (AB h (by omega))
end
section
variable {f:an} {ed:List (Int × Int)}
theorem nC{f:an}{b x:Int}(hb:0<=b/\b<f.blocks.length):x∈bf f b↔eH (ofG f.blocks) x b=true:=by
 rw[mP,et];constructor
 ·rintro⟨h1,h2⟩;exact⟨by omega,h2⟩
 rintro⟨h1,h2⟩;exact⟨by omega,h2⟩
theorem lY{a:Nat}(ha:a<f.blocks.length):(nth (onE ed f).blocks a).phis=(nth f.blocks a).phis.map (phE ed f.blocks.length a):=by rw[nL ha];rfl
theorem kG{a:Nat}(ha:a<f.blocks.length):(nth (onE ed f).blocks a).ins=(nth f.blocks a).ins:=by rw[nL ha];rfl
theorem vu{a:Nat}(ha:a<f.blocks.length):(nth (onE ed f).blocks a).term=tmE ed f.blocks.length a (nth f.blocks a).term:=by rw[nL ha];rfl
theorem uw{a i:Nat}(ha:a<f.blocks.length)(hi:i<(nth f.blocks a).phis.length):nth (nth (onE ed f).blocks a).phis i=phE ed f.blocks.length a (nth (nth f.blocks a).phis i):=by rw[lY ha,ak (by rw[L6];exact hi),NC,ak hi]
structure Ce (f g:an) (t t':Th):Prop where
 mem:t'∈aL g
 blk:t'.blk=t.blk
 place:t'.place=t.place
 mks:t'.mks=t.mks
 tks:t'.tks.Perm t.tks
theorem A4{n:Nat}{a:Int}{p:PhiD}:((phE ed n a p).ins.map InD.val).Perm (p.ins.map InD.val):=by have:=(mR (l:=p.ins.map (frmE ed n a))).map InD.val;rw[N4]at this;exact this
theorem yJ{a i:Nat}(ha:a<f.blocks.length)(hi:i<(nth f.blocks a).phis.length):(phiT (onE ed f) a i).mks=(phiT f a i).mks:=by show[(nth (nth (onE ed f).blocks a).phis i).dst]=[(nth (nth f.blocks a).phis i).dst];rw[uw ha hi];rfl
theorem pb{a i:Nat}(ha:a<f.blocks.length):insT (onE ed f) a i=insT f a i:=by unfold insT;rw[kG ha]
theorem mQ{a:Nat}(ha:a<f.blocks.length):endT (onE ed f) a=endT f a:=by unfold endT;rw[kG ha,vu ha];rfl
theorem C5{k:Nat}(hk:k<ed.length):endT (onE ed f) (f.blocks.length+k)=⟨((f.blocks.length+k:Nat):Int),0,[],[]⟩:=by unfold endT;rw[kK hk];rfl
theorem I0{t:Th}(ht:t∈aL f): ∃t',Ce f (onE ed f) t t':=by
 obtain⟨c,hc,h⟩:=dX.1 ht;have hlt:c<(onE ed f).blocks.length:=by rw[eO];omega
 rcases eN.1 h with⟨i,hi,rfl⟩ | ⟨i,hi,rfl⟩ | rfl
 ·refine⟨phiT (onE ed f) c i,dX.2 ⟨c,hlt,eN.2 (.inl ⟨i,by rw[lY hc,L6];exact hi,rfl⟩)⟩,rfl,rfl,yJ hc hi,?_⟩;show((nth (nth (onE ed f).blocks c).phis i).ins.map InD.val).Perm _;rw[uw hc hi];exact A4
 ·exact⟨insT (onE ed f) c i,dX.2 ⟨c,hlt,eN.2 (.inr (.inl ⟨i,by rw[kG hc];exact hi,rfl⟩))⟩,rfl,rfl,by rw[pb hc],by rw[pb hc]⟩
 exact⟨endT (onE ed f) c,dX.2 ⟨c,hlt,eN.2 (.inr (.inr rfl))⟩,by rw[mQ hc],by rw[mQ hc],by rw[mQ hc],by rw[mQ hc]⟩
theorem He{t':Th}(ht:t'∈aL (onE ed f)):(∃t∈aL f,Ce f (onE ed f) t t')\/∃k,k<ed.length/\t'=⟨((f.blocks.length+k:Nat):Int),0,[],[]⟩:=by
 obtain⟨c,hc,h⟩:=dX.1 ht;rw[eO]at hc;rcases LI c f.blocks.length with l | l
 ·rcases eN.1 h with⟨i,hi,rfl⟩ | ⟨i,hi,rfl⟩ | rfl
  ·rw[lY l,L6]at hi;refine .inl ⟨phiT f c i,dX.2 ⟨c,l,eN.2 (.inl ⟨i,hi,rfl⟩)⟩,ht,rfl,rfl,yJ l hi,?_⟩;show((nth (nth (onE ed f).blocks c).phis i).ins.map InD.val).Perm _;rw[uw l hi];exact A4
  ·rw[kG l]at hi;rw[pb l]at ht ⊢;exact .inl ⟨insT f c i,dX.2 ⟨c,l,eN.2 (.inr (.inl ⟨i,hi,rfl⟩))⟩,ht,rfl,rfl,rfl,.refl _⟩
  rw[mQ l]at ht ⊢;exact .inl ⟨endT f c,dX.2 ⟨c,l,eN.2 (.inr (.inr rfl))⟩,ht,rfl,rfl,rfl,.refl _⟩
 obtain⟨k,rfl⟩ : ∃k,c=f.blocks.length+k:=⟨c-f.blocks.length,by omega⟩;have hk:k<ed.length:=by omega
 refine .inr ⟨k,hk,?_⟩;rcases eN.1 h with⟨i,hi,rfl⟩ | ⟨i,hi,rfl⟩ | rfl
 ·rw[kK hk]at hi;exact absurd hi (MC _)
 ·rw[kK hk]at hi;exact absurd hi (MC _)
 exact C5 hk
theorem qC {α β:Type} {x y:α->List β} : ∀{l:List α},(∀a∈l,x a=y a)->l.flatMap x=l.flatMap y
 | [],_=>rfl
 | a::l,h=>by rw[NU,NU,h a (LR ..),qC fun b hb=>h b (LS _ hb)]
theorem Eb{c:Nat}(hc:c<f.blocks.length):(thB (onE ed f) c).flatMap Th.mks=(thB f c).flatMap Th.mks:=by unfold thB;rw[lY hc,kG hc,L6];simp only[NX,OZ];unfold rows;rw[Oz,Oz,Oz,Oz,qC (x:=fun i=>(phiT (onE ed f) c i).mks) (y:=fun i=>(phiT f c i).mks) fun i h=>yJ hc (M7.1 h),qC (x:=fun i=>(insT (onE ed f) c i).mks) (y:=fun i=>(insT f c i).mks) fun i h=>by rw[pb hc],mQ hc]
theorem Df : ∀{n:Nat},n<=f.blocks.length->(thTo (onE ed f) n).flatMap Th.mks=(thTo f n).flatMap Th.mks
 | 0,_=>rfl
 | n+1,h=>by rw[iE,iE,NX,NX,Df (by omega),Eb (by omega)]
theorem C1 : ∀{k:Nat},k<=ed.length->(thTo (onE ed f) (f.blocks.length+k)).flatMap Th.mks=(thTo f f.blocks.length).flatMap Th.mks
 | 0,_=>Df (LG _)
 | k+1,h=>by
  have e:thB (onE ed f) (f.blocks.length+k)=[endT (onE ed f) (f.blocks.length+k)]:=by unfold thB;rw[kK (by omega)];rfl
  rw[<-Nat.add_assoc,iE,NX,C1 (by omega),e,C5 (by omega)];simp
theorem HC:nV (aL (onE ed f))=nV (aL f):=by unfold nV aL;rw[eO,C1 (LG _)]
theorem CD : ∀{n:Nat},n<=f.blocks.length->iu (onE ed f) n=iu f n+ed.length
 | 0,_=>eO
 | n+1,h=>by show iu (onE ed f) n+_+_=iu f n+_+_+_;rw[CD (by omega),lY (by omega),kG (by omega),L6];omega
theorem Dh : ∀{k:Nat},k<=ed.length->iu (onE ed f) (f.blocks.length+k)=iu f f.blocks.length+ed.length
 | 0,_=>CD (LG _)
 | k+1,h=>by show iu (onE ed f) (f.blocks.length+k)+(nth (onE ed f).blocks (f.blocks.length+k)).phis.length+(nth (onE ed f).blocks (f.blocks.length+k)).ins.length=_;rw[Dh (by omega),kK (by omega)];rfl
theorem gL.BP(w:gL f ed){v c p:Int}(hc:0<=c/\c<f.blocks.length)(h:lu f v c p):lu (onE ed f) v c p:=by
 rcases h with h | ⟨t,ht,hv,h⟩
 ·exact .inl h
 obtain⟨t',ct⟩:=I0 (ed:=ed) ht;have hat:=me ht;refine .inr ⟨t',ct.mem,by rw[ct.mks];exact hv,?_⟩;rw[ct.blk,ct.place];rcases h with h | ⟨h1,h2⟩
 ·exact .inl h
 exact .inr ⟨h1,fun r=>h2 ((H2 w hat.2 (by omega)).1 r)⟩
theorem gL.Ib(w:gL f ed){v p q:Int}{k:Nat}(hk:k<ed.length)(h:lu f v (nth ed k).1 p):lu (onE ed f) v ((f.blocks.length+k:Nat):Int) q:=by
 have hr:=w.rng hk;rcases h with h | ⟨t,ht,hv,h⟩
 ·exact .inl h
 obtain⟨t',ct⟩:=I0 (ed:=ed) ht;have hat:=me ht;refine .inr ⟨t',ct.mem,by rw[ct.mks];exact hv,?_⟩;rw[ct.blk,ct.place];refine .inr ⟨by omega,fun r=>?_⟩;rw[LY]at r;have r2:=(CP w r).2 k hk rfl;rcases h with⟨h1,_⟩ | ⟨_,h2⟩
 ·have:=r2.ne;omega
 exact h2 r2
theorem gL.may(w:gL f ed)(mb:ke f)(hn:f.blocks.length+ed.length<=512)(hc:iu f f.blocks.length+ed.length<=4096):ke (onE ed f):=by
 have hb0:=mb.blocks.1;have hto1 : ∀k,k<ed.length->1<=(nth ed k).2:=fun k hk=>by have h:=w.hed _ (bc hk);rw[et]at h;have:=(mb.endG (b:=(nth ed k).1.toNat) (by omega)).2 _ h.2;omega
 refine⟨mb.params,by rw[eO];omega,by rw[eO,Dh (LG _)];exact hc,fun t ht=>?_,by rw[HC];exact mb.nodup,fun b hb=>?_,fun t ht hp v hv=>?_,fun b i hb hi=>?_⟩
 ·obtain⟨c,hc,h⟩:=dX.1 ht;rw[eO]at hc;rcases LI c f.blocks.length with l | l
  ·rcases eN.1 h with⟨i,hi,rfl⟩ | ⟨i,hi,rfl⟩ | rfl
   ·rw[lY l,L6]at hi;refine EG fun n hn=>?_;rw[yJ l hi]at hn;exact(mb.phiG l hi).mks n hn
   ·rw[kG l]at hi;have gd:=mb.insG l hi;refine Gl (by rw[kG l];exact hi) (by rw[kG l];exact gd.2) fun n hn=>?_;rw[pb l]at hn;exact gd.1.mks n hn
   have gd:=mb.endG l;refine zN ?_ fun n hn=>?_
   ·rw[vu l];have:=gd.1;unfold jG at this ⊢;unfold tmE;dsimp only;rw[L6];exact this
   rw[vu l]at hn;obtain⟨t,ht,rfl⟩:=MR.1 hn;have:=gd.2 t ht;rw[eO];unfold toE;cases hp:putE ed f.blocks.length c t with
   | none=>rw[Nd];omega
   | some q=>have:=jt hp;rw[Nf];omega
  obtain⟨k,rfl⟩ : ∃k,c=f.blocks.length+k:=⟨c-f.blocks.length,by omega⟩;have hk:k<ed.length:=by omega
  have hb:=kK (f:=f) hk;rcases eN.1 h with⟨i,hi,rfl⟩ | ⟨i,hi,rfl⟩ | rfl
  ·rw[hb]at hi;exact absurd hi (MC _)
  ·rw[hb]at hi;exact absurd hi (MC _)
  refine zN (by rw[hb];rfl) fun n hn=>?_;rw[hb]at hn;obtain rfl:=LM.1 hn;have:=w.rng hk;have:=hto1 k hk;rw[eO];omega
 ·rw[eO]at hb;rcases LI b f.blocks.length with l | l
  ·exact EO w (by omega) (mb.way b l)
  obtain⟨k,rfl⟩ : ∃k,b=f.blocks.length+k:=⟨b-f.blocks.length,by omega⟩;have hk:k<ed.length:=by omega
  have hr:=w.rng hk;have h1:=EO w (wo:=-1) (by omega) (mb.way (nth ed k).1.toNat (by omega));exact .step h1 ((zi w (by omega) hk).2 (by omega)) (by omega)
 ·rcases He ht with⟨t0,ht0,ce⟩ | ⟨k,hk,rfl⟩
  ·have:=mb.takes t0 ht0 (by rw[<-ce.place];exact hp) v (ce.tks.mem_iff.1 hv);rw[ce.blk,ce.place];exact w.BP (me ht0) this
  cases hv
 rw[eO]at hb;rcases LI b f.blocks.length with l | l
 ·rw[lY l,L6]at hi;rw[uw l hi];obtain⟨k1,k2,k3⟩:=mb.phi b i l hi;generalize nth (nth f.blocks b).phis i=p at k2 k3;have hfr : ∀x∈p.ins,0<=x.frm/\x.frm<f.blocks.length:=fun x hx=>by
   have:x.frm∈bf f b:=by rw[<-k2];exact Nu hx
   exact(mP.1 this).1
  have hnd0:(p.ins.map InD.frm).Nodup:=by rw[k2];exact rI.imp fun h=>Int.ne_of_lt h
  have hnd:=qz (E:=ed) (n:=f.blocks.length) (b:=b) hnd0 hfr;have hpm:=mR (l:=p.ins.map (frmE ed f.blocks.length b));refine⟨k1,?_,fun q hq=>?_⟩
  ·refine OU (le:=fun a b:Int=>a<=b) (fun a b _ _ h1 h2=>by omega) (NT.2 qt) (rI.imp fun h=>Int.le_of_lt h) ((hpm.map InD.frm).trans ?_);refine(List.perm_ext_iff_of_nodup hnd (rI.imp fun h=>Int.ne_of_lt h)).2 fun x=>?_;rw[nC (by rw[eO];omega),N4,MR];constructor
   ·rintro⟨y,hy,rfl⟩;have ye:eH (ofG f.blocks) y.frm b=true:=(nC (by omega)).1 (by rw[<-k2];exact Nu hy);have yr:=hfr y hy;show eH _ ((putE ed f.blocks.length y.frm b).getD y.frm) b=true;by_cases hm:(y.frm,(b:Int))∈ed
    ·obtain⟨k,hk,e⟩:=LQ hm;have e1:nth ed k=(y.frm,(b:Int)):=by rw[ak hk,e]
     have:=yp w hk;rw[e1]at this;rw[this,Nf];exact(qQ w hk).2 (by rw[e1])
    have:putE ed f.blocks.length y.frm b=none:=by unfold putE;rw[if_neg hm]
    rw[this,Nd];have h:=(rA w (a:=y.frm.toNat) (b:=b) (by omega) l).2;rw[LX yr.1]at h;exact h ⟨ye,hm⟩
   intro he;have hr:=(et.1 he).1;rw[eO]at hr;obtain⟨z,rfl⟩:=Nr hr.1;rcases LI z f.blocks.length with lz | lz
   ·obtain⟨h1,h2⟩:=(rA w lz l).1 he;have:=(nC (f:=f) (b:=b) (by omega)).2 h1;rw[<-k2]at this;obtain⟨y,hy,e⟩:=MR.1 this;refine⟨y,hy,?_⟩;show(putE ed f.blocks.length y.frm b).getD y.frm=_;have:putE ed f.blocks.length y.frm b=none:=by unfold putE;rw[e,if_neg h2]
    rw[this,Nd,e]
   obtain⟨k,rfl⟩ : ∃k,z=f.blocks.length+k:=⟨z-f.blocks.length,by omega⟩;have hk:k<ed.length:=by omega
   have e2:=(qQ w hk).1 he;have h1:=w.hed _ (bc hk);rw[e2]at h1;have:=(nC (f:=f) (b:=b) (by omega)).2 h1;rw[<-k2]at this;obtain⟨y,hy,e⟩:=MR.1 this;refine⟨y,hy,?_⟩;show(putE ed f.blocks.length y.frm b).getD y.frm=_;have:=yp w hk;rw[e2]at this;rw[e,this,Nf];omega
  obtain⟨x,hx,rfl⟩:=MR.1 (hpm.mem_iff.1 hq);have hs:=k3 x hx;have hxr:=hfr x hx;show lu _ x.val ((putE ed f.blocks.length x.frm b).getD x.frm) _;cases hp:putE ed f.blocks.length x.frm b with
  | none=>
   rw[Nd];have e:nF (onE ed f) ((frmE ed f.blocks.length b x).frm)=nF f x.frm:=by unfold frmE;dsimp only;rw[hp,Nd];unfold nF;rw[kG (by omega)]
   rw[e];exact w.BP hxr hs
  | some q=>
   rw[Nf];have h:=jt hp;obtain⟨k,hk⟩ : ∃k:Nat,q=((f.blocks.length+k:Nat):Int):=⟨(q-f.blocks.length).toNat,by omega⟩;subst hk;have hkl:k<ed.length:=by omega
   unfold putE at hp;rw[if_pos h.2.2]at hp;have hq2:=Option.some.inj hp;have hlt:=NF.2 h.2.2;have e1:k=ed.idxOf (x.frm,(b:Int)):=by omega
   have e2:(nth ed k).1=x.frm:=by rw[ak hkl];have:=NO hlt;subst e1;rw[this]
   exact w.Ib hkl (by rw[e2];exact hs)
 obtain⟨k,rfl⟩ : ∃k,b=f.blocks.length+k:=⟨b-f.blocks.length,by omega⟩;rw[kK (by omega)]at hi;exact absurd hi (MC _)
end
theorem Ct{g:Gr}{a b:Int}{vg:Value}{h:Heap}(hg:SlRd (vw h) vg g):
  az Tryz.prog N.ey #[vg,.int .i64 a,.int .i64 b] h (fun v h'=>v = .bool (eH g a b)/\h'=h):=by
 refine aq (args:=[vg,.int .i64 a,.int .i64 b]) follows F.ey E.ey (LD (by kernel_rfl)) fun K hK=>?_;have bg:=hg.bound;by_cases hin:0<=a/\a<g.length/\0<=b/\b<g.length
 ·obtain⟨h1,h2,h3,h4⟩:=hin;obtain⟨i,rfl⟩:=Nr h1;obtain⟨rv,hrv⟩:=hg.rows;obtain⟨hc,hr⟩:=hrv i (by omega);have br:=hr.bound;have hspec:eH g i b=(nth g i).contains b:=by simp[eH,h2,h3,h4]
  rw[hspec]at hK;simp(disch:=omega)[L.ey,hg.len,Int.not_lt.2 h1,Int.not_le.2 h2,Int.not_lt.2 h3,Int.not_le.2 h4];refine fN [0,1,2,6,7] (fun n ρ h'=>∃k:Nat,k<=(nth g i).length/\ρ=[(0,vg),(1,.int .i64 i),(2,.int .i64 b),(6,.bool false),(7,.int .i64 k)]/\h'=h/\n=(nth g i).length-k/\∀j,j<k->nth (nth g i) j≠b) (nth g i).length ⟨0,by omega,rfl,rfl,rfl,by intro j hj;omega⟩ ?_;rintro n ρ h' ⟨k,hk,rfl,rfl,rfl,hpre⟩ K2 hK2;by_cases hlt:k<(nth g i).length
  ·simp(disch:=omega)[L.ey.l1,hg.len,hg.idx1 rfl,hc _ (View.le_refl _),hr.len,hlt,hr.idx1 rfl,hr.int (View.le_refl _)];refine⟨fun he=>hK _ _ ⟨?_,rfl⟩,fun he=>hK2 _ _ _ ?_ ⟨k+1,hlt,rfl,rfl,rfl,fun j hj=>?_⟩⟩
   ·subst he;simpa using bc hlt
   ·omega
   rcases LI j k with h | h
   ·exact hpre j h
   have:j=k:=by omega
   subst this;exact he
  simp(disch:=omega)[L.ey.l1,hg.len,hg.idx1 rfl,hc _ (View.le_refl _),hr.len,hlt];refine hK _ _ ⟨?_,rfl⟩;have:k=(nth g i).length:=by omega
  subst this;simp only[Value.bool.injEq];refine(MN.2 fun hm=>?_).symm;simp only[List.contains_iff_mem]at hm;obtain⟨j,hj,e⟩:=LQ hm;exact hpre j hj (by rw[ak hj];exact e)
 have hspec:eH g a b=false:=by simp[eH];omega
 rw[hspec]at hK;have hc:(((a<0\/(g.length:Int)<=a)\/b<0)\/(g.length:Int)<=b):=by omega
 have hd:(decide (a<0)||decide ((g.length:Int)<=a)||decide (b<0)||decide ((g.length:Int)<=b))=true:=by simpa[or_assoc]using hc
 simp(disch:=omega)[L.ey,hg.len,hd];exact hK _ _ ⟨rfl,rfl⟩
theorem G6{g:Gr}{a:Int}{vg:Value}{h:Heap}(hg:SlRd (vw h) vg g)(hs:g.length<=1000000):
  az Tryz.prog N.fJ #[vg,.int .i64 a] h (fun v h'=>(vw h).le (vw h')/\SlRd (fresh h h') v (dC g a)):=by
 refine aq (args:=[vg,.int .i64 a]) follows F.fJ E.fJ (LD (by kernel_rfl)) fun K hK=>?_;simp[L.fJ];refine aO [0,1,5,6] (fun(v:Value) k=>[vg,.int .i64 a,v,.int .i64 k]) (fun v k h1=>Mine nothing h h1 nothing 3 v (sift (fun b=>eH g a b) (fun b=>(b:Int)) k)) g.length (.slice none 0 0)
  rfl (by omega) rfl (Mine.start (fun _ _ h=>by cases h)) (fun _ _=>rfl) (fun v k h1 hk m=>by simp[hg.len]) ?_ ?_
 ·intro v k h1 hlt m K2 hK2;simp;refine aj (by kernel_rfl) (Ct (hg.mono m.old)) ?_;rintro _ _ ⟨rfl,rfl⟩;simp[eV];refine⟨fun he=>?_,fun he=>hK2 v _ _ rfl rfl (by rw[hZ he];exact m)⟩;have:=ij (p:=fun b=>eH g a b) (x:=fun b=>(b:Int)) k;refine m.push El.aS (by simp<;>rfl) (mN (by omega) (by omega)) (by omega) (by omega) (fun _=>by simp) (fun _=>by simp) fun u v' h3 m'=>hK2 v' _ _ rfl rfl (by rw[jk he];exact m')
 intro v h1 m;simp;exact hK _ _ ⟨m.old,m.fresh⟩
theorem Dx{g:Gr}{vg:Value}{h:Heap}(hg:SlRd (vw h) vg g)(hs:g.length<=1000000):
  az Tryz.prog N.dU #[vg] h (fun v h'=>(vw h).le (vw h')/\SlRd (fresh h h') v (fT g)):=by
 refine aq (args:=[vg]) follows F.dU E.dU (LD (by kernel_rfl)) fun K hK=>?_;simp[L.dU];refine aO [0,3,4] (fun(s:Value × View) k=>[vg,s.1,.int .i64 k]) (fun s k h1=>Mine nothing h h1 s.2 T.aS s.1 (rows (fun b=>sift (fun a=>eH g a b) (fun a=>(a:Int)) g.length) k)) g.length (.slice none 0 0,nothing)
  rfl (by omega) rfl (Mine.start (fun _ _ h=>by cases h)) (fun _ _=>rfl) (fun v k h1 hk m=>by simp[hg.len]) ?_ ?_
 ·rintro⟨v,W⟩ b h1 hlt m K2 hK2;simp;refine aO [0,3,4,5,6] (fun(r:Value) a=>[vg,v,.int .i64 b,r,.int .i64 a]) (fun r a h2=>Mine nothing h1 h2 nothing 3 r (sift (fun a=>eH g a b) (fun a=>(a:Int)) a)) g.length (.slice none 0 0)
   rfl (by omega) rfl (Mine.start (fun _ _ h=>by cases h)) (fun _ _=>rfl) (fun v k h1 hk m=>by simp[hg.len]) ?_ ?_
  ·intro r a h2 hlt2 m2 K3 hK3;simp;refine aj (by kernel_rfl) (Ct (hg.mono (View.le_trans m.old m2.old))) ?_;rintro _ _ ⟨rfl,rfl⟩;simp[eV];refine⟨fun he=>?_,fun he=>hK3 r _ _ rfl rfl (by rw[hZ he];exact m2)⟩;have:=ij (p:=fun a=>eH g a b) (x:=fun b=>(b:Int)) a;refine m2.push El.aS (by simp<;>rfl) (mN (by omega) (by omega)) (by omega) (by omega) (fun _=>by simp) (fun _=>by simp) fun u v' h3 m'=>hK3 v' _ _ rfl rfl (by rw[jk he];exact m')
  intro r h2 m2;simp;have mm:=m.ext m2.old;refine mm.push El.dh (by simp<;>rfl) (fy.2 (m2.fresh.mono (eC _ _ _))) (by simp;omega) (by simp;omega) (fun _=>by simp) (fun _=>by simp) fun u v' h3 m'=>hK2 (v',_) _ _ rfl rfl (by rw[eG];exact m')
 rintro⟨v,W⟩ h1 m;simp;exact hK _ _ ⟨m.old,m.fresh⟩
theorem wG{g:Gr}{vg:Value}{h:Heap}(hg:SlRd (vw h) vg g)(hs:g.length<=1000):
  az Tryz.prog N.cQ #[vg] h (fun v h'=>(vw h).le (vw h')/\SlRd (fresh h h') v (jF g)):=by
 refine aq (args:=[vg]) follows F.cQ E.cQ (LD (by kernel_rfl)) fun K hK=>?_;simp[L.cQ];refine aj (by kernel_rfl) (Dx hg (by omega)) ?_;rintro vp h1 ⟨hle1,hp⟩;have hp:=hp.mono (iz _ _);have hg:=hg.mono hle1;have hlp:=uV (g:=g);have hup : ∀k,(up (fun a l=>l++lB g (fT g) a) k []).length<=k*g.length:=fun k=>by have:=xA (f:=fun a (l:List (Int × Int))=>l++lB g (fT g) a) (m:=g.length) (fun k x=>by have h1:(lB g (fT g) k).length<=(dC g k).length:=ij _;have h2:=rY (g:=g) (a:=k);simp only[LH];omega) k [];simpa using this
 refine aO [0,3,4,5] (fun(v:Value) k=>[vg,vp,v,.int .i64 k]) (fun v k h2=>∃W,Mine nothing h1 h2 W T.lM v (up (fun a l=>l++lB g (fT g) a) k [])) g.length (.slice none 0 0)
  rfl (by omega) rfl ⟨_,Mine.start (fun _ _ h=>by cases h)⟩ (fun _ _=>rfl) (fun v k h1 hk m=>by simp[hg.len]) ?_ ?_
 ·rintro v a h2 hlta ⟨W,m⟩ K2 hK2;simp;refine aj (by kernel_rfl) (G6 (hg.mono m.old) (by omega)) ?_;rintro r h3 ⟨hle3,hr⟩;have hr3:=hr.mono (eC W _ _);have br:=hr.bound;have m3:=m.ext hle3;refine aO [0,3,4,5,6,7] (fun(v:Value) i=>[vg,vp,v,.int .i64 a,r,.int .i64 i]) (fun v i h4=>Mine nothing h1 h4 (grow W h2 h3) T.lM v (up (fun a l=>l++lB g (fT g) a) a []++sift (tP g (fT g) a) (fun i=>((a:Int),nth (dC g a) i)) i)) (dC g a).length v
   rfl (by omega) rfl (by simpa using m3) (fun _ _=>rfl) (fun v k h1 hk m=>by simp[hr.len]) ?_ ?_
  ·intro v i h4 hlti m4 K3 hK3;obtain⟨e0,e1⟩:=Ex hlti;have hp4:=hp.mono m4.old;obtain⟨rp,hrp⟩:=hp4.rows;obtain⟨cp,rp'⟩:=hrp (nth (dC g a) i).toNat (by omega);have hr4:=hr3.mono m4.wle;simp(disch:=omega)[hr.len,hr4.idx1 rfl,hr4.int (View.le_refl _),hp4.idx1 rfl,cp _ (View.le_refl _),rp'.len,eV,-Bool.and_eq_true,-Bool.and_eq_false_imp];have hl1:=hup a;have hl2:=ij (p:=tP g (fT g) a) (x:=fun i=>((a:Int),nth (dC g a) i)) i;have hl3:=rY (g:=g) (a:=a);have hl4:a*g.length<=1000*g.length:=L7 _ (by omega);refine⟨fun he=>?_,fun he=>hK3 v _ _ rfl rfl (by rw[hZ (show tP g (fT g) a i=false from he)];exact m4)⟩;refine aE (z:=.agg #[.int .i64 0,.int .i64 0]) (places:=[(0,1),(1,1)]) (vs:=[(0,.int .i64 a),(1,.int .i64 (nth (dC g a) i))]) (cs:=#[.int .i64 a,.int .i64 (nth (dC g a) i)]) (by kernel_rfl) (by kernel_rfl) (by simp) rfl ?_;refine m4.push (d:=((a:Int),nth (dC g a) i)) El.j8 (by simp<;>rfl) (uC.2 ⟨rfl,⟨by omega,by omega⟩,by omega,by omega⟩) (by simp;omega) (by simp;omega) (fun _=>by simp) (fun _=>by simp) fun u v' h3 m'=>hK3 v' _ _ rfl rfl (by rw[jk (show tP g (fT g) a i=true from he),<-List.append_assoc];exact m')
  intro v h4 m4;simp;exact hK2 v _ _ rfl rfl ⟨_,m4⟩
 rintro v h2 ⟨W,m⟩;simp;exact hK _ _ ⟨View.le_trans hle1 m.old,m.fresh.mono (nA hle1)⟩
def ofS (l:List BlkD):Gr:=rows (fun a=>sift (fun b=>(nth l a).term.to.contains (b:Int)) (fun b=>(b:Int)) l.length) l.length
theorem ze{l:List BlkD}:(ofS l).length=l.length:=by simp[ofS]
theorem FU{l:List BlkD}{a b:Int}:eH (ofS l) a b=eH (ofG l) a b:=by
 rw[MH,et,fl,ze];constructor
 ·rintro⟨h,m⟩;refine⟨h,?_⟩;rw[ofS,eQ (by omega),kZ]at m;obtain⟨i,hi,hc,e⟩:=m;rw[<-e];simpa using hc
 rintro⟨h,m⟩;refine⟨h,?_⟩;rw[ofS,eQ (by omega),kZ];exact⟨b.toNat,by omega,by rw[LX h.2.2.1];simpa using m,LX h.2.2.1⟩
theorem yK{t:List Int}{b:Int}:yd (fun i=>decide (nth t i=b)) t.length=t.contains b:=by
 rw[MH,HZ,List.contains_iff_mem];constructor
 ·rintro⟨i,hi,h⟩;rw[decide_eq_true_eq]at h;rw[<-h];exact bc hi
 intro h;obtain⟨i,hi,e⟩:=LQ h;exact⟨i,hi,by rw[ak hi,e];simp⟩
theorem Fy{l:List BlkD}{v:Value}{p:Int}{h:Heap}(hv:SlRd (vw h) v l)(hl:l.length<=10000)(hs : ∀i,i<l.length->(nth l i).term.to.length<=10000):
  az Tryz.prog N.fK #[.agg #[.int .i64 p,v]] h (fun u h'=>(vw h).le (vw h')/\SlRd (fresh h h') u (ofS l)):=by
 refine aq (args:=[.agg #[.int .i64 p,v]]) follows F.fK E.fK (LD (by kernel_rfl)) fun K hK=>?_;dsimp only[L.fK];refine aa fun z hz=>?_;simp;refine j6 (v:=.agg #[.int .i64 p,v]) (by simp) ?_;have hle1:=bm h (.cells (Value.agg #[.int .i64 p,v]).cells T.ar);have hc1:ao (vw (h.push (.cells (Value.agg #[.int .i64 p,v]).cells T.ar))) ⟨h.size,1,none⟩=some v:=bW (c:=#[.int .i64 p,v]) (T:=T.ar) (fz:=(0,0)) (by simp[vw,Value.cells]) rfl;generalize h.push (.cells (Value.agg #[.int .i64 p,v]).cells T.ar)=h1 at hle1 hc1;have hv1:=hv.mono hle1;subst hz;refine aa fun z hz=>?_;simp;subst hz;refine aa fun z hz=>?_;simp;refine aO [1,3,4] (fun(s:Value × View) k=>[.pointer (some ⟨h.size,0,none⟩),s.1,.int .i64 k]) (fun s k h2=>Mine nothing h1 h2 s.2 T.aS s.1 (rows (fun a=>sift (fun b=>(nth l a).term.to.contains (b:Int)) (fun b=>(b:Int)) l.length) k)) l.length (.slice none 0 0,nothing)
  rfl (by omega) rfl (Mine.start (fun _ _ h=>by cases h)) (fun _ _=>rfl) (fun s k h2 hk m=>by simp[ae m.old hc1,hv1.len]) ?_ ?_
 ·rintro⟨o,W⟩ a h2 hlta m K2 hK2;obtain⟨tv,ct,rto⟩:=uu hv1 hlta;have ht : ∀H:View,(vw h1).le H->ao H ((((slA v).add (a*6)).add 2).add 2)=some tv:=fun H hH=>ae hH ct;have hal:=hs a hlta
  simp;refine aO [1,3,4,5,6] (fun(r:Value) b=>[.pointer (some ⟨h.size,0,none⟩),o,.int .i64 a,r,.int .i64 b]) (fun r b h3=>Mine nothing h2 h3 nothing T.int r (sift (fun b=>(nth l a).term.to.contains (b:Int)) (fun b=>(b:Int)) b)) l.length (.slice none 0 0)
   rfl (by omega) rfl (Mine.start (fun _ _ h=>by cases h)) (fun _ _=>rfl) (fun r k h3 hk m2=>by simp[ae (View.le_trans m.old m2.old) hc1,hv1.len]) ?_ ?_
  ·rintro r b h3 hltb m2 K3 hK3;have hle3:=View.le_trans m.old m2.old;have hc3:=ae hle3 hc1;have hv3:=hv1.mono hle3;have rto3:=rto.mono hle3;have ht3:=ht (vw h3) hle3;simp;refine aO [1,3,4,5,6,7,8] (fun(_:Unit) i=>[.pointer (some ⟨h.size,0,none⟩),o,.int .i64 a,r,.int .i64 b,.bool (yd (fun i=>decide (nth (nth l a).term.to i=b)) i),.int .i64 i]) (fun _ i h4=>h4=h3) (nth l a).term.to.length ()
    rfl (by omega) rfl rfl (fun _ _=>rfl) (fun r k h4 hk e=>by subst e;simp(disch:=omega)[hc3,hv3.idxn (N:=6) rfl];simp only[Gm,L3,CF,ht3,rto3.len]) ?_ ?_
   ·rintro _ i h4 hi rfl K4 hK4;simp(disch:=omega)[hc3,hv3.idxn (N:=6) rfl];simp(disch:=omega) only[Gm,L3,CF,ht3,rto3.idx1 rfl,rto3.int (View.le_refl _)];simp(disch:=omega)[rto3.int (View.le_refl _)];exact hK4 () _ _ rfl (by rw[Bu];rfl) rfl
   rintro _ h4 rfl;rw[yK];simp[eV];have:=ij (p:=fun b=>(nth l a).term.to.contains (b:Int)) (x:=fun b=>(b:Int)) b;refine⟨fun he=>?_,fun he=>hK3 r _ _ rfl rfl (by rw[hZ (by simpa using he)];exact m2)⟩;refine m2.push El.aS (by simp<;>rfl) (mN (by omega) (by omega)) (by omega) (by omega) (fun _=>by simp) (fun _=>by simp) fun u v' h3 m'=>hK3 v' _ _ rfl rfl (by rw[jk (by simpa using he)];exact m')
  intro r h3 m2;simp;have mm:=m.ext m2.old;refine mm.push El.dh (by simp<;>rfl) (fy.2 (m2.fresh.mono (eC _ _ _))) (by simp;omega) (by simp;omega) (fun _=>by simp) (fun _=>by simp) fun u v' h4 m'=>hK2 (v',_) _ _ rfl rfl (by rw[eG];exact m')
 rintro⟨o,W⟩ h2 m;rw[hz];simp;exact hK _ _ ⟨View.le_trans hle1 m.old,m.fresh.mono (nA hle1)⟩
section
variable {f:an} {ed:List (Int × Int)}
theorem De {f:an} : ∀{n:Nat},cntT f n+f.blocks.length=iu f n+n
 | 0=>by show 0+_=f.blocks.length+0;omega
 | n+1=>by show cntT f n+(_+_+1)+_=iu f n+_+_+(n+1);have:=De (f:=f) (n:=n);omega
theorem Es(mb:ke f)(h:ek f=0):ke (lO f):=by
 unfold ek at h;rw[I6 mb,if_neg (by simp)]at h;have hm:my f=false:=by
  cases hq:my f with
  | false=>rfl
  | true=>rw[hq]at h;cases h
 unfold my at hm;simp only[MZ,decide_eq_false_iff_not]at hm;have hc:=De (f:=f) (n:=f.blocks.length);exact(BJ mb).may mb (by omega) (by omega)
end
theorem fB{a b:ByteArray}(h:a.size+b.size<=9223372036854775807):Bn.ev .cat (.string a) (.string b)=some (.string (a++b)):=by simp[Bn.ev,vS,h]
theorem I8{a b:ByteArray}{n:Bool}:Bn.ev (.eqS n) (.string a) (.string b)=some (.bool ((a.toList == b.toList) != n)):=rfl
theorem A3{P:Program}{po:OP}{ty t e d:TypeId}{us:List (Nat × Value)}{h:Heap}{K:Value->Heap->Prop}{x:Operand}{b c m:Nat}{xs:List Int}{fz:Nat × Nat}(hs:P.underlying t=some (.slice e))(he:P.underlying e=some (.int .u8))(hd:P.underlying d=some .string)(hx:asg us x = .slice (some ⟨b,0,none⟩) m c)(hb:h[b]? = some (.cells (xs.map (Value.int .u8)).toArray e fz))(hm:xs.length=m)(hk:K (.string (strOfNums xs)) h):@Lft.step po P (.convert t d x) ty us h K:=by
 refine dR (dt fun w hw=>?_);subst hw;refine⟨_,w,?_,Same.refl _,hk⟩;simp only[bL,execOp,hx];have:=run_convert_bytes_arg (P:=P) w t e hs he b 0 m c xs hm (fun i hi=>by
  have hi':i<xs.length:=by omega
  simp[World.cell?,hb,List.getD,List.getElem?_eq_getElem hi']) d hd;simp[this]
theorem zM{P:Program}{po:OP}{ty t e:TypeId}{us:List (Nat × Value)}{h:Heap}{K:Value->Heap->Prop}{x:Operand}{n:Int}(hT:ff P t e 1 1 (.int .u8 0))(hx:asg us x = .int .u8 n)(hk:K (.slice (some ⟨h.size,0,none⟩) 1 1) (h.push (.cells (([n].map (Value.int .u8)).toArray) e))):@Lft.step po P (.buildSlice t 1 #[(0,x)]) ty us h K:=by
 obtain⟨B,h1,h2⟩:=uS [.int .u8 n] 0 ((Array.range (1*1)).map ((Value.int .u8 0).cells[· % (Value.int .u8 0).cells.size]!)) (fun v hv=>by rw[LM.1 hv];rfl) (by simp);have hB:B = #[.int .u8 n]:=by rw[<-Array.toList_inj,h2];simp
 subst hB;exact pB (size:=1) (vs:=[(0,.int .u8 n)]) hT (by omega) (by simp[hx]) h1 hk
def digB (u:Int):Int:=if u.tmod 10<0 then-u.tmod 10 else u.tmod 10
def digC (u:Int):ByteArray:=strOfNums [IntKind.u8.wrap (48+digB u)]
def digL:Nat->Int->ByteArray->ByteArray
 | 0,_,s=>s
 | n+1,u,s=>if 0<u.tdiv 10 then digL n (u.tdiv 10) (digC u++s) else digC u++s
def aT (n:Int):ByteArray:=(if n<0 then⟨#[45]⟩++digL 20 (IntKind.i64.wrap (-n)) ⟨#[]⟩ else digL 20 n ⟨#[]⟩)++⟨#[32]⟩
theorem nh{u:Int}:(digC u).size=1:=strOfNums_size _
theorem pS : ∀{n:Nat} {u:Int} {s:ByteArray},(digL n u s).size<=s.size+n
 | 0,_,_=>LG _
 | n+1,u,s=>by
  unfold digL;split
  ·have:=pS (n:=n) (u:=u.tdiv 10) (s:=digC u++s);rw[LW,nh]at this;omega
  rw[LW,nh];omega
theorem bz{n:Int}:(aT n).size<=22:=by
 unfold aT;have h1:=pS (n:=20) (u:=IntKind.i64.wrap (-n)) (s:=⟨#[]⟩);have h2:=pS (n:=20) (u:=n) (s:=⟨#[]⟩);have e:(⟨#[]⟩:ByteArray).size=0:=rfl;have e1:(⟨#[45]⟩:ByteArray).size=1:=rfl;have e2:(⟨#[32]⟩:ByteArray).size=1:=rfl;split
 ·rw[LW,LW];omega
 rw[LW];omega
def tens:Nat->Int
 | 0=>1
 | n+1=>10*tens n
theorem Am : ∀{n:Nat},1<=tens n
 | 0=>Oa _
 | n+1=>by have:=Am (n:=n);unfold tens;omega
theorem tz{n u0:Int}{h:Heap}{Q:Post}{v2:Value}(hu:I64 u0)(hQ : ∀h' u f,(vw h).le (vw h')->Q .normal [(0,.int .i64 n),(2,v2),(3,.string (digL 20 u0 ⟨#[]⟩)),(4,.int .i64 u),(5,.bool f)] h'):
  LC.wp Tryz.prog L.dF.l1.loop (dJ 0 Q) [(0,.int .i64 n),(2,v2),(3,.string ⟨#[]⟩),(4,.int .i64 u0),(5,.bool true)] h:=by
 obtain⟨R,hR⟩ : ∃R,R=digL 20 u0 ⟨#[]⟩:=⟨_,rfl⟩;rw[<-hR]at hQ;refine fN [0,2,3,4,5] (fun m ρ h'=>∃(u:Int) (s:ByteArray) (f:Bool),m<=20/\ρ=[(0,.int .i64 n),(2,v2),(3,.string s),(4,.int .i64 u),(5,.bool f)]/\I64 u/\(vw h).le (vw h')/\s.size<=20-m/\
  ((f=true\/0<u)->1<=m/\digL m u s=R/\u<tens m)/\(¬(f=true\/0<u)->s=R)) 20 ⟨u0,_,true,by omega,rfl,hu,View.le_refl _,by show(0:Nat)<=_;omega,fun _=>⟨by omega,hR.symm,?_⟩,fun h=>absurd (.inl rfl) h⟩ ?_
 ·have e:tens 20=100000000000000000000:=by decide
  rw[e];obtain⟨_,h2⟩:=hu;omega
 rintro m ρ h1 ⟨u,s,f,hm,rfl,hu,hle,hs,hA,hB⟩ K hK;dsimp only[L.dF.l1];by_cases hc:f=true\/0<u
 ·obtain⟨hm1,hd,ht⟩:=hA hc;obtain⟨k,rfl⟩ : ∃k,m=k+1:=⟨m-1,by omega⟩;have hcb:(f||decide (0<u))=true:=by simpa using hc
  have t1:=Am (n:=k);have b1:=ON u (show(0:Int)<10 by omega);have b2:=M1 u (show(0:Int)<10 by omega);have b3:I64 (u.tdiv 10)/\(0<u.tdiv 10->u.tdiv 10<tens k):=by have e:=Int.mul_tdiv_add_tmod u 10;have ht:u<10*tens k:=ht;obtain⟨g1,g2⟩:=hu;exact⟨⟨by omega,by omega⟩,fun h=>by have:=Ns 10 (show 0<=u by omega);omega⟩
  have hw:IntKind.i64.wrap (u.tdiv 10)=u.tdiv 10:=bJ b3.1.1 b3.1.2;have step : ∀(h2:Heap) (x y z:Value),(vw h1).le (vw h2)->K [(0,.int .i64 n),(2,v2),(3,.string (digC u++s)),(4,.int .i64 (u.tdiv 10)),(5,.bool false),(6,x),(26,y),(27,z)] h2:=fun h2 x y z hle2=>by
   refine hK k _ _ (by omega) ⟨u.tdiv 10,digC u++s,false,by omega,rfl,b3.1,View.le_trans hle hle2,by rw[LW,nh];omega,fun h=>?_,fun h=>?_⟩
   ·have h:0<u.tdiv 10:=by simpa using h
    have hd:(if 0<u.tdiv 10 then digL k (u.tdiv 10) (digC u++s) else digC u++s)=R:=hd;rw[if_pos h]at hd;refine⟨?_,hd,b3.2 h⟩;cases k with
    | zero=>have:=b3.2 h;simp[tens]at this;omega
    | succ k=>omega
   have h:¬0<u.tdiv 10:=by simpa using h
   have hd:(if 0<u.tdiv 10 then digL k (u.tdiv 10) (digC u++s) else digC u++s)=R:=hd;rw[if_neg h]at hd;exact hd
  simp(disch:=omega)[hcb,hw];refine⟨fun h0=>?_,fun h0=>?_⟩
  ·have e:digC u=strOfNums [IntKind.u8.wrap (48+-u.tmod 10)]:=by unfold digC digB;rw[if_pos h0]
   refine zM (e:=T.uint8) El.mz rfl ?_;refine A3 (e:=T.uint8) U.mz U.uint8 (by kernel_rfl) rfl (Array.getElem?_push_size ..) rfl ?_;rw[<-e];simp(disch:=omega)[fB (a:=digC u) (b:=s) (by rw[nh];omega),hw];exact step _ _ _ _ (bm _ _)
  have e:digC u=strOfNums [IntKind.u8.wrap (48+u.tmod 10)]:=by unfold digC digB;rw[if_neg (by omega)]
  refine zM (e:=T.uint8) El.mz rfl ?_;refine A3 (e:=T.uint8) U.mz U.uint8 (by kernel_rfl) rfl (Array.getElem?_push_size ..) rfl ?_;rw[<-e];simp(disch:=omega)[fB (a:=digC u) (b:=s) (by rw[nh];omega),hw];exact step _ _ _ _ (bm _ _)
 have hcb:(f||decide (0<u))=false:=by simpa using hc
 obtain rfl:=hB hc;simp[hcb];exact hQ _ _ _ hle
theorem eA{n:Int}{h:Heap}(hn:I64 n):az Tryz.prog N.dF #[.int .i64 n] h (fun u h'=>u = .string (aT n)/\(vw h).le (vw h')):=by
 refine aq (args:=[.int .i64 n]) follows F.dF E.dF (LD (by kernel_rfl)) fun Kc hK=>?_;dsimp only[L.dF];simp;have q0 : ∀{u:Int},(digL 20 u ⟨#[]⟩).size<=20:=fun{u}=>by have:=pS (n:=20) (u:=u) (s:=⟨#[]⟩);have e:(⟨#[]⟩:ByteArray).size=0:=rfl;omega
 refine⟨fun h0=>?_,fun h0=>?_⟩
 ·have hwr:I64 (IntKind.i64.wrap (-n)):=by rw[IntKind.wrap_i64];unfold I64;omega
  refine tz hwr fun h' u f hle=>?_;have e:aT n=⟨#[45]⟩++digL 20 (IntKind.i64.wrap (-n)) ⟨#[]⟩++⟨#[32]⟩:=by unfold aT;rw[if_pos h0]
  have q1:=q0 (u:=IntKind.i64.wrap (-n));have e1:(⟨#[45]⟩:ByteArray).size=1:=rfl;have e2:(⟨#[32]⟩:ByteArray).size=1:=rfl;have e3:=fB (a:=⟨#[45]⟩) (b:=digL 20 (IntKind.i64.wrap (-n)) ⟨#[]⟩) (by omega);have e4:=fB (a:=⟨#[45]⟩++digL 20 (IntKind.i64.wrap (-n)) ⟨#[]⟩) (b:=⟨#[32]⟩) (by rw[LW];omega);simp[h0,e3,e4];exact hK _ _ ⟨by rw[e],hle⟩
 refine tz hn fun h' u f hle=>?_;have:¬n<0:=by omega
 have e:aT n=digL 20 n ⟨#[]⟩++⟨#[32]⟩:=by unfold aT;rw[if_neg this]
 have q1:=q0 (u:=n);have e2:(⟨#[32]⟩:ByteArray).size=1:=rfl;have e4:=fB (a:=digL 20 n ⟨#[]⟩) (b:=⟨#[32]⟩) (by omega);simp[this,e4];exact hK _ _ ⟨by rw[e],hle⟩
def upTo {α:Type} (f:ByteArray->α->ByteArray) (s:ByteArray) (l:List α) (k:Nat):ByteArray:=(l.take k).foldl f s
theorem DU{α:Type}{f:ByteArray->α->ByteArray}{s:ByteArray}{l:List α}:upTo f s l 0=s:=rfl
section
variable {α:Type} [Inhabited α]
theorem lJ{f:ByteArray->α->ByteArray}{s:ByteArray}{l:List α}{k:Nat}(h:k<l.length):upTo f s l (k+1)=f (upTo f s l k) (nth l k):=by unfold upTo;rw[M0,NS,List.getElem?_eq_getElem h,ak h];rfl
theorem xi {f:ByteArray->α->ByteArray} {s:ByteArray} {l:List α} {c:Nat} (hc : ∀s i,i<l.length->(f s (nth l i)).size<=s.size+c) : ∀{k:Nat},k<=l.length->(upTo f s l k).size<=s.size+c*k
 | 0,_=>by rw[DU];omega
 | k+1,h=>by rw[lJ (by omega)];have h1:=xi (f:=f) (s:=s) hc (k:=k) (by omega);have h2:=hc (upTo f s l k) k (by omega);rw[Ot];omega
theorem pE{f:ByteArray->α->ByteArray}{s:ByteArray}{l:List α}{c N:Nat}(hc : ∀s i,i<l.length->(f s (nth l i)).size<=s.size+c)(hN:l.length<=N){k:Nat}(hk:k<=l.length):(upTo f s l k).size<=s.size+c*N:=by have h1:=xi (s:=s) hc hk;have h2:c*k<=c*N:=Nat.mul_le_mul_left c (by omega);omega
end
def rowP (l:List Int):ByteArray:=upTo (fun s n=>s++aT n) ⟨#[91]⟩ l l.length++⟨#[93]⟩
def inP (s:ByteArray) (x:InD):ByteArray:=s++aT x.frm++⟨#[58]⟩++aT x.val
def phiP (s:ByteArray) (p:PhiD):ByteArray:=upTo inP (s++⟨#[112,104,105,32]⟩++aT p.dst) p.ins p.ins.length
def insP (s:ByteArray) (x:InsD):ByteArray:=s++⟨#[59]⟩++aT x.op++aT x.dst++aT x.two++rowP x.args++aT x.imm.v
def CU (s:ByteArray) (t:da):ByteArray:=s++⟨#[124]⟩++aT t.kind++rowP t.args++rowP t.to++aT t.imm.v
def blkP (s:ByteArray) (b:BlkD):ByteArray:=CU (upTo insP (upTo phiP (s++⟨#[10]⟩) b.phis b.phis.length) b.ins b.ins.length) b.term
def Bt (f:an):ByteArray:=upTo blkP (aT f.params) f.blocks f.blocks.length
theorem rW{l:List Int}(h:l.length<=10000){k:Nat}(hk:k<=l.length):(upTo (fun s n=>s++aT n) ⟨#[91]⟩ l k).size<=220001:=by have h1:=pE (f:=fun s n=>s++aT n) (s:=⟨#[91]⟩) (l:=l) (c:=22) (N:=10000) (fun s i _=>by rw[LW];have:=bz (n:=nth l i);omega) h hk;have e:(⟨#[91]⟩:ByteArray).size=1:=rfl;omega
theorem lG{l:List Int}(h:l.length<=10000):(rowP l).size<=220002:=by unfold rowP;have:=rW h (LG _);have e:(⟨#[93]⟩:ByteArray).size=1:=rfl;rw[LW];omega
theorem GW{s:ByteArray}{x:InD}:(inP s x).size<=s.size+45:=by unfold inP;have h1:=bz (n:=x.frm);have h2:=bz (n:=x.val);have e:(⟨#[58]⟩:ByteArray).size=1:=rfl;simp only[LW];omega
theorem xk{s:ByteArray}{p:PhiD}(h:p.ins.length<=10000){k:Nat}(hk:k<=p.ins.length):(upTo inP (s++⟨#[112,104,105,32]⟩++aT p.dst) p.ins k).size<=s.size+450030:=by have h1:=pE (f:=inP) (s:=s++⟨#[112,104,105,32]⟩++aT p.dst) (l:=p.ins) (c:=45) (N:=10000) (fun s i _=>GW) h hk;have h2:=bz (n:=p.dst);have e:(⟨#[112,104,105,32]⟩:ByteArray).size=4:=rfl;simp only[LW]at h1;omega
theorem xz{s:ByteArray}{x:InsD}(h:x.args.length<=10000):(insP s x).size<=s.size+220100:=by unfold insP;have h1:=bz (n:=x.op);have h2:=bz (n:=x.dst);have h3:=bz (n:=x.two);have h4:=bz (n:=x.imm.v);have h5:=lG h;have e:(⟨#[59]⟩:ByteArray).size=1:=rfl;simp only[LW];omega
theorem Cf{s:ByteArray}{x:da}(h:x.args.length<=10000)(h':x.to.length<=10000):(CU s x).size<=s.size+440100:=by unfold CU;have h1:=bz (n:=x.kind);have h4:=bz (n:=x.imm.v);have h5:=lG h;have h6:=lG h';have e:(⟨#[124]⟩:ByteArray).size=1:=rfl;simp only[LW];omega
theorem qv{s:ByteArray}{b:BlkD}(h:SmB b){k:Nat}(hk:k<=b.phis.length):(upTo phiP (s++⟨#[10]⟩) b.phis k).size<=s.size+4500300001:=by have h1:=pE (f:=phiP) (s:=s++⟨#[10]⟩) (l:=b.phis) (c:=450030) (N:=10000) (fun s i hi=>xk (h.phi i hi) (LG _)) h.phis hk;have e:(⟨#[10]⟩:ByteArray).size=1:=rfl;simp only[LW]at h1;omega
theorem vQ{s:ByteArray}{b:BlkD}(h:SmB b){k:Nat}(hk:k<=b.ins.length):(upTo insP (upTo phiP (s++⟨#[10]⟩) b.phis b.phis.length) b.ins k).size<=s.size+6701300001:=by have h1:=pE (f:=insP) (s:=upTo phiP (s++⟨#[10]⟩) b.phis b.phis.length) (l:=b.ins) (c:=220100) (N:=10000) (fun s i hi=>xz (h.inn i hi)) h.ins hk;have h2:=qv (s:=s) h (LG _);omega
theorem Ep{s:ByteArray}{b:BlkD}(h:SmB b):(blkP s b).size<=s.size+7000000000:=by unfold blkP;have h1:=Cf (s:=upTo insP (upTo phiP (s++⟨#[10]⟩) b.phis b.phis.length) b.ins b.ins.length) h.args h.to;have h2:=vQ (s:=s) h (LG _);omega
theorem Bb{f:an}(h:SmF f){k:Nat}(hk:k<=f.blocks.length):(upTo blkP (aT f.params) f.blocks k).size<=70000000000022:=by have h1:=pE (f:=blkP) (s:=aT f.params) (l:=f.blocks) (c:=7000000000) (N:=10000) (fun s i hi=>Ep (h.blk i hi)) h.len hk;have:=bz (n:=f.params);omega
theorem sE{l:List Int}{v:Value}{h:Heap}(hv:SlRd (vw h) v l)(hl:l.length<=10000):az Tryz.prog N.gN #[v] h (fun u h'=>u = .string (rowP l)/\(vw h).le (vw h')):=by
 refine aq (args:=[v]) follows F.gN E.gN (LD (by kernel_rfl)) fun Kc hK=>?_;dsimp only[L.gN];simp;refine aO [0,2,3,4] (fun(_:Unit) k=>[v,.string ⟨#[]⟩,.string (upTo (fun s n=>s++aT n) ⟨#[91]⟩ l k),.int .i64 k]) (fun _ k h1=>(vw h).le (vw h1)) l.length ()
  rfl (by omega) rfl (View.le_refl _) (fun _ _=>rfl) (fun _ k h1 hk t=>?_) ?_ ?_
 ·simp[(hv.mono t).len]
 ·rintro _ k h1 hk t K2 hK2;have hv1:=hv.mono t;have hr:I64 (nth l k):=by have:=(hv1.at hk).rng;rwa [<-ak hk]at this
  simp(disch:=omega)[hv1.idx1 rfl,hv1.int (View.le_refl _)];refine aj (by kernel_rfl) (eA hr) ?_;rintro _ h2 ⟨rfl,t2⟩;have e1:=rW hl (Nat.le_of_lt hk);have e2:=bz (n:=nth l k);simp[fB (a:=upTo (fun s n=>s++aT n) ⟨#[91]⟩ l k) (b:=aT (nth l k)) (by omega)];refine hK2 () _ _ rfl (by simp[lJ hk];rfl) (View.le_trans t t2)
 rintro _ h1 t;have e1:=rW hl (LG _);have e:(⟨#[93]⟩:ByteArray).size=1:=rfl;simp[fB (a:=upTo (fun s n=>s++aT n) ⟨#[91]⟩ l l.length) (b:=⟨#[93]⟩) (by omega)];exact hK _ _ ⟨rfl,t⟩
theorem At.IX{H:View}{a:Addr}{d:I32}(h:At H a d):I64 d.v:=by obtain⟨v,_,h2⟩:=h.load rfl;obtain⟨_,h3,h4⟩:=h2;exact⟨by omega,by omega⟩
theorem yU{α:Type}[Rep α][Inhabited α]{H:View}{v:Value}{l:List α}(h:SlRd H v l){N:Nat}(hn:Rep.n α=N){i:Nat}(hi:i<l.length):At H ((slA v).add (i*N)) (nth l i):=by subst hn;rw[ak hi];exact h.at hi
theorem GC{X i:Nat}{p1 p4:Value}{d:BlkD}{s0:ByteArray}{h:Heap}{Q:Post}{ρ:Env}(ha:At (vw h) ⟨X,0,none⟩ d)(sm:SmB d)(hi:i<d.phis.length)(hs:s0.size<=100000000000000)(hρ:aZ [1,3,4,5,6,7] ρ=[1,3,4,5,6,7].zip [p1,.string (s0++(⟨#[112,104,105,32]⟩:ByteArray)++aT (nth d.phis i).dst),p4,.pointer (some ⟨X,0,none⟩),.int .i64 i,.int .i64 0])(hQ : ∀h' x,(vw h).le (vw h')->Q .normal ([1,3,4,5,6,7].zip [p1,.string (phiP s0 (nth d.phis i)),p4,.pointer (some ⟨X,0,none⟩),.int .i64 i,x]) h'):
  LC.wp Tryz.prog L.bV.l3.loop (dJ 4 Q) ρ h:=by
 have sp:=sm.phis;have si:=sm.phi i hi;obtain⟨vp,vi,va,vt,cp,_⟩:=ib ha;obtain⟨vn,cn,sn⟩:=((yU cp.2 (N:=2) rfl hi).part PhiD.jr).sl;obtain⟨l,hl⟩ : ∃l,l=(nth d.phis i).ins:=⟨_,rfl⟩;rw[<-hl]at si sn;refine aO [1,3,4,5,6,7] (fun(_:Unit) k=>[p1,.string (upTo inP (s0++(⟨#[112,104,105,32]⟩:ByteArray)++aT (nth d.phis i).dst) l k),p4,.pointer (some ⟨X,0,none⟩),.int .i64 i,.int .i64 k]) (fun _ k h1=>(vw h).le (vw h1)) l.length ()
  rfl (by omega) hρ (View.le_refl _) (fun _ _=>rfl) (fun _ k h1 hk t=>?_) ?_ ?_
 ·simp(disch:=omega)[ae t cp.1,(cp.2.mono t).idxn (N:=2) rfl,ae t cn,(sn.mono t).len]
 ·rintro _ k h1 hk t K2 hK2;have aI:=yU sn (N:=2) rfl hk;have e1:=xk (s:=s0) (p:=nth d.phis i) (by rw[<-hl];exact si) (k:=k) (by rw[<-hl];omega);rw[<-hl]at e1;have e2:=bz (n:=(nth l k).frm);have e3:(⟨#[58]⟩:ByteArray).size=1:=rfl;have e4:=bz (n:=(nth l k).val);refine bF (vw h1) (View.le_refl _) ?_;simp(disch:=omega)[ae t cp.1,(cp.2.mono t).idxn (N:=2) rfl,ae t cn,(sn.mono t).idxn (N:=2) rfl,ae t (aI.part InD.mE).int,ae t (aI.part InD.rn).int];refine aj (by kernel_rfl) (eA (aI.part InD.mE).rng) ?_;rintro _ h2 ⟨rfl,t2⟩;generalize hsk:upTo inP (s0++(⟨#[112,104,105,32]⟩:ByteArray)++aT (nth d.phis i).dst) l k=sk at e1;refine⟨t2,?_⟩;simp[fB (a:=sk) (b:=aT (nth l k).frm) (by omega),fB (a:=sk++aT (nth l k).frm) (b:=⟨#[58]⟩) (by simp only[LW];omega)];refine aj (by kernel_rfl) (eA (aI.part InD.rn).rng) ?_;rintro _ h3 ⟨rfl,t3⟩;simp[fB (a:=sk++aT (nth l k).frm++⟨#[58]⟩) (b:=aT (nth l k).val) (by simp only[LW];omega)];refine hK2 () _ _ rfl ?_ (View.le_trans t (View.le_trans t2 t3));rw[lJ hk,hsk];rfl
 rintro _ h1 t;have:=hQ _ (.int .i64 l.length) t;unfold phiP at this;rw[<-hl]at this;exact this
theorem Gt{X:Nat}{p1 p4:Value}{d:BlkD}{s0:ByteArray}{h:Heap}{Q:Post}{ρ:Env}(ha:At (vw h) ⟨X,0,none⟩ d)(sm:SmB d)(hs:s0.size<=80000000000000)(hρ:aZ [1,3,4,5,6] ρ=[1,3,4,5,6].zip [p1,.string (s0++(⟨#[10]⟩:ByteArray)),p4,.pointer (some ⟨X,0,none⟩),.int .i64 0])(hQ : ∀h' x,(vw h).le (vw h')->Q .normal ([1,3,4,5,6].zip [p1,.string (upTo phiP (s0++(⟨#[10]⟩:ByteArray)) d.phis d.phis.length),p4,.pointer (some ⟨X,0,none⟩),x]) h'):
  LC.wp Tryz.prog L.bV.l2.loop (dJ 2 Q) ρ h:=by
 have sp:=sm.phis;obtain⟨vp,vi,va,vt,cp,_⟩:=ib ha;refine aO [1,3,4,5,6] (fun(_:Unit) i=>[p1,.string (upTo phiP (s0++(⟨#[10]⟩:ByteArray)) d.phis i),p4,.pointer (some ⟨X,0,none⟩),.int .i64 i]) (fun _ i h1=>(vw h).le (vw h1)) d.phis.length ()
  rfl (by omega) hρ (View.le_refl _) (fun _ _=>rfl) (fun _ i h1 hk t=>?_) ?_ ?_
 ·simp[ae t cp.1,(cp.2.mono t).len]
 ·rintro _ i h1 hi t K2 hK2;have aP:=yU cp.2 (N:=2) rfl hi;have e1:=qv (s:=s0) sm (k:=i) (by omega);have e2:=bz (n:=(nth d.phis i).dst);have e3:(⟨#[112,104,105,32]⟩:ByteArray).size=4:=rfl;have hsc:=lJ (f:=phiP) (s:=s0++(⟨#[10]⟩:ByteArray)) hi;generalize upTo phiP (s0++(⟨#[10]⟩:ByteArray)) d.phis i=sk at e1 hsc;refine aa fun y hy=>?_;simp(disch:=omega)[ae t cp.1,(cp.2.mono t).idxn (N:=2) rfl,ae t (aP.part PhiD.kQ).int,fB (a:=sk) (b:=⟨#[112,104,105,32]⟩) (by omega)];refine aj (by kernel_rfl) (eA (aP.part PhiD.kQ).rng) ?_;rintro _ h2 ⟨rfl,t2⟩;simp[fB (a:=sk++⟨#[112,104,105,32]⟩) (b:=aT (nth d.phis i).dst) (by simp only[LW];omega)];subst hy;simp;refine GC (ha.mono (View.le_trans t t2)) sm hi (s0:=sk) (by omega) rfl fun h3 x t3=>?_;simp;refine hK2 () _ _ rfl ?_ (View.le_trans t (View.le_trans t2 t3));rw[hsc];rfl
 rintro _ h1 t;exact hQ _ (.int .i64 d.phis.length) t
theorem Gz{X:Nat}{p1 p4:Value}{d:BlkD}{s0:ByteArray}{h:Heap}{Q:Post}{ρ:Env}(ha:At (vw h) ⟨X,0,none⟩ d)(sm:SmB d)(hs:s0.size<=90000000000000)(hρ:aZ [1,3,4,5,8] ρ=[1,3,4,5,8].zip [p1,.string s0,p4,.pointer (some ⟨X,0,none⟩),.int .i64 0])(hQ : ∀h' x,(vw h).le (vw h')->Q .normal ([1,3,4,5,8].zip [p1,.string (upTo insP s0 d.ins d.ins.length),p4,.pointer (some ⟨X,0,none⟩),x]) h'):
  LC.wp Tryz.prog L.bV.l4.loop (dJ 6 Q) ρ h:=by
 have sp:=sm.ins;obtain⟨vp,vi,va,vt,_,cp,_⟩:=ib ha;refine aO [1,3,4,5,8] (fun(_:Unit) i=>[p1,.string (upTo insP s0 d.ins i),p4,.pointer (some ⟨X,0,none⟩),.int .i64 i]) (fun _ i h1=>(vw h).le (vw h1)) d.ins.length ()
  rfl (by omega) hρ (View.le_refl _) (fun _ _=>rfl) (fun _ i h1 hk t=>?_) ?_ ?_
 ·simp[ae t cp.1,(cp.2.mono t).len]
 ·rintro _ i h1 hi t K2 hK2;have aP:=yU cp.2 (N:=5) rfl hi;have e1:=pE (f:=insP) (s:=s0) (l:=d.ins) (c:=220100) (N:=10000) (fun s i hi=>xz (sm.inn i hi)) sm.ins (k:=i) (by omega);have sa:=sm.inn i hi;have hsc:=lJ (f:=insP) (s:=s0) hi;generalize upTo insP s0 d.ins i=sk at e1 hsc;obtain⟨v3,c3,s3⟩:=(aP.part InsD.qn).sl;have c0:=(aP.part InsD.HR).int;have c1:=(aP.part InsD.kQ).int;have c2:=(aP.part InsD.An).int;have c4:=(aP.part InsD.AH).i32;have r0:=(aP.part InsD.HR).rng;have r1:=(aP.part InsD.kQ).rng;have r2:=(aP.part InsD.An).rng;have r4:=At.IX (aP.part InsD.AH);generalize nth d.ins i=x at c0 c1 c2 c3 c4 s3 r0 r1 r2 r4 sa hsc;have d0:=bz (n:=x.op);have d1:=bz (n:=x.dst);have d2:=bz (n:=x.two);have d4:=bz (n:=x.imm.v);have d3:=lG sa;have e3:(⟨#[59]⟩:ByteArray).size=1:=rfl;have hw:IntKind.i64.wrap x.imm.v=x.imm.v:=bJ r4.1 r4.2;refine bF (vw h1) (View.le_refl _) ?_;simp(disch:=omega)[ae t cp.1,(cp.2.mono t).idxn (N:=5) rfl,ae t c0,ae t c1,ae t c2,ae t c3,ae t c4,fB (a:=sk) (b:=⟨#[59]⟩) (by omega)];refine aj (by kernel_rfl) (eA r0) ?_;rintro _ h2 ⟨rfl,t2⟩;refine⟨t2,?_⟩;simp[fB (a:=sk++⟨#[59]⟩) (b:=aT x.op) (by simp only[LW];omega)];refine aj (by kernel_rfl) (eA r1) ?_;rintro _ h3 ⟨rfl,t3⟩;refine⟨View.le_trans t2 t3,?_⟩;simp[fB (a:=sk++⟨#[59]⟩++aT x.op) (b:=aT x.dst) (by simp only[LW];omega)];refine aj (by kernel_rfl) (eA r2) ?_;rintro _ h4 ⟨rfl,t4⟩;have t14:=View.le_trans t2 (View.le_trans t3 t4);refine⟨t14,?_⟩;simp[fB (a:=sk++⟨#[59]⟩++aT x.op++aT x.dst) (b:=aT x.two) (by simp only[LW];omega)];refine aj (by kernel_rfl) (sE (s3.mono (View.le_trans t t14)) sa) ?_;rintro _ h5 ⟨rfl,t5⟩;have t15:=View.le_trans t14 t5;refine⟨t15,?_⟩;simp[fB (a:=sk++⟨#[59]⟩++aT x.op++aT x.dst++aT x.two) (b:=rowP x.args) (by simp only[LW];omega),hw];refine aj (by kernel_rfl) (eA r4) ?_;rintro _ h6 ⟨rfl,t6⟩;simp[fB (a:=sk++⟨#[59]⟩++aT x.op++aT x.dst++aT x.two++rowP x.args) (b:=aT x.imm.v) (by simp only[LW];omega)];refine hK2 () _ _ rfl ?_ (View.le_trans t (View.le_trans t15 t6));rw[hsc];rfl
 rintro _ h1 t;exact hQ _ (.int .i64 d.ins.length) t
theorem tJ{f:an}{v:Value}{h:Heap}(hv:Rd (vw h) v f)(sm:SmF f):az Tryz.prog N.bV #[v] h (fun u h'=>u = .string (Bt f)/\(vw h).le (vw h')):=by
 refine aq (args:=[v]) follows F.bV E.bV (LD (by kernel_rfl)) fun Kc hK=>?_;dsimp only[L.bV];refine aa fun z hz=>?_;simp;refine gm rfl hv fun h1 _ hle1 hsz1 hat=>?_;obtain⟨c0,vb,cb⟩:=fM hat;have ip:=(hat.part an.rC).rng;generalize h.size=B at hat c0 cb;subst hz;refine aa fun z hz=>?_;simp[c0];refine aj (by kernel_rfl) (eA ip) ?_;rintro _ h2 ⟨rfl,t2⟩;subst hz;refine aa fun z hz=>?_;simp;have hbl:=sm.len
 refine aO [1,3,4] (fun(_:Unit) b=>[.pointer (some ⟨B,0,none⟩),.string (upTo blkP (aT f.params) f.blocks b),.int .i64 b]) (fun _ b h3=>(vw h1).le (vw h3)) f.blocks.length ()
  rfl (by omega) rfl t2 (fun _ _=>rfl) (fun _ b h3 hb t=>?_) ?_ ?_
 ·simp[ae t cb.1,(cb.2.mono t).len]
 ·rintro _ b h3 hb t K2 hK2;have sb:=cb.2.mono t;obtain⟨ub,hub,rub⟩:=sb.wh rfl (N:=6) rfl hb;have smb:=sm.blk b hb;have e1:=Bb sm (k:=b) (by omega);have e2:(⟨#[10]⟩:ByteArray).size=1:=rfl;have hsc:=lJ (f:=blkP) (s:=aT f.params) hb;generalize upTo blkP (aT f.params) f.blocks b=s0 at e1 hsc;generalize nth f.blocks b=d at rub smb hsc;refine aa fun y hy=>?_;simp(disch:=omega)[ae t cb.1,sb.idxn (N:=6) rfl,hub _ (View.le_refl _)];refine HE (d:=d) (z:=.agg #[.slice none 0 0,.slice none 0 0,.int .i64 0,.slice none 0 0,.slice none 0 0,.int .i32 0]) (by kernel_rfl) rfl (by kernel_rfl) rub (fun _=>by simp) (fun _=>by simp) fun h4 t4 _ _ hat4=>?_;generalize h3.size=X at hat4;subst hy;refine aa fun y hy=>?_;simp[fB (a:=s0) (b:=⟨#[10]⟩) (by omega)];subst hy;refine aa fun y hy=>?_;simp;refine Gt hat4 smb (s0:=s0) (by omega) rfl fun h5 x5 t5=>?_;subst hy;refine aa fun y hy=>?_;simp;have e5:=qv (s:=s0) smb (LG _)
  refine Gz (hat4.mono t5) smb (s0:=upTo phiP (s0++⟨#[10]⟩) d.phis d.phis.length) (by omega) rfl fun h6 x6 t6=>?_;have e6:=vQ (s:=s0) smb (LG _);have hat6:=hat4.mono (View.le_trans t5 t6);have hbl:blkP s0 d=CU (upTo insP (upTo phiP (s0++⟨#[10]⟩) d.phis d.phis.length) d.ins d.ins.length) d.term:=rfl;rw[hbl]at hsc;generalize upTo insP (upTo phiP (s0++⟨#[10]⟩) d.phis d.phis.length) d.ins d.ins.length=sk at e6 hsc;subst hy;obtain⟨vp,vi,va,vt,_,_,ck,ca,ct⟩:=ib hat6;have ht:=hat6.part BlkD.kz;have r0:=(ht.part da.wz).rng;have r4:=At.IX (ht.part da.AH);have c4:ao (vw h6) ⟨X,5,none⟩=some (.int .i32 d.term.imm.v):=by simpa using(ht.part da.AH).i32
  have sa:=smb.args;have st:=smb.to;generalize d.term=x at ck ca ct c4 r0 r4 sa st hsc;have d0:=bz (n:=x.kind);have d4:=bz (n:=x.imm.v);have d1:=lG sa;have d2:=lG st;have e3:(⟨#[124]⟩:ByteArray).size=1:=rfl;have hw:IntKind.i64.wrap x.imm.v=x.imm.v:=bJ r4.1 r4.2;refine bF (vw h6) (View.le_refl _) ?_;simp(disch:=omega)[ck,ca.1,ct.1,c4,hw,fB (a:=sk) (b:=⟨#[124]⟩) (by omega)];refine aj (by kernel_rfl) (eA r0) ?_;rintro _ h7 ⟨rfl,t7⟩;refine⟨t7,?_⟩;simp[fB (a:=sk++⟨#[124]⟩) (b:=aT x.kind) (by simp only[LW];omega)];refine aj (by kernel_rfl) (sE (ca.2.mono t7) sa) ?_;rintro _ h8 ⟨rfl,t8⟩;have t68:=View.le_trans t7 t8;refine⟨t68,?_⟩;simp[fB (a:=sk++⟨#[124]⟩++aT x.kind) (b:=rowP x.args) (by simp only[LW];omega)];refine aj (by kernel_rfl) (sE (ct.2.mono t68) st) ?_;rintro _ h9 ⟨rfl,t9⟩;have t69:=View.le_trans t68 t9;refine⟨t69,?_⟩;simp[fB (a:=sk++⟨#[124]⟩++aT x.kind++rowP x.args) (b:=rowP x.to) (by simp only[LW];omega)];refine aj (by kernel_rfl) (eA r4) ?_;rintro _ h10 ⟨rfl,t10⟩;simp[fB (a:=sk++⟨#[124]⟩++aT x.kind++rowP x.args++rowP x.to) (b:=aT x.imm.v) (by simp only[LW];omega)];refine hK2 () _ _ rfl ?_ (View.le_trans t (View.le_trans t4 (View.le_trans t5 (View.le_trans t6 (View.le_trans t69 t10)))));rw[hsc];rfl
 rintro _ h3 t;simp;subst hz;simp;exact hK _ _ ⟨rfl,View.le_trans hle1 t⟩
theorem Fi{f:an}:jF (ofS f.blocks)=gD f:=by unfold gD;rw[tS];exact vJ (by rw[ze,iJ]) fun a b=>FU
def docF (f:an):List BlkD:=(docK f.blocks (gD f) (gD f).length).map kq
def GotF (H:View) (f:an) (u:Value):Prop:=∃vb ps,u = .agg #[.int .i64 ps,vb,.int .i64 (ek f)]/\(ek f≠0->ps=0/\vb = .slice none 0 0)/\(ek f=0->ps=f.params/\I64 f.params/\SlRd H vb (docF f))
theorem AS{f:an}{v:Value}{h:Heap}(hv:Rd (vw h) v f)(sm:SmF f):
  az Tryz.prog N.bH #[v] h (fun u h'=>(vw h).le (vw h')/\GotF (vw h') f u):=by
 refine aq (args:=[v]) follows F.bH E.bH (LD (by kernel_rfl)) fun Kc hK=>?_;dsimp only[L.bH];refine aa fun z hz=>?_;simp;refine Owns.ru (Owns.start (View.le_refl (vw h))) (d:=f) rfl hv fun B h1 W1 hW1 w1 hat hle1=>?_;obtain⟨cp,vb0,cb0⟩:=fM hat;have ip:=(hat.part an.rC).rng;obtain⟨uf,huf,rf⟩:=hat.al rfl;have huf:Un.ev W1 (.al 2) (.pointer (some ⟨B,0,none⟩))=some uf:=huf;have hufm : ∀{H:View},W1.le H->Un.ev H (.al 2) (.pointer (some ⟨B,0,none⟩))=some uf:=fun hH=>by have:=cV (ρ:=fun _=>none) (e:=.un (.al 2) (.con (.pointer (some ⟨B,0,none⟩)))) hH (by simpa using huf);simpa using this
 refine w1.kF (k:=(3,1)) (n:=2) (z:=.agg #[.int .i64 0,.slice none 0 0,.int .i64 0]) rfl (by kernel_rfl) rfl (by decide) (by simp[Value.cells,Value.oneCell']) fun h2 q2 w2=>?_;generalize h1.size=R at w2;subst hz;refine aa fun z hz=>?_;simp[hufm w2.wle];refine aj (by kernel_rfl) (Bw (rf.mono w2.wle) sm) ?_;rintro _ h3 ⟨rfl,q3⟩;have w3:=w2.ext' q3;have ht:(gq f).1=(ir f).1:=by rw[pR]
 simp[gotV,ht];subst hz;refine aa fun z hz=>?_;have kR:(Own.upd (fun x=>none) (3,1) (bx T.bE R (RawN.mk (n:=2) (Value.agg #[.int .i64 0,.slice none 0 0,.int .i64 0]).cells.toList))) (3,1)=bx T.bE R (RawN.mk (n:=2) [.int .i64 0,.slice none 0 0,.int .i64 0]):=Own.af;by_cases he:(ir f).1=0
 ·have mb:ke f:=zk he;have hE:ek f=if my f then 2 else 0:=by unfold ek;rw[he];simp
  simp[he];subst hz;refine aa fun z hz=>?_;simp[hufm w3.wle];obtain⟨vbf,rfl,_,sbf⟩:=v7 rf;refine aj (by kernel_rfl) (Fy (sbf.mono w3.wle) sm.len fun i hi=>(sm.blk i hi).to) ?_;rintro u4 h4 ⟨q4,s4⟩;refine aj (by kernel_rfl) (wG (s4.mono (iz _ _)) (by rw[ze];have:=mb.blocks;omega)) ?_;rintro u5 h5 ⟨q5,s5⟩;rw[Fi]at s5;have w5:=w3.ext (View.le_trans q4 q5);have s5:=s5.mono (qU (W:=W1) (gQ q4) (View.le_refl _));have hW5:=aH (h':=h5) w3.wle;generalize grow W1 h3 h5=W5 at w5 s5 hW5;subst hz;refine aa fun z hz=>?_;have hbl:=mb.blocks
  have hcl:=Fa (f:=f);have h512:f.blocks.length*f.blocks.length<=512*512:=N0 hbl.2 hbl.2;have hct:=uh sm f.blocks.length (LG _);have c1:=ae (View.le_trans hW5 w5.wle) cb0.1;have l1:=cb0.2.len (K:=vw h5);have l5:=s5.len (K:=vw h5);by_cases h1:(512:Int)<(f.blocks.length:Int)+(gD f).length
  ·have hm:my f=true:=by unfold my;rw[decide_eq_true (by omega)];rfl
   rw[hm,if_pos rfl]at hE;simp(disch:=omega)[c1,l1,l5,h1];refine aE (z:=.agg #[.int .i64 0,.slice none 0 0,.int .i64 0]) (places:=[(0,2),(2,1)]) (vs:=[(1,.int .i64 2)]) (cs:=#[.int .i64 0,.slice none 0 0,.int .i64 2]) (by kernel_rfl) (by kernel_rfl) (by simp) (by rfl) ?_;refine w5.ez (k:=(3,1)) (e:=T.bE) (B:=R) (D:=RawN.mk (n:=2) [.int .i64 0,.slice none 0 0,.int .i64 0]) Part.all (d:=RawN.mk (n:=2) [.int .i64 0,.slice none 0 0,.int .i64 2]) kR (by kernel_rfl) rfl rfl (eP rfl (by intro c hc;simp only[L4,MF,or_false]at hc;rcases hc with rfl | rfl | rfl<;>rfl)) fun h6 w6 _=>?_;have c6:Un.ev (vw h6) (.al 3) (.pointer (some ⟨R,0,none⟩))=some (.agg #[.int .i64 0,.slice none 0 0,.int .i64 2]):=w6.dI (k:=(3,1)) (e:=T.bE) (B:=R) (l:=[.int .i64 0,.slice none 0 0,.int .i64 2]) (n:=2) Own.af;simp[c6];exact hK _ _ ⟨View.le_trans hW1 (View.le_trans hW5 w6.wle),.slice none 0 0,0,by rw[hE],fun _=>⟨rfl,rfl⟩,fun e=>by rw[hE]at e;cases e⟩
  simp(disch:=omega)[c1,l1,l5,h1,hufm (View.le_trans hW5 w5.wle)];refine aj (by kernel_rfl) (xc (rf.mono (View.le_trans hW5 w5.wle)) sm) ?_;rintro _ h6 ⟨rfl,q6⟩;have w6:=w5.ext' q6;have l6:=s5.len (K:=vw h6);by_cases h2:(4096:Int)<(cntT f f.blocks.length:Nat)+(gD f).length
  ·have hm:my f=true:=by unfold my;rw[decide_eq_true (show 4096<(gD f).length+cntT f f.blocks.length by omega),Bool.or_true]
   rw[hm,if_pos rfl]at hE;simp(disch:=omega)[l6,h2];refine aE (z:=.agg #[.int .i64 0,.slice none 0 0,.int .i64 0]) (places:=[(0,2),(2,1)]) (vs:=[(1,.int .i64 2)]) (cs:=#[.int .i64 0,.slice none 0 0,.int .i64 2]) (by kernel_rfl) (by kernel_rfl) (by simp) (by rfl) ?_;refine w6.ez (k:=(3,1)) (e:=T.bE) (B:=R) (D:=RawN.mk (n:=2) [.int .i64 0,.slice none 0 0,.int .i64 0]) Part.all (d:=RawN.mk (n:=2) [.int .i64 0,.slice none 0 0,.int .i64 2]) kR (by kernel_rfl) rfl rfl (eP rfl (by intro c hc;simp only[L4,MF,or_false]at hc;rcases hc with rfl | rfl | rfl<;>rfl)) fun h7 w7 _=>?_;have c6:Un.ev (vw h7) (.al 3) (.pointer (some ⟨R,0,none⟩))=some (.agg #[.int .i64 0,.slice none 0 0,.int .i64 2]):=w7.dI (k:=(3,1)) (e:=T.bE) (B:=R) (l:=[.int .i64 0,.slice none 0 0,.int .i64 2]) (n:=2) Own.af;simp[c6];exact hK _ _ ⟨View.le_trans hW1 (View.le_trans hW5 w7.wle),.slice none 0 0,0,by rw[hE],fun _=>⟨rfl,rfl⟩,fun e=>by rw[hE]at e;cases e⟩
  have hm:my f=false:=by unfold my;rw[decide_eq_false (by omega),decide_eq_false (by omega)];rfl
  rw[hm]at hE;have hE:ek f=0:=hE;simp(disch:=omega)[l6,h2];subst hz;refine aa fun z hz=>?_;simp[hufm (View.le_trans hW5 w6.wle)];refine aj (by kernel_rfl) (Bj w6 (fun k hk=>Own.ab (by rintro rfl;simp at hk)) (rf.mono hW5) sm) ?_;rintro _ h7 ⟨W7,vo,vp,pin,hW7,w7,rfl⟩;obtain⟨X,hX⟩ : ∃X,X=Own.upd (fun x=>none) (3,1) (bx T.bE R (RawN.mk (n:=2) (Value.agg #[.int .i64 0,.slice none 0 0,.int .i64 0]).cells.toList)):=⟨_,rfl⟩;rw[<-hX]at w7 kR;have hvo:=(w7.cells (k:=(0,0)) (if_pos rfl)).2
  refine w7.mI (k:=(3,0)) (n:=1) (l:=[.int .i64 f.params,vo]) (by rw[hX];rfl) (z:=.agg #[.int .i64 0,.slice none 0 0]) (by kernel_rfl) rfl (by kernel_rfl) rfl (by decide) (gV hvo) (fun _=>by simp) (fun _=>by simp) fun h8 q8 w8=>?_;generalize h7.size=D at w8;have w8:Owns W7 h8 (mO X D f.params vo vp pin (fun _ _=>false) f.blocks):=w8;subst hz;refine aa fun z hz=>?_;simp;have hed : ∀e∈gD f,(0<=e.1/\e.1<f.blocks.length)/\0<=e.2/\e.2<f.blocks.length:=fun e he=>by have:=(et.1 ((BJ mb).hed e he)).1;omega
  refine Ky (s5.mono hW7) hed (by omega) (fun b hb=>(sm.blk b hb).to) w8 rfl fun h9 W9 vo9 vp9 y9 hW9 w9=>?_;subst hz;refine aa fun z hz=>?_;simp;have hins:=AB (l:=f.blocks) (ed:=gD f) (N:=1000000) (fun b hb i hi=>L9 ((sm.blk b hb).phi i hi) (by decide)) (LG _);refine KH hins w9 rfl fun h10 W10 pin10 S10 y10 hW10 w10 ro10=>?_;have w10:Owns W10 h10 (mO X D f.params vo9 vp9 pin10 S10 (docF f)):=w10
  subst hz;simp[KK w10];have hvo9:=(w10.cells Eo).2;refine aE (z:=.agg #[.int .i64 0,.slice none 0 0,.int .i64 0]) (places:=[(0,2),(2,1)]) (vs:=[(0,.agg #[.int .i64 f.params,vo9])]) (cs:=#[.int .i64 f.params,vo9,.int .i64 0]) (by kernel_rfl) (by kernel_rfl) (by simp) (by rfl) ?_;have kR10:(mO X D f.params vo9 vp9 pin10 S10 (docF f)) (3,1)=bx T.bE R (RawN.mk (n:=2) [.int .i64 0,.slice none 0 0,.int .i64 0]):=by rw[<-kR];rfl
  refine w10.ez (k:=(3,1)) (e:=T.bE) (B:=R) (D:=RawN.mk (n:=2) [.int .i64 0,.slice none 0 0,.int .i64 0]) Part.all (d:=RawN.mk (n:=2) [.int .i64 f.params,vo9,.int .i64 0]) kR10 (by kernel_rfl) rfl rfl (eP rfl (by intro c hc;simp only[L4,MF,or_false]at hc;rcases hc with rfl | rfl | rfl<;>first | rfl | exact hvo9)) fun h11 w11 _=>?_;have c11:Un.ev (vw h11) (.al 3) (.pointer (some ⟨R,0,none⟩))=some (.agg #[.int .i64 f.params,vo9,.int .i64 0]):=w11.dI (k:=(3,1)) (e:=T.bE) (B:=R) (l:=[.int .i64 f.params,vo9,.int .i64 0]) (n:=2) Own.af;have w12:Owns W10 h11 (mO (X.upd (3,1) (bx T.bE R (RawN.mk (n:=2) [.int .i64 f.params,vo9,.int .i64 0]))) D f.params vo9 vp9 pin10 S10 (docF f)):=w11.congr fun q=>by
   unfold mO;by_cases e1:q=(3,1)
   ·subst e1;rfl
   rw[Own.ab e1];by_cases e2:q=(3,0)
   ·subst e2;rw[Own.af,Own.af]
   rw[Own.ab e2,Own.ab e2];unfold fwO;rw[Own.ab e1]
  have sF:=Jh w12 ro10;simp[c11];exact hK _ _ ⟨View.le_trans hW1 (View.le_trans hW5 (View.le_trans hW7 (View.le_trans hW9 (View.le_trans hW10 w11.wle)))),vo9,f.params,by rw[hE],fun e=>absurd hE e,fun _=>⟨rfl,ip,sF⟩⟩
 have hE:ek f=(ir f).1:=by unfold ek;rw[if_pos he]
 simp[he];refine aE (z:=.agg #[.int .i64 0,.slice none 0 0,.int .i64 0]) (places:=[(0,2),(2,1)]) (vs:=[(1,.int .i64 (ir f).1)]) (cs:=#[.int .i64 0,.slice none 0 0,.int .i64 (ir f).1]) (by kernel_rfl) (by kernel_rfl) (by simp) (by rfl) ?_;refine w3.ez (k:=(3,1)) (e:=T.bE) (B:=R) (D:=RawN.mk (n:=2) [.int .i64 0,.slice none 0 0,.int .i64 0]) Part.all (d:=RawN.mk (n:=2) [.int .i64 0,.slice none 0 0,.int .i64 (ir f).1]) kR (by kernel_rfl) rfl rfl (eP rfl (by intro c hc;simp only[L4,MF,or_false]at hc;rcases hc with rfl | rfl | rfl<;>rfl)) fun h6 w6 _=>?_;have c6:Un.ev (vw h6) (.al 3) (.pointer (some ⟨R,0,none⟩))=some (.agg #[.int .i64 0,.slice none 0 0,.int .i64 (ir f).1]):=w6.dI (k:=(3,1)) (e:=T.bE) (B:=R) (l:=[.int .i64 0,.slice none 0 0,.int .i64 (ir f).1]) (n:=2) Own.af;simp[c6];exact hK _ _ ⟨View.le_trans hW1 w6.wle,.slice none 0 0,0,by rw[hE],fun _=>⟨rfl,rfl⟩,fun e=>absurd (hE.symm.trans e) he⟩
def midE (E:List (Int × Int)) (n:Nat) (a:Int) (d:BlkD):BlkD:=⟨d.phis.map (fun p=>⟨p.dst,p.ins.map (frmE E n a)⟩),d.ins,tmE E n a d.term⟩
structure MidK (l:List BlkD) (ed:List (Int × Int)) (k:Nat) (L:List BlkD):Prop where
 len:L.length=l.length+k
 old : ∀c,c<l.length->nth L c=midE (ed.take k) l.length c (nth l c)
 new : ∀j,j<k->nth L (l.length+j)=eK (nth ed j).2
section
variable {l:List BlkD} {ed:List (Int × Int)}
theorem CG{E:List (Int × Int)}{e:Int × Int}{n:Nat}{a t:Int}(he:e∉E)(h2:e.2<n)(ht:t<n):toE (E++[e]) n a t=if a=e.1 then swS e.2 ((n+E.length:Nat):Int) (toE E n a t) else toE E n a t:=by
 unfold toE swS;rw[sv he];by_cases h1:a=e.1
 ·rw[if_pos h1];by_cases h3:t=e.2
  ·have hn:putE E n a t=none:=by unfold putE;rw[h1,h3,if_neg he]
   rw[if_pos ⟨h1,h3⟩,hn];simp[h3]
  rw[if_neg (fun c=>h3 c.2)];cases hp:putE E n a t with
  | none=>rw[Nd,if_neg h3]
  | some q=>have:=jt hp;rw[Nf,if_neg (by omega)]
 rw[if_neg h1,if_neg (fun c=>h1 c.1)]
theorem Ay{E:List (Int × Int)}{e:Int × Int}{n:Nat}{b:Int}{x:InD}(he:e∉E)(h1:e.1<n)(hx:x.frm<n):frmE (E++[e]) n b x=if b=e.2 then frmS e.1 ((n+E.length:Nat):Int) (frmE E n b x) else frmE E n b x:=by
 unfold frmE frmS;rw[sv he];by_cases h2:b=e.2
 ·rw[if_pos h2];dsimp only;by_cases h3:x.frm=e.1
  ·have hn:putE E n x.frm b=none:=by unfold putE;rw[h2,h3,if_neg he]
   rw[if_pos ⟨h3,h2⟩,hn];simp[h3]
  rw[if_neg (fun c=>h3 c.1)];cases hp:putE E n x.frm b with
  | none=>rw[Nd,if_neg h3]
  | some q=>have:=jt hp;rw[Nf,if_neg (by omega)]
 rw[if_neg h2,if_neg (fun c=>h2 c.2)]
theorem GX:MidK l ed 0 l:=by
 refine⟨rfl,fun c hc=>?_,fun j hj=>absurd hj (MC _)⟩;unfold midE tmE;have e1 : ∀p:PhiD,(⟨p.dst,p.ins.map (frmE (ed.take 0) l.length c)⟩:PhiD)=p:=fun p=>by have:p.ins.map (frmE (ed.take 0) l.length c)=p.ins:=Pj (fun x=>by unfold frmE;rw[NN,v8];rfl) _;rw[this]
 have e2:(nth l c).phis.map (fun p=>(⟨p.dst,p.ins.map (frmE (ed.take 0) l.length c)⟩:PhiD))=(nth l c).phis:=Pj e1 _;have e3:(nth l c).term.to.map (toE (ed.take 0) l.length c)=(nth l c).term.to:=Pj (fun t=>by unfold toE;rw[NN,v8];rfl) _;rw[e2,e3]
theorem FD{k:Nat}{L:List BlkD}(hk:k<ed.length)(hnd:ed.Nodup)(hed : ∀e∈ed,(0<=e.1/\e.1<l.length)/\0<=e.2/\e.2<l.length)(hto : ∀c,c<l.length->∀t∈(nth l c).term.to,t<l.length)(hfr : ∀c,c<l.length->∀p∈(nth l c).phis,∀x∈p.ins,x.frm<l.length)(m:MidK l ed k L):MidK l ed (k+1) (gK L (nth ed k)):=by
 obtain⟨⟨ha0,ha1⟩,hb0,hb1⟩:=hed _ (bc hk);have htk:ed.take (k+1)=ed.take k++[nth ed k]:=by rw[M0,List.getElem?_eq_getElem hk,ak hk];rfl
 have hne:nth ed k∉ed.take k:=by have h1:=hnd;rw[<-List.take_append_drop (k+1) ed,htk]at h1;have h2:=(Nq.1 h1).1;have h3:=(Nq.1 h2).2.2;exact fun hm=>h3 _ hm _ (LM.2 rfl) rfl
 have hlt:(ed.take k).length=k:=by simp;omega
 have hnew:=ak hk;generalize nth ed k=e at *;have g0 : ∀c,c<L.length->nth (L++[eK e.2]) c=nth L c:=fun c hc=>fX hc;have ha:e.1.toNat<(L++[eK e.2]).length:=by rw[LH,LJ,m.len];omega
 have hb:e.2.toNat<(fV L e).length:=by unfold fV;rw[LN,LH,LJ,m.len];omega
 have g1 : ∀c,c<L.length+1->nth (fV L e) c=if e.1.toNat=c then gO (nth (L++[eK e.2]) e.1.toNat) ((nth (L++[eK e.2]) e.1.toNat).term.to.map (swS e.2 L.length)) else nth (L++[eK e.2]) c:=fun c hc=>by unfold fV;rw[aF (by rw[LH,LJ];exact hc)]
 have g2 : ∀c,c<L.length+1->nth (gK L e) c=if e.2.toNat=c then wE e.1 L.length (nth (fV L e) e.2.toNat) else nth (fV L e) c:=fun c hc=>by unfold gK;rw[aF (by unfold fV;rw[LN,LH,LJ];exact hc)]
 refine⟨by rw[tO,m.len];omega,fun c hc=>?_,fun j hj=>?_⟩
 ·have hcL:c<L.length:=by rw[m.len];omega
  have t1:nth (fV L e) c=⟨(nth L c).phis,(nth L c).ins,tmE (ed.take (k+1)) l.length c (nth l c).term⟩:=by
   have tt:(nth l c).term.to.map (toE (ed.take (k+1)) l.length c)=if(c:Int)=e.1 then((nth l c).term.to.map (toE (ed.take k) l.length c)).map (swS e.2 L.length) else(nth l c).term.to.map (toE (ed.take k) l.length c):=by
    by_cases q:(c:Int)=e.1
    ·rw[if_pos q,N4];refine M6 fun t ht=>?_;rw[htk,CG hne hb1 (hto c hc t ht),if_pos q,hlt,m.len];rfl
    rw[if_neg q];refine M6 fun t ht=>?_;rw[htk,CG hne hb1 (hto c hc t ht),if_neg q]
   rw[g1 c (by omega)];unfold tmE;rw[tt];by_cases q:e.1.toNat=c
   ·rw[if_pos q,q,g0 c hcL,if_pos (by omega)];rw[m.old c hc];rfl
   rw[if_neg q,g0 c hcL,if_neg (by omega)];rw[m.old c hc];rfl
  have pp:(nth l c).phis.map (fun p=>(⟨p.dst,p.ins.map (frmE (ed.take (k+1)) l.length c)⟩:PhiD))=if(c:Int)=e.2 then((nth l c).phis.map (fun p=>(⟨p.dst,p.ins.map (frmE (ed.take k) l.length c)⟩:PhiD))).map (phS e.1 L.length) else(nth l c).phis.map (fun p=>(⟨p.dst,p.ins.map (frmE (ed.take k) l.length c)⟩:PhiD)):=by
   by_cases q:(c:Int)=e.2
   ·rw[if_pos q,N4];refine M6 fun p hp=>?_;show(⟨p.dst,_⟩:PhiD)=⟨p.dst,(p.ins.map _).map _⟩;rw[N4];congr 1;refine M6 fun x hx=>?_;rw[htk,Ay hne ha1 (hfr c hc p hp x hx),if_pos q,hlt,m.len];rfl
   rw[if_neg q];refine M6 fun p hp=>?_;congr 1;refine M6 fun x hx=>?_;rw[htk,Ay hne ha1 (hfr c hc p hp x hx),if_neg q]
  rw[g2 c (by omega)];unfold midE;rw[pp];by_cases q:e.2.toNat=c
  ·rw[if_pos q,q,t1,if_pos (by omega),m.old c hc];rfl
  rw[if_neg q,t1,if_neg (by omega),m.old c hc];rfl
 have hj1:l.length+j<L.length+1:=by rw[m.len];omega
 rw[g2 _ hj1,if_neg (by omega),g1 _ hj1,if_neg (by omega)];by_cases q:j=k
 ·subst q;rw[show l.length+j=L.length from m.len.symm,gk];rw[ak hk,<-hnew]
 rw[g0 _ (by rw[m.len];omega)];exact m.new j (by omega)
end
theorem DZ{f:an}(mb:ke f):docF f=(lO f).blocks:=by
 have w:=BJ mb;have hed : ∀e∈gD f,(0<=e.1/\e.1<f.blocks.length)/\0<=e.2/\e.2<f.blocks.length:=fun e he=>by have:=(et.1 (w.hed e he)).1;omega
 have hpr : ∀c i,c<f.blocks.length->i<(nth f.blocks c).phis.length->((nth (nth f.blocks c).phis i).ins.map InD.frm).Nodup/\∀x∈(nth (nth f.blocks c).phis i).ins,0<=x.frm/\x.frm<f.blocks.length:=fun c i hc hi=>by
  have h:=(mb.phi c i hc hi).2.1;refine⟨by rw[h];exact rI.imp fun h=>Int.ne_of_lt h,fun x hx=>?_⟩;have:x.frm∈bf f c:=by rw[<-h];exact Nu hx
  exact(mP.1 this).1
 have hall : ∀k,k<=(gD f).length->MidK f.blocks (gD f) k (docK f.blocks (gD f) k):=fun k=>by
  induction k with
  | zero=>exact fun _=>GX
  | succ k ih=>intro hk;rw[mU (by omega)];refine FD (by omega) w.hnd hed (fun c hc t ht=>(w.hto c hc t ht).2) (fun c hc p hp x hx=>?_) (ih (by omega));obtain⟨i,hi,rfl⟩:=LQ hp;rw[<-ak hi]at hx;exact((hpr c i hc hi).2 x hx).2
 have m:=hall _ (LG _);have hlen:=m.len;unfold docF;refine MJ (by rw[L6,hlen];exact eO.symm) fun c h1 h2=>?_;have hc:c<f.blocks.length+(gD f).length:=by rw[L6,hlen]at h1;exact h1
 rw[NC,<-ak h2,<-ak (show c<(docK f.blocks (gD f) (gD f).length).length by omega)];show _=nth (onE (gD f) f).blocks c;rcases LI c f.blocks.length with lc | lc
 ·rw[m.old c lc,nL lc,MK];unfold kq midE blE;congr 1;rw[N4];refine M6 fun p hp=>?_;obtain⟨i,hi,rfl⟩:=LQ hp;rw[<-ak hi];have q:=hpr c i lc hi;show(⟨_,j9 ((nth (nth f.blocks c).phis i).ins.map _) _⟩:PhiD)=phE _ _ _ _;unfold phE;rw[<-HU (qz q.1 q.2)]
 obtain⟨j,rfl⟩ : ∃j,c=f.blocks.length+j:=⟨c-f.blocks.length,by omega⟩;rw[m.new j (by omega),kK (by omega)];rfl
theorem Cb{f g:an}{v u:Value}{h:Heap}(hv:Rd (vw h) v f)(hu:Rd (vw h) u g)(smf:SmF f)(smg:SmF g):az Tryz.prog N.gZ #[v,u] h (fun r h'=>r = .bool ((Bt f).toList == (Bt g).toList)/\(vw h).le (vw h')):=by refine aq (args:=[v,u]) follows F.gZ E.gZ (LD (by kernel_rfl)) fun Kc hK=>?_;dsimp only[L.gZ];refine aa fun z hz=>?_;simp;refine gm rfl hv fun h1 _ hle1 _ hat1=>?_;refine gm rfl (hu.mono hle1) fun h2 _ hle2 _ hat2=>?_;generalize h.size=B at hat1;generalize h1.size=C at hat2;obtain⟨u1,l1,r1⟩:=(hat1.mono hle2).al rfl;obtain⟨u2,l2,r2⟩:=hat2.al rfl;have l1:Un.ev (vw h2) (.al 2) (.pointer (some ⟨B,0,none⟩))=some u1:=l1;have l2:Un.ev (vw h2) (.al 2) (.pointer (some ⟨C,0,none⟩))=some u2:=l2;subst hz;refine aa fun z hz=>?_;refine bF (vw h2) (View.le_refl _) ?_;simp[l1,l2];refine aj (by kernel_rfl) (tJ r1 smf) ?_;rintro _ h3 ⟨rfl,t3⟩;refine⟨t3,?_⟩;refine aj (by kernel_rfl) (tJ (r2.mono t3) smg) ?_;rintro _ h4 ⟨rfl,t4⟩;simp[I8];subst hz;simp;exact hK _ _ ⟨rfl,View.le_trans hle1 (View.le_trans hle2 (View.le_trans t3 t4))⟩
theorem HL{W:View}{h:Heap}{o:Own}{k:Key}{e:TypeId}{B:Nat}{x y z:Value}(w:Owns W h o)(hk:o k=bx e B (RawN.mk (n:=2) [x,y,z])):Un.ev (vw h) (.al 2) (.pointer (some ⟨B,0,none⟩))=some (.agg #[x,y]):=by have a:=(w.at hk).part (RawN.pm (n:=2) (m:=1) (o:=0) (by decide));obtain⟨v,h1,h2⟩:=a.al rfl;obtain⟨cs,rfl,e1,_⟩:=h2;have e1:cs.toList=[x,y]:=e1;have h1:Un.ev (vw h) (.al 2) (.pointer (some ((⟨B,0,none⟩:Addr).add 0)))=_:=h1;rw[vD]at h1;have e2:cs = #[x,y]:=LZ.1 e1;rw[h1,e2]
theorem yR{H:View}:Rd H (.agg #[.int .i64 0,.slice none 0 0]) (an.mk 0 []):=⟨_,rfl,[.int .i64 0],[.slice none 0 0],rfl,⟨rfl,by decide,by decide⟩,_,rfl,fo⟩
theorem CY:SmF (an.mk 0 []):=⟨NA _,fun i hi=>absurd hi (MC _)⟩
theorem pA{f:an}{v:Value}{h:Heap}(hv:Rd (vw h) v f)(sm:SmF f)(h12:f.blocks.length<=12):az Tryz.prog N.gl #[v] h (fun u h'=>u = .bool true/\(vw h).le (vw h')):=by
 refine aq (args:=[v]) follows F.gl E.gl (LD (by kernel_rfl)) fun Kc hK=>?_;dsimp only[L.gl];refine aa fun z hz=>?_;simp;refine Owns.ru (Owns.start (View.le_refl (vw h))) (d:=f) rfl hv fun B h1 W1 hW1 w1 hat hle1=>?_;obtain⟨uf,huf,rf⟩:=hat.al rfl;have huf:Un.ev W1 (.al 2) (.pointer (some ⟨B,0,none⟩))=some uf:=huf;have hufm : ∀{H:View},W1.le H->Un.ev H (.al 2) (.pointer (some ⟨B,0,none⟩))=some uf:=fun hH=>by have:=cV (ρ:=fun _=>none) (e:=.un (.al 2) (.con (.pointer (some ⟨B,0,none⟩)))) hH (by simpa using huf);simpa using this
 subst hz;refine aa fun z hz=>?_;simp[hufm w1.wle];have hc:az Tryz.prog N.bQ #[uf] h1 (fun u h2=>∃W2 g vb o2,W1.le W2/\Owns W2 h2 o2/\o2 (20,0)=none/\o2 (20,1)=none/\u = .tuple #[.agg #[.int .i64 g.params,vb],.int .i64 (ek f)]/\Rd W2 (.agg #[.int .i64 g.params,vb]) g/\SmF g/\(ek f≠0->g=⟨0,[]⟩)/\(ek f=0->g=lO f)):=by
  refine(rh 0 w1 (fun _ _ _=>rfl) rf sm fun e=>Jn (zk e) h12).mono ?_;rintro u h2 ⟨W2,hW2,⟨hne,rfl,w2⟩ | ⟨he,o2,vb,V,rfl,ip,w2,g2,fr2⟩⟩
  ·exact⟨W2,⟨0,[]⟩,.slice none 0 0,_,hW2,w2,rfl,rfl,rfl,yR,CY,fun _=>rfl,fun e=>absurd e hne⟩
  obtain⟨W3,hW3,w3,s3⟩:=g2.freeze w2;have mb:ke f:=zk (by
   unfold ek at he;by_cases c:(ir f).1=0
   ·exact c
   rw[if_pos c]at he;exact absurd he c);have hm:f.blocks.length+(gD f).length<=512:=by have:=(Es mb he).blocks.2;unfold lO at this;rw[eO]at this;exact this
  exact⟨W3,lO f,vb,_,View.le_trans hW2 hW3,w3,(if_neg (by decide)).trans (fr2 _ (by simp)),(if_neg (by decide)).trans (fr2 _ (by simp)),by rw[he];rfl,⟨_,rfl,[.int .i64 f.params],[vb],rfl,⟨rfl,ip⟩,vb,rfl,s3⟩,E1 sm (by omega),fun e=>absurd he e,fun _=>rfl⟩
 refine aj (by kernel_rfl) hc ?_;rintro _ h2 ⟨W2,g,vb,o2,hW2,w2,k20,k21,rfl,rg,smg,hg1,hg2⟩;simp;refine w2.nI (k:=(20,0)) (α:=an) (n:=2) k20 rg rfl (z:=.agg #[.int .i64 0,.slice none 0 0]) (by kernel_rfl) rfl (by kernel_rfl) (by decide) (fun _=>by simp) (fun _=>by simp) fun h3 q3 w3=>?_;generalize h2.size=C at w3;subst hz;refine aa fun z hz=>?_;simp[hufm (View.le_trans hW2 w3.wle)];refine aj (by kernel_rfl) (AS (rf.mono (View.le_trans hW2 w3.wle)) sm) ?_;rintro _ h4 ⟨q4,vb4,ps4,rfl,g4a,g4b⟩;have w4:=w3.ext' q4;have hvb4:vb4.oneCell'=true:=by
  by_cases e:ek f=0
  ·exact(g4b e).2.2.cells.2
  rw[(g4a e).2];rfl
 refine w4.mI (k:=(20,1)) (n:=2) (l:=[.int .i64 ps4,vb4,.int .i64 (ek f)]) (by rw[Own.ab (by simp)];exact k21) (z:=.agg #[.int .i64 0,.slice none 0 0,.int .i64 0]) (by kernel_rfl) rfl (by kernel_rfl) rfl (by decide) (by intro c hc;simp only[L4,MF,or_false]at hc;rcases hc with rfl | rfl | rfl<;>first | rfl | exact hvb4) (fun _=>by simp) (fun _=>by simp) fun h5 q5 w5=>?_;generalize h4.size=D at w5;have hF : ∃r,Rd (vw h5) (.agg #[.int .i64 ps4,vb4]) r/\r=g:=by
  by_cases e:ek f=0
  ·obtain⟨e1,ip,s4⟩:=g4b e;have mb:ke f:=zk (by
    unfold ek at e;by_cases c:(ir f).1=0
    ·exact c
    rw[if_pos c]at e;exact absurd e c);rw[DZ mb]at s4;rw[hg2 e,e1];exact⟨lO f,⟨_,rfl,[.int .i64 f.params],[vb4],rfl,⟨rfl,ip⟩,vb4,rfl,s4.mono q5⟩,rfl⟩
  obtain⟨rfl,rfl⟩:=g4a e;rw[hg1 e];exact⟨_,yR,rfl⟩
 obtain⟨_,rF,eg⟩:=hF;rw[eg]at rF;have c5:ao (vw h5) ⟨D,2,none⟩=some (.int .i64 (ek f)):=w5.raw (k:=(20,1)) (n:=2) Own.af (i:=2) (by decide);have l5:=HL w5 (k:=(20,1)) Own.af;obtain⟨ug,hug,rug⟩:=Owns.ldW w5 (k:=(20,0)) (v:=.slice (some ⟨C,0,none⟩) 1 1) (l:=[g]) (by rw[Own.ab (by simp),Own.af];rfl) rfl (N:=2) rfl (i:=0) (by simp);have hug:Un.ev (vw h5) (.al 2) (.pointer (some ⟨C,0,none⟩))=some ug:=by simpa[slA]using hug
 have rug:Rd W2 ug g:=rug;subst hz;refine aa fun z hz=>?_;simp[c5,l5,hug];refine aj (by kernel_rfl) (Cb (rug.mono w5.wle) rF smg smg) ?_;rintro _ h6 ⟨rfl,q6⟩;simp;subst hz;simp;exact hK _ _ ⟨rfl,View.le_trans hW1 (View.le_trans hW2 (View.le_trans w3.wle (View.le_trans q4 (View.le_trans q5 q6))))⟩
theorem wT{s:List Int}{q:Cat Q3 Q3}{v vq:Value}{h:Heap}(hs:SlRd (vw h) v s)(hq:Rd (vw h) vq q):az Tryz.prog N.dE #[v,vq] h (fun u h'=>u = .bool true/\(vw h).le (vw h')):=by
 refine aq (args:=[v,vq]) follows F.dE E.dE (LD (by kernel_rfl)) fun Kc hK=>?_;dsimp only[L.dE];refine aa fun z hz=>?_;simp;refine(Owns.start (h:=h) (View.le_refl (vw h))).ru (d:=q) rfl hq fun X h0 W0 hW0 w0 hat hle0=>?_;obtain⟨ha,hb⟩:=hat.cat;obtain⟨t0,e0,r0⟩:=ha.al rfl;obtain⟨t1,e1,r1⟩:=hb.al rfl;have e0:Un.ev W0 (.al 3) (.pointer (some ⟨X,0,none⟩))=some t0:=e0;have e1:Un.ev W0 (.al 3) (.pointer (some ⟨X,3,none⟩))=some t1:=e1;obtain⟨rfl,a0,b0,c0⟩:=CH r0;obtain⟨rfl,a1,b1,c1⟩:=CH r1;have x0:Bn.ev (.aidx 2 3) (.pointer (some ⟨X,0,none⟩)) (.int .i64 0)=some (.pointer (some ⟨X,0,none⟩)):=rfl;have x1:Bn.ev (.aidx 2 3) (.pointer (some ⟨X,0,none⟩)) (.int .i64 1)=some (.pointer (some ⟨X,3,none⟩)):=rfl;have up : ∀{H:View} {a:Addr} {u:Value},W0.le H->Un.ev W0 (.al 3) (.pointer (some a))=some u->Un.ev H (.al 3) (.pointer (some a))=some u:=fun hH e=>by have:=cV (ρ:=fun _=>none) (e:=.un (.al 3) (.con (.pointer (some _)))) hH (by simpa using e);simpa using this
 subst hz;refine aa fun z hz=>?_;simp;refine aj (by kernel_rfl) D4 ?_;rintro _ h1 ⟨rfl,q1⟩;have w1:=w0.ext' q1;subst hz;refine aa fun z hz=>?_;simp;refine aj (by kernel_rfl) (EC ((hs.mono hW0).mono w1.wle)) ?_;rintro us _ ⟨rfl,s1⟩;refine aj (by kernel_rfl) (Hr (Owns.start (View.le_refl _)) (fun _ _=>rfl) s1) ?_;rintro uf h2 ⟨W2,hW2',w2,r2⟩;have hW2:=View.le_trans w1.wle hW2'
 generalize s.take 400=s' at r2;have tf:=HS (s:=s');generalize qS s'=f at r2 tf;refine w2.nI (k:=(20,0)) (α:=an) (n:=2) rfl r2 rfl (z:=.agg #[.int .i64 0,.slice none 0 0]) (by kernel_rfl) rfl (by kernel_rfl) (by decide) (fun _=>by simp) (fun _=>by simp) fun h3 q3 w3=>?_;generalize h2.size=B at w3;obtain⟨uf3,huf3,ruf3⟩:=Owns.ldW w3 (k:=(20,0)) (v:=.slice (some ⟨B,0,none⟩) 1 1) (l:=[f]) Own.af rfl (N:=2) rfl (i:=0) (by simp);have huf3:Un.ev (vw h3) (.al 2) (.pointer (some ⟨B,0,none⟩))=some uf3:=by simpa[slA]using huf3
 have ruf3:Rd W2 uf3 f:=ruf3;subst hz;refine aa fun z hz=>?_;simp[huf3,x0,up (View.le_trans hW2 w3.wle) e0];refine aj (by kernel_rfl) (xB w3 (fun k hk=>(Own.ab (by rintro rfl;simp at hk)).trans rfl) ruf3 tf (by omega) a0 b0 c0) ?_;rintro ug h4 ⟨W4,g,hW4,w4,tg,r4⟩;refine w4.nI (k:=(20,1)) (α:=an) (n:=2) (Own.ab (by simp)) r4 rfl (z:=.agg #[.int .i64 0,.slice none 0 0]) (by kernel_rfl) rfl (by kernel_rfl) (by decide) (fun _=>by simp) (fun _=>by simp) fun h5 q5 w5=>?_;generalize h4.size=C at w5;have k50:((Own.upd (fun _=>none) (20,0) (bx T.ar B f)).upd (20,1) (bx T.ar C g)) (20,0)=bx T.ar B f:=by rw[Own.ab (by simp),Own.af]
 have k51:((Own.upd (fun _=>none) (20,0) (bx T.ar B f)).upd (20,1) (bx T.ar C g)) (20,1)=bx T.ar C g:=Own.af;have klow : ∀k:Key,k.1<10->((Own.upd (fun _=>none) (20,0) (bx T.ar B f)).upd (20,1) (bx T.ar C g)) k=none:=fun k hk=>by rw[Own.ab (by rintro rfl;simp at hk),Own.ab (by rintro rfl;simp at hk)]
 generalize (Own.upd (fun _=>none) (20,0) (bx T.ar B f)).upd (20,1) (bx T.ar C g)=o5 at w5 k50 k51 klow;obtain⟨uf,huf,ruf⟩:=Owns.ldW w5 (k:=(20,0)) (v:=.slice (some ⟨B,0,none⟩) 1 1) (l:=[f]) k50 rfl (N:=2) rfl (i:=0) (by simp);have huf:Un.ev (vw h5) (.al 2) (.pointer (some ⟨B,0,none⟩))=some uf:=by simpa[slA]using huf
 have ruf:Rd W4 uf f:=ruf;subst hz;simp[huf];refine aj (by kernel_rfl) (pA (ruf.mono w5.wle) (tf.sm (by omega)) tf.len) ?_;rintro _ h6 ⟨rfl,q6⟩;have w6:=w5.ext' q6;obtain⟨ug6,hug6,rug6⟩:=Owns.ldW w6 (k:=(20,1)) (v:=.slice (some ⟨C,0,none⟩) 1 1) (l:=[g]) k51 rfl (N:=2) rfl (i:=0) (by simp);have hug6:Un.ev (vw h6) (.al 2) (.pointer (some ⟨C,0,none⟩))=some ug6:=by simpa[slA]using hug6
 have rug6:Rd W4 ug6 g:=rug6;simp[hug6];refine aj (by kernel_rfl) (pA (rug6.mono w6.wle) (tg.sm (by omega)) tg.len) ?_;rintro _ h7 ⟨rfl,q7⟩;have w7:=w6.ext' q7;obtain⟨ug7,hug7,rug7⟩:=Owns.ldW w7 (k:=(20,1)) (v:=.slice (some ⟨C,0,none⟩) 1 1) (l:=[g]) k51 rfl (N:=2) rfl (i:=0) (by simp);have hug7:Un.ev (vw h7) (.al 2) (.pointer (some ⟨C,0,none⟩))=some ug7:=by simpa[slA]using hug7
 have rug7:Rd W4 ug7 g:=rug7;simp[hug7,x1,up (View.le_trans hW2 (View.le_trans hW4 w7.wle)) e1];refine aj (by kernel_rfl) (xB w7 klow rug7 tg (by omega) a1 b1 c1) ?_;rintro ut h8 ⟨W8,t,hW8,w8,tt,r8⟩;refine aj (by kernel_rfl) (pA (r8.mono w8.wle) (tt.sm (by omega)) tt.len) ?_;rintro _ h9 ⟨rfl,q9⟩;simp;refine aE (z:=.agg #[.int .i64 0,.slice none 0 0]) (places:=[(0,1),(1,1)]) (vs:=[]) (cs:=#[.int .i64 0,.slice none 0 0]) (by kernel_rfl) (by kernel_rfl) (by simp) (by rfl) ?_;refine aj (by kernel_rfl) (pA yR CY (NA _)) ?_;rintro _ h10 ⟨rfl,q10⟩;exact hK _ _ ⟨rfl,View.le_trans hW0 (View.le_trans hW2 (View.le_trans hW4 (View.le_trans hW8 (View.le_trans w8.wle (View.le_trans q9 q10)))))⟩
section
open Go Go.Lft Go.ChangeShapes Go.WideShapes Go.ChangeAt Go.RowKit
theorem yi{P:Program}{t e:TypeId}{H:Type}{enc:TypeId × Value->H}{W:World}{spare:Nat->Bool}{held:Bool}{fuel:Nat}{cs:List Value}{x:DataW H × List MemPlace}(ht:P.underlying t=some (.array 3 e))(he:P.underlying e=some (.int .i64))(hc:P.cellsOf e=1)(hc2:P.cellsOf t=3)(h:DataW.trod enc P W 0 spare held fuel t cs=some x): ∃x:Q3,Rep.rd (vw W.heap) cs x:=by
 obtain⟨xs,m,_,_,hl,hxl,hget⟩:=DataW.trod_array ht h;rw[hc2]at hl;match cs,hl with
 | [u,v,w],_=>have h0:=hget 0 (by omega);have h1:=hget 1 (by omega);have h2:=hget 2 (by omega);rw[hc,List.getElem?_eq_getElem (by omega)]at h0 h1 h2;obtain⟨a,e1,w1⟩:=trod_int he h0;obtain⟨b,e2,w2⟩:=trod_int he h1;obtain⟨c,e3,w3⟩:=trod_int he h2;simp at e1 e2 e3;subst e1;subst e2;subst e3;exact⟨⟨a,b,c⟩,[.int .i64 a],[.int .i64 b,.int .i64 c],rfl,⟨rfl,wf_i64 w1⟩,[.int .i64 b],[.int .i64 c],rfl,⟨rfl,wf_i64 w2⟩,rfl,wf_i64 w3⟩
theorem Kw{P:Program}{t r e:TypeId}(ht:P.underlying t=some (.array 2 r))(hr:P.underlying r=some (.array 3 e))(he:P.underlying e=some (.int .i64))(hc:P.cellsOf e=1)(hc2:P.cellsOf r=3)(hc3:P.cellsOf t=6):RT P t (Cat Q3 Q3) where
 cells:=fun{H enc W spare held fuel cs d ps} h _=>by
  obtain⟨xs,m,_,_,hl,hxl,hget⟩:=DataW.trod_array ht h
  rw[hc3]at hl
  match cs,hl with
  | [u,v,w,x,y,z],_=>
   have h0:=hget 0 (by omega)
   have h1:=hget 1 (by omega)
   rw[hc2,List.getElem?_eq_getElem (by omega)]at h0 h1
   obtain⟨a,r1⟩:=yi hr he hc hc2 h0
   obtain⟨b,r2⟩:=yi hr he hc hc2 h1
   exact⟨⟨a,b⟩,[u,v,w],[x,y,z],rfl,r1,r2⟩
 val:=fun{W r base v} h=>by
  simp only[Value.okWide,ht]at h
  obtain⟨cs,rfl,_⟩:=h
  exact⟨cs,rfl⟩
theorem rtQQ:RT Tryz.prog T.AO (Cat Q3 Q3):=Kw (r:=T.mH) (e:=T.int) (by kernel_rfl) (by kernel_rfl) (by kernel_rfl) (by kernel_rfl) (by kernel_rfl) (by kernel_rfl)
theorem Tryz.qP:Tryz.f3.params = #[T.aS,T.AO]:=by kernel_rfl
theorem pT(os:Os)(started:os.Started)(H:Type)(enc:TypeId × Value->H):
  ReturnsInHanded {} Tryz.checked os 3 .any (Rows.splitTellsSpec.pre6 enc Tryz.prog Tryz.f3 Rows.splitTellsRow.domain false) (Rows.splitTellsSpec.post enc Tryz.prog Tryz.f3 false true false false):=
 law2 (C:=Tryz.checked) Tryz.own started (by kernel_rfl) Tryz.func3 rfl
  (ChangeSpec.witness6 (enc:=enc) (C:=Tryz.checked) false ⟨#[],#[.slice none 0 0,.agg #[.int .i64 0,.int .i64 0,.int .i64 0,.int .i64 0,.int .i64 0,.int .i64 0]],[]⟩ 8 (by kernel_rfl) (by kernel_rfl) (by kernel_rfl) (by kernel_rfl))
  Tryz.laidOut (fun t ht=>by rw[Tryz.qP]at ht;simp only[L4,MF,or_false]at ht;rcases ht with rfl | rfl<;>exact⟨by kernel_rfl,of_decide_eq_true (by kernel_rfl)⟩) rfl
  (fun ds hds=>by
   match ds,hds with
   | [a,b],_=>rfl) rfl (tb:=4) (by kernel_rfl) Tryz.qP rtIs rtQQ fun h v1 x1 v2 x2 h1 h2=>wT (fy.1 h1) h2
theorem stells_holds:Rows.SplitTellsSaid:=
 OpenClaim.holds_of_wide 3 Tryz.f3 rfl rfl rfl rfl rfl rfl rfl ⟨rfl,rfl,rfl,rfl,rfl⟩ rfl rfl rfl rfl rfl (by kernel_rfl) Tryz.func3 (by kernel_rfl)
  (of_decide_eq_true (by kernel_rfl)) (by unfold Func.isWrapper;first | (rw[if_pos (by decide +kernel)];kernel_rfl) | (rw[if_neg (by decide +kernel)];exact⟨rfl,rfl⟩))
  (fun os started H enc _=>pT os started H enc)
end
end Go.Proofs.YtbkdlhkoiagbbaaGreat
