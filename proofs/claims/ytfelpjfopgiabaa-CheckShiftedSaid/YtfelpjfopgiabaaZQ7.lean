/- For every input CheckShifted returns true: which numbers values have plays no part, as long as they are below the greatest one; nor for what is foldable. No condition. -/
import Derived.Test.YtfelpjfopgiabaaZQ6
import Derived.Test.YtfelpjfopgiabaaRows
set_option linter.unusedSimpArgs false
set_option linter.unusedVariables false
namespace Go.Proofs.Ytfelpjfopgiabaa
open Go Go.Lft
set_option maxHeartbeats 4000000 in
theorem p9 {f:ak} {c:Nat} {v:Value} {q0 q1 q2:Int} {h:Heap} {W:View} {o0:Own} (w0:Owns W h o0) (ho0 : ∀ k:Key,k.1<10→o0 k=none) (hv:Rd W v f) (hf:TF c f) (hc:c≤5000) (i0:I64 q0) (i1:I64 q1) (i2:I64 q2) :
  aG Try.prog N.dT #[v,.agg #[.int .i64 q0,.int .i64 q1,.int .i64 q2]] h (fun u h'=>∃ W' f',W.le W'∧Owns W' h' o0∧TF (c+1) f'∧Rd W' u f'):=by
 refine ay (args:=[v,.agg #[.int .i64 q0,.int .i64 q1,.int .i64 q2]]) follows F.dT E.dT (Nat.le_of_ble_eq_true (by kernel_rfl)) fun K hK=>?_
 dsimp only [L.dT]
 obtain ⟨vbs,rfl,ips,sbl⟩ : ∃ vbs,v = .agg #[.int .i64 f.params,vbs]∧I64 f.params∧SlRd W vbs f.blocks:=by
  obtain ⟨cs,rfl,c1,r1,e1,⟨rfl,h1⟩,vb,h2,h3⟩:=hv
  exact ⟨vb,by rw [←Array.toList_inj.1 ((by rw [e1,h2];rfl):cs.toList = #[Value.int .i64 f.params,vb].toList)],h1,h3⟩
 refine aa fun z hz=>?_
 simp
 refine jY (v:=.agg #[.int .i64 f.params,vbs]) rfl ?_
 have hb1:(h.push (.cells (Value.agg #[.int .i64 f.params,vbs]).cells T.aE))[h.size]? = some (.cells (Value.agg #[.int .i64 f.params,vbs]).cells T.aE (0,0)):=by simp
 have hle1:=bM h (.cells (Value.agg #[.int .i64 f.params,vbs]).cells T.aE)
 generalize h.push (.cells (Value.agg #[.int .i64 f.params,vbs]).cells T.aE)=h1 at hb1 hle1
 have hvbs:=sbl.cells.2
 have w1:=w0.add (k:=(8,1)) (ho0 _ (by decide)) (jy (W:=W) (d:=RawN.mk (n:=1) [.int .i64 f.params,vbs]) hb1 (e9 rfl (by intro c hc;simp only [List.mem_cons,List.not_mem_nil,or_false] at hc;rcases hc with rfl | rfl<;>first | rfl | exact hvbs)) (by decide)) hle1 (fun b hb=>by simp only [Value.ownBlock,Option.some.injEq] at hb;omega)
 generalize h.size=F at w1
 refine jY (v:=.agg #[.int .i64 q0,.int .i64 q1,.int .i64 q2]) rfl ?_
 have hb2:(h1.push (.cells (Value.agg #[.int .i64 q0,.int .i64 q1,.int .i64 q2]).cells T.kt))[h1.size]? = some (.cells (Value.agg #[.int .i64 q0,.int .i64 q1,.int .i64 q2]).cells T.kt (0,0)):=by simp
 have hle2:=bM h1 (.cells (Value.agg #[.int .i64 q0,.int .i64 q1,.int .i64 q2]).cells T.kt)
 generalize h1.push (.cells (Value.agg #[.int .i64 q0,.int .i64 q1,.int .i64 q2]).cells T.kt)=h2 at hb2 hle2
 have w2:=w1.ext hle2
 have hg2:grow W h1 h2 h1.size=some (.cells (([q0,q1,q2]:List Int).map fun x=>Value.int .i64 x).toArray T.kt (0,0)):=by
  rw [cQ (Nat.le_refl _),hb2];rfl
 have sq:SlRd (grow W h1 h2) (.slice (some ⟨h1.size,0,none⟩) 3 3) [q0,q1,q2]:=y7 hg2 rfl (by decide) (by intro x hx;simp only [List.mem_cons,List.not_mem_nil,or_false] at hx;rcases hx with rfl | rfl | rfl<;>assumption)
 have hW2:=aX (h':=h2) w1.wle
 generalize grow W h1 h2=W2 at w2 sq hW2
 generalize h1.size=Q at sq
 refine w2.jj (k:=(8,0)) (n:=1) (z:=.agg #[.int .i64 0,.slice none 0 0]) (by rw [Own.ab (by simp)];exact ho0 _ (by decide)) (by kernel_rfl) rfl (by decide) (by simp [Value.cells,Value.oneCell']) fun h3 q3 w3=>?_
 generalize h2.size=R at w3
 have hsb2:=sbl.mono hW2
 clear hb1 hle1 hb2 hle2 hg2 w1 w2 q3
 rw [hz];clear hz z
 refine aa fun z hz=>?_
 simp
 refine w3.cz (k:=(3,0)) (α:=BlkD) (by rw [Own.ab (by simp),Own.ab (by simp)];exact ho0 _ (by decide)) El.fB fun v4 h4 hle4 hv4 w4 _=>?_
 have c4:an (vw h4) ⟨F,1,none⟩=some vbs:=w4.raw (k:=(8,1)) (e:=T.aE) (n:=1) (l:=[.int .i64 f.params,vbs]) (by rw [Own.ab (by simp),Own.ab (by simp),Own.ag];rfl) (i:=1) (by decide)
 simp [c4]
 have hbl:=hf.len
 refine w4.bu (k:=(3,0)) (α:=BlkD) (l:=([]:List BlkD)) (l2:=f.blocks) Own.ag El.fB rfl rfl (hsb2.src w4.wle) (by simp;omega) (by simp;omega) fun vbk h5 w5 _=>?_
 rw [List.nil_append] at w5
 have hvk:=(w5.cells (k:=(3,0)) Own.ag).2
 rw [hz];clear hz z
 refine aa fun z hz=>?_
 simp
 refine w5.bs (k:=(8,1)) (n:=1) (i:=1) (e:=T.aE) (B:=F) (l:=[.int .i64 f.params,vbs]) (by rw [Own.ab (by simp),Own.ab (by simp),Own.ab (by simp),Own.ag];rfl) (by decide) (by kernel_rfl) rfl rfl hvk fun h6 w6 _=>?_
 obtain ⟨o6,ho6⟩ : ∃ o6:Own,o6=fun k=>if k=(8,0) then bx T.aE R (RawN.mk (n:=1) [.int .i64 0,.slice none 0 0]) else if k=(8,1) then bx T.aE F (RawN.mk (n:=1) [.int .i64 f.params,vbk]) else if k=(3,0) then it T.ao vbk f.blocks else o0 k:=⟨_,rfl⟩
 have w6:Owns W2 h6 o6:=w6.congr fun k=>by
  rw [ho6]
  unfold Own.upd
  repeat' split
  all_goals first | rfl | simp_all
 clear w5 w4 w3 c4
 have hlen : ∀ {Q:View},Un.ev Q .len vbk=some (.int .i64 f.blocks.length):=fun {Q}=>(w6.now (k:=(3,0)) (v:=vbk) (l:=f.blocks) (by rw [ho6];rfl)).len
 rw [hz];clear hz z
 refine aa fun z hz=>?_
 refine aa fun y hy=>?_
 simp [hlen]
 rw [hy];clear hy y
 by_cases c0:f.blocks.length=0
 ·have c0':f.blocks=[]:=List.eq_nil_of_length_eq_zero c0
  refine aA (by simp [c0,c0']) ?_
  refine aa fun y hy=>?_
  have ca:=w6.dz (k:=(8,1)) (n:=1) (l:=[.int .i64 f.params,vbk]) (e:=T.aE) (B:=F) (by rw [ho6];rfl)
  have ca:Un.ev (vw h6) (.al 2) (.pointer (some ⟨F,0,none⟩))=some (.agg #[.int .i64 f.params,vbk]):=ca
  simp [ca]
  refine w6.fj (k:=(8,0)) (α:=RawN 1) (β:=RawN 1) Part.all (B:=R) (D:=RawN.mk (n:=1) [.int .i64 0,.slice none 0 0]) (d:=RawN.mk (n:=1) [.int .i64 f.params,vbk]) (by rw [ho6];rfl) (by kernel_rfl) rfl rfl (e9 rfl (by intro c hc;simp only [List.mem_cons,List.not_mem_nil,or_false] at hc;rcases hc with rfl | rfl<;>first | rfl | exact hvk)) fun h7 w7 _=>?_
  have cb:=w7.dz (k:=(8,0)) (n:=1) (l:=[.int .i64 f.params,vbk]) Own.ag
  have cb:Un.ev (vw h7) (.al 2) (.pointer (some ⟨R,0,none⟩))=some (.agg #[.int .i64 f.params,vbk]):=cb
  have sb7:=w7.now (k:=(3,0)) (v:=vbk) (l:=f.blocks) (by rw [Own.ab (by simp),ho6];rfl)
  rw [hy];clear hy y
  simp [cb]
  obtain ⟨w8,s8⟩:=w7.freeze (k:=(3,0)) (v:=vbk) (l:=f.blocks) (by rw [Own.ab (by simp),ho6];rfl)
  have hW8:=dm (h:=h7) (w7.av (3,0) ⟨_,_,T.ao,vbk,f.blocks⟩ (by rw [Own.ab (by simp),ho6];rfl))
  have w9:=w8.sub (o':=o0) fun k i hk=>by
   rcases Nat.lt_or_ge k.1 10 with e | e
   ·rw [ho0 k e] at hk;cases hk
   ·rw [Own.ab (by rintro rfl;simp at e),Own.ab (by rintro rfl;simp at e),ho6]
    dsimp only
    rw [if_neg (by rintro rfl;simp at e),if_neg (by rintro rfl;simp at e),if_neg (by rintro rfl;simp at e)];exact hk
  exact hK _ _ ⟨_,f,View.le_trans hW2 hW8,w9,hf.mono (by omega),⟨_,rfl,[.int .i64 f.params],[vbk],rfl,⟨rfl,ips⟩,vbk,rfl,s8⟩⟩
 have c0':¬f.blocks=[]:=fun e=>c0 (by rw [e];rfl)
 refine ax (by simp [c0']) ?_
 simp
 rw [hz];clear hz z
 refine aa fun z hz=>?_
 simp
 refine AF (n:=3) (e:=T.int) (sz:=1) U.kt (by kernel_rfl) rfl ?_
 refine aL (z:=.agg #[.slice none 0 0,.int .i64 0,.int .i64 0,.slice none 0 0,.int .i64 0,.slice none 0 0]) (places:=[(0,1),(1,1),(2,2),(4,1),(5,1)]) (vs:=[(0,.slice (some ⟨Q,0,none⟩) 3 3)]) (cs:=#[.slice (some ⟨Q,0,none⟩) 3 3,.int .i64 0,.int .i64 0,.slice none 0 0,.int .i64 0,.slice none 0 0]) (by kernel_rfl) (by kernel_rfl) (by simp) (by rfl) ?_
 refine jY (v:=.agg #[.slice (some ⟨Q,0,none⟩) 3 3,.int .i64 0,.int .i64 0,.slice none 0 0,.int .i64 0,.slice none 0 0]) rfl ?_
 have hbx:(h6.push (.cells (Value.agg #[.slice (some ⟨Q,0,none⟩) 3 3,.int .i64 0,.int .i64 0,.slice none 0 0,.int .i64 0,.slice none 0 0]).cells T.aK))[h6.size]? = some (.cells (Value.agg #[.slice (some ⟨Q,0,none⟩) 3 3,.int .i64 0,.int .i64 0,.slice none 0 0,.int .i64 0,.slice none 0 0]).cells T.aK (0,0)):=by simp
 have hle7:=bM h6 (.cells (Value.agg #[.slice (some ⟨Q,0,none⟩) 3 3,.int .i64 0,.int .i64 0,.slice none 0 0,.int .i64 0,.slice none 0 0]).cells T.aK)
 generalize h6.push (.cells (Value.agg #[.slice (some ⟨Q,0,none⟩) 3 3,.int .i64 0,.int .i64 0,.slice none 0 0,.int .i64 0,.slice none 0 0]).cells T.aK)=h7 at hbx hle7
 have w7:=w6.add (k:=(0,0)) (by rw [ho6];exact ho0 _ (by decide)) (jy (W:=W2) (d:=RawN.mk (n:=5) [.slice (some ⟨Q,0,none⟩) 3 3,.int .i64 0,.int .i64 0,.slice none 0 0,.int .i64 0,.slice none 0 0]) hbx (e9 rfl (by simp [Value.oneCell'])) (by decide)) hle7 (fun b hb=>by simp only [Value.ownBlock,Option.some.injEq] at hb;omega)
 generalize h6.size=M at w7
 generalize Value.slice (some ⟨Q,0,none⟩) 3 3=vs at sq w7
 obtain ⟨o7,ho7⟩ : ∃ o7:Own,o7=fun k=>if k=(0,0) then bx T.aK M (RawN.mk (n:=5) (mkL vs 0 0 (.slice none 0 0) 0 (.slice none 0 0))) else if k=(0,1) then it T.int (.slice none 0 0) ([]:List Int) else if k=(0,2) then it T.ao (.slice none 0 0) ([]:List BlkM) else o6 k:=⟨_,rfl⟩
 have w7:Owns W2 h7 o7:=w7.nils fun k i hk=>by
  rw [ho7] at hk
  dsimp only at hk
  split at hk
  ·rename_i e;rw [e];exact .inl hk
  ·rename_i e0
   split at hk
   ·cases hk;exact .inr ⟨rfl,OwnT.nil (α:=Int) _ _ _⟩
   ·split at hk
    ·cases hk;exact .inr ⟨rfl,OwnT.nil (α:=BlkM) _ _ _⟩
    ·refine .inl ?_
     rw [Own.ab e0]
     exact hk
 have w7:Mk [q0,q1,q2] M vs W2 h7 o7 ⟨0,0,[],0,[]⟩:=⟨w7,sq,.slice none 0 0,.slice none 0 0,[],by rw [ho7];rfl,by rw [ho7];rfl,by rw [ho7];rfl,rfl,fun i hi=>by simp at hi,fun i hi=>by simp at hi,fun i hi=>by simp at hi⟩
 have f7 : ∀ k:Key,3≤k.1→o7 k=o6 k:=fun k hk=>by
  rw [ho7]
  dsimp only
  rw [if_neg (by rintro rfl;simp at hk),if_neg (by rintro rfl;simp at hk),if_neg (by rintro rfl;simp at hk)]
 clear hbx hle7 w6 ho7
 rw [hz];clear hz z
 refine aa fun z hz=>?_
 simp
 refine aj (by kernel_rfl) (w7.take (by decide) (n:=12) (by decide) (by decide)) ?_
 rintro _ h8 ⟨rfl,o8,w8,f8⟩
 obtain ⟨t0,t1⟩:=aY (s:=[q0,q1,q2]) (at_:=0) (n:=12) (by decide)
 simp
 rw [hz];clear hz z
 refine aa fun z hz=>?_
 simp [hlen]
 refine aj (by kernel_rfl) (w8.take (by decide) (n:=(f.blocks.length:Int)) (by omega) (by omega)) ?_
 rintro _ h9 ⟨rfl,o9,w9,f9⟩
 obtain ⟨b0,b1⟩:=aY (s:=[q0,q1,q2]) (at_:=1) (n:=(f.blocks.length:Int)) (by omega)
 rw [hz];clear hz z
 refine aa fun z hz=>?_
 simp
 refine aj (by kernel_rfl) (w9.take (by decide) (n:=40) (by decide) (by decide)) ?_
 rintro _ h10 ⟨rfl,o10,w10,f10⟩
 obtain ⟨n0,n1⟩:=aY (s:=[q0,q1,q2]) (at_:=2) (n:=40) (by decide)
 have e0:MS.at_ ⟨0,0,[],0,[]⟩=0:=rfl
 have e1:MS.at_ (MS.took ⟨0,0,[],0,[]⟩)=1:=rfl
 have e2:MS.at_ (MS.took (MS.took ⟨0,0,[],0,[]⟩))=2:=rfl
 rw [e1,e2]
 have w10:=w10.own.sub (o':=o6) fun k i hk=>by
  have hk3:3≤k.1:=by
   rw [ho6] at hk
   dsimp only at hk
   split at hk
   ·rename_i e;rw [e];decide
   ·split at hk
    ·rename_i e;rw [e];decide
    ·split at hk
     ·rename_i e;rw [e];decide
     ·rcases Nat.lt_or_ge k.1 10 with e | e
      ·rw [ho0 k e] at hk;cases hk
      ·omega
  rw [f10 k hk3,f9 k hk3,f8 k hk3,f7 k hk3];exact hk
 clear f10 f9 f8 f7 w9 w8 w7 e0 e1 e2
 generalize aB [q0,q1,q2] 0 12=what at t0 t1
 generalize aB [q0,q1,q2] 1 f.blocks.length=bb at b0 b1
 generalize aB [q0,q1,q2] 2 40=nn at n0 n1
 obtain ⟨b,rfl⟩ : ∃ b:Nat,bb=b:=⟨bb.toNat,by omega⟩
 obtain ⟨n,rfl⟩ : ∃ n:Nat,nn=n:=⟨nn.toNat,by omega⟩
 rw [hz];clear hz z
 have hbl2:b<f.blocks.length:=by omega
 have tb:=hf.blk _ (List.getElem_mem hbl2)
 refine aa fun z hz=>?_
 obtain ⟨ux,hux,huxr⟩:=Owns.ldW w10 (k:=(3,0)) (v:=vbk) (l:=f.blocks) (by rw [ho6];rfl) rfl (N:=6) rfl hbl2
 have sbk:=w10.now (k:=(3,0)) (v:=vbk) (l:=f.blocks) (by rw [ho6];rfl)
 obtain ⟨vp,vi,va,vt,rfl,rp,ri,ra,rt,ik,im⟩:=EL huxr
 generalize f.blocks[b]=xb at tb rp ri ra rt ik im hux huxr
 have bp:=rp.cells.2
 have bi:=ri.cells.2
 have ba:=ra.cells.2
 have bt:=rt.cells.2
 simp (disch:=omega) [sbk.idxn (N:=6) rfl,hux]
 refine w10.gZ (k:=(3,1)) (n:=5) (l:=[vp,vi,.int .i64 xb.term.kind,va,vt,.int .i32 xb.term.imm.v]) (by rw [ho6];exact ho0 _ (by decide)) (z:=.agg #[.slice none 0 0,.slice none 0 0,.int .i64 0,.slice none 0 0,.slice none 0 0,.int .i32 0]) (by kernel_rfl) rfl (by kernel_rfl) rfl (by decide) (by intro c hc;simp only [List.mem_cons,List.not_mem_nil,or_false] at hc;rcases hc with rfl | rfl | rfl | rfl | rfl | rfl<;>first | rfl | assumption) (fun _=>by simp) (fun _=>by simp) fun h11 q11 w11=>?_
 generalize h10.size=X at w11
 rw [hz];clear hz z
 refine aa fun z hz=>?_
 simp
 refine w11.cz (k:=(3,2)) (α:=InsD) (by rw [Own.ab (by simp),ho6];exact ho0 _ (by decide)) El.eA fun v12 h12 hle12 hv12 w12 _=>?_
 have c12:an (vw h12) ⟨X,1,none⟩=some vi:=w12.raw (k:=(3,1)) (e:=T.ao) (n:=5) (l:=[vp,vi,.int .i64 xb.term.kind,va,vt,.int .i32 xb.term.imm.v]) (by rw [Own.ab (by simp),Own.ag]) (i:=1) (by decide)
 simp [c12]
 refine w12.bu (k:=(3,2)) (α:=InsD) (l:=([]:List InsD)) (l2:=xb.ins) Own.ag El.eA rfl rfl (ri.src w12.wle) (by have:=tb.ins;simp;omega) (by have:=tb.ins;simp;omega) fun vi2 h13 w13 _=>?_
 rw [List.nil_append] at w13
 have hvi2:=(w13.cells (k:=(3,2)) Own.ag).2
 refine w13.bs (k:=(3,1)) (n:=5) (i:=1) (e:=T.ao) (B:=X) (l:=[vp,vi,.int .i64 xb.term.kind,va,vt,.int .i32 xb.term.imm.v]) (by rw [Own.ab (by simp),Own.ab (by simp),Own.ag]) (by decide) (by kernel_rfl) rfl rfl hvi2 fun h14 w14 _=>?_
 rw [hz];clear hz z
 refine aa fun z hz=>?_
 simp
 refine w14.cz (k:=(3,3)) (α:=PhiD) (by rw [Own.ab (by simp),Own.ab (by simp),Own.ab (by simp),Own.ab (by simp),ho6];exact ho0 _ (by decide)) El.gG fun v15 h15 hle15 hv15 w15 _=>?_
 have c15:an (vw h15) ⟨X,0,none⟩=some vp:=w15.raw (k:=(3,1)) (e:=T.ao) (n:=5) (l:=[vp,vi2,.int .i64 xb.term.kind,va,vt,.int .i32 xb.term.imm.v]) (by rw [Own.ab (by simp),Own.ag];rfl) (i:=0) (by decide)
 simp [c15]
 refine w15.bu (k:=(3,3)) (α:=PhiD) (l:=([]:List PhiD)) (l2:=xb.phis) Own.ag El.gG rfl rfl (rp.src w15.wle) (by have:=tb.phis;simp;omega) (by have:=tb.phis;simp;omega) fun vp2 h16 w16 _=>?_
 rw [List.nil_append] at w16
 have hvp2:=(w16.cells (k:=(3,3)) Own.ag).2
 refine w16.bs (k:=(3,1)) (n:=5) (i:=0) (e:=T.ao) (B:=X) (l:=[vp,vi2,.int .i64 xb.term.kind,va,vt,.int .i32 xb.term.imm.v]) (by rw [Own.ab (by simp),Own.ab (by simp),Own.ag];rfl) (by decide) (by kernel_rfl) rfl rfl hvp2 fun h17 w17 _=>?_
 have tu : ∃ o,Tu R F X o0 c W2 vbk f.blocks W2 o f.params vp2 vi2 va vt xb.term.kind xb.term.imm.v xb.phis xb.ins xb.term.args xb.term.to∧Owns W2 h17 o:=by
  refine ⟨_,⟨View.le_refl _,?_,?_,?_,?_,?_,?_,?_,?_,ra,rt,ips,ik,im,⟨tb.phis,tb.ins,tb.args,tb.to,tb.pin,tb.iar⟩⟩,w17⟩
  ·simp [Own.upd,ho6]
  ·simp [Own.upd,ho6]
  ·simp [Own.upd,ho6]
  ·simp [Own.upd]
  ·simp [Own.upd]
  ·simp [Own.upd]
  ·simp [Own.upd,ho6,ho0]
  ·intro k hk
   repeat rw [Own.ab (by rintro rfl;simp at hk)]
   rw [ho6];dsimp only
   rw [if_neg (by rintro rfl;simp at hk),if_neg (by rintro rfl;simp at hk),if_neg (by rintro rfl;simp at hk)]
 clear w17 w16 w15 w14 w13 w12 w11 w10 c15 c12 rp ri hux huxr bp bi ba bt
 obtain ⟨o17,t,w17⟩:=tu
 have hc0 : ∀ {i:Nat},i≤5→an (vw h17) ⟨X,i,none⟩=some ([vp2,vi2,.int .i64 xb.term.kind,va,vt,.int .i32 xb.term.imm.v].getD i undef):=fun hi=>w17.raw t.box hi
 have x0:an (vw h17) ⟨X,0,none⟩=some vp2:=hc0 (i:=0) (by decide)
 have x1:an (vw h17) ⟨X,1,none⟩=some vi2:=hc0 (i:=1) (by decide)
 have x4:an (vw h17) ⟨X,4,none⟩=some vt:=hc0 (i:=4) (by decide)
 have sI:=w17.now t.ins
 have sP:=w17.now t.phis
 have sT:=t.rt
 have hli : ∀ {Q:View},Un.ev Q .len vi2=some (.int .i64 xb.ins.length):=fun {Q}=>sI.len
 have hlp : ∀ {Q:View},Un.ev Q .len vp2=some (.int .i64 xb.phis.length):=fun {Q}=>sP.len
 have hlt : ∀ {Q:View},Un.ev Q .len vt=some (.int .i64 xb.term.to.length):=fun {Q}=>sT.len
 have tbi:=tb.ins
 have tbp:=tb.phis
 have tbt:=tb.to
 clear hc0
 rw [hz];clear hz z
 refine aa fun z hz=>?_
 simp
 rw [hz];clear hz z
 refine aa fun z hz=>?_
 obtain ⟨j,hj1,hj2⟩ : ∃ j:Nat,(0<xb.ins.length→j<xb.ins.length)∧(j:Int)=if 0<xb.ins.length then (n:Int).tmod xb.ins.length else 0:=by
  by_cases c1:0<xb.ins.length
  ·refine ⟨((n:Int).tmod xb.ins.length).toNat,fun _=>?_,?_⟩
   ·have:=Int.tmod_lt_of_pos (n:Int) (show (0:Int)<xb.ins.length by omega);have:=Int.tmod_nonneg (xb.ins.length:Int) (show (0:Int)≤n by omega);omega
   ·rw [if_pos c1];have:=Int.tmod_nonneg (xb.ins.length:Int) (show (0:Int)≤n by omega);omega
  ·exact ⟨0,fun q=>absurd q c1,by rw [if_neg c1];rfl⟩
 have sw : ∀ ρ:Env,Lft.look ρ 2=some (.pointer (some ⟨F,0,none⟩))→Lft.look ρ 4=some (.pointer (some ⟨R,0,none⟩))→Lft.look ρ 5=some vbk→Lft.look ρ 7=some (.int .i64 what)→Lft.look ρ 8=some (.int .i64 b)→Lft.look ρ 9=some (.int .i64 n)→Lft.look ρ 10=some (.pointer (some ⟨X,0,none⟩))→Lft.look ρ 11=some (.int .i64 j)→LC.wp Try.prog z (dJ [.un (.al 2) (.tmp 4)] K) ρ h17:=by
  intro ρ r2 r4 r5 r7 r8 r9 r10 r11
  rw [hz];clear hz z
  refine aa fun z hz=>?_
  have fin : ∀ (h':Heap) (ρ:Env),TuE R F X o0 (c+1) W2 vbk f.blocks h'→Lft.look ρ 2=some (.pointer (some ⟨F,0,none⟩))→Lft.look ρ 4=some (.pointer (some ⟨R,0,none⟩))→Lft.look ρ 5=some vbk→Lft.look ρ 8=some (.int .i64 b)→Lft.look ρ 10=some (.pointer (some ⟨X,0,none⟩))→LC.wp Try.prog z (dJ [.un (.al 2) (.tmp 4)] K) ρ h':=by
   intro h' ρ tE r2 r4 r5 r8 r10
   rw [hz];clear hz z
   obtain ⟨W,o,ps',vp',vi',va',vt',kd',im',lp',li',la',lt',t,w⟩:=tE
   have sbk:=w.now t.blk
   have cx:=w.dz (k:=(3,1)) t.box
   have cx:Un.ev (vw h') (.al 6) (.pointer (some ⟨X,0,none⟩))=some (.agg #[vp',vi',.int .i64 kd',va',vt',.int .i32 im']):=cx
   obtain ⟨wA,sI⟩:=w.freeze t.ins
   obtain ⟨wB,sP⟩:=wA.freeze ((Own.ab (by simp)).trans t.phis)
   have sI:=sI.mono (dm (h:=h') (wA.av _ _ ((Own.ab (by simp)).trans t.phis)))
   have hWW:=View.le_trans (dm (h:=h') (w.av _ _ t.ins)) (dm (h:=h') (wA.av _ _ ((Own.ab (by simp)).trans t.phis)))
   refine aa fun z hz=>?_
   simp (disch:=omega) [ae,af,r2,r4,r5,r8,r10,cx,sbk.idxn (N:=6) rfl]
   refine wB.jX (k:=(3,0)) (α:=BlkD) (v:=vbk) (l:=f.blocks) (i:=b) (d:=⟨lp',li',⟨kd',la',lt',⟨im'⟩⟩⟩) ((Own.ab (by simp)).trans ((Own.ab (by simp)).trans t.blk)) (by kernel_rfl) rfl rfl (by omega) (sF (imm:=⟨im'⟩) sP sI (t.ra.mono hWW) (t.rt.mono hWW) t.ikd t.iim) fun h2 w2 _=>?_
   rw [hz];clear hz z
   refine aa fun z hz=>?_
   have fF:(((o.upd (3,2) none).upd (3,3) none).upd (3,0) (it T.ao vbk (f.blocks.set b ⟨lp',li',⟨kd',la',lt',⟨im'⟩⟩⟩))) (8,1)=bx T.aE F (RawN.mk (n:=1) [.int .i64 ps',vbk]):=by simp [Own.upd,t.fn]
   have fR:(((o.upd (3,2) none).upd (3,3) none).upd (3,0) (it T.ao vbk (f.blocks.set b ⟨lp',li',⟨kd',la',lt',⟨im'⟩⟩⟩))) (8,0)=bx T.aE R (RawN.mk (n:=1) [.int .i64 0,.slice none 0 0]):=by simp [Own.upd,t.res]
   have cF:=w2.dz (k:=(8,1)) fF
   have cF:Un.ev (vw h2) (.al 2) (.pointer (some ⟨F,0,none⟩))=some (.agg #[.int .i64 ps',vbk]):=cF
   simp [ae,af,r2,r4,r5,r8,r10,cF]
   refine w2.fj (k:=(8,0)) (α:=RawN 1) (β:=RawN 1) Part.all (B:=R) (D:=RawN.mk (n:=1) [.int .i64 0,.slice none 0 0]) (d:=RawN.mk (n:=1) [.int .i64 ps',vbk]) fR (by kernel_rfl) rfl rfl (e9 rfl (by intro c hc;simp only [List.mem_cons,List.not_mem_nil,or_false] at hc;rcases hc with rfl | rfl<;>first | rfl | exact hvk)) fun h3 w3 _=>?_
   have cb:=w3.dz (k:=(8,0)) (n:=1) (l:=[.int .i64 ps',vbk]) Own.ag
   have cb:Un.ev (vw h3) (.al 2) (.pointer (some ⟨R,0,none⟩))=some (.agg #[.int .i64 ps',vbk]):=cb
   have sb3:=w3.now (k:=(3,0)) (v:=vbk) (l:=f.blocks.set b ⟨lp',li',⟨kd',la',lt',⟨im'⟩⟩⟩) (by rw [Own.ab (by simp),Own.ag])
   rw [hz];clear hz z
   simp [ae,af,r2,r4,r5,r8,r10,cb]
   obtain ⟨w4,s4⟩:=w3.freeze (k:=(3,0)) (v:=vbk) (l:=f.blocks.set b ⟨lp',li',⟨kd',la',lt',⟨im'⟩⟩⟩) (by rw [Own.ab (by simp),Own.ag])
   have hW4:=dm (h:=h3) (w3.av (3,0) _ ((Own.ab (by simp)).trans Own.ag))
   have w5:=w4.sub (o':=o0) fun k i hk=>by
    rcases Nat.lt_or_ge k.1 10 with e | e
    ·rw [ho0 k e] at hk;cases hk
    ·rw [Own.ab (by rintro rfl;simp at e),Own.ab (by rintro rfl;simp at e),Own.ab (by rintro rfl;simp at e),Own.ab (by rintro rfl;simp at e),Own.ab (by rintro rfl;simp at e),t.fr k e];exact hk
   refine hK _ _ ⟨_,⟨ps',f.blocks.set b ⟨lp',li',⟨kd',la',lt',⟨im'⟩⟩⟩⟩,View.le_trans hW2 (View.le_trans t.le (View.le_trans hWW hW4)),w5,⟨by show (f.blocks.set b _).length≤_;rw [List.length_set];exact hf.len,fun x hx=>?_⟩,⟨_,rfl,[.int .i64 ps'],[vbk],rfl,⟨rfl,t.ips⟩,vbk,rfl,s4⟩⟩
   rcases List.mem_or_eq_of_mem_set hx with q | q
   ·exact (hf.blk x q).mono (by omega)
   ·rw [q];exact t.tb
  refine aa fun y hy=>?_
  simp [ae,af,r2,r4,r5,r7,r8,r9,r10,r11]
  rw [hy];clear hy y
  simp only [aO]
  refine aa fun y hy=>?_
  simp [ae,af,r2,r4,r5,r7,r8,r9,r10,r11]
  rw [hy];clear hy y
  by_cases w0:what=0
  ·refine aA (by simp [ae,af,w0]) ?_
   simp [ae,af,r2,r4,r5,r7,r8,r9,r10,r11]
   refine t.A0 w17 pw (by kernel_rfl) rfl rfl fun h2 tE=>?_
   refine fin _ _ (tE.mono (by omega)) ?_ ?_ ?_ ?_ ?_<;>simp [ae,af,r2,r4,r5,r8,r10]
  refine ax (by simp [ae,af,w0]) ?_
  refine aa fun y hy=>?_
  simp [ae,af,r2,r4,r5,r7,r8,r9,r10,r11]
  rw [hy];clear hy y
  by_cases w1:what=1
  ·refine aA (by simp [ae,af,w1]) ?_
   refine aa fun y hy=>?_
   simp [ae,af,r2,r4,r5,r7,r8,r9,r10,r11,x1,hli]
   rw [hy];clear hy y
   by_cases c1:0<xb.ins.length
   ·have hj:=hj1 c1
    refine aA (by simp [ae,af];exact c1) ?_
    simp (disch:=omega) [ae,af,r2,r4,r5,r7,r8,r9,r10,r11,x1,sI.idxn (N:=5) rfl]
    refine t.zl InsD.Fl w17 (j:=j) (d:=_) hj (cn.2 ⟨rfl,pw⟩) (t.tb.iar xb.ins[j] (List.getElem_mem hj)) (by kernel_rfl) rfl rfl fun h2 tE=>?_
    refine fin _ _ (tE.mono (by omega)) ?_ ?_ ?_ ?_ ?_<;>simp [ae,af,r2,r4,r5,r8,r10]
   ·have he:xb.ins=[]:=List.eq_nil_of_length_eq_zero (by omega)
    refine ax (by simp [ae,af,he]) ?_
    simp
    refine fin _ _ (TuE.mono ⟨_,_,_,_,_,_,_,_,_,_,_,_,_,t,w17⟩ (by omega)) ?_ ?_ ?_ ?_ ?_<;>simp [ae,af,r2,r4,r5,r8,r10]
  refine ax (by simp [ae,af,w1]) ?_
  refine aa fun y hy=>?_
  simp [ae,af,r2,r4,r5,r7,r8,r9,r10,r11]
  rw [hy];clear hy y
  by_cases w2:what=2
  ·refine aA (by simp [ae,af,w2]) ?_
   refine aa fun y hy=>?_
   simp [ae,af,r2,r4,r5,r7,r8,r9,r10,r11,x1,hli]
   rw [hy];clear hy y
   by_cases c1:0<xb.ins.length
   ·have hj:=hj1 c1
    refine aA (by simp [ae,af];exact c1) ?_
    simp (disch:=omega) [ae,af,r2,r4,r5,r7,r8,r9,r10,r11,x1,sI.idxn (N:=5) rfl]
    refine t.zl InsD.iK w17 (j:=j) (d:=(n:Int)) hj (cn.2 ⟨rfl,by constructor<;>omega⟩) (have q:=t.tb.iar xb.ins[j] (List.getElem_mem hj);⟨q.1,(by show (n:Int)≤4000;omega),q.2.2⟩) (by kernel_rfl) rfl rfl fun h2 tE=>?_
    refine fin _ _ (tE.mono (by omega)) ?_ ?_ ?_ ?_ ?_<;>simp [ae,af,r2,r4,r5,r8,r10]
   ·have he:xb.ins=[]:=List.eq_nil_of_length_eq_zero (by omega)
    refine ax (by simp [ae,af,he]) ?_
    simp
    refine fin _ _ (TuE.mono ⟨_,_,_,_,_,_,_,_,_,_,_,_,_,t,w17⟩ (by omega)) ?_ ?_ ?_ ?_ ?_<;>simp [ae,af,r2,r4,r5,r8,r10]
  refine ax (by simp [ae,af,w2]) ?_
  refine aa fun y hy=>?_
  simp [ae,af,r2,r4,r5,r7,r8,r9,r10,r11]
  rw [hy];clear hy y
  by_cases w3:what=3
  ·refine aA (by simp [ae,af,w3]) ?_
   refine aa fun y hy=>?_
   by_cases c1:0<xb.ins.length
   ·have hj:=hj1 c1
    have c1i:(0:Int)<xb.ins.length:=by omega
    obtain ⟨va3,ca3,ra3⟩:=Owns.insW w17 t.ins hj
    have hta:=t.tb.iar _ (List.getElem_mem hj)
    simp (disch:=omega) [ae,af,r2,r4,r5,r7,r8,r9,r10,r11,x1,hli,c1,c1i,sI.idxn (N:=5) rfl,ca3,ra3.len]
    rw [hy];clear hy y
    by_cases c2:0<xb.ins[j].args.length
    ·refine aA (by simp [ae,af];first | exact c2 | omega) ?_
     refine aa fun y hy=>?_
     simp [ae,af]
     refine w17.cz (k:=(4,0)) (α:=Int) t.free El.aP fun v18 h18 hle18 hv18 w18 _=>?_
     simp (disch:=omega) [ae,af,r2,r4,r5,r7,r8,r9,r10,r11,ah hle18 x1,(sI.mono hle18).idxn (N:=5) rfl,ah hle18 ca3]
     refine w18.bu (k:=(4,0)) (α:=Int) (l:=([]:List Int)) (l2:=xb.ins[j].args) Own.ag El.aP rfl rfl (ra3.src w18.wle) (by simp;omega) (by simp;omega) fun v19 h19 w19 _=>?_
     rw [List.nil_append] at w19
     have w19:Owns W2 h19 (o17.upd (4,0) (it T.int v19 xb.ins[j].args)):=w19.congr fun q=>by rw [bL]
     rw [hy];clear hy y
     refine aa fun y hy=>?_
     have s19:=w19.now (k:=(4,0)) Own.ag
     have m0:=Int.tmod_nonneg (xb.ins[j].args.length:Int) (show (0:Int)≤n by omega)
     have m1:=Int.tmod_lt_of_pos (n:Int) (show (0:Int)<xb.ins[j].args.length by omega)
     have hne:¬xb.ins[j].args=[]:=fun e=>by rw [e] at c2;simp at c2
     simp (disch:=omega) [ae,af,r2,r4,r5,r7,r8,r9,r10,r11,s19.len,hne,s19.idx1 rfl]
     refine w19.jX (k:=(4,0)) (α:=Int) (v:=v19) (l:=xb.ins[j].args) (i:=((n:Int).tmod xb.ins[j].args.length).toNat) (d:=(n:Int)) Own.ag (by kernel_rfl) (by rw [show Rep.n Int=1 from rfl,Nat.mul_one];rfl) rfl (by omega) (cn.2 ⟨rfl,by constructor<;>omega⟩) fun h20 w20 _=>?_
     have w20:Owns W2 h20 (o17.upd (4,0) (it T.int v19 (xb.ins[j].args.set ((n:Int).tmod xb.ins[j].args.length).toNat n))):=w20.congr fun q=>by rw [bL]
     rw [hy];clear hy y
     have x1':an (vw h20) ⟨X,1,none⟩=some vi2:=w20.raw (k:=(3,1)) ((Own.ab (by simp)).trans t.box) (i:=1) (by decide)
     have sI':=w20.now (k:=(3,2)) ((Own.ab (by simp)).trans t.ins)
     obtain ⟨w21,s21⟩:=w20.freeze Own.ag
     have hWp:=dm (h:=h20) (w20.av _ _ Own.ag)
     have w21:=w21.congr (o':=o17) fun q=>by
      rw [bL];unfold Own.upd;split
      ·rename_i e;rw [e];exact t.free
      ·rfl
     simp (disch:=omega) [ae,af,r2,r4,r5,r7,r8,r9,r10,r11,x1',sI'.idxn (N:=5) rfl]
     refine (t.wider hWp).zl InsD.ox w21 (j:=j) (d:=xb.ins[j].args.set ((n:Int).tmod xb.ins[j].args.length).toNat n) hj (fH.2 s21) ⟨by show (List.set _ _ _).length≤_;rw [List.length_set];exact hta.1,hta.2⟩ (by kernel_rfl) rfl rfl fun h2 tE=>?_
     refine fin _ _ (tE.mono (by omega)) ?_ ?_ ?_ ?_ ?_<;>simp [ae,af,r2,r4,r5,r8,r10]
    ·refine ax (by simp [ae,af];first | omega | exact List.eq_nil_of_length_eq_zero (by omega)) ?_
     simp
     refine fin _ _ (TuE.mono ⟨_,_,_,_,_,_,_,_,_,_,_,_,_,t,w17⟩ (by omega)) ?_ ?_ ?_ ?_ ?_<;>simp [ae,af,r2,r4,r5,r8,r10]
   ·have he:xb.ins=[]:=List.eq_nil_of_length_eq_zero (by omega)
    have c1i:¬(0:Int)<xb.ins.length:=by omega
    simp [ae,af,r2,r4,r5,r7,r8,r9,r10,r11,x1,hli,c1,c1i]
    rw [hy];clear hy y
    refine ax (by simp [ae,af]) ?_
    simp
    refine fin _ _ (TuE.mono ⟨_,_,_,_,_,_,_,_,_,_,_,_,_,t,w17⟩ (by omega)) ?_ ?_ ?_ ?_ ?_<;>simp [ae,af,r2,r4,r5,r8,r10]
  refine ax (by simp [ae,af,w3]) ?_
  refine aa fun y hy=>?_
  simp [ae,af,r2,r4,r5,r7,r8,r9,r10,r11]
  rw [hy];clear hy y
  by_cases w4:what=4
  ·refine aA (by simp [ae,af,w4]) ?_
   simp [ae,af]
   refine w17.cz (k:=(4,0)) (α:=Int) t.free El.aP fun v18 h18 hle18 hv18 w18 _=>?_
   simp (disch:=omega) [ae,af,r2,r4,r5,r7,r8,r9,r10,r11,ah hle18 x4]
   refine w18.bu (k:=(4,0)) (α:=Int) (l:=([]:List Int)) (l2:=xb.term.to) Own.ag El.aP rfl rfl (t.rt.src w18.wle) (by simp;omega) (by simp;omega) fun v19 h19 w19 _=>?_
   rw [List.nil_append] at w19
   have w19:Owns W2 h19 (o17.upd (4,0) (it T.int v19 xb.term.to)):=w19.congr fun q=>by rw [bL]
   refine w19.dL (k:=(4,0)) (α:=Int) (d:=IntKind.i64.wrap ((n:Int).tmod 12-1)) Own.ag El.aP rfl (cn.2 ⟨rfl,pw⟩) (by omega) (by omega) (fun _=>rfl) (fun _=>rfl) fun u20 v20 h20 w20 _=>?_
   have w20:Owns W2 h20 (o17.upd (4,0) (it T.int v20 (xb.term.to++[IntKind.i64.wrap ((n:Int).tmod 12-1)]))):=w20.congr fun q=>by rw [bL]
   obtain ⟨w21,s21⟩:=w20.freeze Own.ag
   have hWp:=dm (h:=h20) (w20.av _ _ Own.ag)
   have w21:=w21.congr (o':=o17) fun q=>by
    rw [bL];unfold Own.upd;split
    ·rename_i e;rw [e];exact t.free
    ·rfl
   refine ((t.wider hWp).more (d:=c+1) (by omega)).zP w21 s21 (by rw [List.length_append,List.length_singleton];omega) (by kernel_rfl) rfl rfl fun h2 tE=>?_
   refine fin _ _ tE ?_ ?_ ?_ ?_ ?_<;>simp [ae,af,r2,r4,r5,r8,r10]
  refine ax (by simp [ae,af,w4]) ?_
  refine aa fun y hy=>?_
  simp [ae,af,r2,r4,r5,r7,r8,r9,r10,r11]
  rw [hy];clear hy y
  by_cases w5:what=5
  ·refine aA (by simp [ae,af,w5]) ?_
   simp [ae,af,r2,r4,r5,r7,r8,r9,r10,r11]
   have m0:=Int.tmod_nonneg (7:Int) (show (0:Int)≤n by omega)
   have m1:=Int.tmod_lt_of_pos (n:Int) (show (0:Int)<7 by omega)
   refine t.DC w17 (p:=(n:Int).tmod 7) (by constructor<;>omega) (by kernel_rfl) rfl rfl fun h2 tE=>?_
   refine fin _ _ (tE.mono (by omega)) ?_ ?_ ?_ ?_ ?_<;>simp [ae,af,r2,r4,r5,r8,r10]
  refine ax (by simp [ae,af,w5]) ?_
  refine aa fun y hy=>?_
  simp [ae,af,r2,r4,r5,r7,r8,r9,r10,r11]
  rw [hy];clear hy y
  by_cases w6:what=6
  ·refine aA (by simp [ae,af,w6]) ?_
   refine aa fun y hy=>?_
   simp [ae,af,r2,r4,r5,r7,r8,r9,r10,r11,x0,hlp]
   rw [hy];clear hy y
   by_cases c1:0<xb.phis.length
   ·refine aA (by simp [ae,af];exact c1) ?_
    have m0:=Int.tmod_nonneg (xb.phis.length:Int) (show (0:Int)≤n by omega)
    have m1:=Int.tmod_lt_of_pos (n:Int) (show (0:Int)<xb.phis.length by omega)
    obtain ⟨q,hq⟩ : ∃ q:Nat,(n:Int).tmod xb.phis.length=q:=⟨((n:Int).tmod xb.phis.length).toNat,by omega⟩
    have hql:q<xb.phis.length:=by omega
    obtain ⟨va3,ca3,ra3⟩:=Owns.phiW w17 t.phis hql
    have hta:=t.tb.pin _ (List.getElem_mem hql)
    have hne:¬xb.phis=[]:=fun e=>by rw [e] at c1;simp at c1
    have q50:=Int.tmod_nonneg (5:Int) (show (0:Int)≤n by omega)
    have q51:=Int.tmod_lt_of_pos (n:Int) (show (0:Int)<5 by omega)
    have ixq:Bn.ev (.idx 2) vp2 (.int .i64 q)=some (.pointer (some ((slA vp2).add (q*2)))):=by
     have:=sP.idxn (N:=2) rfl (k:=.i64) (i:=q) (by omega) (by omega);simpa using this
    refine bO (vw h17) (View.le_refl _) ?_
    simp [ae,af,r2,r4,r5,r7,r8,r9,r10,r11,x0,hlp,hne,hq,ixq,ca3]
    have A2 : ∀ {po2 po3:OP} {W:View} {hh:Heap} {v1 u:Value} {ty ty3:TypeId} {us:List (Nat × Value)} {us3:Value→List (Nat × Value)} {x y c1 c2:Operand} {K2:Value→Value→Heap→Prop},W2.le W→Owns W hh (o17.upd (4,0) (it T.dW v1 xb.phis[q].ins))→SlRd W u [InD.mk ((n:Int).tmod 5) n]→(vw h17).le (vw hh)→Av (vw h17) v1→asg us x=v1→asg us y=u→
      (∀ v,asg (us3 v) c1 = .pointer (some (((slA vp2).add (q*2)).add 1)))→(∀ v,asg (us3 v) c2=v)→(∀ v h',TuE R F X o0 (c+1) W2 vbk f.blocks h'→K2 v undef h')→
      @Lft.step po2 Try.prog (.call ⟨.builtin .append,#[x,y],#[T.cA,T.cA]⟩) ty us hh fun v h'=>(vw h17).le (vw h')∧@Lft.step po3 Try.prog (.store T.cA c1 c2) ty3 (us3 v) h' fun w h''=>K2 v w h'':=by
     intro po2 po3 W hh v1 u ty ty3 us us3 x y c1 c2 K2 hW w su le av hx hy hc1 hc2 hK2
     refine w.bu (k:=(4,0)) (α:=InD) (l:=xb.phis[q].ins) (l2:=[InD.mk ((n:Int).tmod 5) n]) Own.ag El.cA hx hy (su.src w.wle) (by simp;omega) (by simp;omega) fun v2 h2 wb m2=>⟨(m2.view le av).1,?_⟩
     have wb:Owns W h2 (o17.upd (4,0) (it T.dW v2 (xb.phis[q].ins++[InD.mk ((n:Int).tmod 5) n]))):=wb.congr fun k=>by rw [bL]
     obtain ⟨wc,sc⟩:=wb.freeze Own.ag
     have hWp:=dm (h:=h2) (wb.av _ _ Own.ag)
     have wc:=wc.congr (o':=o17) fun k=>by
      rw [bL];unfold Own.upd;split
      ·rename_i e;rw [e];exact t.free
      ·rfl
     exact ((t.wider (View.le_trans hW hWp)).more (d:=c+1) (by omega)).CS wc (j:=q) hql sc (by rw [List.length_append,List.length_singleton];omega) (by kernel_rfl) (hc1 v2) (hc2 v2) fun h' tE=>hK2 v2 h' tE
    have i5:I64 ((n:Int).tmod 5):=⟨by omega,by omega⟩
    have in_:I64 (n:Int):=⟨by omega,by omega⟩
    constructor
    ·refine w17.cz (k:=(4,0)) (α:=InD) t.free El.cA fun v0 h18 le18 _ w18 av18=>⟨le18,?_⟩
     have av18:=av18 (vw h17) (View.le_refl _)
     constructor
     ·refine w18.bu (k:=(4,0)) (α:=InD) (l:=([]:List InD)) (l2:=xb.phis[q].ins) Own.ag El.cA rfl rfl (ra3.src w18.wle) (by simp;omega) (by simp;omega) fun v1 h19 w19 m19=>?_
      obtain ⟨le19,av19⟩:=m19.view le18 av18
      rw [List.nil_append] at w19
      have w19:Owns W2 h19 (o17.upd (4,0) (it T.dW v1 xb.phis[q].ins)):=w19.congr fun k=>by rw [bL]
      refine ⟨le19,?_⟩
      refine aL (z:=.agg #[.int .i64 0,.int .i64 0]) (places:=[(0,1),(1,1)]) (vs:=[(0,.int .i64 ((n:Int).tmod 5)),(1,.int .i64 n)]) (cs:=#[.int .i64 ((n:Int).tmod 5),.int .i64 n]) (by kernel_rfl) (by kernel_rfl) (by simp) (by rfl) ⟨le19,?_⟩
      refine kR i5 in_ rfl fun h20 le20 su=>⟨View.le_trans le19 le20,?_⟩
      refine A2 (aX w19.wle) (w19.ext le20) (su _ (cQ (Nat.le_refl _))) (View.le_trans le19 le20) av19 rfl rfl (fun _=>rfl) (fun _=>rfl) fun v h' tE=>?_
      refine fin _ _ tE ?_ ?_ ?_ ?_ ?_<;>simp [ae,af,r2,r4,r5,r8,r10]
     ·refine aL (z:=.agg #[.int .i64 0,.int .i64 0]) (places:=[(0,1),(1,1)]) (vs:=[(0,.int .i64 ((n:Int).tmod 5)),(1,.int .i64 n)]) (cs:=#[.int .i64 ((n:Int).tmod 5),.int .i64 n]) (by kernel_rfl) (by kernel_rfl) (by simp) (by rfl) ⟨le18,?_⟩
      constructor
      ·refine w18.bu (k:=(4,0)) (α:=InD) (l:=([]:List InD)) (l2:=xb.phis[q].ins) Own.ag El.cA rfl rfl (ra3.src w18.wle) (by simp;omega) (by simp;omega) fun v1 h19 w19 m19=>?_
       obtain ⟨le19,av19⟩:=m19.view le18 av18
       rw [List.nil_append] at w19
       have w19:Owns W2 h19 (o17.upd (4,0) (it T.dW v1 xb.phis[q].ins)):=w19.congr fun k=>by rw [bL]
       refine ⟨le19,?_⟩
       refine kR i5 in_ rfl fun h20 le20 su=>⟨View.le_trans le19 le20,?_⟩
       refine A2 (aX w19.wle) (w19.ext le20) (su _ (cQ (Nat.le_refl _))) (View.le_trans le19 le20) av19 rfl rfl (fun _=>rfl) (fun _=>rfl) fun v h' tE=>?_
       refine fin _ _ tE ?_ ?_ ?_ ?_ ?_<;>simp [ae,af,r2,r4,r5,r8,r10]
      ·refine kR i5 in_ rfl fun h20 le20 su=>⟨View.le_trans le18 le20,?_⟩
       have w20:=w18.ext le20
       have hW20:=aX (h':=h20) w18.wle
       have su:=su _ (cQ (W:=W2) (Nat.le_refl _))
       refine w20.bu (k:=(4,0)) (α:=InD) (l:=([]:List InD)) (l2:=xb.phis[q].ins) Own.ag El.cA rfl rfl ((ra3.mono hW20).src w20.wle) (by simp;omega) (by simp;omega) fun v1 h21 w21 m21=>?_
       obtain ⟨le21,av21⟩:=m21.view (View.le_trans le18 le20) av18
       rw [List.nil_append] at w21
       have w21:=w21.congr (o':=o17.upd (4,0) (it T.dW v1 xb.phis[q].ins)) fun k=>by rw [bL]
       refine ⟨le21,?_⟩
       refine A2 hW20 w21 su le21 av21 rfl rfl (fun _=>rfl) (fun _=>rfl) fun v h' tE=>?_
       refine fin _ _ tE ?_ ?_ ?_ ?_ ?_<;>simp [ae,af,r2,r4,r5,r8,r10]
    ·refine aL (z:=.agg #[.int .i64 0,.int .i64 0]) (places:=[(0,1),(1,1)]) (vs:=[(0,.int .i64 ((n:Int).tmod 5)),(1,.int .i64 n)]) (cs:=#[.int .i64 ((n:Int).tmod 5),.int .i64 n]) (by kernel_rfl) (by kernel_rfl) (by simp) (by rfl) ⟨View.le_refl _,?_⟩
     constructor
     ·refine w17.cz (k:=(4,0)) (α:=InD) t.free El.cA fun v0 h18 le18 _ w18 av18=>⟨le18,?_⟩
      have av18:=av18 (vw h17) (View.le_refl _)
      constructor
      ·refine w18.bu (k:=(4,0)) (α:=InD) (l:=([]:List InD)) (l2:=xb.phis[q].ins) Own.ag El.cA rfl rfl (ra3.src w18.wle) (by simp;omega) (by simp;omega) fun v1 h19 w19 m19=>?_
       obtain ⟨le19,av19⟩:=m19.view le18 av18
       rw [List.nil_append] at w19
       have w19:Owns W2 h19 (o17.upd (4,0) (it T.dW v1 xb.phis[q].ins)):=w19.congr fun k=>by rw [bL]
       refine ⟨le19,?_⟩
       refine kR i5 in_ rfl fun h20 le20 su=>⟨View.le_trans le19 le20,?_⟩
       refine A2 (aX w19.wle) (w19.ext le20) (su _ (cQ (Nat.le_refl _))) (View.le_trans le19 le20) av19 rfl rfl (fun _=>rfl) (fun _=>rfl) fun v h' tE=>?_
       refine fin _ _ tE ?_ ?_ ?_ ?_ ?_<;>simp [ae,af,r2,r4,r5,r8,r10]
      ·refine kR i5 in_ rfl fun h20 le20 su=>⟨View.le_trans le18 le20,?_⟩
       have w20:=w18.ext le20
       have hW20:=aX (h':=h20) w18.wle
       have su:=su _ (cQ (W:=W2) (Nat.le_refl _))
       refine w20.bu (k:=(4,0)) (α:=InD) (l:=([]:List InD)) (l2:=xb.phis[q].ins) Own.ag El.cA rfl rfl ((ra3.mono hW20).src w20.wle) (by simp;omega) (by simp;omega) fun v1 h21 w21 m21=>?_
       obtain ⟨le21,av21⟩:=m21.view (View.le_trans le18 le20) av18
       rw [List.nil_append] at w21
       have w21:=w21.congr (o':=o17.upd (4,0) (it T.dW v1 xb.phis[q].ins)) fun k=>by rw [bL]
       refine ⟨le21,?_⟩
       refine A2 hW20 w21 su le21 av21 rfl rfl (fun _=>rfl) (fun _=>rfl) fun v h' tE=>?_
       refine fin _ _ tE ?_ ?_ ?_ ?_ ?_<;>simp [ae,af,r2,r4,r5,r8,r10]
     ·refine kR i5 in_ rfl fun h18 le18 su=>⟨le18,?_⟩
      have w18:=w17.ext le18
      have hW18:=aX (h':=h18) w17.wle
      have su:=su _ (cQ (W:=W2) (Nat.le_refl _))
      refine w18.cz (k:=(4,0)) (α:=InD) t.free El.cA fun v0 h19 le19 _ w19 av19=>⟨View.le_trans le18 le19,?_⟩
      have av19:=av19 (vw h17) le18
      refine w19.bu (k:=(4,0)) (α:=InD) (l:=([]:List InD)) (l2:=xb.phis[q].ins) Own.ag El.cA rfl rfl ((ra3.mono hW18).src w19.wle) (by simp;omega) (by simp;omega) fun v1 h21 w21 m21=>?_
      obtain ⟨le21,av21⟩:=m21.view (View.le_trans le18 le19) av19
      rw [List.nil_append] at w21
      have w21:=w21.congr (o':=o17.upd (4,0) (it T.dW v1 xb.phis[q].ins)) fun k=>by rw [bL]
      refine ⟨le21,?_⟩
      refine A2 hW18 w21 su le21 av21 rfl rfl (fun _=>rfl) (fun _=>rfl) fun v h' tE=>?_
      refine fin _ _ tE ?_ ?_ ?_ ?_ ?_<;>simp [ae,af,r2,r4,r5,r8,r10]
   ·have he:xb.phis=[]:=List.eq_nil_of_length_eq_zero (by omega)
    refine ax (by simp [ae,af,he]) ?_
    simp
    refine fin _ _ (TuE.mono ⟨_,_,_,_,_,_,_,_,_,_,_,_,_,t,w17⟩ (by omega)) ?_ ?_ ?_ ?_ ?_<;>simp [ae,af,r2,r4,r5,r8,r10]
  refine ax (by simp [ae,af,w6]) ?_
  refine aa fun y hy=>?_
  simp [ae,af,r2,r4,r5,r7,r8,r9,r10,r11]
  rw [hy];clear hy y
  by_cases w7:what=7
  ·refine aA (by simp [ae,af,w7]) ?_
   refine aa fun y hy=>?_
   by_cases c1:0<xb.phis.length
   ·have c1i:(0:Int)<xb.phis.length:=by omega
    obtain ⟨va3,ca3,ra3⟩:=Owns.phiW w17 t.phis c1
    have ca3:an (vw h17) (((slA vp2).add 0).add 1)=some va3:=by have:=ca3;rwa [Nat.zero_mul] at this
    have hta:=t.tb.pin _ (List.getElem_mem c1)
    have hix : ∀ {l:List PhiD},SlRd (vw h17) vp2 l→True:=fun _=>trivial
    have ix0:Bn.ev (.idx 2) vp2 (.int .i64 0)=some (.pointer (some ((slA vp2).add 0))):=by
     have:=sP.idxn (N:=2) rfl (k:=.i64) (i:=0) (by omega) (by omega);simpa using this
    simp (disch:=omega) [ae,af,r2,r4,r5,r7,r8,r9,r10,r11,x0,hlp,c1,c1i,ix0,ca3,ra3.len]
    rw [hy];clear hy y
    by_cases c2:0<xb.phis[0].ins.length
    ·refine aA (by simp [ae,af];first | exact c2 | omega) ?_
     refine aa fun y hy=>?_
     simp [ae,af]
     refine w17.cz (k:=(4,0)) (α:=InD) t.free El.cA fun v18 h18 hle18 hv18 w18 _=>?_
     simp (disch:=omega) [ae,af,r2,r4,r5,r7,r8,r9,r10,r11,ah hle18 x0,ix0,ah hle18 ca3]
     refine w18.bu (k:=(4,0)) (α:=InD) (l:=([]:List InD)) (l2:=xb.phis[0].ins) Own.ag El.cA rfl rfl (ra3.src w18.wle) (by simp;omega) (by simp;omega) fun v19 h19 w19 _=>?_
     rw [List.nil_append] at w19
     have w19:Owns W2 h19 (o17.upd (4,0) (it T.dW v19 xb.phis[0].ins)):=w19.congr fun q=>by rw [bL]
     rw [hy];clear hy y
     refine aa fun y hy=>?_
     have s19:=w19.now (k:=(4,0)) Own.ag
     have m0:=Int.tmod_nonneg (xb.phis[0].ins.length:Int) (show (0:Int)≤n by omega)
     have m1:=Int.tmod_lt_of_pos (n:Int) (show (0:Int)<xb.phis[0].ins.length by omega)
     have hne:¬xb.phis[0].ins=[]:=fun e=>by rw [e] at c2;simp at c2
     simp (disch:=omega) [ae,af,r2,r4,r5,r7,r8,r9,r10,r11,s19.len,hne,s19.idxn (N:=2) rfl]
     refine w19.gw (k:=(4,0)) (α:=InD) InD.qy (v:=v19) (l:=xb.phis[0].ins) (i:=((n:Int).tmod xb.phis[0].ins.length).toNat) (d:=(n:Int)) Own.ag (by kernel_rfl) rfl rfl (by omega) (cn.2 ⟨rfl,by constructor<;>omega⟩) fun h20 w20 _=>?_
     have w20:Owns W2 h20 (o17.upd (4,0) (it T.dW v19 _)):=w20.congr fun q=>by rw [bL]
     rw [hy];clear hy y
     have x0':an (vw h20) ⟨X,0,none⟩=some vp2:=w20.raw (k:=(3,1)) ((Own.ab (by simp)).trans t.box) (i:=0) (by decide)
     obtain ⟨w21,s21⟩:=w20.freeze Own.ag
     have hWp:=dm (h:=h20) (w20.av _ _ Own.ag)
     have w21:=w21.congr (o':=o17) fun q=>by
      rw [bL];unfold Own.upd;split
      ·rename_i e;rw [e];exact t.free
      ·rfl
     simp (disch:=omega) [ae,af,r2,r4,r5,r7,r8,r9,r10,r11,x0',ix0]
     refine (t.wider hWp).CS w21 (j:=0) c1 s21 (by rw [List.length_set];exact hta.1) (by kernel_rfl) (by rw [Nat.zero_mul];rfl) rfl fun h2 tE=>?_
     refine fin _ _ (tE.mono (by omega)) ?_ ?_ ?_ ?_ ?_<;>simp [ae,af,r2,r4,r5,r8,r10]
    ·have he:xb.phis[0].ins=[]:=List.eq_nil_of_length_eq_zero (by omega)
     refine ax (by simp [ae,af,he]) ?_
     simp
     refine fin _ _ (TuE.mono ⟨_,_,_,_,_,_,_,_,_,_,_,_,_,t,w17⟩ (by omega)) ?_ ?_ ?_ ?_ ?_<;>simp [ae,af,r2,r4,r5,r8,r10]
   ·have he:xb.phis=[]:=List.eq_nil_of_length_eq_zero (by omega)
    have c1i:¬(0:Int)<xb.phis.length:=by omega
    simp [ae,af,r2,r4,r5,r7,r8,r9,r10,r11,x0,hlp,c1,c1i]
    rw [hy];clear hy y
    refine ax (by simp [ae,af,he]) ?_
    simp
    refine fin _ _ (TuE.mono ⟨_,_,_,_,_,_,_,_,_,_,_,_,_,t,w17⟩ (by omega)) ?_ ?_ ?_ ?_ ?_<;>simp [ae,af,r2,r4,r5,r8,r10]
  refine ax (by simp [ae,af,w7]) ?_
  refine aa fun y hy=>?_
  simp [ae,af,r2,r4,r5,r7,r8,r9,r10,r11]
  rw [hy];clear hy y
  by_cases w8:what=8
  ·refine aA (by simp [ae,af,w8]) ?_
   refine aa fun y hy=>?_
   simp [ae,af,r2,r4,r5,r7,r8,r9,r10,r11,x1,hli]
   rw [hy];clear hy y
   by_cases c1:0<xb.ins.length
   ·have hj:=hj1 c1
    refine aA (by simp [ae,af];exact c1) ?_
    obtain ⟨v1,v2,e1,e2,wc,src⟩:=Owns.cut w17 t.ins (N:=5) rfl hj
    have hwj:IntKind.i64.wrap ((j:Int)+1)=(j:Int)+1:=cf (by omega) (by omega)
    refine bO (vw h17) (View.le_refl _) ?_
    simp [ae,af,r2,r4,r5,r7,r8,r9,r10,r11,x1,e1,e2,hwj]
    refine wc.bu (k:=(3,2)) (α:=InsD) (l:=xb.ins.take j) (l2:=xb.ins.drop (j+1)) Own.ag El.eA rfl rfl src (by simp;omega) (by simp;omega) fun v18 h18 w18 _=>?_
    have w18:Owns W2 h18 (o17.upd (3,2) (it T.aW v18 (xb.ins.take j++xb.ins.drop (j+1)))):=w18.congr fun q=>by rw [bL]
    refine t.DR w18 (by simp;omega) (fun i hi=>by
     rcases List.mem_append.1 hi with q | q
     ·exact t.tb.iar i (List.mem_of_mem_take q)
     ·exact t.tb.iar i (List.mem_of_mem_drop q)) (by kernel_rfl) rfl rfl fun h2 tE=>?_
    refine fin _ _ (tE.mono (by omega)) ?_ ?_ ?_ ?_ ?_<;>simp [ae,af,r2,r4,r5,r8,r10]
   ·have he:xb.ins=[]:=List.eq_nil_of_length_eq_zero (by omega)
    refine ax (by simp [ae,af,he]) ?_
    simp
    refine fin _ _ (TuE.mono ⟨_,_,_,_,_,_,_,_,_,_,_,_,_,t,w17⟩ (by omega)) ?_ ?_ ?_ ?_ ?_<;>simp [ae,af,r2,r4,r5,r8,r10]
  refine ax (by simp [ae,af,w8]) ?_
  refine aa fun y hy=>?_
  simp [ae,af,r2,r4,r5,r7,r8,r9,r10,r11]
  rw [hy];clear hy y
  by_cases w9:what=9
  ·refine aA (by simp [ae,af,w9]) ?_
   refine aa fun y hy=>?_
   simp [ae,af,r2,r4,r5,r7,r8,r9,r10,r11,x1,hli]
   rw [hy];clear hy y
   by_cases c1:1<xb.ins.length
   ·have hj:=hj1 (by omega)
    refine aA (by simp [ae,af];omega) ?_
    have h0i:0<xb.ins.length:=by omega
    obtain ⟨u0,hu0,hr0⟩:=Owns.ldW w17 t.ins rfl (N:=5) rfl h0i
    obtain ⟨uj,huj,hrj⟩:=Owns.ldW w17 t.ins rfl (N:=5) rfl hj
    rw [Nat.zero_mul] at hu0
    obtain ⟨va0,rfl,rng0,ra0⟩:=qV hr0
    have ix0:Bn.ev (.idx 5) vi2 (.int .i64 0)=some (.pointer (some ((slA vi2).add 0))):=by
     have:=sI.idxn (N:=5) rfl (k:=.i64) (i:=0) (by omega) (by omega);simpa using this
    refine aa fun y hy=>?_
    simp (disch:=omega) [ae,af,r2,r4,r5,r7,r8,r9,r10,r11,x1,ix0,hu0]
    have hva0:=ra0.cells.2
    refine w17.gZ (k:=(4,0)) (n:=4) (l:=[.int .i64 xb.ins[0].op,.int .i64 xb.ins[0].dst,.int .i64 xb.ins[0].two,va0,.int .i32 xb.ins[0].imm.v]) t.free (z:=.agg #[.int .i64 0,.int .i64 0,.int .i64 0,.slice none 0 0,.int .i32 0]) (by kernel_rfl) rfl (by kernel_rfl) rfl (by decide) (by intro c hc;simp only [List.mem_cons,List.not_mem_nil,or_false] at hc;rcases hc with rfl | rfl | rfl | rfl | rfl<;>first | rfl | assumption) (fun _=>by simp) (fun _=>by simp) fun h18 q18 w18=>?_
    generalize h17.size=Y at w18
    have x18:=ah q18 x1
    have huj18:Un.ev (vw h18) (.al 5) (.pointer (some ((slA vi2).add (j*5))))=some uj:=by
     have:=cw (ρ:=fun _=>none) (e:=.un (.al 5) (.con (.pointer (some ((slA vi2).add (j*5)))))) q18 (by simpa using huj)
     simpa using this
    rw [hy];clear hy y
    refine aa fun y hy=>?_
    refine bO (vw h18) (View.le_refl _) ?_
    simp (disch:=omega) [ae,af,r2,r4,r5,r7,r8,r9,r10,r11,x18,ix0,sI.idxn (N:=5) rfl,huj18]
    refine w18.jX (k:=(3,2)) (α:=InsD) (v:=vi2) (l:=xb.ins) (i:=0) (d:=xb.ins[j]) ((Own.ab (by simp)).trans t.ins) (by kernel_rfl) (by rw [Nat.zero_mul];rfl) rfl h0i hrj fun h19 w19 _=>?_
    have cY:=w19.dz (k:=(4,0)) (n:=4) ((Own.ab (by simp)).trans Own.ag)
    have cY:Un.ev (vw h19) (.al 5) (.pointer (some ⟨Y,0,none⟩))=some (.agg #[.int .i64 xb.ins[0].op,.int .i64 xb.ins[0].dst,.int .i64 xb.ins[0].two,va0,.int .i32 xb.ins[0].imm.v]):=cY
    have x19:an (vw h19) ⟨X,1,none⟩=some vi2:=w19.raw (k:=(3,1)) ((Own.ab (by simp)).trans ((Own.ab (by simp)).trans t.box)) (i:=1) (by decide)
    have s19:=w19.now (k:=(3,2)) Own.ag
    rw [hy];clear hy y
    simp (disch:=first | omega | (simp;omega)) [ae,af,r2,r4,r5,r7,r8,r9,r10,r11,x19,cY,s19.idxn (N:=5) rfl]
    refine w19.jX (k:=(3,2)) (α:=InsD) (v:=vi2) (l:=xb.ins.set 0 xb.ins[j]) (i:=j) (d:=xb.ins[0]) Own.ag (by kernel_rfl) rfl rfl (by rw [List.length_set];exact hj) hr0 fun h20 w20 _=>?_
    have w20:Owns W2 h20 (o17.upd (3,2) (it T.aW vi2 ((xb.ins.set 0 xb.ins[j]).set j xb.ins[0]))):=w20.sub fun k i hk=>by
     have hk4:k≠(4,0):=by rintro rfl;rw [Own.ab (by simp),t.free] at hk;cases hk
     by_cases e:k=(3,2)
     ·subst e;rw [Own.ag] at hk ⊢;exact hk
     ·rw [Own.ab e] at hk;rw [Own.ab e,Own.ab e,Own.ab hk4];exact hk
    refine fin _ _ (TuE.mono ⟨W2,_,f.params,vp2,vi2,va,vt,xb.term.kind,xb.term.imm.v,xb.phis,(xb.ins.set 0 xb.ins[j]).set j xb.ins[0],xb.term.args,xb.term.to,⟨t.le,(Own.ab (by simp)).trans t.res,(Own.ab (by simp)).trans t.fn,(Own.ab (by simp)).trans t.blk,(Own.ab (by simp)).trans t.box,Own.ag,(Own.ab (by simp)).trans t.phis,(Own.ab (by simp)).trans t.free,fun k hk=>(Own.ab (by rintro rfl;simp at hk)).trans (t.fr k hk),t.ra,t.rt,t.ips,t.ikd,t.iim,⟨t.tb.phis,by rw [List.length_set,List.length_set];exact t.tb.ins,t.tb.args,t.tb.to,t.tb.pin,fun i hi=>?_⟩⟩,w20⟩ (by omega)) ?_ ?_ ?_ ?_ ?_
    ·rcases List.mem_or_eq_of_mem_set hi with q | q
     ·rcases List.mem_or_eq_of_mem_set q with q | q
      ·exact t.tb.iar i q
      ·rw [q];exact t.tb.iar _ (List.getElem_mem hj)
     ·rw [q];exact t.tb.iar _ (List.getElem_mem h0i)
    all_goals simp [ae,af,r2,r4,r5,r8,r10]
   ·refine ax (by simp [ae,af];omega) ?_
    simp
    refine fin _ _ (TuE.mono ⟨_,_,_,_,_,_,_,_,_,_,_,_,_,t,w17⟩ (by omega)) ?_ ?_ ?_ ?_ ?_<;>simp [ae,af,r2,r4,r5,r8,r10]
  refine ax (by simp [ae,af,w9]) ?_
  refine aa fun y hy=>?_
  simp [ae,af,r2,r4,r5,r7,r8,r9,r10,r11]
  rw [hy];clear hy y
  by_cases w10:what=10
  ·refine aA (by simp [ae,af,w10]) ?_
   refine aa fun y hy=>?_
   simp [ae,af,r2,r4,r5,r7,r8,r9,r10,r11,x4,hlt]
   rw [hy];clear hy y
   by_cases c1:0<xb.term.to.length
   ·refine aA (by simp [ae,af];exact c1) ?_
    refine aa fun y hy=>?_
    simp [ae,af]
    refine w17.cz (k:=(4,0)) (α:=Int) t.free El.aP fun v18 h18 hle18 hv18 w18 _=>?_
    simp (disch:=omega) [ae,af,r2,r4,r5,r7,r8,r9,r10,r11,ah hle18 x4]
    refine w18.bu (k:=(4,0)) (α:=Int) (l:=([]:List Int)) (l2:=xb.term.to) Own.ag El.aP rfl rfl (t.rt.src w18.wle) (by simp;omega) (by simp;omega) fun v19 h19 w19 _=>?_
    rw [List.nil_append] at w19
    have w19:Owns W2 h19 (o17.upd (4,0) (it T.int v19 xb.term.to)):=w19.congr fun q=>by rw [bL]
    rw [hy];clear hy y
    refine aa fun y hy=>?_
    have s19:=w19.now (k:=(4,0)) Own.ag
    have m0:=Int.tmod_nonneg (xb.term.to.length:Int) (show (0:Int)≤n by omega)
    have m1:=Int.tmod_lt_of_pos (n:Int) (show (0:Int)<xb.term.to.length by omega)
    have q0:=Int.tmod_nonneg (11:Int) (show (0:Int)≤n by omega)
    have q1:=Int.tmod_lt_of_pos (n:Int) (show (0:Int)<11 by omega)
    have hne:¬xb.term.to=[]:=fun e=>by rw [e] at c1;simp at c1
    simp (disch:=omega) [ae,af,r2,r4,r5,r7,r8,r9,r10,r11,s19.len,hne,s19.idx1 rfl]
    refine w19.jX (k:=(4,0)) (α:=Int) (v:=v19) (l:=xb.term.to) (i:=((n:Int).tmod xb.term.to.length).toNat) (d:=(n:Int).tmod 11) Own.ag (by kernel_rfl) (by rw [show Rep.n Int=1 from rfl,Nat.mul_one];rfl) rfl (by omega) (cn.2 ⟨rfl,by constructor<;>omega⟩) fun h20 w20 _=>?_
    have w20:Owns W2 h20 (o17.upd (4,0) (it T.int v19 (xb.term.to.set ((n:Int).tmod xb.term.to.length).toNat ((n:Int).tmod 11)))):=w20.congr fun q=>by rw [bL]
    rw [hy];clear hy y
    obtain ⟨w21,s21⟩:=w20.freeze Own.ag
    have hWp:=dm (h:=h20) (w20.av _ _ Own.ag)
    have w21:=w21.congr (o':=o17) fun q=>by
     rw [bL];unfold Own.upd;split
     ·rename_i e;rw [e];exact t.free
     ·rfl
    simp (disch:=omega) [ae,af,r2,r4,r5,r7,r8,r9,r10,r11]
    refine (t.wider hWp).zP w21 s21 (by rw [List.length_set];exact t.tb.to) (by kernel_rfl) rfl rfl fun h2 tE=>?_
    refine fin _ _ (tE.mono (by omega)) ?_ ?_ ?_ ?_ ?_<;>simp [ae,af,r2,r4,r5,r8,r10]
   ·have he:xb.term.to=[]:=List.eq_nil_of_length_eq_zero (by omega)
    refine ax (by simp [ae,af,he]) ?_
    simp
    refine fin _ _ (TuE.mono ⟨_,_,_,_,_,_,_,_,_,_,_,_,_,t,w17⟩ (by omega)) ?_ ?_ ?_ ?_ ?_<;>simp [ae,af,r2,r4,r5,r8,r10]
  refine ax (by simp [ae,af,w10]) ?_
  simp [ae,af,r2,r4,r5,r7,r8,r9,r10,r11,x0]
  refine aL (z:=.agg #[.int .i64 0,.slice none 0 0]) (places:=[(0,1),(1,1)]) (vs:=[(0,.int .i64 n)]) (cs:=#[.int .i64 n,.slice none 0 0]) (by kernel_rfl) (by kernel_rfl) (by simp) (by rfl) ?_
  refine w17.dL (k:=(3,3)) (α:=PhiD) (d:=⟨n,[]⟩) t.phis El.gG rfl (sA ⟨by omega,by omega⟩ dM) (by omega) (by omega) (fun _=>rfl) (fun _=>rfl) fun u18 v18 h18 w18 _=>?_
  refine (t.more (d:=c+1) (by omega)).Ec w18 (by rw [List.length_append,List.length_singleton];omega) (fun i hi=>by
   rcases List.mem_append.1 hi with q | q
   ·have:=t.tb.pin i q;omega
   ·rw [List.mem_singleton] at q;rw [q];exact ⟨Nat.zero_le _,by show (n:Int)≤4000;omega⟩) (by kernel_rfl) rfl rfl fun h2 tE=>?_
  refine fin _ _ tE ?_ ?_ ?_ ?_ ?_<;>simp [ae,af,r2,r4,r5,r8,r10]
 refine aa fun y hy=>?_
 simp [x1,hli]
 rw [hy];clear hy y
 by_cases c1:0<xb.ins.length
 ·rw [if_pos c1] at hj2
  have hne:¬xb.ins=[]:=fun e=>by rw [e] at c1;simp at c1
  refine aA (by simp [hne];exact c1) ?_
  simp [x1,hli,hne]
  refine sw _ ?_ ?_ ?_ ?_ ?_ ?_ ?_ ?_
  all_goals simp [hj2]
 ·rw [if_neg c1] at hj2
  have he:xb.ins=[]:=List.eq_nil_of_length_eq_zero (by omega)
  refine ax (by simp [he]) ?_
  simp
  refine sw _ ?_ ?_ ?_ ?_ ?_ ?_ ?_ ?_
  all_goals simp [hj2]
end Go.Proofs.Ytfelpjfopgiabaa
namespace Go.Proofs.Ytfelpjfopgiabaa
open Go Go.Lft
theorem rA {H:View} {u:Value} {f:ak} (h:Rd H u f) : ∃ vb,u = .agg #[.int .i64 f.params,vb]∧I64 f.params∧SlRd H vb f.blocks:=by
 obtain ⟨cs,rfl,c1,r1,e1,⟨rfl,h1⟩,vb,h2,h3⟩:=h
 exact ⟨vb,by rw [←Array.toList_inj.1 ((by rw [e1,h2];rfl):cs.toList = #[Value.int .i64 f.params,vb].toList)],h1,h3⟩
theorem nj {a:Value} {v:Int} (ha:a.oneCell'=true) : ∀ c∈[Value.int .i64 v,a],c.oneCell'=true:=by
 intro c hc
 simp only [List.mem_cons,List.not_mem_nil,or_false] at hc
 rcases hc with rfl | rfl<;>first | rfl | exact ha
theorem wF {l:List Int} {vl:Value} {h:Heap} {W:View} {o0:Own} (w0:Owns W h o0) (ho0 : ∀ k:Key,k.1<11→o0 k=none) (hs:SlRd W vl l) :
  aG Try.prog N.eV #[vl] h (fun u h'=>∃ W' o vb lb,W.le W'∧Owns W' h' o∧(∀ k:Key,3≤k.1→o k=o0 k)∧FnB o vb lb (iP (l.take 200))∧u = .agg #[.int .i64 (iP (l.take 200)).params,vb]):=by
 refine ay (args:=[vl]) follows F.eV E.eV (Nat.le_of_ble_eq_true (by kernel_rfl)) fun K hK=>?_
 dsimp only [L.eV]
 refine aa fun z hz=>?_
 simp
 refine w0.jj (k:=(10,0)) (n:=1) (z:=.agg #[.int .i64 0,.slice none 0 0]) (ho0 _ (by decide)) (by kernel_rfl) rfl (by decide) (by simp [Value.cells,Value.oneCell']) fun h1 q1 w1=>?_
 generalize h.size=R at w1
 obtain ⟨u2,e2,s2⟩:=iH hs 200 200 rfl
 rw [hz];clear hz z
 refine aa fun z hz=>?_
 simp [hs.len,e2]
 refine aj (by kernel_rfl) (Ck w1 (fun k hk=>(Own.ab (by rintro rfl;simp at hk)).trans (ho0 k (by omega))) s2) ?_
 rintro _ h3 ⟨W3,o3,vb,lb,hW3,w3,f3,b3,rfl⟩
 have c3:o3 (10,0)=_:=(f3 (10,0) (by decide)).trans Own.ag
 refine w3.fj (k:=(10,0)) (α:=RawN 1) (β:=RawN 1) Part.all (B:=R) (D:=RawN.mk (n:=1) [.int .i64 0,.slice none 0 0]) (d:=RawN.mk (n:=1) [.int .i64 (iP (l.take 200)).params,vb]) c3 (by kernel_rfl) rfl rfl (e9 rfl (nj (w3.cells b3.blk).2)) fun h4 w4 _=>?_
 have cb:=w4.dz (k:=(10,0)) (n:=1) (l:=[.int .i64 (iP (l.take 200)).params,vb]) Own.ag
 have cb:Un.ev (vw h4) (.al 2) (.pointer (some ⟨R,0,none⟩))=some (.agg #[.int .i64 (iP (l.take 200)).params,vb]):=cb
 rw [hz];clear hz z
 simp [cb]
 refine hK _ _ ⟨W3,fun k=>if 3≤k.1 then o0 k else o3 k,vb,lb,hW3,w4.sub fun k i hk=>?_,fun k hk=>if_pos hk,⟨?_,b3.len,b3.term,fun i hi=>?_,fun i hi=>?_⟩,rfl⟩
 ·have h10:k≠(10,0):=by rintro rfl;rw [if_pos (by decide),ho0 _ (by decide)] at hk;cases hk
  rw [Own.ab h10]
  split at hk
  ·rename_i e
   rw [f3 k e,Own.ab h10];exact hk
  ·exact hk
 ·exact (if_neg (by decide)).trans b3.blk
 ·exact (if_neg (by show ¬3≤1;decide)).trans (b3.phis i hi)
 ·exact (if_neg (by show ¬3≤2;decide)).trans (b3.ins i hi)
theorem sC {l:List Int} {vl:Value} {h:Heap} {W:View} {o0:Own} (w0:Owns W h o0) (ho0 : ∀ k:Key,k.1<11→o0 k=none) (hs:SlRd W vl l) :
  aG Try.prog N.eV #[vl] h (fun u h'=>∃ W',W.le W'∧Owns W' h' o0∧Rd W' u (iP (l.take 200))):=by
 refine (wF w0 ho0 hs).mono ?_
 rintro u h' ⟨W1,o,vb,lb,hW,w,ho,b,rfl⟩
 obtain ⟨W2,hW2,w2,sb⟩:=b.freeze w ho fun k hk=>ho0 k (by omega)
 have mp:=yg (s:=l.take 200)
 have mi:I64 (iP (l.take 200)).params:=⟨by omega,by omega⟩
 exact ⟨W2,View.le_trans hW hW2,w2,⟨_,rfl,[.int .i64 (iP (l.take 200)).params],[vb],rfl,⟨rfl,mi⟩,vb,rfl,sb⟩⟩
abbrev Q3:=Cat Int (Cat Int Int)
instance:Inhabited Q3:=⟨⟨0,0,0⟩⟩
theorem D9 {H:View} {u:Value} {d:Q3} (h:Rd H u d):u = .agg #[.int .i64 d.a,.int .i64 d.b.a,.int .i64 d.b.b]∧I64 d.a∧I64 d.b.a∧I64 d.b.b:=by
 obtain ⟨cs,rfl,c1,r1,e1,⟨rfl,h1⟩,c2,c3,rfl,⟨rfl,h2⟩,rfl,h3⟩:=h
 exact ⟨by rw [←Array.toList_inj.1 ((by rw [e1];rfl):cs.toList = #[Value.int .i64 d.a,.int .i64 d.b.a,.int .i64 d.b.b].toList)],h1,h2,h3⟩
end Go.Proofs.Ytfelpjfopgiabaa
namespace Go.Proofs.Ytfelpjfopgiabaa
open Go Go.Lft
theorem EP {f:ak}:(fewS f).blocks.length≤9:=by simp [fewS];omega
theorem DS {f:ak} {i:Nat} (hi:i<(fewS f).blocks.length) : ∃ x,nth (fewS f).blocks i=fewB x:=by
 rw [aq hi]
 simp only [fewS,List.getElem_map]
 exact ⟨_,rfl⟩
theorem Df {f:ak}:SmF (fewS f) where
 len:=Nat.le_trans EP (by decide)
 blk:=fun i hi=>by
  obtain ⟨x,e⟩:=DS hi
  rw [e]
  refine ⟨by simp [fewB];omega,by simp [fewB];omega,by simp [fewB];omega,by simp [fewB];omega,fun j hj=>?_,fun j hj=>?_⟩
  ·rw [aq hj];simp [fewB,fewP];omega
  ·rw [aq hj];simp [fewB,fewI];omega
end Go.Proofs.Ytfelpjfopgiabaa
namespace Go.Lft
open Go
theorem BD {P:Program} {Q:Post} {ρ:Env} {h:Heap} {a i c:Nat} {ks ks2:List Nat} {ce:E} {body:LC} {σ:Type} (kp:List Nat) (vals:σ→Nat→List Value) (J:σ→Nat→Heap→Prop) (n:Nat) (d:Int) (s0:σ)
  (hok:nI kp ks ks2 c i=true) (hd:-9223372036854775808≤d) (hn:n+d≤9223372036854775806) (h0:bz kp ρ=kp.zip (vals s0 0)) (hj:J s0 0 h)
  (hi : ∀ s k,look (kp.zip (vals s k)) i=some (.int .i64 ((k:Int)+d)))
  (hb : ∀ s k h,k≤n→J s k h→ev (look (kp.zip (vals s k))) (vw h) ce=some (.bool (decide (k<n))))
  (round : ∀ s k h,k<n→J s k h→∀ K:Env→Heap→Prop,(∀ s' ρ' h',look ρ' i=some (.int .i64 ((k:Int)+d))→bz kp (setE ρ' i (.int .i64 (((k:Int)+d)+1)))=kp.zip (vals s' (k+1))→J s' (k+1) h'→K ρ' h')→body.wp P (eS K (dZ a Q)) (kp.zip (vals s k)) h)
  (done : ∀ s h,J s n h→Q .normal (kp.zip (vals s n)) h):LC.wp P (forC a i c ks ks2 ce body) (dZ a Q) ρ h:=by
 simp only [nI,List.all_eq_true,Bool.and_eq_true,Bool.not_eq_true',bne_iff_ne,Bool.or_eq_true,beq_iff_eq,ne_eq] at hok
 refine jv kp (fun m ρ h=>∃ s k,k≤n∧ρ=kp.zip (vals s k)∧m=n-k∧J s k h) n ⟨s0,0,by omega,h0,by omega,hj⟩ ?_
 rintro m ρ h ⟨s,k,hk,rfl,rfl,hJ⟩ K hK
 have hkill:bI (kp.zip (vals s k)) ks=kp.zip (vals s k):=kr fun p hp=>(hok p.1 (jg hp)).1.1
 have hne : ∀ p∈kp.zip (vals s k),p.1≠c:=fun p hp=>(hok p.1 (jg hp)).1.2
 have hk2 : ∀ v,bI (setE (kp.zip (vals s k)) c v) [c]=kp.zip (vals s k):=fun v=>kc hne
 have hlk : ∀ v,look (setE (kp.zip (vals s k)) c v) c=some v:=fun v=>by rw [ae,if_pos rfl]
 simp only [px,jk,fP,ey,gO,jo,hb s k h hk hJ,Option.bind_some,gj,ji,true_and,cN,hkill,cK,kv,kN,hlk,iy,hk2,mM,mK,ky,ka,if_true]
 refine ⟨fun hlt=>?_,fun hge=>?_⟩
 ·have hlt':k<n:=by omega
  rw [jt]
  refine round s k h hlt' hJ _ fun s' ρ' h' hl he hJ'=>?_
  simp only [jk,fP,ey,gO,jo,ja,kN,hl,ji,true_and,Option.bind_some,sQ,Option.bind_some,rV,gj,cN,cK,true_and]
  rw [cf (by omega) (by omega)]
  refine hK (n-(k+1)) _ _ (by omega) ⟨s',k+1,by omega,?_,rfl,hJ'⟩
  rw [←he]
  refine jT fun t ht=>?_
  rw [ae,ae,af]
  split
  ·rfl
  ·rename_i hti
   rcases (hok t ht).2 with e | e
   ·exact absurd e.symm hti
   ·rw [e];rfl
 ·have:k=n:=by omega
  subst this
  exact done s h hJ
section
variable {po:OP}
theorem Owns.Ac {P:Program} {W:View} {h:Heap} {o:Own} {ty:TypeId} {us:List (Nat × Value)} {α:Type} [Rep α] {t:TypeId} {x:Operand} {v:Value} {d:α} {K:Value→Heap→Prop} (w:Owns W h o) (hx:asg us x=v) (hv:Rd W v d)
  (hk : ∀ B h' W',W.le W'→Owns W' h' o→At W' ⟨B,0,none⟩ d→(vw h).le (vw h')→K (.pointer (some ⟨B,0,none⟩)) h'):step P (.box t x) ty us h K:=by
 refine eJ hx (hv.mono w.wle) fun h1 hp hle hs _=>?_
 exact hk _ _ _ (aX w.wle) (w.ext hle) (mT (t:=t) (fz:=(0,0)) (by rw [cQ (Nat.le_refl _),hp];simp) (hv.mono (aX w.wle))) hle
end
end Go.Lft
namespace Go.Proofs.Ytfelpjfopgiabaa
open Go Go.Lft
abbrev NumD:=Cat (List Int) Q3
section
variable {B D:Nat} {ps:Int} {vb:Value} {l:List Value} {k:Key}
end
end Go.Proofs.Ytfelpjfopgiabaa
namespace Go.Proofs.Ytfelpjfopgiabaa
open Go Go.Lft
theorem kQ {v ps k:Int} {h:Heap}:aG Try.prog N.eP #[.int .i64 v,.int .i64 ps,.int .i64 k] h (fun u h'=>u = .int .i64 (mvS ps k v)∧h'=h):=by
 refine ay (args:=[.int .i64 v,.int .i64 ps,.int .i64 k]) follows F.eP E.eP (Nat.le_of_ble_eq_true (by kernel_rfl)) fun K hK=>?_
 simp [L.eP]
 exact ⟨fun h1=>hK _ _ ⟨by unfold mvS;rw [if_pos h1],rfl⟩,fun h1=>hK _ _ ⟨by unfold mvS;rw [if_neg (by omega)],rfl⟩⟩
theorem pK {ps k v:Int} (h:I64 v):I64 (mvS ps k v):=by
 unfold mvS
 split
 ·exact h
 ·exact pw
section
variable {f:ak} {g:Int→Int}
def shTo (g:Int→Int) (f:ak) (k:Nat):ak:=⟨f.params,eQ (shB g) f.blocks k⟩
theorem rP {k:Nat}:(shTo g f k).blocks.length=f.blocks.length:=fh
theorem AP:shTo g f 0=f:=by unfold shTo;rw [jc]
theorem BY:shTo g f f.blocks.length=shF g f:=by unfold shTo;rw [jW];rfl
theorem BF {k:Nat} (hk:k<f.blocks.length):aT (shTo g f k) k (nth f.blocks k)=shTo g f k:=by
 have:nth (shTo g f k).blocks k=nth f.blocks k:=iZ hk
 rw [←this]
 exact wM (by rw [rP];exact hk)
theorem Aq {k:Nat} (hk:k<f.blocks.length):aT (shTo g f k) k (shB g (nth f.blocks k))=shTo g f (k+1):=by
 unfold aT shTo
 dsimp only
 rw [jd hk]
end
def shd1 (g:Int→Int) (x:BlkD) (i:Nat):BlkD:=⟨eQ (shP g) x.phis i,x.ins,x.term⟩
def shd2 (g:Int→Int) (x:BlkD) (i:Nat):BlkD:=⟨x.phis.map (shP g),eQ (shI g) x.ins i,x.term⟩
def shd3 (g:Int→Int) (x:BlkD) (i:Nat):BlkD:=⟨x.phis.map (shP g),x.ins.map (shI g),{ x.term with args:=eQ g x.term.args i }⟩
section
variable {g:Int→Int} {x:BlkD} {i k:Nat}
theorem Ar:shd1 g x 0=x:=by unfold shd1;rw [jc]
theorem Dk:shd1 g x x.phis.length=shd2 g x 0:=by unfold shd1 shd2;rw [jW,jc]
theorem C5:shd2 g x x.ins.length=shd3 g x 0:=by unfold shd2 shd3;rw [jW,jc]
theorem BG:shd3 g x x.term.args.length=shB g x:=by unfold shd3 shB shT;rw [jW]
theorem Dy (hi:i<x.phis.length):dG (shd1 g x i) i ⟨g (nth x.phis i).dst,(nth x.phis i).ins.map (shIn g)⟩=shd1 g x (i+1):=by
 unfold dG shd1
 dsimp only
 rw [←jd hi];rfl
theorem Ef (hi:i<x.ins.length):dB (shd2 g x i) i (shI g (nth x.ins i))=shd2 g x (i+1):=by
 unfold dB shd2
 dsimp only
 rw [←jd hi]
theorem wY (hi:i<x.phis.length):nth (shd1 g x i).phis i=nth x.phis i:=iZ hi
theorem xg (hi:i<x.ins.length):nth (shd2 g x i).ins i=nth x.ins i:=iZ hi
theorem uX {d:BlkD} {p q:PhiD}:dG (dG d i p) i q=dG d i q:=by unfold dG;dsimp only;rw [List.set_set]
theorem pC {d:BlkD} {p q:InsD}:dB (dB d i p) i q=dB d i q:=by unfold dB;dsimp only;rw [List.set_set]
theorem yw {d:BlkD} {p:PhiD} (hi:i<d.phis.length):nth (dG d i p).phis i=p:=by unfold dG;dsimp only;rw [aJ hi,if_pos rfl]
theorem zc {d:BlkD} {p:InsD} (hi:i<d.ins.length):nth (dB d i p).ins i=p:=by unfold dB;dsimp only;rw [aJ hi,if_pos rfl]
end
theorem yS (K:Nat) {f:ak} {m:Int} {v:Value} {h:Heap} {W:View} {o0:Own} (w0:Owns W h o0) (ho0 : ∀ k:Key,K≤k.1→k.1≤K+12→o0 k=none) (hv:Rd W v f) :
  aG Try.prog N.bf #[v,.int .i64 m] h (fun u h'=>∃ W',W.le W'∧Owns W' h' o0∧Rd W' u (shF (mvS f.params m) (fewS f))):=by
 refine ay (args:=[v,.int .i64 m]) follows F.bf E.bf (Nat.le_of_ble_eq_true (by kernel_rfl)) fun Kc hK=>?_
 dsimp only [L.bf]
 refine aa fun z hz=>?_
 simp
 refine Owns.Ac w0 (d:=f) rfl hv fun B h1 W1 hW1 w1 hat hle1=>?_
 obtain ⟨cp,vb0,cb0⟩:=gq hat
 obtain ⟨uf,huf,rf⟩:=hat.al rfl
 have huf:Un.ev W1 (.al 2) (.pointer (some ⟨B,0,none⟩))=some uf:=huf
 refine w1.jj (k:=(K+10,1)) (n:=1) (z:=.agg #[.int .i64 0,.slice none 0 0]) (ho0 _ (by simp) (by simp)) (by kernel_rfl) rfl (by decide) (by simp [Value.cells,Value.oneCell']) fun h2 q2 w2=>?_
 generalize h1.size=R at w2
 rw [hz];clear hz z
 refine aa fun z hz=>?_
 have huf2:Un.ev (vw h2) (.al 2) (.pointer (some ⟨B,0,none⟩))=some uf:=by
  have:=cw (ρ:=fun _=>none) (e:=.un (.al 2) (.con (.pointer (some ⟨B,0,none⟩)))) w2.wle (by simpa using huf)
  simpa using this
 simp [huf2]
 refine aj (by kernel_rfl) (DP K w2 (fun k h1 h2=>by rw [Own.ab (by rintro rfl;simp at h2)];exact ho0 k h1 (by omega)) rf) ?_
 rintro _ h3 ⟨W3,o3,vb,V,hW3,w3,fr3,tm3,g3,rfl,ip⟩
 refine w3.gZ (k:=(K+10,0)) (n:=1) (l:=[.int .i64 f.params,vb]) (by rw [fr3 _ (by simp),Own.ab (by simp)];exact ho0 _ (by simp) (by simp)) (z:=.agg #[.int .i64 0,.slice none 0 0]) (by kernel_rfl) rfl (by kernel_rfl) rfl (by decide) (nj (w3.cells g3.blk).2) (fun _=>by simp) (fun _=>by simp) fun h4 q4 w4=>?_
 generalize h3.size=D at w4
 obtain ⟨F,hF⟩ : ∃ F,F=fewS f:=⟨_,rfl⟩
 have hps:F.params=f.params:=by rw [hF];rfl
 have sm:SmF F:=by rw [hF];exact Df
 rw [←hF] at g3 hK
 obtain ⟨ob,hob⟩ : ∃ ob,ob=o3.upd (K+10,0) (bx T.aE D (RawN.mk (n:=1) [.int .i64 f.params,vb])):=⟨_,rfl⟩
 rw [←hob] at w4
 have bD:ob (K+10,0)=bx T.aE D (RawN.mk (n:=1) [.int .i64 f.params,vb]):=by rw [hob,Own.ag]
 have bR:ob (K+10,1)=bx T.aE R (RawN.mk (n:=1) [.int .i64 0,.slice none 0 0]):=by rw [hob,Own.ab (by simp),fr3 _ (by simp),Own.ag];rfl
 have bX:ob (K+11,0)=none:=by rw [hob,Own.ab (by simp),fr3 _ (by simp),Own.ab (by simp)];exact ho0 _ (by simp) (by simp)
 have bF : ∀ k:Key,(k.1<K∨K+9<k.1)→k≠(K+10,0)→k≠(K+10,1)→ob k=o0 k:=fun k h1 h2 h3=>by rw [hob,Own.ab h2,fr3 k h1,Own.ab h3]
 have t4:Wt W3 h4 K ob vb V (shTo (mvS f.params m) F 0):=by
  rw [AP]
  exact ⟨ob,w4,by rw [hob];exact g3.upd (by simp),fun _ _=>rfl⟩
 have cp3:=ah hW3 cp
 clear hob w4 g3 w3 w2 fr3 tm3 huf2 huf rf q2 q4
 rw [hz];clear hz z
 refine aa fun z hz=>?_
 have hFl:=sm.len
 simp
 refine cB [1,2,4,5,6] (fun (_:Unit) k=>[.int .i64 m,.pointer (some ⟨B,0,none⟩),.pointer (some ⟨R,0,none⟩),.pointer (some ⟨D,0,none⟩),.int .i64 k])
  (fun _ k h5=>Wt W3 h5 K ob vb V (shTo (mvS f.params m) F k)) F.blocks.length ()
  rfl (by omega) rfl t4 (fun _ _=>rfl) (fun _ k h5 hk t=>?_) ?_ ?_
 ·have c1:an (vw h5) ⟨D,1,none⟩=some vb:=t.raw (k:=(K+10,0)) (by simp) bD (i:=1) (by decide)
  have s5:=t.blks
  have hl:(shTo (mvS f.params m) F k).blocks.length=F.blocks.length:=rP
  simp [c1,s5.len,hl]
 ·rintro _ b h5 hlt t5 K2 hK2
  have hb:b<(shTo (mvS f.params m) F b).blocks.length:=by rw [rP];exact hlt
  have c1:an (vw h5) ⟨D,1,none⟩=some vb:=t5.raw (k:=(K+10,0)) (by simp) bD (i:=1) (by decide)
  obtain ⟨ux,op,oi,oa,ot⟩:=t5.blk hb
  have eb:nth (shTo (mvS f.params m) F b).blocks b=nth F.blocks b:=iZ hlt
  rw [eb] at ux
  have sB:=t5.blks
  have hsb:=sm.blk b hlt
  generalize hx:nth F.blocks b=x at ux hsb
  refine aa fun y hy=>?_
  simp (disch:=omega) [c1,sB.idxn (N:=6) rfl,ux]
  obtain ⟨o5,w5,g5,r5⟩:=t5.ex
  refine w5.gZ (k:=(K+11,0)) (n:=5) (l:=[(V b).p,(V b).i,.int .i64 x.term.kind,(V b).a,(V b).t,.int .i32 x.term.imm.v]) ((r5 _ (by simp)).trans bX) (z:=.agg #[.slice none 0 0,.slice none 0 0,.int .i64 0,.slice none 0 0,.slice none 0 0,.int .i32 0]) (by kernel_rfl) rfl (by kernel_rfl) rfl (by decide) (by intro c hc;simp only [List.mem_cons,List.not_mem_nil,or_false] at hc;rcases hc with rfl | rfl | rfl | rfl | rfl | rfl<;>first | rfl | assumption) (fun _=>by simp) (fun _=>by simp) fun h6 q6 w6=>?_
  generalize h5.size=X at w6
  have t6:Wt W3 h6 K (ob.upd (K+11,0) (bx T.ao X (RawN.mk (n:=5) [(V b).p,(V b).i,.int .i64 x.term.kind,(V b).a,(V b).t,.int .i32 x.term.imm.v]))) vb V (aT (shTo (mvS f.params m) F b) b (shd1 (mvS f.params m) x 0)):=by
   rw [Ar,←hx,BF hlt]
   refine ⟨_,w6,g5.upd (by simp),fun k hk=>?_⟩
   unfold Own.upd;split
   ·rw [hx]
   ·exact r5 k hk
  obtain ⟨oc,hoc⟩ : ∃ oc,oc=ob.upd (K+11,0) (bx T.ao X (RawN.mk (n:=5) [(V b).p,(V b).i,.int .i64 x.term.kind,(V b).a,(V b).t,.int .i32 x.term.imm.v])):=⟨_,rfl⟩
  rw [←hoc] at t6
  have xX:oc (K+11,0)=bx T.ao X (RawN.mk (n:=5) [(V b).p,(V b).i,.int .i64 x.term.kind,(V b).a,(V b).t,.int .i32 x.term.imm.v]):=by rw [hoc,Own.ag]
  have cX : ∀ {h':Heap} {d:BlkD},Wt W3 h' K oc vb V (aT (shTo (mvS f.params m) F b) b d)→an (vw h') ⟨X,0,none⟩=some (V b).p∧an (vw h') ⟨X,1,none⟩=some (V b).i∧an (vw h') ⟨X,3,none⟩=some (V b).a∧an (vw h') ⟨B,0,none⟩=some (.int .i64 f.params):=fun t=>
   ⟨t.raw (k:=(K+11,0)) (by simp) xX (i:=0) (by decide),t.raw (k:=(K+11,0)) (by simp) xX (i:=1) (by decide),t.raw (k:=(K+11,0)) (by simp) xX (i:=3) (by decide),ah t.wle cp3⟩
  clear w5 w6 g5 r5 t5 sB
  have np:=hsb.phis
  have ni:=hsb.ins
  have na:=hsb.args
  rw [hy];clear hy y
  refine aa fun y hy=>?_
  simp
  refine cB [1,2,4,5,6,7,8] (fun (_:Unit) i=>[.int .i64 m,.pointer (some ⟨B,0,none⟩),.pointer (some ⟨R,0,none⟩),.pointer (some ⟨D,0,none⟩),.int .i64 b,.pointer (some ⟨X,0,none⟩),.int .i64 i])
   (fun _ i h7=>Wt W3 h7 K oc vb V (aT (shTo (mvS f.params m) F b) b (shd1 (mvS f.params m) x i))) x.phis.length ()
   rfl (by omega) rfl t6 (fun _ _=>rfl) (fun _ i h7 hk t=>?_) ?_ ?_
  ·have s7:=t.phN hb
   have hl:(shd1 (mvS f.params m) x i).phis.length=x.phis.length:=fh
   simp [(cX t).1,s7.len,hl]
  ·rintro _ i h7 hi t7 K3 hK3
   have hl:(shd1 (mvS f.params m) x i).phis.length=x.phis.length:=fh
   have hi7:i<(shd1 (mvS f.params m) x i).phis.length:=by omega
   obtain ⟨c1,c2,_,c4⟩:=cX t7
   obtain ⟨d1,d2,d3⟩:=t7.phi hb hi7
   rw [wY hi] at d1 d3
   have ix:=t7.ixP hb hi7
   have hsi:=hsb.phi i hi
   refine aa fun q hq=>?_
   refine bO (vw h7) (View.le_refl _) ?_
   simp [c1,c4,ix,d1]
   refine aj (by kernel_rfl) kQ ?_
   rintro _ h8 ⟨rfl,rfl⟩
   refine ⟨View.le_refl _,?_⟩
   refine t7.pd hb hi7 (by kernel_rfl) rfl rfl (pK d3) fun h8 t8=>?_
   rw [wY hi] at t8
   rw [hq];clear hq q
   simp
   have hs8 : ∀ l:List InD,nth (dG (shd1 (mvS f.params m) x i) i ⟨mvS f.params m (nth x.phis i).dst,l⟩).phis i=⟨mvS f.params m (nth x.phis i).dst,l⟩:=fun l=>yw hi7
   have hn8 : ∀ l:List InD,i<(dG (shd1 (mvS f.params m) x i) i ⟨mvS f.params m (nth x.phis i).dst,l⟩).phis.length:=fun l=>by show i<(List.set _ _ _).length;rw [List.length_set];exact hi7
   have t8:Wt W3 h8 K oc vb V (aT (shTo (mvS f.params m) F b) b (dG (shd1 (mvS f.params m) x i) i ⟨mvS f.params m (nth x.phis i).dst,eQ (shIn (mvS f.params m)) (nth x.phis i).ins 0⟩)):=by rw [jc];exact t8
   refine cB [1,2,4,5,6,7,8,9] (fun (_:Unit) k=>[.int .i64 m,.pointer (some ⟨B,0,none⟩),.pointer (some ⟨R,0,none⟩),.pointer (some ⟨D,0,none⟩),.int .i64 b,.pointer (some ⟨X,0,none⟩),.int .i64 i,.int .i64 k])
    (fun _ k h9=>Wt W3 h9 K oc vb V (aT (shTo (mvS f.params m) F b) b (dG (shd1 (mvS f.params m) x i) i ⟨mvS f.params m (nth x.phis i).dst,eQ (shIn (mvS f.params m)) (nth x.phis i).ins k⟩))) (nth x.phis i).ins.length ()
    rfl (by omega) rfl t8 (fun _ _=>rfl) (fun _ k h9 hk t=>?_) ?_ ?_
   ·have s9:=t.pin hb (hn8 _)
    rw [hs8] at s9
    have e2:=(t.phi hb (hn8 _)).2.1
    have hl9:(eQ (shIn (mvS f.params m)) (nth x.phis i).ins k).length=(nth x.phis i).ins.length:=fh
    simp [(cX t).1,t.ixP hb (hn8 _),e2,s9.len,hl9]
   ·rintro _ k h9 hk t9 K4 hK4
    obtain ⟨c1,c2,_,c4⟩:=cX t9
    have ix:=t9.ixP hb (hn8 _)
    have e2:=(t9.phi hb (hn8 _)).2.1
    have hk9:k<(nth (dG (shd1 (mvS f.params m) x i) i ⟨mvS f.params m (nth x.phis i).dst,eQ (shIn (mvS f.params m)) (nth x.phis i).ins k⟩).phis i).ins.length:=by rw [hs8];show k<(eQ _ _ _).length;rw [fh];exact hk
    obtain ⟨g1,g2,g3,g4,g5⟩:=t9.ixN hb (hn8 _) hk9
    have ek:nth (nth (dG (shd1 (mvS f.params m) x i) i ⟨mvS f.params m (nth x.phis i).dst,eQ (shIn (mvS f.params m)) (nth x.phis i).ins k⟩).phis i).ins k=nth (nth x.phis i).ins k:=by rw [hs8];exact iZ hk
    rw [ek] at g2 g3 g4 g5
    simp only [aO]
    refine bO (vw h9) (View.le_refl _) ?_
    simp [c1,c4,ix,e2,g1,g3]
    refine aj (by kernel_rfl) kQ ?_
    rintro _ h10 ⟨rfl,rfl⟩
    refine ⟨View.le_refl _,?_⟩
    refine t9.pv hb (hn8 _) hk9 (by kernel_rfl) rfl rfl (pK g5) fun h10 t10=>?_
    rw [ek,uX,hs8] at t10
    refine hK4 () _ _ rfl rfl ?_
    rw [←jd hk]
    exact t10
   ·rintro _ h9 t9
    rw [jW,Dy hi] at t9
    exact hK3 () _ _ rfl rfl t9
  ·rintro _ h7 t7
   rw [Dk] at t7
   rw [cK,hy];clear hy y
   refine aa fun y hy=>?_
   simp
   refine cB [1,2,4,5,6,7,10] (fun (_:Unit) i=>[.int .i64 m,.pointer (some ⟨B,0,none⟩),.pointer (some ⟨R,0,none⟩),.pointer (some ⟨D,0,none⟩),.int .i64 b,.pointer (some ⟨X,0,none⟩),.int .i64 i])
    (fun _ i h7=>Wt W3 h7 K oc vb V (aT (shTo (mvS f.params m) F b) b (shd2 (mvS f.params m) x i))) x.ins.length ()
    rfl (by omega) rfl t7 (fun _ _=>rfl) (fun _ i h7 hk t=>?_) ?_ ?_
   ·have s7:=t.inN hb
    have hl:(shd2 (mvS f.params m) x i).ins.length=x.ins.length:=fh
    simp [(cX t).2.1,s7.len,hl]
   ·rintro _ i h7 hi t7 K3 hK3
    have hl:(shd2 (mvS f.params m) x i).ins.length=x.ins.length:=fh
    have hi7:i<(shd2 (mvS f.params m) x i).ins.length:=by omega
    obtain ⟨_,c2,_,c4⟩:=cX t7
    obtain ⟨d1,d2,d3,d4,d5⟩:=t7.ins hb hi7
    rw [xg hi] at d1 d2 d4 d5
    have ix:=t7.ixI hb hi7
    have hsi:=hsb.inn i hi
    have hs8 : ∀ p:InsD,nth (dB (shd2 (mvS f.params m) x i) i p).ins i=p:=fun l=>zc hi7
    have hn8 : ∀ p:InsD,i<(dB (shd2 (mvS f.params m) x i) i p).ins.length:=fun l=>by show i<(List.set _ _ _).length;rw [List.length_set];exact hi7
    refine aa fun q hq=>?_
    refine bO (vw h7) (View.le_refl _) ?_
    simp [c2,c4,ix,d1]
    refine aj (by kernel_rfl) kQ ?_
    rintro _ h8 ⟨rfl,rfl⟩
    refine ⟨View.le_refl _,?_⟩
    refine t7.id hb hi7 (by kernel_rfl) rfl rfl (pK d4) fun h8 t8=>?_
    rw [xg hi] at t8
    obtain ⟨_,c2,_,c4⟩:=cX t8
    obtain ⟨d1,d2,d3,d4,d5⟩:=t8.ins hb (hn8 _)
    have ix:=t8.ixI hb (hn8 _)
    rw [hs8] at d1 d2 d4 d5
    rw [hq];clear hq q
    refine aa fun q hq=>?_
    refine bO (vw h8) (View.le_refl _) ?_
    simp [c2,c4,ix,d2]
    refine aj (by kernel_rfl) kQ ?_
    rintro _ h9 ⟨rfl,rfl⟩
    refine ⟨View.le_refl _,?_⟩
    refine t8.i2 hb (hn8 _) (by kernel_rfl) rfl rfl (pK d5) fun h9 t9=>?_
    rw [hs8,pC] at t9
    rw [hq];clear hq q
    simp
    have t9:Wt W3 h9 K oc vb V (aT (shTo (mvS f.params m) F b) b (dB (shd2 (mvS f.params m) x i) i { shI (mvS f.params m) (nth x.ins i) with args:=eQ (mvS f.params m) (nth x.ins i).args 0 })):=by rw [jc];exact t9
    refine cB [1,2,4,5,6,7,10,11] (fun (_:Unit) k=>[.int .i64 m,.pointer (some ⟨B,0,none⟩),.pointer (some ⟨R,0,none⟩),.pointer (some ⟨D,0,none⟩),.int .i64 b,.pointer (some ⟨X,0,none⟩),.int .i64 i,.int .i64 k])
     (fun _ k h9=>Wt W3 h9 K oc vb V (aT (shTo (mvS f.params m) F b) b (dB (shd2 (mvS f.params m) x i) i { shI (mvS f.params m) (nth x.ins i) with args:=eQ (mvS f.params m) (nth x.ins i).args k }))) (nth x.ins i).args.length ()
     rfl (by omega) rfl t9 (fun _ _=>rfl) (fun _ k h9 hk t=>?_) ?_ ?_
    ·have s9:=t.iar hb (hn8 _)
     rw [hs8] at s9
     have e2:=(t.ins hb (hn8 _)).2.2.1
     have hl9:(eQ (mvS f.params m) (nth x.ins i).args k).length=(nth x.ins i).args.length:=fh
     simp [(cX t).2.1,t.ixI hb (hn8 _),e2,s9.len,hl9]
    ·rintro _ k h9 hk t9 K4 hK4
     obtain ⟨_,c2,_,c4⟩:=cX t9
     have ix:=t9.ixI hb (hn8 _)
     have e2:=(t9.ins hb (hn8 _)).2.2.1
     have hk9:k<(nth (dB (shd2 (mvS f.params m) x i) i { shI (mvS f.params m) (nth x.ins i) with args:=eQ (mvS f.params m) (nth x.ins i).args k }).ins i).args.length:=by rw [hs8];show k<(eQ _ _ _).length;rw [fh];exact hk
     obtain ⟨g1,g2,g3⟩:=t9.ixR hb (hn8 _) hk9
     have ek:nth (nth (dB (shd2 (mvS f.params m) x i) i { shI (mvS f.params m) (nth x.ins i) with args:=eQ (mvS f.params m) (nth x.ins i).args k }).ins i).args k=nth (nth x.ins i).args k:=by rw [hs8];exact iZ hk
     rw [ek] at g2 g3
     simp only [aO]
     refine bO (vw h9) (View.le_refl _) ?_
     simp [c2,c4,ix,e2,g1,g2]
     refine aj (by kernel_rfl) kQ ?_
     rintro _ h10 ⟨rfl,rfl⟩
     refine ⟨View.le_refl _,?_⟩
     refine t9.ia hb (hn8 _) hk9 (by kernel_rfl) rfl rfl (pK g3) fun h10 t10=>?_
     rw [pC,hs8] at t10
     refine hK4 () _ _ rfl rfl ?_
     rw [←jd hk]
     exact t10
    ·rintro _ h9 t9
     rw [jW] at t9
     refine hK3 () _ _ rfl rfl ?_
     rw [←Ef hi]
     exact t9
   ·rintro _ h7 t7
    rw [C5] at t7
    rw [cK,hy];clear hy y
    simp
    refine cB [1,2,4,5,6,7,12] (fun (_:Unit) i=>[.int .i64 m,.pointer (some ⟨B,0,none⟩),.pointer (some ⟨R,0,none⟩),.pointer (some ⟨D,0,none⟩),.int .i64 b,.pointer (some ⟨X,0,none⟩),.int .i64 i])
     (fun _ i h7=>Wt W3 h7 K oc vb V (aT (shTo (mvS f.params m) F b) b (shd3 (mvS f.params m) x i))) x.term.args.length ()
     rfl (by omega) rfl t7 (fun _ _=>rfl) (fun _ i h7 hk t=>?_) ?_ ?_
    ·have s7:=t.args hb
     have hl:(shd3 (mvS f.params m) x i).term.args.length=x.term.args.length:=fh
     simp [(cX t).2.2.1,s7.len,hl]
    ·rintro _ k h7 hk t7 K3 hK3
     obtain ⟨_,_,c3,c4⟩:=cX t7
     have hk7:k<(shd3 (mvS f.params m) x k).term.args.length:=by show k<(eQ _ _ _).length;rw [fh];exact hk
     obtain ⟨g1,g2,g3⟩:=t7.ixA hb hk7
     have ek:nth (shd3 (mvS f.params m) x k).term.args k=nth x.term.args k:=iZ hk
     rw [ek] at g2 g3
     simp only [aO]
     refine bO (vw h7) (View.le_refl _) ?_
     simp [c3,c4,g1,g2]
     refine aj (by kernel_rfl) kQ ?_
     rintro _ h8 ⟨rfl,rfl⟩
     refine ⟨View.le_refl _,?_⟩
     refine t7.ta hb hk7 (by kernel_rfl) rfl rfl (pK g3) fun h8 t8=>?_
     refine hK3 () _ _ rfl rfl ?_
     have e8:setArgs (shd3 (mvS f.params m) x k) ((shd3 (mvS f.params m) x k).term.args.set k (mvS f.params m (nth x.term.args k)))=shd3 (mvS f.params m) x (k+1):=by
      unfold setArgs shd3
      dsimp only
      rw [←jd hk]
     rw [←e8]
     exact t8
    ·rintro _ h7 t7
     rw [BG,←hx,Aq hlt] at t7
     obtain ⟨o7,w7,g7,r7⟩:=t7.ex
     refine hK2 () _ _ rfl rfl ⟨_,w7.sub (o':=fun q=>if q=(K+11,0) then none else o7 q) fun q i hq=>?_,g7.congr fun q h1 h2=>if_neg (by rintro rfl;simp at h2),fun q hq=>?_⟩
     ·split at hq
      ·cases hq
      ·exact hq
     ·by_cases e:q=(K+11,0)
      ·rw [if_pos e,e];exact bX.symm
      ·rw [if_neg e,r7 q hq,hoc,Own.ab e]
 ·rintro _ h5 t5
  rw [BY] at t5
  obtain ⟨o5,w5,g5,r5⟩:=t5.ex
  rw [cK,hz];clear hz z
  have hvb:=(w5.cells g5.blk).2
  have c1:Un.ev (vw h5) (.al 2) (.pointer (some ⟨D,0,none⟩))=some (.agg #[.int .i64 f.params,vb]):=t5.dz (k:=(K+10,0)) (n:=1) (by simp) bD
  simp [c1]
  refine w5.fj (k:=(K+10,1)) (e:=T.aE) (B:=R) (D:=RawN.mk (n:=1) [.int .i64 0,.slice none 0 0]) Part.all (d:=RawN.mk (n:=1) [.int .i64 f.params,vb]) ((r5 _ (by simp)).trans bR) (by kernel_rfl) rfl rfl (e9 rfl (by intro c hc;simp only [List.mem_cons,List.not_mem_nil,or_false] at hc;rcases hc with rfl | rfl<;>first | rfl | exact hvb)) fun h6 w6 _=>?_
  have c2:Un.ev (vw h6) (.al 2) (.pointer (some ⟨R,0,none⟩))=some (.agg #[.int .i64 f.params,vb]):=w6.dz (k:=(K+10,1)) (e:=T.aE) (B:=R) (l:=[.int .i64 f.params,vb]) (n:=1) Own.ag
  simp [c2]
  obtain ⟨W7,hW7,w7,s7⟩:=(g5.upd (k:=(K+10,1)) (by simp)).freeze w6
  refine hK _ _ ⟨W7,View.le_trans hW1 (View.le_trans hW3 hW7),w7.sub fun q i hq=>?_,_,rfl,[.int .i64 f.params],[vb],rfl,⟨(by show [Value.int .i64 f.params]=[Value.int .i64 F.params];rw [hps]),(by show I64 F.params;rw [hps];exact ip)⟩,vb,rfl,s7⟩
  have hn:¬(K≤q.1∧q.1≤K+12):=fun e=>by rw [ho0 q e.1 e.2] at hq;cases hq
  rw [if_neg (by omega),Own.ab (by rintro rfl;simp at hn),r5 q (by omega),bF q (by omega) (by rintro rfl;simp at hn) (by rintro rfl;simp at hn)]
  exact hq
end Go.Proofs.Ytfelpjfopgiabaa
namespace Go.Proofs.Ytfelpjfopgiabaa
open Go Go.Lft
def gOwn (g:Option (Nat × List Value)):Own:=fun k=>if k=(11,1) then g.bind fun x=>bx T.aE x.1 (RawN.mk (n:=1) x.2) else none
section
variable {D:Nat} {l:List Value} {k:Key}
theorem iC (h:k.1<11) {g:Option (Nat × List Value)}:gOwn g k=none:=by
 exact if_neg (by rintro rfl;simp at h)
theorem pj {g:Option (Nat × List Value)}:gOwn (some (D,l)) k=Own.upd (gOwn g) (11,1) (bx T.aE D (RawN.mk (n:=1) l)) k:=by
 by_cases h:k=(11,1)
 ·subst h;rfl
 ·unfold gOwn Own.upd
  simp only [h,if_false]
end
end Go.Proofs.Ytfelpjfopgiabaa
namespace Go.Proofs.Ytfelpjfopgiabaa
open Go Go.Lft
theorem Eo {g:ak} {c:Nat} (t:TF c g) : ∀ n∈eu (ar (fewS g)),n≤4000:=by
 intro n hn
 obtain ⟨t',ht,hm⟩:=List.mem_flatMap.1 hn
 obtain ⟨b,hb,h⟩:=dh.1 ht
 have hx : ∃ x∈g.blocks,nth (fewS g).blocks b=fewB x:=by
  rw [aq hb]
  simp only [fewS,List.getElem_map]
  exact ⟨_,List.mem_of_mem_take (List.getElem_mem _),rfl⟩
 obtain ⟨x,hx,e⟩:=hx
 have tb:=t.blk x hx
 rcases dC.1 h with ⟨i,hi,rfl⟩ | ⟨i,hi,rfl⟩ | rfl
 ·have hm:n∈[(nth (nth (fewS g).blocks b).phis i).dst]:=hm
  rw [List.mem_singleton.1 hm,e]
  rw [e] at hi
  have hi:i<((x.phis.take 8).map fewP).length:=hi
  have:nth ((x.phis.take 8).map fewP) i=fewP (nth (x.phis.take 8) i):=jr (by simpa using hi)
  show (nth ((x.phis.take 8).map fewP) i).dst≤_
  rw [this]
  exact (tb.pin _ (List.mem_of_mem_take (bS (by simpa using hi)))).2
 ·have hm:n∈aN (nth (nth (fewS g).blocks b).ins i):=hm
  rw [e] at hi hm
  have hi:i<((x.ins.take 40).map fewI).length:=hi
  have e2:nth ((x.ins.take 40).map fewI) i=fewI (nth (x.ins.take 40) i):=jr (by simpa using hi)
  have hm:n∈aN (nth ((x.ins.take 40).map fewI) i):=hm
  rw [e2] at hm
  have q:=tb.iar _ (List.mem_of_mem_take (bS (l:=x.ins.take 40) (i:=i) (by simpa using hi)))
  have hm:n∈aN (nth (x.ins.take 40) i):=hm
  generalize nth (x.ins.take 40) i=y at q hm
  unfold aN at hm
  split at hm
  ·cases hm
  ·split at hm
   ·rcases List.mem_cons.1 hm with rfl | hm
    ·exact q.2.1
    ·rw [List.mem_singleton.1 hm];exact q.2.2
   ·rw [List.mem_singleton.1 hm];exact q.2.1
 ·cases hm
theorem DA {g:ak}:fewS (fewS g)=fewS g:=by
 have hB : ∀ x,fewB (fewB x)=fewB x:=fun x=>by
  have e1:(((x.phis.take 8).map fewP).take 8).map fewP=(x.phis.take 8).map fewP:=by
   rw [List.take_of_length_le (l:=(x.phis.take 8).map fewP) (i:=8) (by simp;omega),List.map_map]
   exact List.map_congr_left fun p _=>by show fewP (fewP p)=fewP p;unfold fewP;simp [List.take_take]
  have e2:(((x.ins.take 40).map fewI).take 40).map fewI=(x.ins.take 40).map fewI:=by
   rw [List.take_of_length_le (l:=(x.ins.take 40).map fewI) (i:=40) (by simp;omega),List.map_map]
   exact List.map_congr_left fun p _=>by show fewI (fewI p)=fewI p;unfold fewI;simp [List.take_take]
  show BlkD.mk _ _ _=BlkD.mk _ _ _
  rw [BlkD.mk.injEq]
  exact ⟨e1,e2,by unfold fewB;simp [List.take_take]⟩
 unfold fewS
 simp only [ak.mk.injEq,true_and]
 rw [List.take_of_length_le (l:=List.map fewB (List.take 9 g.blocks)) (i:=9) (by simp;omega),List.map_map]
 exact List.map_congr_left fun x _=>hB x
theorem Bj {D:Nat} {l:List Value} {k:Key} (h:12≤k.1):gOwn (some (D,l)) k=none:=if_neg (by rintro rfl;simp at h)
theorem GZ {f:ak} {g:Int→Int} (s:SmF f):SmF (shF g f):=by
 refine ⟨by rw [jD];exact s.len,fun b hb=>?_⟩
 rw [jD] at hb
 have q:=s.blk b hb
 rw [gU hb]
 generalize nth f.blocks b=x at q
 have l1:(shB g x).phis.length=x.phis.length:=List.length_map _
 have l2:(shB g x).ins.length=x.ins.length:=List.length_map _
 refine ⟨by rw [l1];exact q.phis,by rw [l2];exact q.ins,by show (List.map g x.term.args).length≤_;rw [List.length_map];exact q.args,q.to,fun k hk=>?_,fun k hk=>?_⟩
 ·rw [l1] at hk
  rw [show nth (shB g x).phis k=shP g (nth x.phis k) from jr hk]
  show (List.map (shIn g) (nth x.phis k).ins).length≤_
  rw [List.length_map];exact q.phi k hk
 ·rw [l2] at hk
  rw [show nth (shB g x).ins k=shI g (nth x.ins k) from jr hk]
  show (List.map g (nth x.ins k).args).length≤_
  rw [List.length_map];exact q.inn k hk
theorem qF {x:NumD} {m:Int} {vx:Value} {h:Heap} (hx:Rd (vw h) vx x) :
  aG Try.prog N.bK #[vx,.int .i64 m] h (fun u h'=>u = .bool true∧(vw h).le (vw h')):=by
 refine ay (args:=[vx,.int .i64 m]) follows F.bK E.bK (Nat.le_of_ble_eq_true (by kernel_rfl)) fun K hK=>?_
 dsimp only [L.bK]
 refine aa fun z hz=>?_
 simp
 refine (Owns.start (h:=h) (View.le_refl (vw h))).Ac (d:=x) rfl hx fun X h2 W2 hW2 w2 hat hle2=>?_
 obtain ⟨hal,haq⟩:=hat.cat
 obtain ⟨vl,cl,sl⟩:=hal.list
 obtain ⟨uq,huq,hqr⟩:=haq.al rfl
 obtain ⟨rfl,i0,i1,i2⟩:=D9 hqr
 have haq1 : ∀ K:View,W2.le K→Un.ev K (.al 3) (.pointer (some ⟨X,1,none⟩))=some (.agg #[.int .i64 x.b.a,.int .i64 x.b.b.a,.int .i64 x.b.b.b]):=fun K hK=>by
  have:=cw (ρ:=fun _=>none) (e:=.un (.al 3) (.con (.pointer (some ⟨X,1,none⟩)))) hK (by simpa using (show Un.ev W2 (.al 3) (.pointer (some ((⟨X,0,none⟩:Addr).add 1)))=_ from huq))
  simpa using this
 rw [hz];clear hz z
 refine aa fun z hz=>?_
 simp
 refine aj (by kernel_rfl) Co ?_
 rintro _ h5 ⟨rfl,hle3⟩
 have w5:Owns W2 h5 (gOwn none):=(w2.ext' hle3).congr fun k=>by unfold gOwn;rw [Option.bind_none];split<;>rfl
 rw [hz];clear hz z
 refine aa fun z hz=>?_
 have fin : ∀ (D:Nat) (W8:View) (h8:Heap) (vb:Value) (f:ak) (tl:Env),W2.le W8→Owns W8 h8 (gOwn (some (D,[.int .i64 f.params,vb])))→Rd W8 (.agg #[.int .i64 f.params,vb]) f→(∃ g c,TF c g∧f=fewS g)→
   LC.wp Try.prog z (dJ [E.tmp 4] K) ((0,vx)::(1,.int .i64 m)::(2,.pointer (some ⟨X,0,none⟩))::(4,.bool false)::(5,.bool true)::(6,.pointer (some ⟨D,0,none⟩))::tl) h8:=by
  rintro D W8 h8 vb f tl hW8 w8 hr8 ⟨g0,c0,tf0,hf⟩
  have hnum : ∀ n∈eu (ar f),n≤4000:=by rw [hf];exact Eo tf0
  have sm:SmF f:=by rw [hf];exact Df
  have ff:fewS f=f:=by rw [hf];exact DA
  clear hf tf0 g0
  rw [hz];clear hz z
  refine aa fun z hz=>?_
  have cD : ∀ {W:View} {k:Heap} {o:Own},Owns W k o→o (11,1)=bx T.aE D (RawN.mk (n:=1) [.int .i64 f.params,vb])→Un.ev (vw k) (.al 2) (.pointer (some ⟨D,0,none⟩))=some (.agg #[.int .i64 f.params,vb])∧an (vw k) ⟨D,0,none⟩=some (.int .i64 f.params):=fun w e=>
   ⟨w.dz (k:=(11,1)) (n:=1) e,w.raw (k:=(11,1)) (e:=T.aE) (n:=1) e (i:=0) (by decide)⟩
  simp [(cD w8 rfl).1,ae,af]
  refine aj (by kernel_rfl) (oS (hr8.mono w8.wle) sm) ?_
  rintro _ h9 ⟨rfl,hle9⟩
  have w9:=w8.ext' hle9
  have hle08:=View.le_trans hW2 hW8
  by_cases ht:¬(gI f).1=0
  ·simp [ht,ae,af]
   exact hK _ _ ⟨rfl,View.le_trans hle08 w9.wle⟩
  have ht:(gI f).1=0:=Classical.not_not.1 ht
  simp [ht,ae,af]
  have mb:=F7 ht
  have hpar:=mb.params
  rw [hz];clear hz z
  refine aa fun z hz=>?_
  obtain ⟨r0,e0,l0⟩:=G6 (x:=m)
  obtain ⟨j,hj⟩ : ∃ j:Nat,j=1+r0 % 4000:=⟨_,rfl⟩
  have ej:IntKind.i64.wrap (1+(r0:Int).tmod 4000)=(j:Int):=by
   rw [show (r0:Int).tmod 4000=((r0 % 4000:Nat):Int) from rfl,cf (by omega) (by omega),hj];omega
  have j1:1≤j:=by omega
  have j2:j≤4000:=by omega
  simp [e0,ej,ae,af]
  clear hj ej e0 l0
  rw [hz];clear hz z
  refine aa fun z hz=>?_
  simp [(cD w9 rfl).1,ae,af]
  refine aj (by kernel_rfl) (yS 100 (m:=(j:Int)) w9 (fun k h1 h2=>Bj (by omega)) hr8) ?_
  rintro u10 h10 ⟨W10,hW10,w10,hr10⟩
  rw [ff] at hr10
  obtain ⟨vg,rfl,ipg,sg⟩:=rA hr10
  refine w10.gZ (k:=(12,0)) (n:=1) (l:=[.int .i64 f.params,vg]) rfl (z:=.agg #[.int .i64 0,.slice none 0 0]) (by kernel_rfl) rfl (by kernel_rfl) rfl (by decide) (nj sg.cells.2) (fun _=>by simp [ae,af]) (fun _=>by simp [ae,af];rfl) fun h11 q11 w11=>?_
  generalize h10.size=G at w11
  have hmv : ∀ n∈eu (ar f),mvS f.params j n=n+j:=fun n hn=>by
   have h1:=rQ mb hn
   have h2:=hnum n hn
   unfold mvS
   rw [if_neg (by omega),cf (by omega) (by omega)]
  have mbG:gn (shF (mvS f.params j) f):=FY mb (fun v hv=>if_pos hv) (fun n _ hn=>by
   have h1:=rQ mb hn
   have h2:=hnum n hn
   rw [hmv n hn];omega) (fun a b ha hb e=>by rw [hmv a ha,hmv b hb] at e;omega)
  have smG:SmF (shF (mvS f.params j) f):=GZ sm
  have htop:=FD (k:=(j:Int)) (by omega) mb mbG hmv
  have hfold:=fun v hv=>xH (k:=(j:Int)) (v:=v) (by omega) mb hv
  have toldG:=Gj mbG
  have cG : ∀ {k:Heap},(vw h11).le (vw k)→Un.ev (vw k) (.al 2) (.pointer (some ⟨G,0,none⟩))=some (.agg #[.int .i64 f.params,vg]):=fun hle=>
   (w11.ext' hle).dz (k:=(12,0)) (n:=1) Own.ag
  have cF : ∀ {k:Heap},(vw h11).le (vw k)→Un.ev (vw k) (.al 2) (.pointer (some ⟨D,0,none⟩))=some (.agg #[.int .i64 f.params,vb])∧an (vw k) ⟨D,0,none⟩=some (.int .i64 f.params):=fun hle=>cD (w11.ext' hle) ((Own.ab (by simp)).trans rfl)
  have rF : ∀ {k:Heap},(vw h11).le (vw k)→Rd (vw k) (.agg #[.int .i64 f.params,vb]) f:=fun hle=>hr8.mono (View.le_trans hW10 (View.le_trans w11.wle hle))
  have rG : ∀ {k:Heap},(vw h11).le (vw k)→Rd (vw k) (.agg #[.int .i64 f.params,vg]) (shF (mvS f.params j) f):=fun hle=>hr10.mono (View.le_trans w11.wle hle)
  have hle0 : ∀ {k:Heap},(vw h11).le (vw k)→(vw h).le (vw k):=fun hle=>View.le_trans hle08 (View.le_trans hW10 (View.le_trans w11.wle hle))
  generalize shF (mvS f.params j) f=g at hr10 mbG smG htop hfold toldG rG
  clear w10 w9 w8 hr8 hr10
  rw [hz];clear hz z
  refine aa fun z hz=>?_
  simp [(cF (View.le_refl _)).1,ae,af]
  refine aj (by kernel_rfl) (vW (rF (View.le_refl _)) sm) ?_
  rintro _ h12 ⟨rfl,hle12⟩
  have htl:=zO (f:=f)
  obtain ⟨_,htb,_⟩:=qX mb
  have ht4:topS f≤4001:=by
   rcases (qX mb).1 with h | ⟨n,hn,h⟩
   ·omega
   ·have:=hnum n hn;omega
  generalize topS f=top at htop htl htb ht4
  rw [hz];clear hz z
  refine aa fun z hz=>?_
  simp [ae,af]
  rw [hz];clear hz z
  refine aa fun z hz=>?_
  obtain ⟨want,hwant⟩ : ∃ want:Int,want=if f.params<top then top+j else top:=⟨_,rfl⟩
  rw [←hwant] at htop
  refine pq (fun ρ h13=>h13=h12∧Lft.look ρ 1=some (.int .i64 j)∧Lft.look ρ 5=some (.bool true)∧Lft.look ρ 6=some (.pointer (some ⟨D,0,none⟩))∧Lft.look ρ 7=some (.pointer (some ⟨G,0,none⟩))∧Lft.look ρ 8=some (.int .i64 top)∧Lft.look ρ 9=some (.int .i64 want)) ?_ ?_
  ·intro K2 hK2
   by_cases hc:f.params<top
   ·rw [if_pos hc] at hwant
    have ew:IntKind.i64.wrap (top+(j:Int))=want:=by rw [hwant,cf (by omega) (by omega)]
    simp [(cF hle12).2,hc,ew,ae,af]
    exact hK2 _ _ (by simp [ae,af])
   ·rw [if_neg hc] at hwant
    subst hwant
    simp [(cF hle12).2,hc,ae,af]
    exact hK2 _ _ (by simp [ae,af])
  ·rintro ρ _ ⟨rfl,g1,g5,g6,g7,g8,g9⟩
   rw [hz];clear hz z
   refine aa fun z hz=>?_
   simp [(cF hle12).2,ae,af,g6]
   obtain ⟨n,hn⟩ : ∃ n:Nat,n=(min (top-f.params) 30).toNat:=⟨_,rfl⟩
   refine BD [1,5,6,7,8,9,10] (fun (_:Unit) k=>[.int .i64 j,.bool true,.pointer (some ⟨D,0,none⟩),.pointer (some ⟨G,0,none⟩),.int .i64 top,.int .i64 want,.int .i64 ((k:Int)+f.params)]) (fun _ _ h13=>(vw h11).le (vw h13)) n f.params ()
    rfl (by omega) (by omega) (by simp [bz,ae,af,g1,g5,g6,g7,g8,g9]) hle12 (fun _ _=>rfl) (fun _ k h13 hk l13=>?_) ?_ ?_
   ·have ew:IntKind.i64.wrap (f.params+30)=f.params+30:=cf (by omega) (by omega)
    have e:(decide ((k:Int)+f.params<top)&&decide ((k:Int)+f.params<f.params+30))=decide (k<n):=by rw [Bool.eq_iff_iff];simp only [Bool.and_eq_true,decide_eq_true_eq];omega
    rw [←e]
    simp [(cF l13).2,ew]
   ·rintro _ k h13 hlt l13 K2 hK2
    have ev1:IntKind.i64.wrap ((k:Int)+f.params+j)=(k:Int)+f.params+j:=cf (by omega) (by omega)
    refine aa fun y hy=>?_
    refine bO (vw h13) (View.le_refl _) ?_
    simp [(cF l13).1,cG l13,ev1]
    refine aj (by kernel_rfl) (jB (rF l13) sm ⟨by omega,by omega⟩) ?_
    rintro _ h14 ⟨rfl,hle14⟩
    refine ⟨hle14,?_⟩
    have l14:=View.le_trans l13 hle14
    refine aj (by kernel_rfl) (jB (rG l14) smG ⟨by omega,by omega⟩) ?_
    rintro _ h15 ⟨rfl,hle15⟩
    rw [hfold ((k:Int)+f.params) (by omega)]
    generalize gA f ((k:Int)+f.params)=q
    have eq:Bn.ev (.eqB true) (.bool q) (.bool q)=some (.bool false):=by cases q<;>rfl
    rw [hy];clear hy y
    simp [eq]
    refine hK2 () _ _ rfl ?_ (View.le_trans l14 hle15)
    rw [show ((k+1:Nat):Int)+f.params=(k:Int)+f.params+1 by omega]
    rfl
   ·rintro _ h13 l13
    rw [cK,hz];clear hz z
    refine aa fun z hz=>?_
    simp [cG l13]
    refine aj (by kernel_rfl) (oS (rG l13) smG) ?_
    rintro _ h14 ⟨rfl,hle14⟩
    have l14:=View.le_trans l13 hle14
    simp [toldG,cG l14]
    refine aj (by kernel_rfl) (vW (rG l14) smG) ?_
    rintro _ h15 ⟨rfl,hle15⟩
    rw [htop]
    simp
    rw [hz];clear hz z
    simp
    exact hK _ _ ⟨rfl,hle0 (View.le_trans l14 hle15)⟩
 refine bO W2 w5.wle ?_
 simp [cl,haq1 _ (View.le_refl _)]
 have few1 : ∀ {W:View} {k:Heap} {o:Own} {u:Value} {g:ak},Owns W k o→(∀ q:Key,q.1<10→o q=none)→Rd W u g→aG Try.prog N.cO #[u] k (fun u h'=>∃ W' vb,W.le W'∧Owns W' h' o∧u = .agg #[.int .i64 (fewS g).params,vb]∧Rd W' (.agg #[.int .i64 (fewS g).params,vb]) (fewS g)):=fun w ho hr=>(Em w ho hr).mono fun u h' ⟨W',hW,w',hr'⟩=>by
  obtain ⟨vb,rfl,_,_⟩:=rA hr'
  exact ⟨W',vb,hW,w',rfl,hr'⟩
 have z0 : ∀ k:Key,k.1<10→gOwn none k=none:=fun k hk=>iC (by omega)
 have z1 : ∀ (l:Nat × List Value) (k:Key),k.1<11→(gOwn none).upd (11,1) (bx T.aE l.1 (RawN.mk (n:=1) l.2)) k=none:=fun l k hk=>(Own.ab (by rintro rfl;simp at hk)).trans (iC hk)
 have two2 : ∀ {W:View} {vb:Value} {g:ak},Rd W (.agg #[.int .i64 g.params,vb]) g→∀ c∈[Value.int .i64 g.params,vb],c.oneCell'=true:=fun h=>by
  obtain ⟨vb',e,_,sb⟩:=rA h
  simp at e
  subst e
  exact nj sb.cells.2
 refine ⟨?_,?_⟩
 ·refine aj (by kernel_rfl) (sC w5 (fun k hk=>iC hk) sl) ?_
  rintro u h6 ⟨W6,hW6,w6,hr6⟩
  have tf6:=zt (s:=x.a.take 200)
  generalize iP (x.a.take 200)=f6 at hr6 tf6
  refine ⟨View.le_trans hW6 w6.wle,?_,?_⟩
  ·refine aj (by kernel_rfl) (p9 w6 z0 hr6 tf6 (by omega) i0 i1 i2) ?_
   rintro u7 h7 ⟨W7,g,hW7,w7,tf7,hr7⟩
   refine ⟨?_,?_⟩
   ·refine aj (by kernel_rfl) (few1 w7 z0 hr7) ?_
    rintro _ h8 ⟨W8,vb8,hW8,w8,rfl,hr8⟩
    refine w8.gZ (k:=(11,1)) (n:=1) (l:=[.int .i64 (fewS g).params,vb8]) rfl (z:=.agg #[.int .i64 0,.slice none 0 0]) (by kernel_rfl) rfl (by kernel_rfl) rfl (by decide) (two2 hr8) (fun _=>by simp) (fun _=>by simp) fun h9 q9 w9=>?_
    exact fin _ W8 _ vb8 (fewS g) _ (View.le_trans hW6 (View.le_trans hW7 hW8)) (w9.congr fun k=>pj) hr8 ⟨g,_,tf7,rfl⟩
   ·refine w7.jj (k:=(11,1)) (n:=1) (z:=.agg #[.int .i64 0,.slice none 0 0]) rfl (by kernel_rfl) rfl (by decide) (by simp [Value.cells,Value.oneCell']) fun h8 q8 w8=>?_
    refine aj (by kernel_rfl) (few1 w8 (fun k hk=>(Own.ab (by rintro rfl;simp at hk)).trans (iC (by omega))) hr7) ?_
    rintro _ h9 ⟨W9,vb9,hW9,w9,rfl,hr9⟩
    refine w9.fj (k:=(11,1)) (α:=RawN 1) (β:=RawN 1) Part.all (D:=RawN.mk (n:=1) [.int .i64 0,.slice none 0 0]) (d:=RawN.mk (n:=1) [.int .i64 (fewS g).params,vb9]) Own.ag (by kernel_rfl) rfl rfl (e9 rfl (two2 hr9)) fun h10 w10 _=>?_
    exact fin _ W9 _ vb9 (fewS g) _ (View.le_trans hW6 (View.le_trans hW7 hW9)) (w10.congr fun k=>by rw [pj (g:=none),bL]) hr9 ⟨g,_,tf7,rfl⟩
  ·refine w6.jj (k:=(11,1)) (n:=1) (z:=.agg #[.int .i64 0,.slice none 0 0]) rfl (by kernel_rfl) rfl (by decide) (by simp [Value.cells,Value.oneCell']) fun h7 q7 w7=>?_
   refine ⟨View.le_trans hW6 w7.wle,?_⟩
   refine aj (by kernel_rfl) (p9 w7 (fun k hk=>(Own.ab (by rintro rfl;simp at hk)).trans (iC (by omega))) hr6 tf6 (by omega) i0 i1 i2) ?_
   rintro u8 h8 ⟨W8,g,hW8,w8,tf8,hr8⟩
   refine aj (by kernel_rfl) (few1 w8 (fun k hk=>(Own.ab (by rintro rfl;simp at hk)).trans (iC (by omega))) hr8) ?_
   rintro _ h9 ⟨W9,vb9,hW9,w9,rfl,hr9⟩
   refine w9.fj (k:=(11,1)) (α:=RawN 1) (β:=RawN 1) Part.all (D:=RawN.mk (n:=1) [.int .i64 0,.slice none 0 0]) (d:=RawN.mk (n:=1) [.int .i64 (fewS g).params,vb9]) Own.ag (by kernel_rfl) rfl rfl (e9 rfl (two2 hr9)) fun h10 w10 _=>?_
   exact fin _ W9 _ vb9 (fewS g) _ (View.le_trans hW6 (View.le_trans hW8 hW9)) (w10.congr fun k=>by rw [pj (g:=none),bL]) hr9 ⟨g,_,tf8,rfl⟩
 ·refine w5.jj (k:=(11,1)) (n:=1) (z:=.agg #[.int .i64 0,.slice none 0 0]) rfl (by kernel_rfl) rfl (by decide) (by simp [Value.cells,Value.oneCell']) fun h6 q6 w6=>?_
  refine ⟨w6.wle,?_⟩
  refine aj (by kernel_rfl) (sC w6 (fun k hk=>(Own.ab (by rintro rfl;simp at hk)).trans (iC hk)) sl) ?_
  rintro u h7 ⟨W7,hW7,w7,hr7⟩
  have tf7:=zt (s:=x.a.take 200)
  generalize iP (x.a.take 200)=f7 at hr7 tf7
  refine ⟨View.le_trans hW7 w7.wle,?_⟩
  refine aj (by kernel_rfl) (p9 w7 (fun k hk=>(Own.ab (by rintro rfl;simp at hk)).trans (iC (by omega))) hr7 tf7 (by omega) i0 i1 i2) ?_
  rintro u8 h8 ⟨W8,g,hW8,w8,tf8,hr8⟩
  refine aj (by kernel_rfl) (few1 w8 (fun k hk=>(Own.ab (by rintro rfl;simp at hk)).trans (iC (by omega))) hr8) ?_
  rintro _ h9 ⟨W9,vb9,hW9,w9,rfl,hr9⟩
  refine w9.fj (k:=(11,1)) (α:=RawN 1) (β:=RawN 1) Part.all (D:=RawN.mk (n:=1) [.int .i64 0,.slice none 0 0]) (d:=RawN.mk (n:=1) [.int .i64 (fewS g).params,vb9]) Own.ag (by kernel_rfl) rfl rfl (e9 rfl (two2 hr9)) fun h10 w10 _=>?_
  exact fin _ W9 _ vb9 (fewS g) _ (View.le_trans hW7 (View.le_trans hW8 hW9)) (w10.congr fun k=>by rw [pj (g:=none),bL]) hr9 ⟨g,_,tf8,rfl⟩
end Go.Proofs.Ytfelpjfopgiabaa
/- For every input CheckShifted returns true: which numbers values have plays no part, as long as they are below the greatest one; nor for what is foldable. No condition. -/
namespace Go.Proofs.Ytfelpjfopgiabaa
open Go Go.Lft Go.ChangeShapes Go.WideShapes Go.ChangeAt Go.RowKit
theorem F8 {P:Program} {t e:TypeId} (ht:P.underlying t=some (.array 3 e)) (he:P.underlying e=some (.int .i64)) (hc:P.cellsOf e=1) (hc2:P.cellsOf t=3):RT P t Q3 where
 cells:=fun {H enc W spare held fuel cs d ps} h _=>by
  obtain ⟨xs,m,_,_,hl,hxl,hget⟩:=DataW.trod_array ht h
  rw [hc2] at hl
  match cs,hl with
  | [u,v,w],_=>
   have h0:=hget 0 (by omega)
   have h1:=hget 1 (by omega)
   have h2:=hget 2 (by omega)
   rw [hc,List.getElem?_eq_getElem (by omega)] at h0 h1 h2
   obtain ⟨a,e1,w1⟩:=trod_int he h0
   obtain ⟨b,e2,w2⟩:=trod_int he h1
   obtain ⟨c,e3,w3⟩:=trod_int he h2
   simp at e1 e2 e3
   subst e1;subst e2;subst e3
   exact ⟨⟨a,b,c⟩,[.int .i64 a],[.int .i64 b,.int .i64 c],rfl,⟨rfl,wf_i64 w1⟩,[.int .i64 b],[.int .i64 c],rfl,⟨rfl,wf_i64 w2⟩,rfl,wf_i64 w3⟩
 val:=fun {W r base v} h=>by
  simp only [Value.okWide,ht] at h
  obtain ⟨cs,rfl,_⟩:=h
  exact ⟨cs,rfl⟩
theorem rtQ:RT Try.prog T.kt Q3:=F8 (e:=T.int) (by kernel_rfl) (by kernel_rfl) (by kernel_rfl) (by kernel_rfl)
theorem Hl:RT Try.prog T.iS NumD:=AA (f:=fun c:NumD=>c) (fun c=>c) (fun _=>rfl) (l:=[(0,T.aP),(1,T.kt)]) (by kernel_rfl) (by kernel_rfl) rfl (FRd.cons rtIs (by kernel_rfl) (FRd.one rtQ (by kernel_rfl)))
theorem Try.nL:Try.f8.params = #[T.iS,T.int]:=by kernel_rfl
theorem rH (os:Os) (started:os.Started) (H:Type) (enc:TypeId × Value→H) :
  ReturnsInHanded {} Try.checked os 8 .any (Rows.checkShiftedSpec.pre6 enc Try.prog Try.f8 Rows.checkShiftedRow.domain false) (Rows.checkShiftedSpec.post enc Try.prog Try.f8 false true false false):=
 law2 (C:=Try.checked) Try.own started (by kernel_rfl) Try.func8 rfl
  (ChangeSpec.witness6 (enc:=enc) (C:=Try.checked) false ⟨#[],#[.agg #[.slice none 0 0,.int .i64 0,.int .i64 0,.int .i64 0],.int .i64 0],[]⟩ 8 (by kernel_rfl) (by kernel_rfl) (by kernel_rfl) (by kernel_rfl))
  Try.laidOut (fun t ht=>by
   rw [Try.nL] at ht
   simp only [List.mem_cons,List.not_mem_nil,or_false] at ht
   rcases ht with rfl | rfl<;>exact ⟨by kernel_rfl,of_decide_eq_true (by kernel_rfl)⟩) rfl
  (fun ds hds=>by
   match ds,hds with
   | [d,e],_=>rfl) rfl (tb:=4) (by kernel_rfl) Try.nL Hl rtI fun h v1 x1 v2 x2 h1 h2=>by
    rw [(cn.1 h2).1]
    exact qF h1
theorem shifted_holds:Rows.CheckShiftedSaid:=
 OpenClaim.holds_of_wide 8 Try.f8 rfl rfl rfl rfl rfl rfl rfl ⟨rfl,rfl,rfl,rfl,rfl⟩ rfl rfl rfl rfl rfl (by kernel_rfl) Try.func8 (by kernel_rfl)
  (of_decide_eq_true (by kernel_rfl)) (by unfold Func.isWrapper;first | (rw [if_pos (by decide +kernel)];kernel_rfl) | (rw [if_neg (by decide +kernel)];exact ⟨rfl,rfl⟩))
  (fun os started H enc _=>rH os started H enc)
end Go.Proofs.Ytfelpjfopgiabaa
