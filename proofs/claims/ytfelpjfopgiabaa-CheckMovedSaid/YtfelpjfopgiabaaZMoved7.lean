/- For every input CheckMoved returns true: which numbers blocks have plays no part, as long as the first one stays the first. No condition. -/
import Derived.Test.YtfelpjfopgiabaaZMoved6
import Derived.Test.YtfelpjfopgiabaaRows
set_option linter.unusedSimpArgs false
set_option linter.unusedVariables false
namespace Go.Proofs.Ytfelpjfopgiabaa
open Go Go.Lft
set_option maxHeartbeats 4000000 in
theorem pL {f:ak} {c:Nat} {v:Value} {q0 q1 q2:Int} {h:Heap} {W:View} {o0:Own} (w0:Owns W h o0) (ho0 : ∀ k:Key,k.1<10→o0 k=none) (hv:Rd W v f) (hf:TF c f) (hc:c≤5000) (i0:I64 q0) (i1:I64 q1) (i2:I64 q2) :
  aI Try.prog N.dT #[v,.agg #[.int .i64 q0,.int .i64 q1,.int .i64 q2]] h (fun u h'=>∃ W' f',W.le W'∧Owns W' h' o0∧TF (c+1) f'∧Rd W' u f'):=by
 refine aA (args:=[v,.agg #[.int .i64 q0,.int .i64 q1,.int .i64 q2]]) follows F.dT E.dT (Nat.le_of_ble_eq_true (by kernel_rfl)) fun K hK=>?_
 dsimp only [L.dT]
 obtain ⟨vbs,rfl,ips,sbl⟩ : ∃ vbs,v = .agg #[.int .i64 f.params,vbs]∧I64 f.params∧SlRd W vbs f.blocks:=by
  obtain ⟨cs,rfl,c1,r1,e1,⟨rfl,h1⟩,vb,h2,h3⟩:=hv
  exact ⟨vb,by rw [←Array.toList_inj.1 ((by rw [e1,h2];rfl):cs.toList = #[Value.int .i64 f.params,vb].toList)],h1,h3⟩
 refine aa fun z hz=>?_
 simp
 refine jU (v:=.agg #[.int .i64 f.params,vbs]) rfl ?_
 have hb1:(h.push (.cells (Value.agg #[.int .i64 f.params,vbs]).cells T.aE))[h.size]? = some (.cells (Value.agg #[.int .i64 f.params,vbs]).cells T.aE (0,0)):=by simp
 have hle1:=bJ h (.cells (Value.agg #[.int .i64 f.params,vbs]).cells T.aE)
 generalize h.push (.cells (Value.agg #[.int .i64 f.params,vbs]).cells T.aE)=h1 at hb1 hle1
 have hvbs:=sbl.cells.2
 have w1:=w0.add (k:=(8,1)) (ho0 _ (by decide)) (iq (W:=W) (d:=RawN.mk (n:=1) [.int .i64 f.params,vbs]) hb1 (eV rfl (by intro c hc;simp only [List.mem_cons,List.not_mem_nil,or_false] at hc;rcases hc with rfl | rfl<;>first | rfl | exact hvbs)) (by decide)) hle1 (fun b hb=>by simp only [Value.ownBlock,Option.some.injEq] at hb;omega)
 generalize h.size=F at w1
 refine jU (v:=.agg #[.int .i64 q0,.int .i64 q1,.int .i64 q2]) rfl ?_
 have hb2:(h1.push (.cells (Value.agg #[.int .i64 q0,.int .i64 q1,.int .i64 q2]).cells T.jL))[h1.size]? = some (.cells (Value.agg #[.int .i64 q0,.int .i64 q1,.int .i64 q2]).cells T.jL (0,0)):=by simp
 have hle2:=bJ h1 (.cells (Value.agg #[.int .i64 q0,.int .i64 q1,.int .i64 q2]).cells T.jL)
 generalize h1.push (.cells (Value.agg #[.int .i64 q0,.int .i64 q1,.int .i64 q2]).cells T.jL)=h2 at hb2 hle2
 have w2:=w1.ext hle2
 have hg2:grow W h1 h2 h1.size=some (.cells (([q0,q1,q2]:List Int).map fun x=>Value.int .i64 x).toArray T.jL (0,0)):=by
  rw [cN (Nat.le_refl _),hb2];rfl
 have sq:SlRd (grow W h1 h2) (.slice (some ⟨h1.size,0,none⟩) 3 3) [q0,q1,q2]:=y0 hg2 rfl (by decide) (by intro x hx;simp only [List.mem_cons,List.not_mem_nil,or_false] at hx;rcases hx with rfl | rfl | rfl<;>assumption)
 have hW2:=aW (h':=h2) w1.wle
 generalize grow W h1 h2=W2 at w2 sq hW2
 generalize h1.size=Q at sq
 refine w2.jA (k:=(8,0)) (n:=1) (z:=.agg #[.int .i64 0,.slice none 0 0]) (by rw [Own.ab (by simp)];exact ho0 _ (by decide)) (by kernel_rfl) rfl (by decide) (by simp [Value.cells,Value.oneCell']) fun h3 q3 w3=>?_
 generalize h2.size=R at w3
 have hsb2:=sbl.mono hW2
 clear hb1 hle1 hb2 hle2 hg2 w1 w2 q3
 rw [hz];clear hz z
 refine aa fun z hz=>?_
 simp
 refine w3.cr (k:=(3,0)) (α:=BlkD) (by rw [Own.ab (by simp),Own.ab (by simp)];exact ho0 _ (by decide)) El.fu fun v4 h4 hle4 hv4 w4 _=>?_
 have c4:ao (vw h4) ⟨F,1,none⟩=some vbs:=w4.raw (k:=(8,1)) (e:=T.aE) (n:=1) (l:=[.int .i64 f.params,vbs]) (by rw [Own.ab (by simp),Own.ab (by simp),Own.ag];rfl) (i:=1) (by decide)
 simp [c4]
 have hbl:=hf.len
 refine w4.bs (k:=(3,0)) (α:=BlkD) (l:=([]:List BlkD)) (l2:=f.blocks) Own.ag El.fu rfl rfl (hsb2.src w4.wle) (by simp;omega) (by simp;omega) fun vbk h5 w5 _=>?_
 rw [List.nil_append] at w5
 have hvk:=(w5.cells (k:=(3,0)) Own.ag).2
 rw [hz];clear hz z
 refine aa fun z hz=>?_
 simp
 refine w5.bn (k:=(8,1)) (n:=1) (i:=1) (e:=T.aE) (B:=F) (l:=[.int .i64 f.params,vbs]) (by rw [Own.ab (by simp),Own.ab (by simp),Own.ab (by simp),Own.ag];rfl) (by decide) (by kernel_rfl) rfl rfl hvk fun h6 w6 _=>?_
 obtain ⟨o6,ho6⟩ : ∃ o6:Own,o6=fun k=>if k=(8,0) then bx T.aE R (RawN.mk (n:=1) [.int .i64 0,.slice none 0 0]) else if k=(8,1) then bx T.aE F (RawN.mk (n:=1) [.int .i64 f.params,vbk]) else if k=(3,0) then it T.al vbk f.blocks else o0 k:=⟨_,rfl⟩
 have w6:Owns W2 h6 o6:=w6.congr fun k=>by
  rw [ho6]
  unfold Own.upd
  repeat' split
  all_goals first | rfl | simp_all
 clear w5 w4 w3 c4
 have hlen : ∀ {Q:View},Un.ev Q .len vbk=some (.int .i64 f.blocks.length):=fun {Q}=>(w6.now (k:=(3,0)) (v:=vbk) (l:=f.blocks) (by rw [ho6];rfl)).len
 rw [hz];clear hz z
 refine aa fun z hz=>?_
 refine aa fun y hy=>?_
 simp [hlen]
 rw [hy];clear hy y
 by_cases c0:f.blocks.length=0
 ·have c0':f.blocks=[]:=List.eq_nil_of_length_eq_zero c0
  refine ay (by simp [c0,c0']) ?_
  refine aa fun y hy=>?_
  have ca:=w6.dE (k:=(8,1)) (n:=1) (l:=[.int .i64 f.params,vbk]) (e:=T.aE) (B:=F) (by rw [ho6];rfl)
  have ca:Un.ev (vw h6) (.an 2) (.pointer (some ⟨F,0,none⟩))=some (.agg #[.int .i64 f.params,vbk]):=ca
  simp [ca]
  refine w6.fG (k:=(8,0)) (α:=RawN 1) (β:=RawN 1) Part.all (B:=R) (D:=RawN.mk (n:=1) [.int .i64 0,.slice none 0 0]) (d:=RawN.mk (n:=1) [.int .i64 f.params,vbk]) (by rw [ho6];rfl) (by kernel_rfl) rfl rfl (eV rfl (by intro c hc;simp only [List.mem_cons,List.not_mem_nil,or_false] at hc;rcases hc with rfl | rfl<;>first | rfl | exact hvk)) fun h7 w7 _=>?_
  have cb:=w7.dE (k:=(8,0)) (n:=1) (l:=[.int .i64 f.params,vbk]) Own.ag
  have cb:Un.ev (vw h7) (.an 2) (.pointer (some ⟨R,0,none⟩))=some (.agg #[.int .i64 f.params,vbk]):=cb
  have sb7:=w7.now (k:=(3,0)) (v:=vbk) (l:=f.blocks) (by rw [Own.ab (by simp),ho6];rfl)
  rw [hy];clear hy y
  simp [cb]
  obtain ⟨w8,s8⟩:=w7.freeze (k:=(3,0)) (v:=vbk) (l:=f.blocks) (by rw [Own.ab (by simp),ho6];rfl)
  have hW8:=di (h:=h7) (w7.av (3,0) ⟨_,_,T.al,vbk,f.blocks⟩ (by rw [Own.ab (by simp),ho6];rfl))
  have w9:=w8.sub (o':=o0) fun k i hk=>by
   rcases Nat.lt_or_ge k.1 10 with e | e
   ·rw [ho0 k e] at hk;cases hk
   ·rw [Own.ab (by rintro rfl;simp at e),Own.ab (by rintro rfl;simp at e),ho6]
    dsimp only
    rw [if_neg (by rintro rfl;simp at e),if_neg (by rintro rfl;simp at e),if_neg (by rintro rfl;simp at e)];exact hk
  exact hK _ _ ⟨_,f,View.le_trans hW2 hW8,w9,hf.mono (by omega),⟨_,rfl,[.int .i64 f.params],[vbk],rfl,⟨rfl,ips⟩,vbk,rfl,s8⟩⟩
 have c0':¬f.blocks=[]:=fun e=>c0 (by rw [e];rfl)
 refine aw (by simp [c0']) ?_
 simp
 rw [hz];clear hz z
 refine aa fun z hz=>?_
 simp
 refine Bs (n:=3) (e:=T.int) (sz:=1) U.jL (by kernel_rfl) rfl ?_
 refine aN (z:=.agg #[.slice none 0 0,.int .i64 0,.int .i64 0,.slice none 0 0,.int .i64 0,.slice none 0 0]) (places:=[(0,1),(1,1),(2,2),(4,1),(5,1)]) (vs:=[(0,.slice (some ⟨Q,0,none⟩) 3 3)]) (cs:=#[.slice (some ⟨Q,0,none⟩) 3 3,.int .i64 0,.int .i64 0,.slice none 0 0,.int .i64 0,.slice none 0 0]) (by kernel_rfl) (by kernel_rfl) (by simp) (by rfl) ?_
 refine jU (v:=.agg #[.slice (some ⟨Q,0,none⟩) 3 3,.int .i64 0,.int .i64 0,.slice none 0 0,.int .i64 0,.slice none 0 0]) rfl ?_
 have hbx:(h6.push (.cells (Value.agg #[.slice (some ⟨Q,0,none⟩) 3 3,.int .i64 0,.int .i64 0,.slice none 0 0,.int .i64 0,.slice none 0 0]).cells T.aL))[h6.size]? = some (.cells (Value.agg #[.slice (some ⟨Q,0,none⟩) 3 3,.int .i64 0,.int .i64 0,.slice none 0 0,.int .i64 0,.slice none 0 0]).cells T.aL (0,0)):=by simp
 have hle7:=bJ h6 (.cells (Value.agg #[.slice (some ⟨Q,0,none⟩) 3 3,.int .i64 0,.int .i64 0,.slice none 0 0,.int .i64 0,.slice none 0 0]).cells T.aL)
 generalize h6.push (.cells (Value.agg #[.slice (some ⟨Q,0,none⟩) 3 3,.int .i64 0,.int .i64 0,.slice none 0 0,.int .i64 0,.slice none 0 0]).cells T.aL)=h7 at hbx hle7
 have w7:=w6.add (k:=(0,0)) (by rw [ho6];exact ho0 _ (by decide)) (iq (W:=W2) (d:=RawN.mk (n:=5) [.slice (some ⟨Q,0,none⟩) 3 3,.int .i64 0,.int .i64 0,.slice none 0 0,.int .i64 0,.slice none 0 0]) hbx (eV rfl (by simp [Value.oneCell'])) (by decide)) hle7 (fun b hb=>by simp only [Value.ownBlock,Option.some.injEq] at hb;omega)
 generalize h6.size=M at w7
 generalize Value.slice (some ⟨Q,0,none⟩) 3 3=vs at sq w7
 obtain ⟨o7,ho7⟩ : ∃ o7:Own,o7=fun k=>if k=(0,0) then bx T.aL M (RawN.mk (n:=5) (mkL vs 0 0 (.slice none 0 0) 0 (.slice none 0 0))) else if k=(0,1) then it T.int (.slice none 0 0) ([]:List Int) else if k=(0,2) then it T.al (.slice none 0 0) ([]:List BlkM) else o6 k:=⟨_,rfl⟩
 have w7:Owns W2 h7 o7:=w7.nils fun k i hk=>by
  rw [ho7] at hk
  dsimp only at hk
  split at hk
  ·rename_i e;rw [e];exact .inl hk
  ·rename_i e0
   split at hk
   ·cases hk;exact .inr ⟨rfl,OwnT.nil (α:=Int) _ _ _⟩
   ·split at hk
    ·cases hk;exact .inr ⟨rfl,OwnT.nil (α:=BlkM) _ _ _⟩
    ·refine .inl ?_
     rw [Own.ab e0]
     exact hk
 have w7:Mk [q0,q1,q2] M vs W2 h7 o7 ⟨0,0,[],0,[]⟩:=⟨w7,sq,.slice none 0 0,.slice none 0 0,[],by rw [ho7];rfl,by rw [ho7];rfl,by rw [ho7];rfl,rfl,fun i hi=>by simp at hi,fun i hi=>by simp at hi,fun i hi=>by simp at hi⟩
 have f7 : ∀ k:Key,3≤k.1→o7 k=o6 k:=fun k hk=>by
  rw [ho7]
  dsimp only
  rw [if_neg (by rintro rfl;simp at hk),if_neg (by rintro rfl;simp at hk),if_neg (by rintro rfl;simp at hk)]
 clear hbx hle7 w6 ho7
 rw [hz];clear hz z
 refine aa fun z hz=>?_
 simp
 refine aj (by kernel_rfl) (w7.take (by decide) (n:=12) (by decide) (by decide)) ?_
 rintro _ h8 ⟨rfl,o8,w8,f8⟩
 obtain ⟨t0,t1⟩:=aZ (s:=[q0,q1,q2]) (at_:=0) (n:=12) (by decide)
 simp
 rw [hz];clear hz z
 refine aa fun z hz=>?_
 simp [hlen]
 refine aj (by kernel_rfl) (w8.take (by decide) (n:=(f.blocks.length:Int)) (by omega) (by omega)) ?_
 rintro _ h9 ⟨rfl,o9,w9,f9⟩
 obtain ⟨b0,b1⟩:=aZ (s:=[q0,q1,q2]) (at_:=1) (n:=(f.blocks.length:Int)) (by omega)
 rw [hz];clear hz z
 refine aa fun z hz=>?_
 simp
 refine aj (by kernel_rfl) (w9.take (by decide) (n:=40) (by decide) (by decide)) ?_
 rintro _ h10 ⟨rfl,o10,w10,f10⟩
 obtain ⟨n0,n1⟩:=aZ (s:=[q0,q1,q2]) (at_:=2) (n:=40) (by decide)
 have e0:MS.at_ ⟨0,0,[],0,[]⟩=0:=rfl
 have e1:MS.at_ (MS.took ⟨0,0,[],0,[]⟩)=1:=rfl
 have e2:MS.at_ (MS.took (MS.took ⟨0,0,[],0,[]⟩))=2:=rfl
 rw [e1,e2]
 have w10:=w10.own.sub (o':=o6) fun k i hk=>by
  have hk3:3≤k.1:=by
   rw [ho6] at hk
   dsimp only at hk
   split at hk
   ·rename_i e;rw [e];decide
   ·split at hk
    ·rename_i e;rw [e];decide
    ·split at hk
     ·rename_i e;rw [e];decide
     ·rcases Nat.lt_or_ge k.1 10 with e | e
      ·rw [ho0 k e] at hk;cases hk
      ·omega
  rw [f10 k hk3,f9 k hk3,f8 k hk3,f7 k hk3];exact hk
 clear f10 f9 f8 f7 w9 w8 w7 e0 e1 e2
 generalize aB [q0,q1,q2] 0 12=what at t0 t1
 generalize aB [q0,q1,q2] 1 f.blocks.length=bb at b0 b1
 generalize aB [q0,q1,q2] 2 40=nn at n0 n1
 obtain ⟨b,rfl⟩ : ∃ b:Nat,bb=b:=⟨bb.toNat,by omega⟩
 obtain ⟨n,rfl⟩ : ∃ n:Nat,nn=n:=⟨nn.toNat,by omega⟩
 rw [hz];clear hz z
 have hbl2:b<f.blocks.length:=by omega
 have tb:=hf.blk _ (List.getElem_mem hbl2)
 refine aa fun z hz=>?_
 obtain ⟨ux,hux,huxr⟩:=Owns.ldW w10 (k:=(3,0)) (v:=vbk) (l:=f.blocks) (by rw [ho6];rfl) rfl (N:=6) rfl hbl2
 have sbk:=w10.now (k:=(3,0)) (v:=vbk) (l:=f.blocks) (by rw [ho6];rfl)
 obtain ⟨vp,vi,va,vt,rfl,rp,ri,ra,rt,ik,im⟩:=Dp huxr
 generalize f.blocks[b]=xb at tb rp ri ra rt ik im hux huxr
 have bp:=rp.cells.2
 have bi:=ri.cells.2
 have ba:=ra.cells.2
 have bt:=rt.cells.2
 simp (disch:=omega) [sbk.idxn (N:=6) rfl,hux]
 refine w10.iJ (k:=(3,1)) (n:=5) (l:=[vp,vi,.int .i64 xb.term.kind,va,vt,.int .i32 xb.term.imm.v]) (by rw [ho6];exact ho0 _ (by decide)) (z:=.agg #[.slice none 0 0,.slice none 0 0,.int .i64 0,.slice none 0 0,.slice none 0 0,.int .i32 0]) (by kernel_rfl) rfl (by kernel_rfl) rfl (by decide) (by intro c hc;simp only [List.mem_cons,List.not_mem_nil,or_false] at hc;rcases hc with rfl | rfl | rfl | rfl | rfl | rfl<;>first | rfl | assumption) (fun _=>by simp) (fun _=>by simp) fun h11 q11 w11=>?_
 generalize h10.size=X at w11
 rw [hz];clear hz z
 refine aa fun z hz=>?_
 simp
 refine w11.cr (k:=(3,2)) (α:=InsD) (by rw [Own.ab (by simp),ho6];exact ho0 _ (by decide)) El.ey fun v12 h12 hle12 hv12 w12 _=>?_
 have c12:ao (vw h12) ⟨X,1,none⟩=some vi:=w12.raw (k:=(3,1)) (e:=T.al) (n:=5) (l:=[vp,vi,.int .i64 xb.term.kind,va,vt,.int .i32 xb.term.imm.v]) (by rw [Own.ab (by simp),Own.ag]) (i:=1) (by decide)
 simp [c12]
 refine w12.bs (k:=(3,2)) (α:=InsD) (l:=([]:List InsD)) (l2:=xb.ins) Own.ag El.ey rfl rfl (ri.src w12.wle) (by have:=tb.ins;simp;omega) (by have:=tb.ins;simp;omega) fun vi2 h13 w13 _=>?_
 rw [List.nil_append] at w13
 have hvi2:=(w13.cells (k:=(3,2)) Own.ag).2
 refine w13.bn (k:=(3,1)) (n:=5) (i:=1) (e:=T.al) (B:=X) (l:=[vp,vi,.int .i64 xb.term.kind,va,vt,.int .i32 xb.term.imm.v]) (by rw [Own.ab (by simp),Own.ab (by simp),Own.ag]) (by decide) (by kernel_rfl) rfl rfl hvi2 fun h14 w14 _=>?_
 rw [hz];clear hz z
 refine aa fun z hz=>?_
 simp
 refine w14.cr (k:=(3,3)) (α:=PhiD) (by rw [Own.ab (by simp),Own.ab (by simp),Own.ab (by simp),Own.ab (by simp),ho6];exact ho0 _ (by decide)) El.gq fun v15 h15 hle15 hv15 w15 _=>?_
 have c15:ao (vw h15) ⟨X,0,none⟩=some vp:=w15.raw (k:=(3,1)) (e:=T.al) (n:=5) (l:=[vp,vi2,.int .i64 xb.term.kind,va,vt,.int .i32 xb.term.imm.v]) (by rw [Own.ab (by simp),Own.ag];rfl) (i:=0) (by decide)
 simp [c15]
 refine w15.bs (k:=(3,3)) (α:=PhiD) (l:=([]:List PhiD)) (l2:=xb.phis) Own.ag El.gq rfl rfl (rp.src w15.wle) (by have:=tb.phis;simp;omega) (by have:=tb.phis;simp;omega) fun vp2 h16 w16 _=>?_
 rw [List.nil_append] at w16
 have hvp2:=(w16.cells (k:=(3,3)) Own.ag).2
 refine w16.bn (k:=(3,1)) (n:=5) (i:=0) (e:=T.al) (B:=X) (l:=[vp,vi2,.int .i64 xb.term.kind,va,vt,.int .i32 xb.term.imm.v]) (by rw [Own.ab (by simp),Own.ab (by simp),Own.ag];rfl) (by decide) (by kernel_rfl) rfl rfl hvp2 fun h17 w17 _=>?_
 have tu : ∃ o,Tu R F X o0 c W2 vbk f.blocks W2 o f.params vp2 vi2 va vt xb.term.kind xb.term.imm.v xb.phis xb.ins xb.term.args xb.term.to∧Owns W2 h17 o:=by
  refine ⟨_,⟨View.le_refl _,?_,?_,?_,?_,?_,?_,?_,?_,ra,rt,ips,ik,im,⟨tb.phis,tb.ins,tb.args,tb.to,tb.pin,tb.iar⟩⟩,w17⟩
  ·simp [Own.upd,ho6]
  ·simp [Own.upd,ho6]
  ·simp [Own.upd,ho6]
  ·simp [Own.upd]
  ·simp [Own.upd]
  ·simp [Own.upd]
  ·simp [Own.upd,ho6,ho0]
  ·intro k hk
   repeat rw [Own.ab (by rintro rfl;simp at hk)]
   rw [ho6];dsimp only
   rw [if_neg (by rintro rfl;simp at hk),if_neg (by rintro rfl;simp at hk),if_neg (by rintro rfl;simp at hk)]
 clear w17 w16 w15 w14 w13 w12 w11 w10 c15 c12 rp ri hux huxr bp bi ba bt
 obtain ⟨o17,t,w17⟩:=tu
 have hc0 : ∀ {i:Nat},i≤5→ao (vw h17) ⟨X,i,none⟩=some ([vp2,vi2,.int .i64 xb.term.kind,va,vt,.int .i32 xb.term.imm.v].getD i undef):=fun hi=>w17.raw t.box hi
 have x0:ao (vw h17) ⟨X,0,none⟩=some vp2:=hc0 (i:=0) (by decide)
 have x1:ao (vw h17) ⟨X,1,none⟩=some vi2:=hc0 (i:=1) (by decide)
 have x4:ao (vw h17) ⟨X,4,none⟩=some vt:=hc0 (i:=4) (by decide)
 have sI:=w17.now t.ins
 have sP:=w17.now t.phis
 have sT:=t.rt
 have hli : ∀ {Q:View},Un.ev Q .len vi2=some (.int .i64 xb.ins.length):=fun {Q}=>sI.len
 have hlp : ∀ {Q:View},Un.ev Q .len vp2=some (.int .i64 xb.phis.length):=fun {Q}=>sP.len
 have hlt : ∀ {Q:View},Un.ev Q .len vt=some (.int .i64 xb.term.to.length):=fun {Q}=>sT.len
 have tbi:=tb.ins
 have tbp:=tb.phis
 have tbt:=tb.to
 clear hc0
 rw [hz];clear hz z
 refine aa fun z hz=>?_
 simp
 rw [hz];clear hz z
 refine aa fun z hz=>?_
 obtain ⟨j,hj1,hj2⟩ : ∃ j:Nat,(0<xb.ins.length→j<xb.ins.length)∧(j:Int)=if 0<xb.ins.length then (n:Int).tmod xb.ins.length else 0:=by
  by_cases c1:0<xb.ins.length
  ·refine ⟨((n:Int).tmod xb.ins.length).toNat,fun _=>?_,?_⟩
   ·have:=Int.tmod_lt_of_pos (n:Int) (show (0:Int)<xb.ins.length by omega);have:=Int.tmod_nonneg (xb.ins.length:Int) (show (0:Int)≤n by omega);omega
   ·rw [if_pos c1];have:=Int.tmod_nonneg (xb.ins.length:Int) (show (0:Int)≤n by omega);omega
  ·exact ⟨0,fun q=>absurd q c1,by rw [if_neg c1];rfl⟩
 have sw : ∀ ρ:Env,Lft.look ρ 2=some (.pointer (some ⟨F,0,none⟩))→Lft.look ρ 4=some (.pointer (some ⟨R,0,none⟩))→Lft.look ρ 5=some vbk→Lft.look ρ 7=some (.int .i64 what)→Lft.look ρ 8=some (.int .i64 b)→Lft.look ρ 9=some (.int .i64 n)→Lft.look ρ 10=some (.pointer (some ⟨X,0,none⟩))→Lft.look ρ 11=some (.int .i64 j)→LC.wp Try.prog z (dG [.un (.an 2) (.tmp 4)] K) ρ h17:=by
  intro ρ r2 r4 r5 r7 r8 r9 r10 r11
  rw [hz];clear hz z
  refine aa fun z hz=>?_
  have fin : ∀ (h':Heap) (ρ:Env),TuE R F X o0 (c+1) W2 vbk f.blocks h'→Lft.look ρ 2=some (.pointer (some ⟨F,0,none⟩))→Lft.look ρ 4=some (.pointer (some ⟨R,0,none⟩))→Lft.look ρ 5=some vbk→Lft.look ρ 8=some (.int .i64 b)→Lft.look ρ 10=some (.pointer (some ⟨X,0,none⟩))→LC.wp Try.prog z (dG [.un (.an 2) (.tmp 4)] K) ρ h':=by
   intro h' ρ tE r2 r4 r5 r8 r10
   rw [hz];clear hz z
   obtain ⟨W,o,ps',vp',vi',va',vt',kd',im',lp',li',la',lt',t,w⟩:=tE
   have sbk:=w.now t.blk
   have cx:=w.dE (k:=(3,1)) t.box
   have cx:Un.ev (vw h') (.an 6) (.pointer (some ⟨X,0,none⟩))=some (.agg #[vp',vi',.int .i64 kd',va',vt',.int .i32 im']):=cx
   obtain ⟨wA,sI⟩:=w.freeze t.ins
   obtain ⟨wB,sP⟩:=wA.freeze ((Own.ab (by simp)).trans t.phis)
   have sI:=sI.mono (di (h:=h') (wA.av _ _ ((Own.ab (by simp)).trans t.phis)))
   have hWW:=View.le_trans (di (h:=h') (w.av _ _ t.ins)) (di (h:=h') (wA.av _ _ ((Own.ab (by simp)).trans t.phis)))
   refine aa fun z hz=>?_
   simp (disch:=omega) [ae,af,r2,r4,r5,r8,r10,cx,sbk.idxn (N:=6) rfl]
   refine wB.iQ (k:=(3,0)) (α:=BlkD) (v:=vbk) (l:=f.blocks) (i:=b) (d:=⟨lp',li',⟨kd',la',lt',⟨im'⟩⟩⟩) ((Own.ab (by simp)).trans ((Own.ab (by simp)).trans t.blk)) (by kernel_rfl) rfl rfl (by omega) (so (imm:=⟨im'⟩) sP sI (t.ra.mono hWW) (t.rt.mono hWW) t.ikd t.iim) fun h2 w2 _=>?_
   rw [hz];clear hz z
   refine aa fun z hz=>?_
   have fF:(((o.upd (3,2) none).upd (3,3) none).upd (3,0) (it T.al vbk (f.blocks.set b ⟨lp',li',⟨kd',la',lt',⟨im'⟩⟩⟩))) (8,1)=bx T.aE F (RawN.mk (n:=1) [.int .i64 ps',vbk]):=by simp [Own.upd,t.fn]
   have fR:(((o.upd (3,2) none).upd (3,3) none).upd (3,0) (it T.al vbk (f.blocks.set b ⟨lp',li',⟨kd',la',lt',⟨im'⟩⟩⟩))) (8,0)=bx T.aE R (RawN.mk (n:=1) [.int .i64 0,.slice none 0 0]):=by simp [Own.upd,t.res]
   have cF:=w2.dE (k:=(8,1)) fF
   have cF:Un.ev (vw h2) (.an 2) (.pointer (some ⟨F,0,none⟩))=some (.agg #[.int .i64 ps',vbk]):=cF
   simp [ae,af,r2,r4,r5,r8,r10,cF]
   refine w2.fG (k:=(8,0)) (α:=RawN 1) (β:=RawN 1) Part.all (B:=R) (D:=RawN.mk (n:=1) [.int .i64 0,.slice none 0 0]) (d:=RawN.mk (n:=1) [.int .i64 ps',vbk]) fR (by kernel_rfl) rfl rfl (eV rfl (by intro c hc;simp only [List.mem_cons,List.not_mem_nil,or_false] at hc;rcases hc with rfl | rfl<;>first | rfl | exact hvk)) fun h3 w3 _=>?_
   have cb:=w3.dE (k:=(8,0)) (n:=1) (l:=[.int .i64 ps',vbk]) Own.ag
   have cb:Un.ev (vw h3) (.an 2) (.pointer (some ⟨R,0,none⟩))=some (.agg #[.int .i64 ps',vbk]):=cb
   have sb3:=w3.now (k:=(3,0)) (v:=vbk) (l:=f.blocks.set b ⟨lp',li',⟨kd',la',lt',⟨im'⟩⟩⟩) (by rw [Own.ab (by simp),Own.ag])
   rw [hz];clear hz z
   simp [ae,af,r2,r4,r5,r8,r10,cb]
   obtain ⟨w4,s4⟩:=w3.freeze (k:=(3,0)) (v:=vbk) (l:=f.blocks.set b ⟨lp',li',⟨kd',la',lt',⟨im'⟩⟩⟩) (by rw [Own.ab (by simp),Own.ag])
   have hW4:=di (h:=h3) (w3.av (3,0) _ ((Own.ab (by simp)).trans Own.ag))
   have w5:=w4.sub (o':=o0) fun k i hk=>by
    rcases Nat.lt_or_ge k.1 10 with e | e
    ·rw [ho0 k e] at hk;cases hk
    ·rw [Own.ab (by rintro rfl;simp at e),Own.ab (by rintro rfl;simp at e),Own.ab (by rintro rfl;simp at e),Own.ab (by rintro rfl;simp at e),Own.ab (by rintro rfl;simp at e),t.fr k e];exact hk
   refine hK _ _ ⟨_,⟨ps',f.blocks.set b ⟨lp',li',⟨kd',la',lt',⟨im'⟩⟩⟩⟩,View.le_trans hW2 (View.le_trans t.le (View.le_trans hWW hW4)),w5,⟨by show (f.blocks.set b _).length≤_;rw [List.length_set];exact hf.len,fun x hx=>?_⟩,⟨_,rfl,[.int .i64 ps'],[vbk],rfl,⟨rfl,t.ips⟩,vbk,rfl,s4⟩⟩
   rcases List.mem_or_eq_of_mem_set hx with q | q
   ·exact (hf.blk x q).mono (by omega)
   ·rw [q];exact t.tb
  refine aa fun y hy=>?_
  simp [ae,af,r2,r4,r5,r7,r8,r9,r10,r11]
  rw [hy];clear hy y
  simp only [aO]
  refine aa fun y hy=>?_
  simp [ae,af,r2,r4,r5,r7,r8,r9,r10,r11]
  rw [hy];clear hy y
  by_cases w0:what=0
  ·refine ay (by simp [ae,af,w0]) ?_
   simp [ae,af,r2,r4,r5,r7,r8,r9,r10,r11]
   refine t.A8 w17 qR (by kernel_rfl) rfl rfl fun h2 tE=>?_
   refine fin _ _ (tE.mono (by omega)) ?_ ?_ ?_ ?_ ?_<;>simp [ae,af,r2,r4,r5,r8,r10]
  refine aw (by simp [ae,af,w0]) ?_
  refine aa fun y hy=>?_
  simp [ae,af,r2,r4,r5,r7,r8,r9,r10,r11]
  rw [hy];clear hy y
  by_cases w1:what=1
  ·refine ay (by simp [ae,af,w1]) ?_
   refine aa fun y hy=>?_
   simp [ae,af,r2,r4,r5,r7,r8,r9,r10,r11,x1,hli]
   rw [hy];clear hy y
   by_cases c1:0<xb.ins.length
   ·have hj:=hj1 c1
    refine ay (by simp [ae,af];exact c1) ?_
    simp (disch:=omega) [ae,af,r2,r4,r5,r7,r8,r9,r10,r11,x1,sI.idxn (N:=5) rfl]
    refine t.ze InsD.Fz w17 (j:=j) (d:=_) hj (cC.2 ⟨rfl,qR⟩) (t.tb.iar xb.ins[j] (List.getElem_mem hj)) (by kernel_rfl) rfl rfl fun h2 tE=>?_
    refine fin _ _ (tE.mono (by omega)) ?_ ?_ ?_ ?_ ?_<;>simp [ae,af,r2,r4,r5,r8,r10]
   ·have he:xb.ins=[]:=List.eq_nil_of_length_eq_zero (by omega)
    refine aw (by simp [ae,af,he]) ?_
    simp
    refine fin _ _ (TuE.mono ⟨_,_,_,_,_,_,_,_,_,_,_,_,_,t,w17⟩ (by omega)) ?_ ?_ ?_ ?_ ?_<;>simp [ae,af,r2,r4,r5,r8,r10]
  refine aw (by simp [ae,af,w1]) ?_
  refine aa fun y hy=>?_
  simp [ae,af,r2,r4,r5,r7,r8,r9,r10,r11]
  rw [hy];clear hy y
  by_cases w2:what=2
  ·refine ay (by simp [ae,af,w2]) ?_
   refine aa fun y hy=>?_
   simp [ae,af,r2,r4,r5,r7,r8,r9,r10,r11,x1,hli]
   rw [hy];clear hy y
   by_cases c1:0<xb.ins.length
   ·have hj:=hj1 c1
    refine ay (by simp [ae,af];exact c1) ?_
    simp (disch:=omega) [ae,af,r2,r4,r5,r7,r8,r9,r10,r11,x1,sI.idxn (N:=5) rfl]
    refine t.ze InsD.jh w17 (j:=j) (d:=(n:Int)) hj (cC.2 ⟨rfl,by constructor<;>omega⟩) (have q:=t.tb.iar xb.ins[j] (List.getElem_mem hj);⟨q.1,(by show (n:Int)≤4000;omega),q.2.2⟩) (by kernel_rfl) rfl rfl fun h2 tE=>?_
    refine fin _ _ (tE.mono (by omega)) ?_ ?_ ?_ ?_ ?_<;>simp [ae,af,r2,r4,r5,r8,r10]
   ·have he:xb.ins=[]:=List.eq_nil_of_length_eq_zero (by omega)
    refine aw (by simp [ae,af,he]) ?_
    simp
    refine fin _ _ (TuE.mono ⟨_,_,_,_,_,_,_,_,_,_,_,_,_,t,w17⟩ (by omega)) ?_ ?_ ?_ ?_ ?_<;>simp [ae,af,r2,r4,r5,r8,r10]
  refine aw (by simp [ae,af,w2]) ?_
  refine aa fun y hy=>?_
  simp [ae,af,r2,r4,r5,r7,r8,r9,r10,r11]
  rw [hy];clear hy y
  by_cases w3:what=3
  ·refine ay (by simp [ae,af,w3]) ?_
   refine aa fun y hy=>?_
   by_cases c1:0<xb.ins.length
   ·have hj:=hj1 c1
    have c1i:(0:Int)<xb.ins.length:=by omega
    obtain ⟨va3,ca3,ra3⟩:=Owns.insW w17 t.ins hj
    have hta:=t.tb.iar _ (List.getElem_mem hj)
    simp (disch:=omega) [ae,af,r2,r4,r5,r7,r8,r9,r10,r11,x1,hli,c1,c1i,sI.idxn (N:=5) rfl,ca3,ra3.len]
    rw [hy];clear hy y
    by_cases c2:0<xb.ins[j].args.length
    ·refine ay (by simp [ae,af];first | exact c2 | omega) ?_
     refine aa fun y hy=>?_
     simp [ae,af]
     refine w17.cr (k:=(4,0)) (α:=Int) t.free El.aP fun v18 h18 hle18 hv18 w18 _=>?_
     simp (disch:=omega) [ae,af,r2,r4,r5,r7,r8,r9,r10,r11,ah hle18 x1,(sI.mono hle18).idxn (N:=5) rfl,ah hle18 ca3]
     refine w18.bs (k:=(4,0)) (α:=Int) (l:=([]:List Int)) (l2:=xb.ins[j].args) Own.ag El.aP rfl rfl (ra3.src w18.wle) (by simp;omega) (by simp;omega) fun v19 h19 w19 _=>?_
     rw [List.nil_append] at w19
     have w19:Owns W2 h19 (o17.upd (4,0) (it T.int v19 xb.ins[j].args)):=w19.congr fun q=>by rw [bK]
     rw [hy];clear hy y
     refine aa fun y hy=>?_
     have s19:=w19.now (k:=(4,0)) Own.ag
     have m0:=Int.tmod_nonneg (xb.ins[j].args.length:Int) (show (0:Int)≤n by omega)
     have m1:=Int.tmod_lt_of_pos (n:Int) (show (0:Int)<xb.ins[j].args.length by omega)
     have hne:¬xb.ins[j].args=[]:=fun e=>by rw [e] at c2;simp at c2
     simp (disch:=omega) [ae,af,r2,r4,r5,r7,r8,r9,r10,r11,s19.len,hne,s19.idx1 rfl]
     refine w19.iQ (k:=(4,0)) (α:=Int) (v:=v19) (l:=xb.ins[j].args) (i:=((n:Int).tmod xb.ins[j].args.length).toNat) (d:=(n:Int)) Own.ag (by kernel_rfl) (by rw [show Rep.n Int=1 from rfl,Nat.mul_one];rfl) rfl (by omega) (cC.2 ⟨rfl,by constructor<;>omega⟩) fun h20 w20 _=>?_
     have w20:Owns W2 h20 (o17.upd (4,0) (it T.int v19 (xb.ins[j].args.set ((n:Int).tmod xb.ins[j].args.length).toNat n))):=w20.congr fun q=>by rw [bK]
     rw [hy];clear hy y
     have x1':ao (vw h20) ⟨X,1,none⟩=some vi2:=w20.raw (k:=(3,1)) ((Own.ab (by simp)).trans t.box) (i:=1) (by decide)
     have sI':=w20.now (k:=(3,2)) ((Own.ab (by simp)).trans t.ins)
     obtain ⟨w21,s21⟩:=w20.freeze Own.ag
     have hWp:=di (h:=h20) (w20.av _ _ Own.ag)
     have w21:=w21.congr (o':=o17) fun q=>by
      rw [bK];unfold Own.upd;split
      ·rename_i e;rw [e];exact t.free
      ·rfl
     simp (disch:=omega) [ae,af,r2,r4,r5,r7,r8,r9,r10,r11,x1',sI'.idxn (N:=5) rfl]
     refine (t.wider hWp).ze InsD.mC w21 (j:=j) (d:=xb.ins[j].args.set ((n:Int).tmod xb.ins[j].args.length).toNat n) hj (fB.2 s21) ⟨by show (List.set _ _ _).length≤_;rw [List.length_set];exact hta.1,hta.2⟩ (by kernel_rfl) rfl rfl fun h2 tE=>?_
     refine fin _ _ (tE.mono (by omega)) ?_ ?_ ?_ ?_ ?_<;>simp [ae,af,r2,r4,r5,r8,r10]
    ·refine aw (by simp [ae,af];first | omega | exact List.eq_nil_of_length_eq_zero (by omega)) ?_
     simp
     refine fin _ _ (TuE.mono ⟨_,_,_,_,_,_,_,_,_,_,_,_,_,t,w17⟩ (by omega)) ?_ ?_ ?_ ?_ ?_<;>simp [ae,af,r2,r4,r5,r8,r10]
   ·have he:xb.ins=[]:=List.eq_nil_of_length_eq_zero (by omega)
    have c1i:¬(0:Int)<xb.ins.length:=by omega
    simp [ae,af,r2,r4,r5,r7,r8,r9,r10,r11,x1,hli,c1,c1i]
    rw [hy];clear hy y
    refine aw (by simp [ae,af]) ?_
    simp
    refine fin _ _ (TuE.mono ⟨_,_,_,_,_,_,_,_,_,_,_,_,_,t,w17⟩ (by omega)) ?_ ?_ ?_ ?_ ?_<;>simp [ae,af,r2,r4,r5,r8,r10]
  refine aw (by simp [ae,af,w3]) ?_
  refine aa fun y hy=>?_
  simp [ae,af,r2,r4,r5,r7,r8,r9,r10,r11]
  rw [hy];clear hy y
  by_cases w4:what=4
  ·refine ay (by simp [ae,af,w4]) ?_
   simp [ae,af]
   refine w17.cr (k:=(4,0)) (α:=Int) t.free El.aP fun v18 h18 hle18 hv18 w18 _=>?_
   simp (disch:=omega) [ae,af,r2,r4,r5,r7,r8,r9,r10,r11,ah hle18 x4]
   refine w18.bs (k:=(4,0)) (α:=Int) (l:=([]:List Int)) (l2:=xb.term.to) Own.ag El.aP rfl rfl (t.rt.src w18.wle) (by simp;omega) (by simp;omega) fun v19 h19 w19 _=>?_
   rw [List.nil_append] at w19
   have w19:Owns W2 h19 (o17.upd (4,0) (it T.int v19 xb.term.to)):=w19.congr fun q=>by rw [bK]
   refine w19.dK (k:=(4,0)) (α:=Int) (d:=IntKind.i64.wrap ((n:Int).tmod 12-1)) Own.ag El.aP rfl (cC.2 ⟨rfl,qR⟩) (by omega) (by omega) (fun _=>rfl) (fun _=>rfl) fun u20 v20 h20 w20 _=>?_
   have w20:Owns W2 h20 (o17.upd (4,0) (it T.int v20 (xb.term.to++[IntKind.i64.wrap ((n:Int).tmod 12-1)]))):=w20.congr fun q=>by rw [bK]
   obtain ⟨w21,s21⟩:=w20.freeze Own.ag
   have hWp:=di (h:=h20) (w20.av _ _ Own.ag)
   have w21:=w21.congr (o':=o17) fun q=>by
    rw [bK];unfold Own.upd;split
    ·rename_i e;rw [e];exact t.free
    ·rfl
   refine ((t.wider hWp).more (d:=c+1) (by omega)).Ad w21 s21 (by rw [List.length_append,List.length_singleton];omega) (by kernel_rfl) rfl rfl fun h2 tE=>?_
   refine fin _ _ tE ?_ ?_ ?_ ?_ ?_<;>simp [ae,af,r2,r4,r5,r8,r10]
  refine aw (by simp [ae,af,w4]) ?_
  refine aa fun y hy=>?_
  simp [ae,af,r2,r4,r5,r7,r8,r9,r10,r11]
  rw [hy];clear hy y
  by_cases w5:what=5
  ·refine ay (by simp [ae,af,w5]) ?_
   simp [ae,af,r2,r4,r5,r7,r8,r9,r10,r11]
   have m0:=Int.tmod_nonneg (7:Int) (show (0:Int)≤n by omega)
   have m1:=Int.tmod_lt_of_pos (n:Int) (show (0:Int)<7 by omega)
   refine t.Dx w17 (p:=(n:Int).tmod 7) (by constructor<;>omega) (by kernel_rfl) rfl rfl fun h2 tE=>?_
   refine fin _ _ (tE.mono (by omega)) ?_ ?_ ?_ ?_ ?_<;>simp [ae,af,r2,r4,r5,r8,r10]
  refine aw (by simp [ae,af,w5]) ?_
  refine aa fun y hy=>?_
  simp [ae,af,r2,r4,r5,r7,r8,r9,r10,r11]
  rw [hy];clear hy y
  by_cases w6:what=6
  ·refine ay (by simp [ae,af,w6]) ?_
   refine aa fun y hy=>?_
   simp [ae,af,r2,r4,r5,r7,r8,r9,r10,r11,x0,hlp]
   rw [hy];clear hy y
   by_cases c1:0<xb.phis.length
   ·refine ay (by simp [ae,af];exact c1) ?_
    have m0:=Int.tmod_nonneg (xb.phis.length:Int) (show (0:Int)≤n by omega)
    have m1:=Int.tmod_lt_of_pos (n:Int) (show (0:Int)<xb.phis.length by omega)
    obtain ⟨q,hq⟩ : ∃ q:Nat,(n:Int).tmod xb.phis.length=q:=⟨((n:Int).tmod xb.phis.length).toNat,by omega⟩
    have hql:q<xb.phis.length:=by omega
    obtain ⟨va3,ca3,ra3⟩:=Owns.phiW w17 t.phis hql
    have hta:=t.tb.pin _ (List.getElem_mem hql)
    have hne:¬xb.phis=[]:=fun e=>by rw [e] at c1;simp at c1
    have q50:=Int.tmod_nonneg (5:Int) (show (0:Int)≤n by omega)
    have q51:=Int.tmod_lt_of_pos (n:Int) (show (0:Int)<5 by omega)
    have ixq:Bn.ev (.idx 2) vp2 (.int .i64 q)=some (.pointer (some ((slA vp2).add (q*2)))):=by
     have:=sP.idxn (N:=2) rfl (k:=.i64) (i:=q) (by omega) (by omega);simpa using this
    refine cg (vw h17) (View.le_refl _) ?_
    simp [ae,af,r2,r4,r5,r7,r8,r9,r10,r11,x0,hlp,hne,hq,ixq,ca3]
    have A2 : ∀ {po2 po3:OP} {W:View} {hh:Heap} {v1 u:Value} {ty ty3:TypeId} {us:List (Nat × Value)} {us3:Value→List (Nat × Value)} {x y c1 c2:Operand} {K2:Value→Value→Heap→Prop},W2.le W→Owns W hh (o17.upd (4,0) (it T.dW v1 xb.phis[q].ins))→SlRd W u [InD.mk ((n:Int).tmod 5) n]→(vw h17).le (vw hh)→Av (vw h17) v1→asg us x=v1→asg us y=u→
      (∀ v,asg (us3 v) c1 = .pointer (some (((slA vp2).add (q*2)).add 1)))→(∀ v,asg (us3 v) c2=v)→(∀ v h',TuE R F X o0 (c+1) W2 vbk f.blocks h'→K2 v undef h')→
      @Lft.step po2 Try.prog (.call ⟨.builtin .append,#[x,y],#[T.cw,T.cw]⟩) ty us hh fun v h'=>(vw h17).le (vw h')∧@Lft.step po3 Try.prog (.store T.cw c1 c2) ty3 (us3 v) h' fun w h''=>K2 v w h'':=by
     intro po2 po3 W hh v1 u ty ty3 us us3 x y c1 c2 K2 hW w su le av hx hy hc1 hc2 hK2
     refine w.bs (k:=(4,0)) (α:=InD) (l:=xb.phis[q].ins) (l2:=[InD.mk ((n:Int).tmod 5) n]) Own.ag El.cw hx hy (su.src w.wle) (by simp;omega) (by simp;omega) fun v2 h2 wb m2=>⟨(m2.view le av).1,?_⟩
     have wb:Owns W h2 (o17.upd (4,0) (it T.dW v2 (xb.phis[q].ins++[InD.mk ((n:Int).tmod 5) n]))):=wb.congr fun k=>by rw [bK]
     obtain ⟨wc,sc⟩:=wb.freeze Own.ag
     have hWp:=di (h:=h2) (wb.av _ _ Own.ag)
     have wc:=wc.congr (o':=o17) fun k=>by
      rw [bK];unfold Own.upd;split
      ·rename_i e;rw [e];exact t.free
      ·rfl
     exact ((t.wider (View.le_trans hW hWp)).more (d:=c+1) (by omega)).Cp wc (j:=q) hql sc (by rw [List.length_append,List.length_singleton];omega) (by kernel_rfl) (hc1 v2) (hc2 v2) fun h' tE=>hK2 v2 h' tE
    have i5:I64 ((n:Int).tmod 5):=⟨by omega,by omega⟩
    have in_:I64 (n:Int):=⟨by omega,by omega⟩
    constructor
    ·refine w17.cr (k:=(4,0)) (α:=InD) t.free El.cw fun v0 h18 le18 _ w18 av18=>⟨le18,?_⟩
     have av18:=av18 (vw h17) (View.le_refl _)
     constructor
     ·refine w18.bs (k:=(4,0)) (α:=InD) (l:=([]:List InD)) (l2:=xb.phis[q].ins) Own.ag El.cw rfl rfl (ra3.src w18.wle) (by simp;omega) (by simp;omega) fun v1 h19 w19 m19=>?_
      obtain ⟨le19,av19⟩:=m19.view le18 av18
      rw [List.nil_append] at w19
      have w19:Owns W2 h19 (o17.upd (4,0) (it T.dW v1 xb.phis[q].ins)):=w19.congr fun k=>by rw [bK]
      refine ⟨le19,?_⟩
      refine aN (z:=.agg #[.int .i64 0,.int .i64 0]) (places:=[(0,1),(1,1)]) (vs:=[(0,.int .i64 ((n:Int).tmod 5)),(1,.int .i64 n)]) (cs:=#[.int .i64 ((n:Int).tmod 5),.int .i64 n]) (by kernel_rfl) (by kernel_rfl) (by simp) (by rfl) ⟨le19,?_⟩
      refine kA i5 in_ rfl fun h20 le20 su=>⟨View.le_trans le19 le20,?_⟩
      refine A2 (aW w19.wle) (w19.ext le20) (su _ (cN (Nat.le_refl _))) (View.le_trans le19 le20) av19 rfl rfl (fun _=>rfl) (fun _=>rfl) fun v h' tE=>?_
      refine fin _ _ tE ?_ ?_ ?_ ?_ ?_<;>simp [ae,af,r2,r4,r5,r8,r10]
     ·refine aN (z:=.agg #[.int .i64 0,.int .i64 0]) (places:=[(0,1),(1,1)]) (vs:=[(0,.int .i64 ((n:Int).tmod 5)),(1,.int .i64 n)]) (cs:=#[.int .i64 ((n:Int).tmod 5),.int .i64 n]) (by kernel_rfl) (by kernel_rfl) (by simp) (by rfl) ⟨le18,?_⟩
      constructor
      ·refine w18.bs (k:=(4,0)) (α:=InD) (l:=([]:List InD)) (l2:=xb.phis[q].ins) Own.ag El.cw rfl rfl (ra3.src w18.wle) (by simp;omega) (by simp;omega) fun v1 h19 w19 m19=>?_
       obtain ⟨le19,av19⟩:=m19.view le18 av18
       rw [List.nil_append] at w19
       have w19:Owns W2 h19 (o17.upd (4,0) (it T.dW v1 xb.phis[q].ins)):=w19.congr fun k=>by rw [bK]
       refine ⟨le19,?_⟩
       refine kA i5 in_ rfl fun h20 le20 su=>⟨View.le_trans le19 le20,?_⟩
       refine A2 (aW w19.wle) (w19.ext le20) (su _ (cN (Nat.le_refl _))) (View.le_trans le19 le20) av19 rfl rfl (fun _=>rfl) (fun _=>rfl) fun v h' tE=>?_
       refine fin _ _ tE ?_ ?_ ?_ ?_ ?_<;>simp [ae,af,r2,r4,r5,r8,r10]
      ·refine kA i5 in_ rfl fun h20 le20 su=>⟨View.le_trans le18 le20,?_⟩
       have w20:=w18.ext le20
       have hW20:=aW (h':=h20) w18.wle
       have su:=su _ (cN (W:=W2) (Nat.le_refl _))
       refine w20.bs (k:=(4,0)) (α:=InD) (l:=([]:List InD)) (l2:=xb.phis[q].ins) Own.ag El.cw rfl rfl ((ra3.mono hW20).src w20.wle) (by simp;omega) (by simp;omega) fun v1 h21 w21 m21=>?_
       obtain ⟨le21,av21⟩:=m21.view (View.le_trans le18 le20) av18
       rw [List.nil_append] at w21
       have w21:=w21.congr (o':=o17.upd (4,0) (it T.dW v1 xb.phis[q].ins)) fun k=>by rw [bK]
       refine ⟨le21,?_⟩
       refine A2 hW20 w21 su le21 av21 rfl rfl (fun _=>rfl) (fun _=>rfl) fun v h' tE=>?_
       refine fin _ _ tE ?_ ?_ ?_ ?_ ?_<;>simp [ae,af,r2,r4,r5,r8,r10]
    ·refine aN (z:=.agg #[.int .i64 0,.int .i64 0]) (places:=[(0,1),(1,1)]) (vs:=[(0,.int .i64 ((n:Int).tmod 5)),(1,.int .i64 n)]) (cs:=#[.int .i64 ((n:Int).tmod 5),.int .i64 n]) (by kernel_rfl) (by kernel_rfl) (by simp) (by rfl) ⟨View.le_refl _,?_⟩
     constructor
     ·refine w17.cr (k:=(4,0)) (α:=InD) t.free El.cw fun v0 h18 le18 _ w18 av18=>⟨le18,?_⟩
      have av18:=av18 (vw h17) (View.le_refl _)
      constructor
      ·refine w18.bs (k:=(4,0)) (α:=InD) (l:=([]:List InD)) (l2:=xb.phis[q].ins) Own.ag El.cw rfl rfl (ra3.src w18.wle) (by simp;omega) (by simp;omega) fun v1 h19 w19 m19=>?_
       obtain ⟨le19,av19⟩:=m19.view le18 av18
       rw [List.nil_append] at w19
       have w19:Owns W2 h19 (o17.upd (4,0) (it T.dW v1 xb.phis[q].ins)):=w19.congr fun k=>by rw [bK]
       refine ⟨le19,?_⟩
       refine kA i5 in_ rfl fun h20 le20 su=>⟨View.le_trans le19 le20,?_⟩
       refine A2 (aW w19.wle) (w19.ext le20) (su _ (cN (Nat.le_refl _))) (View.le_trans le19 le20) av19 rfl rfl (fun _=>rfl) (fun _=>rfl) fun v h' tE=>?_
       refine fin _ _ tE ?_ ?_ ?_ ?_ ?_<;>simp [ae,af,r2,r4,r5,r8,r10]
      ·refine kA i5 in_ rfl fun h20 le20 su=>⟨View.le_trans le18 le20,?_⟩
       have w20:=w18.ext le20
       have hW20:=aW (h':=h20) w18.wle
       have su:=su _ (cN (W:=W2) (Nat.le_refl _))
       refine w20.bs (k:=(4,0)) (α:=InD) (l:=([]:List InD)) (l2:=xb.phis[q].ins) Own.ag El.cw rfl rfl ((ra3.mono hW20).src w20.wle) (by simp;omega) (by simp;omega) fun v1 h21 w21 m21=>?_
       obtain ⟨le21,av21⟩:=m21.view (View.le_trans le18 le20) av18
       rw [List.nil_append] at w21
       have w21:=w21.congr (o':=o17.upd (4,0) (it T.dW v1 xb.phis[q].ins)) fun k=>by rw [bK]
       refine ⟨le21,?_⟩
       refine A2 hW20 w21 su le21 av21 rfl rfl (fun _=>rfl) (fun _=>rfl) fun v h' tE=>?_
       refine fin _ _ tE ?_ ?_ ?_ ?_ ?_<;>simp [ae,af,r2,r4,r5,r8,r10]
     ·refine kA i5 in_ rfl fun h18 le18 su=>⟨le18,?_⟩
      have w18:=w17.ext le18
      have hW18:=aW (h':=h18) w17.wle
      have su:=su _ (cN (W:=W2) (Nat.le_refl _))
      refine w18.cr (k:=(4,0)) (α:=InD) t.free El.cw fun v0 h19 le19 _ w19 av19=>⟨View.le_trans le18 le19,?_⟩
      have av19:=av19 (vw h17) le18
      refine w19.bs (k:=(4,0)) (α:=InD) (l:=([]:List InD)) (l2:=xb.phis[q].ins) Own.ag El.cw rfl rfl ((ra3.mono hW18).src w19.wle) (by simp;omega) (by simp;omega) fun v1 h21 w21 m21=>?_
      obtain ⟨le21,av21⟩:=m21.view (View.le_trans le18 le19) av19
      rw [List.nil_append] at w21
      have w21:=w21.congr (o':=o17.upd (4,0) (it T.dW v1 xb.phis[q].ins)) fun k=>by rw [bK]
      refine ⟨le21,?_⟩
      refine A2 hW18 w21 su le21 av21 rfl rfl (fun _=>rfl) (fun _=>rfl) fun v h' tE=>?_
      refine fin _ _ tE ?_ ?_ ?_ ?_ ?_<;>simp [ae,af,r2,r4,r5,r8,r10]
   ·have he:xb.phis=[]:=List.eq_nil_of_length_eq_zero (by omega)
    refine aw (by simp [ae,af,he]) ?_
    simp
    refine fin _ _ (TuE.mono ⟨_,_,_,_,_,_,_,_,_,_,_,_,_,t,w17⟩ (by omega)) ?_ ?_ ?_ ?_ ?_<;>simp [ae,af,r2,r4,r5,r8,r10]
  refine aw (by simp [ae,af,w6]) ?_
  refine aa fun y hy=>?_
  simp [ae,af,r2,r4,r5,r7,r8,r9,r10,r11]
  rw [hy];clear hy y
  by_cases w7:what=7
  ·refine ay (by simp [ae,af,w7]) ?_
   refine aa fun y hy=>?_
   by_cases c1:0<xb.phis.length
   ·have c1i:(0:Int)<xb.phis.length:=by omega
    obtain ⟨va3,ca3,ra3⟩:=Owns.phiW w17 t.phis c1
    have ca3:ao (vw h17) (((slA vp2).add 0).add 1)=some va3:=by have:=ca3;rwa [Nat.zero_mul] at this
    have hta:=t.tb.pin _ (List.getElem_mem c1)
    have hix : ∀ {l:List PhiD},SlRd (vw h17) vp2 l→True:=fun _=>trivial
    have ix0:Bn.ev (.idx 2) vp2 (.int .i64 0)=some (.pointer (some ((slA vp2).add 0))):=by
     have:=sP.idxn (N:=2) rfl (k:=.i64) (i:=0) (by omega) (by omega);simpa using this
    simp (disch:=omega) [ae,af,r2,r4,r5,r7,r8,r9,r10,r11,x0,hlp,c1,c1i,ix0,ca3,ra3.len]
    rw [hy];clear hy y
    by_cases c2:0<xb.phis[0].ins.length
    ·refine ay (by simp [ae,af];first | exact c2 | omega) ?_
     refine aa fun y hy=>?_
     simp [ae,af]
     refine w17.cr (k:=(4,0)) (α:=InD) t.free El.cw fun v18 h18 hle18 hv18 w18 _=>?_
     simp (disch:=omega) [ae,af,r2,r4,r5,r7,r8,r9,r10,r11,ah hle18 x0,ix0,ah hle18 ca3]
     refine w18.bs (k:=(4,0)) (α:=InD) (l:=([]:List InD)) (l2:=xb.phis[0].ins) Own.ag El.cw rfl rfl (ra3.src w18.wle) (by simp;omega) (by simp;omega) fun v19 h19 w19 _=>?_
     rw [List.nil_append] at w19
     have w19:Owns W2 h19 (o17.upd (4,0) (it T.dW v19 xb.phis[0].ins)):=w19.congr fun q=>by rw [bK]
     rw [hy];clear hy y
     refine aa fun y hy=>?_
     have s19:=w19.now (k:=(4,0)) Own.ag
     have m0:=Int.tmod_nonneg (xb.phis[0].ins.length:Int) (show (0:Int)≤n by omega)
     have m1:=Int.tmod_lt_of_pos (n:Int) (show (0:Int)<xb.phis[0].ins.length by omega)
     have hne:¬xb.phis[0].ins=[]:=fun e=>by rw [e] at c2;simp at c2
     simp (disch:=omega) [ae,af,r2,r4,r5,r7,r8,r9,r10,r11,s19.len,hne,s19.idxn (N:=2) rfl]
     refine w19.iX (k:=(4,0)) (α:=InD) InD.rE (v:=v19) (l:=xb.phis[0].ins) (i:=((n:Int).tmod xb.phis[0].ins.length).toNat) (d:=(n:Int)) Own.ag (by kernel_rfl) rfl rfl (by omega) (cC.2 ⟨rfl,by constructor<;>omega⟩) fun h20 w20 _=>?_
     have w20:Owns W2 h20 (o17.upd (4,0) (it T.dW v19 _)):=w20.congr fun q=>by rw [bK]
     rw [hy];clear hy y
     have x0':ao (vw h20) ⟨X,0,none⟩=some vp2:=w20.raw (k:=(3,1)) ((Own.ab (by simp)).trans t.box) (i:=0) (by decide)
     obtain ⟨w21,s21⟩:=w20.freeze Own.ag
     have hWp:=di (h:=h20) (w20.av _ _ Own.ag)
     have w21:=w21.congr (o':=o17) fun q=>by
      rw [bK];unfold Own.upd;split
      ·rename_i e;rw [e];exact t.free
      ·rfl
     simp (disch:=omega) [ae,af,r2,r4,r5,r7,r8,r9,r10,r11,x0',ix0]
     refine (t.wider hWp).Cp w21 (j:=0) c1 s21 (by rw [List.length_set];exact hta.1) (by kernel_rfl) (by rw [Nat.zero_mul];rfl) rfl fun h2 tE=>?_
     refine fin _ _ (tE.mono (by omega)) ?_ ?_ ?_ ?_ ?_<;>simp [ae,af,r2,r4,r5,r8,r10]
    ·have he:xb.phis[0].ins=[]:=List.eq_nil_of_length_eq_zero (by omega)
     refine aw (by simp [ae,af,he]) ?_
     simp
     refine fin _ _ (TuE.mono ⟨_,_,_,_,_,_,_,_,_,_,_,_,_,t,w17⟩ (by omega)) ?_ ?_ ?_ ?_ ?_<;>simp [ae,af,r2,r4,r5,r8,r10]
   ·have he:xb.phis=[]:=List.eq_nil_of_length_eq_zero (by omega)
    have c1i:¬(0:Int)<xb.phis.length:=by omega
    simp [ae,af,r2,r4,r5,r7,r8,r9,r10,r11,x0,hlp,c1,c1i]
    rw [hy];clear hy y
    refine aw (by simp [ae,af,he]) ?_
    simp
    refine fin _ _ (TuE.mono ⟨_,_,_,_,_,_,_,_,_,_,_,_,_,t,w17⟩ (by omega)) ?_ ?_ ?_ ?_ ?_<;>simp [ae,af,r2,r4,r5,r8,r10]
  refine aw (by simp [ae,af,w7]) ?_
  refine aa fun y hy=>?_
  simp [ae,af,r2,r4,r5,r7,r8,r9,r10,r11]
  rw [hy];clear hy y
  by_cases w8:what=8
  ·refine ay (by simp [ae,af,w8]) ?_
   refine aa fun y hy=>?_
   simp [ae,af,r2,r4,r5,r7,r8,r9,r10,r11,x1,hli]
   rw [hy];clear hy y
   by_cases c1:0<xb.ins.length
   ·have hj:=hj1 c1
    refine ay (by simp [ae,af];exact c1) ?_
    obtain ⟨v1,v2,e1,e2,wc,src⟩:=Owns.cut w17 t.ins (N:=5) rfl hj
    have hwj:IntKind.i64.wrap ((j:Int)+1)=(j:Int)+1:=cQ (by omega) (by omega)
    refine cg (vw h17) (View.le_refl _) ?_
    simp [ae,af,r2,r4,r5,r7,r8,r9,r10,r11,x1,e1,e2,hwj]
    refine wc.bs (k:=(3,2)) (α:=InsD) (l:=xb.ins.take j) (l2:=xb.ins.drop (j+1)) Own.ag El.ey rfl rfl src (by simp;omega) (by simp;omega) fun v18 h18 w18 _=>?_
    have w18:Owns W2 h18 (o17.upd (3,2) (it T.aX v18 (xb.ins.take j++xb.ins.drop (j+1)))):=w18.congr fun q=>by rw [bK]
    refine t.DT w18 (by simp;omega) (fun i hi=>by
     rcases List.mem_append.1 hi with q | q
     ·exact t.tb.iar i (List.mem_of_mem_take q)
     ·exact t.tb.iar i (List.mem_of_mem_drop q)) (by kernel_rfl) rfl rfl fun h2 tE=>?_
    refine fin _ _ (tE.mono (by omega)) ?_ ?_ ?_ ?_ ?_<;>simp [ae,af,r2,r4,r5,r8,r10]
   ·have he:xb.ins=[]:=List.eq_nil_of_length_eq_zero (by omega)
    refine aw (by simp [ae,af,he]) ?_
    simp
    refine fin _ _ (TuE.mono ⟨_,_,_,_,_,_,_,_,_,_,_,_,_,t,w17⟩ (by omega)) ?_ ?_ ?_ ?_ ?_<;>simp [ae,af,r2,r4,r5,r8,r10]
  refine aw (by simp [ae,af,w8]) ?_
  refine aa fun y hy=>?_
  simp [ae,af,r2,r4,r5,r7,r8,r9,r10,r11]
  rw [hy];clear hy y
  by_cases w9:what=9
  ·refine ay (by simp [ae,af,w9]) ?_
   refine aa fun y hy=>?_
   simp [ae,af,r2,r4,r5,r7,r8,r9,r10,r11,x1,hli]
   rw [hy];clear hy y
   by_cases c1:1<xb.ins.length
   ·have hj:=hj1 (by omega)
    refine ay (by simp [ae,af];omega) ?_
    have h0i:0<xb.ins.length:=by omega
    obtain ⟨u0,hu0,hr0⟩:=Owns.ldW w17 t.ins rfl (N:=5) rfl h0i
    obtain ⟨uj,huj,hrj⟩:=Owns.ldW w17 t.ins rfl (N:=5) rfl hj
    rw [Nat.zero_mul] at hu0
    obtain ⟨va0,rfl,rng0,ra0⟩:=qV hr0
    have ix0:Bn.ev (.idx 5) vi2 (.int .i64 0)=some (.pointer (some ((slA vi2).add 0))):=by
     have:=sI.idxn (N:=5) rfl (k:=.i64) (i:=0) (by omega) (by omega);simpa using this
    refine aa fun y hy=>?_
    simp (disch:=omega) [ae,af,r2,r4,r5,r7,r8,r9,r10,r11,x1,ix0,hu0]
    have hva0:=ra0.cells.2
    refine w17.iJ (k:=(4,0)) (n:=4) (l:=[.int .i64 xb.ins[0].op,.int .i64 xb.ins[0].dst,.int .i64 xb.ins[0].two,va0,.int .i32 xb.ins[0].imm.v]) t.free (z:=.agg #[.int .i64 0,.int .i64 0,.int .i64 0,.slice none 0 0,.int .i32 0]) (by kernel_rfl) rfl (by kernel_rfl) rfl (by decide) (by intro c hc;simp only [List.mem_cons,List.not_mem_nil,or_false] at hc;rcases hc with rfl | rfl | rfl | rfl | rfl<;>first | rfl | assumption) (fun _=>by simp) (fun _=>by simp) fun h18 q18 w18=>?_
    generalize h17.size=Y at w18
    have x18:=ah q18 x1
    have huj18:Un.ev (vw h18) (.an 5) (.pointer (some ((slA vi2).add (j*5))))=some uj:=by
     have:=ck (ρ:=fun _=>none) (e:=.un (.an 5) (.con (.pointer (some ((slA vi2).add (j*5)))))) q18 (by simpa using huj)
     simpa using this
    rw [hy];clear hy y
    refine aa fun y hy=>?_
    refine cg (vw h18) (View.le_refl _) ?_
    simp (disch:=omega) [ae,af,r2,r4,r5,r7,r8,r9,r10,r11,x18,ix0,sI.idxn (N:=5) rfl,huj18]
    refine w18.iQ (k:=(3,2)) (α:=InsD) (v:=vi2) (l:=xb.ins) (i:=0) (d:=xb.ins[j]) ((Own.ab (by simp)).trans t.ins) (by kernel_rfl) (by rw [Nat.zero_mul];rfl) rfl h0i hrj fun h19 w19 _=>?_
    have cY:=w19.dE (k:=(4,0)) (n:=4) ((Own.ab (by simp)).trans Own.ag)
    have cY:Un.ev (vw h19) (.an 5) (.pointer (some ⟨Y,0,none⟩))=some (.agg #[.int .i64 xb.ins[0].op,.int .i64 xb.ins[0].dst,.int .i64 xb.ins[0].two,va0,.int .i32 xb.ins[0].imm.v]):=cY
    have x19:ao (vw h19) ⟨X,1,none⟩=some vi2:=w19.raw (k:=(3,1)) ((Own.ab (by simp)).trans ((Own.ab (by simp)).trans t.box)) (i:=1) (by decide)
    have s19:=w19.now (k:=(3,2)) Own.ag
    rw [hy];clear hy y
    simp (disch:=first | omega | (simp;omega)) [ae,af,r2,r4,r5,r7,r8,r9,r10,r11,x19,cY,s19.idxn (N:=5) rfl]
    refine w19.iQ (k:=(3,2)) (α:=InsD) (v:=vi2) (l:=xb.ins.set 0 xb.ins[j]) (i:=j) (d:=xb.ins[0]) Own.ag (by kernel_rfl) rfl rfl (by rw [List.length_set];exact hj) hr0 fun h20 w20 _=>?_
    have w20:Owns W2 h20 (o17.upd (3,2) (it T.aX vi2 ((xb.ins.set 0 xb.ins[j]).set j xb.ins[0]))):=w20.sub fun k i hk=>by
     have hk4:k≠(4,0):=by rintro rfl;rw [Own.ab (by simp),t.free] at hk;cases hk
     by_cases e:k=(3,2)
     ·subst e;rw [Own.ag] at hk ⊢;exact hk
     ·rw [Own.ab e] at hk;rw [Own.ab e,Own.ab e,Own.ab hk4];exact hk
    refine fin _ _ (TuE.mono ⟨W2,_,f.params,vp2,vi2,va,vt,xb.term.kind,xb.term.imm.v,xb.phis,(xb.ins.set 0 xb.ins[j]).set j xb.ins[0],xb.term.args,xb.term.to,⟨t.le,(Own.ab (by simp)).trans t.res,(Own.ab (by simp)).trans t.fn,(Own.ab (by simp)).trans t.blk,(Own.ab (by simp)).trans t.box,Own.ag,(Own.ab (by simp)).trans t.phis,(Own.ab (by simp)).trans t.free,fun k hk=>(Own.ab (by rintro rfl;simp at hk)).trans (t.fr k hk),t.ra,t.rt,t.ips,t.ikd,t.iim,⟨t.tb.phis,by rw [List.length_set,List.length_set];exact t.tb.ins,t.tb.args,t.tb.to,t.tb.pin,fun i hi=>?_⟩⟩,w20⟩ (by omega)) ?_ ?_ ?_ ?_ ?_
    ·rcases List.mem_or_eq_of_mem_set hi with q | q
     ·rcases List.mem_or_eq_of_mem_set q with q | q
      ·exact t.tb.iar i q
      ·rw [q];exact t.tb.iar _ (List.getElem_mem hj)
     ·rw [q];exact t.tb.iar _ (List.getElem_mem h0i)
    all_goals simp [ae,af,r2,r4,r5,r8,r10]
   ·refine aw (by simp [ae,af];omega) ?_
    simp
    refine fin _ _ (TuE.mono ⟨_,_,_,_,_,_,_,_,_,_,_,_,_,t,w17⟩ (by omega)) ?_ ?_ ?_ ?_ ?_<;>simp [ae,af,r2,r4,r5,r8,r10]
  refine aw (by simp [ae,af,w9]) ?_
  refine aa fun y hy=>?_
  simp [ae,af,r2,r4,r5,r7,r8,r9,r10,r11]
  rw [hy];clear hy y
  by_cases w10:what=10
  ·refine ay (by simp [ae,af,w10]) ?_
   refine aa fun y hy=>?_
   simp [ae,af,r2,r4,r5,r7,r8,r9,r10,r11,x4,hlt]
   rw [hy];clear hy y
   by_cases c1:0<xb.term.to.length
   ·refine ay (by simp [ae,af];exact c1) ?_
    refine aa fun y hy=>?_
    simp [ae,af]
    refine w17.cr (k:=(4,0)) (α:=Int) t.free El.aP fun v18 h18 hle18 hv18 w18 _=>?_
    simp (disch:=omega) [ae,af,r2,r4,r5,r7,r8,r9,r10,r11,ah hle18 x4]
    refine w18.bs (k:=(4,0)) (α:=Int) (l:=([]:List Int)) (l2:=xb.term.to) Own.ag El.aP rfl rfl (t.rt.src w18.wle) (by simp;omega) (by simp;omega) fun v19 h19 w19 _=>?_
    rw [List.nil_append] at w19
    have w19:Owns W2 h19 (o17.upd (4,0) (it T.int v19 xb.term.to)):=w19.congr fun q=>by rw [bK]
    rw [hy];clear hy y
    refine aa fun y hy=>?_
    have s19:=w19.now (k:=(4,0)) Own.ag
    have m0:=Int.tmod_nonneg (xb.term.to.length:Int) (show (0:Int)≤n by omega)
    have m1:=Int.tmod_lt_of_pos (n:Int) (show (0:Int)<xb.term.to.length by omega)
    have q0:=Int.tmod_nonneg (11:Int) (show (0:Int)≤n by omega)
    have q1:=Int.tmod_lt_of_pos (n:Int) (show (0:Int)<11 by omega)
    have hne:¬xb.term.to=[]:=fun e=>by rw [e] at c1;simp at c1
    simp (disch:=omega) [ae,af,r2,r4,r5,r7,r8,r9,r10,r11,s19.len,hne,s19.idx1 rfl]
    refine w19.iQ (k:=(4,0)) (α:=Int) (v:=v19) (l:=xb.term.to) (i:=((n:Int).tmod xb.term.to.length).toNat) (d:=(n:Int).tmod 11) Own.ag (by kernel_rfl) (by rw [show Rep.n Int=1 from rfl,Nat.mul_one];rfl) rfl (by omega) (cC.2 ⟨rfl,by constructor<;>omega⟩) fun h20 w20 _=>?_
    have w20:Owns W2 h20 (o17.upd (4,0) (it T.int v19 (xb.term.to.set ((n:Int).tmod xb.term.to.length).toNat ((n:Int).tmod 11)))):=w20.congr fun q=>by rw [bK]
    rw [hy];clear hy y
    obtain ⟨w21,s21⟩:=w20.freeze Own.ag
    have hWp:=di (h:=h20) (w20.av _ _ Own.ag)
    have w21:=w21.congr (o':=o17) fun q=>by
     rw [bK];unfold Own.upd;split
     ·rename_i e;rw [e];exact t.free
     ·rfl
    simp (disch:=omega) [ae,af,r2,r4,r5,r7,r8,r9,r10,r11]
    refine (t.wider hWp).Ad w21 s21 (by rw [List.length_set];exact t.tb.to) (by kernel_rfl) rfl rfl fun h2 tE=>?_
    refine fin _ _ (tE.mono (by omega)) ?_ ?_ ?_ ?_ ?_<;>simp [ae,af,r2,r4,r5,r8,r10]
   ·have he:xb.term.to=[]:=List.eq_nil_of_length_eq_zero (by omega)
    refine aw (by simp [ae,af,he]) ?_
    simp
    refine fin _ _ (TuE.mono ⟨_,_,_,_,_,_,_,_,_,_,_,_,_,t,w17⟩ (by omega)) ?_ ?_ ?_ ?_ ?_<;>simp [ae,af,r2,r4,r5,r8,r10]
  refine aw (by simp [ae,af,w10]) ?_
  simp [ae,af,r2,r4,r5,r7,r8,r9,r10,r11,x0]
  refine aN (z:=.agg #[.int .i64 0,.slice none 0 0]) (places:=[(0,1),(1,1)]) (vs:=[(0,.int .i64 n)]) (cs:=#[.int .i64 n,.slice none 0 0]) (by kernel_rfl) (by kernel_rfl) (by simp) (by rfl) ?_
  refine w17.dK (k:=(3,3)) (α:=PhiD) (d:=⟨n,[]⟩) t.phis El.gq rfl (rX ⟨by omega,by omega⟩ dM) (by omega) (by omega) (fun _=>rfl) (fun _=>rfl) fun u18 v18 h18 w18 _=>?_
  refine (t.more (d:=c+1) (by omega)).Er w18 (by rw [List.length_append,List.length_singleton];omega) (fun i hi=>by
   rcases List.mem_append.1 hi with q | q
   ·have:=t.tb.pin i q;omega
   ·rw [List.mem_singleton] at q;rw [q];exact ⟨Nat.zero_le _,by show (n:Int)≤4000;omega⟩) (by kernel_rfl) rfl rfl fun h2 tE=>?_
  refine fin _ _ tE ?_ ?_ ?_ ?_ ?_<;>simp [ae,af,r2,r4,r5,r8,r10]
 refine aa fun y hy=>?_
 simp [x1,hli]
 rw [hy];clear hy y
 by_cases c1:0<xb.ins.length
 ·rw [if_pos c1] at hj2
  have hne:¬xb.ins=[]:=fun e=>by rw [e] at c1;simp at c1
  refine ay (by simp [hne];exact c1) ?_
  simp [x1,hli,hne]
  refine sw _ ?_ ?_ ?_ ?_ ?_ ?_ ?_ ?_
  all_goals simp [hj2]
 ·rw [if_neg c1] at hj2
  have he:xb.ins=[]:=List.eq_nil_of_length_eq_zero (by omega)
  refine aw (by simp [he]) ?_
  simp
  refine sw _ ?_ ?_ ?_ ?_ ?_ ?_ ?_ ?_
  all_goals simp [hj2]
end Go.Proofs.Ytfelpjfopgiabaa
namespace Go.Proofs.Ytfelpjfopgiabaa
open Go Go.Lft
theorem sD {H:View} {u:Value} {f:ak} (h:Rd H u f) : ∃ vb,u = .agg #[.int .i64 f.params,vb]∧I64 f.params∧SlRd H vb f.blocks:=by
 obtain ⟨cs,rfl,c1,r1,e1,⟨rfl,h1⟩,vb,h2,h3⟩:=h
 exact ⟨vb,by rw [←Array.toList_inj.1 ((by rw [e1,h2];rfl):cs.toList = #[Value.int .i64 f.params,vb].toList)],h1,h3⟩
theorem pM {a:Value} {v:Int} (ha:a.oneCell'=true) : ∀ c∈[Value.int .i64 v,a],c.oneCell'=true:=by
 intro c hc
 simp only [List.mem_cons,List.not_mem_nil,or_false] at hc
 rcases hc with rfl | rfl<;>first | rfl | exact ha
theorem xw {l:List Int} {vl:Value} {h:Heap} {W:View} {o0:Own} (w0:Owns W h o0) (ho0 : ∀ k:Key,k.1<11→o0 k=none) (hs:SlRd W vl l) :
  aI Try.prog N.eP #[vl] h (fun u h'=>∃ W' o vb lb,W.le W'∧Owns W' h' o∧(∀ k:Key,3≤k.1→o k=o0 k)∧FnB o vb lb (iG (l.take 200))∧u = .agg #[.int .i64 (iG (l.take 200)).params,vb]):=by
 refine aA (args:=[vl]) follows F.eP E.eP (Nat.le_of_ble_eq_true (by kernel_rfl)) fun K hK=>?_
 dsimp only [L.eP]
 refine aa fun z hz=>?_
 simp
 refine w0.jA (k:=(10,0)) (n:=1) (z:=.agg #[.int .i64 0,.slice none 0 0]) (ho0 _ (by decide)) (by kernel_rfl) rfl (by decide) (by simp [Value.cells,Value.oneCell']) fun h1 q1 w1=>?_
 generalize h.size=R at w1
 obtain ⟨u2,e2,s2⟩:=iB hs 200 200 rfl
 rw [hz];clear hz z
 refine aa fun z hz=>?_
 simp [hs.len,e2]
 refine aj (by kernel_rfl) (B8 w1 (fun k hk=>(Own.ab (by rintro rfl;simp at hk)).trans (ho0 k (by omega))) s2) ?_
 rintro _ h3 ⟨W3,o3,vb,lb,hW3,w3,f3,b3,rfl⟩
 have c3:o3 (10,0)=_:=(f3 (10,0) (by decide)).trans Own.ag
 refine w3.fG (k:=(10,0)) (α:=RawN 1) (β:=RawN 1) Part.all (B:=R) (D:=RawN.mk (n:=1) [.int .i64 0,.slice none 0 0]) (d:=RawN.mk (n:=1) [.int .i64 (iG (l.take 200)).params,vb]) c3 (by kernel_rfl) rfl rfl (eV rfl (pM (w3.cells b3.blk).2)) fun h4 w4 _=>?_
 have cb:=w4.dE (k:=(10,0)) (n:=1) (l:=[.int .i64 (iG (l.take 200)).params,vb]) Own.ag
 have cb:Un.ev (vw h4) (.an 2) (.pointer (some ⟨R,0,none⟩))=some (.agg #[.int .i64 (iG (l.take 200)).params,vb]):=cb
 rw [hz];clear hz z
 simp [cb]
 refine hK _ _ ⟨W3,fun k=>if 3≤k.1 then o0 k else o3 k,vb,lb,hW3,w4.sub fun k i hk=>?_,fun k hk=>if_pos hk,⟨?_,b3.len,b3.term,fun i hi=>?_,fun i hi=>?_⟩,rfl⟩
 ·have h10:k≠(10,0):=by rintro rfl;rw [if_pos (by decide),ho0 _ (by decide)] at hk;cases hk
  rw [Own.ab h10]
  split at hk
  ·rename_i e
   rw [f3 k e,Own.ab h10];exact hk
  ·exact hk
 ·exact (if_neg (by decide)).trans b3.blk
 ·exact (if_neg (by show ¬3≤1;decide)).trans (b3.phis i hi)
 ·exact (if_neg (by show ¬3≤2;decide)).trans (b3.ins i hi)
theorem sK {l:List Int} {vl:Value} {h:Heap} {W:View} {o0:Own} (w0:Owns W h o0) (ho0 : ∀ k:Key,k.1<11→o0 k=none) (hs:SlRd W vl l) :
  aI Try.prog N.eP #[vl] h (fun u h'=>∃ W',W.le W'∧Owns W' h' o0∧Rd W' u (iG (l.take 200))):=by
 refine (xw w0 ho0 hs).mono ?_
 rintro u h' ⟨W1,o,vb,lb,hW,w,ho,b,rfl⟩
 obtain ⟨W2,hW2,w2,sb⟩:=b.freeze w ho fun k hk=>ho0 k (by omega)
 have mp:=yc (s:=l.take 200)
 have mi:I64 (iG (l.take 200)).params:=⟨by omega,by omega⟩
 exact ⟨W2,View.le_trans hW hW2,w2,⟨_,rfl,[.int .i64 (iG (l.take 200)).params],[vb],rfl,⟨rfl,mi⟩,vb,rfl,sb⟩⟩
abbrev Q3:=Cat Int (Cat Int Int)
instance:Inhabited Q3:=⟨⟨0,0,0⟩⟩
theorem Dr {H:View} {u:Value} {d:Q3} (h:Rd H u d):u = .agg #[.int .i64 d.a,.int .i64 d.b.a,.int .i64 d.b.b]∧I64 d.a∧I64 d.b.a∧I64 d.b.b:=by
 obtain ⟨cs,rfl,c1,r1,e1,⟨rfl,h1⟩,c2,c3,rfl,⟨rfl,h2⟩,rfl,h3⟩:=h
 exact ⟨by rw [←Array.toList_inj.1 ((by rw [e1];rfl):cs.toList = #[Value.int .i64 d.a,.int .i64 d.b.a,.int .i64 d.b.b].toList)],h1,h2,h3⟩
end Go.Proofs.Ytfelpjfopgiabaa
namespace Go.Proofs.Ytfelpjfopgiabaa
open Go Go.Lft
theorem zR {f:ak}:(fewS f).blocks.length≤9:=by simp [fewS];omega
theorem DK {f:ak} {i:Nat} (hi:i<(fewS f).blocks.length) : ∃ x,nth (fewS f).blocks i=fewB x:=by
 rw [aq hi]
 simp only [fewS,List.getElem_map]
 exact ⟨_,rfl⟩
theorem FL {f:ak}:SmF (fewS f) where
 len:=Nat.le_trans zR (by decide)
 blk:=fun i hi=>by
  obtain ⟨x,e⟩:=DK hi
  rw [e]
  refine ⟨by simp [fewB];omega,by simp [fewB];omega,by simp [fewB];omega,by simp [fewB];omega,fun j hj=>?_,fun j hj=>?_⟩
  ·rw [aq hj];simp [fewB,fewP];omega
  ·rw [aq hj];simp [fewB,fewI];omega
end Go.Proofs.Ytfelpjfopgiabaa
namespace Go.Lft
open Go
section
variable {po:OP}
theorem Owns.Em {P:Program} {W:View} {h:Heap} {o:Own} {ty:TypeId} {us:List (Nat × Value)} {α:Type} [Rep α] {t:TypeId} {x:Operand} {v:Value} {d:α} {K:Value→Heap→Prop} (w:Owns W h o) (hx:asg us x=v) (hv:Rd W v d)
  (hk : ∀ B h' W',W.le W'→Owns W' h' o→At W' ⟨B,0,none⟩ d→(vw h).le (vw h')→K (.pointer (some ⟨B,0,none⟩)) h'):step P (.box t x) ty us h K:=by
 refine ez hx (hv.mono w.wle) fun h1 hp hle hs _=>?_
 exact hk _ _ _ (aW w.wle) (w.ext hle) (mL (t:=t) (fz:=(0,0)) (by rw [cN (Nat.le_refl _),hp];simp) (hv.mono (aW w.wle))) hle
end
end Go.Lft
namespace Go.Proofs.Ytfelpjfopgiabaa
open Go Go.Lft
abbrev NumD:=Cat (List Int) Q3
section
variable {B D:Nat} {ps:Int} {vb:Value} {l:List Value} {k:Key}
end
end Go.Proofs.Ytfelpjfopgiabaa
namespace Go.Proofs.Ytfelpjfopgiabaa
open Go Go.Lft
section
variable {f:ak} {g:Int→Int}
end
section
variable {g:Int→Int} {x:BlkD} {i k:Nat}
theorem lz {d:BlkD} {p q:PhiD}:cW (cW d i p) i q=cW d i q:=by unfold cW;dsimp only;rw [List.set_set]
theorem yL {d:BlkD} {p:PhiD} (hi:i<d.phis.length):nth (cW d i p).phis i=p:=by unfold cW;dsimp only;rw [aK hi,if_pos rfl]
end
end Go.Proofs.Ytfelpjfopgiabaa
namespace Go.Proofs.Ytfelpjfopgiabaa
open Go Go.Lft
def gOwn (g:Option (Nat × List Value)):Own:=fun k=>if k=(11,1) then g.bind fun x=>bx T.aE x.1 (RawN.mk (n:=1) x.2) else none
section
variable {D:Nat} {l:List Value} {k:Key}
theorem ir (h:k.1<11) {g:Option (Nat × List Value)}:gOwn g k=none:=by
 exact if_neg (by rintro rfl;simp at h)
theorem pj {g:Option (Nat × List Value)}:gOwn (some (D,l)) k=Own.upd (gOwn g) (11,1) (bx T.aE D (RawN.mk (n:=1) l)) k:=by
 by_cases h:k=(11,1)
 ·subst h;rfl
 ·unfold gOwn Own.upd
  simp only [h,if_false]
end
end Go.Proofs.Ytfelpjfopgiabaa
namespace Go.Proofs.Ytfelpjfopgiabaa
open Go Go.Lft
theorem EC {g:ak}:fewS (fewS g)=fewS g:=by
 have hB : ∀ x,fewB (fewB x)=fewB x:=fun x=>by
  have e1:(((x.phis.take 8).map fewP).take 8).map fewP=(x.phis.take 8).map fewP:=by
   rw [List.take_of_length_le (l:=(x.phis.take 8).map fewP) (i:=8) (by simp;omega),List.map_map]
   exact List.map_congr_left fun p _=>by show fewP (fewP p)=fewP p;unfold fewP;simp [List.take_take]
  have e2:(((x.ins.take 40).map fewI).take 40).map fewI=(x.ins.take 40).map fewI:=by
   rw [List.take_of_length_le (l:=(x.ins.take 40).map fewI) (i:=40) (by simp;omega),List.map_map]
   exact List.map_congr_left fun p _=>by show fewI (fewI p)=fewI p;unfold fewI;simp [List.take_take]
  show BlkD.mk _ _ _=BlkD.mk _ _ _
  rw [BlkD.mk.injEq]
  exact ⟨e1,e2,by unfold fewB;simp [List.take_take]⟩
 unfold fewS
 simp only [ak.mk.injEq,true_and]
 rw [List.take_of_length_le (l:=List.map fewB (List.take 9 g.blocks)) (i:=9) (by simp;omega),List.map_map]
 exact List.map_congr_left fun x _=>hB x
theorem pJ {D:Nat} {l:List Value} {k:Key} (h:12≤k.1):gOwn (some (D,l)) k=none:=if_neg (by rintro rfl;simp at h)
end Go.Proofs.Ytfelpjfopgiabaa
namespace Go.Proofs.Ytfelpjfopgiabaa
open Go Go.Lft
def lJ (S:Int→Int) (x:InD):InD:=⟨S x.frm,x.val⟩
structure Mv (s:Nat→Nat) (S:Int→Int) (f g:ak):Prop where
 inv : ∀ c,s (s c)=c
 invS : ∀ x,S (S x)=x
 nat : ∀ c:Nat,S c=s c
 lt : ∀ c,c<f.blocks.length→s c<f.blocks.length
 params:g.params=f.params
 len:g.blocks.length=f.blocks.length
 phn : ∀ c,c<f.blocks.length→(nth g.blocks (s c)).phis.length=(nth f.blocks c).phis.length
 dst : ∀ c i,c<f.blocks.length→i<(nth f.blocks c).phis.length→(nth (nth g.blocks (s c)).phis i).dst=(nth (nth f.blocks c).phis i).dst
 ph : ∀ c i,c<f.blocks.length→i<(nth f.blocks c).phis.length→(nth (nth g.blocks (s c)).phis i).ins.Perm ((nth (nth f.blocks c).phis i).ins.map (lJ S))
 ins : ∀ c,c<f.blocks.length→(nth g.blocks (s c)).ins=(nth f.blocks c).ins
 kind : ∀ c,c<f.blocks.length→(nth g.blocks (s c)).term.kind=(nth f.blocks c).term.kind
 args : ∀ c,c<f.blocks.length→(nth g.blocks (s c)).term.args=(nth f.blocks c).term.args
 to : ∀ c,c<f.blocks.length→(nth g.blocks (s c)).term.to=(nth f.blocks c).term.to.map S
section
variable {s:Nat→Nat} {S:Int→Int} {f g:ak}
theorem Mv.symm (m:Mv s S f g):Mv s S g f where
 inv:=m.inv
 invS:=m.invS
 nat:=m.nat
 lt:=fun c h=>by rw [m.len] at h ⊢;exact m.lt c h
 params:=m.params.symm
 len:=m.len.symm
 phn:=fun c h=>by rw [m.len] at h;have:=m.phn (s c) (m.lt c h);rw [m.inv] at this;exact this.symm
 dst:=fun c i h hi=>by
  rw [m.len] at h
  have h1:=m.phn (s c) (m.lt c h)
  rw [m.inv] at h1
  have:=m.dst (s c) i (m.lt c h) (by omega)
  rw [m.inv] at this;exact this.symm
 ph:=fun c i h hi=>by
  rw [m.len] at h
  have h1:=m.phn (s c) (m.lt c h)
  rw [m.inv] at h1
  have:=(m.ph (s c) i (m.lt c h) (by omega)).map (lJ S)
  rw [m.inv,List.map_map] at this
  have e:lJ S∘lJ S=id:=funext fun x=>by unfold lJ;simp [m.invS]
  rw [e,List.map_id] at this
  exact this.symm
 ins:=fun c h=>by rw [m.len] at h;have:=m.ins (s c) (m.lt c h);rw [m.inv] at this;exact this.symm
 kind:=fun c h=>by rw [m.len] at h;have:=m.kind (s c) (m.lt c h);rw [m.inv] at this;exact this.symm
 args:=fun c h=>by rw [m.len] at h;have:=m.args (s c) (m.lt c h);rw [m.inv] at this;exact this.symm
 to:=fun c h=>by
  rw [m.len] at h
  have:=m.to (s c) (m.lt c h)
  rw [m.inv] at this
  rw [this,List.map_map]
  have e:S∘S=id:=funext fun x=>m.invS x
  rw [e,List.map_id]
theorem Mv.range (m:Mv s S f g):(List.range f.blocks.length).Perm ((List.range f.blocks.length).map s):=by
 have hinj : ∀ a b,s a=s b→a=b:=fun a b h=>by rw [←m.inv a,←m.inv b,h]
 refine (List.perm_ext_iff_of_nodup List.nodup_range ?_).2 fun a=>?_
 ·exact List.pairwise_map.2 (List.nodup_range.imp fun hne e=>hne (hinj _ _ e))
 ·rw [List.mem_range,List.mem_map]
  constructor
  ·exact fun h=>⟨s a,List.mem_range.2 (m.lt a h),m.inv a⟩
  ·rintro ⟨b,hb,rfl⟩
   exact m.lt b (List.mem_range.1 hb)
theorem ny {α β:Type} {x y:α→List β} : ∀ {l:List α},(∀ a∈l,(x a).Perm (y a))→(l.flatMap x).Perm (l.flatMap y)
 | [],_=>.refl _
 | a::l,h=>by
  rw [List.flatMap_cons,List.flatMap_cons]
  exact (h a (List.mem_cons_self ..)).append (ny fun b hb=>h b (List.mem_cons_of_mem _ hb))
theorem Mv.flat (m:Mv s S f g) {β:Type} {x y:Nat→List β} (h : ∀ c,c<f.blocks.length→(y (s c)).Perm (x c)):((List.range g.blocks.length).flatMap y).Perm ((List.range f.blocks.length).flatMap x):=by
 rw [m.len]
 refine (List.Perm.flatMap_right y m.range).trans ?_
 rw [List.flatMap_map]
 exact ny fun c hc=>h c (List.mem_range.1 hc)
theorem ku {β:Type} {x:Th→List β} {f:ak} : ∀ {n:Nat},(thTo f n).flatMap x=(List.range n).flatMap fun b=>(thB f b).flatMap x
 | 0=>rfl
 | n+1=>by rw [eZ,List.flatMap_append,ku,List.range_succ,List.flatMap_append,List.flatMap_singleton]
def rH (l:List Th):List Int:=l.flatMap Th.tks
theorem Mv.thB (m:Mv s S f g) {x:Th→List Int} {c:Nat} (hc:c<f.blocks.length) (hp : ∀ i,i<(nth f.blocks c).phis.length→(x (phiT g (s c) i)).Perm (x (phiT f c i))) (hi : ∀ i,i<(nth f.blocks c).ins.length→(x (insT g (s c) i)).Perm (x (insT f c i))) (he:(x (endT g (s c))).Perm (x (endT f c))) :
  ((Go.Proofs.Ytfelpjfopgiabaa.thB g (s c)).flatMap x).Perm ((Go.Proofs.Ytfelpjfopgiabaa.thB f c).flatMap x):=by
 unfold Go.Proofs.Ytfelpjfopgiabaa.thB
 rw [m.phn c hc,m.ins c hc]
 simp only [List.flatMap_append,List.flatMap_singleton]
 unfold rows
 rw [List.flatMap_map,List.flatMap_map,List.flatMap_map,List.flatMap_map]
 exact ((ny fun i h=>hp i (List.mem_range.1 h)).append (ny fun i h=>hi i (List.mem_range.1 h))).append he
theorem Mv.mks (m:Mv s S f g):(iH (ar g)).Perm (iH (ar f)):=by
 unfold iH ar
 rw [ku,ku]
 refine m.flat fun c hc=>m.thB hc (fun i hi=>?_) (fun i hi=>?_) (.refl _)
 ·show [(nth (nth g.blocks (s c)).phis i).dst].Perm [(nth (nth f.blocks c).phis i).dst]
  rw [m.dst c i hc hi]
 ·show (aU (nth (nth g.blocks (s c)).ins i)).Perm (aU (nth (nth f.blocks c).ins i))
  rw [m.ins c hc]
theorem Mv.phv (m:Mv s S f g) {c i:Nat} (hc:c<f.blocks.length) (hi:i<(nth f.blocks c).phis.length):(phiT g (s c) i).tks.Perm (phiT f c i).tks:=by
 have:=(m.ph c i hc hi).map InD.val
 rw [List.map_map] at this
 exact this
theorem Mv.tks (m:Mv s S f g):(rH (ar g)).Perm (rH (ar f)):=by
 unfold rH ar
 rw [ku,ku]
 refine m.flat fun c hc=>m.thB hc (fun i hi=>m.phv hc hi) (fun i hi=>?_) ?_
 ·show ((nth (nth g.blocks (s c)).ins i).args).Perm ((nth (nth f.blocks c).ins i).args)
  rw [m.ins c hc]
 ·show ((nth g.blocks (s c)).term.args).Perm ((nth f.blocks c).term.args)
  rw [m.args c hc]
theorem wm {t a b:Int}:dV (dV t a) b=dV (dV t b) a:=by
 unfold dV
 cases aY a 0 8191<;>cases aY b 0 8191<;>simp<;>(repeat' split)<;>omega
theorem Mv.top (m:Mv s S f g):topS g=topS f:=by
 rw [xh,xh,m.params]
 exact m.mks.foldl_eq' (fun _ _ _ _ _=>wm) _
theorem vV {l:List Int} {a b:Int}:dJ (dJ l a) b=dJ (dJ l b) a:=by
 have e : ∀ (l:List Int) (n:Int),dJ l n=if aY n 0 ((l.length:Int)-1) then l.set n.toNat (zJ (nth l n.toNat)) else l:=fun _ _=>rfl
 rw [e (dJ l a) b,e (dJ l b) a,qm,qm]
 unfold dJ
 by_cases ha:aY a 0 ((l.length:Int)-1)=true
 ·by_cases hb:aY b 0 ((l.length:Int)-1)=true
  ·simp only [ha,hb,if_true]
   simp only [aY,Bool.and_eq_true,decide_eq_true_eq] at ha hb
   have h1:a.toNat<l.length:=by omega
   have h2:b.toNat<l.length:=by omega
   rw [aK h1,aK h2]
   by_cases q:a.toNat=b.toNat
   ·rw [q]
   ·rw [if_neg q,if_neg (fun c=>q c.symm)]
    exact List.set_comm _ _ q
  ·simp only [ha,hb,if_true];rfl
 ·by_cases hb:aY b 0 ((l.length:Int)-1)=true
  ·simp only [ha,hb,if_true];rfl
  ·simp only [ha,hb];rfl
theorem ud {f:ak}:oG f=(rH (ar f)).foldl dJ (List.replicate (topS f).toNat 0):=by
 unfold oG rH
 generalize List.replicate (topS f).toNat (0:Int)=t
 generalize ar f=l
 induction l generalizing t with
 | nil=>rfl
 | cons a l ih=>rw [List.foldl_cons,List.flatMap_cons,List.foldl_append];exact ih _
theorem Mv.used (m:Mv s S f g):oG g=oG f:=by
 rw [ud,ud,m.top]
 exact m.tks.foldl_eq' (fun _ _ _ _ _=>vV) _
theorem km {val:Int} {w:Int × Int} : ∀ {ns:List Int} {l:WL},(ns.foldl (bw val w) l).length=l.length+ns.countP (fun n=>decide (n=val))
 | [],_=>rfl
 | n::ns,l=>by
  rw [List.foldl_cons,km,List.countP_cons]
  unfold bw
  split
  ·rename_i e;rw [List.length_append,List.length_singleton,if_pos (decide_eq_true e)];omega
  ·rename_i e;rw [if_neg (by rw [decide_eq_false e];exact Bool.false_ne_true)];rfl
theorem pk {val:Int} : ∀ {ts:List Th} {l:WL},(ts.foldl (nT val) l).length=l.length+(iH ts).countP (fun n=>decide (n=val))
 | [],_=>rfl
 | t::ts,l=>by
  rw [List.foldl_cons,pk]
  unfold nT
  rw [km]
  show _=l.length+(List.flatMap Th.mks (t::ts)).countP _
  rw [List.flatMap_cons,List.countP_append]
  show _+(List.flatMap Th.mks ts).countP _=_
  omega
theorem nH {val:Int} : ∀ {ts:List Th} {l:WL},(ts.foldl (lr val) l).length=l.length+(rH ts).countP (fun n=>decide (n=val))
 | [],_=>rfl
 | t::ts,l=>by
  rw [List.foldl_cons,nH]
  unfold lr
  rw [km]
  show _=l.length+(List.flatMap Th.tks (t::ts)).countP _
  rw [List.flatMap_cons,List.countP_append]
  show _+(List.flatMap Th.tks ts).countP _=_
  omega
theorem tx {val:Int} {x:Int × Int} {l:List Th} : ∀ {y:WL},x∈l.foldl (lr val) y↔x∈y∨∃ t∈l,x=(t.blk,t.place)∧val∈t.tks:=by
 induction l with
 | nil=>simp
 | cons t l ih=>
  intro y
  rw [List.foldl_cons,ih,lr,nB]
  simp only [List.mem_cons,exists_eq_or_imp]
  constructor
  ·rintro ((h | h) | h)
   ·exact .inl h
   ·exact .inr (.inl h)
   ·exact .inr (.inr h)
  ·rintro (h | h | h)
   ·exact .inl (.inl h)
   ·exact .inl (.inr h)
   ·exact .inr h
theorem Ae {α:Type} [Inhabited α] {l:List α} {x:α} (h:l.length=1) (hx:x∈l):nth l 0=x:=by
 match l,h with
 | [y],_=>exact (List.mem_singleton.1 hx).symm
theorem oR {f:ak} {v:Int}:ew f v=true↔(iH (ar f)).countP (fun n=>decide (n=v))=1∧(rH (ar f)).countP (fun n=>decide (n=v))=1∧∃ p∈ar f,∃ q∈ar f,v∈p.mks∧v∈q.tks∧0≤p.place∧p.blk=q.blk∧p.place<q.place∧(oO f p).dst=v∧[1,2,4,11,12,13].contains (oO f p).op=true:=by
 unfold ew mg ko
 have l1:=pk (val:=v) (ts:=ar f) (l:=[])
 have l2:=nH (val:=v) (ts:=ar f) (l:=[])
 have m1:=fun x=>pq (val:=v) (x:=x) (l:=ar f) (y:=[])
 have m2:=fun x=>tx (val:=v) (x:=x) (l:=ar f) (y:=[])
 generalize (ar f).foldl (nT v) []=a at l1 m1
 generalize (ar f).foldl (lr v) []=b at l2 m2
 have l1:a.length=_:=l1.trans (Nat.zero_add _)
 have l2:b.length=_:=l2.trans (Nat.zero_add _)
 rw [←l1,←l2]
 clear l1 l2
 unfold jD lE
 simp only [Bool.and_eq_true,Bool.not_eq_true',Bool.or_eq_false_iff,Bool.not_eq_false',decide_eq_true_eq,decide_eq_false_iff_not]
 constructor
 ·rintro ⟨⟨⟨⟨⟨h1,h2⟩,h3⟩,h4⟩,h5⟩,h6,h7⟩
  refine ⟨h1,h2,?_⟩
  rcases (m1 (nth a 0)).1 (bU (by omega)) with h | ⟨p,hp,ep,hvp⟩
  ·cases h
  rcases (m2 (nth b 0)).1 (bU (by omega)) with h | ⟨q,hq,eq,hvq⟩
  ·cases h
  rw [ep] at h3 h4 h5 h6 h7
  rw [eq] at h4 h5
  exact ⟨p,hp,q,hq,hvp,hvq,by show 0≤p.place;have h3:¬p.place<0:=h3;omega,h4,by have h5:¬q.place≤p.place:=h5;omega,h6,h7⟩
 ·rintro ⟨h1,h2,p,hp,q,hq,hvp,hvq,h3,h4,h5,h6,h7⟩
  have ea:=Ae h1 ((m1 (p.blk,p.place)).2 (.inr ⟨p,hp,rfl,hvp⟩))
  have eb:=Ae h2 ((m2 (q.blk,q.place)).2 (.inr ⟨q,hq,rfl,hvq⟩))
  rw [ea,eb]
  exact ⟨⟨⟨⟨⟨h1,h2⟩,by show ¬p.place<0;omega⟩,h4⟩,by show ¬q.place≤p.place;omega⟩,h6,h7⟩
structure Cm (S:Int→Int) (f g:ak) (t t':Th):Prop where
 mem:t'∈ar g
 blk:t'.blk=S t.blk
 place:t'.place=t.place
 mks:t'.mks=t.mks
 tks:t'.tks.Perm t.tks
 ins:0≤t.place→oO g t'=oO f t
theorem Mv.come (m:Mv s S f g) {t:Th} (ht:t∈ar f) : ∃ t',Cm S f g t t':=by
 obtain ⟨c,hc,h⟩:=cU.1 ht
 have hlt:s c<g.blocks.length:=by rw [m.len];exact m.lt c hc
 rcases dw.1 h with ⟨i,hi,rfl⟩ | ⟨i,hi,rfl⟩ | rfl
 ·exact ⟨phiT g (s c) i,cU.2 ⟨s c,hlt,dw.2 (.inl ⟨i,by rw [m.phn c hc];exact hi,rfl⟩)⟩,(m.nat c).symm,rfl,by show [_]=[_];rw [m.dst c i hc hi],m.phv hc hi,fun h=>absurd h (by show ¬(0:Int)≤-1-(i:Int);omega)⟩
 ·refine ⟨insT g (s c) i,cU.2 ⟨s c,hlt,dw.2 (.inr (.inl ⟨i,by rw [m.ins c hc];exact hi,rfl⟩))⟩,(m.nat c).symm,rfl,by show aU _=aU _;rw [m.ins c hc],by show List.Perm (nth (nth g.blocks (s c)).ins i).args _;rw [m.ins c hc];exact .refl _,fun _=>?_⟩
  show nth (nth g.blocks ((s c:Nat):Int).toNat).ins ((i:Nat):Int).toNat=nth (nth f.blocks ((c:Nat):Int).toNat).ins ((i:Nat):Int).toNat
  rw [Int.toNat_natCast,Int.toNat_natCast,Int.toNat_natCast,m.ins c hc]
 ·refine ⟨endT g (s c),cU.2 ⟨s c,hlt,dw.2 (.inr (.inr rfl))⟩,(m.nat c).symm,by show (((nth g.blocks (s c)).ins.length:Nat):Int)=_;rw [m.ins c hc];rfl,rfl,by show List.Perm (nth g.blocks (s c)).term.args _;rw [m.args c hc];exact .refl _,fun _=>?_⟩
  show nth (nth g.blocks ((s c:Nat):Int).toNat).ins (((nth g.blocks (s c)).ins.length:Nat):Int).toNat=nth (nth f.blocks ((c:Nat):Int).toNat).ins (((nth f.blocks c).ins.length:Nat):Int).toNat
  rw [Int.toNat_natCast,Int.toNat_natCast,m.ins c hc];rfl
theorem Mv.EX (m:Mv s S f g) {v:Int} (h:ew f v=true):ew g v=true:=by
 obtain ⟨h1,h2,p,hp,q,hq,hvp,hvq,h3,h4,h5,h6,h7⟩:=oR.1 h
 obtain ⟨p',cp⟩:=m.come hp
 obtain ⟨q',cq⟩:=m.come hq
 refine oR.2 ⟨by rw [m.mks.countP_eq];exact h1,by rw [m.tks.countP_eq];exact h2,p',cp.mem,q',cq.mem,by rw [cp.mks];exact hvp,cq.tks.mem_iff.2 hvq,by rw [cp.place];exact h3,by rw [cp.blk,cq.blk,h4],by rw [cp.place,cq.place];exact h5,?_,?_⟩
 ·rw [cp.ins h3];exact h6
 ·rw [cp.ins h3];exact h7
theorem Mv.fold (m:Mv s S f g) {v:Int}:ew g v=ew f v:=by
 rw [Bool.eq_iff_iff]
 exact ⟨m.symm.EX,m.EX⟩
theorem Mv.rng (m:Mv s S f g) {x:Int} (h:0≤x∧x<f.blocks.length):S x=((s x.toNat:Nat):Int)∧0≤S x∧S x<f.blocks.length:=by
 have e:=m.nat x.toNat
 rw [show ((x.toNat:Nat):Int)=x by omega] at e
 have:=m.lt x.toNat (by omega)
 exact ⟨e,by omega,by omega⟩
theorem Mv.re (m:Mv s S f g) (h0:s 0=0) {a:Int} {c:Nat} (h:Re (ofG f.blocks) a c):Re (ofG g.blocks) (S a) (s c):=by
 have hS0:S 0=0:=by have:=m.nat 0;rw [h0] at this;exact this
 have hinj : ∀ x y,S x=S y→x=y:=fun x y e=>by rw [←m.invS x,←m.invS y,e]
 induction h with
 | root h hne=>
  rw [h0]
  exact .root (by rw [gy,m.len];rw [gy] at h;exact h) fun e=>hne (hinj _ _ (e.trans hS0.symm))
 | @step x c hx he hne ih=>
  obtain ⟨hr,hm⟩:=gk.1 he
  rw [Int.toNat_natCast] at hm
  refine .step ih (gk.2 ⟨?_,?_⟩) fun e=>hne (hinj _ _ ((m.nat c).trans e))
  ·have h1:=m.lt x (by omega)
   have h2:=m.lt c (by omega)
   rw [m.len];omega
  ·rw [Int.toNat_natCast,m.to x (by omega),←m.nat c]
   exact List.mem_map_of_mem hm
theorem Mv.pH (m:Mv s S f g) (h0:s 0=0) {v c p:Int} (hc:0≤c∧c<f.blocks.length) (h:gN f v c p):gN g v (S c) p:=by
 have hinj : ∀ x y,S x=S y→x=y:=fun x y e=>by rw [←m.invS x,←m.invS y,e]
 rcases h with h | ⟨t,ht,hv,h⟩
 ·exact .inl (by rw [m.params];exact h)
 ·obtain ⟨t',ct⟩:=m.come ht
  refine .inr ⟨t',ct.mem,by rw [ct.mks];exact hv,?_⟩
  rw [ct.blk,ct.place]
  rcases h with ⟨rfl,h⟩ | ⟨h1,h2⟩
  ·exact .inl ⟨rfl,h⟩
  ·refine .inr ⟨fun e=>h1 (hinj _ _ e),fun r=>h2 ?_⟩
   have:=m.symm.re h0 r
   rw [m.invS,(m.rng hc).1,Int.toNat_natCast,m.inv] at this
   exact this
theorem sC {f:ak} : ∀ {n:Nat},mj f n=f.blocks.length+((List.range n).flatMap fun b=>List.replicate ((nth f.blocks b).phis.length+(nth f.blocks b).ins.length) ()).length
 | 0=>rfl
 | n+1=>by
  rw [List.range_succ,List.flatMap_append,List.flatMap_singleton,List.length_append,List.length_replicate]
  show mj f n+_+_=_
  rw [sC];omega
theorem Mv.cnt (m:Mv s S f g):mj g g.blocks.length=mj f f.blocks.length:=by
 rw [sC,sC,(m.flat (x:=fun b=>List.replicate ((nth f.blocks b).phis.length+(nth f.blocks b).ins.length) ()) (y:=fun b=>List.replicate ((nth g.blocks b).phis.length+(nth g.blocks b).ins.length) ()) fun c hc=>by rw [m.phn c hc,m.ins c hc]).length_eq,m.len]
def kX (l:List InD):Prop:=l.Pairwise fun x y=>x.frm≤y.frm
theorem Cj : ∀ {n:Nat},(List.range n).Pairwise (· < ·):=List.pairwise_lt_range
theorem s7 {f:ak} {c:Int}:(az f c).Pairwise (· < ·):=by
 unfold az
 rw [lF]
 refine List.pairwise_map.2 (List.Pairwise.filter _ (Cj.imp fun h=>by omega))
theorem Mv.may (m:Mv s S f g) (h0:s 0=0) (mb:jK f) (hr : ∀ c i,c<g.blocks.length→i<(nth g.blocks c).phis.length→kX (nth (nth g.blocks c).phis i).ins):jK g:=by
 have hinj : ∀ x y,S x=S y→x=y:=fun x y e=>by rw [←m.invS x,←m.invS y,e]
 have hS0:S 0=0:=by have:=m.nat 0;rw [h0] at this;exact this
 have back : ∀ c,c<g.blocks.length→∃ d,d<f.blocks.length∧c=s d:=fun c hc=>⟨s c,by rw [m.len] at hc;exact m.lt c hc,(m.inv c).symm⟩
 refine ⟨by rw [m.params];exact mb.params,by rw [m.len];exact mb.blocks,by rw [m.cnt];exact mb.cnt,fun t ht=>?_,m.mks.nodup_iff.2 mb.nodup,fun b hb=>?_,fun t ht hp v hv=>?_,fun b i hb hi=>?_⟩
 ·obtain ⟨c,hc,h⟩:=cU.1 ht
  obtain ⟨d,hd,rfl⟩:=back c hc
  rcases dw.1 h with ⟨i,hi,rfl⟩ | ⟨i,hi,rfl⟩ | rfl
  ·rw [m.phn d hd] at hi
   refine wV fun n hn=>?_
   have hn:n∈[(nth (nth g.blocks (s d)).phis i).dst]:=hn
   rw [m.dst d i hd hi] at hn
   rw [m.params]
   exact (mb.phiG hd hi).mks n hn
  ·rw [m.ins d hd] at hi
   have gd:=mb.insG hd hi
   refine xa (by rw [m.ins d hd];exact hi) (by rw [m.ins d hd];exact gd.2) fun n hn=>?_
   have hn:n∈aU (nth (nth g.blocks (s d)).ins i):=hn
   rw [m.ins d hd] at hn
   rw [m.params]
   exact gd.1.mks n hn
  ·have gd:=mb.endG hd
   refine sN ?_ fun n hn=>?_
   ·have:=gd.1
    unfold jg at this ⊢
    rw [m.kind d hd,m.args d hd,m.to d hd,List.length_map];exact this
   ·rw [m.to d hd] at hn
    obtain ⟨k,hk,rfl⟩:=List.mem_map.1 hn
    have:=gd.2 k hk
    have h2:=m.rng (x:=k) (by omega)
    have h3:S k≠0:=fun e=>by have:=hinj k 0 (e.trans hS0.symm);omega
    rw [m.len];omega
 ·obtain ⟨d,hd,rfl⟩:=back b hb
  have:=m.re h0 (mb.way d hd)
  have e:S (-1)=-1∨S (-1)<0∨(f.blocks.length:Int)≤S (-1):=by
   rcases Int.lt_or_le (S (-1)) 0 with h | h
   ·exact .inr (.inl h)
   ·rcases Int.lt_or_le (S (-1)) f.blocks.length with h2 | h2
    ·have:=(m.rng ⟨h,h2⟩).2
     rw [m.invS] at this;omega
    ·exact .inr (.inr h2)
  have key : ∀ {x:Nat},Re (ofG g.blocks) (S (-1)) x→Re (ofG g.blocks) (-1) x:=fun h=>by
   induction h with
   | root h _=>exact .root h (by omega)
   | step _ he _ ih=>exact .step ih he (by omega)
  exact key this
 ·obtain ⟨t',ct⟩:=m.symm.come ht
  have hb:0≤t'.blk∧t'.blk<f.blocks.length:=by
   obtain ⟨c,hc,h⟩:=cU.1 ct.mem
   rcases dw.1 h with ⟨i,_,e⟩ | ⟨i,_,e⟩ | e<;>rw [e]<;>exact ⟨Int.natCast_nonneg _,Int.ofNat_lt.2 hc⟩
  have:=m.pH h0 hb (mb.takes t' ct.mem (by rw [ct.place];exact hp) v (ct.tks.mem_iff.2 hv))
  rw [ct.blk,m.invS,ct.place] at this
  exact this
 ·obtain ⟨d,hd,rfl⟩:=back b hb
  have hi2:=hi
  rw [m.phn d hd] at hi2
  obtain ⟨k1,k2,k3⟩:=mb.phi d i hd hi2
  have pm:=m.ph d i hd hi2
  have hs:=hr (s d) i hb hi
  have pf:((nth (nth g.blocks (s d)).phis i).ins.map InD.frm).Perm ((az f d).map S):=by
   have:=pm.map InD.frm
   rw [List.map_map] at this
   rw [←k2,List.map_map]
   exact this
  refine ⟨?_,?_,fun p hp=>?_⟩
  ·rcases Nat.eq_zero_or_pos (s d) with h | h
   ·have:d=0:=by rw [←m.inv d,h,h0]
    omega
   ·exact h
  ·refine List.Perm.eq_of_pairwise (le:=fun a b:Int=>a≤b) (fun a b _ _ h1 h2=>by omega) (List.pairwise_map.2 hs) (s7.imp fun h=>Int.le_of_lt h) (pf.trans ?_)
   refine (List.perm_ext_iff_of_nodup ?_ (s7.imp fun h=>Int.ne_of_lt h)).2 fun x=>?_
   ·exact List.pairwise_map.2 (s7.imp fun h e=>by have:=hinj _ _ e;omega)
   ·rw [List.mem_map,kT]
    constructor
    ·rintro ⟨y,hy,rfl⟩
     obtain ⟨h1,h2⟩:=kT.1 hy
     have r:=m.rng h1
     refine ⟨by rw [m.len];exact r.2,?_⟩
     rw [r.1,Int.toNat_natCast,m.to _ (by omega),←m.nat d]
     exact List.mem_map_of_mem h2
    ·rintro ⟨h1,h2⟩
     rw [m.len] at h1
     have r:=m.rng h1
     refine ⟨S x,kT.2 ⟨r.2,?_⟩,m.invS x⟩
     have h3:=m.symm.to x.toNat (by rw [m.len];omega)
     rw [r.1,Int.toNat_natCast,h3]
     have:=List.mem_map_of_mem (f:=S) h2
     rw [m.nat,m.inv] at this
     exact this
  ·obtain ⟨q,hq,rfl⟩:=List.mem_map.1 (pm.mem_iff.1 hp)
   have hf:=(kT.1 (show q.frm∈az f d from by rw [←k2];exact List.mem_map_of_mem hq)).1
   have:=m.pH h0 hf (k3 q hq)
   have e:oq g (S q.frm)=oq f q.frm:=by
    unfold oq
    rw [(m.rng hf).1,Int.toNat_natCast,m.ins _ (by omega)]
   show gN g q.val (S q.frm) (oq g (S q.frm))
   rw [e];exact this
end
end Go.Proofs.Ytfelpjfopgiabaa
namespace Go.Proofs.Ytfelpjfopgiabaa
open Go Go.Lft
def swI (a b n:Int):Int:=if n=a then b else if n=b then a else n
def swN (a b n:Nat):Nat:=if n=a then b else if n=b then a else n
theorem Dt {a b n:Int}:swI a b (swI a b n)=n:=by unfold swI;split<;>split<;>(try split)<;>omega
theorem qJ {a b n:Nat}:swN a b (swN a b n)=n:=by unfold swN;split<;>split<;>(try split)<;>omega
theorem Eu {a b n:Nat}:swI (a:Int) (b:Int) (n:Int)=((swN a b n:Nat):Int):=by unfold swI swN;split<;>split<;>(try split)<;>(try split)<;>omega
theorem uS {a b n c:Nat} (ha:a<c) (hb:b<c) (hn:n<c):swN a b n<c:=by unfold swN;split<;>(try split)<;>omega
def swF (a b:Nat) (f:ak):ak:=⟨f.params,rows (fun c=>nth f.blocks (swN a b c)) f.blocks.length⟩
structure PhR (S:Int→Int) (p q:PhiD):Prop where
 dst:q.dst=p.dst
 perm:q.ins.Perm (p.ins.map (lJ S))
 ris:kX q.ins
structure BlR (S:Int→Int) (x y:BlkD):Prop where
 ins:y.ins=x.ins
 term:y.term={ x.term with to:=x.term.to.map S }
 len:y.phis.length=x.phis.length
 ph : ∀ i,i<x.phis.length→PhR S (nth x.phis i) (nth y.phis i)
structure FuR (S:Int→Int) (F:ak) (n:Nat) (g:ak):Prop where
 params:g.params=F.params
 len:g.blocks.length=F.blocks.length
 old : ∀ c,n≤c→nth g.blocks c=nth F.blocks c
 new : ∀ c,c<F.blocks.length→c<n→BlR S (nth F.blocks c) (nth g.blocks c)
theorem FuR.zero {S:Int→Int} {F:ak}:FuR S F 0 F:=⟨rfl,rfl,fun _ _=>rfl,fun _ _ h=>absurd h (Nat.not_lt_zero _)⟩
theorem FuR.succ {S:Int→Int} {F g:ak} {n:Nat} (r:FuR S F n g) (hn:n<F.blocks.length) {y:BlkD} (h:BlR S (nth F.blocks n) y):FuR S F (n+1) (a7 g n y):=by
 have hl:=r.len
 have hs:=fun c=>lI (f:=g) (b:=n) (d:=y) (by omega) c
 refine ⟨r.params,by rw [jS];exact r.len,fun c hc=>?_,fun c hc hcn=>?_⟩
 ·rw [hs,if_neg (by omega)];exact r.old c (by omega)
 ·rw [hs]
  split
  ·rename_i e;subst e;exact h
  ·exact r.new c hc (by omega)
theorem FuR.mv {f g:ak} {a b:Nat} (ha:a<f.blocks.length) (hb:b<f.blocks.length) (r:FuR (swI a b) (swF a b f) f.blocks.length g):Mv (swN a b) (swI a b) f g∧∀ c i,c<g.blocks.length→i<(nth g.blocks c).phis.length→kX (nth (nth g.blocks c).phis i).ins:=by
 have hl:(swF a b f).blocks.length=f.blocks.length:=by simp [swF]
 have hn : ∀ c,c<f.blocks.length→nth (swF a b f).blocks c=nth f.blocks (swN a b c):=fun c hc=>dq hc
 have hb2 : ∀ c,c<f.blocks.length→BlR (swI a b) (nth f.blocks c) (nth g.blocks (swN a b c)):=fun c hc=>by
  have h:=uS ha hb hc
  have:=r.new (swN a b c) (by omega) h
  rw [hn _ h,qJ] at this
  exact this
 refine ⟨⟨fun c=>qJ,fun x=>Dt,fun c=>Eu,fun c h=>uS ha hb h,r.params,r.len.trans hl,fun c h=>(hb2 c h).len,fun c i h hi=>((hb2 c h).ph i hi).dst,fun c i h hi=>((hb2 c h).ph i hi).perm,fun c h=>(hb2 c h).ins,fun c h=>by rw [(hb2 c h).term],fun c h=>by rw [(hb2 c h).term],fun c h=>by rw [(hb2 c h).term]⟩,fun c i h hi=>?_⟩
 have hc:c<f.blocks.length:=by rw [r.len,hl] at h;exact h
 have q:=r.new c (by omega) hc
 exact (q.ph i (by rw [←q.len];exact hi)).ris
theorem Mv.sm {s:Nat→Nat} {S:Int→Int} {f g:ak} (m:Mv s S f g) (sm:SmF f):SmF g:=by
 refine ⟨by rw [m.len];exact sm.len,fun c hc=>?_⟩
 rw [m.len] at hc
 have hc2:=m.lt c hc
 have q:=sm.blk (s c) hc2
 have h1:=m.phn (s c) hc2
 have h2:=m.ins (s c) hc2
 have h3:=m.args (s c) hc2
 have h4:=m.to (s c) hc2
 have h5:=fun i hi=>(m.ph (s c) i hc2 hi).length_eq
 rw [m.inv] at h1 h2 h3 h4 h5
 refine ⟨by rw [h1];exact q.phis,by rw [h2];exact q.ins,by rw [h3];exact q.args,by rw [h4,List.length_map];exact q.to,fun k hk=>?_,fun k hk=>?_⟩
 ·rw [h1] at hk
  rw [h5 k hk,List.length_map];exact q.phi k hk
 ·rw [h2] at hk ⊢;exact q.inn k hk
structure Way (A B:List InD) (x:InD):Prop where
 ris:kX (A++B)
 gt : ∀ y∈B,x.frm<y.frm
theorem Way.done {A B:List InD} {x:InD} (w:Way A B x) (h : ∀ y,A.getLast? = some y→y.frm≤x.frm):kX (A++x::B):=by
 obtain ⟨r,g⟩:=w
 have ra:=List.pairwise_append.1 r
 refine List.pairwise_append.2 ⟨ra.1,List.pairwise_cons.2 ⟨fun y hy=>Int.le_of_lt (g y hy),ra.2.1⟩,fun y hy z hz=>?_⟩
 rcases List.mem_cons.1 hz with rfl | hz
 ·rcases A.eq_nil_or_concat with e | ⟨A',l,e⟩
  ·subst e;cases hy
  ·rw [List.concat_eq_append] at e
   subst e
   have hl:=h l (by simp)
   rcases List.mem_append.1 hy with hy | hy
   ·have:=(List.pairwise_append.1 ra.1).2.2 y hy l (List.mem_singleton.2 rfl)
    omega
   ·rw [List.mem_singleton.1 hy];exact hl
 ·exact ra.2.2 y hy z hz
theorem Way.step {A B:List InD} {x y:InD} (w:Way (A++[y]) B x) (h:x.frm<y.frm):Way A (y::B) x:=
 ⟨by have:=w.ris;rw [List.append_assoc] at this;exact this,fun z hz=>by
  rcases List.mem_cons.1 hz with rfl | hz
  ·exact h
  ·exact w.gt z hz⟩
theorem Way.start {A:List InD} {x:InD} (r:kX A):Way A [] x:=⟨by rw [List.append_nil];exact r,fun y hy=>by cases hy⟩
open Classical in
/-- Keys with blocks' numbers changed. -/
noncomputable def swK (K:Nat) (s:Nat→Nat) (k:Key):Key:=
 if K+1≤k.1∧k.1≤K+4 then (k.1,s k.2) else if h:(k.1=K+5∨k.1=K+6)∧∃ q:Nat × Nat,k.2=pr q.1 q.2 then (k.1,pr (s (Classical.choose h.2).1) (Classical.choose h.2).2) else k
section
variable {K:Nat} {s:Nat→Nat}
theorem nm {j b:Nat} (h:1≤j∧j≤4):swK K s (K+j,b)=(K+j,s b):=by
 unfold swK
 rw [if_pos (by constructor<;>simp<;>omega)]
theorem vv {j b i:Nat} (h:j=5∨j=6):swK K s (K+j,pr b i)=(K+j,pr (s b) i):=by
 unfold swK
 have hx:((K+j=K+5∨K+j=K+6)∧∃ q:Nat × Nat,pr b i=pr q.1 q.2):=⟨by omega,(b,i),rfl⟩
 rw [if_neg (by simp;omega),dif_pos hx]
 have:=Classical.choose_spec hx.2
 have e:=wG this
 rw [←e.1,←e.2]
theorem sv {k:Key} (h1:¬(K+1≤k.1∧k.1≤K+4)) (h2:¬((k.1=K+5∨k.1=K+6)∧∃ q:Nat × Nat,k.2=pr q.1 q.2)):swK K s k=k:=by
 unfold swK
 rw [if_neg h1,dif_neg h2]
theorem Ab (hs : ∀ c,s (s c)=c) (k:Key):swK K s (swK K s k)=k:=by
 obtain ⟨k1,k2⟩:=k
 by_cases h1:K+1≤k1∧k1≤K+4
 ·obtain ⟨j,rfl⟩ : ∃ j,k1=K+j:=⟨k1-K,by omega⟩
  rw [nm (by omega),nm (by omega),hs]
 ·by_cases h2:(k1=K+5∨k1=K+6)∧∃ q:Nat × Nat,k2=pr q.1 q.2
  ·obtain ⟨h3,⟨b,i⟩,rfl⟩:=h2
   obtain ⟨j,rfl⟩ : ∃ j,k1=K+j:=⟨k1-K,by omega⟩
   dsimp only
   rw [vv (by omega),vv (by omega),hs]
  ·have e:=sv (K:=K) (s:=s) (k:=(k1,k2)) h1 h2
   rw [e,e]
theorem Owns.perm {W:View} {h:Heap} {o:Own} (w:Owns W h o) {π:Key→Key} (hπ : ∀ a b,π a=π b→a=b):Owns W h (fun k=>o (π k)):=
 ⟨w.wle,fun k i hk=>w.own (π k) i hk,fun k i hk=>w.av (π k) i hk,fun k k' i i' b hk hk' hb hb'=>hπ _ _ (w.dj (π k) (π k') i i' b hk hk' hb hb')⟩
end
theorem FnO.swap {K:Nat} {o:Own} {vb:Value} {V:Nat→Bv} {f:ak} {a b:Nat} {W:View} {h:Heap} (g:FnO K o vb V f) (ha:a<f.blocks.length) (hb:b<f.blocks.length) {x y:BkO} (hx:x=bkO (V b) (nth f.blocks b)) (hy:y=bkO (V a) (nth f.blocks a))
  (w:Owns W h ((o.upd (K,0) (it T.al vb ((rows (fun c=>bkO (V c) (nth f.blocks c)) f.blocks.length).set a x))).upd (K,0) (it T.al vb (((rows (fun c=>bkO (V c) (nth f.blocks c)) f.blocks.length).set a x).set b y)))) :
  ∃ o',Owns W h o'∧FnO K o' vb (fun c=>V (swN a b c)) (swF a b f)∧∀ k:Key,(k.1<K∨K+6<k.1)→o' k=o k:=by
 have hinj : ∀ p q:Key,swK K (swN a b) p=swK K (swN a b) q→p=q:=fun p q e=>by rw [←Ab (fun _=>qJ) p,←Ab (fun _=>qJ) q,e]
 refine ⟨_,Owns.perm w hinj,⟨?_,fun c hc=>?_⟩,fun k hk=>?_⟩
 ·show Own.upd _ _ _ (swK K (swN a b) (K,0))=_
  rw [sv (by simp) (by simp),Own.ag]
  have hl:(swF a b f).blocks.length=f.blocks.length:=by simp [swF]
  rw [hl]
  congr 1
  refine List.ext_getElem (by simp) fun c h1 h2=>?_
  have hc:c<f.blocks.length:=by simpa using h2
  have e:nth (swF a b f).blocks c=nth f.blocks (swN a b c):=dq hc
  rw [List.getElem_set,gJ,e]
  split
  ·rename_i q
   subst q
   rw [hy]
   have:swN a b b=a:=by unfold swN;split<;>simp_all
   rw [this]
  ·rename_i q
   rw [List.getElem_set,gJ]
   split
   ·rename_i q2
    subst q2
    rw [hx]
    have:swN a b a=b:=by unfold swN;simp
    rw [this]
   ·rename_i q2
    have:swN a b c=c:=by unfold swN;rw [if_neg (fun e=>q2 e.symm),if_neg (fun e=>q e.symm)]
    rw [this]
 ·have hc:c<f.blocks.length:=by simpa [swF] using hc
  have e:nth (swF a b f).blocks c=nth f.blocks (swN a b c):=dq hc
  have q:=g.bo (swN a b c) (uS ha hb hc)
  rw [e]
  have far : ∀ k:Key,k.1≠K→Own.upd (o.upd (K,0) (it T.al vb ((rows (fun c=>bkO (V c) (nth f.blocks c)) f.blocks.length).set a x))) (K,0) (it T.al vb (((rows (fun c=>bkO (V c) (nth f.blocks c)) f.blocks.length).set a x).set b y)) k=o k:=fun k hk=>by
   rw [Own.ab (by rintro rfl;exact hk rfl),Own.ab (by rintro rfl;exact hk rfl)]
  refine ⟨?_,?_,?_,?_,fun i hi=>?_,fun i hi=>?_⟩
  ·show Own.upd _ _ _ (swK K (swN a b) (K+1,c))=_
   rw [nm (by omega),far _ (by simp)];exact q.phis
  ·show Own.upd _ _ _ (swK K (swN a b) (K+2,c))=_
   rw [nm (by omega),far _ (by simp)];exact q.ins
  ·show Own.upd _ _ _ (swK K (swN a b) (K+3,c))=_
   rw [nm (by omega),far _ (by simp)];exact q.args
  ·show Own.upd _ _ _ (swK K (swN a b) (K+4,c))=_
   rw [nm (by omega),far _ (by simp)];exact q.to
  ·show Own.upd _ _ _ (swK K (swN a b) (K+5,pr c i))=_
   rw [vv (by omega),far _ (by simp)];exact q.pin i hi
  ·show Own.upd _ _ _ (swK K (swN a b) (K+6,pr c i))=_
   rw [vv (by omega),far _ (by simp)];exact q.iar i hi
 ·show Own.upd _ _ _ (swK K (swN a b) k)=_
  rw [sv (by omega) (by rintro ⟨h,_⟩;omega),Own.ab (by rintro rfl;dsimp only at hk;omega),Own.ab (by rintro rfl;dsimp only at hk;omega)]
end Go.Proofs.Ytfelpjfopgiabaa
namespace Go.Proofs.Ytfelpjfopgiabaa
open Go Go.Lft
theorem rC {n a b:Int} {h:Heap}:aI Try.prog N.dB #[.int .i64 n,.int .i64 a,.int .i64 b] h (fun u h'=>u = .int .i64 (swI a b n)∧h'=h):=by
 refine aA (args:=[.int .i64 n,.int .i64 a,.int .i64 b]) follows F.dB E.dB (Nat.le_of_ble_eq_true (by kernel_rfl)) fun K hK=>?_
 simp [L.dB]
 exact ⟨fun h1=>hK _ _ ⟨by unfold swI;rw [if_pos h1],rfl⟩,fun h1=>⟨fun h2=>hK _ _ ⟨by unfold swI;rw [if_neg h1,if_pos h2],rfl⟩,fun h2=>hK _ _ ⟨by unfold swI;rw [if_neg h1,if_neg h2],rfl⟩⟩⟩
theorem BB {a b n:Int} (h:I64 n) (ha:I64 a) (hb:I64 b):I64 (swI a b n):=by
 unfold swI
 split
 ·exact hb
 ·split
  ·exact ha
  ·exact h
theorem wP {d:BlkD} {i:Nat} (h:i<d.phis.length):cW d i (nth d.phis i)=d:=by
 unfold cW
 rw [aq h,List.set_getElem_self h]
structure PhU (S:Int→Int) (x:BlkD) (n:Nat) (d:BlkD):Prop where
 ins:d.ins=x.ins
 term:d.term=x.term
 len:d.phis.length=x.phis.length
 old : ∀ i,n≤i→nth d.phis i=nth x.phis i
 new : ∀ i,i<x.phis.length→i<n→PhR S (nth x.phis i) (nth d.phis i)
theorem PhU.zero {S:Int→Int} {x:BlkD}:PhU S x 0 x:=⟨rfl,rfl,rfl,fun _ _=>rfl,fun _ _ h=>absurd h (Nat.not_lt_zero _)⟩
theorem PhU.succ {S:Int→Int} {x d:BlkD} {n:Nat} (u:PhU S x n d) (hn:n<x.phis.length) {p:PhiD} (h:PhR S (nth x.phis n) p):PhU S x (n+1) (cW d n p):=by
 have hl:(cW d n p).phis.length=d.phis.length:=List.length_set
 have hs : ∀ i,i<d.phis.length→nth (cW d n p).phis i=if n=i then p else nth d.phis i:=fun i hi=>aK hi
 refine ⟨u.ins,u.term,hl.trans u.len,fun i hi=>?_,fun i hi hin=>?_⟩
 ·rcases Nat.lt_or_ge i d.phis.length with h | h
  ·rw [hs i h,if_neg (by omega)];exact u.old i (by omega)
  ·rw [aV (by rw [hl];exact h),aV (by rw [←u.len];exact h)]
 ·rw [hs i (by rw [u.len];exact hi)]
  split
  ·rename_i e;subst e;exact h
  ·exact u.new i hi (by omega)
theorem PhU.bl {S:Int→Int} {x d:BlkD} (u:PhU S x x.phis.length d):(d.ins=x.ins)∧d.term=x.term∧d.phis.length=x.phis.length∧∀ i,i<x.phis.length→PhR S (nth x.phis i) (nth d.phis i):=
 ⟨u.ins,u.term,u.len,fun i hi=>u.new i hi hi⟩
set_option maxHeartbeats 4000000 in
theorem tz {x:NumD} {a0 b0:Int} {vx:Value} {h:Heap} (hx:Rd (vw h) vx x) :
  aI Try.prog N.aH #[vx,.int .i64 a0,.int .i64 b0] h (fun u h'=>u = .bool true∧(vw h).le (vw h')):=by
 refine aA (args:=[vx,.int .i64 a0,.int .i64 b0]) follows F.aH E.aH (Nat.le_of_ble_eq_true (by kernel_rfl)) fun K hK=>?_
 dsimp only [L.aH]
 refine aa fun z hz=>?_
 simp
 refine (Owns.start (h:=h) (View.le_refl (vw h))).Em (d:=x) rfl hx fun X h2 W2 hW2 w2 hat hle2=>?_
 obtain ⟨hal,haq⟩:=hat.cat
 obtain ⟨vl,cl,sl⟩:=hal.list
 obtain ⟨uq,huq,hqr⟩:=haq.an rfl
 obtain ⟨rfl,i0,i1,i2⟩:=Dr hqr
 have haq1 : ∀ K:View,W2.le K→Un.ev K (.an 3) (.pointer (some ⟨X,1,none⟩))=some (.agg #[.int .i64 x.b.a,.int .i64 x.b.b.a,.int .i64 x.b.b.b]):=fun K hK=>by
  have:=ck (ρ:=fun _=>none) (e:=.un (.an 3) (.con (.pointer (some ⟨X,1,none⟩)))) hK (by simpa using (show Un.ev W2 (.an 3) (.pointer (some ((⟨X,0,none⟩:Addr).add 1)))=_ from huq))
  simpa using this
 rw [hz];clear hz z
 refine aa fun z hz=>?_
 simp
 refine aj (by kernel_rfl) C7 ?_
 rintro _ h5 ⟨rfl,hle3⟩
 have w5:Owns W2 h5 (gOwn none):=(w2.ext' hle3).congr fun k=>by unfold gOwn;rw [Option.bind_none];split<;>rfl
 rw [hz];clear hz z
 refine aa fun z hz=>?_
 have fin : ∀ (D:Nat) (W8:View) (h8:Heap) (vb:Value) (f:ak) (tl:Env),W2.le W8→Owns W8 h8 (gOwn (some (D,[.int .i64 f.params,vb])))→Rd W8 (.agg #[.int .i64 f.params,vb]) f→(∃ g c,TF c g∧f=fewS g)→
   LC.wp Try.prog z (dG [E.tmp 6] K) ((0,vx)::(1,.int .i64 a0)::(2,.int .i64 b0)::(3,.pointer (some ⟨X,0,none⟩))::(6,.bool false)::(7,.bool true)::(8,.pointer (some ⟨D,0,none⟩))::tl) h8:=by
  rintro D W8 h8 vb f tl hW8 w8 hr8 ⟨g0,c0,tf0,hf⟩
  have sm:SmF f:=by rw [hf];exact FL
  have ff:fewS f=f:=by rw [hf];exact EC
  have fl:f.blocks.length≤9:=by rw [hf];exact zR
  clear hf tf0 g0
  have sb:SlRd W8 vb f.blocks:=by
   obtain ⟨vb',e,_,sb⟩:=sD hr8
   simp at e
   subst e;exact sb
  have hle8:(vw h).le (vw h8):=View.le_trans hW2 (View.le_trans hW8 w8.wle)
  rw [hz];clear hz z
  refine aa fun z hz=>?_
  have cD : ∀ {W:View} {k:Heap} {o:Own},Owns W k o→o (11,1)=bx T.aE D (RawN.mk (n:=1) [.int .i64 f.params,vb])→Un.ev (vw k) (.an 2) (.pointer (some ⟨D,0,none⟩))=some (.agg #[.int .i64 f.params,vb])∧ao (vw k) ⟨D,1,none⟩=some vb:=fun w e=>
   ⟨w.dE (k:=(11,1)) (n:=1) e,w.raw (k:=(11,1)) (e:=T.aE) (n:=1) e (i:=1) (by decide)⟩
  have c1:=(cD w8 rfl).2
  have s8:=sb.mono w8.wle
  by_cases hlen:(f.blocks.length:Int)<3
  ·simp [c1,s8.len,hlen,ae,af]
   exact hK _ _ ⟨rfl,hle8⟩
  simp [c1,s8.len,hlen,ae,af]
  rw [hz];clear hz z
  refine aa fun z hz=>?_
  have and16' : ∀ x:Int,∃ r:Nat,Bn.ev (.bits .and) (.int .i64 x) (.int .i64 65535)=some (.int .i64 r)∧IntKind.i64.wrap (1+(r:Int).tmod ((f.blocks.length:Int)-1))=((1+r % (f.blocks.length-1):Nat):Int):=fun x=>by
   obtain ⟨r,e,l⟩:=GL (x:=x)
   refine ⟨r,e,?_⟩
   have h1:(f.blocks.length:Int)-1=((f.blocks.length-1:Nat):Int):=by omega
   have h2:=Nat.mod_lt r (show 0<f.blocks.length-1 by omega)
   rw [h1,show (r:Int).tmod ((f.blocks.length-1:Nat):Int)=((r % (f.blocks.length-1):Nat):Int) from rfl,cQ (by omega) (by omega)]
   omega
  obtain ⟨r1,e1,ea⟩:=and16' a0
  obtain ⟨r2,e2,eb⟩:=and16' b0
  have hwl:IntKind.i64.wrap ((f.blocks.length:Int)-1)=(f.blocks.length:Int)-1:=cQ (by omega) (by omega)
  have hne:¬((f.blocks.length:Int)-1=0):=by omega
  have la:1+r1 % (f.blocks.length-1)<f.blocks.length:=by have:=Nat.mod_lt r1 (show 0<f.blocks.length-1 by omega);omega
  have lb:1+r2 % (f.blocks.length-1)<f.blocks.length:=by have:=Nat.mod_lt r2 (show 0<f.blocks.length-1 by omega);omega
  have pa:0<1+r1 % (f.blocks.length-1):=by omega
  have pb:0<1+r2 % (f.blocks.length-1):=by omega
  generalize 1+r1 % (f.blocks.length-1)=a at ea la pa
  generalize 1+r2 % (f.blocks.length-1)=b at eb lb pb
  simp [c1,s8.len,e1,hwl,hne,ea,ae,af]
  rw [hz];clear hz z
  refine aa fun z hz=>?_
  simp [c1,s8.len,e2,hwl,hne,eb,ae,af]
  clear e1 e2 ea eb hwl hne and16'
  rw [hz];clear hz z
  refine aa fun z hz=>?_
  simp [(cD w8 rfl).1,ae,af]
  refine aj (by kernel_rfl) (Ev 100 w8 (fun k h1 h2=>pJ (by omega)) hr8) ?_
  rintro _ h9 ⟨W9,o9,vg,V,hW9,w9,fr9,tm9,g9,rfl,ip⟩
  rw [ff] at g9
  refine w9.iJ (k:=(110,0)) (n:=1) (l:=[.int .i64 f.params,vg]) ((fr9 _ (by simp)).trans (pJ (by simp))) (z:=.agg #[.int .i64 0,.slice none 0 0]) (by kernel_rfl) rfl (by kernel_rfl) rfl (by decide) (pM (w9.cells g9.blk).2) (fun _=>by simp [ae,af]) (fun _=>by simp [ae,af]) fun h10 q10 w10=>?_
  generalize h9.size=G at w10
  obtain ⟨ob,hob⟩ : ∃ ob,ob=o9.upd (110,0) (bx T.aE G (RawN.mk (n:=1) [.int .i64 f.params,vg])):=⟨_,rfl⟩
  rw [←hob] at w10
  have bG:ob (110,0)=bx T.aE G (RawN.mk (n:=1) [.int .i64 f.params,vg]):=by rw [hob,Own.ag]
  have bD:ob (11,1)=bx T.aE D (RawN.mk (n:=1) [.int .i64 f.params,vb]):=by rw [hob,Own.ab (by simp),fr9 _ (by simp)];rfl
  have bN : ∀ k:Key,110<k.1→ob k=none:=fun k hk=>by rw [hob,Own.ab (by rintro rfl;simp at hk),fr9 _ (by omega)];exact pJ (by omega)
  have g10:FnO 100 ob vg V f:=by rw [hob];exact g9.upd (by simp)
  clear hob g9 w9 fr9 tm9
  have hle9:(vw h).le W9:=View.le_trans hW2 (View.le_trans hW8 hW9)
  have sb9:=sb.mono hW9
  have hr9:=hr8.mono hW9
  have cG10:ao (vw h10) ⟨G,1,none⟩=some vg:=w10.raw (k:=(110,0)) (e:=T.aE) (n:=1) bG (i:=1) (by decide)
  have sg10:=g10.rd w10
  have ixB : ∀ {k:Nat},k<f.blocks.length→∀ {H:View},SlRd H vg f.blocks→Bn.ev (.idx 6) vg (.int .i64 k)=some (.pointer (some ((slA vg).add (k*6)))):=@fun k hk H s=>s.idxn (N:=6) rfl (Int.natCast_nonneg _) (by omega)
  have ixa:=ixB la sg10
  have ixb:=ixB lb sg10
  have hrl : ∀ k,k<f.blocks.length→k<(rows (fun c=>bkO (V c) (nth f.blocks c)) f.blocks.length).length:=fun k hk=>by simpa using hk
  obtain ⟨ua,hua,rua⟩:=Owns.ldW w10 g10.blk rfl (N:=6) rfl (hrl a la)
  obtain ⟨ub,hub,rub⟩:=Owns.ldW w10 g10.blk rfl (N:=6) rfl (hrl b lb)
  rw [gJ] at rua rub
  rw [hz];clear hz z
  refine aa fun z hz=>?_
  simp [cG10,ixa,hua,ae,af]
  refine w10.zL (k:=(111,0)) (α:=BkO) (n:=6) (bN _ (by simp)) rua rfl (z:=.agg #[.slice none 0 0,.slice none 0 0,.int .i64 0,.slice none 0 0,.slice none 0 0,.int .i32 0]) (by kernel_rfl) rfl (by kernel_rfl) (by decide) (fun _=>by simp [ae,af]) (fun _=>by simp [ae,af]) fun h11 q11 w11=>?_
  generalize h10.size=O at w11
  have g11:FnO 100 (ob.upd (111,0) (bx T.al O (bkO (V a) (nth f.blocks a)))) vg V f:=g10.upd (by simp)
  have cG11:ao (vw h11) ⟨G,1,none⟩=some vg:=ah q11 cG10
  have hub11:Un.ev (vw h11) (.an 6) (.pointer (some ((slA vg).add (b*6))))=some ub:=by
   have:=ck (ρ:=fun _=>none) (e:=.un (.an 6) (.con (.pointer (some ((slA vg).add (b*6)))))) q11 (by simpa using hub)
   simpa using this
  rw [hz];clear hz z
  refine aa fun z hz=>?_
  refine cg (vw h11) (View.le_refl _) ?_
  simp [cG11,ixa,ixb,hub11,ae,af]
  refine w11.iQ (k:=(100,0)) (α:=BkO) (v:=vg) (l:=rows (fun c=>bkO (V c) (nth f.blocks c)) f.blocks.length) (i:=a) (d:=bkO (V b) (nth f.blocks b)) g11.blk (by kernel_rfl) rfl rfl (hrl a la) rub fun h12 w12 _=>?_
  have cG12:ao (vw h12) ⟨G,1,none⟩=some vg:=w12.raw (k:=(110,0)) (e:=T.aE) (n:=1) ((Own.ab (by simp)).trans ((Own.ab (by simp)).trans bG)) (i:=1) (by decide)
  obtain ⟨uo,huo,ruo⟩:=Owns.ldW w12 (k:=(111,0)) (v:=.slice (some ⟨O,0,none⟩) 1 1) (l:=[bkO (V a) (nth f.blocks a)]) ((Own.ab (by simp)).trans Own.ag) rfl (N:=6) rfl (i:=0) (by simp)
  have huo:Un.ev (vw h12) (.an 6) (.pointer (some ⟨O,0,none⟩))=some uo:=by simpa [slA] using huo
  have ruo:Rd W9 uo (bkO (V a) (nth f.blocks a)):=ruo
  rw [hz];clear hz z
  refine aa fun z hz=>?_
  simp [cG12,ixb,huo,ae,af]
  refine w12.iQ (k:=(100,0)) (α:=BkO) (v:=vg) (l:=(rows (fun c=>bkO (V c) (nth f.blocks c)) f.blocks.length).set a (bkO (V b) (nth f.blocks b))) (i:=b) (d:=bkO (V a) (nth f.blocks a)) Own.ag (by kernel_rfl) rfl rfl (by rw [List.length_set];exact hrl b lb) ruo fun h13 w13 _=>?_
  obtain ⟨o13,w13,g13,r13⟩:=g11.swap la lb rfl rfl w13
  clear w12 w11 w10 g11 g10 cG12 cG11 cG10 huo ruo hub11 hub rub hua rua
  obtain ⟨F,hF⟩ : ∃ F,F=swF a b f:=⟨_,rfl⟩
  rw [←hF] at g13
  obtain ⟨Vw,hVw⟩ : ∃ Vw:Nat→Bv,Vw=fun c=>V (swN a b c):=⟨_,rfl⟩
  rw [←hVw] at g13
  have hFl:F.blocks.length=f.blocks.length:=by rw [hF];simp [swF]
  have hFp:F.params=f.params:=by rw [hF];rfl
  have smF:SmF F:=by
   rw [hF]
   refine ⟨by have:=sm.len;simp [swF];omega,fun c hc=>?_⟩
   have hc:c<f.blocks.length:=by simpa [swF] using hc
   rw [show nth (swF a b f).blocks c=nth f.blocks (swN a b c) from dq hc]
   exact sm.blk _ (uS la lb hc)
  have t13:Wt W9 h13 100 (ob.upd (111,0) (bx T.al O (bkO (V a) (nth f.blocks a)))) vg Vw F:=⟨o13,w13,g13,r13⟩
  have t13:=t13.drop (bN _ (by simp)) (by simp)
  clear w13 g13 r13 hVw
  rw [hz];clear hz z
  refine aa fun z hz=>?_
  simp [ae,af]
  have cG : ∀ {h':Heap} {g:ak},Wt W9 h' 100 ob vg Vw g→Un.ev (vw h') (.an 2) (.pointer (some ⟨G,0,none⟩))=some (.agg #[.int .i64 f.params,vg])∧ao (vw h') ⟨G,1,none⟩=some vg∧Un.ev (vw h') (.an 2) (.pointer (some ⟨D,0,none⟩))=some (.agg #[.int .i64 f.params,vb]):=fun t=>
   ⟨t.dE (k:=(110,0)) (n:=1) (by simp) bG,t.raw (k:=(110,0)) (n:=1) (by simp) bG (i:=1) (by decide),t.dE (k:=(11,1)) (n:=1) (by simp) bD⟩
  refine cy [1,2,6,7,8,9,11] (fun (_:Unit) n=>[.int .i64 a,.int .i64 b,.bool false,.bool true,.pointer (some ⟨D,0,none⟩),.pointer (some ⟨G,0,none⟩),.int .i64 n])
   (fun _ n h14=>∃ g,Wt W9 h14 100 ob vg Vw g∧FuR (swI a b) F n g) f.blocks.length ()
   rfl (by omega) (by simp [bz,ae,af]) ⟨F,t13,FuR.zero⟩ (fun _ _=>rfl) (fun _ n h14 hk ⟨g,t,r⟩=>?_) ?_ ?_
  ·have s14:=t.blks
   simp [(cG t).2.1,s14.len,r.len,hFl]
  ·rintro _ n h14 hlt ⟨g,t14,r14⟩ K2 hK2
   have hnF:n<F.blocks.length:=by omega
   have hb:n<g.blocks.length:=by rw [r14.len];exact hnF
   obtain ⟨ux,op,oi,oa,ot⟩:=t14.blk hb
   have eb:=r14.old n (Nat.le_refl _)
   rw [eb] at ux
   have hsb:=smF.blk n hnF
   obtain ⟨x,hx⟩ : ∃ x,x=nth F.blocks n:=⟨_,rfl⟩
   rw [←hx] at ux hsb eb
   have ixn:=t14.ixB hb
   have c1:=(cG t14).2.1
   refine aa fun y hy=>?_
   simp [c1,ixn,ux]
   refine t14.var (112,0) (bN _ (by simp)) (by simp) (α:=RawN 5) (n:=6) (d:=RawN.mk (n:=5) [(Vw n).p,(Vw n).i,.int .i64 x.term.kind,(Vw n).a,(Vw n).t,.int .i32 x.term.imm.v]) (eV rfl (by intro c hc;simp only [List.mem_cons,List.not_mem_nil,or_false] at hc;rcases hc with rfl | rfl | rfl | rfl | rfl | rfl<;>first | rfl | assumption)) rfl (z:=.agg #[.slice none 0 0,.slice none 0 0,.int .i64 0,.slice none 0 0,.slice none 0 0,.int .i32 0]) (by kernel_rfl) rfl (by kernel_rfl) (by decide) (fun _=>by simp) (fun _=>by simp) fun h15 q15 t15=>?_
   generalize h14.size=X2 at t15
   obtain ⟨oc,hoc⟩ : ∃ oc,oc=ob.upd (112,0) (bx T.al X2 (RawN.mk (n:=5) [(Vw n).p,(Vw n).i,.int .i64 x.term.kind,(Vw n).a,(Vw n).t,.int .i32 x.term.imm.v])):=⟨_,rfl⟩
   have t15:Wt W9 h15 100 oc vg Vw (a7 g n (ee x (fW (swI a b) x.term.to 0))):=by
    rw [sJ,hoc,show ee x x.term.to=x from rfl,←eb,xS hb,eb];exact t15
   have xX:oc (112,0)=bx T.al X2 (RawN.mk (n:=5) [(Vw n).p,(Vw n).i,.int .i64 x.term.kind,(Vw n).a,(Vw n).t,.int .i32 x.term.imm.v]):=by rw [hoc,Own.ag]
   have oN : ∀ k:Key,112<k.1→oc k=none:=fun k hk=>by rw [hoc,Own.ab (by rintro rfl;simp at hk)];exact bN k (by omega)
   have cX : ∀ {h':Heap} {d:BlkD},Wt W9 h' 100 oc vg Vw (a7 g n d)→ao (vw h') ⟨X2,0,none⟩=some (Vw n).p∧ao (vw h') ⟨X2,4,none⟩=some (Vw n).t:=fun t=>
    ⟨t.raw (k:=(112,0)) (by simp) xX (i:=0) (by decide),t.raw (k:=(112,0)) (by simp) xX (i:=4) (by decide)⟩
   have np:=hsb.phis
   have nt:=hsb.to
   clear t14 ux op oi oa ot ixn c1
   rw [hy];clear hy y
   refine aa fun y hy=>?_
   simp
   refine cy [1,2,6,7,8,9,11,12,13] (fun (_:Unit) i=>[.int .i64 a,.int .i64 b,.bool false,.bool true,.pointer (some ⟨D,0,none⟩),.pointer (some ⟨G,0,none⟩),.int .i64 n,.pointer (some ⟨X2,0,none⟩),.int .i64 i])
    (fun _ i h16=>Wt W9 h16 100 oc vg Vw (a7 g n (ee x (fW (swI a b) x.term.to i)))) x.term.to.length ()
    rfl (by omega) rfl t15 (fun _ _=>rfl) (fun _ i h16 hk t=>?_) ?_ ?_
   ·have s16:=t.to hb
    have hl:(ee x (fW (swI a b) x.term.to i)).term.to.length=x.term.to.length:=mZ
    simp [(cX t).2,s16.len,hl]
   ·rintro _ i h16 hi t16 K3 hK3
    have hi2:i<(ee x (fW (swI a b) x.term.to i)).term.to.length:=by show i<(fW _ _ _).length;rw [mZ];exact hi
    obtain ⟨g1,g2,g3⟩:=t16.ixT hb hi2
    have ek:nth (ee x (fW (swI a b) x.term.to i)).term.to i=nth x.term.to i:=tK hi
    rw [ek] at g2 g3
    simp only [aO]
    refine cg (vw h16) (View.le_refl _) ?_
    simp [(cX t16).2,g1,g2]
    refine aj (by kernel_rfl) rC ?_
    rintro _ h17 ⟨rfl,rfl⟩
    refine ⟨View.le_refl _,?_⟩
    refine t16.tt hb hi2 (by kernel_rfl) rfl rfl (BB g3 ⟨by omega,by omega⟩ ⟨by omega,by omega⟩) fun h17 t17=>?_
    refine hK3 () _ _ rfl rfl ?_
    rw [←ru hi]
    exact t17
   ·rintro _ h16 t16
    rw [uN] at t16
    obtain ⟨x1,hx1⟩ : ∃ x1,x1=ee x (x.term.to.map (swI a b)):=⟨_,rfl⟩
    rw [←hx1] at t16
    rw [c7,hy];clear hy y
    simp
    refine cy [1,2,6,7,8,9,11,12,14] (fun (_:Unit) i=>[.int .i64 a,.int .i64 b,.bool false,.bool true,.pointer (some ⟨D,0,none⟩),.pointer (some ⟨G,0,none⟩),.int .i64 n,.pointer (some ⟨X2,0,none⟩),.int .i64 i])
     (fun _ i h17=>∃ d,Wt W9 h17 100 oc vg Vw (a7 g n d)∧PhU (swI a b) x1 i d) x.phis.length ()
     rfl (by omega) rfl ⟨x1,t16,PhU.zero⟩ (fun _ _=>rfl) (fun _ i h17 hk ⟨d,t,u⟩=>?_) ?_ ?_
    ·have s17:=t.phN hb
     have hl:=u.len
     have e1:x1.phis.length=x.phis.length:=by rw [hx1];rfl
     simp [(cX t).1,s17.len,hl,e1]
    ·rintro _ i h17 hi ⟨d,t17,u17⟩ K3 hK3
     have e1:x1.phis.length=x.phis.length:=by rw [hx1];rfl
     have hi1:i<x1.phis.length:=by omega
     have hid:i<d.phis.length:=by rw [u17.len];exact hi1
     have ep:=u17.old i (Nat.le_refl _)
     have hsi:=hsb.phi i hi
     have epx:nth x1.phis i=nth x.phis i:=by rw [hx1];rfl
     obtain ⟨p0,hp0⟩ : ∃ p0,p0=nth d.phis i:=⟨_,rfl⟩
     have hp1:p0=nth x1.phis i:=hp0.trans ep
     have hpl:p0.ins.length≤10000:=by rw [hp1,epx];exact hsi
     have hs8 : ∀ l:List InD,nth (cW d i ⟨p0.dst,l⟩).phis i=⟨p0.dst,l⟩:=fun l=>yL hid
     have hn8 : ∀ l:List InD,i<(cW d i ⟨p0.dst,l⟩).phis.length:=fun l=>by show i<(List.set _ _ _).length;rw [List.length_set];exact hid
     have ix:=t17.ixP hb hid
     have c2:=(t17.phi hb hid).2.1
     have t18:Wt W9 h17 100 oc vg Vw (a7 g n (cW d i ⟨p0.dst,fW (lJ (swI a b)) p0.ins 0⟩)):=by
      rw [sJ,show (⟨p0.dst,p0.ins⟩:PhiD)=nth d.phis i from by rw [hp0],wP hid];exact t17
     refine aa fun q hq=>?_
     simp [(cX t17).1,ix,c2]
     clear ix c2 t17
     rw [hq];clear hq q
     refine aa fun q hq=>?_
     simp
     refine cy [1,2,6,7,8,9,11,12,14,15,16] (fun (_:Unit) k=>[.int .i64 a,.int .i64 b,.bool false,.bool true,.pointer (some ⟨D,0,none⟩),.pointer (some ⟨G,0,none⟩),.int .i64 n,.pointer (some ⟨X2,0,none⟩),.int .i64 i,(Vw n).pin i,.int .i64 k])
      (fun _ k h18=>Wt W9 h18 100 oc vg Vw (a7 g n (cW d i ⟨p0.dst,fW (lJ (swI a b)) p0.ins k⟩))) p0.ins.length ()
      rfl (by omega) rfl t18 (fun _ _=>rfl) (fun _ k h18 hk t=>?_) ?_ ?_
     ·have s18:=t.pin hb (hn8 _)
      rw [hs8] at s18
      have hl:(fW (lJ (swI a b)) p0.ins k).length=p0.ins.length:=mZ
      simp [s18.len,hl]
     ·rintro _ k h18 hk t18 K4 hK4
      have hk8:k<(nth (cW d i ⟨p0.dst,fW (lJ (swI a b)) p0.ins k⟩).phis i).ins.length:=by rw [hs8];show k<(fW _ _ _).length;rw [mZ];exact hk
      obtain ⟨g1,g2,g3,g4,g5⟩:=t18.ixN hb (hn8 _) hk8
      have ek:nth (nth (cW d i ⟨p0.dst,fW (lJ (swI a b)) p0.ins k⟩).phis i).ins k=nth p0.ins k:=by rw [hs8];exact tK hk
      rw [ek] at g2 g3 g4 g5
      simp [g1,g2]
      refine aj (by kernel_rfl) rC ?_
      rintro _ h19 ⟨rfl,rfl⟩
      refine t18.pf hb (hn8 _) hk8 (by kernel_rfl) rfl rfl (BB g4 ⟨by omega,by omega⟩ ⟨by omega,by omega⟩) fun h19 t19=>?_
      rw [ek,lz,hs8] at t19
      refine hK4 () _ _ rfl rfl ?_
      rw [←ru hk]
      exact t19
     ·rintro _ h18 t18
      rw [uN] at t18
      obtain ⟨l0,hl0⟩ : ∃ l0,l0=p0.ins.map (lJ (swI a b)):=⟨_,rfl⟩
      have hll:l0.length=p0.ins.length:=by rw [hl0];simp
      rw [←hl0] at t18
      rw [c7,hq];clear hq q
      simp
      refine cy [1,2,6,7,8,9,11,12,14,15,17] (fun (_:Unit) k=>[.int .i64 a,.int .i64 b,.bool false,.bool true,.pointer (some ⟨D,0,none⟩),.pointer (some ⟨G,0,none⟩),.int .i64 n,.pointer (some ⟨X2,0,none⟩),.int .i64 i,(Vw n).pin i,.int .i64 k])
       (fun _ k h19=>∃ R,Wt W9 h19 100 oc vg Vw (a7 g n (cW d i ⟨p0.dst,R++l0.drop k⟩))∧R.Perm (l0.take k)∧kX R) l0.length ()
       rfl (by omega) rfl ⟨[],t18,.refl _,.nil⟩ (fun _ _=>rfl) (fun _ k h19 hk ⟨R,t,hp,_⟩=>?_) ?_ ?_
      ·have s19:=t.pin hb (hn8 _)
       rw [hs8] at s19
       have hl:(R++l0.drop k).length=l0.length:=by rw [List.length_append,hp.length_eq,List.length_take,List.length_drop];omega
       simp [s19.len,hl]
      ·rintro _ k h19 hk ⟨R,t19,hp19,hr19⟩ K4 hK4
       have hkR:R.length=k:=by rw [hp19.length_eq,List.length_take];omega
       obtain ⟨x0,hx0⟩ : ∃ x0,x0=l0[k]:=⟨_,rfl⟩
       have hdrop:l0.drop k=x0::l0.drop (k+1):=by rw [hx0];exact List.drop_eq_getElem_cons hk
       have htake:l0.take (k+1)=l0.take k++[x0]:=by rw [hx0];exact List.take_succ_eq_append_getElem hk
       obtain ⟨rest,hrest⟩ : ∃ rest,rest=l0.drop (k+1):=⟨_,rfl⟩
       rw [←hrest] at hdrop
       rw [hdrop] at t19
       refine aa fun q hq=>?_
       simp
       rw [hq];clear hq q
       simp only [aO]
       refine jd [1,2,6,7,8,9,11,12,14,15,17,18] (fun m ρ h20=>∃ A B,m=A.length∧ρ=[(1,.int .i64 a),(2,.int .i64 b),(6,.bool false),(7,.bool true),(8,.pointer (some ⟨D,0,none⟩)),(9,.pointer (some ⟨G,0,none⟩)),(11,.int .i64 n),(12,.pointer (some ⟨X2,0,none⟩)),(14,.int .i64 i),(15,(Vw n).pin i),(17,.int .i64 k),(18,.int .i64 (A.length:Nat))]∧
        Wt W9 h20 100 oc vg Vw (a7 g n (cW d i ⟨p0.dst,A++x0::(B++rest)⟩))∧Way A B x0∧(A++B).Perm (l0.take k)) k ⟨R,[],hkR.symm,by rw [hkR];rfl,t19,.start hr19,by rw [List.append_nil];exact hp19⟩ ?_
       rintro m ρ h20 ⟨A,B,rfl,rfl,t20,wy,hpm⟩ K5 hK5
       have hAB:A.length+B.length=k:=by have:=hpm.length_eq;rw [List.length_append,List.length_take] at this;omega
       have hfin:kX (A++x0::B)→∃ R',Wt W9 h20 100 oc vg Vw (a7 g n (cW d i ⟨p0.dst,R'++l0.drop (k+1)⟩))∧R'.Perm (l0.take (k+1))∧kX R':=fun hr=>⟨A++x0::B,by rw [←hrest,List.append_assoc,List.cons_append];exact t20,by
        rw [htake]
        exact List.perm_middle.trans ((List.Perm.cons _ hpm).trans (List.perm_append_comm (l₁:=[x0]))),hr⟩
       refine aa fun q hq=>?_
       refine aa fun p hp=>?_
       rcases A.eq_nil_or_concat with e | ⟨A',y',e⟩
       ·subst e
        simp [te]
        rw [hp];clear hp p
        refine aw (by simp) ?_
        simp
        exact hK4 () _ _ rfl rfl (hfin (wy.done fun y hy=>by cases hy))
       ·rw [List.concat_eq_append] at e
        subst e
        have hLl:((A'++[y'])++x0::(B++rest))=A'++y'::x0::(B++rest):=by simp
        have hlenj:(A'++[y']).length=A'.length+1:=by simp
        have t20:Wt W9 h20 100 oc vg Vw (a7 g n (cW d i ⟨p0.dst,A'++y'::x0::(B++rest)⟩)):=by rw [←hLl];exact t20
        have i1:A'.length<(nth (cW d i ⟨p0.dst,A'++y'::x0::(B++rest)⟩).phis i).ins.length:=by rw [hs8];simp
        have i2:A'.length+1<(nth (cW d i ⟨p0.dst,A'++y'::x0::(B++rest)⟩).phis i).ins.length:=by rw [hs8];simp
        have en1:nth (nth (cW d i ⟨p0.dst,A'++y'::x0::(B++rest)⟩).phis i).ins A'.length=y':=by rw [hs8];show nth (A'++_) _=_;rw [aq (l:=A'++y'::x0::(B++rest)) (i:=A'.length) (by simp),List.getElem_append_right (Nat.le_refl _)];simp
        have en2:nth (nth (cW d i ⟨p0.dst,A'++y'::x0::(B++rest)⟩).phis i).ins (A'.length+1)=x0:=by rw [hs8];show nth (A'++_) _=_;rw [aq (l:=A'++y'::x0::(B++rest)) (i:=A'.length+1) (by simp),List.getElem_append_right (by omega)];simp
        obtain ⟨y1,y2,_,_,_⟩:=t20.ixN hb (hn8 _) i1
        obtain ⟨z1,z2,_,_,_⟩:=t20.ixN hb (hn8 _) i2
        rw [en1] at y2
        rw [en2] at z2
        rw [hlenj] at hAB
        rw [hlenj] at hK5
        rw [hlenj]
        have set1:(A'++y'::x0::(B++rest)).set (A'.length+1) y'=A'++y'::y'::(B++rest):=by
         rw [List.set_append_right _ _ (by omega)];simp
        have set2:(A'++y'::y'::(B++rest)).set A'.length x0=A'++x0::y'::(B++rest):=by
         rw [List.set_append_right _ _ (Nat.le_refl _)];simp
        obtain ⟨j,hj⟩ : ∃ j,j=A'.length+1:=⟨_,rfl⟩
        rw [←hj] at z1 z2 i2 en2 hAB set1 hK5 ⊢
        have hw:IntKind.i64.wrap ((j:Int)-1)=(A'.length:Int):=by rw [cQ (by omega) (by omega)];omega
        have hj0:0<j:=by omega
        have hw2:(j:Int)-1=(A'.length:Int):=by omega
        clear hj
        by_cases hgt:x0.frm<y'.frm
        ·simp [hw,hj0,y1,y2,z1,z2,hgt]
         rw [hp];clear hp p
         refine ay (by simp) ?_
         simp
         rw [hq];clear hq q
         refine aa fun q hq=>?_
         simp only [aO]
         refine aa fun p hp=>?_
         obtain ⟨uj,huj,ruj⟩:=t20.ldN hb (hn8 _) i2
         rw [en2] at ruj
         simp [z1,huj]
         refine t20.var (113,0) (oN _ (by simp)) (by simp) (α:=InD) (n:=2) ruj rfl (z:=.agg #[.int .i64 0,.int .i64 0]) (by kernel_rfl) rfl (by kernel_rfl) (by decide) (fun _=>by simp) (fun _=>by simp) fun h21 q21 t21=>?_
         generalize h20.size=N2 at t21
         rw [hp];clear hp p
         refine aa fun p hp=>?_
         obtain ⟨uy,huy,ruy⟩:=t21.ldN hb (hn8 _) i1
         rw [en1] at ruy
         simp [z1,y1,hw,huy]
         refine t21.pe hb (hn8 _) i2 (by kernel_rfl) rfl rfl ruy fun h22 t22=>?_
         rw [lz,hs8,set1] at t22
         obtain ⟨ui,hui,rui⟩:=t22.ld (k:=(113,0)) (by simp) (d:=x0) Own.ag rfl (N:=2) rfl
         have i3:A'.length<(nth (cW d i ⟨p0.dst,A'++y'::y'::(B++rest)⟩).phis i).ins.length:=by rw [hs8];simp
         rw [hp];clear hp p
         simp [y1,hw,hui]
         refine t22.pe hb (hn8 _) i3 (by kernel_rfl) rfl rfl rui fun h23 t23=>?_
         rw [lz,hs8,set2] at t23
         have t24:=t23.drop (oN _ (by simp)) (by simp)
         rw [hq];clear hq q
         simp [hw]
         refine hK5 A'.length _ _ (by omega) ⟨A',y'::B,rfl,by simp [bz,hw],?_,wy.step hgt,?_⟩
         ·rw [List.cons_append];exact t24
         ·rw [List.append_assoc] at hpm;exact hpm
        ·simp [hw,hj0,y1,y2,z1,z2,hgt]
         rw [hp];clear hp p
         refine aw (by simp) ?_
         simp
         exact hK4 () _ _ rfl rfl (hfin (wy.done fun y hy=>by
          simp at hy
          subst hy;omega))
      ·rintro _ h19 ⟨R,t19,hp19,hr19⟩
       rw [List.drop_length,List.append_nil] at t19
       rw [List.take_length] at hp19
       refine hK3 () _ _ rfl rfl ⟨_,t19,u17.succ hi1 ⟨?_,?_,hr19⟩⟩
       ·rw [hp1]
       ·rw [←hp1,←hl0];exact hp19
    ·rintro _ h17 ⟨d,t17,u17⟩
     have e1:x1.phis.length=x.phis.length:=by rw [hx1];rfl
     rw [←e1] at u17
     have t17:=Wt.drop (by rw [hoc] at t17;exact t17) (bN _ (by simp)) (by simp)
     refine hK2 () _ _ rfl rfl ⟨_,t17,r14.succ hnF ?_⟩
     rw [←hx]
     have q:=u17.bl
     rw [hx1] at q
     exact ⟨q.1,q.2.1,q.2.2.1,q.2.2.2⟩
  ·rintro _ h14 ⟨g,t14,r14⟩
   rw [hF] at r14
   obtain ⟨mv,ris⟩:=r14.mv la lb
   have smG:=mv.sm sm
   have hus:=mv.used
   have hfo:=fun v=>mv.fold (v:=v)
   have hgp:=mv.params
   have hle : ∀ {k:Heap},(vw h14).le (vw k)→(vw h).le (vw k):=fun q=>View.le_trans hle9 (View.le_trans t14.wle q)
   have rF : ∀ {k:Heap},(vw h14).le (vw k)→Rd (vw k) (.agg #[.int .i64 f.params,vb]) f:=fun q=>hr9.mono (View.le_trans t14.wle q)
   have rG : ∀ {k:Heap},(vw h14).le (vw k)→Rd (vw k) (.agg #[.int .i64 f.params,vg]) g:=fun q=>by
    have:=(t14.ext' q).rdF (by rw [hgp];exact ip)
    rw [hgp] at this;exact this
   have cc:=fun {k:Heap} (q:(vw h14).le (vw k))=>cG (t14.ext' q)
   have hmay:(gj f).1=0→gj g=(0,0,0):=fun ht=>Fl (mv.may (by unfold swN;rw [if_neg (by omega),if_neg (by omega)]) (Fu ht) ris)
   clear t13 hF r14 ris mv
   rw [c7,hz];clear hz z
   refine aa fun z hz=>?_
   simp [(cc (View.le_refl _)).2.2]
   refine aj (by kernel_rfl) (rM (rF (View.le_refl _)) sm) ?_
   rintro u h15 ⟨l15,su⟩
   have su:=su.mono (gl _ _)
   rw [hz];clear hz z
   refine aa fun z hz=>?_
   simp [(cc l15).1]
   refine aj (by kernel_rfl) (rM (rG l15) smG) ?_
   rintro w h16 ⟨q16,sw⟩
   rw [hus] at sw
   have sw:=sw.mono (gl _ _)
   have l16:=View.le_trans l15 q16
   have su:=su.mono q16
   rw [hz];clear hz z
   refine aa fun z hz=>?_
   simp [su.len,sw.len]
   rw [hz];clear hz z
   refine aa fun z hz=>?_
   have hub:=su.bound
   simp
   refine cy [1,2,7,8,9,20,21,22] (fun (_:Unit) v=>[.int .i64 a,.int .i64 b,.bool true,.pointer (some ⟨D,0,none⟩),.pointer (some ⟨G,0,none⟩),u,w,.int .i64 v])
    (fun _ v h17=>(vw h16).le (vw h17)) (oG f).length ()
    rfl (by omega) rfl (View.le_refl _) (fun _ _=>rfl) (fun _ v h17 hk l17=>?_) ?_ ?_
   ·have s17:=su.mono l17
    simp [s17.len]
   ·rintro _ v h17 hv l17 K2 hK2
    have s17:=su.mono l17
    have x17:=sw.mono l17
    have i1:Bn.ev (.idx 1) u (.int .i64 v)=some (.pointer (some ((slA u).add v))):=s17.idx1 rfl (Int.natCast_nonneg _) (by omega)
    have i2:Bn.ev (.idx 1) w (.int .i64 v)=some (.pointer (some ((slA w).add v))):=x17.idx1 rfl (Int.natCast_nonneg _) (by omega)
    have d1:=s17.int (View.le_refl _) hv
    have d2:=x17.int (View.le_refl _) hv
    have q17:=View.le_trans l16 l17
    refine aa fun y hy=>?_
    refine cg (vw h17) (View.le_refl _) ?_
    refine oS fun p hp=>?_
    by_cases h60:(v:Int)<60
    ·simp [i1,i2,d1,d2,h60,(cc q17).1,(cc q17).2.2]
     refine aj (by kernel_rfl) (je (rF q17) sm ⟨by omega,by omega⟩) ?_
     rintro _ h18 ⟨rfl,l18⟩
     refine ⟨l18,?_⟩
     rw [hp];clear hp p
     refine oS fun p hp=>?_
     simp
     refine aj (by kernel_rfl) (je (rG (View.le_trans q17 l18)) smG ⟨by omega,by omega⟩) ?_
     rintro _ h19 ⟨rfl,l19⟩
     refine ⟨View.le_trans l18 l19,?_⟩
     rw [hfo]
     generalize ew f (v:Int)=q
     have eq:Bn.ev (.eqB true) (.bool q) (.bool q)=some (.bool false):=by cases q<;>rfl
     rw [hp];clear hp p
     simp [eq]
     rw [hy];clear hy y
     simp
     exact hK2 () _ _ rfl rfl (View.le_trans l17 (View.le_trans l18 l19))
    ·simp [i1,i2,d1,d2,h60,(cc q17).1,(cc q17).2.2]
     rw [hp];clear hp p
     simp
     rw [hy];clear hy y
     simp
     exact hK2 () _ _ rfl rfl l17
   ·rintro _ h17 l17
    have q17:=View.le_trans l16 l17
    rw [c7,hz];clear hz z
    refine aa fun z hz=>?_
    refine oS fun p hp=>?_
    simp [(cc q17).2.2]
    refine aj (by kernel_rfl) (pw (rF q17) sm) ?_
    rintro _ h18 ⟨rfl,l18⟩
    rw [hp];clear hp p
    refine oS fun p hp=>?_
    by_cases ht:(gj f).1=0
    ·simp [ht,(cc (View.le_trans q17 l18)).1]
     refine aj (by kernel_rfl) (pw (rG (View.le_trans q17 l18)) smG) ?_
     rintro _ h19 ⟨rfl,l19⟩
     rw [hmay ht]
     rw [hp];clear hp p
     simp [ht]
     rw [hz];clear hz z
     simp
     exact hK _ _ ⟨rfl,hle (View.le_trans q17 (View.le_trans l18 l19))⟩
    ·simp [ht]
     rw [hp];clear hp p
     simp [ht]
     rw [hz];clear hz z
     simp
     exact hK _ _ ⟨rfl,hle (View.le_trans q17 l18)⟩
 refine cg W2 w5.wle ?_
 simp [cl,haq1 _ (View.le_refl _)]
 have few1 : ∀ {W:View} {k:Heap} {o:Own} {u:Value} {g:ak},Owns W k o→(∀ q:Key,q.1<10→o q=none)→Rd W u g→aI Try.prog N.cK #[u] k (fun u h'=>∃ W' vb,W.le W'∧Owns W' h' o∧u = .agg #[.int .i64 (fewS g).params,vb]∧Rd W' (.agg #[.int .i64 (fewS g).params,vb]) (fewS g)):=fun w ho hr=>(Dn w ho hr).mono fun u h' ⟨W',hW,w',hr'⟩=>by
  obtain ⟨vb,rfl,_,_⟩:=sD hr'
  exact ⟨W',vb,hW,w',rfl,hr'⟩
 have z0 : ∀ k:Key,k.1<10→gOwn none k=none:=fun k hk=>ir (by omega)
 have z1 : ∀ (l:Nat × List Value) (k:Key),k.1<11→(gOwn none).upd (11,1) (bx T.aE l.1 (RawN.mk (n:=1) l.2)) k=none:=fun l k hk=>(Own.ab (by rintro rfl;simp at hk)).trans (ir hk)
 have two2 : ∀ {W:View} {vb:Value} {g:ak},Rd W (.agg #[.int .i64 g.params,vb]) g→∀ c∈[Value.int .i64 g.params,vb],c.oneCell'=true:=fun h=>by
  obtain ⟨vb',e,_,sb⟩:=sD h
  simp at e
  subst e
  exact pM sb.cells.2
 refine ⟨?_,?_⟩
 ·refine aj (by kernel_rfl) (sK w5 (fun k hk=>ir hk) sl) ?_
  rintro u h6 ⟨W6,hW6,w6,hr6⟩
  have tf6:=Ai (s:=x.a.take 200)
  generalize iG (x.a.take 200)=f6 at hr6 tf6
  refine ⟨View.le_trans hW6 w6.wle,?_,?_⟩
  ·refine aj (by kernel_rfl) (pL w6 z0 hr6 tf6 (by omega) i0 i1 i2) ?_
   rintro u7 h7 ⟨W7,g,hW7,w7,tf7,hr7⟩
   refine ⟨?_,?_⟩
   ·refine aj (by kernel_rfl) (few1 w7 z0 hr7) ?_
    rintro _ h8 ⟨W8,vb8,hW8,w8,rfl,hr8⟩
    refine w8.iJ (k:=(11,1)) (n:=1) (l:=[.int .i64 (fewS g).params,vb8]) rfl (z:=.agg #[.int .i64 0,.slice none 0 0]) (by kernel_rfl) rfl (by kernel_rfl) rfl (by decide) (two2 hr8) (fun _=>by simp) (fun _=>by simp) fun h9 q9 w9=>?_
    exact fin _ W8 _ vb8 (fewS g) _ (View.le_trans hW6 (View.le_trans hW7 hW8)) (w9.congr fun k=>pj) hr8 ⟨g,_,tf7,rfl⟩
   ·refine w7.jA (k:=(11,1)) (n:=1) (z:=.agg #[.int .i64 0,.slice none 0 0]) rfl (by kernel_rfl) rfl (by decide) (by simp [Value.cells,Value.oneCell']) fun h8 q8 w8=>?_
    refine aj (by kernel_rfl) (few1 w8 (fun k hk=>(Own.ab (by rintro rfl;simp at hk)).trans (ir (by omega))) hr7) ?_
    rintro _ h9 ⟨W9,vb9,hW9,w9,rfl,hr9⟩
    refine w9.fG (k:=(11,1)) (α:=RawN 1) (β:=RawN 1) Part.all (D:=RawN.mk (n:=1) [.int .i64 0,.slice none 0 0]) (d:=RawN.mk (n:=1) [.int .i64 (fewS g).params,vb9]) Own.ag (by kernel_rfl) rfl rfl (eV rfl (two2 hr9)) fun h10 w10 _=>?_
    exact fin _ W9 _ vb9 (fewS g) _ (View.le_trans hW6 (View.le_trans hW7 hW9)) (w10.congr fun k=>by rw [pj (g:=none),bK]) hr9 ⟨g,_,tf7,rfl⟩
  ·refine w6.jA (k:=(11,1)) (n:=1) (z:=.agg #[.int .i64 0,.slice none 0 0]) rfl (by kernel_rfl) rfl (by decide) (by simp [Value.cells,Value.oneCell']) fun h7 q7 w7=>?_
   refine ⟨View.le_trans hW6 w7.wle,?_⟩
   refine aj (by kernel_rfl) (pL w7 (fun k hk=>(Own.ab (by rintro rfl;simp at hk)).trans (ir (by omega))) hr6 tf6 (by omega) i0 i1 i2) ?_
   rintro u8 h8 ⟨W8,g,hW8,w8,tf8,hr8⟩
   refine aj (by kernel_rfl) (few1 w8 (fun k hk=>(Own.ab (by rintro rfl;simp at hk)).trans (ir (by omega))) hr8) ?_
   rintro _ h9 ⟨W9,vb9,hW9,w9,rfl,hr9⟩
   refine w9.fG (k:=(11,1)) (α:=RawN 1) (β:=RawN 1) Part.all (D:=RawN.mk (n:=1) [.int .i64 0,.slice none 0 0]) (d:=RawN.mk (n:=1) [.int .i64 (fewS g).params,vb9]) Own.ag (by kernel_rfl) rfl rfl (eV rfl (two2 hr9)) fun h10 w10 _=>?_
   exact fin _ W9 _ vb9 (fewS g) _ (View.le_trans hW6 (View.le_trans hW8 hW9)) (w10.congr fun k=>by rw [pj (g:=none),bK]) hr9 ⟨g,_,tf8,rfl⟩
 ·refine w5.jA (k:=(11,1)) (n:=1) (z:=.agg #[.int .i64 0,.slice none 0 0]) rfl (by kernel_rfl) rfl (by decide) (by simp [Value.cells,Value.oneCell']) fun h6 q6 w6=>?_
  refine ⟨w6.wle,?_⟩
  refine aj (by kernel_rfl) (sK w6 (fun k hk=>(Own.ab (by rintro rfl;simp at hk)).trans (ir hk)) sl) ?_
  rintro u h7 ⟨W7,hW7,w7,hr7⟩
  have tf7:=Ai (s:=x.a.take 200)
  generalize iG (x.a.take 200)=f7 at hr7 tf7
  refine ⟨View.le_trans hW7 w7.wle,?_⟩
  refine aj (by kernel_rfl) (pL w7 (fun k hk=>(Own.ab (by rintro rfl;simp at hk)).trans (ir (by omega))) hr7 tf7 (by omega) i0 i1 i2) ?_
  rintro u8 h8 ⟨W8,g,hW8,w8,tf8,hr8⟩
  refine aj (by kernel_rfl) (few1 w8 (fun k hk=>(Own.ab (by rintro rfl;simp at hk)).trans (ir (by omega))) hr8) ?_
  rintro _ h9 ⟨W9,vb9,hW9,w9,rfl,hr9⟩
  refine w9.fG (k:=(11,1)) (α:=RawN 1) (β:=RawN 1) Part.all (D:=RawN.mk (n:=1) [.int .i64 0,.slice none 0 0]) (d:=RawN.mk (n:=1) [.int .i64 (fewS g).params,vb9]) Own.ag (by kernel_rfl) rfl rfl (eV rfl (two2 hr9)) fun h10 w10 _=>?_
  exact fin _ W9 _ vb9 (fewS g) _ (View.le_trans hW7 (View.le_trans hW8 hW9)) (w10.congr fun k=>by rw [pj (g:=none),bK]) hr9 ⟨g,_,tf8,rfl⟩
end Go.Proofs.Ytfelpjfopgiabaa
/- For every input CheckMoved returns true: which numbers blocks have plays no part, as long as the first one stays the first. No condition. -/
namespace Go.Proofs.Ytfelpjfopgiabaa
open Go Go.Lft Go.ChangeShapes Go.WideShapes Go.ChangeAt Go.RowKit
theorem FZ {P:Program} {t e:TypeId} (ht:P.underlying t=some (.array 3 e)) (he:P.underlying e=some (.int .i64)) (hc:P.cellsOf e=1) (hc2:P.cellsOf t=3):RT P t Q3 where
 cells:=fun {H enc W spare held fuel cs d ps} h _=>by
  obtain ⟨xs,m,_,_,hl,hxl,hget⟩:=DataW.trod_array ht h
  rw [hc2] at hl
  match cs,hl with
  | [u,v,w],_=>
   have h0:=hget 0 (by omega)
   have h1:=hget 1 (by omega)
   have h2:=hget 2 (by omega)
   rw [hc,List.getElem?_eq_getElem (by omega)] at h0 h1 h2
   obtain ⟨a,e1,w1⟩:=trod_int he h0
   obtain ⟨b,e2,w2⟩:=trod_int he h1
   obtain ⟨c,e3,w3⟩:=trod_int he h2
   simp at e1 e2 e3
   subst e1;subst e2;subst e3
   exact ⟨⟨a,b,c⟩,[.int .i64 a],[.int .i64 b,.int .i64 c],rfl,⟨rfl,wf_i64 w1⟩,[.int .i64 b],[.int .i64 c],rfl,⟨rfl,wf_i64 w2⟩,rfl,wf_i64 w3⟩
 val:=fun {W r base v} h=>by
  simp only [Value.okWide,ht] at h
  obtain ⟨cs,rfl,_⟩:=h
  exact ⟨cs,rfl⟩
theorem rtQ:RT Try.prog T.jL Q3:=FZ (e:=T.int) (by kernel_rfl) (by kernel_rfl) (by kernel_rfl) (by kernel_rfl)
theorem GR:RT Try.prog T.iE NumD:=Be (f:=fun c:NumD=>c) (fun c=>c) (fun _=>rfl) (l:=[(0,T.aP),(1,T.jL)]) (by kernel_rfl) (by kernel_rfl) rfl (FRd.cons rtIs (by kernel_rfl) (FRd.one rtQ (by kernel_rfl)))
theorem Try.qv:Try.f12.params = #[T.iE,T.int,T.int]:=by kernel_rfl
theorem wv (os:Os) (started:os.Started) (H:Type) (enc:TypeId × Value→H) :
  ReturnsInHanded {} Try.checked os 12 .any (Rows.checkMovedSpec.pre6 enc Try.prog Try.f12 Rows.checkMovedRow.domain false) (Rows.checkMovedSpec.post enc Try.prog Try.f12 false true false false):=
 law3 (C:=Try.checked) Try.own started (by kernel_rfl) Try.func12 rfl
  (ChangeSpec.witness6 (enc:=enc) (C:=Try.checked) false ⟨#[],#[.agg #[.slice none 0 0,.int .i64 0,.int .i64 0,.int .i64 0],.int .i64 0,.int .i64 0],[]⟩ 8 (by kernel_rfl) (by kernel_rfl) (by kernel_rfl) (by kernel_rfl))
  Try.laidOut (fun t ht=>by
   rw [Try.qv] at ht
   simp only [List.mem_cons,List.not_mem_nil,or_false] at ht
   rcases ht with rfl | rfl | rfl<;>exact ⟨by kernel_rfl,of_decide_eq_true (by kernel_rfl)⟩) rfl
  (fun ds hds=>by
   match ds,hds with
   | [d,e,g],_=>rfl) rfl (tb:=4) (by kernel_rfl) Try.qv GR rtI rtI fun h v1 x1 v2 x2 v3 x3 h1 h2 h3=>by
    rw [(cC.1 h2).1,(cC.1 h3).1]
    exact tz h1
theorem moved_holds:Rows.CheckMovedSaid:=
 OpenClaim.holds_of_wide 12 Try.f12 rfl rfl rfl rfl rfl rfl rfl ⟨rfl,rfl,rfl,rfl,rfl⟩ rfl rfl rfl rfl rfl (by kernel_rfl) Try.func12 (by kernel_rfl)
  (of_decide_eq_true (by kernel_rfl)) (by unfold Func.isWrapper;first | (rw [if_pos (by decide +kernel)];kernel_rfl) | (rw [if_neg (by decide +kernel)];exact ⟨rfl,rfl⟩))
  (fun os started H enc _=>wv os started H enc)
end Go.Proofs.Ytfelpjfopgiabaa
