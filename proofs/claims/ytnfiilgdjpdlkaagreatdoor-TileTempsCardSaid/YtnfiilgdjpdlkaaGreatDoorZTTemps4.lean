/- A part of the proof: Hk, Oa, LftI, LftL, Ra, Ka, Kd, Ke, Ob, Oc, Od, Oe, Of, Og, Oh, Oi, Oj, Ok, Ol. -/
import Derived.Test.YtnfiilgdjpdlkaaGreatDoorZTTemps3
import Derived.Maps.RangeRun
set_option linter.unusedSimpArgs false
set_option linter.unusedVariables false
namespace Go.Proofs.YtnfiilgdjpdlkaaGreatDoor
open Go Go.Lft
theorem D0{β:Type}{x:Nat->β}{n:Nat}{y:β}:y∈rows x n↔∃i,i<n/\y=x i:=by simp only[rows,LF,LQ];exact⟨fun⟨i,h,e⟩=>⟨i,h,e.symm⟩,fun⟨i,h,e⟩=>⟨i,h,e.symm⟩⟩
theorem iT{f:ak}{n:Nat}{t:Th}:t∈thTo f n↔∃b,b<n/\t∈thB f b:=by
 induction n with
 | zero=>simp[thTo,up]
 | succ n ih=>
  rw[gJ,KD,ih];constructor
  ·rintro(⟨b,h1,h2⟩ | h)
   ·exact⟨b,by omega,h2⟩
   exact⟨n,by omega,h⟩
  rintro⟨b,h1,h2⟩;rcases KB b n with h | h
  ·exact .inl ⟨b,h,h2⟩
  rw[show b=n by omega]at h2;exact .inr h2
theorem km{f:ak}{b:Nat}{t:Th}:t∈thB f b↔(∃i,i<(nth f.blocks b).phis.length/\t=phiT f b i)\/(∃i,i<(nth f.blocks b).ins.length/\t=insT f b i)\/t=endT f b:=by simp only[thB,KD,D0,KF,or_assoc]
theorem AH{i:InsD}:(cQ i).length<=2:=by unfold cQ;split<;>(try split)<;>simp
structure ThOk (f:ak) (t:Th):Prop where
 blk:0<=t.blk/\t.blk<f.blocks.length
 place:-10000<=t.place/\t.place<=10000
 mks:t.mks.length<=10000
 tks:t.tks.length<=10000
 ins:0<=t.place->t.mks≠[]->t.place<(nth f.blocks t.blk.toNat).ins.length
theorem yU{f:ak}(hsm:SmF f){t:Th}(h:t∈aF f):ThOk f t:=by
 obtain⟨b,hb,h⟩:=iT.1 h;have s:=hsm.blk b hb;have sp:=s.phis;have si:=s.ins;rcases km.1 h with⟨i,hi,rfl⟩ | ⟨i,hi,rfl⟩ | rfl
 ·exact⟨⟨by simp[phiT],by simp[phiT];omega⟩,by simp only[phiT];omega,by simp[phiT],by simpa[phiT]using s.phi i hi,fun h=>by simp only[phiT]at h;omega⟩
 ·refine⟨⟨by simp[insT],by simp[insT];omega⟩,by simp only[insT];omega,KU AH (by decide),s.inn i hi,fun _ _=>by simp[insT];omega⟩
 exact⟨⟨by simp[endT],by simp[endT];omega⟩,by simp only[endT];omega,by simp[endT],s.args,fun _ h=>absurd rfl h⟩
theorem uH {f:ak} (hsm:SmF f) : ∀{n:Nat},n<=f.blocks.length->(thTo f n).length<=n*20001
 | 0,_=>by simp[thTo,up]
 | n+1,h=>by have ih:=uH hsm (n:=n) (by omega);have s:=hsm.blk n (by omega);have sp:=s.phis;have si:=s.ins;rw[gJ,KK,thB];simp only[KK,mj,KW];omega
theorem Ag{f:ak}(hsm:SmF f):(aF f).length<=200010000:=by have:=uH hsm (Kz f.blocks.length);have:=hsm.len;unfold aF;omega
abbrev WL:=List (Int × Int)
def bS (val:Int) (w:Int × Int) (l:WL) (n:Int):WL:=if n=val then l++[w] else l
def yh (val:Int) (l:WL) (t:Th):WL:=t.mks.foldl (bS val (t.blk,t.place)) l
def tw (val:Int) (l:WL) (t:Th):WL:=t.tks.foldl (bS val (t.blk,t.place)) l
variable{val:Int}
theorem j9{w:Int × Int}{ns:List Int}: ∀{l:WL},(ns.foldl (bS val w) l).length<=l.length+ns.length:=by
 induction ns with
 | nil=>simp
 | cons n ns ih=>
  intro l;rw[K1];have:=ih (l:=bS val w l n);have h2:(bS val w l n).length<=l.length+1:=by unfold bS;split<;>simp
  simp only[Lw];omega
theorem uk{F:WL->Th->WL}{c:Nat}{l:List Th}(h : ∀t∈l,∀x,(F x t).length<=x.length+c): ∀(x:WL),(l.foldl F x).length<=x.length+l.length*c:=by
 induction l with
 | nil=>simp
 | cons t l ih=>intro x;rw[K1];have h1:=ih (fun t ht=>h t (KJ _ ht)) (F x t);have h2:=h t (KI ..) x;simp only[Lw,Lv];omega
def qF (B1:Nat) (v1:Value) (l1:WL) (B2:Nat) (v2:Value) (l2:WL):Own:=fun k=>if k=(0,0) then bx T.bz B1 (Raw.mk v1) else if k=(0,1) then it T.jr v1 l1 else if k=(1,0) then bx T.bz B2 (Raw.mk v2) else if k=(1,1) then it T.jr v2 l2 else none
structure Fo (val:Int) (C B1 B2:Nat) (l1 l2:WL) (W:View) (h:Heap):Prop where
 box:aj W ⟨C,0,none⟩=some (.int .i64 val)
 ex : ∃v1 v2,Owns W h (qF B1 v1 l1 B2 v2 l2)
theorem Fo.le {val:Int} {C B1 B2:Nat} {l1 l2:WL} {W:View} {h:Heap} (k:Fo val C B1 B2 l1 l2 W h):W.le (vw h):=let ⟨_,_,w⟩:=k.ex;w.wle
theorem Fo.ext {val:Int} {C B1 B2:Nat} {l1 l2:WL} {W:View} {h h':Heap} (k:Fo val C B1 B2 l1 l2 W h) (hle:(vw h).le (vw h')):Fo val C B1 B2 l1 l2 (grow W h h') h':=
 ⟨ae (bO k.le) k.box,let ⟨v1,v2,w⟩:=k.ex;⟨v1,v2,w.ext hle⟩⟩
theorem EZ{blk place:Int}{C B1 B2:Nat}{l1 l2:WL}{ms ts:List Int}{vm vt:Value}{W:View}{h:Heap}(k:Fo val C B1 B2 l1 l2 W h)(hm:SlRd W vm ms)(ht:SlRd W vt ts)(r1:-10000<=blk/\blk<=10000)(r2:-10000<=place/\place<=10000)(b1:l1.length+ms.length<=2000100000000)(b2:l2.length+ts.length<=2000100000000):
  aw Tryz.prog N.bT #[.int .i64 blk,.int .i64 place,vm,vt,.pointer (some ⟨C,0,none⟩),.pointer (some ⟨B1,0,none⟩),.pointer (some ⟨B2,0,none⟩)] h
   (fun _ h2=>Fo val C B1 B2 (ms.foldl (bS val (blk,place)) l1) (ts.foldl (bS val (blk,place)) l2) W h2):=by
 refine ao (args:=[.int .i64 blk,.int .i64 place,vm,vt,.pointer (some ⟨C,0,none⟩),.pointer (some ⟨B1,0,none⟩),.pointer (some ⟨B2,0,none⟩)]) follows F.bT E.bT (Kw (by kernel_rfl)) fun K hK=>?_;have bm:=hm.bound;have bt:=ht.bound;dsimp only[L.bT];refine ab fun z hz=>?_;simp[(hm.mono k.le).len];refine aJ [0,1,3,4,5,6,15,16,17] (fun(_:Unit) i=>[.int .i64 blk,.int .i64 place,vt,.pointer (some ⟨C,0,none⟩),.pointer (some ⟨B1,0,none⟩),.pointer (some ⟨B2,0,none⟩),vm,.int .i64 ms.length,.int .i64 i])
  (fun _ i h1=>Fo val C B1 B2 ((ms.take i).foldl (bS val (blk,place)) l1) l2 W h1) ms.length ()
  rfl (by omega) rfl k (fun _ _=>rfl) (fun v i h1 hk m=>by simp) ?_ ?_
 ·rintro _ i h1 hlt k1 K2 hK2;have hm1:=hm.mono k1.le;have hst:(ms.take (i+1)).foldl (bS val (blk,place)) l1=bS val (blk,place) ((ms.take i).foldl (bS val (blk,place)) l1) (nth ms i):=by rw[KM hlt,MA,az hlt];rfl
  have hlen:=j9 (val:=val) (w:=(blk,place)) (ns:=ms.take i) (l:=l1);rw[Lp]at hlen;generalize (ms.take i).foldl (bS val (blk,place)) l1=y at k1 hst hlen;refine ab fun z hz=>?_;simp(disch:=omega)[hm1.idx1 rfl,hm1.int (View.le_refl _)];subst hz;refine ab fun z hz=>?_;simp[ae k1.le k1.box];subst hz;by_cases he:nth ms i=val
  ·rw[bS,if_pos he]at hst;obtain⟨v1,v2,w⟩:=k1.ex;have hbx:=(w.at (k:=(0,0)) (d:=Raw.mk v1) (B:=B1) (e:=T.bz) rfl).raw;simp[he,hbx];refine aq (z:=.agg #[.int .i64 0,.int .i64 0]) (places:=[(0,1),(1,1)]) (vs:=[(0,.int .i64 blk),(1,.int .i64 place)]) (cs:=#[.int .i64 blk,.int .i64 place]) (by kernel_rfl) (by kernel_rfl) (by simp) (by rfl) ?_;refine w.jd (k:=(0,1)) (α:=Int × Int) (d:=(blk,place)) rfl El.bz rfl (oV.2 ⟨rfl,⟨by omega,by omega⟩,by omega,by omega⟩) (by omega) (by omega) (fun _=>rfl) (fun _=>rfl) fun u v' h2 w2 hs2=>?_;have hc:=w2.cells (k:=(0,1)) (Own.an)
   refine w2.gZ (k:=(0,0)) (D:=Raw.mk v1) (B:=B1) (e:=T.bz) (Part.all) (d:=Raw.mk v') rfl (by kernel_rfl) rfl rfl (lZ.2 ⟨rfl,hc.2⟩) fun h3 w3 hs3=>?_;refine hK2 () _ _ rfl rfl ⟨k1.box,v',v2,w3.congr fun q=>?_⟩;rw[hst];unfold qF Own.upd;repeat' split
   all_goals first | rfl | simp_all
  rw[bS,if_neg he]at hst;simp[he];exact hK2 () _ _ rfl rfl (by rw[hst];exact k1)
 rintro _ h1 k1;rw[Lz]at k1;simp;subst hz;simp[(ht.mono k1.le).len];generalize ms.foldl (bS val (blk,place)) l1=m1 at k1 hK;refine aJ [0,1,4,5,6,31,32,33] (fun(_:Unit) i=>[.int .i64 blk,.int .i64 place,.pointer (some ⟨C,0,none⟩),.pointer (some ⟨B1,0,none⟩),.pointer (some ⟨B2,0,none⟩),vt,.int .i64 ts.length,.int .i64 i])
  (fun _ i h2=>Fo val C B1 B2 m1 ((ts.take i).foldl (bS val (blk,place)) l2) W h2) ts.length ()
  rfl (by omega) rfl k1 (fun _ _=>rfl) (fun v i h1 hk m=>by simp) ?_ ?_
 ·rintro _ i h2 hlt k2 K2 hK2;have ht2:=ht.mono k2.le;have hst:(ts.take (i+1)).foldl (bS val (blk,place)) l2=bS val (blk,place) ((ts.take i).foldl (bS val (blk,place)) l2) (nth ts i):=by rw[KM hlt,MA,az hlt];rfl
  have hlen:=j9 (val:=val) (w:=(blk,place)) (ns:=ts.take i) (l:=l2);rw[Lp]at hlen;generalize (ts.take i).foldl (bS val (blk,place)) l2=y at k2 hst hlen;refine ab fun z hz=>?_;simp(disch:=omega)[ht2.idx1 rfl,ht2.int (View.le_refl _)];subst hz;refine ab fun z hz=>?_;simp[ae k2.le k2.box];subst hz;by_cases he:nth ts i=val
  ·rw[bS,if_pos he]at hst;obtain⟨v1,v2,w⟩:=k2.ex;have hbx:=(w.at (k:=(1,0)) (d:=Raw.mk v2) (B:=B2) (e:=T.bz) rfl).raw;simp[he,hbx];refine aq (z:=.agg #[.int .i64 0,.int .i64 0]) (places:=[(0,1),(1,1)]) (vs:=[(0,.int .i64 blk),(1,.int .i64 place)]) (cs:=#[.int .i64 blk,.int .i64 place]) (by kernel_rfl) (by kernel_rfl) (by simp) (by rfl) ?_;refine w.jd (k:=(1,1)) (α:=Int × Int) (d:=(blk,place)) rfl El.bz rfl (oV.2 ⟨rfl,⟨by omega,by omega⟩,by omega,by omega⟩) (by omega) (by omega) (fun _=>rfl) (fun _=>rfl) fun u v' h3 w2 hs2=>?_;have hc:=w2.cells (k:=(1,1)) (Own.an)
   refine w2.gZ (k:=(1,0)) (D:=Raw.mk v2) (B:=B2) (e:=T.bz) (Part.all) (d:=Raw.mk v') rfl (by kernel_rfl) rfl rfl (lZ.2 ⟨rfl,hc.2⟩) fun h4 w3 hs3=>?_;refine hK2 () _ _ rfl rfl ⟨k2.box,v1,v',w3.congr fun q=>?_⟩;rw[hst];unfold qF Own.upd;repeat' split
   all_goals first | rfl | simp_all
  rw[bS,if_neg he]at hst;simp[he];exact hK2 () _ _ rfl rfl (by rw[hst];exact k2)
 rintro _ h2 k2;rw[Lz]at k2;simp;exact hK _ _ k2
def oE (val:Int) (l:List Th):WL:=l.foldl (yh val) []
def me (val:Int) (l:List Th):WL:=l.foldl (tw val) []
def mY (l1 l2:WL):Bool:=!decide (l1.length=1)||!decide (l2.length=1)||decide ((nth l1 0).2<0)||!decide ((nth l1 0).1=(nth l2 0).1)||decide ((nth l2 0).2<=(nth l1 0).2)
def kU (f:ak) (val:Int) (l1 l2:WL):Bool:=!mY l1 l2&&(decide ((nth (nth f.blocks (nth l1 0).1.toNat).ins (nth l1 0).2.toNat).dst=val)&&[1,2,4,11,12,13].contains (nth (nth f.blocks (nth l1 0).1.toNat).ins (nth l1 0).2.toNat).op)
def fH (f:ak) (val:Int):Bool:=kU f val (oE val (aF f)) (me val (aF f))
theorem pq{w x:Int × Int}{ns:List Int}: ∀{l:WL},x∈ns.foldl (bS val w) l↔x∈l\/(x=w/\val∈ns):=by
 induction ns with
 | nil=>simp
 | cons n ns ih=>intro l;rw[K1,ih,bS];grind
theorem qn{x:Int × Int}{l:List Th}: ∀{y:WL},x∈l.foldl (yh val) y↔x∈y\/∃t∈l,x=(t.blk,t.place)/\val∈t.mks:=by
 induction l with
 | nil=>simp
 | cons t l ih=>
  intro y;rw[K1,ih,yh,pq];simp only[KP,exists_eq_or_imp];constructor
  ·rintro((h | h) | h)
   ·exact .inl h
   ·exact .inr (.inl h)
   exact .inr (.inr h)
  rintro(h | h | h)
  ·exact .inl (.inl h)
  ·exact .inl (.inr h)
  exact .inr h
theorem sF{f:ak}{v:Value}{h:Heap}(hv:Rd (vw h) v f)(hsm:SmF f)(hval:I64 val):aw Tryz.prog N.ee #[v,.int .i64 val] h (fun u h'=>u = .bool (fH f val)/\(vw h).le (vw h')):=by
 refine ao (args:=[v,.int .i64 val]) follows F.ee E.ee (Kw (by kernel_rfl)) fun K hK=>?_;dsimp only[L.ee];refine ab fun z hz=>?_;simp;refine iG rfl hv fun h1 e1 hle1 hs1 hat=>?_;refine iG (α:=Int) rfl (bC.2 ⟨rfl,hval⟩) fun h2 e2 hle2 hs2 hat2=>?_;have hatf:=hat.mono hle2;obtain⟨u,hu,hur⟩:=hatf.au rfl;have hu:Un.ev (vw h2) (.au 2) (.pointer (some ⟨h.size,0,none⟩))=some u:=hu;obtain⟨cp,vb,cb⟩:=jE hatf;have cval:=hat2.int;generalize hB:h.size=B at hu cp cb;generalize hC:h1.size=C at cval;subst hz;refine ab fun z hz=>?_;simp;refine dS (z:=.slice none 0 0) (by kernel_rfl) ?_;refine dS (z:=.slice none 0 0) (by kernel_rfl) ?_;have q1:=bM h2 (.cells (Value.slice none 0 0).cells T.bz)
 generalize e3:h2.push (.cells (Value.slice none 0 0).cells T.bz)=h3 at q1;have b3:h3[h2.size]? = some (.cells (Value.slice none 0 0).cells T.bz (0,0)):=by rw[<-e3];simp
 have s3:h3.size=h2.size+1:=by rw[<-e3];simp
 have q2:=bM h3 (.cells (Value.slice none 0 0).cells T.bz);generalize e4:h3.push (.cells (Value.slice none 0 0).cells T.bz)=h4 at q2;have b4:h4[h3.size]? = some (.cells (Value.slice none 0 0).cells T.bz (0,0)):=by rw[<-e4];simp
 have hle24:=View.le_trans q1 q2;have w0:Owns (vw h2) h4 (qF h2.size (.slice none 0 0) [] h3.size (.slice none 0 0) []):=by
  have w1:=(Owns.start (h:=h2) (View.le_refl (vw h2))).add (k:=(0,0)) rfl (jB (h:=h3) (e:=T.bz) (d:=Raw.mk (.slice none 0 0)) b3 (lZ.2 ⟨rfl,rfl⟩) (by decide)) q1 (fun b hb=>by simp only[Value.ownBlock,Kx]at hb;omega);have w2:=w1.add (k:=(1,0)) rfl (jB (h:=h4) (e:=T.bz) (d:=Raw.mk (.slice none 0 0)) b4 (lZ.2 ⟨rfl,rfl⟩) (by decide)) q2 (fun b hb=>by simp only[Value.ownBlock,Kx]at hb;omega);have w3:=w2.add (k:=(0,1)) rfl (OwnT.nil (α:=Int × Int) (vw h2) h4 T.jr) (View.le_refl _) (fun b hb=>by simp[Value.ownBlock]at hb);have w4:=w3.add (k:=(1,1)) rfl (OwnT.nil (α:=Int × Int) (vw h2) h4 T.jr) (View.le_refl _) (fun b hb=>by simp[Value.ownBlock]at hb);refine w4.congr fun q=>?_;unfold qF Own.upd;repeat' split
  all_goals first | rfl | simp_all
 have k0:Fo val C h2.size h3.size [] [] (vw h2) h4:=⟨cval,_,_,w0⟩;have hu4:Un.ev (vw h4) (.au 2) (.pointer (some ⟨B,0,none⟩))=some u:=by have:=dY (ρ:=fun _=>none) (e:=.un (.au 2) (.con (.pointer (some ⟨B,0,none⟩)))) hle24 (v:=u) (by simpa using hu);simpa using this
 generalize h2.size=B1 at k0;generalize h3.size=B2 at k0;subst hz;refine ab fun z hz=>?_;simp[hu4];have hml:=Ag hsm;refine af (by kernel_rfl) (CS (caps:=[.pointer (some ⟨C,0,none⟩),.pointer (some ⟨B1,0,none⟩),.pointer (some ⟨B2,0,none⟩)]) (J:=fun l W h=>Fo val C B1 B2 (oE val l) (me val l) W h) hur hsm ⟨fun k=>k.le,fun k hle=>k.ext hle⟩ (by kernel_rfl) k0 fun l t W h5 vm vt hVW hpre k hm ht=>?_) ?_
 ·have hmem : ∀x∈l++[t],ThOk f x:=fun x hx=>yU hsm (hpre.subset hx);have hll:=hpre.length_le
  rw[KK,KW]at hll;have ot:=hmem t (by simp);have hl:=hsm.len;have c1:=uk (F:=yh val) (c:=10000) (l:=l) (fun t ht x=>KU j9 (Nat.add_le_add_left (hmem t (by simp[ht])).mks _)) [];have c2:=uk (F:=tw val) (c:=10000) (l:=l) (fun t ht x=>KU j9 (Nat.add_le_add_left (hmem t (by simp[ht])).tks _)) [];have c1':(oE val l).length<=l.length*10000:=by simpa[oE]using c1
  have c2':(me val l).length<=l.length*10000:=by simpa[me]using c2
  have o1:=ot.mks;have o2:=ot.tks;have ob:=ot.blk;refine(EZ k hm ht (by omega) ot.place (by omega) (by omega)).mono fun _ h6 k6=>?_;have e1:oE val (l++[t])=t.mks.foldl (bS val (t.blk,t.place)) (oE val l):=by rw[oE,MA];rfl
  have e2:me val (l++[t])=t.tks.foldl (bS val (t.blk,t.place)) (me val l):=by rw[me,MA];rfl
  simp only[e1,e2];exact k6
 rintro _ h5 ⟨W,hVW,k⟩;have hin : ∀w∈oE val (aF f),0<=w.1/\w.1<f.blocks.length/\(0<=w.2->w.2<(nth f.blocks w.1.toNat).ins.length):=by
  intro w hw;rcases qn.1 hw with h | ⟨t,ht,rfl,hv⟩
  ·cases h
  have ot:=yU hsm ht;exact⟨ot.blk.1,ot.blk.2,fun h=>ot.ins h (fun e=>by rw[e]at hv;cases hv)⟩
 have hfs:fH f val=kU f val (oE val (aF f)) (me val (aF f)):=rfl;rw[hfs]at hK;generalize oE val (aF f)=l1 at k hin hK;generalize me val (aF f)=l2 at k hK;obtain⟨v1,v2,w⟩:=k.ex;have hb1:=(w.at (k:=(0,0)) (d:=Raw.mk v1) (B:=B1) (e:=T.bz) rfl).raw;have hb2:=(w.at (k:=(1,0)) (d:=Raw.mk v2) (B:=B2) (e:=T.bz) rfl).raw;have n1:=w.now (k:=(0,1)) (v:=v1) (l:=l1) rfl;have n2:=w.now (k:=(1,1)) (v:=v2) (l:=l2) rfl;have hle5:=View.le_trans hVW w.wle;have hle:=View.le_trans hle1 (View.le_trans hle2 hle5);have cb5:=cb.2.mono hle5;have cc5:=ae hle5 cb.1;have cv5:=ae hle5 cval;subst hz;refine ab fun z hz=>?_;have no:mY l1 l2=true->K (.bool false) h5:=fun e=>hK _ _ ⟨by rw[kU,e];rfl,hle⟩
 by_cases hA:l1.length=1
 ·by_cases hB2:l2.length=1
  ·have i1 : ∀kd,Bn.ev (.idx 2) v1 (.int kd 0)=some (.pointer (some (slA v1))):=fun kd=>by have:=n1.idxn (N:=2) rfl (k:=kd) (i:=0) (by omega) (by omega);simpa[Addr.add]using this
   have i2 : ∀kd,Bn.ev (.idx 2) v2 (.int kd 0)=some (.pointer (some (slA v2))):=fun kd=>by have:=n2.idxn (N:=2) rfl (k:=kd) (i:=0) (by omega) (by omega);simpa[Addr.add]using this
   obtain⟨a0,a1⟩:=n1.Bk (View.le_refl _) (i:=0) (by omega);obtain⟨d0,d1⟩:=n2.Bk (View.le_refl _) (i:=0) (by omega);have z1 : ∀a:Addr,a.add (0*2)=a:=fun a=>by simp[Addr.add]
   rw[z1]at a0 a1 d0 d1;have hw:=hin (nth l1 0) (cj (by omega));have hbad:mY l1 l2=(decide ((nth l1 0).2<0)||!decide ((nth l1 0).1=(nth l2 0).1)||decide ((nth l2 0).2<=(nth l1 0).2)):=by simp[mY,hA,hB2]
   rw[hbad]at no;have hfb:kU f val l1 l2=(!(decide ((nth l1 0).2<0)||!decide ((nth l1 0).1=(nth l2 0).1)||decide ((nth l2 0).2<=(nth l1 0).2))&&(decide ((nth (nth f.blocks (nth l1 0).1.toNat).ins (nth l1 0).2.toNat).dst=val)&&[1,2,4,11,12,13].contains (nth (nth f.blocks (nth l1 0).1.toNat).ins (nth l1 0).2.toNat).op)):=by rw[kU,hbad]
   rw[hfb]at hK;generalize nth l1 0=w1 at a0 a1 hw no hK;generalize nth l2 0=w2 at d0 d1 no hK;by_cases c3:w1.2<0
   ·simp[hb1,hb2,n1.len,n2.len,hA,hB2,i1,i2,a0,a1,d0,d1,c3];exact no (by simp[c3])
   by_cases c4:w1.1=w2.1
   ·by_cases c5:w2.2<=w1.2
    ·simp[hb1,hb2,n1.len,n2.len,hA,hB2,i1,i2,a0,a1,d0,d1,c3,c4,c5];exact no (by simp[c5])
    have hs:(!(decide (w1.2<0)||!decide (w1.1=w2.1)||decide (w2.2<=w1.2)))=true:=by simp[c3,c4,c5]
    rw[hs,MB]at hK;have hw2:=hw.2.2 (by omega);obtain⟨ul,hul⟩:=((cb5.at (i:=w1.1.toNat) (by omega)).part BlkD.lV).sl;rw[<-az (by omega)]at hul;have hul1:aj (vw h5) (((slA vb).add (w1.1.toNat*6)).add 1)=some ul:=hul.1;obtain⟨ui,hui,huir⟩:=hul.2.wh rfl (N:=5) rfl (i:=w1.2.toNat) (by omega);have hli:=hul.2;generalize nth (nth f.blocks w1.1.toNat).ins w1.2.toNat=x at huir hK;simp[hb1,hb2,n1.len,n2.len,hA,hB2,i1,i2,a0,a1,d0,d1,c3,c5,<-c4];subst hz;refine ab fun z hz=>?_;have z0 : ∀a:Addr,a.add 0=a:=fun a=>by simp[Addr.add]
    refine aS (vw h5) (View.le_refl _) ?_;simp(disch:=omega)[hb1,i1,a0,a1,cc5,cb5.idxn (N:=6) rfl,hul1,hli.idxn (N:=5) rfl,hui _ (View.le_refl _)];refine dS (z:=.agg #[.int .i64 0,.int .i64 0,.int .i64 0,.slice none 0 0,.int .i32 0]) (by kernel_rfl) ?_;have hle6:=bM h5 (.cells (Value.cells (.agg #[.int .i64 0,.int .i64 0,.int .i64 0,.slice none 0 0,.int .i32 0])) T.eV);have hb6:(h5.push (.cells (Value.cells (.agg #[.int .i64 0,.int .i64 0,.int .i64 0,.slice none 0 0,.int .i32 0])) T.eV))[h5.size]? = some (.cells (Value.cells (.agg #[.int .i64 0,.int .i64 0,.int .i64 0,.slice none 0 0,.int .i32 0])) T.eV (0,0)):=by simp
    generalize h5.push (.cells (Value.cells (.agg #[.int .i64 0,.int .i64 0,.int .i64 0,.slice none 0 0,.int .i32 0])) T.eV)=h6 at hle6 hb6;refine⟨hle6,?_⟩;obtain⟨g1,g2,g3⟩:=gD huir;refine eX (g:=h5.size) (o:=0) (n:=5) (v:=ui) (by kernel_rfl) rfl rfl g2 g3 hb6 (by simp) fun h7 hs7 ⟨row,hr7,he7⟩ ho7=>?_;have hrow:row=ui.cells:=by have g2':ui.cells.size=5:=g2;rw[<-Array.toList_inj,he7];simp
    rw[hrow]at hr7;have hle7:(vw h5).le (vw h7):=fun b o hb=>by have hlt:=View.lt (View.le_refl (vw h5)) hb;show h7[b]? = _;rw[ho7 b (by omega)];exact hle6 b o hb
    have hat7:At (vw h7) ⟨h5.size,0,none⟩ x:=pM (show vw h7 h5.size=_ from hr7) (huir.mono hle7);obtain⟨q0,q1,_⟩:=kP hat7;have ro:=(hat7.part InsD.qw).rng;generalize h5.size=D at q0 q1;subst hz;have cv7:=ae hle7 cv5;refine ab fun z hz=>?_;by_cases c6:x.dst=val
    ·simp[q0,q1,cv7,c6];refine kR (α:=Int) (X:=nothing) (ds:=[1,2,4,11,12,13]) (vs:=[.int .i64 1,.int .i64 2,.int .i64 4,.int .i64 11,.int .i64 12,.int .i64 13]) rfl El.aP (by simp) ⟨nY (by omega) (by omega),nY (by omega) (by omega),nY (by omega) (by omega),nY (by omega) (by omega),nY (by omega) (by omega),nY (by omega) (by omega),trivial⟩ bs rfl (by omega) fun u8 h8 hle8 hsz8 hu8 _=>?_;simp[ae hle8 q0];refine af (by kernel_rfl) (sC (hu8 (vw h8) bs rfl)) ?_;rintro _ _ ⟨rfl,rfl⟩;simp;subst hz;simp;exact hK _ _ ⟨by simp[c6],View.le_trans hle (View.le_trans hle7 hle8)⟩
    simp[q0,q1,cv7,c6];subst hz;simp;exact hK _ _ ⟨by simp[c6],View.le_trans hle hle7⟩
   simp[hb1,hb2,n1.len,n2.len,hA,hB2,i1,i2,a0,a1,d0,d1,c3,c4];exact no (by simp[c4])
  have hB3:¬(l2.length:Int)=1:=by omega
  simp[hb1,hb2,n1.len,n2.len,hA,hB3];exact no (by simp[mY,hB2])
 have hA3:¬(l1.length:Int)=1:=by omega
 simp[hb1,hb2,n1.len,n2.len,hA3];exact no (by simp[mY,hA])
end Go.Proofs.YtnfiilgdjpdlkaaGreatDoor
namespace Go.Lft
open Go
structure aW where
 op:Int
 d:Int
 e:Int
 a:Int
 b:Int
 c:Int
 imm:I32
 args:List Int
 deriving Inhabited,DecidableEq
instance:Rep aW:=Rep.via fun x=>Cat.mk x.op (Cat.mk x.d (Cat.mk x.e (Cat.mk x.a (Cat.mk x.b (Cat.mk x.c (Cat.mk x.imm x.args))))))
structure EndD where
 op:Int
 a:Int
 b:Int
 to:List Int
 imm:I32
 deriving Inhabited,DecidableEq
instance:Rep EndD:=Rep.via fun x=>Cat.mk x.op (Cat.mk x.a (Cat.mk x.b (Cat.mk x.to x.imm)))
structure FitD where
 takes:List Int
 inner:List Int
 code:List aW
 fin:EndD
 deriving Inhabited,DecidableEq
instance:Rep FitD:=Rep.via fun x=>Cat.mk x.takes (Cat.mk x.inner (Cat.mk x.code x.fin))
structure bN where
 f:ak
 i:InsD
 t:dm
 term:Bool
 temp:Int
instance:Rep bN:=Rep.via fun x=>Cat.mk x.f (Cat.mk x.i (Cat.mk x.t (Cat.mk x.term x.temp)))
structure fg where
 pat:Int
 cost:Int
 deriving Inhabited,DecidableEq
instance:Rep fg:=Rep.via fun x=>Cat.mk x.pat x.cost
end Go.Lft
namespace Go.Proofs.YtnfiilgdjpdlkaaGreatDoor
open Go Go.Lft
def fm (f:ak):List InsD:=f.blocks.flatMap BlkD.ins
def iP (v:Int) (i:InsD):Bool:=!decide (i.op=16)&&decide (i.dst=v)
def nK (f:ak) (v:Int):Option InsD:=(fm f).find? (iP v)
def gW:InsD:=⟨0,0,0,[],⟨0⟩⟩
def IF (f:ak) (v op:Int):Option InsD->InsD × Bool
 | none=>(gW,false)
 | some i=>(i,decide (i.op=op)&&fH f v)
def aK (f:ak) (v op:Int):InsD × Bool:=IF f v op (nK f v)
def inR (n lo hi:Int):Bool:=decide (lo<=n)&&decide (n<=hi)
def fu (f:ak) (v lo hi:Int):Int × Bool:=((aK f v 1).1.imm.v,(aK f v 1).2&&inR (aK f v 1).1.imm.v lo hi)
def eg:EndD:=⟨0,0,0,[],⟨0⟩⟩
def Fl:FitD:=⟨[],[],[],eg⟩
def w32 (n:Int):I32:=⟨IntKind.i32.wrap n⟩
def immS (f:ak) (i:InsD) (m lo hi sign:Int):Option FitD:=
 if(fu f (nth i.args 1) lo hi).2 then some ⟨[nth i.args 0],[nth i.args 1],[⟨m,i.dst,0,nth i.args 0,0,0,w32 (sign*(fu f (nth i.args 1) lo hi).1),[]⟩],eg⟩ else none
def iW (i:InsD) (op plain:Int) (m:aW):aW:=if op=15 then{ m with d:=i.dst } else if m.op=plain then{ m with b:=nth i.args 1 } else{ m with c:=nth i.args 1 }
def memS (f:ak) (i:InsD) (temp op plain sum:Int):Nat->Option FitD
 | 0=>if inR i.imm.v 0 255 then some ⟨nth i.args 0::i.args.drop 1,[],[iW i op plain ⟨plain,0,0,nth i.args 0,0,0,i.imm,[]⟩],eg⟩ else none
 | 1=>if(aK f (nth i.args 0) 2).2 then
   if(fu f (nth (aK f (nth i.args 0) 2).1.args 1) (-2147483648) 2147483647).2&&inR ((fu f (nth (aK f (nth i.args 0) 2).1.args 1) (-2147483648) 2147483647).1+i.imm.v) 0 255 then
    some ⟨nth (aK f (nth i.args 0) 2).1.args 0::i.args.drop 1,[nth i.args 0,nth (aK f (nth i.args 0) 2).1.args 1],
     [iW i op plain ⟨plain,0,0,nth (aK f (nth i.args 0) 2).1.args 0,0,0,w32 ((fu f (nth (aK f (nth i.args 0) 2).1.args 1) (-2147483648) 2147483647).1+i.imm.v),[]⟩],eg⟩
   else none
  else none
 | 2=>if(aK f (nth i.args 0) 2).2&&decide (i.imm.v=0) then
   some ⟨nth (aK f (nth i.args 0) 2).1.args 0::nth (aK f (nth i.args 0) 2).1.args 1::i.args.drop 1,[nth i.args 0],
    [iW i op plain ⟨sum,0,0,nth (aK f (nth i.args 0) 2).1.args 0,nth (aK f (nth i.args 0) 2).1.args 1,0,⟨0⟩,[]⟩],eg⟩
  else none
 | _=>some ⟨nth i.args 0::i.args.drop 1,[],[⟨4,temp,0,0,0,0,i.imm,[]⟩,iW i op plain ⟨sum,0,0,nth i.args 0,temp,0,⟨0⟩,[]⟩],eg⟩
def opOf (pat:Nat):Int:=
 if pat=1\/pat=2 then 1 else if 3<=pat/\pat<=15 then pat-1 else if pat=16\/pat=22 then 2 else if pat=17 then 3 else if pat=18 then 5 else if 19<=pat/\pat<=21 then pat-11
 else if 23<=pat/\pat<=26 then 15 else if 27<=pat/\pat<=30 then 16 else if pat=31 then 17 else if pat=32 then 18 else 0
def doS (f:ak) (i:InsD) (temp:Int) (pat:Nat):Option FitD:=
 if pat=1 then(if inR i.imm.v (-32768) 32767 then some ⟨[],[],[⟨3,i.dst,0,0,0,0,i.imm,[]⟩],eg⟩ else none)
 else if pat=2 then some ⟨[],[],[⟨4,i.dst,0,0,0,0,i.imm,[]⟩],eg⟩
 else if pat<=15 then some ⟨i.args,[],[⟨pat+2,i.dst,0,nth i.args 0,nth i.args 1,0,⟨0⟩,[]⟩],eg⟩
 else if pat=16 then immS f i 18 (-128) 127 1
 else if pat=17 then immS f i 18 (-127) 128 (-1)
 else if pat=18 then immS f i 19 (-128) 127 1
 else if pat<=21 then immS f i (pat+1) 0 31 1
 else if pat=22 then(if(aK f (nth i.args 0) 4).2 then
   some ⟨[nth (aK f (nth i.args 0) 4).1.args 0,nth (aK f (nth i.args 0) 4).1.args 1,nth i.args 1],[nth i.args 0],[⟨23,i.dst,0,nth (aK f (nth i.args 0) 4).1.args 0,nth (aK f (nth i.args 0) 4).1.args 1,nth i.args 1,⟨0⟩,[]⟩],eg⟩
  else none)
 else if pat<=26 then memS f i temp 15 24 25 (pat-23)
 else if pat<=30 then memS f i temp 16 26 27 (pat-27)
 else if pat=31 then some ⟨i.args,[],[⟨28,i.dst,0,0,0,0,i.imm,i.args⟩],eg⟩
 else some ⟨i.args,[],[⟨29,i.dst,i.two,nth i.args 0,nth i.args 1,0,⟨0⟩,[]⟩],eg⟩
def patS (f:ak) (i:InsD) (temp pat:Int):Option FitD:=if 1<=pat/\pat<=32/\i.op=opOf pat.toNat then doS f i temp pat.toNat else none
def gN (f:ak) (t:dm) (pat:Int):Option FitD:=
 if pat=0/\t.kind=1 then some ⟨[],[],[],⟨1,0,0,t.to,⟨0⟩⟩⟩
 else if pat=0/\t.kind=4 then some ⟨t.args,[],[],⟨7,if t.args=[] then -1 else nth t.args 0,0,[],⟨0⟩⟩⟩
 else if pat=0/\t.kind=5 then some ⟨[],[],[],⟨8,0,0,[],t.imm⟩⟩
 else if pat=33/\t.kind=2 then some ⟨t.args,[],[],⟨2,nth t.args 0,0,t.to,⟨0⟩⟩⟩
 else if(34<=pat/\pat<=36)/\t.kind=2 then
  (if(aK f (nth t.args 0) (pat-23)).2 then some ⟨(aK f (nth t.args 0) (pat-23)).1.args,t.args,[],⟨pat-31,nth (aK f (nth t.args 0) (pat-23)).1.args 0,nth (aK f (nth t.args 0) (pat-23)).1.args 1,t.to,⟨0⟩⟩⟩ else none)
 else if pat=37/\t.kind=3 then some ⟨t.args,[],[],⟨6,nth t.args 0,0,t.to,⟨0⟩⟩⟩
 else none
def oD:dm:=⟨0,[],[],⟨0⟩⟩
def Am:bN:=⟨⟨0,[]⟩,gW,oD,false,0⟩
def dz (f:ak) (b p:Int):Bool:=decide (0<=b)&&decide (b<f.blocks.length)&&decide (0<=p)&&decide (p<=(nth f.blocks b.toNat).ins.length)
def eZ (f:ak) (b p temp:Int):bN:=
 if p=(nth f.blocks b.toNat).ins.length then⟨f,gW,(nth f.blocks b.toNat).term,true,temp⟩ else⟨f,nth (nth f.blocks b.toNat).ins p.toNat,oD,false,temp⟩
def tryS (s:bN) (pat:Int):Option FitD:=if s.term then gN s.f s.t pat else patS s.f s.i s.temp pat
end Go.Proofs.YtnfiilgdjpdlkaaGreatDoor
namespace Go.Lft
open Go
section
variable {po po2 po3:OP} {pp:PP}
structure RawN (n:Nat) where
 l:List Value
instance {n:Nat}:Rep (RawN n) where
 n:=n+1
 agg:=true
 rd:=fun _ cs d=>cs=d.l/\cs.length=n+1/\∀u∈cs,u.oneCell'=true
 mono:=fun _ h=>h
 len:=fun h=>h.2.1
 one:=fun h=>by cases h
 flat:=fun h u hu=>h.2.2 u hu
 pos:=Nat.succ_pos _
 fG:=fun h=>h
variable{n:Nat}
theorem qu{H:View}{l:List Value}(h1:l.length=n+1)(h2 : ∀u∈l,u.oneCell'=true):Rd H (.agg l.toArray) (RawN.mk (n:=n) l):=by unfold Rd;rw[if_pos (show Rep.agg (RawN n)=true from rfl)];exact⟨_,rfl,rfl,h1,h2⟩
theorem RawN.p{o:Nat}(ho:o<=n):Part (RawN n) Raw o (fun d=>⟨d.l.getD o undef⟩) (fun d x=>⟨d.l.set o x.v⟩) where
 fits:=by show o+1<=n+1;omega
 get:=by
  rintro H cs d ⟨rfl,h1,h2⟩
  have hlt:o<d.l.length:=by omega
  have e:(d.l.drop o).take (Rep.n Raw)=[d.l.getD o undef]:=by
   have:d.l.getD o undef=d.l[o]:=by simp[hlt]
   rw[this]
   show(d.l.drop o).take 1=_
   rw[KY hlt];rfl
  refine⟨e,?_⟩
  have:d.l.getD o undef=d.l[o]:=by simp[hlt]
  show(d.l.getD o undef).oneCell'=true
  rw[this];exact h2 _ (Ly hlt)
 set:=by
  rintro H cs us d x ⟨rfl,h1,h2⟩ ⟨rfl,h3⟩
  have hlt:o<d.l.length:=by omega
  have e:d.l.take o++[x.v]++d.l.drop (o+Rep.n Raw)=d.l.set o x.v:=by
   show d.l.take o++[x.v]++d.l.drop (o+1)=_
   rw[Nh,if_pos hlt];simp
  refine⟨e,by simp[e,h1],fun u hu=>?_⟩
  rw[e]at hu
  rcases MZ hu with h | rfl
  ·exact h2 _ h
  ·exact h3
section
variable {W:View} {h:Heap} {o:Own} {k:Key}
theorem Owns.raw {n:Nat} {e:TypeId} {B:Nat} {l:List Value} (w:Owns W h o) (hk:o k=bx e B (RawN.mk (n:=n) l)) {i:Nat} (hi:i<=n):aj (vw h) ⟨B,i,none⟩=some (l.getD i undef):=by have:=((w.at hk).part (RawN.p hi)).raw;simpa using this
theorem Owns.uh{e:TypeId}{B:Nat}{l:List Value}(w:Owns W h o)(hk:o k=bx e B (RawN.mk (n:=n) l)):Un.ev (vw h) (.au (n+1)) (.pointer (some ⟨B,0,none⟩))=some (.agg l.toArray):=by obtain⟨cs,hcs,he,h1,h2⟩:=w.atW hk;have he:cs=l:=he;subst he;have h1:cs.length=n+1:=h1;have:=gy hcs (n+1) 0 #[] (by omega);simp only[Un.ev,vP,KS];rw[this];simp[h1]
theorem Owns.dZ{P:Program}{ty:TypeId}{us:List (Nat × Value)}{t ty2:TypeId}{z:Value}{x y:Operand}{us2:Value->List (Nat × Value)}{l:List Value}{K:Value->Heap->Prop}(w:Owns W h o)(hk:o k=none)(hz:(P.info? t).map (·.zero)=some (some z))(hzc:z.cells.size=n+1)(hsz:dp P t=some (n+1))(hl:l.length=n+1)(hn:n+1<=1000)(hone : ∀c∈l,c.oneCell'=true)(hx : ∀p,asg (us2 p) x=p)(hy : ∀p,asg (us2 p) y = .agg l.toArray)(hK : ∀h':Heap,(vw h).le (vw h')->Owns W h' (o.upd k (bx t h.size (RawN.mk (n:=n) l)))->K (.pointer (some ⟨h.size,0,none⟩)) h'):
  @step po P (.alloc t) ty us h fun p h2=>@step po2 P (.store t x y) ty2 (us2 p) h2 fun _ h3=>K p h3:=
 gS (v:=.agg l.toArray) hz hzc hsz (by simpa[Value.cells]using hl) (by simpa[Value.cells]using hone) hx hy fun h' hle hs hb=>hK h' hle
  (w.add hk (jB (d:=RawN.mk (n:=n) l) hb (qu hl hone) hn) hle fun b hb=>by simp only[Value.ownBlock,Kx]at hb;omega)
theorem Owns.cO{P:Program}{ty:TypeId}{us:List (Nat × Value)}{t:TypeId}{z:Value}{K:Value->Heap->Prop}(w:Owns W h o)(hk:o k=none)(hz:(P.info? t).map (·.zero)=some (some z))(hzc:z.cells.size=n+1)(hn:n+1<=1000)(hone : ∀c∈z.cells.toList,c.oneCell'=true)(hK : ∀h':Heap,(vw h).le (vw h')->Owns W h' (o.upd k (bx t h.size (RawN.mk (n:=n) z.cells.toList)))->K (.pointer (some ⟨h.size,0,none⟩)) h'):
  @step po P (.alloc t) ty us h K:=by
 refine dS hz ?_;have q1:=bM h (.cells z.cells t);have b2:(h.push (.cells z.cells t))[h.size]? = some (.cells z.cells t (0,0)):=by simp
 generalize h.push (.cells z.cells t)=h2 at q1 b2;have hz2:(Value.agg z.cells).cells=z.cells:=rfl;refine hK h2 q1 (w.add hk (jB (v:=.agg z.cells) (d:=RawN.mk (n:=n) z.cells.toList) (by rw[hz2];exact b2) ?_ hn) q1 fun b hb=>by simp only[Value.ownBlock,Kx]at hb;omega);have:=qu (n:=n) (H:=W) (l:=z.cells.toList) (by simpa using hzc) hone;simpa using this
theorem Owns.dK{P:Program}{ty:TypeId}{us:List (Nat × Value)}{i:Nat}{e t:TypeId}{B:Nat}{l:List Value}{x y:Operand}{u:Value}{K:Value->Heap->Prop}(w:Owns W h o)(hk:o k=bx e B (RawN.mk (n:=n) l))(hi:i<=n)(hsz:dp P t=some 1)(hx:asg us x = .pointer (some ⟨B,i,none⟩))(hy:asg us y=u)(hu:u.oneCell'=true)(hK : ∀h',Owns W h' (o.upd k (bx e B (RawN.mk (n:=n) (l.set i u))))->(∀X:View,X.le (vw h)->X B=none->X.le (vw h'))->K undef h'):@step po P (.store t x y) ty us h K:=
 w.oZ (po:=po) (RawN.p hi) (d:=⟨u⟩) hk hsz hx hy (lZ.2 ⟨rfl,hu⟩) hK
theorem Owns.kZ{P:Program}{ty:TypeId}{us:List (Nat × Value)}{α:Type}[r:Rep α]{e:TypeId}{t:TypeId}{bytes:Nat}{z:Value}{K:Value->Heap->Prop}(w:Owns W h o)(hk:o k=none)(hT:fe P t e (Rep.n α) bytes z)(hK : ∀v h',(vw h).le (vw h')->v.oneCell'=true->Owns W h' (o.upd k (it e v ([]:List α)))->(∀X:View,X.le (vw h)->Av X v)->K v h'):@step po P (.buildSlice t 0 #[]) ty us h K:=
 qE (α:=α) hT fun h' hle hs own=>hK _ h' hle rfl (w.add hk (own W) hle fun b hb=>by simp only[Value.ownBlock,Kx]at hb;omega) fun X hX b hb=>by simp only[Value.ownBlock,Kx]at hb;subst hb;exact View.cM hX (Kz _)
end
abbrev forC (a i c:Nat) (ks ks2:List Nat) (ce:E) (body:LC):LC:=
 .loop (.seq (.seq (.reg false (.fin ks [(c,ce)] [])) (.cond (.tmp c) [c] .skip (.exit a)))
  (.seq body (.reg false (.fin ks2 [(i,.bin (.arith .add) (.tmp i) (.con (.int .i64 1)))] []))))
theorem D1{P:Program}{Q:Post}{ρ:Env}{h:Heap}{a i c:Nat}{ks ks2:List Nat}{ce:E}{body:LC}{σ:Type}(kp:List Nat)(vals:σ->Nat->List Value)(J:σ->Nat->Heap->Prop)(n:Nat)(s0:σ)(hok:sJ kp ks ks2 c i=true)(hn:n<=9223372036854775806)(h0:bF kp ρ=kp.zip (vals s0 0))(hj:J s0 0 h)(hi : ∀s k,look (kp.zip (vals s k)) i=some (.int .i64 k))(hb : ∀s k h,k<=n->J s k h->ev (look (kp.zip (vals s k))) (vw h) ce=some (.bool (decide (k<n))))(round : ∀s k h,k<n->J s k h->∀K:Env->Heap->Prop,(∀s' ρ' h',look ρ' i=some (.int .i64 k)->bF kp (setE ρ' i (.int .i64 ((k:Int)+1)))=kp.zip (vals s' (k+1))->J s' (k+1) h'->K ρ' h')->body.wp P (eU K (eY a Q)) (kp.zip (vals s k)) h)(done : ∀s h,J s n h->Q .normal (kp.zip (vals s n)) h):LC.wp P (forC a i c ks ks2 ce body) (eY a Q) ρ h:=by
 simp only[sJ,Lo,KE,L7,bne_iff_ne,Lt,beq_iff_eq,ne_eq]at hok;refine iV kp (fun m ρ h=>∃s k,k<=n/\ρ=kp.zip (vals s k)/\m=n-k/\J s k h) n ⟨s0,0,by omega,h0,by omega,hj⟩ ?_;rintro m ρ h ⟨s,k,hk,rfl,rfl,hJ⟩ K hK;have hkill:ck (kp.zip (vals s k)) ks=kp.zip (vals s k):=my fun p hp=>(hok p.1 (zip_fst hp)).1.1;have hne : ∀p∈kp.zip (vals s k),p.1≠c:=fun p hp=>(hok p.1 (zip_fst hp)).1.2
 have hk2 : ∀v,ck (setE (kp.zip (vals s k)) c v) [c]=kp.zip (vals s k):=fun v=>nh hne;have hlk : ∀v,look (setE (kp.zip (vals s k)) c v) c=some v:=fun v=>by rw[ag,if_pos rfl]
 simp only[tg,lT,jt,gE,kv,lL,hb s k h hk hJ,KS,jK,lP,true_and,dD,hkill,fU,mB,nT,hlk,kT,hk2,qP,qG,nj,nf,if_true];refine⟨fun hlt=>?_,fun hge=>?_⟩
 ·have hlt':k<n:=by omega
  rw[lJ];refine round s k h hlt' hJ _ fun s' ρ' h' hl he hJ'=>?_;simp only[lT,jt,gE,kv,lL,kY,nT,hl,lP,true_and,KS,yg,KS,xP,jK,dD,fU,true_and];rw[bE (by omega) (by omega)];refine hK (n-(k+1)) _ _ (by omega) ⟨s',k+1,by omega,?_,rfl,hJ'⟩;rw[<-he];refine mA fun t ht=>?_;rw[ag,ag,ah];split
  ·rfl
  rename_i hti;rcases(hok t ht).2 with e | e
  ·exact absurd e.symm hti
  rw[e];rfl
 have:k=n:=by omega
 subst this;exact done s h hJ
end
end Go.Lft
namespace Go.Lft
open Go
variable {po po2 po3:OP} {pp:PP}
section
variable {W:View} {h:Heap} {o:Own} {k:Key}
end
section
variable {po:OP}
end
end Go.Lft
namespace Go.Lft
open Go
variable {po:OP}
theorem ER {P:Program} {ty t rt e:TypeId} {us:List (Nat × Value)} {h:Heap} {K:Value->Heap->Prop} {x y:Operand} {a:Option Addr} {n c:Nat} (hu:P.underlying t=some (.slice e)) (hx:asg us x = .slice a n c) (hy:asg us y = .slice none 0 0) (hk:K (.bool a.isNone) h):step P (.binOp .eql t x y rt) ty us h K:=by
 refine dq (cr fun w hw=>⟨_,w,?_,Same.refl _,by rw[hw];exact hk⟩);simp only[bD,execOp,hx,hy];have e1:(Op.equal t (.slice a n c) (.slice none 0 0)).run P w = .ok a.isNone w:=by show(Op.equalIn (9999+1) t _ _).run P w=_;rw[Op.equalIn];cases a<;>simp[run_underlying hu]
 simp[eqGuard,binOp,e1]
end Go.Lft
namespace Go.Proofs.YtnfiilgdjpdlkaaGreatDoor
open Go Go.Lft
theorem nN{d:InsD}{v:Value}{h:Heap}(hd:Rd (vw h) v d):aw Tryz.prog N.fN #[v] h (fun u h'=>(vw h).le (vw h')/\SlRd (fresh h h') u (cQ d)/\(d.op=16->u = .slice none 0 0)):=by
 refine ao (args:=[v]) follows F.fN E.fN (Kw (by kernel_rfl)) fun K hK=>?_;simp[L.fN];refine iG rfl hd fun h1 _ hle1 hsz1 hat=>?_;obtain⟨c0,c1,c2,va,ca⟩:=kP hat;have r1:=(hat.part InsD.iN).rng;have r2:=(hat.part InsD.xe).rng;simp[c0];refine⟨fun e1=>hK _ _ ⟨hle1,by simpa[cQ,e1]using aI,fun _=>rfl⟩,fun e1=>⟨fun e2=>?_,fun e2=>?_⟩⟩
 ·simp[c1,c2];refine kR (X:=nothing) (ds:=[d.dst,d.two]) (vs:=[.int .i64 d.dst,.int .i64 d.two]) rfl El.aP (by simp) ⟨bC.2 ⟨rfl,r1⟩,bC.2 ⟨rfl,r2⟩,trivial⟩ bs rfl (by omega) fun u h2 hle2 hsz2 hu _=>?_;exact hK _ _ ⟨View.le_trans hle1 hle2,by simpa[cQ,e2]using hu _ bs (by unfold fresh;rw[if_neg (by omega)]),fun e=>absurd e e1⟩
 simp[c1];refine kR (X:=nothing) (ds:=[d.dst]) (vs:=[.int .i64 d.dst]) rfl El.aP (by simp) ⟨bC.2 ⟨rfl,r1⟩,trivial⟩ bs rfl (by omega) fun u h2 hle2 hsz2 hu _=>?_;exact hK _ _ ⟨View.le_trans hle1 hle2,by simpa[cQ,e1,e2]using hu _ bs (by unfold fresh;rw[if_neg (by omega)]),fun e=>absurd e e1⟩
def xy (op n:Int):Bool:=if op=1 then decide (n=0) else if op=15 then decide (n=1) else if op=17 then decide (n<=4) else decide (n=2)
def vz (t:dm):Bool:=
 if t.kind=1 then decide ((t.args.length:Int)=0)&&decide ((t.to.length:Int)=1)
 else if t.kind=2 then decide ((t.args.length:Int)=1)&&decide ((t.to.length:Int)=2)
 else if t.kind=3 then decide ((t.args.length:Int)=1)&&decide ((2:Int)<=t.to.length)&&decide ((t.to.length:Int)<=65)
 else if t.kind=4 then decide ((t.args.length:Int)<=1)&&decide ((t.to.length:Int)=0)
 else if t.kind=5 then decide ((t.args.length:Int)=0)&&decide ((t.to.length:Int)=0) else false
def cY (f:ak) (b:Int):List Int:=sift (fun a=>decide (b∈(nth f.blocks a).term.to)) (fun a=>(a:Int)) f.blocks.length
theorem xR{H:View}{v:Value}{l:List BlkD}(h:SlRd H v l){i:Nat}(hi:i<l.length): ∃u,Sl H ((((slA v).add (i*6)).add 2).add 2) u (nth l i).term.to:=by rw[az hi];exact((((h.at hi).part BlkD.nm).part dm.yb)).sl
theorem sM{f:ak}{b:Int}{v:Value}{h:Heap}(hv:Rd (vw h) v f)(hn:f.blocks.length<=1000000):
  aw Tryz.prog N.dV #[v,.int .i64 b] h (fun u h'=>(vw h).le (vw h')/\SlRd (fresh h h') u (cY f b)):=by
 refine ao (args:=[v,.int .i64 b]) follows F.dV E.dV (Kw (by kernel_rfl)) fun K hK=>?_;dsimp only[L.dV];refine ab fun z hz=>?_;simp;refine iG rfl hv fun h1 _ hle1 hsz1 hat=>?_;obtain⟨_,vb,cb⟩:=jE hat;generalize h.size=B at cb;subst hz;refine ab fun z hz=>?_;simp;refine qE (α:=Int) El.aP fun h2 hle2 hsz2 own2=>?_;have m0:=Mine.empty (V:=nothing) (W:=nothing) (View.le_refl (vw h1)) hle2 bs (Old.nothing _ _) own2;generalize Value.slice (some ⟨h1.size,0,none⟩) 0 0=v0 at m0;have cb2:=cb.2;have cc2:=cb.1;subst hz;refine ab fun z hz=>?_;simp;refine dI [1,2,5,6] (fun(r:Value) k=>[.int .i64 b,.pointer (some ⟨B,0,none⟩),r,.int .i64 k]) (fun r k h3=>Mine nothing h1 h3 nothing T.int r (sift (fun a=>decide (b∈(nth f.blocks a).term.to)) (fun a=>(a:Int)) k)) f.blocks.length v0
  rfl (by omega) rfl m0 (fun _ _=>rfl) (fun v k h3 hk m=>by simp[ae m.old cc2,(cb2.mono m.old).len]) ?_ ?_
 ·rintro r k h3 hlt m K2 hK2;have hle3:=m.old;have cb3:=cb2.mono hle3;obtain⟨w,hw⟩:=xR cb3 hlt;have hwb:=hw.2.bound;have hsl:=oe (p:=fun a=>decide (b∈(nth f.blocks a).term.to)) (x:=fun a=>(a:Int)) k;refine ab fun y hy=>?_;simp(disch:=omega)[ae hle3 cc2,cb3.idxn (N:=6) rfl,hw.1];subst hy;simp;refine dI [1,2,5,6,7,8] (fun(_:Unit) j=>[.int .i64 b,.pointer (some ⟨B,0,none⟩),r,.int .i64 k,w,.int .i64 j]) (fun _ j h4=>h4=h3/\∀i,i<j->nth (nth f.blocks k).term.to i≠b) (nth f.blocks k).term.to.length ()
   rfl (by omega) rfl ⟨rfl,fun i hi=>by omega⟩ (fun _ _=>rfl) (fun v j h4 hk m=>by simp[hw.2.len]) ?_ ?_
  ·rintro _ j h3 hltj ⟨rfl,hpre⟩ K3 hK3;simp(disch:=omega)[hw.2.idx1 rfl,hw.2.int (View.le_refl _)];refine⟨fun e=>?_,fun e=>hK3 () _ _ rfl rfl ⟨rfl,fun i hi=>?_⟩⟩
   ·have hmem:b∈(nth f.blocks k).term.to:=e▸cj hltj;refine m.push (d:=(k:Int)) El.aP (by simp<;>rfl) (nY (by omega) (by omega)) (by omega) (by omega) (fun _=>by simp) (fun _=>by simp) fun u v' h5 m'=>?_;exact hK2 v' _ _ rfl rfl (by rw[mJ (by simpa using hmem)];exact m')
   rcases KB i j with h | h
   ·exact hpre i h
   have:i=j:=by omega
   subst this;exact e
  rintro _ h3 ⟨rfl,hpre⟩;have hmem:¬b∈(nth f.blocks k).term.to:=fun hm=>by obtain⟨i,hi,e⟩:=KV hm;exact hpre i hi (by rw[az hi];exact e)
  simp;exact hK2 r _ _ rfl rfl (by rw[ll (by simpa using hmem)];exact m)
 rintro r h3 m;simp;subst hz;simp;exact hK _ _ ⟨View.le_trans hle1 m.old,m.fresh.mono (uv hle1)⟩
theorem Gn{H:View}{u:Value}{d:InsD}(h:Rd H u d): ∃va,u = .agg #[.int .i64 d.op,.int .i64 d.dst,.int .i64 d.two,va,.int .i32 d.imm.v]/\(I64 d.op/\I64 d.dst/\I64 d.two/\-2147483648<=d.imm.v/\d.imm.v<=2147483647)/\SlRd H va d.args:=by obtain⟨cs,rfl,c1,r1,e1,⟨rfl,h1⟩,c2,r2,e2,⟨rfl,h2⟩,c3,r3,e3,⟨rfl,h3⟩,c4,r4,e4,⟨va,rfl,h4⟩,h5,h6⟩:=h;subst e4 e3 e2;exact⟨va,by rw[<-Array.toList_inj.1 ((by rw[e1,h5];rfl):cs.toList = #[Value.int .i64 d.op,.int .i64 d.dst,.int .i64 d.two,va,.int .i32 d.imm.v].toList)],⟨h1,h2,h3,h6⟩,h4⟩
theorem EP{H:View}{d:Int}{v:Value}{l:List InD}(h1:I64 d)(h2:SlRd H v l):Rd H (.agg #[.int .i64 d,v]) (PhiD.mk d l):=⟨_,rfl,[.int .i64 d],[v],rfl,⟨rfl,h1⟩,v,rfl,h2⟩
theorem zq{H:View}{op d two:Int}{imm:I32}{v:Value}{l:List Int}(h:I64 op/\I64 d/\I64 two/\-2147483648<=imm.v/\imm.v<=2147483647)(h2:SlRd H v l):Rd H (.agg #[.int .i64 op,.int .i64 d,.int .i64 two,v,.int .i32 imm.v]) (InsD.mk op d two l imm):=
 ⟨_,rfl,[.int .i64 op],_,rfl,⟨rfl,h.1⟩,[.int .i64 d],_,rfl,⟨rfl,h.2.1⟩,[.int .i64 two],_,rfl,⟨rfl,h.2.2.1⟩,[v],_,rfl,⟨v,rfl,h2⟩,rfl,h.2.2.2⟩
theorem xI{α β:Type}[Rep α][Rep β]{H:View}{v:Value}{l:List α}{l2:List β}(h:SlRd H v l)(hn:Rep.n α=Rep.n β)(hl:l.length=l2.length)(hc : ∀i (h1:i<l.length) (h2:i<l2.length) cs,Rep.rd H cs l[i]->Rep.rd H cs l2[i]):SlRd H v l2:=by
 obtain⟨a,cap,rfl,h1,h2,h3⟩:=h;refine⟨a,cap,by rw[hl],by omega,by omega,?_⟩;rcases h3 with rfl | ⟨ad,rfl,hs,hat⟩
 ·left;exact KN (by rw[<-hl];rfl)
 refine .inr ⟨ad,rfl,hs,fun i hi=>?_⟩;obtain⟨cs,g1,g2⟩:=hat i (by omega);rw[<-hn];exact⟨cs,g1,hc i (by omega) hi cs g2⟩
theorem HM{x:Int}: ∃r:Nat,Bn.ev (.bits .and) (.int .i64 x) (.int .i64 65535)=some (.int .i64 r)/\r<65536:=by
 refine⟨(BitVec.ofInt 64 x&&& BitVec.ofInt 64 65535).toNat,?_,?_⟩
 ·have hlt:(BitVec.ofInt 64 x&&& BitVec.ofInt 64 65535).toNat<=65535:=by rw[BitVec.toNat_and];exact KU Nat.and_le_right (by decide)
  have e:Bn.ev (.bits .and) (.int .i64 x) (.int .i64 65535)=some (.int .i64 (IntKind.i64.wrap ((BitVec.ofInt 64 x&&& BitVec.ofInt 64 65535).toNat))):=rfl;rw[e,bE (by omega) (by omega)]
 rw[BitVec.toNat_and];exact NN Nat.and_le_right (by decide)
abbrev Q3:=Cat Int (Cat Int Int)
instance:Inhabited Q3:=⟨⟨0,0,0⟩⟩
end Go.Proofs.YtnfiilgdjpdlkaaGreatDoor
namespace Go.Lft
open Go
theorem zW : ∀(l:List Value) (k off:Nat) (A:Array Value),off+k+l.length<=A.size->
  ((l.zipIdx k).foldl (fun(cs:Array Value) (p:Value × Nat)=>cs.setIfInBounds (off+p.2) p.1) A).toList=A.toList.take (off+k)++l++A.toList.drop (off+k+l.length)
 | [],k,off,A,_=>by simp
 | x::l,k,off,A,h=>by
  simp only[Lw]at h;rw[Nt,K1,zW l (k+1) off _ (by simp;omega)];have hk:off+k<A.toList.length:=by simp;omega
  simp only[NH,Lw];rw[show off+(k+1)=off+k+1 by omega,KM (by simpa using hk),NA (Kz _),List.getElem_set_self,List.drop_set_of_lt (by omega),show off+k+1+l.length=off+k+(l.length+1) by omega];simp
theorem lQ {s:Nat} : ∀(vs:List Value) (k:Nat) (A:Array Value),(∀v∈vs,v.cells.size=s)->(k+vs.length)*s=A.size->
  ∃B,Instr.fill (fun j=>some (j*s,s)) A ((vs.zipIdx k).map fun p=>(p.2,p.1))=some B/\B.toList=A.toList.take (k*s)++vs.flatMap fun v=>v.cells.toList
 | [],k,A,_,hk=>⟨A,rfl,by rw[KG (by simp at hk;simp[hk])];simp⟩
 | v::vs,k,A,hv,hk=>by
  have hc:=hv v (KI ..);have e1:(k+(vs.length+1))*s=(k+1+vs.length)*s:=by rw[show k+(vs.length+1)=k+1+vs.length by omega]
  have e2:(k+1+vs.length)*s=k*s+s+vs.length*s:=by rw[MQ,MQ,NS]
  simp only[Lw]at hk;have e3:(k+1)*s=k*s+s:=by rw[MQ,NS]
  have hF:(v.cells.zipIdx.foldl (fun(cs:Array Value) (x:Value × Nat)=>cs.setIfInBounds (k*s+x.2) x.1) A).toList=A.toList.take (k*s)++v.cells.toList++A.toList.drop (k*s+s):=by rw[<-Array.foldl_toList,Array.toList_zipIdx];have:=zW v.cells.toList 0 (k*s) A (by simp[hc];omega);simpa[hc]using this
  obtain⟨B,h1,h2⟩:=lQ vs (k+1) (v.cells.zipIdx.foldl (fun(cs:Array Value) (x:Value × Nat)=>cs.setIfInBounds (k*s+x.2) x.1) A) (fun u hu=>hv u (KJ _ hu)) (by rw[<-Array.length_toList,hF];simp[hc];omega);refine⟨B,?_,?_⟩
  ·simp only[Nt,LK,Instr.fill,hc];rw[if_neg (by simp;omega)];exact h1
  rw[h2,hF,e3,MP,Ln (by simp[hc];omega),KG (by simp[hc];omega),KL]
theorem uj {s:Nat} : ∀(vs:List Value) (i:Nat) (hi:i<vs.length),(∀v∈vs,v.cells.size=s)->((vs.flatMap fun v=>v.cells.toList).drop (i*s)).take s=vs[i].cells.toList
 | v::vs,0,_,hv=>by have hc:=hv v (KI ..);simp only[MV,LW,MP,LS];rw[Ln (by simp[hc]),KG (by simp[hc])]
 | v::vs,i+1,hi,hv=>by have hc:=hv v (KI ..);have:=uj vs i (by simpa using hi) fun u hu=>hv u (KJ _ hu);rw[MP,show(i+1)*s=v.cells.toList.length+i*s by rw[MQ];simp[hc];omega,<-List.drop_drop,List.drop_left];simpa using this
theorem ke{po:OP}{α:Type}[Rep α]{P:Program}{t e n:Nat}{ty:TypeId}{bytes:Nat}{z:Value}{ps:Array (Nat × Operand)}{us:List (Nat × Value)}{vs:List Value}{ds:List α}{h:Heap}{K:Value->Heap->Prop}(hT:fe P t e (Rep.n α) bytes z)(hp:ps.map (fun p=>(p.1,asg us p.2))=((vs.zipIdx 0).map fun p=>(p.2,p.1)).toArray){X:View}(hr:ov X vs ds)(hn:ds.length=n)(hb:n*Rep.n α<=16777216)(hb2:n<=16777216)(hk : ∀u h',(vw h).le (vw h')->h'.size=h.size+1->(∀Y:View,X.le Y->Y h.size=h'[h.size]?->SlRd Y u ds)->u.ownBlock=some h.size->K u h'):step P (.buildSlice t n ps) ty us h K:=by
 have hl:=hr.len;have hcs : ∀v∈vs,v.cells.size=Rep.n α:=fun v hv=>by obtain⟨i,hi,rfl⟩:=KV hv;exact(gD (hr.get i hi (by omega))).2.1
 obtain⟨B,h1,h2⟩:=lQ (s:=Rep.n α) vs 0 ((Array.range (n*Rep.n α)).map (z.cells[· % z.cells.size]!)) hcs (by simp;rw[hl,hn]);have hB:B=(vs.flatMap fun v=>v.cells.toList).toArray:=by rw[<-Array.toList_inj,h2];simp
 refine qp hT hb hp h1 ?_;have hle:=bM h (.cells B e);refine hk _ _ hle (by simp) (fun Y hY hYb=>⟨some ⟨h.size,0,none⟩,n,by rw[hn],by omega,by omega,.inr ⟨_,rfl,rfl,fun i hi=>?_⟩⟩) rfl;have hi2:i<vs.length:=by omega
 have hrd:=gD (hr.get i hi2 hi);rw[bw rfl];refine⟨vs[i].cells.toList,⟨B,e,(0,0),rfl,by rw[hYb];simp,?_⟩,Rep.mono hY hrd.1⟩;rw[hB,LG];have:=uj vs i hi2 hcs;rw[MC,hrd.2.1];exact this
section
open Go Go.MapKept Go.ChangeMaps
variable {po:OP} {pp:PP}
structure It (h:Heap) (b r:Nat) (left:List (Value × Value)):Prop where
 ex : ∃es since seen c0,h[b]? = some (.map es since)/\Stamped es since/\h[r]? = some (.mapIter (some b) since seen c0)/\since<=c0/\left=(leftOf es seen).toList.map fun x=>(x.key,x.val)
structure ItE (h:Heap) (b r:Nat) (p:Value × Value) (left:List (Value × Value)):Prop where
 ex : ∃(es:Array MapEntry) (since:Nat) (seen:Array Nat) (e:MapEntry),h[b]? = some (.map es since)/\Stamped es since/\h[r]? = some (.mapIter (some b) since (seen.push e.born) since)/\e∈es.toList/\p=(e.key,e.val)/\left=(leftOf es (seen.push e.born)).toList.map fun x=>(x.key,x.val)
section
variable {P:Program} {ty:TypeId} {us:List (Nat × Value)} {h h':Heap} {K:Value->Heap->Prop} {d:TypeDesc} {b r:Nat} {f:Value->Option Value} {t k e:TypeId} {left:List (Value × Value)} {p:Value × Value}
theorem It.same(m:It h b r left)(e1:h'[b]? = h[b]?)(e2:h'[r]? = h[r]?):It h' b r left:=by obtain⟨es,s,q,c,a1,a2,a3,a4⟩:=m.ex;exact⟨es,s,q,c,by rw[e1];exact a1,a2,by rw[e2];exact a3,a4⟩
theorem ItE.it(m:ItE h b r p left):It h b r left:=by obtain⟨es,s,q,e,a1,a2,a3,a4,a5,a6⟩:=m.ex;exact⟨es,s,_,s,a1,a2,a3,Kz _,a6⟩
theorem It.lt(m:It h b r left):b<h.size/\r<h.size/\b≠r:=by obtain⟨es,s,q,c,a1,a2,a3,a4⟩:=m.ex;refine⟨(KC.1 a1).1,(KC.1 a3).1,?_⟩;rintro rfl;rw[a1]at a3;cases a3
theorem zO{x:Operand}(ht:P.underlying t=some (.map k e))(hx:asg us x = .map (some b))(m:dL d h b f)(hk : ∀h' left,(vw h).le (vw h')->h'.size=h.size+1->It h' b h.size left->(left.map (·.1)).Nodup->(∀u v,(u,v)∈left->IsKey d u)->(∀u v,IsKey d u->((u,v)∈left↔f u=some v))->K (.pointer (some ⟨h.size,0,none⟩)) h'):step P (.range t x) ty us h K:=by
 obtain⟨es,c,h1,h2,h3,h4⟩:=m.ex;refine dq (cr fun w hw=>?_);subst hw;refine⟨.pointer (some ⟨w.heap.size,0,none⟩),w.alloc (.mapIter (some b) c #[] c),?_,ic _ _,?_⟩
 ·simp only[bD,execOp,hx];simp[Instr.range,run_underlying ht,MapKept.run_getObj_map h1,newObj,Result.andThen];rfl
 have hb:(w.alloc (.mapIter (some b) c #[] c)).heap[b]? = some (.map es c):=(heap_alloc_old _ _ (KC.1 h1).1).trans h1;have hl:(leftOf es #[]).toList=es.toList:=by unfold leftOf;simp
 refine hk _ (es.toList.map fun x=>(x.key,x.val)) (by show(vw w.heap).le (vw (w.heap.push _));exact bM _ _) (by simp) ⟨es,c,#[],c,hb,h3,World.alloc_heap_new w _,Kz _,by rw[hl]⟩ ?_ ?_ ?_
 ·rw[List.map_map];exact h3.2.2
 ·intro u v hu;obtain⟨x,hx,e⟩:=LF.1 hu;cases e;exact h2 x hx
 intro u v hu;rw[<-h4 u v hu,LF];constructor
 ·rintro⟨x,hx,e⟩;cases e;exact⟨x,hx,rfl,rfl⟩
 rintro⟨x,hx,e1,e2⟩;exact⟨x,hx,by rw[e1,e2]⟩
theorem CO{es:Array MapEntry}{c:Nat}{seen:Array Nat}{e:MapEntry}(hs:Stamped es c)(he:e∈(leftOf es seen).toList): ∃a z,(leftOf es seen).toList=a++e::z/\(leftOf es (seen.push e.born)).toList=a++z:=by
 obtain⟨a,z,q⟩:=List.append_of_mem he;refine⟨a,z,q,?_⟩;have e1:(leftOf es (seen.push e.born)).toList=(leftOf es seen).toList.filter fun x=>x.born != e.born:=by unfold leftOf;rw[M0,M0,List.filter_filter];refine NV fun x _=>?_;rw[K0];simp;exact⟨fun h=>⟨h.2,h.1⟩,fun h=>⟨h.2,h.1⟩⟩
 have nd:((leftOf es seen).toList.map (·.born)).Nodup:=by refine hs.2.1.sublist (List.Sublist.map _ ?_);unfold leftOf;rw[M0];exact List.filter_sublist
 rw[q]at nd;rw[MK,LK]at nd;obtain⟨n1,n2,n3⟩:=L5.1 nd;obtain⟨n4,n5⟩:=Ny.1 n2;rw[e1,q,NI,List.filter_cons_of_neg (by simp)];have f1:a.filter (fun x=>x.born != e.born)=a:=List.filter_eq_self.2 fun x hx=>by simp only[bne_iff_ne,ne_eq];exact fun h=>n3 x.born (M3 hx) e.born (KI) h
 have f2:z.filter (fun x=>x.born != e.born)=z:=List.filter_eq_self.2 fun x hx=>by simp only[bne_iff_ne,ne_eq];exact fun h=>n4 (h▸M3 (f:=(·.born)) hx)
 rw[f1,f2]
theorem Ap{x:Operand}(hx:asg us x = .pointer (some ⟨r,0,none⟩))(m:It h b r left)(h0:left=[]->K (.tuple #[.bool false]) h)(h1 : ∀a p z h',left=a++p::z->h'.size=h.size->(∀j,j≠r->h'[j]? = h[j]?)->ItE h' b r p (a++z)->K (.tuple #[.bool true,p.1,p.2]) h'):step P (.next x false) ty us h K:=by
 obtain⟨es,s,q,c,a1,a2,a3,a4,rfl⟩:=m.ex;have hne:b≠r:=m.lt.2.2;refine dq (cr fun w hw=>?_);subst hw;rcases run_next_at (P:=P) w ty r b s c q es s a3 a1 a2.1 a4 with⟨hz,hrun⟩ | ⟨e,he,w1,hw1,hrun⟩
 ·refine⟨.tuple #[.bool false],w,?_,Same.refl _,h0 ?_⟩
  ·simp only[bD,execOp,hx];simp[hrun]
  rw[List.map_eq_nil_iff];exact KN (by simpa using hz)
 obtain⟨a,z,e1,e2⟩:=CO a2 he;have hh:w1.heap=w.heap:=by rcases hw1 with rfl | rfl<;>rfl
 have hset:=MapKept.heap_set (o':=Obj.mapIter (some b) s (q.push e.born) s) a3;refine⟨.tuple #[.bool true,e.key,e.val],setBlock w1 r (.mapIter (some b) s (q.push e.born) s),by simp only[bD,execOp,hx];simp[hrun],?_,h1 (a.map fun x=>(x.key,x.val)) (e.key,e.val) (z.map fun x=>(x.key,x.val)) _ (by rw[e1];simp) (by simp[setBlock,hh]) ?_ ?_⟩
 ·have s1:Same w w1:=by
   rcases hw1 with rfl | rfl
   ·exact Same.refl _
   exact⟨rfl,rfl,rfl,Kz _,fun _ h=>h⟩
  refine s1.trans (Same.pV rfl rfl rfl (by simp[setBlock]) (g:=r) (by rw[hh];exact a3) (by simp) fun k _ hk=>?_);simp only[setBlock,hh];exact hset.2 k hk
 ·intro j hj;simp only[setBlock,hh];exact hset.2 j hj
 refine⟨es,s,q,e,?_,a2,?_,?_,rfl,?_⟩
 ·simp only[setBlock,hh];rw[hset.2 b hne];exact a1
 ·simp only[setBlock,hh];exact hset.1
 ·unfold leftOf at he;rw[M0]at he;exact(ML.1 he).1
 rw[e2,MK]
theorem EI{x:Operand}(hx:asg us x = .pointer (some ⟨r,0,none⟩))(m:ItE h b r p left)(hk:K (.tuple #[p.1,p.2]) h):step P (.entry x) ty us h K:=by obtain⟨es,s,q,e,a1,a2,a3,a4,rfl,_⟩:=m.ex;refine dq (cr fun w hw=>?_);subst hw;refine⟨.tuple #[e.key,e.val],w,?_,Same.refl _,hk⟩;simp only[bD,execOp,hx];simp[run_entry_at (P:=P) w r b s q es s e a3 a1 a4 a2.2.1]
end
def Hy:Value->Bool
 | .nilFunc=>true
 | .func _ _ _=>true
 | _=>false
def ym:Value->Bool
 | .nilFunc=>true
 | _=>false
theorem Gy{P:Program}{ty t rt:TypeId}{us:List (Nat × Value)}{h:Heap}{K:Value->Heap->Prop}{x y:Operand}{v:Value}{ps rs:Array TypeId}{vr:Bool}(hu:P.underlying t=some (.func ps rs vr))(hv:Hy v=true)(hx:asg us x=v)(hy:asg us y = .nilFunc)(hk:K (.bool (ym v)) h):step P (.binOp .eql t x y rt) ty us h K:=by
 refine dq (cr fun w hw=>⟨_,w,?_,Same.refl _,by rw[hw];exact hk⟩);simp only[bD,execOp,hx,hy];have e1:(Op.equal t v .nilFunc).run P w = .ok (ym v) w:=by show(Op.equalIn (9999+1) t _ _).run P w=_;rw[Op.equalIn];cases v<;>simp[Hy]at hv<;>simp[run_underlying hu,ym]
 simp[eqGuard,binOp,e1]
end
end Go.Lft
namespace Go.Lft
open Go
variable {po po2:OP}
theorem aW.qw:Part aW Int 0 aW.op (fun d x=>{ d with op:=x }):=(Part.fst Part.all).via (fun _=>rfl) fun _ _=>rfl
theorem aW.JJ:Part aW Int 1 aW.d (fun d x=>{ d with d:=x }):=(Part.snd (Part.fst Part.all)).via (fun _=>rfl) fun _ _=>rfl
theorem aW.Kv:Part aW Int 2 aW.e (fun d x=>{ d with e:=x }):=(Part.snd (Part.snd (Part.fst Part.all))).via (fun _=>rfl) fun _ _=>rfl
theorem aW.I5:Part aW Int 3 aW.a (fun d x=>{ d with a:=x }):=(Part.snd (Part.snd (Part.snd (Part.fst Part.all)))).via (fun _=>rfl) fun _ _=>rfl
theorem aW.Hr:Part aW Int 4 aW.b (fun d x=>{ d with b:=x }):=(Part.snd (Part.snd (Part.snd (Part.snd (Part.fst Part.all))))).via (fun _=>rfl) fun _ _=>rfl
theorem aW.Kc:Part aW Int 5 aW.c (fun d x=>{ d with c:=x }):=(Part.snd (Part.snd (Part.snd (Part.snd (Part.snd (Part.fst Part.all)))))).via (fun _=>rfl) fun _ _=>rfl
theorem aW.gP:Part aW I32 6 aW.imm (fun d x=>{ d with imm:=x }):=(Part.snd (Part.snd (Part.snd (Part.snd (Part.snd (Part.snd (Part.fst Part.all))))))).via (fun _=>rfl) fun _ _=>rfl
theorem aW.fj:Part aW (List Int) 7 aW.args (fun d x=>{ d with args:=x }):=(Part.snd (Part.snd (Part.snd (Part.snd (Part.snd (Part.snd (Part.snd Part.all))))))).via (fun _=>rfl) fun _ _=>rfl
theorem EndD.qw:Part EndD Int 0 EndD.op (fun d x=>{ d with op:=x }):=(Part.fst Part.all).via (fun _=>rfl) fun _ _=>rfl
theorem EndD.I5:Part EndD Int 1 EndD.a (fun d x=>{ d with a:=x }):=(Part.snd (Part.fst Part.all)).via (fun _=>rfl) fun _ _=>rfl
theorem EndD.Hr:Part EndD Int 2 EndD.b (fun d x=>{ d with b:=x }):=(Part.snd (Part.snd (Part.fst Part.all))).via (fun _=>rfl) fun _ _=>rfl
theorem EndD.yb:Part EndD (List Int) 3 EndD.to (fun d x=>{ d with to:=x }):=(Part.snd (Part.snd (Part.snd (Part.fst Part.all)))).via (fun _=>rfl) fun _ _=>rfl
theorem EndD.gP:Part EndD I32 4 EndD.imm (fun d x=>{ d with imm:=x }):=(Part.snd (Part.snd (Part.snd (Part.snd Part.all)))).via (fun _=>rfl) fun _ _=>rfl
theorem FitD.BV:Part FitD (List Int) 0 FitD.takes (fun d x=>{ d with takes:=x }):=(Part.fst Part.all).via (fun _=>rfl) fun _ _=>rfl
theorem FitD.Ga:Part FitD (List Int) 1 FitD.inner (fun d x=>{ d with inner:=x }):=(Part.snd (Part.fst Part.all)).via (fun _=>rfl) fun _ _=>rfl
theorem FitD.H3:Part FitD (List aW) 2 FitD.code (fun d x=>{ d with code:=x }):=(Part.snd (Part.snd (Part.fst Part.all))).via (fun _=>rfl) fun _ _=>rfl
theorem FitD.JH:Part FitD EndD 3 FitD.fin (fun d x=>{ d with fin:=x }):=(Part.snd (Part.snd (Part.snd Part.all))).via (fun _=>rfl) fun _ _=>rfl
theorem bN.Ks:Part bN ak 0 bN.f (fun d x=>{ d with f:=x }):=(Part.fst Part.all).via (fun _=>rfl) fun _ _=>rfl
theorem bN.Kj:Part bN InsD 2 bN.i (fun d x=>{ d with i:=x }):=(Part.snd (Part.fst Part.all)).via (fun _=>rfl) fun _ _=>rfl
theorem bN.Kt:Part bN dm 7 bN.t (fun d x=>{ d with t:=x }):=(Part.snd (Part.snd (Part.fst Part.all))).via (fun _=>rfl) fun _ _=>rfl
theorem bN.nm:Part bN Bool 11 bN.term (fun d x=>{ d with term:=x }):=(Part.snd (Part.snd (Part.snd (Part.fst Part.all)))).via (fun _=>rfl) fun _ _=>rfl
theorem bN.Au:Part bN Int 12 bN.temp (fun d x=>{ d with temp:=x }):=(Part.snd (Part.snd (Part.snd (Part.snd Part.all)))).via (fun _=>rfl) fun _ _=>rfl
theorem fg.Hh:Part fg Int 0 fg.pat (fun d x=>{ d with pat:=x }):=(Part.fst Part.all).via (fun _=>rfl) fun _ _=>rfl
theorem fg.HW:Part fg Int 1 fg.cost (fun d x=>{ d with cost:=x }):=(Part.snd Part.all).via (fun _=>rfl) fun _ _=>rfl
theorem iF {H:View} {op d e a b c:Int} {imm:I32} {va:Value} {args:List Int} (h : ∀x∈[op,d,e,a,b,c],-9223372036854775808<=x/\x<=9223372036854775807) (hi:-2147483648<=imm.v/\imm.v<=2147483647) (ha:SlRd H va args) :
  Rd H (.agg #[.int .i64 op,.int .i64 d,.int .i64 e,.int .i64 a,.int .i64 b,.int .i64 c,.int .i32 imm.v,va]) (⟨op,d,e,a,b,c,imm,args⟩:aW):=by
 simp only[KP,MX,or_false,forall_eq_or_imp,forall_eq]at h;obtain⟨h1,h2,h3,h4,h5,h6⟩:=h;have hl:Rep.rd H [va] args:=by have:=eE.2 ha;unfold Rd at this;simpa[Rep.agg]using this
 unfold Rd;rw[if_pos (show Rep.agg _=true from rfl)];exact⟨_,rfl,[_],_,rfl,⟨rfl,h1⟩,[_],_,rfl,⟨rfl,h2⟩,[_],_,rfl,⟨rfl,h3⟩,[_],_,rfl,⟨rfl,h4⟩,[_],_,rfl,⟨rfl,h5⟩,[_],_,rfl,⟨rfl,h6⟩,[_],[_],rfl,⟨rfl,hi⟩,hl⟩
theorem kF {H:View} {op a b:Int} {imm:I32} {vt:Value} {l:List Int} (h : ∀x∈[op,a,b],-9223372036854775808<=x/\x<=9223372036854775807) (hi:-2147483648<=imm.v/\imm.v<=2147483647) (ht:SlRd H vt l) :
  Rep.rd H [.int .i64 op,.int .i64 a,.int .i64 b,vt,.int .i32 imm.v] (⟨op,a,b,l,imm⟩:EndD):=by
 simp only[KP,MX,or_false,forall_eq_or_imp,forall_eq]at h;obtain⟨h1,h2,h3⟩:=h;have hl:Rep.rd H [vt] l:=by have:=eE.2 ht;unfold Rd at this;simpa[Rep.agg]using this
 exact⟨[_],_,rfl,⟨rfl,h1⟩,[_],_,rfl,⟨rfl,h2⟩,[_],_,rfl,⟨rfl,h3⟩,[_],[_],rfl,hl,⟨rfl,hi⟩⟩
theorem ld {H:View} {v1 v2 v3:Value} {takes inner:List Int} {code:List aW} {ce:List Value} {fin:EndD} (h1:SlRd H v1 takes) (h2:SlRd H v2 inner) (h3:SlRd H v3 code) (h4:Rep.rd H ce fin) :
  Rd H (.agg (v1::v2::v3::ce).toArray) (⟨takes,inner,code,fin⟩:FitD):=by
 have q1:Rep.rd H [v1] takes:=by have:=eE.2 h1;unfold Rd at this;simpa[Rep.agg]using this
 have q2:Rep.rd H [v2] inner:=by have:=eE.2 h2;unfold Rd at this;simpa[Rep.agg]using this
 have q3:Rep.rd H [v3] code:=by have:=eE.2 h3;unfold Rd at this;simpa[Rep.agg]using this
 unfold Rd;rw[if_pos (show Rep.agg _=true from rfl)];exact⟨_,rfl,[_],_,rfl,q1,[_],_,rfl,q2,[_],_,rfl,q3,h4⟩
theorem Owns.pL {W:View} {h:Heap} {o:Own} {k:Key} {P:Program} {ty:TypeId} {us:List (Nat × Value)} {n:Nat} {e t:TypeId} {B:Nat} {l l':List Value} {x y:Operand} {K:Value->Heap->Prop} (w:Owns W h o) (hk:o k=bx e B (RawN.mk (n:=n) l)) (hsz:dp P t=some (n+1)) (hx:asg us x = .pointer (some ⟨B,0,none⟩)) (hy:asg us y = .agg l'.toArray) (hl:l'.length=n+1) (h1 : ∀c∈l',c.oneCell'=true)
  (hK : ∀h',Owns W h' (o.upd k (bx e B (RawN.mk (n:=n) l')))->(∀X:View,X.le (vw h)->X B=none->X.le (vw h'))->K undef h'):@step po P (.store t x y) ty us h K:=
 w.oZ (po:=po) (Part.all) (d:=RawN.mk (n:=n) l') hk hsz hx hy (qu hl h1) hK
theorem iq [pp:PP] {P:Program} {m:Option View} {x y:Reg} {Q:Env->Heap->Prop} {ρ:Env} {h:Heap} (h1:eJ P m x Q ρ h) (h2:eJ P m y Q ρ h):eJ P m (.both x y) Q ρ h:=⟨h1,h2⟩
theorem At.ldN {α:Type} [Rep α] {H:View} {a:Addr} {d:α} (h:At H a d) (ha:Rep.agg α=true) {N:Nat} (hN:Rep.n α=N) : ∃u,(∀K:View,H.le K->Un.ev K (.au N) (.pointer (some a))=some u)/\Rd H u d:=by subst hN;obtain⟨u,h1,h2⟩:=h.au ha;refine⟨u,fun K hk=>?_,h2⟩;have:=dY (ρ:=fun _=>none) (e:=.un (.au (Rep.n α)) (.con (.pointer (some a)))) hk (v:=u) (by simpa using h1);simpa using this
structure Cx (V:View) (h0:Heap) (W:View) (h:Heap) (o:Own):Prop where
 own:Owns W h o
 old:Old V h0 W
 le0:(vw h0).le (vw h)
 new : ∀k i b,o k=some i->i.v.ownBlock=some b->h0.size<=b
section
variable {V W:View} {h0 h h':Heap} {o:Own} {k:Key} {P:Program} {ty:TypeId} {us:List (Nat × Value)}
theorem Cx.start (hV:V.le (vw h)):Cx V h V h fun _=>none:=⟨Owns.start hV,Old.refl _ _,View.le_refl _,fun _ _ _ e=>by cases e⟩
theorem Cx.wle (c:Cx V h0 W h o):W.le (vw h):=c.own.wle
theorem Cx.ext (c:Cx V h0 W h o) (hle:(vw h).le (vw h')):Cx V h0 (grow W h h') h' o:=⟨c.own.ext hle,c.old.grow (bW c.le0),View.le_trans c.le0 hle,c.new⟩
theorem Cx.fin (c:Cx V h0 W h o):W.le (grow V h0 h):=c.old.le c.wle
theorem Cx.up (c:Cx V h0 W h o):W.le (grow W h h'):=bO c.wle
theorem Cx.dy {α:Type} [Rep α] {t:TypeId} {x:Operand} {v:Value} {d:α} {K:Value->Heap->Prop} (c:Cx V h0 W h o) (hx:asg us x=v) (hv:Rd W v d)
  (hk : ∀B h' W',W.le W'->Cx V h0 W' h' o->At W' ⟨B,0,none⟩ d->(vw h).le (vw h')->K (.pointer (some ⟨B,0,none⟩)) h'):@step po P (.box t x) ty us h K:=by refine iG hx (hv.mono c.wle) fun h1 hp hle hs _=>?_;exact hk _ _ _ c.up (c.ext hle) (pM (t:=t) (fz:=(0,0)) (by rw[dw (Kz _),hp];simp) (hv.mono c.up)) hle
theorem Cx.dZ {α:Type} [Rep α] {t ty2:TypeId} {n:Nat} {z:Value} {x y:Operand} {us2:Value->List (Nat × Value)} {v:Value} {d:α} {K:Value->Heap->Prop} (c:Cx V h0 W h o) (hv:Rd W v d) (hz:(P.info? t).map (·.zero)=some (some z)) (hN:Rep.n α=n) (hzc:z.cells.size=n) (hsz:dp P t=some n)
  (hx : ∀p,asg (us2 p) x=p) (hy : ∀p,asg (us2 p) y=v) (hk : ∀B h' W',W.le W'->Cx V h0 W' h' o->At W' ⟨B,0,none⟩ d->(vw h).le (vw h')->K (.pointer (some ⟨B,0,none⟩)) h') :
  @step po P (.alloc t) ty us h fun p h2=>@step po2 P (.store t x y) ty2 (us2 p) h2 fun _ h3=>K p h3:=by subst hN;refine dX (X:=W) hz hzc hsz hv hx hy fun h1 hle hs hat=>?_;exact hk _ _ _ c.up (c.ext hle) (hat _ c.up (dw (Kz _))) hle
theorem Cx.cO {t:TypeId} {n:Nat} {z:Value} {K:Value->Heap->Prop} (c:Cx V h0 W h o) (hk:o k=none) (hz:(P.info? t).map (·.zero)=some (some z)) (hzc:z.cells.size=n+1) (hn:n+1<=1000)
  (hone : ∀c∈z.cells.toList,c.oneCell'=true) (hK : ∀B h':_,(vw h).le (vw h')->Cx V h0 W h' (o.upd k (bx t B (RawN.mk (n:=n) z.cells.toList)))->K (.pointer (some ⟨B,0,none⟩)) h') :
  @step po P (.alloc t) ty us h K:=
 c.own.cO hk hz hzc hn hone fun h1 hle w=>hK _ _ hle ⟨w,c.old,View.le_trans c.le0 hle,fun j i b hj hb=>by
  by_cases e:j=k
  ·subst e;rw[Own.an]at hj;cases hj;cases hb;exact bW c.le0
  rw[Own.ay e]at hj;exact c.new j i b hj hb⟩
theorem Cx.pL {n:Nat} {e t:TypeId} {B:Nat} {l l':List Value} {x y:Operand} {K:Value->Heap->Prop} (c:Cx V h0 W h o) (hk:o k=bx e B (RawN.mk (n:=n) l)) (hsz:dp P t=some (n+1)) (hx:asg us x = .pointer (some ⟨B,0,none⟩)) (hy:asg us y = .agg l'.toArray) (hl:l'.length=n+1) (h1 : ∀c∈l',c.oneCell'=true)
  (hK : ∀h',Cx V h0 W h' (o.upd k (bx e B (RawN.mk (n:=n) l')))->K undef h'):@step po P (.store t x y) ty us h K:=
 c.own.pL hk hsz hx hy hl h1 fun h2 w hX=>hK _ ⟨w,c.old,hX _ c.le0 (View.cM (View.le_refl _) (c.new k _ B hk rfl)),fun j i b hj hb=>by
  by_cases e:j=k
  ·subst e;rw[Own.an]at hj;cases hj;exact c.new _ _ b hk hb
  rw[Own.ay e]at hj;exact c.new j i b hj hb⟩
theorem Cx.bh {α:Type} [Rep α] {n:Nat} {e t:TypeId} {B:Nat} {l:List Value} {x y:Operand} {v:Value} {d:α} {K:Value->Heap->Prop} (c:Cx V h0 W h o) (hk:o k=bx e B (RawN.mk (n:=n) l)) (hr:Rd W v d) (ha:Rep.agg α=true) (hN:Rep.n α=n+1) (hsz:dp P t=some (n+1)) (hx:asg us x = .pointer (some ⟨B,0,none⟩)) (hy:asg us y=v)
  (hK : ∀h' l',v = .agg l'.toArray->Cx V h0 W h' (o.upd k (bx e B (RawN.mk (n:=n) l')))->K undef h'):@step po P (.store t x y) ty us h K:=by have h2:=gD hr;unfold Rd at hr;rw[if_pos ha]at hr;obtain⟨cs,rfl,h1⟩:=hr;have hl:=Rep.len h1;exact c.pL hk hsz hx (l':=cs.toList) (by simpa using hy) (by rw[hl,hN]) (fun c hc=>Rep.flat h1 c hc) fun h'=>hK h' cs.toList (by simp)
theorem Cx.all {n:Nat} {e:TypeId} {B:Nat} {l:List Value} (c:Cx V h0 W h o) (hk:o k=bx e B (RawN.mk (n:=n) l)):Un.ev (vw h) (.au (n+1)) (.pointer (some ⟨B,0,none⟩))=some (.agg l.toArray):=c.own.uh hk
theorem Cx.kG {α:Type} [Rep α] {t e n:Nat} {bytes:Nat} {z:Value} {ps:Array (Nat × Operand)} {vs:List Value} {ds:List α} {K:Value->Heap->Prop} (c:Cx V h0 W h o) (hT:fe P t e (Rep.n α) bytes z)
  (hp:ps.map (fun p=>(p.1,asg us p.2))=((vs.zipIdx 0).map fun p=>(p.2,p.1)).toArray) (hr:ov W vs ds) (hn:ds.length=n) (hb:n*Rep.n α<=16777216) (hb2:n<=16777216)
  (hk : ∀u h' W',W.le W'->Cx V h0 W' h' o->SlRd W' u ds->(vw h).le (vw h')->K u h'):@step po P (.buildSlice t n ps) ty us h K:=
 ke hT hp hr hn hb hb2 fun u h1 hle hs hu _=>hk _ _ _ c.up (c.ext hle) (hu _ c.up (dw (Kz _))) hle
end
end Go.Lft
namespace Go.Proofs.YtnfiilgdjpdlkaaGreatDoor
open Go Go.Lft
theorem je {n lo hi:Int} {h:Heap}:aw Tryz.prog N.fT #[.int .i64 n,.int .i64 lo,.int .i64 hi] h (fun u h'=>h'=h/\u = .bool (inR n lo hi)):=by
 refine ao (args:=[.int .i64 n,.int .i64 lo,.int .i64 hi]) follows F.fT E.fT (Kw (by kernel_rfl)) fun K hK=>?_;dsimp only[L.fT];by_cases c:lo<=n
 ·simp[c];exact hK _ _ ⟨rfl,by simp[inR,c]⟩
 simp[c];exact hK _ _ ⟨rfl,by simp[inR,c]⟩
end Go.Proofs.YtnfiilgdjpdlkaaGreatDoor
namespace Go.Lft
open Go
theorem En {H:View} {B:Nat} {s:bN} (h:At H ⟨B,0,none⟩ s) : ∃vb va wa wt,Sl H ⟨B,1,none⟩ vb s.f.blocks/\aj H ⟨B,2,none⟩=some (.int .i64 s.i.op)/\aj H ⟨B,3,none⟩=some (.int .i64 s.i.dst)/\Sl H ⟨B,5,none⟩ va s.i.args/\
  aj H ⟨B,6,none⟩=some (.int .i32 s.i.imm.v)/\aj H ⟨B,7,none⟩=some (.int .i64 s.t.kind)/\Sl H ⟨B,8,none⟩ wa s.t.args/\Sl H ⟨B,9,none⟩ wt s.t.to/\aj H ⟨B,10,none⟩=some (.int .i32 s.t.imm.v)/\
  aj H ⟨B,11,none⟩=some (.bool s.term)/\aj H ⟨B,12,none⟩=some (.int .i64 s.temp):=by
 have hf:=h.part bN.Ks;have hi:=h.part bN.Kj;have ht:=h.part bN.Kt;obtain⟨vb,h1⟩:=(hf.part ak.qz).sl;obtain⟨va,h5⟩:=(hi.part InsD.fj).sl;obtain⟨wa,h8⟩:=(ht.part dm.fj).sl;obtain⟨wt,h9⟩:=(ht.part dm.yb).sl;exact⟨vb,va,wa,wt,by simpa using h1,by simpa using(hi.part InsD.qw).int,by simpa using(hi.part InsD.iN).int,by simpa using h5,by simpa using(hi.part InsD.gP).i32,by simpa using(ht.part dm.Ak).int,
  by simpa using h8,by simpa using h9,by simpa using(ht.part dm.gP).i32,by simpa using(h.part bN.nm).bool,by simpa using(h.part bN.Au).int⟩
theorem Sl.mono {α:Type} [Rep α] {H K:View} (hk:H.le K) {a:Addr} {v:Value} {l:List α} (s:Sl H a v l):Sl K a v l:=⟨ae hk s.1,s.2.mono hk⟩
end Go.Lft
namespace Go.Proofs.YtnfiilgdjpdlkaaGreatDoor
open Go Go.Lft
theorem eC{v:Value}{l:List Int}{h:Heap}{W:View}(hW:W.le (vw h))(hv:SlRd W v l)(hb:l.length<=1000000):
  aw Tryz.prog N.dF #[v] h (fun u h'=>(vw h).le (vw h')/\SlRd (grow W h h') u l):=by
 refine ao (args:=[v]) follows F.dF E.dF (Kw (by kernel_rfl)) fun K hK=>?_;dsimp only[L.dF];have hv0:=hv;obtain⟨a,cap,rfl,g1,g2,g3⟩:=hv0;refine ab fun z hz=>?_;simp;subst hz;refine ab fun z hz=>?_;refine ab fun y hy=>?_;simp;refine ER U.aP rfl rfl ?_;subst hy;by_cases ha:a=none
 ·subst ha;have hl:l=[]:=by
   rcases g3 with g3 | ⟨ad,g3,_⟩
   ·first | exact g3 | exact KN (by simpa using g3)
   cases g3
  subst hl;simp;exact hK _ _ ⟨View.le_refl _,aI⟩
 have hi:a.isNone=false:=by cases a<;>simp at ha ⊢
 simp[hi];subst hz;refine ab fun z hz=>?_;simp;refine qE (α:=Int) El.aP fun h1 hle1 hs1 own1=>?_;have m1:=Mine.empty (V:=W) (W:=W) (View.le_refl _) hle1 hW (Old.refl _ _) own1;refine eu (α:=Int) (l:=[]) (l2:=l) El.aP rfl rfl m1.own (hv.src (View.le_trans hW hle1)) (by simp;omega) (by simp;omega) fun v2 h2 own2 mv=>?_;have m2:=m1.jo own2 mv
 subst hz;simp;refine hK _ _ ⟨m2.old,?_⟩;have:=m2.result;simpa using this
theorem jZ{v0 v1 v2:Value}{m:aW}{takes inner:List Int}{h:Heap}{W:View}(hW:W.le (vw h))(h0:Rd W v0 m)(h1:SlRd W v1 takes)(h2:SlRd W v2 inner):
  aw Tryz.prog N.gk #[v0,v1,v2] h (fun u h'=>(vw h).le (vw h')/\∃vf,u = .tuple #[vf,.bool true]/\Rd (grow W h h') vf (⟨takes,inner,[m],eg⟩:FitD)):=by
 refine ao (args:=[v0,v1,v2]) follows F.gk E.gk (Kw (by kernel_rfl)) fun K hK=>?_;dsimp only[L.gk];have c0:=Cx.start hW;refine ab fun z hz=>?_;simp;refine c0.dy rfl h0 fun B ha Wa hWa ca hat hlea=>?_;obtain⟨um,hum,hmr⟩:=hat.ldN rfl (N:=8) rfl;refine ca.cO (k:=(0,0)) (n:=7) (z:=.agg #[.slice none 0 0,.slice none 0 0,.slice none 0 0,.int .i64 0,.int .i64 0,.int .i64 0,.slice none 0 0,.int .i32 0]) rfl (by kernel_rfl) rfl (by decide) (by simp[Value.cells,Value.oneCell']) fun R hb hleb cb=>?_;subst hz;refine ab fun z hz=>?_;simp[hum _ (View.le_trans ca.wle hleb)];refine cb.kG (α:=aW) (n:=1) (vs:=[um]) (ds:=[m]) El.jf (by simp) ⟨hmr,trivial⟩ rfl (by decide) (by decide) fun u hc Wc hWc cc hu hlec=>?_;have hr:Rd Wc (.agg (v1::v2::u::[.int .i64 0,.int .i64 0,.int .i64 0,.slice none 0 0,.int .i32 0]).toArray) (⟨takes,inner,[m],eg⟩:FitD):=
  ld (h1.mono (View.le_trans hWa hWc)) (h2.mono (View.le_trans hWa hWc)) hu (kF (by simp) (by decide) aI)
 have e1:=h1;have e2:=h2;have e3:=hu;obtain⟨a1,k1,rfl,-⟩:=e1;obtain⟨a2,k2,rfl,-⟩:=e2;obtain⟨a3,k3,rfl,-⟩:=e3;refine aq (z:=.agg #[.slice none 0 0,.slice none 0 0,.slice none 0 0,.int .i64 0,.int .i64 0,.int .i64 0,.slice none 0 0,.int .i32 0]) (places:=[(0,1),(1,1),(2,1),(3,5)]) (vs:=[(0,.slice a1 takes.length k1),(1,.slice a2 inner.length k2),(2,.slice a3 [m].length k3)]) (cs:=#[.slice a1 takes.length k1,.slice a2 inner.length k2,.slice a3 [m].length k3,.int .i64 0,.int .i64 0,.int .i64 0,.slice none 0 0,.int .i32 0]) (by kernel_rfl) (by kernel_rfl) (by simp) (by rfl) ?_;refine cc.bh (k:=(0,0)) Own.an hr rfl rfl (by kernel_rfl) rfl rfl fun hd l' hl' cd=>?_;subst hz;simp[cd.all (k:=(0,0)) Own.an];refine hK _ _ ⟨cd.le0,_,rfl,?_⟩;rw[<-hl'];exact hr.mono cd.fin
theorem z8{f:ak}{v:Int}:nK f v=f.blocks.findSome? fun b=>b.ins.find? (iP v):=by unfold nK fm;rw[List.find?_flatMap]
theorem DA{f:ak}{v:Int}{b i:Nat}(hb:b<f.blocks.length)(hi:i<(nth f.blocks b).ins.length)(h1:((f.blocks.take b).findSome? fun b=>b.ins.find? (iP v))=none)(h2:((nth f.blocks b).ins.take i).find? (iP v)=none)(h3:iP v (nth (nth f.blocks b).ins i)=true):nK f v=some (nth (nth f.blocks b).ins i):=by
 have e1:f.blocks.take b++nth f.blocks b::f.blocks.drop (b+1)=f.blocks:=by rw[az hb,<-List.drop_eq_getElem_cons hb,LY]
 have e2:(nth f.blocks b).ins.take i++nth (nth f.blocks b).ins i::(nth f.blocks b).ins.drop (i+1)=(nth f.blocks b).ins:=by rw[az hi,<-List.drop_eq_getElem_cons hi,LY]
 have e3:(nth f.blocks b).ins.find? (iP v)=some (nth (nth f.blocks b).ins i):=by
  have:((nth f.blocks b).ins.take i++nth (nth f.blocks b).ins i::(nth f.blocks b).ins.drop (i+1)).find? (iP v)=some (nth (nth f.blocks b).ins i):=by rw[Nk,h2,MG,List.find?_cons,h3]
  rwa [e2]at this
 have:((f.blocks.take b++nth f.blocks b::f.blocks.drop (b+1)).findSome? fun b=>b.ins.find? (iP v))=some (nth (nth f.blocks b).ins i):=by rw[MN,h1,List.findSome?_cons,e3];rfl
 rw[e1]at this;rw[z8];exact this
theorem lj{H:View}:Rd H (.agg #[.int .i64 0,.int .i64 0,.int .i64 0,.slice none 0 0,.int .i32 0]) gW:=by
 have hl:Rep.rd H [Value.slice none 0 0] ([]:List Int):=by have:=eE.2 (aI (α:=Int) (H:=H));unfold Rd at this;simpa[Rep.agg]using this
 unfold Rd;rw[if_pos (show Rep.agg InsD=true from rfl)];exact⟨_,rfl,[_],_,rfl,⟨rfl,by decide,by decide⟩,[_],_,rfl,⟨rfl,by decide,by decide⟩,[_],_,rfl,⟨rfl,by decide,by decide⟩,[_],[_],rfl,hl,rfl,by decide,by decide⟩
theorem z6{s:bN}{v:Value}{x:Int}{h:Heap}{W:View}(hW:W.le (vw h))(hv:Rd W v s)(hsm:SmF s.f):
  aw Tryz.prog N.cV #[v,.int .i64 x] h (fun u h'=>(vw h).le (vw h')/\∃vi,u = .tuple #[vi,.bool (nK s.f x).isSome]/\Rd (grow W h h') vi ((nK s.f x).getD gW)):=by
 refine ao (args:=[v,.int .i64 x]) follows F.cV E.cV (Kw (by kernel_rfl)) fun K hK=>?_;dsimp only[L.cV];have c0:=Cx.start hW;refine ab fun z hz=>?_;simp;refine c0.dy rfl hv fun B ha Wa hWa ca hat hlea=>?_;obtain⟨vb,va,wa,wt,sb,-⟩:=En hat;refine ca.cO (k:=(0,0)) (n:=4) (z:=.agg #[.int .i64 0,.int .i64 0,.int .i64 0,.slice none 0 0,.int .i32 0]) rfl (by kernel_rfl) rfl (by decide) (by simp[Value.cells,Value.oneCell']) fun R hb hleb cb=>?_;subst hz;refine ab fun z hz=>?_;have sbb:=sb.mono cb.wle
 have hbd:=sb.2.bound;simp[sbb.1,sbb.2.len];refine aJ [0,1,2,4,5,12,13,14] (fun(_:Unit) k=>[v,.int .i64 x,.pointer (some ⟨B,0,none⟩),.pointer (some ⟨R,0,none⟩),.bool false,vb,.int .i64 s.f.blocks.length,.int .i64 k])
  (fun _ k h1=>(s.f.blocks.take k).findSome? (fun b=>b.ins.find? (iP x))=none/\∃W1,Wa.le W1/\Cx W h W1 h1 (Own.upd (fun _=>none) (0,0) (bx T.eV R (RawN.mk (n:=4) [.int .i64 0,.int .i64 0,.int .i64 0,.slice none 0 0,.int .i32 0])))) s.f.blocks.length ()
  rfl (by omega) rfl ⟨rfl,Wa,View.le_refl _,cb⟩ (fun _ _=>rfl) (fun v i h1 hk m=>by simp) ?_ ?_
 ·rintro _ k h1 hk ⟨hn,W1,hW1,c1⟩ K2 hK2;have q1:=(sb.2.mono hW1).wh rfl (N:=6) rfl hk;obtain⟨ub,hub,rub⟩:=q1;have hbs:=hsm.blk k hk;refine ab fun z hz=>?_;simp(disch:=omega)[(sb.2.mono (View.le_trans hW1 c1.wle)).idxn (N:=6) rfl,hub _ c1.wle];refine c1.dZ (α:=BlkD) rub (n:=6) (z:=.agg #[.slice none 0 0,.slice none 0 0,.int .i64 0,.slice none 0 0,.slice none 0 0,.int .i32 0]) (by kernel_rfl) rfl rfl (by kernel_rfl) (fun _=>by simp) (fun _=>by simp) fun B2 h2 W2 hW2 c2 hat2 hle2=>?_;obtain⟨vp,vi,va2,vt2,-,si,-⟩:=kl hat2;subst hz;refine ab fun z hz=>?_;have si2:=si.mono c2.wle
  have hbd2:=si.2.bound;simp[si2.1,si2.2.len];subst hz;generalize hbk:nth s.f.blocks k=bk at *;refine aJ [0,1,2,4,5,7,12,13,14,19,20,21] (fun(_:Unit) i=>[v,.int .i64 x,.pointer (some ⟨B,0,none⟩),.pointer (some ⟨R,0,none⟩),.bool false,.pointer (some ⟨B2,0,none⟩),vb,.int .i64 s.f.blocks.length,.int .i64 k,vi,.int .i64 bk.ins.length,.int .i64 i])
   (fun _ i h3=>(bk.ins.take i).find? (iP x)=none/\∃W3,W2.le W3/\Cx W h W3 h3 (Own.upd (fun _=>none) (0,0) (bx T.eV R (RawN.mk (n:=4) [.int .i64 0,.int .i64 0,.int .i64 0,.slice none 0 0,.int .i32 0])))) bk.ins.length ()
   rfl (by omega) rfl ⟨rfl,W2,View.le_refl _,c2⟩ (fun _ _=>rfl) (fun v i h1 hk m=>by simp) ?_ ?_
  ·rintro _ i h3 hi ⟨hn3,W3,hW3,c3⟩ K3 hK3;have si3:=si.2.mono hW3;obtain⟨ui,hui,rui⟩:=si3.wh rfl (N:=5) rfl hi;have hst:(bk.ins.take (i+1)).find? (iP x)=if iP x (nth bk.ins i) then some (nth bk.ins i) else none:=by rw[KM hi,Nk,hn3,MG,az hi,List.find?_singleton]
   refine ab fun z hz=>?_;simp(disch:=omega)[(si3.mono c3.wle).idxn (N:=5) rfl,hui _ c3.wle];refine c3.dZ (α:=InsD) rui (n:=5) (z:=.agg #[.int .i64 0,.int .i64 0,.int .i64 0,.slice none 0 0,.int .i32 0]) (by kernel_rfl) rfl rfl (by kernel_rfl) (fun _=>by simp) (fun _=>by simp) fun B4 h4 W4 hW4 c4 hat4 hle4=>?_;obtain⟨q0,q1,-⟩:=kP (hat4.mono c4.wle);obtain⟨ur,hur,rur⟩:=hat4.ldN rfl (N:=5) rfl;have hur:=hur _ c4.wle;generalize hxi:nth bk.ins i=xi at *;subst hz;refine ab fun z hz=>?_;by_cases p:iP x xi=true
   ·have hm:nK s.f x=some xi:=by have:=DA (v:=x) hk (i:=i) (by rw[hbk];exact hi) hn (by rw[hbk];exact hn3) (by rw[hbk,hxi];exact p);rw[hbk,hxi]at this;exact this
    have p2:xi.op≠16/\xi.dst=x:=by simpa[iP]using p
    simp[q0,q1,p2.1,p2.2];subst hz;simp[hur];refine c4.bh (k:=(0,0)) Own.an rur rfl rfl (by kernel_rfl) rfl rfl fun h5 l5 hl5 c5=>?_;simp[c5.all (k:=(0,0)) Own.an];refine hK _ _ ⟨c5.le0,_,by rw[hm];rfl,?_⟩;rw[hm,<-hl5];exact rur.mono c5.fin
   have hc:(!decide (xi.op=16)&&decide (xi.dst=x))=false:=by simpa[iP]using p
   rw[if_neg p]at hst;by_cases p3:xi.op=16
   ·simp[q0,q1,p3];subst hz;simp;exact hK3 () _ _ rfl rfl ⟨hst,W4,View.le_trans hW3 hW4,c4⟩
   have p4:¬xi.dst=x:=by simpa[p3]using hc
   simp[q0,q1,p3,p4];subst hz;simp;exact hK3 () _ _ rfl rfl ⟨hst,W4,View.le_trans hW3 hW4,c4⟩
  rintro _ h3 ⟨hn3,W3,hW3,c3⟩;rw[Lz]at hn3;simp;refine hK2 () _ _ rfl rfl ⟨?_,W3,View.le_trans hW1 (View.le_trans hW2 hW3),c3⟩;rw[KM hk,MN,hn,MG,<-az hk,hbk];simp[hn3]
 rintro _ h1 ⟨hn,W1,hW1,c1⟩;rw[Lz]at hn;have hm:nK s.f x=none:=by rw[z8];exact hn
 simp;subst hz;refine ab fun z hz=>?_;simp;have hr:Rd W1 (.agg #[.int .i64 0,.int .i64 0,.int .i64 0,.slice none 0 0,.int .i32 0]) gW:=lj;refine aq (z:=.agg #[.int .i64 0,.int .i64 0,.int .i64 0,.slice none 0 0,.int .i32 0]) (places:=[(0,1),(1,1),(2,1),(3,1),(4,1)]) (vs:=[]) (cs:=#[.int .i64 0,.int .i64 0,.int .i64 0,.slice none 0 0,.int .i32 0]) (by kernel_rfl) (by kernel_rfl) (by simp) (by rfl) ?_;refine c1.bh (k:=(0,0)) Own.an hr rfl rfl (by kernel_rfl) rfl rfl fun h5 l5 hl5 c5=>?_;subst hz;simp[c5.all (k:=(0,0)) Own.an];refine hK _ _ ⟨c5.le0,_,by rw[hm];rfl,?_⟩;rw[hm,<-hl5];exact hr.mono c5.fin
theorem mN{s:bN}{v:Value}{x op:Int}{h:Heap}{W:View}(hW:W.le (vw h))(hv:Rd W v s)(hsm:SmF s.f)(hx:I64 x):
  aw Tryz.prog N.dP #[v,.int .i64 x,.int .i64 op] h (fun u h'=>(vw h).le (vw h')/\∃vi,u = .tuple #[vi,.bool (aK s.f x op).2]/\Rd (grow W h h') vi (aK s.f x op).1):=by
 refine ao (args:=[v,.int .i64 x,.int .i64 op]) follows F.dP E.dP (Kw (by kernel_rfl)) fun K hK=>?_;dsimp only[L.dP];have c0:=Cx.start hW;refine ab fun z hz=>?_;simp;refine c0.dy rfl hv fun B ha Wa hWa ca hat hlea=>?_;refine ca.cO (k:=(0,0)) (n:=4) (z:=.agg #[.int .i64 0,.int .i64 0,.int .i64 0,.slice none 0 0,.int .i32 0]) rfl (by kernel_rfl) rfl (by decide) (by simp[Value.cells,Value.oneCell']) fun R hb hleb cb=>?_;subst hz;refine ab fun z hz=>?_;obtain⟨us,hus,rus⟩:=hat.ldN rfl (N:=13) rfl;simp[hus _ cb.wle];refine af (by kernel_rfl) (z6 cb.wle rus hsm) ?_;rintro _ hc ⟨hle,vi,rfl,hvi⟩;have cc:=cb.ext hle
 simp;refine cc.dZ (α:=InsD) hvi (n:=5) (z:=.agg #[.int .i64 0,.int .i64 0,.int .i64 0,.slice none 0 0,.int .i32 0]) (by kernel_rfl) rfl rfl (by kernel_rfl) (fun _=>by simp) (fun _=>by simp) fun B2 hd Wd hWd cd hat2 hle2=>?_;subst hz;refine ab fun z hz=>?_;refine aS Wd cd.wle ?_;obtain⟨d0,-⟩:=kP hat2;obtain⟨uf,huf,ruf⟩:=(hat.part bN.Ks).ldN rfl (N:=2) rfl;obtain⟨ui,hui,rui⟩:=hat2.ldN rfl (N:=5) rfl;have cbw:Wa.le Wd:=View.le_trans cb.up hWd;have huf:Un.ev Wd (.au 2) (.pointer (some ⟨B,0,none⟩))=some uf:=by simpa using huf Wd cbw
 have ruf:=ruf.mono cbw;have hui:=hui Wd (View.le_refl _);have fin : ∀(b:Bool) (h2:Heap) (l':List Value),b=(aK s.f x op).2->ui = .agg l'.toArray->(nK s.f x).getD gW=(aK s.f x op).1->Cx W h Wd h2 (Own.upd (Own.upd (fun _=>none) (0,0) (bx T.eV R (RawN.mk (n:=4) [.int .i64 0,.int .i64 0,.int .i64 0,.slice none 0 0,.int .i32 0]))) (0,0) (bx T.eV R (RawN.mk (n:=4) l')))->K (.tuple #[.agg l'.toArray,.bool b]) h2:=by rintro _ h2 l' rfl hl' e c2;refine hK _ _ ⟨c2.le0,_,rfl,?_⟩;rw[<-e,<-hl'];exact rui.mono c2.fin
 cases hm:nK s.f x with
 | none=>rw[hm]at fin d0;simp[hui];refine cd.bh (k:=(0,0)) Own.an rui rfl rfl (by kernel_rfl) rfl rfl fun h2 l' hl' c2=>?_;subst hz;simp[c2.all (k:=(0,0)) Own.an];exact fin _ _ _ (by unfold aK;rw[hm];rfl) hl' (by unfold aK;rw[hm];rfl) c2
 | some i=>
  rw[hm]at fin d0;have d0:aj Wd ⟨B2,0,none⟩=some (.int .i64 i.op):=d0;have e1:aK s.f x op=(i,decide (i.op=op)&&fH s.f x):=by unfold aK;rw[hm];rfl
  by_cases c:i.op=op
  ·simp[hui,d0,c,huf];refine af (by kernel_rfl) (sF (ruf.mono cd.wle) hsm hx) ?_;rintro _ h1 ⟨rfl,hle1⟩;have c1:Cx W h Wd h1 _:=⟨cd.own.ext' hle1,cd.old,View.le_trans cd.le0 hle1,cd.new⟩;refine⟨c1.wle,?_⟩;refine c1.bh (k:=(0,0)) Own.an rui rfl rfl (by kernel_rfl) rfl rfl fun h2 l' hl' c2=>?_;subst hz;simp[c2.all (k:=(0,0)) Own.an];exact fin _ _ _ (by rw[e1];simp[c]) hl' (by rw[e1];rfl) c2
  simp[hui,d0,c];refine cd.bh (k:=(0,0)) Own.an rui rfl rfl (by kernel_rfl) rfl rfl fun h2 l' hl' c2=>?_;subst hz;simp[c2.all (k:=(0,0)) Own.an];exact fin _ _ _ (by rw[e1];simp[c]) hl' (by rw[e1];rfl) c2
theorem sG{s:bN}{v:Value}{x lo hi:Int}{h:Heap}{W:View}(hW:W.le (vw h))(hv:Rd W v s)(hsm:SmF s.f)(hx:I64 x):
  aw Tryz.prog N.df #[v,.int .i64 x,.int .i64 lo,.int .i64 hi] h (fun u h'=>(vw h).le (vw h')/\u = .tuple #[.int .i64 (fu s.f x lo hi).1,.bool (fu s.f x lo hi).2]):=by
 refine ao (args:=[v,.int .i64 x,.int .i64 lo,.int .i64 hi]) follows F.df E.df (Kw (by kernel_rfl)) fun K hK=>?_;dsimp only[L.df];have c0:=Cx.start hW;refine ab fun z hz=>?_;simp;refine c0.dy rfl hv fun B ha Wa hWa ca hat hlea=>?_;subst hz;refine ab fun z hz=>?_;obtain⟨us,hus,rus⟩:=hat.ldN rfl (N:=13) rfl;simp[hus _ ca.wle];refine af (by kernel_rfl) (mN ca.wle rus hsm hx) ?_;rintro _ hc ⟨hle,vi,rfl,hvi⟩;have cc:=ca.ext hle
 simp;refine cc.dZ (α:=InsD) hvi (n:=5) (z:=.agg #[.int .i64 0,.int .i64 0,.int .i64 0,.slice none 0 0,.int .i32 0]) (by kernel_rfl) rfl rfl (by kernel_rfl) (fun _=>by simp) (fun _=>by simp) fun B2 hd Wd hWd cd hat2 hle2=>?_;subst hz;refine ab fun z hz=>?_;refine aS Wd cd.wle ?_;have hp:=hat2.part InsD.gP;have d4:aj Wd ⟨B2,4,none⟩=some (.int .i32 (aK s.f x 1).1.imm.v):=by simpa using hp.i32
 obtain⟨_,-,rng⟩:=hp.load rfl;have rng:=(Aq.1 rng).2;have ew:IntKind.i64.wrap (aK s.f x 1).1.imm.v=(aK s.f x 1).1.imm.v:=bE (by omega) (by omega);cases hb:(aK s.f x 1).2 with
 | false=>simp[d4,ew];subst hz;simp;exact hK _ _ ⟨cd.le0,by simp[fu,hb]⟩
 | true=>simp[d4,ew];refine af (by kernel_rfl) je ?_;rintro _ hd ⟨rfl,rfl⟩;refine⟨cd.wle,?_⟩;subst hz;simp;exact hK _ _ ⟨cd.le0,by simp[fu,hb]⟩
end Go.Proofs.YtnfiilgdjpdlkaaGreatDoor
namespace Go.Lft
open Go
theorem SlRd.rng {H:View} {v:Value} {l:List Int} (h:SlRd H v l) {i:Nat} (hi:i<l.length):-9223372036854775808<=nth l i/\nth l i<=9223372036854775807:=by have:=(h.at hi).rng;rw[az hi];exact this
theorem At.oy {H:View} {a:Addr} {d:I32} (h:At H a d):-2147483648<=d.v/\d.v<=2147483647:=by obtain⟨u,h1,h2⟩:=h.load rfl;exact(Aq.1 h2).2
end Go.Lft
namespace Go.Proofs.YtnfiilgdjpdlkaaGreatDoor
open Go Go.Lft
def bJ (V:View) (h h':Heap) (u:Value) (r:Option FitD):Prop:=(vw h).le (vw h')/\∃vf x,u = .tuple #[vf,.bool r.isSome]/\Rd (grow V h h') vf x/\∀y,r=some y->x=y
structure nF (W:View) (v:Value) (r:Option FitD):Prop where
 ex : ∃fn caps,v = .func (.func fn) #[] caps/\isFn Tryz.prog fn=true/\∀h V,W.le V->V.le (vw h)->aw Tryz.prog fn caps h (fun u h'=>bJ V h h' u r)
theorem nF.mono {W W':View} {v:Value} {r:Option FitD} (f:nF W v r) (hW:W.le W'):nF W' v r:=let ⟨fn,caps,e,i,h⟩:=f.ex;⟨fn,caps,e,i,fun h' V hV hh=>h h' V (View.le_trans hW hV) hh⟩
theorem bJ.of {V W:View} {h h':Heap} {o:Own} {u:Value} {x:FitD} {b:Bool} {r:Option FitD} (c:Cx V h W h' o) (hr:Rd W u x) (hb:b=r.isSome) (hx : ∀y,r=some y->x=y):bJ V h h' (.tuple #[u,.bool b]) r:=⟨c.le0,u,x,by rw[hb],hr.mono c.fin,hx⟩
structure tR (i:InsD):Prop where
 two:2<=i.op/\i.op<=14\/i.op=16\/i.op=18->2<=i.args.length
 one:i.op=15->1<=i.args.length
 most:i.args.length<=10000
structure lk (s:bN):Prop where
 sm:SmF s.f
 all : ∀i∈fm s.f,tR i
 one:tR s.i
 rng : ∀i∈fm s.f,-2147483648<=i.imm.v/\i.imm.v<=2147483647
structure Ct (W:View) (S I:Nat) (s:bN):Prop where
 site:At W ⟨S,0,none⟩ s
 ins:At W ⟨I,0,none⟩ s.i
theorem Ct.mono {W W':View} {S I:Nat} {s:bN} (c:Ct W S I s) (h:W.le W'):Ct W' S I s:=⟨c.site.mono h,c.ins.mono h⟩
abbrev fitZ:List Value:=[.slice none 0 0,.slice none 0 0,.slice none 0 0,.int .i64 0,.int .i64 0,.int .i64 0,.slice none 0 0,.int .i32 0]
theorem fR {H:View}:Rd H (.agg fitZ.toArray) Fl:=ld (v1:=.slice none 0 0) (v2:=.slice none 0 0) (v3:=.slice none 0 0) aI aI aI (kF (by simp) (by decide) aI)
section
variable {W V:View} {S I R:Nat} {s:bN} {h:Heap}
theorem Bm (hV:V.le (vw h)):aw Tryz.prog N.aT #[] h (fun u h'=>bJ V h h' u none):=by refine ao (args:=[]) follows F.aT E.aT (Kw (by kernel_rfl)) fun K hK=>?_;dsimp only[L.aT];have c0:=Cx.start hV;refine ab fun z hz=>?_;simp;refine c0.cO (k:=(0,0)) (n:=7) (z:=.agg fitZ.toArray) rfl (by kernel_rfl) rfl (by decide) (by simp[Value.cells,Value.oneCell']) fun R hb hleb cb=>?_;subst hz;refine ab fun z hz=>?_;simp;refine aq (z:=.agg fitZ.toArray) (places:=[(0,1),(1,1),(2,1),(3,5)]) (vs:=[]) (cs:=fitZ.toArray) (by kernel_rfl) (by kernel_rfl) (by simp) (by rfl) ?_;refine cb.bh (k:=(0,0)) Own.an fR rfl rfl (by kernel_rfl) rfl rfl fun h9 l9 hl9 c9=>?_;subst hz;simp[c9.all (k:=(0,0)) Own.an];exact hK _ _ (bJ.of c9 (hl9▸fR) rfl fun y e=>by cases e)
theorem FH (ct:Ct V S I s) (hV:V.le (vw h)):aw Tryz.prog N.cy #[.pointer (some ⟨I,0,none⟩)] h (fun u h'=>bJ V h h' u (some ⟨[],[],[⟨4,s.i.dst,0,0,0,0,s.i.imm,[]⟩],eg⟩)):=by
 refine ao (args:=[.pointer (some ⟨I,0,none⟩)]) follows F.cy E.cy (Kw (by kernel_rfl)) fun K hK=>?_;dsimp only[L.cy];have c0:=Cx.start hV;refine ab fun z hz=>?_;simp;refine c0.cO (k:=(0,0)) (n:=7) (z:=.agg fitZ.toArray) rfl (by kernel_rfl) rfl (by decide) (by simp[Value.cells,Value.oneCell']) fun R hb hleb cb=>?_;subst hz;refine ab fun z hz=>?_;have i1:=(ct.ins.part InsD.iN)
 have i4:=(ct.ins.part InsD.gP);have r1:=i1.rng;have r4:=i4.oy;have i1:aj (vw hb) ⟨I,1,none⟩=some (.int .i64 s.i.dst):=ae cb.wle (by simpa using i1.int);have i4:aj (vw hb) ⟨I,4,none⟩=some (.int .i32 s.i.imm.v):=ae cb.wle (by simpa using i4.i32);simp[i1,i4];refine aq (z:=.agg #[.int .i64 0,.int .i64 0,.int .i64 0,.int .i64 0,.int .i64 0,.int .i64 0,.int .i32 0,.slice none 0 0]) (places:=[(0,1),(1,1),(2,1),(3,1),(4,1),(5,1),(6,1),(7,1)]) (vs:=[(0,.int .i64 4),(1,.int .i64 s.i.dst),(6,.int .i32 s.i.imm.v)]) (cs:=#[.int .i64 4,.int .i64 s.i.dst,.int .i64 0,.int .i64 0,.int .i64 0,.int .i64 0,.int .i32 s.i.imm.v,.slice none 0 0]) (by kernel_rfl) (by kernel_rfl) (by simp) (by rfl) ?_;have hm:Rd V (.agg #[.int .i64 4,.int .i64 s.i.dst,.int .i64 0,.int .i64 0,.int .i64 0,.int .i64 0,.int .i32 s.i.imm.v,.slice none 0 0]) (⟨4,s.i.dst,0,0,0,0,s.i.imm,[]⟩:aW):=iF (by simp[r1]) r4 aI;refine af (by kernel_rfl) (jZ cb.wle hm aI aI) ?_;rintro _ hE ⟨hle,vf,rfl,hvf⟩;have cE:=cb.ext hle;simp;refine cE.bh (k:=(0,0)) Own.an hvf rfl rfl (by kernel_rfl) rfl rfl fun h9 l9 hl9 c9=>?_;subst hz;simp[c9.all (k:=(0,0)) Own.an];exact hK _ _ (bJ.of c9 (hl9▸hvf) rfl fun y e=>by cases e;rfl)
theorem G4 (ct:Ct V S I s) (hV:V.le (vw h)):aw Tryz.prog N.cz #[.pointer (some ⟨I,0,none⟩)] h (fun u h'=>bJ V h h' u (if inR s.i.imm.v (-32768) 32767 then some ⟨[],[],[⟨3,s.i.dst,0,0,0,0,s.i.imm,[]⟩],eg⟩ else none)):=by
 refine ao (args:=[.pointer (some ⟨I,0,none⟩)]) follows F.cz E.cz (Kw (by kernel_rfl)) fun K hK=>?_;dsimp only[L.cz];have c0:=Cx.start hV;refine ab fun z hz=>?_;simp;refine c0.cO (k:=(0,0)) (n:=7) (z:=.agg fitZ.toArray) rfl (by kernel_rfl) rfl (by decide) (by simp[Value.cells,Value.oneCell']) fun R hb hleb cb=>?_;subst hz;refine ab fun z hz=>?_;have i1:=(ct.ins.part InsD.iN)
 have i4:=(ct.ins.part InsD.gP);have r1:=i1.rng;have r4:=i4.oy;have i1:aj V ⟨I,1,none⟩=some (.int .i64 s.i.dst):=by simpa using i1.int
 have i4:aj V ⟨I,4,none⟩=some (.int .i32 s.i.imm.v):=by simpa using i4.i32
 simp[ae cb.wle i1,ae cb.wle i4];refine aq (z:=.agg #[.int .i64 0,.int .i64 0,.int .i64 0,.int .i64 0,.int .i64 0,.int .i64 0,.int .i32 0,.slice none 0 0]) (places:=[(0,1),(1,1),(2,1),(3,1),(4,1),(5,1),(6,1),(7,1)]) (vs:=[(0,.int .i64 3),(1,.int .i64 s.i.dst),(6,.int .i32 s.i.imm.v)]) (cs:=#[.int .i64 3,.int .i64 s.i.dst,.int .i64 0,.int .i64 0,.int .i64 0,.int .i64 0,.int .i32 s.i.imm.v,.slice none 0 0]) (by kernel_rfl) (by kernel_rfl) (by simp) (by rfl) ?_;have hm:Rd V (.agg #[.int .i64 3,.int .i64 s.i.dst,.int .i64 0,.int .i64 0,.int .i64 0,.int .i64 0,.int .i32 s.i.imm.v,.slice none 0 0]) (⟨3,s.i.dst,0,0,0,0,s.i.imm,[]⟩:aW):=iF (by simp[r1]) r4 aI;refine af (by kernel_rfl) (jZ cb.wle hm aI aI) ?_;rintro _ hE ⟨hle,vf,rfl,hvf⟩;have cE:=cb.ext hle;simp;refine cE.dZ (α:=FitD) hvf (n:=8) (z:=.agg fitZ.toArray) (by kernel_rfl) rfl rfl (by kernel_rfl) (fun _=>by simp) (fun _=>by simp) fun B2 hF WF hWF cF hatF hleF=>?_;obtain⟨ux,hux,rux⟩:=hatF.ldN rfl (N:=8) rfl;have hux:=hux WF (View.le_refl _)
 subst hz;refine ab fun z hz=>?_;refine aS WF cF.wle ?_;have ew:IntKind.i64.wrap s.i.imm.v=s.i.imm.v:=bE (by omega) (by omega);have vw1:V.le WF:=View.le_trans cb.up hWF;simp[hux,ae vw1 i4,ew];refine af (by kernel_rfl) je ?_;rintro _ hF ⟨rfl,rfl⟩;refine⟨cF.wle,?_⟩;refine cF.bh (k:=(0,0)) Own.an rux rfl rfl (by kernel_rfl) rfl rfl fun h9 l9 hl9 c9=>?_;subst hz;simp[c9.all (k:=(0,0)) Own.an];refine hK _ _ (bJ.of c9 (hl9▸rux) (by split<;>simp_all) fun y e=>?_);split at e<;>cases e;rfl
theorem GR {O:Nat} {op:Int} (ct:Ct V S I s) (hV:V.le (vw h)) (hO:aj V ⟨O,0,none⟩=some (.int .i64 op)) (hop:2<=op/\op<=14) (ha:2<=s.i.args.length/\s.i.args.length<=10000) :
  aw Tryz.prog N.cH #[.pointer (some ⟨O,0,none⟩),.pointer (some ⟨I,0,none⟩)] h (fun u h'=>bJ V h h' u (some ⟨s.i.args,[],[⟨op+3,s.i.dst,0,nth s.i.args 0,nth s.i.args 1,0,⟨0⟩,[]⟩],eg⟩)):=by
 refine ao (args:=[.pointer (some ⟨O,0,none⟩),.pointer (some ⟨I,0,none⟩)]) follows F.cH E.cH (Kw (by kernel_rfl)) fun K hK=>?_;dsimp only[L.cH];have c0:=Cx.start hV;refine ab fun z hz=>?_;simp;refine c0.cO (k:=(0,0)) (n:=7) (z:=.agg fitZ.toArray) rfl (by kernel_rfl) rfl (by decide) (by simp[Value.cells,Value.oneCell']) fun R hb hleb cb=>?_;subst hz;refine ab fun z hz=>?_;have i1:=(ct.ins.part InsD.iN)
 have r1:=i1.rng;have i1:aj V ⟨I,1,none⟩=some (.int .i64 s.i.dst):=by simpa using i1.int
 have i2:=(ct.ins.part InsD.xe);have r2:=i2.rng;have i2:aj V ⟨I,2,none⟩=some (.int .i64 s.i.two):=by simpa using i2.int
 have i4:=(ct.ins.part InsD.gP);have r4:=i4.oy;have i4:aj V ⟨I,4,none⟩=some (.int .i32 s.i.imm.v):=by simpa using i4.i32
 obtain⟨va,i3,hva⟩:=(ct.ins.part InsD.fj).sl;have i3:aj V ⟨I,3,none⟩=some va:=by simpa using i3
 have e1:5+op-2=op+3:=by omega
 have a0:=hva.rng (i:=0) (by omega);have a1:=hva.rng (i:=1) (by omega);have hm : ∀X,Rd X (.agg #[.int .i64 (op+3),.int .i64 s.i.dst,.int .i64 0,.int .i64 (nth s.i.args 0),.int .i64 (nth s.i.args 1),.int .i64 0,.int .i32 0,.slice none 0 0]) (⟨op+3,s.i.dst,0,nth s.i.args 0,nth s.i.args 1,0,⟨0⟩,[]⟩:aW):=fun X=>iF (by simp;omega) (by simp) aI;refine aS V cb.wle ?_;simp(disch:=omega)[hO,i1,i3,hva.idx1 rfl,hva.int (View.le_refl _),e1];refine⟨?_,?_⟩
 ·refine aq (z:=.agg #[.int .i64 0,.int .i64 0,.int .i64 0,.int .i64 0,.int .i64 0,.int .i64 0,.int .i32 0,.slice none 0 0]) (places:=[(0,1),(1,1),(2,1),(3,1),(4,1),(5,1),(6,1),(7,1)]) (vs:=[(0,.int .i64 (op+3)),(1,.int .i64 s.i.dst),(3,.int .i64 (nth s.i.args 0)),(4,.int .i64 (nth s.i.args 1))]) (cs:=#[.int .i64 (op+3),.int .i64 s.i.dst,.int .i64 0,.int .i64 (nth s.i.args 0),.int .i64 (nth s.i.args 1),.int .i64 0,.int .i32 0,.slice none 0 0]) (by kernel_rfl) (by kernel_rfl) (by simp) (by rfl) ?_;refine⟨View.le_trans (View.le_refl _) cb.wle,?_⟩;refine af (by kernel_rfl) (eC cb.wle (hva.mono (View.le_refl _)) (by omega)) ?_;rintro u1 h1 ⟨hle1,hcl1⟩;have c1:=cb.ext hle1;refine⟨View.le_trans (View.le_trans (View.le_refl _) (cb.up)) c1.wle,?_⟩;refine af (by kernel_rfl) (jZ c1.wle (hm _) hcl1 aI) ?_;rintro _ hE ⟨hleE,vf,rfl,hvf⟩;have cE:=c1.ext hleE;simp;refine cE.bh (k:=(0,0)) Own.an hvf rfl rfl (by kernel_rfl) rfl rfl fun h9 l9 hl9 c9=>?_;subst hz;simp[c9.all (k:=(0,0)) Own.an];exact hK _ _ (bJ.of c9 (hl9▸hvf) rfl fun y e=>by cases e;rfl)
 refine af (by kernel_rfl) (eC cb.wle (hva.mono (View.le_refl _)) (by omega)) ?_;rintro u1 h1 ⟨hle1,hcl1⟩;have c1:=cb.ext hle1;refine⟨View.le_trans (View.le_trans (View.le_refl _) (cb.up)) c1.wle,?_⟩;refine aq (z:=.agg #[.int .i64 0,.int .i64 0,.int .i64 0,.int .i64 0,.int .i64 0,.int .i64 0,.int .i32 0,.slice none 0 0]) (places:=[(0,1),(1,1),(2,1),(3,1),(4,1),(5,1),(6,1),(7,1)]) (vs:=[(0,.int .i64 (op+3)),(1,.int .i64 s.i.dst),(3,.int .i64 (nth s.i.args 0)),(4,.int .i64 (nth s.i.args 1))]) (cs:=#[.int .i64 (op+3),.int .i64 s.i.dst,.int .i64 0,.int .i64 (nth s.i.args 0),.int .i64 (nth s.i.args 1),.int .i64 0,.int .i32 0,.slice none 0 0]) (by kernel_rfl) (by kernel_rfl) (by simp) (by rfl) ?_;refine⟨View.le_trans (View.le_trans (View.le_refl _) (cb.up)) c1.wle,?_⟩;refine af (by kernel_rfl) (jZ c1.wle (hm _) hcl1 aI) ?_;rintro _ hE ⟨hleE,vf,rfl,hvf⟩;have cE:=c1.ext hleE;simp;refine cE.bh (k:=(0,0)) Own.an hvf rfl rfl (by kernel_rfl) rfl rfl fun h9 l9 hl9 c9=>?_;subst hz;simp[c9.all (k:=(0,0)) Own.an];exact hK _ _ (bJ.of c9 (hl9▸hvf) rfl fun y e=>by cases e;rfl)
theorem FZ (ct:Ct V S I s) (hV:V.le (vw h)) (ha:s.i.args.length<=10000) :
  aw Tryz.prog N.cI #[.pointer (some ⟨I,0,none⟩)] h (fun u h'=>bJ V h h' u (some ⟨s.i.args,[],[⟨28,s.i.dst,0,0,0,0,s.i.imm,s.i.args⟩],eg⟩)):=by
 refine ao (args:=[.pointer (some ⟨I,0,none⟩)]) follows F.cI E.cI (Kw (by kernel_rfl)) fun K hK=>?_;dsimp only[L.cI];have c0:=Cx.start hV;refine ab fun z hz=>?_;simp;refine c0.cO (k:=(0,0)) (n:=7) (z:=.agg fitZ.toArray) rfl (by kernel_rfl) rfl (by decide) (by simp[Value.cells,Value.oneCell']) fun R hb hleb cb=>?_;subst hz;refine ab fun z hz=>?_;have i1:=(ct.ins.part InsD.iN)
 have r1:=i1.rng;have i1:aj V ⟨I,1,none⟩=some (.int .i64 s.i.dst):=by simpa using i1.int
 have i2:=(ct.ins.part InsD.xe);have r2:=i2.rng;have i2:aj V ⟨I,2,none⟩=some (.int .i64 s.i.two):=by simpa using i2.int
 have i4:=(ct.ins.part InsD.gP);have r4:=i4.oy;have i4:aj V ⟨I,4,none⟩=some (.int .i32 s.i.imm.v):=by simpa using i4.i32
 obtain⟨va,i3,hva⟩:=(ct.ins.part InsD.fj).sl;have i3:aj V ⟨I,3,none⟩=some va:=by simpa using i3
 have hm : ∀{X w},SlRd X w s.i.args->Rd X (.agg #[.int .i64 28,.int .i64 s.i.dst,.int .i64 0,.int .i64 0,.int .i64 0,.int .i64 0,.int .i32 s.i.imm.v,w]) (⟨28,s.i.dst,0,0,0,0,s.i.imm,s.i.args⟩:aW):=fun hw=>iF (by simp;omega) r4 hw;refine aS V cb.wle ?_;simp(disch:=omega)[i1,i3,i4];refine af (by kernel_rfl) (eC cb.wle hva (by omega)) ?_;rintro u1 h1 ⟨hle1,hcl1⟩;have c1:=cb.ext hle1
 refine⟨View.le_trans cb.up c1.wle,?_⟩;have q1:=hcl1;obtain⟨b1,k1,rfl,-⟩:=q1;refine⟨?_,?_⟩
 ·refine aq (z:=.agg #[.int .i64 0,.int .i64 0,.int .i64 0,.int .i64 0,.int .i64 0,.int .i64 0,.int .i32 0,.slice none 0 0]) (places:=[(0,1),(1,1),(2,1),(3,1),(4,1),(5,1),(6,1),(7,1)]) (vs:=[(0,.int .i64 28),(1,.int .i64 s.i.dst),(6,.int .i32 s.i.imm.v),(7,.slice b1 s.i.args.length k1)]) (cs:=#[.int .i64 28,.int .i64 s.i.dst,.int .i64 0,.int .i64 0,.int .i64 0,.int .i64 0,.int .i32 s.i.imm.v,.slice b1 s.i.args.length k1]) (by kernel_rfl) (by kernel_rfl) (by simp) (by rfl) ?_;refine⟨View.le_trans cb.up c1.wle,?_⟩;refine af (by kernel_rfl) (eC c1.wle (hva.mono cb.up) (by omega)) ?_;rintro u2 h2 ⟨hle2,hcl2⟩;have c2:=c1.ext hle2;refine⟨View.le_trans (View.le_trans cb.up c1.up) c2.wle,?_⟩;refine af (by kernel_rfl) (jZ c2.wle (hm (hcl1.mono c1.up)) hcl2 aI) ?_;rintro _ hE ⟨hleE,vf,rfl,hvf⟩;have cE:=c2.ext hleE;simp;refine cE.bh (k:=(0,0)) Own.an hvf rfl rfl (by kernel_rfl) rfl rfl fun h9 l9 hl9 c9=>?_;subst hz;simp[c9.all (k:=(0,0)) Own.an];exact hK _ _ (bJ.of c9 (hl9▸hvf) rfl fun y e=>by cases e;rfl)
 refine af (by kernel_rfl) (eC c1.wle (hva.mono cb.up) (by omega)) ?_;rintro u2 h2 ⟨hle2,hcl2⟩;have c2:=c1.ext hle2;refine⟨View.le_trans (View.le_trans cb.up c1.up) c2.wle,?_⟩;refine aq (z:=.agg #[.int .i64 0,.int .i64 0,.int .i64 0,.int .i64 0,.int .i64 0,.int .i64 0,.int .i32 0,.slice none 0 0]) (places:=[(0,1),(1,1),(2,1),(3,1),(4,1),(5,1),(6,1),(7,1)]) (vs:=[(0,.int .i64 28),(1,.int .i64 s.i.dst),(6,.int .i32 s.i.imm.v),(7,.slice b1 s.i.args.length k1)]) (cs:=#[.int .i64 28,.int .i64 s.i.dst,.int .i64 0,.int .i64 0,.int .i64 0,.int .i64 0,.int .i32 s.i.imm.v,.slice b1 s.i.args.length k1]) (by kernel_rfl) (by kernel_rfl) (by simp) (by rfl) ?_;refine⟨View.le_trans (View.le_trans cb.up c1.up) c2.wle,?_⟩;refine af (by kernel_rfl) (jZ c2.wle (hm (hcl1.mono c1.up)) hcl2 aI) ?_;rintro _ hE ⟨hleE,vf,rfl,hvf⟩;have cE:=c2.ext hleE;simp;refine cE.bh (k:=(0,0)) Own.an hvf rfl rfl (by kernel_rfl) rfl rfl fun h9 l9 hl9 c9=>?_;subst hz;simp[c9.all (k:=(0,0)) Own.an];exact hK _ _ (bJ.of c9 (hl9▸hvf) rfl fun y e=>by cases e;rfl)
theorem GO (ct:Ct V S I s) (hV:V.le (vw h)) (ha:2<=s.i.args.length/\s.i.args.length<=10000) :
  aw Tryz.prog N.cA #[.pointer (some ⟨I,0,none⟩)] h (fun u h'=>bJ V h h' u (some ⟨s.i.args,[],[⟨29,s.i.dst,s.i.two,nth s.i.args 0,nth s.i.args 1,0,⟨0⟩,[]⟩],eg⟩)):=by
 refine ao (args:=[.pointer (some ⟨I,0,none⟩)]) follows F.cA E.cA (Kw (by kernel_rfl)) fun K hK=>?_;dsimp only[L.cA];have c0:=Cx.start hV;refine ab fun z hz=>?_;simp;refine c0.cO (k:=(0,0)) (n:=7) (z:=.agg fitZ.toArray) rfl (by kernel_rfl) rfl (by decide) (by simp[Value.cells,Value.oneCell']) fun R hb hleb cb=>?_;subst hz;refine ab fun z hz=>?_;have i1:=(ct.ins.part InsD.iN)
 have r1:=i1.rng;have i1:aj V ⟨I,1,none⟩=some (.int .i64 s.i.dst):=by simpa using i1.int
 have i2:=(ct.ins.part InsD.xe);have r2:=i2.rng;have i2:aj V ⟨I,2,none⟩=some (.int .i64 s.i.two):=by simpa using i2.int
 have i4:=(ct.ins.part InsD.gP);have r4:=i4.oy;have i4:aj V ⟨I,4,none⟩=some (.int .i32 s.i.imm.v):=by simpa using i4.i32
 obtain⟨va,i3,hva⟩:=(ct.ins.part InsD.fj).sl;have i3:aj V ⟨I,3,none⟩=some va:=by simpa using i3
 have a0:=hva.rng (i:=0) (by omega);have a1:=hva.rng (i:=1) (by omega);have hm : ∀X,Rd X (.agg #[.int .i64 29,.int .i64 s.i.dst,.int .i64 s.i.two,.int .i64 (nth s.i.args 0),.int .i64 (nth s.i.args 1),.int .i64 0,.int .i32 0,.slice none 0 0]) (⟨29,s.i.dst,s.i.two,nth s.i.args 0,nth s.i.args 1,0,⟨0⟩,[]⟩:aW):=fun X=>iF (by simp;omega) (by simp) aI;refine aS V cb.wle ?_;simp(disch:=omega)[i1,i2,i3,hva.idx1 rfl,hva.int (View.le_refl _)];refine⟨?_,?_⟩
 ·refine aq (z:=.agg #[.int .i64 0,.int .i64 0,.int .i64 0,.int .i64 0,.int .i64 0,.int .i64 0,.int .i32 0,.slice none 0 0]) (places:=[(0,1),(1,1),(2,1),(3,1),(4,1),(5,1),(6,1),(7,1)]) (vs:=[(0,.int .i64 29),(1,.int .i64 s.i.dst),(2,.int .i64 s.i.two),(3,.int .i64 (nth s.i.args 0)),(4,.int .i64 (nth s.i.args 1))]) (cs:=#[.int .i64 29,.int .i64 s.i.dst,.int .i64 s.i.two,.int .i64 (nth s.i.args 0),.int .i64 (nth s.i.args 1),.int .i64 0,.int .i32 0,.slice none 0 0]) (by kernel_rfl) (by kernel_rfl) (by simp) (by rfl) ?_;refine⟨View.le_trans (View.le_refl _) cb.wle,?_⟩;refine af (by kernel_rfl) (eC cb.wle (hva.mono (View.le_refl _)) (by omega)) ?_;rintro u1 h1 ⟨hle1,hcl1⟩;have c1:=cb.ext hle1;refine⟨View.le_trans (View.le_trans (View.le_refl _) (cb.up)) c1.wle,?_⟩;refine af (by kernel_rfl) (jZ c1.wle (hm _) hcl1 aI) ?_;rintro _ hE ⟨hleE,vf,rfl,hvf⟩;have cE:=c1.ext hleE;simp;refine cE.bh (k:=(0,0)) Own.an hvf rfl rfl (by kernel_rfl) rfl rfl fun h9 l9 hl9 c9=>?_;subst hz;simp[c9.all (k:=(0,0)) Own.an];exact hK _ _ (bJ.of c9 (hl9▸hvf) rfl fun y e=>by cases e;rfl)
 refine af (by kernel_rfl) (eC cb.wle (hva.mono (View.le_refl _)) (by omega)) ?_;rintro u1 h1 ⟨hle1,hcl1⟩;have c1:=cb.ext hle1;refine⟨View.le_trans (View.le_trans (View.le_refl _) (cb.up)) c1.wle,?_⟩;refine aq (z:=.agg #[.int .i64 0,.int .i64 0,.int .i64 0,.int .i64 0,.int .i64 0,.int .i64 0,.int .i32 0,.slice none 0 0]) (places:=[(0,1),(1,1),(2,1),(3,1),(4,1),(5,1),(6,1),(7,1)]) (vs:=[(0,.int .i64 29),(1,.int .i64 s.i.dst),(2,.int .i64 s.i.two),(3,.int .i64 (nth s.i.args 0)),(4,.int .i64 (nth s.i.args 1))]) (cs:=#[.int .i64 29,.int .i64 s.i.dst,.int .i64 s.i.two,.int .i64 (nth s.i.args 0),.int .i64 (nth s.i.args 1),.int .i64 0,.int .i32 0,.slice none 0 0]) (by kernel_rfl) (by kernel_rfl) (by simp) (by rfl) ?_;refine⟨View.le_trans (View.le_trans (View.le_refl _) (cb.up)) c1.wle,?_⟩;refine af (by kernel_rfl) (jZ c1.wle (hm _) hcl1 aI) ?_;rintro _ hE ⟨hleE,vf,rfl,hvf⟩;have cE:=c1.ext hleE;simp;refine cE.bh (k:=(0,0)) Own.an hvf rfl rfl (by kernel_rfl) rfl rfl fun h9 l9 hl9 c9=>?_;subst hz;simp[c9.all (k:=(0,0)) Own.an];exact hK _ _ (bJ.of c9 (hl9▸hvf) rfl fun y e=>by cases e;rfl)
end
end Go.Proofs.YtnfiilgdjpdlkaaGreatDoor
namespace Go.Proofs.YtnfiilgdjpdlkaaGreatDoor
open Go Go.Lft
theorem Bt(n:Int):-2147483648<=(w32 n).v/\(w32 n).v<=2147483647:=by unfold w32 IntKind.wrap;simp[IntKind.signed,IntKind.bits];omega
section
variable {W V:View} {S I R:Nat} {s:bN} {h:Heap}
theorem vE{f:ak}{v lo hi:Int}(hr : ∀i∈fm f,-2147483648<=i.imm.v/\i.imm.v<=2147483647):-2147483648<=(fu f v lo hi).1/\(fu f v lo hi).1<=2147483647:=by
 unfold fu aK;cases hm:nK f v with
 | none=>exact⟨(by decide:(-2147483648:Int)<=0),(by decide:(0:Int)<=2147483647)⟩
 | some i=>exact hr i (LZ hm)
set_option maxHeartbeats 4000000 in
/-- addi to sari. -/
theorem Fy{L1 M1 O1 G1:Nat}{lo hi m sign:Int}(ct:Ct V S I s)(hV:V.le (vw h))(hok:lk s)(ha:2<=s.i.args.length)(hl:aj V ⟨L1,0,none⟩=some (.int .i64 lo))(hh:aj V ⟨M1,0,none⟩=some (.int .i64 hi))(hm:aj V ⟨O1,0,none⟩=some (.int .i64 m))(hg:aj V ⟨G1,0,none⟩=some (.int .i64 sign))(hs:sign=1\/sign=-1)(hm0:0<=m/\m<=100):
    aw Tryz.prog N.bG #[.pointer (some ⟨S,0,none⟩),.pointer (some ⟨I,0,none⟩),.pointer (some ⟨L1,0,none⟩),.pointer (some ⟨M1,0,none⟩),.pointer (some ⟨O1,0,none⟩),.pointer (some ⟨G1,0,none⟩)] h
      (fun u h'=>bJ V h h' u (immS s.f s.i m lo hi sign)):=by
  refine ao (args:=[.pointer (some ⟨S,0,none⟩),.pointer (some ⟨I,0,none⟩),.pointer (some ⟨L1,0,none⟩),.pointer (some ⟨M1,0,none⟩),.pointer (some ⟨O1,0,none⟩),.pointer (some ⟨G1,0,none⟩)]) follows F.bG E.bG (Kw (by kernel_rfl)) fun K hK=>?_
  dsimp only[L.bG]
  have c0:=Cx.start hV
  refine ab fun z hz=>?_
  simp
  refine c0.cO (k:=(0,0)) (n:=7) (z:=.agg fitZ.toArray) rfl (by kernel_rfl) rfl (by decide) (by simp[Value.cells,Value.oneCell']) fun R hb hleb cb=>?_
  subst hz
  have i1:=(ct.ins.part InsD.iN)
  have r1:=i1.rng
  have i1:aj V ⟨I,1,none⟩=some (.int .i64 s.i.dst):=by simpa using i1.int
  obtain⟨va,i3,hva⟩:=(ct.ins.part InsD.fj).sl
  have i3:aj V ⟨I,3,none⟩=some va:=by simpa using i3
  have a0:=hva.rng (i:=0) (by omega)
  have a1:=hva.rng (i:=1) (by omega)
  obtain⟨us,hus,rus⟩:=ct.site.ldN rfl (N:=13) rfl
  have hus:=hus V (View.le_refl _)
  have most:=hok.one.most
  refine ab fun z hz=>?_
  refine aS V cb.wle ?_
  simp(disch:=omega)[hus,i3,hva.idx1 rfl,hva.int (View.le_refl _),hl,hh]
  refine af (by kernel_rfl) (sG cb.wle rus hok.sm a1) ?_
  rintro _ hc ⟨hle,rfl⟩
  have cc:Cx V h V hc _:=⟨cb.own.ext' hle,cb.old,View.le_trans cb.le0 hle,cb.new⟩
  simp
  have rk:-2147483648<=(fu s.f (nth s.i.args 1) lo hi).1/\(fu s.f (nth s.i.args 1) lo hi).1<=2147483647:=vE hok.rng
  generalize hk:(fu s.f (nth s.i.args 1) lo hi).1=k at *
  generalize hb2:(fu s.f (nth s.i.args 1) lo hi).2=ok at *
  subst hz
  refine ab fun z hz=>?_
  refine aS V cc.wle ?_
  have e1:IntKind.i64.wrap (sign*k)=sign*k:=by rcases hs with rfl | rfl<;>exact bE (by omega) (by omega)
  have hmm : ∀X,Rd X (.agg #[.int .i64 m,.int .i64 s.i.dst,.int .i64 0,.int .i64 (nth s.i.args 0),.int .i64 0,.int .i64 0,.int .i32 (IntKind.i32.wrap (sign*k)),.slice none 0 0]) (⟨m,s.i.dst,0,nth s.i.args 0,0,0,w32 (sign*k),[]⟩:aW):=fun X=>iF (imm:=w32 (sign*k)) (by simp;omega) (Bt _) aI
  have fin : ∀(W:View) (hx:Heap) (o:Own) (l9:List Value),Cx V h W hx o->Rd W (.agg l9.toArray) (⟨[nth s.i.args 0],[nth s.i.args 1],[⟨m,s.i.dst,0,nth s.i.args 0,0,0,w32 (sign*k),[]⟩],eg⟩:FitD)->K (.tuple #[.agg l9.toArray,.bool ok]) hx:=fun W hx o l9 c hr=>
    hK _ _ (bJ.of c hr (by unfold immS;rw[hb2];split<;>simp_all) fun y e=>by
      unfold immS at e
      rw[hb2,hk]at e
      split at e<;>cases e
      rfl)
  have c:=cc
  have q0:=hva.idx1 (k:=.i64) (i:=0) rfl (by decide) (by omega)
  have q1:=hva.idx1 (k:=.i64) (i:=1) rfl (by decide) (by omega)
  have d0:=hva.int (View.le_refl V) (i:=0) (by omega)
  have d1:=hva.int (View.le_refl V) (i:=1) (by omega)
  repeat' (first
    | refine iq ?_ ?_
    | (refine bo fun y hy=>?_
       simp[hm,hg,i1,i3,q0,q1,d0,d1,e1]
       first
       | refine aq (z:=.agg #[.int .i64 0,.int .i64 0,.int .i64 0,.int .i64 0,.int .i64 0,.int .i64 0,.int .i32 0,.slice none 0 0]) (places:=[(0,1),(1,1),(2,1),(3,1),(4,1),(5,1),(6,1),(7,1)]) (vs:=[(0,.int .i64 m),(1,.int .i64 s.i.dst),(3,.int .i64 (nth s.i.args 0)),(6,.int .i32 (IntKind.i32.wrap (sign*k)))]) (cs:=#[.int .i64 m,.int .i64 s.i.dst,.int .i64 0,.int .i64 (nth s.i.args 0),.int .i64 0,.int .i64 0,.int .i32 (IntKind.i32.wrap (sign*k)),.slice none 0 0]) (by kernel_rfl) (by kernel_rfl) (by simp) (by rfl) ?_
       | (refine c.kG (α:=Int) (n:=1) (vs:=[.int .i64 (nth s.i.args 0)]) (ds:=[nth s.i.args 0]) El.aP ?_ ⟨bC.2 ⟨rfl,a0⟩,trivial⟩ rfl (by decide) (by decide) fun uA h W hW c huA hle=>?_
          · simp;done)
       | (refine c.kG (α:=Int) (n:=1) (vs:=[.int .i64 (nth s.i.args 1)]) (ds:=[nth s.i.args 1]) El.aP ?_ ⟨bC.2 ⟨rfl,a1⟩,trivial⟩ rfl (by decide) (by decide) fun uB h W hW c huB hle=>?_
          · simp;done)
       | refine c.cO (k:=(0,1)) (n:=7) (z:=.agg fitZ.toArray) (by rfl) (by kernel_rfl) rfl (by decide) (by simp[Value.cells,Value.oneCell']) fun R2 h hle c=>?_
       | (refine af (by kernel_rfl) (jZ c.wle (hmm _) (huA.mono (by repeat (first | exact View.le_refl _ | assumption | refine View.le_trans ?_ (by assumption)))) (huB.mono (by repeat (first | exact View.le_refl _ | assumption | refine View.le_trans ?_ (by assumption))))) ?_
          rintro _ h ⟨hle,vf,rfl,hvf⟩
          have hW:=c.up (h':=h)
          have c:=c.ext hle)
       | refine c.bh (k:=(0,1)) (n:=7) (l:=fitZ) (by rfl) (hvf.mono (by repeat (first | exact View.le_refl _ | assumption | refine View.le_trans ?_ (by assumption)))) rfl rfl (by kernel_rfl) rfl rfl fun h l9 hl9 c=>?_
       try refine⟨View.le_trans (by repeat (first | exact View.le_refl _ | assumption | refine View.le_trans ?_ (by assumption))) c.wle,?_⟩
       subst hy))
  all_goals
    simp
    rw[hz]
    subst hl9
    have hall:=c.all (k:=(0,1)) (n:=7) (l:=l9) (B:=R2) (e:=T.aO) (by rfl)
    simp at hall
    simp[hall]
    refine c.bh (k:=(0,0)) (n:=7) (l:=fitZ) (by rfl) (hvf.mono (by repeat (first | exact View.le_refl _ | assumption | refine View.le_trans ?_ (by assumption)))) rfl rfl (by kernel_rfl) rfl rfl fun h9 l9' hl9' c9=>?_
    have hall:=c9.all (k:=(0,0)) (n:=7) (l:=l9') (B:=R) (e:=T.aO) (by rfl)
    simp at hall
    simp[hall]
    exact fin _ _ _ _ c9 (hl9'▸hvf.mono (by repeat (first | exact View.le_refl _ | assumption | refine View.le_trans ?_ (by assumption))))
end
end Go.Proofs.YtnfiilgdjpdlkaaGreatDoor
namespace Go.Lft
open Go
variable {po:OP}
theorem Dk {P:Program} {ty:TypeId} {us:List (Nat × Value)} {h:Heap} {K:Value->Heap->Prop} {f:FuncId} {x:Operand} {v:Value} (hx:asg us x=v) (hk:K (.func (.func f) #[v] #[]) h):step P (.makeFunc (.func f) #[x] #[]) ty us h K:=by refine dq (cr fun w hw=>⟨_,w,?_,Same.refl _,by rw[hw];exact hk⟩);simp only[bD,execOp];simp[Instr.makeFunc,hx]
theorem C0 {P:Program} {ty:TypeId} {us:List (Nat × Value)} {h:Heap} {K:Value->Heap->Prop} {f:FuncId} {t:Nat} {ops:List Operand} {T:Array TypeId} {first caps:Array Value} (hf:asg us (.tmp t) = .func (.func f) first caps) {R:Value->Heap->Prop} (hfn:isFn P f=true)
  (hc:aw P f (first.toList++ops.map (asg us)++caps.toList).toArray h R) (hk : ∀v h',R v h'->K v h'):step P (.call ⟨.value (.tmp t),ops.toArray,T⟩) ty us h K:=by
 refine dq (qg (R:=R) (f:=f) (args:=(first.toList++ops.map (asg us)++caps.toList).toArray) (fun w _=>?_) hc hk);unfold isFn at hfn;cases hfn':P.funcs[f]? with
 | none=>simp[hfn']at hfn
 | some fn=>simp only[hfn',KE,bne_iff_ne,ne_eq]at hfn;obtain⟨h1,h2⟩:=hfn;simp[bD,execOp,resolve,Deferred.ofValue,hf,invoke,callFunc,program,Sem.run,hfn',h1,Option.isNone];cases hb:fn.body<;>simp[hb]at h2 ⊢
end Go.Lft
namespace Go.Proofs.YtnfiilgdjpdlkaaGreatDoor
open Go Go.Lft
section
variable {W V:View} {S I R:Nat} {s:bN} {h:Heap}
theorem jS {f:ak} {v op:Int} (hb:(aK f v op).2=true):(aK f v op).1∈fm f/\(aK f v op).1.op=op/\fH f v=true/\(aK f v op).1.dst=v/\(aK f v op).1.op≠16:=by
 unfold aK at *;cases hm:nK f v with
 | none=>rw[hm]at hb;cases hb
 | some i=>rw[hm]at hb;have hb:(decide (i.op=op)&&fH f v)=true:=hb;simp at hb;have hp:=N1 hm;simp[iP]at hp;exact⟨LZ hm,hb.1,hb.2,hp.2,hp.1⟩
set_option maxHeartbeats 4000000 in
/-- madd. -/
theorem Gx {Z:Nat} (ct:Ct V S I s) (hV:V.le (vw h)) (hok:lk s) (ha:2<=s.i.args.length) (hz0:aj V ⟨Z,0,none⟩=some (.func (.func N.aT) #[] #[])) :
    aw Tryz.prog N.cB #[.pointer (some ⟨S,0,none⟩),.pointer (some ⟨I,0,none⟩),.pointer (some ⟨Z,0,none⟩)] h
      (fun u h'=>bJ V h h' u (doS s.f s.i s.temp 22)):=by
  refine ao (args:=[.pointer (some ⟨S,0,none⟩),.pointer (some ⟨I,0,none⟩),.pointer (some ⟨Z,0,none⟩)]) follows F.cB E.cB (Kw (by kernel_rfl)) fun K hK=>?_
  dsimp only[L.cB]
  have c0:=Cx.start hV
  refine ab fun z hz=>?_
  simp
  refine c0.cO (k:=(0,0)) (n:=7) (z:=.agg fitZ.toArray) rfl (by kernel_rfl) rfl (by decide) (by simp[Value.cells,Value.oneCell']) fun R hb hleb cb=>?_
  subst hz
  have i1:=(ct.ins.part InsD.iN)
  have r1:=i1.rng
  have i1:aj V ⟨I,1,none⟩=some (.int .i64 s.i.dst):=by simpa using i1.int
  obtain⟨va,i3,hva⟩:=(ct.ins.part InsD.fj).sl
  have i3:aj V ⟨I,3,none⟩=some va:=by simpa using i3
  have a0:=hva.rng (i:=0) (by omega)
  have a1:=hva.rng (i:=1) (by omega)
  obtain⟨us,hus,rus⟩:=ct.site.ldN rfl (N:=13) rfl
  have q0:=hva.idx1 (k:=.i64) (i:=0) rfl (by decide) (by omega)
  have q1:=hva.idx1 (k:=.i64) (i:=1) rfl (by decide) (by omega)
  refine ab fun z hz=>?_
  simp[hus _ cb.wle]
  refine Dk rfl ?_
  subst hz
  refine ab fun z hz=>?_
  simp[ae cb.wle i3,q0,hva.int cb.wle (i:=0) (by omega)]
  refine C0 (ops:=[.tmp 15,.const (.int .i64 4)]) rfl (by kernel_rfl) (mN (x:=nth s.i.args 0) (op:=4) cb.wle rus hok.sm a0) ?_
  rintro _ hc ⟨hle,vm,rfl,hvm⟩
  have cc:=cb.ext hle
  have hWc:=cb.up (h':=hc)
  have hdo:doS s.f s.i s.temp 22=if(aK s.f (nth s.i.args 0) 4).2 then
      some ⟨[nth (aK s.f (nth s.i.args 0) 4).1.args 0,nth (aK s.f (nth s.i.args 0) 4).1.args 1,nth s.i.args 1],[nth s.i.args 0],[⟨23,s.i.dst,0,nth (aK s.f (nth s.i.args 0) 4).1.args 0,nth (aK s.f (nth s.i.args 0) 4).1.args 1,nth s.i.args 1,⟨0⟩,[]⟩],eg⟩
    else none:=rfl
  have hfm:=jS (f:=s.f) (v:=nth s.i.args 0) (op:=4)
  generalize (aK s.f (nth s.i.args 0) 4).1=m at *
  generalize (aK s.f (nth s.i.args 0) 4).2=b at *
  simp
  refine cc.dZ (α:=InsD) hvm (n:=5) (z:=.agg #[.int .i64 0,.int .i64 0,.int .i64 0,.slice none 0 0,.int .i32 0]) (by kernel_rfl) rfl rfl (by kernel_rfl) (fun _=>by simp) (fun _=>by simp) fun B2 hd Wd hWd cd hat2 hle2=>?_
  subst hz
  have vw1:V.le Wd:=View.le_trans hWc hWd
  refine ab fun z hz=>?_
  cases b with
  | false=>
    simp[ae (View.le_trans vw1 cd.wle) hz0]
    refine bI (ops:=[]) rfl (by kernel_rfl) (Bm cd.wle) ?_
    rintro _ he ⟨hle3,vf,x,rfl,hvf,-⟩
    have ce:=cd.ext hle3
    simp
    refine ce.bh (k:=(0,0)) (n:=7) (l:=fitZ) (by rfl) hvf rfl rfl (by kernel_rfl) rfl rfl fun h9 l9 hl9 c9=>?_
    simp[c9.all (k:=(0,0)) Own.an]
    exact hK _ _ (bJ.of c9 (hl9▸hvf) (by rw[hdo];rfl) fun y e=>by rw[hdo]at e;cases e)
  | true=>
    obtain⟨m1,m2,-⟩:=hfm rfl
    have hma:=(hok.all _ m1).two (by omega)
    have r2:=hok.all _ m1
    obtain⟨vb,j3,hvb⟩:=(hat2.part InsD.fj).sl
    have j3:aj Wd ⟨B2,3,none⟩=some vb:=by simpa using j3
    have b0:=hvb.rng (i:=0) (by omega)
    have b1:=hvb.rng (i:=1) (by omega)
    simp
    subst hz
    refine ab fun z hz=>?_
    refine aS Wd cd.wle ?_
    have hmm : ∀X,Rd X (.agg #[.int .i64 23,.int .i64 s.i.dst,.int .i64 0,.int .i64 (nth m.args 0),.int .i64 (nth m.args 1),.int .i64 (nth s.i.args 1),.int .i32 0,.slice none 0 0]) (⟨23,s.i.dst,0,nth m.args 0,nth m.args 1,nth s.i.args 1,⟨0⟩,[]⟩:aW):=fun X=>iF (imm:=⟨0⟩) (by simp;omega) (by simp) aI
    have fin : ∀(W:View) (hx:Heap) (o:Own) (l9:List Value),Cx V h W hx o->Rd W (.agg l9.toArray) (⟨[nth m.args 0,nth m.args 1,nth s.i.args 1],[nth s.i.args 0],[⟨23,s.i.dst,0,nth m.args 0,nth m.args 1,nth s.i.args 1,⟨0⟩,[]⟩],eg⟩:FitD)->K (.tuple #[.agg l9.toArray,.bool true]) hx:=fun W hx o l9 c hr=>
      hK _ _ (bJ.of c hr (by rw[hdo];rfl) fun y e=>by rw[hdo]at e;cases e;rfl)
    have c:=cd
    have i1:=ae vw1 i1
    have i3:=ae vw1 i3
    have q2:=hvb.idx1 (k:=.i64) (i:=0) rfl (by decide) (by omega)
    have q3:=hvb.idx1 (k:=.i64) (i:=1) rfl (by decide) (by omega)
    have d0:=hva.int vw1 (i:=0) (by omega)
    have d1:=hva.int vw1 (i:=1) (by omega)
    have d2:=hvb.int (View.le_refl Wd) (i:=0) (by omega)
    have d3:=hvb.int (View.le_refl Wd) (i:=1) (by omega)
    repeat' (first
      | refine iq ?_ ?_
      | (refine bo fun y hy=>?_
         simp[i1,i3,j3,q0,q1,q2,q3,d0,d1,d2,d3]
         first
         | refine aq (z:=.agg #[.int .i64 0,.int .i64 0,.int .i64 0,.int .i64 0,.int .i64 0,.int .i64 0,.int .i32 0,.slice none 0 0]) (places:=[(0,1),(1,1),(2,1),(3,1),(4,1),(5,1),(6,1),(7,1)]) (vs:=[(0,.int .i64 23),(1,.int .i64 s.i.dst),(3,.int .i64 (nth m.args 0)),(4,.int .i64 (nth m.args 1)),(5,.int .i64 (nth s.i.args 1))]) (cs:=#[.int .i64 23,.int .i64 s.i.dst,.int .i64 0,.int .i64 (nth m.args 0),.int .i64 (nth m.args 1),.int .i64 (nth s.i.args 1),.int .i32 0,.slice none 0 0]) (by kernel_rfl) (by kernel_rfl) (by simp) (by rfl) ?_
         | (refine c.kG (α:=Int) (n:=3) (vs:=[.int .i64 (nth m.args 0),.int .i64 (nth m.args 1),.int .i64 (nth s.i.args 1)]) (ds:=[nth m.args 0,nth m.args 1,nth s.i.args 1]) El.aP ?_ ⟨bC.2 ⟨rfl,b0⟩,bC.2 ⟨rfl,b1⟩,bC.2 ⟨rfl,a1⟩,trivial⟩ rfl (by decide) (by decide) fun uA h W hW c huA hle=>?_
            · simp;done)
         | (refine c.kG (α:=Int) (n:=1) (vs:=[.int .i64 (nth s.i.args 0)]) (ds:=[nth s.i.args 0]) El.aP ?_ ⟨bC.2 ⟨rfl,a0⟩,trivial⟩ rfl (by decide) (by decide) fun uB h W hW c huB hle=>?_
            · simp;done)
         | (refine af (by kernel_rfl) (jZ c.wle (hmm _) (huA.mono (by repeat (first | exact View.le_refl _ | assumption | refine View.le_trans ?_ (by assumption)))) (huB.mono (by repeat (first | exact View.le_refl _ | assumption | refine View.le_trans ?_ (by assumption))))) ?_
            rintro _ h ⟨hle,vf,rfl,hvf⟩
            have hW:=c.up (h':=h)
            have c:=c.ext hle)
         | refine c.bh (k:=(0,0)) (n:=7) (l:=fitZ) (by rfl) (hvf.mono (by repeat (first | exact View.le_refl _ | assumption | refine View.le_trans ?_ (by assumption)))) rfl rfl (by kernel_rfl) rfl rfl fun h l9 hl9 c=>?_
         try refine⟨View.le_trans (by repeat (first | exact View.le_refl _ | assumption | refine View.le_trans ?_ (by assumption))) c.wle,?_⟩
         subst hy))
    all_goals
      simp
      rw[hz]
      have hall:=c.all (k:=(0,0)) (n:=7) (l:=l9) (B:=R) (e:=T.aO) (by rfl)
      simp at hall
      simp[hall]
      exact fin _ _ _ _ c (hl9▸hvf.mono (by repeat (first | exact View.le_refl _ | assumption | refine View.le_trans ?_ (by assumption))))
end
end Go.Proofs.YtnfiilgdjpdlkaaGreatDoor
namespace Go.Proofs.YtnfiilgdjpdlkaaGreatDoor
open Go Go.Lft
structure Pm (f:ak) (i:InsD) (temp:Int) (W:View) (h:Heap) (r:Nat) (n:Int->Bool):Prop where
 wle:W.le (vw h)
 av:W r=none
 ex : ∃g:Int->Option Value,dL (.int .i64) h r (mapE id g)/\(∀p,(g p).isSome=n p)/\∀p v,g p=some v->nF W v (patS f i temp p)
section
variable {f:ak} {i:InsD} {temp:Int} {W:View} {h h':Heap} {r S I O Z:Nat} {n:Int->Bool}
theorem Pm.ext (m:Pm f i temp W h r n) (hle:(vw h).le (vw h')):Pm f i temp (grow W h h') h' r n:=by obtain⟨g,h1,h2,h3⟩:=m.ex;exact⟨kM (View.le_trans m.wle hle),by rw[ir h1.lt];exact m.av,g,h1.ext hle,h2,fun p v hp=>(h3 p v hp).mono (bO m.wle)⟩
theorem Pm.put (m:Pm f i temp W h r n) {g:Int->Option Value} {p:Int} {v:Value} (hg:dL (.int .i64) h' r (mapE id (putM g p v))) (h2 : ∀q,(g q).isSome=n q) (h3 : ∀q u,g q=some u->nF W u (patS f i temp q)) (hv:nF W v (patS f i temp p)) (ho : ∀b,b≠r->h'[b]? = h[b]?) :
  Pm f i temp W h' r fun q=>n q||decide (q=p):=by
 refine⟨fun b o hb=>?_,m.av,_,hg,fun q=>?_,fun q u hq=>?_⟩
 ·show h'[b]? = _;rw[ho b (by rintro rfl;rw[m.av]at hb;cases hb)];exact m.wle b o hb
 ·unfold putM;by_cases e:q=p
  ·simp[e]
  simp[e,h2]
 unfold putM at hq;split at hq
 ·rename_i e;cases hq;rw[e];exact hv
 exact h3 q u hq
theorem AX:nF W (.func (.func N.aT) #[] #[]) none:=⟨_,_,rfl,by kernel_rfl,fun h V _ hV=>Bm hV⟩
structure Wn (W:View) (s:bN) (S I O Z r:Nat):Prop where
 term:aj W ⟨S,11,none⟩=some (.bool false)
 op:aj W ⟨I,0,none⟩=some (.int .i64 s.i.op)
 out:aj W ⟨O,0,none⟩=some (.map (some r))
 zero:aj W ⟨Z,0,none⟩=some (.func (.func N.aT) #[] #[])
theorem Wn.mono {W':View} {s:bN} (w:Wn W s S I O Z r) (h:W.le W'):Wn W' s S I O Z r:=⟨ae h w.term,ae h w.op,ae h w.out,ae h w.zero⟩
theorem jx {s:bN} {op pat:Int} {v:Value} (m:Pm s.f s.i s.temp W h r n) (w:Wn W s S I O Z r) (hn:n pat=false) (hp:1<=pat/\pat<=32) (hop:opOf pat.toNat=op) (hv:s.i.op=op->nF W v (doS s.f s.i s.temp pat.toNat)) :
  aw Tryz.prog N.aZ #[.int .i64 op,.int .i64 pat,v,.pointer (some ⟨S,0,none⟩),.pointer (some ⟨I,0,none⟩),.pointer (some ⟨O,0,none⟩),.pointer (some ⟨Z,0,none⟩)] h
   (fun _ h'=>Pm s.f s.i s.temp W h' r (fun q=>n q||decide (q=pat))/\Kept h h' (some r)):=by
 refine ao (args:=[.int .i64 op,.int .i64 pat,v,.pointer (some ⟨S,0,none⟩),.pointer (some ⟨I,0,none⟩),.pointer (some ⟨O,0,none⟩),.pointer (some ⟨Z,0,none⟩)]) follows F.aZ E.aZ (Kw (by kernel_rfl)) fun K hK=>?_;dsimp only[L.aZ];have wh:=w.mono m.wle;obtain⟨g,h1,h2,h3⟩:=m.ex;have hg:g pat=none:=by have:=h2 pat;rw[hn]at this;simpa using this
 by_cases c:s.i.op=op
 ·simp[wh.term,wh.op,wh.out,c];refine jX (.inl rfl) (t:=T.cG) (k:=T.int) (e:=T.gl) (u:=.int .i64 pat) U.cG U.int rfl rfl rfl fE h1 (mapE id (putM g pat v)) iR.1 iR.2 fun h2' hs ho hm=>?_;exact hK _ _ ⟨m.put hm h2 h3 (by unfold patS;rw[if_pos ⟨hp.1,hp.2,by rw[hop];exact c⟩];exact hv c) ho,Kept.upd hs ho⟩
 simp[wh.term,wh.op,wh.out,c];refine C2 (f:=mapE id g) (z:=.nilFunc) (k:=T.int) (e:=T.gl) (d:=.int .i64) (r:=r) (u:=.int .i64 pat) U.cG U.int (by kernel_rfl) rfl rfl fE h1 ?_;simp[hg];refine Gy (v:=.nilFunc) (ps:=#[]) (rs:=#[T.aO,T.bool]) (vr:=false) (by kernel_rfl) rfl rfl rfl ?_;simp[ym,wh.out,wh.zero];refine jX (.inl rfl) (t:=T.cG) (k:=T.int) (e:=T.gl) (u:=.int .i64 pat) U.cG U.int rfl rfl rfl fE h1 (mapE id (putM g pat (.func (.func N.aT) #[] #[]))) iR.1 iR.2 fun h2' hs ho hm=>?_;exact hK _ _ ⟨m.put hm h2 h3 (by unfold patS;rw[if_neg (by rintro⟨-,-,e⟩;rw[hop]at e;exact c e)];exact AX) ho,Kept.upd hs ho⟩
end
end Go.Proofs.YtnfiilgdjpdlkaaGreatDoor
namespace Go.Proofs.YtnfiilgdjpdlkaaGreatDoor
open Go Go.Lft
section
variable {po po2:OP} {W:View} {h h':Heap} {r S I O Z:Nat} {n:Int->Bool} {s:bN}
structure Up (W:View) (h:Heap) (W':View):Prop where
 le:W.le W'
 old:Old W h W'
theorem Up.trans {W' W'':View} (u:Up W h W') (hs:h.size<=h'.size) (u':Up W' h' W''):Up W h W'':=⟨View.le_trans u.le u'.le,fun b o hb hx=>u.old b o hb (u'.old b o (by omega) hx)⟩
theorem th (hW:W.le (vw h)):Up W h (grow W h h'):=⟨bO hW,(Old.refl _ _).grow (Kz _)⟩
theorem Pm.dy {α:Type} [Rep α] {P:Program} {ty:TypeId} {us:List (Nat × Value)} {t:TypeId} {x:Operand} {v:Value} {d:α} {K:Value->Heap->Prop} (m:Pm s.f s.i s.temp W h r n) (hx:asg us x=v) (hv:Rd W v d)
  (hk : ∀B h' W',Up W h W'->Pm s.f s.i s.temp W' h' r n->At W' ⟨B,0,none⟩ d->Kept h h' (some r)->K (.pointer (some ⟨B,0,none⟩)) h'):@Lft.step po P (.box t x) ty us h K:=by refine iG hx (hv.mono m.wle) fun h1 hp hle hs _=>?_;exact hk _ _ _ (th m.wle) (m.ext hle) (pM (t:=t) (fz:=(0,0)) (by rw[dw (Kz _),hp];simp) (hv.mono (bO m.wle))) (Kept.of_le hle)
theorem yw {op pat mo lo hi sign:Int} {B:Nat} (m:Pm s.f s.i s.temp W h r n) (w:Wn W s S I O Z r) (ct:Ct W S I s) (hB:aj W ⟨B,0,none⟩=some (.func (.func N.aZ) #[] #[.pointer (some ⟨S,0,none⟩),.pointer (some ⟨I,0,none⟩),.pointer (some ⟨O,0,none⟩),.pointer (some ⟨Z,0,none⟩)]))
  (hn:n pat=false) (hp:1<=pat/\pat<=32) (hop:opOf pat.toNat=op) (hok:lk s) (h2:2<=op/\op<=14) (hs:sign=1\/sign=-1) (hm0:0<=mo/\mo<=100) (hlo:I64 lo) (hhi:I64 hi) (hd:doS s.f s.i s.temp pat.toNat=immS s.f s.i mo lo hi sign) :
  aw Tryz.prog N.bP #[.int .i64 op,.int .i64 pat,.int .i64 mo,.int .i64 lo,.int .i64 hi,.int .i64 sign,.pointer (some ⟨B,0,none⟩),.pointer (some ⟨S,0,none⟩),.pointer (some ⟨I,0,none⟩)] h
   (fun _ h'=>∃W',Up W h W'/\Pm s.f s.i s.temp W' h' r (fun q=>n q||decide (q=pat))/\Kept h h' (some r)):=by
 refine ao (args:=[.int .i64 op,.int .i64 pat,.int .i64 mo,.int .i64 lo,.int .i64 hi,.int .i64 sign,.pointer (some ⟨B,0,none⟩),.pointer (some ⟨S,0,none⟩),.pointer (some ⟨I,0,none⟩)]) follows F.bP E.bP (Kw (by kernel_rfl)) fun K hK=>?_;dsimp only[L.bP];refine ab fun z hz=>?_;simp;refine m.dy (α:=Int) (d:=mo) rfl (bC.2 ⟨rfl,by omega,by omega⟩) fun B1 h1 W1 u1 m1 a1 k1=>?_;have l1:=u1.le;refine m1.dy (α:=Int) (d:=lo) rfl (bC.2 ⟨rfl,hlo⟩) fun B2 h2' W2 u2 m2 a2 k2=>?_;have l2:=u2.le
 refine m2.dy (α:=Int) (d:=hi) rfl (bC.2 ⟨rfl,hhi⟩) fun B3 h3 W3 u3 m3 a3 k3=>?_;have l3:=u3.le;refine m3.dy (α:=Int) (d:=sign) rfl (bC.2 ⟨rfl,by omega,by omega⟩) fun B4 h4 W4 u4 m4 a4 k4=>?_;have l4:=u4.le
 have l14:=View.le_trans l2 (View.le_trans l3 l4);have l04:=View.le_trans l1 l14;have w4:=w.mono l04;have ct4:=ct.mono l04;subst hz;simp[ae (View.le_trans l04 m4.wle) hB];refine bI (ops:=[.tmp 16,.tmp 17,.tmp 18]) rfl (by kernel_rfl) (jx (op:=op) (pat:=pat) (v:=.func (.func N.bG) #[] #[.pointer (some ⟨S,0,none⟩),.pointer (some ⟨I,0,none⟩),.pointer (some ⟨B2,0,none⟩),.pointer (some ⟨B3,0,none⟩),.pointer (some ⟨B1,0,none⟩),.pointer (some ⟨B4,0,none⟩)]) m4 w4 hn hp hop fun ho=>?_) ?_
 ·rw[hd];have ha:=hok.one.two (by omega);exact⟨_,_,rfl,by kernel_rfl,fun h V hW hV=>Fy (ct4.mono hW) hV hok ha (ae (View.le_trans (View.le_trans l3 l4) hW) a2.int) (ae (View.le_trans l4 hW) a3.int) (ae (View.le_trans l14 hW) a1.int) (ae hW a4.int) hs hm0⟩
 rintro _ h5 ⟨m5,k5⟩;exact hK _ _ ⟨W4,u1.trans k1.size (u2.trans k2.size (u3.trans k3.size u4)),m5,k1.trans (k2.trans (k3.trans (k4.trans k5)))⟩
theorem Pm.dZ {P:Program} {ty:TypeId} {us:List (Nat × Value)} {t ty2:TypeId} {k:Nat} {z:Value} {x y:Operand} {us2:Value->List (Nat × Value)} {v:Value} {K:Value->Heap->Prop} (m:Pm s.f s.i s.temp W h r n) (hz:(P.info? t).map (·.zero)=some (some z)) (hzc:z.cells.size=k) (hsz:dp P t=some k) (hv:v.cells.size=k) (h1 : ∀c∈v.cells.toList,c.oneCell'=true)
  (hx : ∀p,asg (us2 p) x=p) (hy : ∀p,asg (us2 p) y=v) (hk : ∀B h' W',Up W h W'->Pm s.f s.i s.temp W' h' r n->W' B=some (.cells v.cells t (0,0))->Kept h h' (some r)->K (.pointer (some ⟨B,0,none⟩)) h') :
  @Lft.step po P (.alloc t) ty us h fun p h2=>@Lft.step po2 P (.store t x y) ty2 (us2 p) h2 fun _ h3=>K p h3:=
 gS hz hzc hsz hv h1 hx hy fun h' hle hs hb=>hk _ _ _ (th m.wle) (m.ext hle) (by rw[dw (Kz _)];exact hb) (Kept.of_le hle)
structure Mx (W:View) (S I O P Q L T:Nat) (s:bN) (op plain sum:Int):Prop where
 ct:Ct W S I s
 op:aj W ⟨O,0,none⟩=some (.int .i64 op)
 plain:aj W ⟨P,0,none⟩=some (.int .i64 plain)
 sum:aj W ⟨Q,0,none⟩=some (.int .i64 sum)
 laid:aj W ⟨L,0,none⟩=some (.func (.func N.bY) #[] #[.pointer (some ⟨O,0,none⟩),.pointer (some ⟨I,0,none⟩),.pointer (some ⟨P,0,none⟩)])
 with_:aj W ⟨T,0,none⟩=some (.func (.func N.bZ) #[] #[.pointer (some ⟨I,0,none⟩)])
theorem Mx.mono {W':View} {P Q L T:Nat} {op plain sum:Int} (m:Mx W S I O P Q L T s op plain sum) (h:W.le W'):Mx W' S I O P Q L T s op plain sum:=
 ⟨m.ct.mono h,ae h m.op,ae h m.plain,ae h m.sum,ae h m.laid,ae h m.with_⟩
abbrev ptr (B:Nat):Value:=.pointer (some ⟨B,0,none⟩)
def lI:Prop:=∀(V:View) (h:Heap) (s:bN) (S I O P Q L T:Nat) (op plain sum:Int),Mx V S I O P Q L T s op plain sum->V.le (vw h)->lk s->s.i.op=op->(op=15\/op=16)->plain≠sum->(0<=plain/\plain<=100)->(0<=sum/\sum<=100)->-9223372036854775808<=s.temp/\s.temp<=9223372036854775807->
 aw Tryz.prog N.cf #[ptr L,ptr P,ptr I,ptr T] h (fun u h'=>bJ V h h' u (memS s.f s.i s.temp op plain sum 0))/\
 aw Tryz.prog N.eA #[ptr S,ptr I,ptr L,ptr P,ptr T] h (fun u h'=>bJ V h h' u (memS s.f s.i s.temp op plain sum 1))/\
 aw Tryz.prog N.bX #[ptr S,ptr I,ptr L,ptr Q,ptr T] h (fun u h'=>bJ V h h' u (memS s.f s.i s.temp op plain sum 2))/\
 aw Tryz.prog N.bV #[ptr S,ptr I,ptr T,ptr L,ptr Q] h (fun u h'=>bJ V h h' u (memS s.f s.i s.temp op plain sum 3))
theorem cell_of {B:Nat} {v:Value} {t:TypeId} (h:W B=some (.cells v.cells t (0,0))) (h1:v.cells = #[v]):aj W ⟨B,0,none⟩=some v:=by simp[aj,h,h1]
theorem wU {op pat plain sum:Int} {vs:Value} (m:Pm s.f s.i s.temp W h r n) (w:Wn W s S I O Z r) (hvs:Rd W vs s)
  (hn : ∀k,0<=k->k<4->n (pat+k)=false) (hp:1<=pat/\pat<=28) (hop : ∀k:Int,0<=k->k<4->opOf (pat+k).toNat=op) (hok:lk s) (h2:op=15\/op=16) (hne:plain≠sum) (hpl:0<=plain/\plain<=100) (hsu:0<=sum/\sum<=100)
  (hM:s.i.op=op->lI) (hd : ∀k:Nat,k<4->doS s.f s.i s.temp (pat+k).toNat=memS s.f s.i s.temp op plain sum k) :
  aw Tryz.prog N.dG #[vs,.func (.func N.aZ) #[] #[ptr S,ptr I,ptr O,ptr Z],.int .i64 pat,.int .i64 op,.int .i64 plain,.int .i64 sum] h
   (fun _ h'=>∃W',Up W h W'/\Pm s.f s.i s.temp W' h' r (fun q=>n q||decide (pat<=q/\q<pat+4))/\Kept h h' (some r)):=by
 refine ao (args:=[vs,.func (.func N.aZ) #[] #[ptr S,ptr I,ptr O,ptr Z],.int .i64 pat,.int .i64 op,.int .i64 plain,.int .i64 sum]) follows F.dG E.dG (Kw (by kernel_rfl)) fun K hK=>?_;dsimp only[L.dG];refine ab fun z hz=>?_;simp;refine m.dy (d:=s) rfl hvs fun B1 h1 W1 u1 m1 a1 k1=>?_;have l1:=u1.le;refine m1.dy (α:=Int) (d:=op) rfl (bC.2 ⟨rfl,by omega,by omega⟩) fun B2 h2' W2 u2 m2 a2 k2=>?_;have l2:=u2.le
 refine m2.dy (α:=Int) (d:=plain) rfl (bC.2 ⟨rfl,by omega,by omega⟩) fun B3 h3 W3 u3 m3 a3 k3=>?_;have l3:=u3.le;refine m3.dy (α:=Int) (d:=sum) rfl (bC.2 ⟨rfl,by omega,by omega⟩) fun B4 h4 W4 u4 m4 a4 k4=>?_;have l4:=u4.le
 subst hz;refine ab fun z hz=>?_;have l24:=View.le_trans l3 l4;have l14:=View.le_trans l2 l24;obtain⟨ui,hui,rui⟩:=(a1.part bN.Kj).ldN rfl (N:=5) rfl;have hui:=hui _ (View.le_trans l14 m4.wle);have hui:Un.ev (vw h4) (.au 5) (.pointer (some ⟨B1,2,none⟩))=some ui:=by simpa using hui
 obtain⟨c1,c2,c3⟩:=gD rui;simp[hui];refine m4.dZ (k:=5) (z:=.agg #[.int .i64 0,.int .i64 0,.int .i64 0,.slice none 0 0,.int .i32 0]) (by kernel_rfl) rfl (by kernel_rfl) c2 c3 (fun _=>by simp) (fun _=>by simp) fun B5 h5 W5 u5 m5 b5 k5=>?_;have l5:=u5.le;have a5:At W5 ⟨B5,0,none⟩ s.i:=pM b5 (rui.mono (View.le_trans l14 l5));subst hz;refine ab fun z hz=>?_;simp;refine m5.dZ (k:=1) (z:=.nilFunc) (v:=.func (.func N.bY) #[] #[ptr B2,ptr B5,ptr B3]) (by kernel_rfl) rfl (by kernel_rfl) rfl (by simp[Value.cells,Value.oneCell']) (fun _=>by simp) (fun _=>by simp) fun B6 h6 W6 u6 m6 b6 k6=>?_;have l6:=u6.le
 subst hz;refine ab fun z hz=>?_;simp;refine m6.dZ (k:=1) (z:=.nilFunc) (v:=.func (.func N.bZ) #[] #[ptr B5]) (by kernel_rfl) rfl (by kernel_rfl) rfl (by simp[Value.cells,Value.oneCell']) (fun _=>by simp) (fun _=>by simp) fun B7 h7 W7 u7 m7 b7 k7=>?_;have l7:=u7.le;have l57:=View.le_trans l6 l7;have l47:=View.le_trans l5 l57;have l17:=View.le_trans l14 l47;have mx:Mx W7 B1 B5 B2 B3 B4 B6 B7 s op plain sum:=⟨⟨a1.mono l17,a5.mono l57⟩,ae (View.le_trans l24 l47) a2.int,ae (View.le_trans l4 l47) a3.int,ae l47 a4.int,ae l7 (cell_of b6 rfl),cell_of b7 rfl⟩;have w7:=w.mono (View.le_trans l1 l17);have tr:-9223372036854775808<=s.temp/\s.temp<=9223372036854775807:=(a1.part bN.Au).rng;have hn0:=hn 0 (by omega) (by omega);have fits:s.i.op=op->nF W7 (.func (.func N.cf) #[] #[ptr B6,ptr B3,ptr B5,ptr B7]) (memS s.f s.i s.temp op plain sum 0)/\nF W7 (.func (.func N.eA) #[] #[ptr B1,ptr B5,ptr B6,ptr B3,ptr B7]) (memS s.f s.i s.temp op plain sum 1)/\
   nF W7 (.func (.func N.bX) #[] #[ptr B1,ptr B5,ptr B6,ptr B4,ptr B7]) (memS s.f s.i s.temp op plain sum 2)/\nF W7 (.func (.func N.bV) #[] #[ptr B1,ptr B5,ptr B7,ptr B6,ptr B4]) (memS s.f s.i s.temp op plain sum 3):=fun ho=>
  ⟨⟨_,_,rfl,by kernel_rfl,fun h V hW hV=>(hM ho V h s _ _ _ _ _ _ _ op plain sum (mx.mono hW) hV hok ho h2 hne hpl hsu tr).1⟩,⟨_,_,rfl,by kernel_rfl,fun h V hW hV=>(hM ho V h s _ _ _ _ _ _ _ op plain sum (mx.mono hW) hV hok ho h2 hne hpl hsu tr).2.1⟩,
   ⟨_,_,rfl,by kernel_rfl,fun h V hW hV=>(hM ho V h s _ _ _ _ _ _ _ op plain sum (mx.mono hW) hV hok ho h2 hne hpl hsu tr).2.2.1⟩,⟨_,_,rfl,by kernel_rfl,fun h V hW hV=>(hM ho V h s _ _ _ _ _ _ _ op plain sum (mx.mono hW) hV hok ho h2 hne hpl hsu tr).2.2.2⟩⟩;subst hz;refine ab fun z hz=>?_;simp[ae m7.wle mx.op];refine bI (ops:=[.tmp 20,.tmp 21,.tmp 22]) rfl (by kernel_rfl) (jx (op:=op) (pat:=pat) m7 w7 (by simpa using hn0) (by omega) (by simpa using hop 0 (by omega) (by omega)) fun ho=>by have:=hd 0 (by omega);simp at this;rw[this];exact(fits ho).1) ?_;rintro _ h8 ⟨m8,k8⟩;subst hz;refine ab fun z hz=>?_;have e1:IntKind.i64.wrap (pat+1)=pat+1:=bE (by omega) (by omega);simp[ae m8.wle mx.op,e1];refine bI (ops:=[.tmp 25,.tmp 27,.tmp 28]) rfl (by kernel_rfl) (jx (op:=op) (pat:=pat+1) m8 w7 (by have:=hn 1 (by omega) (by omega);simp[this]<;>omega) (by omega) (hop 1 (by omega) (by omega)) fun ho=>by have:=hd 1 (by omega);simp at this;rw[this];exact(fits ho).2.1) ?_;rintro _ h9 ⟨m9,k9⟩;subst hz;refine ab fun z hz=>?_;have e1:IntKind.i64.wrap (pat+2)=pat+2:=bE (by omega) (by omega)
 simp[ae m9.wle mx.op,e1];refine bI (ops:=[.tmp 31,.tmp 33,.tmp 34]) rfl (by kernel_rfl) (jx (op:=op) (pat:=pat+2) m9 w7 (by have:=hn 2 (by omega) (by omega);simp[this]<;>omega) (by omega) (hop 2 (by omega) (by omega)) fun ho=>by have:=hd 2 (by omega);simp at this;rw[this];exact(fits ho).2.2.1) ?_;rintro _ h10 ⟨m10,k10⟩;subst hz;have e1:IntKind.i64.wrap (pat+3)=pat+3:=bE (by omega) (by omega);simp[ae m10.wle mx.op,e1];refine bI (ops:=[.tmp 37,.tmp 39,.tmp 40]) rfl (by kernel_rfl) (jx (op:=op) (pat:=pat+3) m10 w7 (by have:=hn 3 (by omega) (by omega);simp[this]<;>omega) (by omega) (hop 3 (by omega) (by omega)) fun ho=>by have:=hd 3 (by omega);simp at this;rw[this];exact(fits ho).2.2.2) ?_;rintro _ h11 ⟨m11,k11⟩;refine hK _ _ ⟨W7,u1.trans k1.size (u2.trans k2.size (u3.trans k3.size (u4.trans k4.size (u5.trans k5.size (u6.trans k6.size u7))))),?_,k1.trans (k2.trans (k3.trans (k4.trans (k5.trans (k6.trans (k7.trans (k8.trans (k9.trans (k10.trans k11)))))))))⟩;have e:(fun q=>n q||decide (pat<=q/\q<pat+4))=fun q=>(((n q||decide (q=pat))||decide (q=pat+1))||decide (q=pat+2))||decide (q=pat+3):=by
  funext q;cases n q with
  | true=>simp
  | false=>rw[K0];simp;omega
 rw[e];exact m11
end
end Go.Proofs.YtnfiilgdjpdlkaaGreatDoor
namespace Go.Proofs.YtnfiilgdjpdlkaaGreatDoor
open Go Go.Lft
section
variable {W V:View} {h h':Heap} {r S I O Z:Nat} {n:Int->Bool} {s:bN}
def nTo (m:Int):Int->Bool:=fun q=>decide (1<=q/\q<=m)
theorem Pm.to{a b:Int}(m:Pm s.f s.i s.temp W h r (fun q=>nTo a q||decide (q=b)))(hb:b=a+1)(ha:0<=a):Pm s.f s.i s.temp W h r (nTo b):=by
 have e:(fun q=>nTo a q||decide (q=b))=nTo b:=by funext q;unfold nTo;rw[K0];simp;omega
 rw[<-e];exact m
theorem Pm.to4{a b:Int}(m:Pm s.f s.i s.temp W h r (fun q=>nTo a q||decide (b<=q/\q<b+4)))(hb:b=a+1)(ha:0<=a):Pm s.f s.i s.temp W h r (nTo (a+4)):=by
 have e:(fun q=>nTo a q||decide (b<=q/\q<b+4))=nTo (a+4):=by funext q;unfold nTo;rw[K0];simp;omega
 rw[<-e];exact m
theorem Gu{f:ak}{i:InsD}{temp:Int}{p:Nat}(h:3<=p/\p<=15):doS f i temp p=some ⟨i.args,[],[⟨p+2,i.dst,0,nth i.args 0,nth i.args 1,0,⟨0⟩,[]⟩],eg⟩:=by unfold doS;rw[if_neg (by omega),if_neg (by omega),if_pos (by omega)]
theorem zg{vs:Value}{W0:View}(hW:W0.le (vw h))(hvs:Rd W0 vs s)(hok:lk s)(hterm:s.term=false)(hM:s.i.op=15\/s.i.op=16->lI):
  aw Tryz.prog N.bj #[vs] h (fun u h'=>∃r W',u = .map (some r)/\Up W0 h W'/\Pm s.f s.i s.temp W' h' r (nTo 32)/\(vw h).le (vw h')):=by
 refine ao (args:=[vs]) follows F.bj E.bj (Kw (by kernel_rfl)) fun K hK=>?_;dsimp only[L.bj];have c0:=Cx.start hW;refine ab fun z hz=>?_;simp;refine c0.dy rfl hvs fun S h1 W1 hW1 c1 at1 hle1=>?_;subst hz;refine ab fun z hz=>?_;obtain⟨ui,hui,rui⟩:=(at1.part bN.Kj).ldN rfl (N:=5) rfl;have hui:Un.ev (vw h1) (.au 5) (.pointer (some ⟨S,2,none⟩))=some ui:=by simpa using hui _ c1.wle
 simp[hui];refine c1.dZ (α:=InsD) rui (n:=5) (z:=.agg #[.int .i64 0,.int .i64 0,.int .i64 0,.slice none 0 0,.int .i32 0]) (by kernel_rfl) rfl rfl (by kernel_rfl) (fun _=>by simp) (fun _=>by simp) fun I h2 W2 hW2 c2 at2 hle2=>?_;subst hz;refine ab fun z hz=>?_;simp;refine gS (n:=1) (z:=.nilFunc) (v:=.func (.func N.aT) #[] #[]) (by kernel_rfl) rfl (by kernel_rfl) rfl (by simp[Value.cells,Value.oneCell']) (fun _=>by simp) (fun _=>by simp) fun h3 hle3 hs3 hb3=>?_;have c3:=c2.ext hle3;have hW3:=c2.up (h':=h3);have z3:aj (grow W2 h2 h3) ⟨h2.size,0,none⟩=some (.func (.func N.aT) #[] #[]):=cell_of (by rw[dw (Kz _)];exact hb3) rfl;generalize grow W2 h2 h3=W3 at *;generalize h2.size=Z at z3;subst hz;refine ab fun z hz=>?_;simp;refine lg ?_;have m3:dL (.int .i64) (h3.push (.map #[] 0)) h3.size (mapE id fun _=>none):=by rw[oU];exact dL.none (by simp)
 have q3:=bM h3 (.map #[] 0);have av3:W3 h3.size=none:=View.cM c3.wle (Kz _);have k3:Kept h3 (h3.push (.map #[] 0)) none:=Kept.push ..;have hsz:h3.size<(h3.push (.map #[] 0)).size:=by simp
 generalize h3.push (.map #[] 0)=h4 at *;obtain⟨r,hr⟩ : ∃r,r=h3.size:=⟨_,rfl⟩;rw[<-hr]at m3 av3 ⊢;have p4:Pm s.f s.i s.temp W3 h4 r (nTo 0):=⟨View.le_trans c3.wle q3,av3,_,m3,fun p=>by unfold nTo;simp;omega,fun p v hp=>by cases hp⟩;have u03:Up W0 h W3:=⟨View.le_trans hW1 (View.le_trans hW2 hW3),c3.old⟩;have le04:(vw h).le (vw h4):=View.le_trans c3.le0 q3;have hrs:h.size<=r:=by rw[hr];exact bW c3.le0
 refine p4.dZ (k:=1) (z:=.map none) (v:=.map (some r)) (by kernel_rfl) rfl (by kernel_rfl) rfl (by simp[Value.cells,Value.oneCell']) (fun _=>by simp) (fun _=>by simp) fun O h5 W5 u5 p5 b5 k5=>?_;subst hz;refine ab fun z hz=>?_;simp;refine p5.dZ (k:=1) (z:=.nilFunc) (v:=.func (.func N.aZ) #[] #[ptr S,ptr I,ptr O,ptr Z]) (by kernel_rfl) rfl (by kernel_rfl) rfl (by simp[Value.cells,Value.oneCell']) (fun _=>by simp) (fun _=>by simp) fun B h6 W6 u6 p6 b6 k6=>?_;have l16:W1.le W6:=View.le_trans hW2 (View.le_trans hW3 (View.le_trans u5.le u6.le));have l26:W2.le W6:=View.le_trans hW3 (View.le_trans u5.le u6.le);have ct:Ct W6 S I s:=⟨at1.mono l16,at2.mono l26⟩;have w6:Wn W6 s S I O Z r:=⟨by have:=(ct.site.part bN.nm).bool;rw[hterm]at this;simpa using this,by simpa using(ct.ins.part InsD.qw).int,cell_of (u6.le _ _ b5) rfl,ae (View.le_trans u5.le u6.le) z3⟩;have hB:aj W6 ⟨B,0,none⟩=some (.func (.func N.aZ) #[] #[ptr S,ptr I,ptr O,ptr Z]):=cell_of b6 rfl;have s06:h.size<=h4.size:=bW le04;have u06:Up W0 h W6:=u03.trans s06 (u5.trans k5.size u6);have k46:=k5.trans k6;generalize W6=Wa at *;generalize h6=ha at *;clear b5 b6 k5 k6 u5 u6 p5 l16 l26 z3 hui at1 at2 c1 c2 c3;subst hz;refine ab fun z hz=>?_;have hb:=ae p6.wle hB
 simp[hb];refine bI (ops:=[.const (.int .i64 1),.const (.int .i64 1),.tmp 16]) rfl (by kernel_rfl) (jx (op:=1) (pat:=1) p6 w6 (by rfl) (by omega) (by rfl) fun ho=>⟨_,_,rfl,by kernel_rfl,fun h V hW hV=>G4 (ct.mono hW) hV⟩) ?_;rintro _ hc1 ⟨p7,k7⟩;have p7:=p7.to (a:=0) (by rfl) (by omega);subst hz;refine ab fun z hz=>?_;have hb:=ae p7.wle hB
 simp[hb];refine bI (ops:=[.const (.int .i64 1),.const (.int .i64 2),.tmp 19]) rfl (by kernel_rfl) (jx (op:=1) (pat:=2) p7 w6 (by rfl) (by omega) (by rfl) fun ho=>⟨_,_,rfl,by kernel_rfl,fun h V hW hV=>FH (ct.mono hW) hV⟩) ?_;rintro _ hc2 ⟨p8,k8⟩;have p8:=p8.to (a:=1) (by rfl) (by omega);have k48:=k46.trans (k7.trans k8);subst hz;refine ab fun z hz=>?_;refine ab fun y hy=>?_;simp;refine p8.dZ (k:=1) (z:=.int .i64 0) (v:=.int .i64 2) (by kernel_rfl) rfl (by kernel_rfl) rfl (by simp[Value.cells,Value.oneCell']) (fun _=>by simp) (fun _=>by simp) fun P0 h9 W9 u9 p9 b9 k9=>?_;have c9:aj W9 ⟨P0,0,none⟩=some (.int .i64 ((2:Int)+(0:Nat))):=cell_of b9 rfl
 have k49:=k48.trans k9;have u09:Up W0 h W9:=u06.trans (KU s06 k48.size) u9;have l9:=u9.le;subst hy;simp only[aH];refine iV [0,1,2,3,4,5,6,7] (fun m ρ hx=>∃(k:Nat) (W:View) (P:Nat),k<=13/\m=13-k/\ρ=[(0,vs),(1,ptr S),(2,.map none),(3,ptr I),(4,ptr Z),(5,ptr O),(6,ptr B),(7,ptr P)]/\Wa.le W/\Up W0 h W/\Pm s.f s.i s.temp W hx r (nTo (2+k))/\aj W ⟨P,0,none⟩=some (.int .i64 ((2:Int)+k))/\Kept h4 hx (some r)) 13
  ⟨0,W9,P0,by omega,rfl,rfl,l9,u09,by simpa using p9,c9,k49⟩ ?_;clear hb k7 k8 k9 p6 p7 p8 p9 b9 c9 k46 k48 k49 u9 u09 l9;rintro m ρ hx ⟨k,W,P,hk,rfl,rfl,lW,uW,pW,cP,kW⟩ K2 hK2;have cPx:=ae pW.wle cP;have hb:=ae (View.le_trans lW pW.wle) hB;dsimp only[L.bj.l1];refine ab fun x hx2=>?_;by_cases c:k<13
 ·have e14:(2:Int)+k<=14:=by omega
  simp[cPx,e14];rw[hx2];clear hx2 x;refine ab fun x hx2=>?_;have e1:(3:Int)+(2+k)-2=3+k:=by omega
  simp(disch:=omega)[cPx,hb,e1];refine bI (ops:=[.tmp 26,.tmp 29,.tmp 30]) rfl (by kernel_rfl) (jx (op:=2+k) (pat:=3+k) pW (w6.mono lW) (by unfold nTo;simp<;>omega) (by omega) (by unfold opOf;rw[if_neg (by omega),if_pos (by omega)];try omega) fun ho=>?_) ?_
  ·rw[Gu (by omega)];have e:((3+(k:Int)).toNat:Int)+2=(2+(k:Int))+3:=by omega
   rw[e];exact⟨_,_,rfl,by kernel_rfl,fun h V hW hV=>GR ((ct.mono lW).mono hW) hV (ae hW cP) (by omega) ⟨hok.one.two (by omega),hok.one.most⟩⟩
  rintro _ hy1 ⟨pX,kX⟩;have pX:=pX.to (a:=2+k) (by omega) (by omega);rw[hx2];clear hx2 x;simp[ae pX.wle cP];refine gS (n:=1) (z:=.int .i64 0) (v:=.int .i64 (2+k)) (by kernel_rfl) rfl (by kernel_rfl) rfl (by simp[Value.cells,Value.oneCell']) (fun _=>by simp) (fun _=>by simp) fun hy2 hle2 hs2 hb2=>?_;have cN:aj (vw hy2) ⟨hy1.size,0,none⟩=some (.int .i64 (2+k)):=cell_of hb2 rfl
  simp(disch:=omega)[cN];refine eX (g:=hy1.size) (o:=0) (n:=1) (v:=.int .i64 (2+k+1)) (cur:=(Value.int .i64 (2+k)).cells) (e:=T.int) (by kernel_rfl) rfl rfl rfl (by simp[Value.cells,Value.oneCell']) hb2 (by simp[Value.cells]) fun hy3 hs3 ⟨row,hr3,he3⟩ ho3=>?_;have hrow:row = #[.int .i64 (2+k+1)]:=by rw[<-Array.toList_inj,he3];simp[Value.cells]
  rw[hrow]at hr3;have le13:(vw hy1).le (vw hy3):=fun b o hb=>by have hlt:=View.lt (View.le_refl (vw hy1)) hb;show hy3[b]? = _;rw[ho3 b (by omega)];exact hle2 b o hb
  have cN3:aj (grow W hy1 hy3) ⟨hy1.size,0,none⟩=some (.int .i64 ((2:Int)+(k+1:Nat))):=by rw[show((2:Int)+(k+1:Nat))=2+k+1 by omega];simp[aj,dw (Kz _),hr3]
  have uX:=th (h':=hy3) pX.wle;have eN:(2:Int)+((k+1:Nat):Int)=3+k:=by omega
  refine hK2 (13-(k+1)) _ _ (by omega) ⟨k+1,_,hy1.size,by omega,rfl,rfl,View.le_trans lW uX.le,uW.trans (KU s06 (kW.trans kX).size) uX,?_,cN3,kW.trans (kX.trans (Kept.of_le le13))⟩;rw[eN];exact pX.ext le13
 have e13:k=13:=by omega
 subst e13;simp[cPx];clear hK2 cPx cP hx2 x;subst hz;refine ab fun z hz=>?_;simp;subst hz;refine ab fun z hz=>?_;simp;have ctW:=ct.mono lW;have wW:=w6.mono lW;have hBW:=ae lW hB;refine bI (ops:=[.const (.int .i64 2),.const (.int .i64 16),.const (.int .i64 18),.const (.int .i64 (-128)),.const (.int .i64 127),.const (.int .i64 1)]) rfl (by kernel_rfl) (yw (op:=2) (pat:=16) (mo:=18) (lo:=-128) (hi:=127) (sign:=1) pW wW ctW hBW (by rfl) (by omega) (by rfl) hok (by omega) (.inl rfl) (by omega) (by constructor<;>decide) (by constructor<;>decide) rfl) ?_;rintro _ i1 ⟨V1,v1,p1,k1⟩;have p1:=p1.to (a:=15) (by rfl) (by omega);subst hz;refine ab fun z hz=>?_;simp;refine bI (ops:=[.const (.int .i64 3),.const (.int .i64 17),.const (.int .i64 18),.const (.int .i64 (-127)),.const (.int .i64 128),.const (.int .i64 (-1))]) rfl (by kernel_rfl) (yw (op:=3) (pat:=17) (mo:=18) (lo:=-127) (hi:=128) (sign:=-1) p1 (wW.mono v1.le) (ctW.mono v1.le) (ae v1.le hBW) (by rfl) (by omega) (by rfl) hok (by omega) (.inr rfl) (by omega) (by constructor<;>decide) (by constructor<;>decide) rfl) ?_;rintro _ i2 ⟨V2,v2,p2,k2⟩;have v12:=View.le_trans v1.le v2.le
 have p2:=p2.to (a:=16) (by rfl) (by omega);subst hz;refine ab fun z hz=>?_;simp;refine bI (ops:=[.const (.int .i64 5),.const (.int .i64 18),.const (.int .i64 19),.const (.int .i64 (-128)),.const (.int .i64 127),.const (.int .i64 1)]) rfl (by kernel_rfl) (yw (op:=5) (pat:=18) (mo:=19) (lo:=-128) (hi:=127) (sign:=1) p2 (wW.mono v12) (ctW.mono v12) (ae v12 hBW) (by rfl) (by omega) (by rfl) hok (by omega) (.inl rfl) (by omega) (by constructor<;>decide) (by constructor<;>decide) rfl) ?_;rintro _ i3 ⟨V3,v3,p3,k3⟩;have v13:=View.le_trans v12 v3.le
 have p3:=p3.to (a:=17) (by rfl) (by omega);have uV3:Up W0 h V3:=uW.trans (KU s06 kW.size) (v1.trans k1.size (v2.trans k2.size v3));have kV3:=kW.trans (k1.trans (k2.trans k3));have lV3:=View.le_trans lW v13;clear v1 v2 v3 v12 v13 p1 p2 k1 k2 k3 pW uW kW hBW wW ctW lW;subst hz;refine ab fun z hz=>?_;refine ab fun y hy=>?_;simp;refine ke (α:=Int) (n:=3) (X:=V3) (vs:=[.int .i64 8,.int .i64 9,.int .i64 10]) (ds:=[8,9,10]) El.aP (by simp) ⟨bC.2 ⟨rfl,by decide,by decide⟩,bC.2 ⟨rfl,by decide,by decide⟩,bC.2 ⟨rfl,by decide,by decide⟩,trivial⟩ rfl (by decide) (by decide) fun u40 i4 hle4 hs4 hu4 _=>?_;have hu4:=hu4 (grow V3 i3 i4) (bO p3.wle) (dw (Kz _))
 have p4:=p3.ext hle4;have u4:=th (h':=i4) p3.wle;have uV4:=uV3.trans (KU s06 kV3.size) u4;have kV4:=kV3.trans (Kept.of_le hle4);have lV4:=View.le_trans lV3 u4.le;subst hy;simp[hu4.len];refine aJ [0,1,2,3,4,5,6,8,40,41,42] (fun(_:Unit) j=>[vs,ptr S,.map none,ptr I,ptr Z,ptr O,ptr B,.func (.func N.bP) #[] #[ptr B,ptr S,ptr I],u40,.int .i64 3,.int .i64 j])
  (fun _ j hx=>∃W,(grow V3 i3 i4).le W/\Up W0 h W/\Pm s.f s.i s.temp W hx r (nTo (18+j))/\Kept h4 hx (some r)) 3 ()
  rfl (by omega) rfl ⟨_,View.le_refl _,uV4,by simpa using p4,kV4⟩ (fun _ _=>rfl) (fun v i h1 hk m=>by simp) ?_ ?_
 ·rintro _ j hx hj ⟨W,lW,uW,pW,kW⟩ K2 hK2;have hux:=hu4.mono (View.le_trans lW pW.wle);refine ab fun x hx2=>?_;have hj3:j<[8,9,10].length:=hj
  simp(disch:=omega)[hux.idx1 rfl,hux.int (View.le_refl _)];have h012:j=0\/j=1\/j=2:=by omega
  have ej:nth ([8,9,10]:List Int) j=8+(j:Int):=by rcases h012 with rfl | rfl | rfl<;>rfl
  rw[ej,hx2];clear hx2 x;simp(disch:=omega);have lWa:=View.le_trans lV4 lW;refine bI (ops:=[.tmp 48,.tmp 50,.tmp 52,.const (.int .i64 0),.const (.int .i64 31),.const (.int .i64 1)]) rfl (by kernel_rfl) (yw (op:=8+j) (pat:=19+j) (mo:=20+j) (lo:=0) (hi:=31) (sign:=1) pW (w6.mono lWa) (ct.mono lWa) (ae lWa hB) (by unfold nTo;simp<;>omega) (by omega) (by rcases h012 with rfl | rfl | rfl<;>rfl) hok (by omega) (.inl rfl) (by omega) (by constructor<;>decide) (by constructor<;>decide) (by rcases h012 with rfl | rfl | rfl<;>rfl)) ?_;rintro _ hx3 ⟨W3,v3,p3,k3⟩;have p3:=p3.to (a:=18+j) (by omega) (by omega);refine hK2 () _ _ rfl rfl ⟨W3,View.le_trans lW v3.le,uW.trans (KU s06 kW.size) v3,?_,kW.trans k3⟩;rw[show(18:Int)+((j+1:Nat):Int)=19+j by omega];exact p3
 rintro _ hx ⟨W,lW,uW,pW,kW⟩;have lWa:=View.le_trans lV4 lW;simp;subst hz;refine ab fun z hz=>?_;have ctW:=ct.mono lWa
 have wW:=w6.mono lWa;have hBW:=ae lWa hB;have hb:=ae pW.wle hBW;simp[hb];refine bI (ops:=[.const (.int .i64 2),.const (.int .i64 22),.tmp 56]) rfl (by kernel_rfl) (jx (op:=2) (pat:=22) pW wW (by rfl) (by omega) (by rfl) fun ho=>⟨_,_,rfl,by kernel_rfl,fun h V hW hV=>Gx (ctW.mono hW) hV hok (hok.one.two (by omega)) (ae hW wW.zero)⟩) ?_;rintro _ i1 ⟨p1,k1⟩;have p1:=p1.to (a:=21) (by rfl) (by omega);subst hz;refine ab fun z hz=>?_;obtain⟨us,hus,rus⟩:=ctW.site.ldN rfl (N:=13) rfl;have hb:=ae p1.wle hBW
 simp[hb,hus _ p1.wle];refine rU _ (by kernel_rfl) (by simp) (wU (op:=15) (pat:=23) (plain:=24) (sum:=25) p1 wW rus (fun k h0 h4=>by unfold nTo;simp<;>omega) (by omega) (fun k h0 h4=>?_) hok (.inl rfl) (by decide) (by omega) (by omega) (fun ho=>hM (.inl ho)) (fun k hk=>?_)) ?_
 ·rcases(by omega:k=0\/k=1\/k=2\/k=3)with rfl | rfl | rfl | rfl<;>rfl
 ·rcases(by omega:k=0\/k=1\/k=2\/k=3)with rfl | rfl | rfl | rfl<;>rfl
 rintro _ i2 ⟨V2,v2,p2,k2⟩;have p2:=p2.to4 (a:=22) (by rfl) (by omega);subst hz;refine ab fun z hz=>?_;have hb:=ae p2.wle (ae v2.le hBW)
 simp[hb,hus _ (View.le_trans v2.le p2.wle)];refine rU _ (by kernel_rfl) (by simp) (wU (op:=16) (pat:=27) (plain:=26) (sum:=27) p2 (wW.mono v2.le) (rus.mono v2.le) (fun k h0 h4=>by unfold nTo;simp<;>omega) (by omega) (fun k h0 h4=>?_) hok (.inr rfl) (by decide) (by omega) (by omega) (fun ho=>hM (.inr ho)) (fun k hk=>?_)) ?_
 ·rcases(by omega:k=0\/k=1\/k=2\/k=3)with rfl | rfl | rfl | rfl<;>rfl
 ·rcases(by omega:k=0\/k=1\/k=2\/k=3)with rfl | rfl | rfl | rfl<;>rfl
 rintro _ i3 ⟨V3',v3,p3,k3⟩;have p3:=p3.to4 (a:=26) (by rfl) (by omega);have v23:=View.le_trans v2.le v3.le;have ct3:=ctW.mono v23;have w3:=wW.mono v23;have hb:=ae p3.wle (ae v23 hBW);subst hz;refine ab fun z hz=>?_;simp[hb];refine bI (ops:=[.const (.int .i64 17),.const (.int .i64 31),.tmp 65]) rfl (by kernel_rfl) (jx (op:=17) (pat:=31) p3 w3 (by rfl) (by omega) (by rfl) fun ho=>⟨_,_,rfl,by kernel_rfl,fun h V hW hV=>FZ (ct3.mono hW) hV hok.one.most⟩) ?_;rintro _ i4' ⟨p4',k4⟩;have p4':=p4'.to (a:=30) (by rfl) (by omega)
 subst hz;refine ab fun z hz=>?_;have hb:=ae p4'.wle (ae v23 hBW);simp[hb];refine bI (ops:=[.const (.int .i64 18),.const (.int .i64 32),.tmp 68]) rfl (by kernel_rfl) (jx (op:=18) (pat:=32) p4' w3 (by rfl) (by omega) (by rfl) fun ho=>⟨_,_,rfl,by kernel_rfl,fun h V hW hV=>GO (ct3.mono hW) hV ⟨hok.one.two (by omega),hok.one.most⟩⟩) ?_;rintro _ i5 ⟨p5,k5⟩;have p5:=p5.to (a:=31) (by rfl) (by omega);subst hz;simp[ae p5.wle w3.out];have kk:=kW.trans (k1.trans (k2.trans (k3.trans (k4.trans k5))));have sx:h.size<=hx.size:=KU s06 kW.size;refine hK _ _ ⟨r,V3',rfl,uW.trans (KU sx k1.size) (v2.trans k2.size v3),p5,?_⟩;intro b o hb;have hlt:=View.lt (View.le_refl (vw h)) hb;show i5[b]? = _;rw[kk.block b (by omega) (by simp;omega)];exact le04 b o hb
end
end Go.Proofs.YtnfiilgdjpdlkaaGreatDoor
namespace Go.Lft
open Go Go.MapKept
variable {po:OP} {pp:PP}
theorem lO {P:Program} {ty:TypeId} {us:List (Nat × Value)} {h:Heap} {K:Value->Heap->Prop} {d:TypeDesc} {r:Nat} {f:Value->Option Value} {t k e:TypeId} {x y:Operand} {u z:Value} (ht:P.underlying t=some (.map k e)) (hd:P.underlying k=some d) (hz:(P.info? e).map (·.zero)=some (some z)) (hx:asg us x = .map (some r)) (hy:asg us y=u) (hu:IsKey d u) (m:dL d h r f)
  (hk:K (.tuple #[(f u).getD z,.bool (f u).isSome]) h):@step po P (.lookup t x y true) ty us h K:=by
 obtain⟨es,c,h1,h2,h3,h4⟩:=m.ex;simp only[KA]at hz;obtain⟨i,hi,hz⟩:=hz;refine dq (cr fun w hw=>⟨_,w,?_,Same.refl _,by rw[hw];exact hk⟩);have hz':(zeroValue e).run P w = .ok z w:=by simp[zeroValue,typeInfo,hi,hz]
 rw[<-hw]at h1;simp only[bD,execOp,hx,hy];rcases findNow_spec hu es.toList 0 h2 with⟨g1,g2⟩ | ⟨j,x,g1,g2,g3⟩
 ·have hf:f u = .none:=by
   cases hfu:f u with
   | none=>rfl
   | some v=>obtain⟨x,hx,e1,_⟩:=(h4 u v hu).2 hfu;exact absurd e1 (g2 x hx)
  simp[Instr.lookup,run_underlying ht,MapKept.run_getObj_map h1,MapKept.run_checkKey hd hu,MapKept.run_findKey hd g1,Result.andThen,hf,hz']
 have hf:f u=some x.val:=(h4 u x.val hu).1 ⟨x,Lm g2,g3,rfl⟩;simp[Instr.lookup,run_underlying ht,MapKept.run_getObj_map h1,MapKept.run_checkKey hd hu,MapKept.run_findKey hd g1,Result.andThen,hf]
theorem mT {H:View} {α:Type} [Rep α] {v:Value} {l:List α}:Rep.rd H [v] l↔SlRd H v l:=by rw[<-eE];unfold Rd;simp[Rep.agg]
theorem rK {H:View} {α:Type} [Rep α] {cs:List Value} {l:List α} (h:Rep.rd H cs l) : ∃v,cs=[v]:=by
 have:=Rep.len h;match cs,this with
 | [v],_=>exact⟨v,rfl⟩
theorem sw {H:View} {v:Value} {f:ak} (h:Rd H v f) : ∃a m c,v = .agg #[.int .i64 f.params,.slice a m c]:=by unfold Rd at h;rw[if_pos (show Rep.agg ak=true from rfl)]at h;obtain⟨cs,rfl,c1,c2,e,h1,h2⟩:=h;rw[h1.1]at e;obtain⟨v,rfl⟩:=rK h2;obtain⟨a,c,rfl,-⟩:=mT.1 h2;exact⟨a,_,c,by congr 1;rw[<-Array.toList_inj,e];rfl⟩
theorem tM {H:View} {v:Value} {i:InsD} (h:Rd H v i) : ∃a m c,v = .agg #[.int .i64 i.op,.int .i64 i.dst,.int .i64 i.two,.slice a m c,.int .i32 i.imm.v]:=by unfold Rd at h;rw[if_pos (show Rep.agg InsD=true from rfl)]at h;obtain⟨cs,rfl,c1,_,e,h1,c2,_,rfl,h2,c3,_,rfl,h3,c4,c5,rfl,h4,h5⟩:=h;rw[h1.1,h2.1,h3.1,h5.1]at e;obtain⟨v,rfl⟩:=rK h4;obtain⟨a,c,rfl,-⟩:=mT.1 h4;exact⟨a,_,c,by congr 1;rw[<-Array.toList_inj,e];rfl⟩
theorem zC {H:View} {v:Value} {t:dm} (h:Rd H v t) : ∃a m c a2 m2 c2,v = .agg #[.int .i64 t.kind,.slice a m c,.slice a2 m2 c2,.int .i32 t.imm.v]:=by unfold Rd at h;rw[if_pos (show Rep.agg dm=true from rfl)]at h;obtain⟨cs,rfl,c1,_,e,h1,c2,_,rfl,h2,c3,c4,rfl,h3,h4⟩:=h;rw[h1.1,h4.1]at e;obtain⟨v,rfl⟩:=rK h2;obtain⟨w,rfl⟩:=rK h3;obtain⟨a,c,rfl,-⟩:=mT.1 h2;obtain⟨a2,c2,rfl,-⟩:=mT.1 h3;exact⟨a,_,c,a2,_,c2,by congr 1;rw[<-Array.toList_inj,e];rfl⟩
theorem xL {H:View} {α:Type} [Rep α] {cs:Array Value} {d:α} (ha:Rep.agg α=true) (h:Rd H (.agg cs) d):Rep.rd H cs.toList d:=by unfold Rd at h;rw[if_pos ha]at h;obtain⟨cs',e,h⟩:=h;cases e;exact h
theorem xS {H:View} {c1 c2 c3:Array Value} {s:bN} (h1:Rd H (.agg c1) s.f) (h2:Rd H (.agg c2) s.i) (h3:Rd H (.agg c3) s.t) (h5:-9223372036854775808<=s.temp/\s.temp<=9223372036854775807) :
  Rd H (.agg (c1.toList++(c2.toList++(c3.toList++([Value.bool s.term]++[Value.int .i64 s.temp])))).toArray) s:=by unfold Rd;rw[if_pos (show Rep.agg bN=true from rfl)];exact⟨_,rfl,_,_,rfl,xL rfl h1,_,_,rfl,xL rfl h2,_,_,rfl,xL rfl h3,_,_,rfl,rfl,rfl,h5⟩
end Go.Lft
namespace Go.Proofs.YtnfiilgdjpdlkaaGreatDoor
open Go Go.Lft
abbrev ny:List Value:=[.int .i64 0,.slice none 0 0,.int .i64 0,.int .i64 0,.int .i64 0,.slice none 0 0,.int .i32 0,.int .i64 0,.slice none 0 0,.slice none 0 0,.int .i32 0,.bool false,.int .i64 0]
theorem CY {H:View}:Rd H (.agg #[.int .i64 0,.slice none 0 0]) (⟨0,[]⟩:ak):=by unfold Rd;rw[if_pos (show Rep.agg ak=true from rfl)];exact⟨_,rfl,[_],[_],rfl,⟨rfl,by decide,by decide⟩,mT.2 aI⟩
theorem xo {H:View}:Rd H (.agg #[.int .i64 0,.slice none 0 0,.slice none 0 0,.int .i32 0]) oD:=by unfold Rd;rw[if_pos (show Rep.agg dm=true from rfl)];exact⟨_,rfl,[_],_,rfl,⟨rfl,by decide,by decide⟩,[_],_,rfl,mT.2 aI,[_],[_],rfl,mT.2 aI,rfl,by decide,by decide⟩
theorem wH {H:View}:Rd H (.agg ny.toArray) Am:=xS (s:=Am) CY lj xo (by decide)
def lY (f:ak) (b p temp:Int):bN:=if dz f b p then eZ f b p temp else Am
set_option maxHeartbeats 400000 in
theorem Fe {f:ak} {v:Value} {b p temp:Int} {h:Heap} {W:View} (hW:W.le (vw h)) (hv:Rd W v f) (ht:I64 temp) :
  aw Tryz.prog N.kO #[v,.int .i64 b,.int .i64 p,.int .i64 temp] h (fun u h'=>(vw h).le (vw h')/\∃vs,u = .tuple #[vs,.bool (dz f b p)]/\Rd (grow W h h') vs (lY f b p temp)):=by
 refine ao (args:=[v,.int .i64 b,.int .i64 p,.int .i64 temp]) follows F.kO E.kO (Kw (by kernel_rfl)) fun K hK=>?_;dsimp only[L.kO];have c0:=Cx.start hW;refine ab fun z hz=>?_;simp;refine c0.dy rfl hv fun B h1 W1 hW1 c1 at1 hle1=>?_;refine c1.cO (k:=(0,0)) (n:=12) (z:=.agg ny.toArray) rfl (by kernel_rfl) rfl (by decide) (by simp[Value.cells,Value.oneCell']) fun R h2 hle2 c2=>?_;subst hz;obtain⟨-,vb,hb1,hb2⟩:=jE at1;have l2:=c2.wle
 have hl:=hb2.len (K:=vw h2);have hb1':=ae l2 hb1;have bd:=hb2.bound;refine ab fun z hz=>?_;refine ab fun y hy=>?_;refine ix (fun ρ h5=>h5=h2/\ρ=[(0,v),(1,.int .i64 b),(2,.int .i64 p),(3,.int .i64 temp),(4,ptr B),(8,ptr R),(9,.bool false),(34,.bool (!dz f b p))]) ?_ ?_
 ·intro K2 hK2;by_cases e1:b<0
  ·simp[e1];exact hK2 _ _ ⟨rfl,by simp[dz];omega⟩
  by_cases e2:(f.blocks.length:Int)<=b
  ·simp[e1,e2,hb1',hl];exact hK2 _ _ ⟨rfl,by simp[dz];omega⟩
  by_cases e3:p<0
  ·simp[e1,e2,e3,hb1',hl];exact hK2 _ _ ⟨rfl,by simp[dz];omega⟩
  have hbl:b.toNat<f.blocks.length:=by omega
  have hx:=hb2.idxn (k:=.i64) (N:=6) rfl (i:=b) (by omega) (by omega);obtain⟨vi,hv1,hv2⟩:=((hb2.at hbl).part BlkD.lV).sl;have hv1:=ae l2 hv1;have hnb:f.blocks[b.toNat]=nth f.blocks b.toNat:=(az hbl).symm;rw[hnb]at hv2;have hx:Bn.ev (.idx 6) vb (.int .i64 b)=some (.pointer (some ((slA vb).add (b.toNat*Rep.n BlkD)))):=hx;simp[e1,e2,e3,hb1',hl,hx,hv1,(hv2.mono l2).len];have ei:dz f b p=decide (p<=(nth f.blocks b.toNat).ins.length):=by unfold dz;simp[show 0<=b by omega,show b<f.blocks.length by omega,show 0<=p by omega]
  exact hK2 _ _ ⟨rfl,by rw[ei,show(!decide (p<=((nth f.blocks b.toNat).ins.length:Int)))=decide (((nth f.blocks b.toNat).ins.length:Int)<p) by rw[K0];simp]⟩
 rintro _ _ ⟨rfl,rfl⟩;subst hy;cases hq:dz f b p with
 | false=>simp;refine aq (z:=.agg ny.toArray) (places:=[(0,2),(2,5),(7,4),(11,1),(12,1)]) (vs:=[]) (cs:=ny.toArray) (by kernel_rfl) (by kernel_rfl) (by simp) (by rfl) ?_;refine c2.bh (k:=(0,0)) (n:=12) (l:=ny) Own.an wH rfl rfl (by kernel_rfl) rfl rfl fun h9 l9 hl9 c9=>?_;have hall:=c9.all (k:=(0,0)) (n:=12) (l:=l9) (B:=R) (e:=T.rn) Own.an;simp at hall;simp[hall];refine hK _ _ ⟨c9.le0,_,by rw[hq],?_⟩;unfold lY;rw[hq,if_neg (by simp),<-hl9];exact wH
 | true=>
  have hq2:=hq;simp[dz]at hq2;obtain⟨⟨⟨g1,g2⟩,g3⟩,g4⟩:=hq2;have hbl:b.toNat<f.blocks.length:=by omega
  simp;subst hz;refine ab fun z hz=>?_;obtain⟨ub,hub,rub⟩:=hb2.wh rfl (N:=6) rfl hbl;have hx:=hb2.idxn (k:=.i64) (N:=6) rfl (i:=b) (by omega) (by omega);simp[hb1',hx,hub _ l2];refine c2.dZ (α:=BlkD) rub (n:=6) (z:=.agg #[.slice none 0 0,.slice none 0 0,.int .i64 0,.slice none 0 0,.slice none 0 0,.int .i32 0]) (by kernel_rfl) rfl rfl (by kernel_rfl) (fun _=>by simp) (fun _=>by simp) fun B3 h3 W3 hW3 c3 at3 hle3=>?_;subst hz;refine ab fun z hz=>?_;obtain⟨vp,vi,va,vt,-,si,-⟩:=kl at3;have sim:=si.mono c3.wle
  obtain⟨uf,huf,ruf⟩:=at1.ldN rfl (N:=2) rfl;have huf3:=huf _ (View.le_trans hW3 c3.wle);have ruf:=ruf.mono hW3;have hsite:lY f b p temp=eZ f b p temp:=by unfold lY;rw[hq,if_pos rfl]
  generalize hbk:nth f.blocks b.toNat=bk at *;by_cases e:p=bk.ins.length
  ·obtain⟨ut,hut,rut⟩:=(at3.part BlkD.nm).ldN rfl (N:=4) rfl;have hut:Un.ev (vw h3) (.au 4) (.pointer (some ⟨B3,2,none⟩))=some ut:=by simpa using hut _ c3.wle
   obtain⟨a1,m1,k1,rfl⟩:=sw ruf;obtain⟨a2,m2,k2,a3,m3,k3,rfl⟩:=zC rut;have hs:eZ f b p temp=⟨f,gW,bk.term,true,temp⟩:=by unfold eZ;rw[hbk,if_pos e]
   have rs:Rd W3 (.agg #[.int .i64 f.params,.slice a1 m1 k1,.int .i64 0,.int .i64 0,.int .i64 0,.slice none 0 0,.int .i32 0,.int .i64 bk.term.kind,.slice a2 m2 k2,.slice a3 m3 k3,.int .i32 bk.term.imm.v,.bool true,.int .i64 temp]) (eZ f b p temp):=by rw[hs];exact xS (s:=⟨f,gW,bk.term,true,temp⟩) ruf lj rut ht
   simp[sim.1,sim.2.len,e,huf3,hut];refine aq (z:=.agg ny.toArray) (places:=[(0,2),(2,5),(7,4),(11,1),(12,1)]) (vs:=[(0,.agg #[.int .i64 f.params,.slice a1 m1 k1]),(2,.agg #[.int .i64 bk.term.kind,.slice a2 m2 k2,.slice a3 m3 k3,.int .i32 bk.term.imm.v]),(3,.bool true),(4,.int .i64 temp)]) (cs:=#[.int .i64 f.params,.slice a1 m1 k1,.int .i64 0,.int .i64 0,.int .i64 0,.slice none 0 0,.int .i32 0,.int .i64 bk.term.kind,.slice a2 m2 k2,.slice a3 m3 k3,.int .i32 bk.term.imm.v,.bool true,.int .i64 temp]) (by kernel_rfl) (by kernel_rfl) (by simp) (by simp[Instr.fill,Value.cells]) ?_;refine c3.bh (k:=(0,0)) (n:=12) (l:=ny) Own.an rs rfl rfl (by kernel_rfl) rfl rfl fun h9 l9 hl9 c9=>?_;have hall:=c9.all (k:=(0,0)) (n:=12) (l:=l9) (B:=R) (e:=T.rn) Own.an;simp at hall;simp[hall];refine hK _ _ ⟨c9.le0,_,by rw[hq],?_⟩;rw[hsite,<-hl9];exact rs.mono c9.fin
  have hlt:p.toNat<bk.ins.length:=by omega
  obtain⟨ui,hui,rui⟩:=si.2.wh rfl (N:=5) rfl hlt;have hxi:=si.2.idxn (k:=.i64) (N:=5) rfl (i:=p) (by omega) (by omega);obtain⟨a1,m1,k1,rfl⟩:=sw ruf;obtain⟨a2,m2,k2,rfl⟩:=tM rui;have hs:eZ f b p temp=⟨f,nth bk.ins p.toNat,oD,false,temp⟩:=by unfold eZ;rw[hbk,if_neg e]
  generalize nth bk.ins p.toNat=xi at *;have rs:Rd W3 (.agg #[.int .i64 f.params,.slice a1 m1 k1,.int .i64 xi.op,.int .i64 xi.dst,.int .i64 xi.two,.slice a2 m2 k2,.int .i32 xi.imm.v,.int .i64 0,.slice none 0 0,.slice none 0 0,.int .i32 0,.bool false,.int .i64 temp]) (eZ f b p temp):=by rw[hs];exact xS (s:=⟨f,xi,oD,false,temp⟩) ruf rui xo ht
  simp[sim.1,sim.2.len,e];subst hz;refine ab fun z hz=>?_;refine aS W3 c3.wle ?_;simp[huf W3 hW3,si.1,hxi,hui W3 (View.le_refl _)];refine aq (z:=.agg ny.toArray) (places:=[(0,2),(2,5),(7,4),(11,1),(12,1)]) (vs:=[(0,.agg #[.int .i64 f.params,.slice a1 m1 k1]),(1,.agg #[.int .i64 xi.op,.int .i64 xi.dst,.int .i64 xi.two,.slice a2 m2 k2,.int .i32 xi.imm.v]),(4,.int .i64 temp)]) (cs:=#[.int .i64 f.params,.slice a1 m1 k1,.int .i64 xi.op,.int .i64 xi.dst,.int .i64 xi.two,.slice a2 m2 k2,.int .i32 xi.imm.v,.int .i64 0,.slice none 0 0,.slice none 0 0,.int .i32 0,.bool false,.int .i64 temp]) (by kernel_rfl) (by kernel_rfl) (by simp) (by simp[Instr.fill,Value.cells]) ?_;refine c3.bh (k:=(0,0)) (n:=12) (l:=ny) Own.an rs rfl rfl (by kernel_rfl) rfl rfl fun h9 l9 hl9 c9=>?_;subst hz;have hall:=c9.all (k:=(0,0)) (n:=12) (l:=l9) (B:=R) (e:=T.rn) Own.an;simp at hall;simp[hall];refine hK _ _ ⟨c9.le0,_,by rw[hq],?_⟩;rw[hsite,<-hl9];exact rs.mono c9.fin
end Go.Proofs.YtnfiilgdjpdlkaaGreatDoor
namespace Go.Lft
open Go
variable {po po2:OP}
theorem Cx.dK {V W:View} {h0 h:Heap} {o:Own} {k:Key} {P:Program} {ty:TypeId} {us:List (Nat × Value)} {n i:Nat} {e t:TypeId} {B:Nat} {l:List Value} {x y:Operand} {u:Value} {K:Value->Heap->Prop} (c:Cx V h0 W h o) (hk:o k=bx e B (RawN.mk (n:=n) l)) (hi:i<=n) (hsz:dp P t=some 1) (hx:asg us x = .pointer (some ⟨B,i,none⟩)) (hy:asg us y=u) (hu:u.oneCell'=true)
  (hK : ∀h',Cx V h0 W h' (o.upd k (bx e B (RawN.mk (n:=n) (l.set i u))))->K undef h'):@step po P (.store t x y) ty us h K:=
 c.own.dK hk hi hsz hx hy hu fun h2 w hX=>hK _ ⟨w,c.old,hX _ c.le0 (View.cM (View.le_refl _) (c.new k _ B hk rfl)),fun j i b hj hb=>by
  by_cases e:j=k
  ·subst e;rw[Own.an]at hj;cases hj;exact c.new _ _ b hk hb
  rw[Own.ay e]at hj;exact c.new j i b hj hb⟩
end Go.Lft
namespace Go.Proofs.YtnfiilgdjpdlkaaGreatDoor
open Go Go.Lft
structure uV (t:dm):Prop where
 one:t.kind=2\/t.kind=3->1<=t.args.length
 most:t.args.length<=10000
 to:t.to.length<=10000
theorem zP {H:View} {x0 x1 x2 va x4:Value} {i:InsD} (h:Rd H (.agg #[x0,x1,x2,va,x4]) i):SlRd H va i.args:=by unfold Rd at h;rw[if_pos (show Rep.agg InsD=true from rfl)]at h;obtain⟨cs,e0,c1,_,e,h1,c2,_,rfl,h2,c3,_,rfl,h3,c4,c5,rfl,h4,h5⟩:=h;cases e0;rw[h1.1,h2.1,h3.1,h5.1]at e;obtain⟨v,rfl⟩:=rK h4;simp at e;obtain⟨-,-,-,rfl,-⟩:=e;exact mT.1 h4
set_option maxHeartbeats 4000000 in
theorem HS {s:bN} {v:Value} {pat:Int} {h:Heap} {W:View} (hW:W.le (vw h)) (hv:Rd W v s) (hok:lk s) (htk:uV s.t) (hp:I64 pat) :
    aw Tryz.prog N.eF #[v,.int .i64 pat] h (fun u h'=>bJ W h h' u (gN s.f s.t pat)):=by
  refine ao (args:=[v,.int .i64 pat]) follows F.eF E.eF (Kw (by kernel_rfl)) fun K hK=>?_
  dsimp only[L.eF]
  have c0:=Cx.start hW
  refine ab fun z hz=>?_
  simp
  refine c0.dy rfl hv fun S h1 W1 hW1 c1 at1 hle1=>?_
  refine c1.cO (k:=(0,0)) (n:=7) (z:=.agg fitZ.toArray) rfl (by kernel_rfl) rfl (by decide) (by simp[Value.cells,Value.oneCell']) fun R h2 hle2 c2=>?_
  subst hz
  refine ab fun z hz=>?_
  obtain⟨ut,hut,rut⟩:=(at1.part bN.Kt).ldN rfl (N:=4) rfl
  have hut:Un.ev (vw h2) (.au 4) (.pointer (some ⟨S,7,none⟩))=some ut:=by simpa using hut _ c2.wle
  simp[hut]
  refine c2.dZ (α:=dm) rut (n:=4) (z:=.agg #[.int .i64 0,.slice none 0 0,.slice none 0 0,.int .i32 0]) (by kernel_rfl) rfl rfl (by kernel_rfl) (fun _=>by simp) (fun _=>by simp) fun Tb h3 W3 hW3 c3 at3 hle3=>?_
  have t0:=(at3.part dm.Ak).int
  obtain⟨va,t1,hva⟩:=(at3.part dm.fj).sl
  obtain⟨vt,t2,hvt⟩:=(at3.part dm.yb).sl
  have t3:=(at3.part dm.gP).i32
  have ri:=(at3.part dm.gP).oy
  have t0:aj W3 ⟨Tb,0,none⟩=some (.int .i64 s.t.kind):=by simpa using t0
  have t1:aj W3 ⟨Tb,1,none⟩=some va:=by simpa using t1
  have t2:aj W3 ⟨Tb,2,none⟩=some vt:=by simpa using t2
  have t3:aj W3 ⟨Tb,3,none⟩=some (.int .i32 s.t.imm.v):=by simpa using t3
  have most:=htk.most
  have mosto:=htk.to
  subst hz
  refine ab fun z hz=>?_
  simp[ae c3.wle t2]
  refine af (by kernel_rfl) (eC c3.wle hvt (by omega)) ?_
  rintro uto h4 ⟨hle4,hto⟩
  have c4:=c3.ext hle4
  have hW4:=c3.up (h':=h4)
  have hto0:=hto
  obtain⟨b0,k0,rfl,-⟩:=hto0
  generalize grow W3 h3 h4=W4 at *
  have s0:=ae hW4 t0
  have s1:=ae hW4 t1
  have s3:=ae hW4 t3
  have hva4:=hva.mono hW4
  have z0:=ae c4.wle s0
  have z1:=ae c4.wle s1
  have z3:=ae c4.wle s3
  clear t0 t1 t2 t3 hut hle1 hle2 hle3 hle4
  subst hz
  refine ab fun z hz=>?_
  simp only[aH]
  refine ab fun y hy=>?_
  by_cases p1:pat=0/\s.t.kind=1
  · have he:gN s.f s.t pat=some ⟨[],[],[],⟨1,0,0,s.t.to,⟨0⟩⟩⟩:=by unfold gN;rw[if_pos p1]
    simp[p1.1,z0,p1.2]
    subst hy
    simp
    refine aq (t:=T.gg) (z:=.agg #[.int .i64 0,.int .i64 0,.int .i64 0,.slice none 0 0,.int .i32 0]) (places:=[(0,1),(1,1),(2,1),(3,1),(4,1)]) (vs:=[(0,.int .i64 1),(3,.slice b0 s.t.to.length k0)]) (cs:=#[.int .i64 1,.int .i64 0,.int .i64 0,.slice b0 s.t.to.length k0,.int .i32 0]) (by kernel_rfl) (by kernel_rfl) (by simp) (by simp[Instr.fill,Value.cells]) ?_
    refine aq (t:=T.aO) (z:=.agg fitZ.toArray) (places:=[(0,1),(1,1),(2,1),(3,5)]) (vs:=[(3,.agg #[.int .i64 1,.int .i64 0,.int .i64 0,.slice b0 s.t.to.length k0,.int .i32 0])]) (cs:=#[.slice none 0 0,.slice none 0 0,.slice none 0 0,.int .i64 1,.int .i64 0,.int .i64 0,.slice b0 s.t.to.length k0,.int .i32 0]) (by kernel_rfl) (by kernel_rfl) (by simp) (by simp[Instr.fill,Value.cells]) ?_
    have hr:Rd W4 (.agg #[.slice none 0 0,.slice none 0 0,.slice none 0 0,.int .i64 1,.int .i64 0,.int .i64 0,.slice b0 s.t.to.length k0,.int .i32 0]) (⟨[],[],[],⟨1,0,0,s.t.to,⟨0⟩⟩⟩:FitD):=ld (ce:=[_,_,_,_,_]) aI aI aI (kF (imm:=⟨0⟩) (by simp) (by simp) hto)
    refine c4.bh (k:=(0,0)) (n:=7) (l:=fitZ) (by rfl) hr rfl rfl (by kernel_rfl) rfl rfl fun h9 l9 hl9 c9=>?_
    have hall:=c9.all (k:=(0,0)) (n:=7) (l:=l9) (B:=R) (e:=T.aO) (by rfl)
    simp at hall
    simp[hall]
    exact hK _ _ (bJ.of c9 (hl9▸hr) (by rw[he];rfl) fun y e=>by rw[he]at e;cases e;rfl)
  refine ix (fun ρ h5=>h5=h4/\ρ=[(0,v),(1,.int .i64 pat),(2,ptr S),(4,ptr R),(5,.bool false),(6,ptr Tb),(7,.slice b0 s.t.to.length k0),(13,ut),(16,.slice b0 s.t.to.length k0),(17,.bool false)]) ?_ ?_
  · intro K2 hK2
    by_cases e0:pat=0
    · have e2:¬s.t.kind=1:=fun e=>p1 ⟨e0,e⟩
      simp[e0,z0,e2]
      exact hK2 _ _ ⟨rfl,by rw[e0]⟩
    · simp[e0,z0]
      exact hK2 _ _ ⟨rfl,rfl⟩
  rintro _ h4 ⟨rfl,rfl⟩
  subst hy
  refine aV (by simp) ?_
  refine ab fun y hy=>?_
  by_cases p2:pat=0/\s.t.kind=4
  · have he:gN s.f s.t pat=some ⟨s.t.args,[],[],⟨7,if s.t.args=[] then -1 else nth s.t.args 0,0,[],⟨0⟩⟩⟩:=by unfold gN;rw[if_neg p1,if_pos p2]
    simp[p2.1,z0,p2.2]
    subst hy
    refine aU (by simp) ?_
    refine ab fun y hy=>?_
    simp
    refine aq (t:=T.gg) (z:=.agg #[.int .i64 0,.int .i64 0,.int .i64 0,.slice none 0 0,.int .i32 0]) (places:=[(0,1),(1,1),(2,1),(3,1),(4,1)]) (vs:=[(0,.int .i64 7),(1,.int .i64 (-1))]) (cs:=#[.int .i64 7,.int .i64 (-1),.int .i64 0,.slice none 0 0,.int .i32 0]) (by kernel_rfl) (by kernel_rfl) (by simp) (by simp[Instr.fill,Value.cells]) ?_
    refine c4.cO (k:=(0,1)) (n:=4) (z:=.agg #[.int .i64 0,.int .i64 0,.int .i64 0,.slice none 0 0,.int .i32 0]) (by rfl) (by kernel_rfl) rfl (by decide) (by simp[Value.cells,Value.oneCell']) fun Eb h5 hle5 c5=>?_
    refine c5.pL (k:=(0,1)) (n:=4) (l:=[.int .i64 0,.int .i64 0,.int .i64 0,.slice none 0 0,.int .i32 0]) (l':=[.int .i64 7,.int .i64 (-1),.int .i64 0,.slice none 0 0,.int .i32 0]) (by rfl) (by kernel_rfl) rfl rfl rfl (by simp[Value.oneCell']) fun h6 c6=>?_
    subst hy
    have y1:=ae c6.wle s1
    have hlen:=hva4.len (K:=vw h6)
    generalize hae:(if s.t.args=[] then(-1:Int) else nth s.t.args 0)=a at *
    refine ab fun y hy=>?_
    refine ix (fun ρ h7=>∃o6,Cx W h W4 h7 o6/\o6 (0,0)=bx T.aO R (RawN.mk (n:=7) fitZ)/\o6 (0,1)=bx T.gg Eb (RawN.mk (n:=4) [.int .i64 7,.int .i64 a,.int .i64 0,.slice none 0 0,.int .i32 0])/\(-9223372036854775808<=a/\a<=9223372036854775807)/\
      ρ=[(0,v),(1,.int .i64 0),(2,ptr S),(4,ptr R),(5,.bool false),(6,ptr Tb),(7,.slice b0 s.t.to.length k0),(8,ptr Eb),(13,ut),(16,.slice b0 s.t.to.length k0),(36,.agg #[.int .i64 7,.int .i64 (-1),.int .i64 0,.slice none 0 0,.int .i32 0])]) ?_ ?_
    · intro K2 hK2
      by_cases ea:s.t.args=[]
      · have el:(s.t.args.length:Int)=0:=by rw[ea];rfl
        rw[if_pos ea]at hae
        subst hae
        simp[y1,hlen,ea]
        exact hK2 _ _ ⟨_,c6,by rfl,by rfl,by decide,rfl⟩
      · have el:=List.length_pos_iff.2 ea
        rw[if_neg ea]at hae
        have a0:=hva4.rng (i:=0) el
        have x0:=hva4.idx1 (k:=.i64) (i:=0) rfl (by decide) (by omega)
        have d0:=hva4.int c6.wle (i:=0) el
        simp[y1,hlen,el,x0,d0]
        refine c6.dK (k:=(0,1)) (n:=4) (i:=1) (l:=[.int .i64 7,.int .i64 (-1),.int .i64 0,.slice none 0 0,.int .i32 0]) (by rfl) (by decide) (by kernel_rfl) rfl rfl rfl fun h7 c7=>?_
        exact hK2 _ _ ⟨_,c7,by rfl,by rw[<-hae];rfl,by rw[<-hae];exact a0,rfl⟩
    · rintro _ h7 ⟨o6,c7,k00,k01,ar,rfl⟩
      subst hy
      refine ab fun y hy=>?_
      refine aS (vw h7) (View.le_refl _) ?_
      have hall7:=c7.all k01
      simp at hall7
      simp[ae c7.wle s1,hall7]
      refine af (by kernel_rfl) (eC c7.wle hva4 (by omega)) ?_
      rintro ucl h8 ⟨hle8,hcl⟩
      refine⟨hle8,?_⟩
      have c8:=c7.ext hle8
      have hW8:=c7.up (h':=h8)
      have hcl0:=hcl
      obtain⟨b1,k1,rfl,-⟩:=hcl0
      refine aq (t:=T.aO) (z:=.agg fitZ.toArray) (places:=[(0,1),(1,1),(2,1),(3,5)]) (vs:=[(0,.slice b1 s.t.args.length k1),(3,.agg #[.int .i64 7,.int .i64 a,.int .i64 0,.slice none 0 0,.int .i32 0])]) (cs:=#[.slice b1 s.t.args.length k1,.slice none 0 0,.slice none 0 0,.int .i64 7,.int .i64 a,.int .i64 0,.slice none 0 0,.int .i32 0]) (by kernel_rfl) (by kernel_rfl) (by simp) (by simp[Instr.fill,Value.cells]) ?_
      have hr:Rd (grow W4 h7 h8) (.agg #[.slice b1 s.t.args.length k1,.slice none 0 0,.slice none 0 0,.int .i64 7,.int .i64 a,.int .i64 0,.slice none 0 0,.int .i32 0]) (⟨s.t.args,[],[],⟨7,a,0,[],⟨0⟩⟩⟩:FitD):=ld (ce:=[_,_,_,_,_]) hcl aI aI (kF (imm:=⟨0⟩) (by simp;omega) (by simp) aI)
      refine c8.bh (k:=(0,0)) (n:=7) (l:=fitZ) k00 hr rfl rfl (by kernel_rfl) rfl rfl fun h9 l9 hl9 c9=>?_
      subst hy
      have hall:=c9.all (k:=(0,0)) (n:=7) (l:=l9) (B:=R) (e:=T.aO) Own.an
      simp at hall
      simp[hall]
      exact hK _ _ (bJ.of c9 (hl9▸hr) (by rw[he];rfl) fun y e=>by rw[he]at e;cases e;rfl)
  refine ix (fun ρ h5=>h5=h4/\ρ=[(0,v),(1,.int .i64 pat),(2,ptr S),(4,ptr R),(5,.bool false),(6,ptr Tb),(7,.slice b0 s.t.to.length k0),(13,ut),(16,.slice b0 s.t.to.length k0),(28,.bool false)]) ?_ ?_
  · intro K2 hK2
    by_cases e0:pat=0
    · have e2:¬s.t.kind=4:=fun e=>p2 ⟨e0,e⟩
      simp[e0,z0,e2]
      exact hK2 _ _ ⟨rfl,by rw[e0]⟩
    · simp[e0,z0]
      exact hK2 _ _ ⟨rfl,rfl⟩
  rintro _ h4 ⟨rfl,rfl⟩
  subst hy
  refine aV (by simp) ?_
  refine ab fun y hy=>?_
  by_cases p3:pat=0/\s.t.kind=5
  · have he:gN s.f s.t pat=some ⟨[],[],[],⟨8,0,0,[],s.t.imm⟩⟩:=by unfold gN;rw[if_neg p1,if_neg p2,if_pos p3]
    simp[p3.1,z0,p3.2]
    subst hy
    simp[z3]
    refine aq (t:=T.gg) (z:=.agg #[.int .i64 0,.int .i64 0,.int .i64 0,.slice none 0 0,.int .i32 0]) (places:=[(0,1),(1,1),(2,1),(3,1),(4,1)]) (vs:=[(0,.int .i64 8),(4,.int .i32 s.t.imm.v)]) (cs:=#[.int .i64 8,.int .i64 0,.int .i64 0,.slice none 0 0,.int .i32 s.t.imm.v]) (by kernel_rfl) (by kernel_rfl) (by simp) (by simp[Instr.fill,Value.cells]) ?_
    refine aq (t:=T.aO) (z:=.agg fitZ.toArray) (places:=[(0,1),(1,1),(2,1),(3,5)]) (vs:=[(3,.agg #[.int .i64 8,.int .i64 0,.int .i64 0,.slice none 0 0,.int .i32 s.t.imm.v])]) (cs:=#[.slice none 0 0,.slice none 0 0,.slice none 0 0,.int .i64 8,.int .i64 0,.int .i64 0,.slice none 0 0,.int .i32 s.t.imm.v]) (by kernel_rfl) (by kernel_rfl) (by simp) (by simp[Instr.fill,Value.cells]) ?_
    have hr:Rd W4 (.agg #[.slice none 0 0,.slice none 0 0,.slice none 0 0,.int .i64 8,.int .i64 0,.int .i64 0,.slice none 0 0,.int .i32 s.t.imm.v]) (⟨[],[],[],⟨8,0,0,[],s.t.imm⟩⟩:FitD):=ld (ce:=[_,_,_,_,_]) aI aI aI (kF (by simp) ri aI)
    refine c4.bh (k:=(0,0)) (n:=7) (l:=fitZ) (by rfl) hr rfl rfl (by kernel_rfl) rfl rfl fun h9 l9 hl9 c9=>?_
    have hall:=c9.all (k:=(0,0)) (n:=7) (l:=l9) (B:=R) (e:=T.aO) (by rfl)
    simp at hall
    simp[hall]
    exact hK _ _ (bJ.of c9 (hl9▸hr) (by rw[he];rfl) fun y e=>by rw[he]at e;cases e;rfl)
  refine ix (fun ρ h5=>h5=h4/\ρ=[(0,v),(1,.int .i64 pat),(2,ptr S),(4,ptr R),(5,.bool false),(6,ptr Tb),(7,.slice b0 s.t.to.length k0),(13,ut),(16,.slice b0 s.t.to.length k0),(51,.bool false)]) ?_ ?_
  · intro K2 hK2
    by_cases e0:pat=0
    · have e2:¬s.t.kind=5:=fun e=>p3 ⟨e0,e⟩
      simp[e0,z0,e2]
      exact hK2 _ _ ⟨rfl,by rw[e0]⟩
    · simp[e0,z0]
      exact hK2 _ _ ⟨rfl,rfl⟩
  rintro _ h4 ⟨rfl,rfl⟩
  subst hy
  refine aV (by simp) ?_
  refine ab fun y hy=>?_
  by_cases p4:pat=33/\s.t.kind=2
  · have he:gN s.f s.t pat=some ⟨s.t.args,[],[],⟨2,nth s.t.args 0,0,s.t.to,⟨0⟩⟩⟩:=by unfold gN;rw[if_neg p1,if_neg p2,if_neg p3,if_pos p4]
    have al:=htk.one (by omega)
    have a0:=hva4.rng (i:=0) al
    have x0:=hva4.idx1 (k:=.i64) (i:=0) rfl (by decide) (by omega)
    have d0:=hva4.int (View.le_refl W4) (i:=0) al
    simp[p4.1,z0,p4.2]
    subst hy
    refine aU (by simp) ?_
    refine ab fun y hy=>?_
    refine aS W4 c4.wle ?_
    simp[s1,x0,d0]
    refine⟨?_,?_⟩
    · refine af (by kernel_rfl) (eC c4.wle hva4 (by omega)) ?_
      rintro ucl h5 ⟨hle5,hcl⟩
      have c5:=c4.ext hle5
      have hW5:=c4.up (h':=h5)
      refine⟨View.le_trans hW5 c5.wle,?_⟩
      have hcl0:=hcl
      obtain⟨b1,k1,rfl,-⟩:=hcl0
      generalize grow W4 h4 h5=W5 at *
      refine aq (t:=T.gg) (z:=.agg #[.int .i64 0,.int .i64 0,.int .i64 0,.slice none 0 0,.int .i32 0]) (places:=[(0,1),(1,1),(2,1),(3,1),(4,1)]) (vs:=[(0,.int .i64 2),(1,.int .i64 (nth s.t.args 0)),(3,.slice b0 s.t.to.length k0)]) (cs:=#[.int .i64 2,.int .i64 (nth s.t.args 0),.int .i64 0,.slice b0 s.t.to.length k0,.int .i32 0]) (by kernel_rfl) (by kernel_rfl) (by simp) (by simp[Instr.fill,Value.cells]) ?_
      refine⟨View.le_trans hW5 c5.wle,?_⟩
      refine aq (t:=T.aO) (z:=.agg fitZ.toArray) (places:=[(0,1),(1,1),(2,1),(3,5)]) (vs:=[(0,.slice b1 s.t.args.length k1),(3,.agg #[.int .i64 2,.int .i64 (nth s.t.args 0),.int .i64 0,.slice b0 s.t.to.length k0,.int .i32 0])]) (cs:=#[.slice b1 s.t.args.length k1,.slice none 0 0,.slice none 0 0,.int .i64 2,.int .i64 (nth s.t.args 0),.int .i64 0,.slice b0 s.t.to.length k0,.int .i32 0]) (by kernel_rfl) (by kernel_rfl) (by simp) (by simp[Instr.fill,Value.cells]) ?_
      have hr:Rd W5 (.agg #[.slice b1 s.t.args.length k1,.slice none 0 0,.slice none 0 0,.int .i64 2,.int .i64 (nth s.t.args 0),.int .i64 0,.slice b0 s.t.to.length k0,.int .i32 0]) (⟨s.t.args,[],[],⟨2,nth s.t.args 0,0,s.t.to,⟨0⟩⟩⟩:FitD):=ld (ce:=[_,_,_,_,_]) hcl aI aI (kF (imm:=⟨0⟩) (by simp;omega) (by simp) (hto.mono hW5))
      refine c5.bh (k:=(0,0)) (n:=7) (l:=fitZ) (by rfl) hr rfl rfl (by kernel_rfl) rfl rfl fun h9 l9 hl9 c9=>?_
      subst hy
      have hall:=c9.all (k:=(0,0)) (n:=7) (l:=l9) (B:=R) (e:=T.aO) (by rfl)
      simp at hall
      simp[hall]
      exact hK _ _ (bJ.of c9 (hl9▸hr) (by rw[he];rfl) fun y e=>by rw[he]at e;cases e;rfl)
    · refine aq (t:=T.gg) (z:=.agg #[.int .i64 0,.int .i64 0,.int .i64 0,.slice none 0 0,.int .i32 0]) (places:=[(0,1),(1,1),(2,1),(3,1),(4,1)]) (vs:=[(0,.int .i64 2),(1,.int .i64 (nth s.t.args 0)),(3,.slice b0 s.t.to.length k0)]) (cs:=#[.int .i64 2,.int .i64 (nth s.t.args 0),.int .i64 0,.slice b0 s.t.to.length k0,.int .i32 0]) (by kernel_rfl) (by kernel_rfl) (by simp) (by simp[Instr.fill,Value.cells]) ?_
      refine⟨c4.wle,?_⟩
      refine af (by kernel_rfl) (eC c4.wle hva4 (by omega)) ?_
      rintro ucl h5 ⟨hle5,hcl⟩
      have c5:=c4.ext hle5
      have hW5:=c4.up (h':=h5)
      refine⟨View.le_trans hW5 c5.wle,?_⟩
      have hcl0:=hcl
      obtain⟨b1,k1,rfl,-⟩:=hcl0
      generalize grow W4 h4 h5=W5 at *
      refine aq (t:=T.aO) (z:=.agg fitZ.toArray) (places:=[(0,1),(1,1),(2,1),(3,5)]) (vs:=[(0,.slice b1 s.t.args.length k1),(3,.agg #[.int .i64 2,.int .i64 (nth s.t.args 0),.int .i64 0,.slice b0 s.t.to.length k0,.int .i32 0])]) (cs:=#[.slice b1 s.t.args.length k1,.slice none 0 0,.slice none 0 0,.int .i64 2,.int .i64 (nth s.t.args 0),.int .i64 0,.slice b0 s.t.to.length k0,.int .i32 0]) (by kernel_rfl) (by kernel_rfl) (by simp) (by simp[Instr.fill,Value.cells]) ?_
      have hr:Rd W5 (.agg #[.slice b1 s.t.args.length k1,.slice none 0 0,.slice none 0 0,.int .i64 2,.int .i64 (nth s.t.args 0),.int .i64 0,.slice b0 s.t.to.length k0,.int .i32 0]) (⟨s.t.args,[],[],⟨2,nth s.t.args 0,0,s.t.to,⟨0⟩⟩⟩:FitD):=ld (ce:=[_,_,_,_,_]) hcl aI aI (kF (imm:=⟨0⟩) (by simp;omega) (by simp) (hto.mono hW5))
      refine c5.bh (k:=(0,0)) (n:=7) (l:=fitZ) (by rfl) hr rfl rfl (by kernel_rfl) rfl rfl fun h9 l9 hl9 c9=>?_
      subst hy
      have hall:=c9.all (k:=(0,0)) (n:=7) (l:=l9) (B:=R) (e:=T.aO) (by rfl)
      simp at hall
      simp[hall]
      exact hK _ _ (bJ.of c9 (hl9▸hr) (by rw[he];rfl) fun y e=>by rw[he]at e;cases e;rfl)
  refine ix (fun ρ h5=>h5=h4/\ρ=[(0,v),(1,.int .i64 pat),(2,ptr S),(4,ptr R),(5,.bool false),(6,ptr Tb),(7,.slice b0 s.t.to.length k0),(13,ut),(16,.slice b0 s.t.to.length k0),(63,.bool false)]) ?_ ?_
  · intro K2 hK2
    by_cases e0:pat=33
    · have e2:¬s.t.kind=2:=fun e=>p4 ⟨e0,e⟩
      simp[e0,z0,e2]
      exact hK2 _ _ ⟨rfl,by rw[e0]⟩
    · simp[e0,z0]
      exact hK2 _ _ ⟨rfl,rfl⟩
  rintro _ h4 ⟨rfl,rfl⟩
  subst hy
  refine aV (by simp) ?_
  refine ab fun y hy=>?_
  by_cases p5:(34<=pat/\pat<=36)/\s.t.kind=2
  · have w5:inR pat 34 36=true:=by simp[inR,p5.1.1,p5.1.2]
    have al:=htk.one (by omega)
    have a0:=hva4.rng (i:=0) al
    have x0:=hva4.idx1 (k:=.i64) (i:=0) rfl (by decide) (by omega)
    simp
    refine af (by kernel_rfl) je ?_
    rintro _ h4 ⟨rfl,rfl⟩
    simp[w5,z0,p5.2]
    subst hy
    refine aU (by simp) ?_
    refine ab fun y hy=>?_
    simp
    subst hy
    refine ab fun y hy=>?_
    refine aS (vw h4) (View.le_refl _) ?_
    obtain⟨us,hus,rus⟩:=at1.ldN rfl (N:=13) rfl
    have hus:=hus _ (View.le_trans hW3 (View.le_trans hW4 c4.wle))
    have rus:=rus.mono (View.le_trans hW3 hW4)
    have d0:=hva4.int c4.wle (i:=0) al
    have ek:(11:Int)+(pat-34)=pat-23:=by omega
    have ew0:IntKind.i64.wrap (pat-34)=pat-34:=bE (by omega) (by omega)
    have ew:IntKind.i64.wrap (11+(pat-34))=pat-23:=by rw[bE (by omega) (by omega)];omega
    have ew2:IntKind.i64.wrap (3+(pat-34))=pat-31:=by rw[bE (by omega) (by omega)];omega
    have hE:gN s.f s.t pat=if(aK s.f (nth s.t.args 0) (pat-23)).2 then some ⟨(aK s.f (nth s.t.args 0) (pat-23)).1.args,s.t.args,[],⟨pat-31,nth (aK s.f (nth s.t.args 0) (pat-23)).1.args 0,nth (aK s.f (nth s.t.args 0) (pat-23)).1.args 1,s.t.to,⟨0⟩⟩⟩ else none:=by
      unfold gN;rw[if_neg p1,if_neg p2,if_neg p3,if_neg p4,if_pos p5]
    have hfm:=jS (f:=s.f) (v:=nth s.t.args 0) (op:=pat-23)
    have hfo:=mN (s:=s) (v:=us) (x:=nth s.t.args 0) (op:=pat-23) (W:=W4) (h:=h4)
    have rng : ∀{hx:Heap} {Wx:View},Cx W h Wx hx (Own.upd (fun _=>none) (0,0) (bx T.aO R (RawN.mk (n:=7) fitZ)))->True:=fun _=>trivial
    generalize hm:(aK s.f (nth s.t.args 0) (pat-23)).1=m at *
    generalize hbb:(aK s.f (nth s.t.args 0) (pat-23)).2=b at *
    have c:=c4
    have hrefl:(vw h4).le (vw h4):=View.le_refl _
    repeat' (first
      | refine iq ?_ ?_
      | (refine bo fun x hx=>?_
         simp[s1,z1,x0,d0,hus,ew0,ew]
         first
         | refine c.cO (k:=(0,2)) (n:=4) (z:=.agg #[.int .i64 0,.int .i64 0,.int .i64 0,.slice none 0 0,.int .i32 0]) (by rfl) (by kernel_rfl) rfl (by decide) (by simp[Value.cells,Value.oneCell']) fun Bi h hle c=>?_
         | (refine af (by kernel_rfl) (mN c.wle rus hok.sm a0) ?_
            rw[hm,hbb]
            rintro _ h ⟨hle,vm,rfl,hvm⟩
            have hW:=c.up (h':=h)
            have c:=c.ext hle)
         | refine c.bh (k:=(0,2)) (n:=4) (l:=[.int .i64 0,.int .i64 0,.int .i64 0,.slice none 0 0,.int .i32 0]) (by rfl) (hvm.mono (by repeat (first | exact View.le_refl _ | assumption | refine View.le_trans ?_ (by assumption)))) rfl rfl (by kernel_rfl) rfl rfl fun h l10 hl10 c=>?_
         try refine⟨(by repeat (first | exact View.le_refl _ | assumption | refine View.le_trans ?_ (by assumption))),?_⟩
         subst hx))
    all_goals
      simp
      subst hy
      have hvm0:=hvm
      obtain⟨a3,m3,k3,rfl⟩:=tM hvm0
      have hl10:=hl10
      have e10:l10=[.int .i64 m.op,.int .i64 m.dst,.int .i64 m.two,.slice a3 m3 k3,.int .i32 m.imm.v]:=by
        simp only[Value.agg.injEq]at hl10
        have:=congrArg Array.toList hl10
        simpa using this.symm
      subst e10
      have y10:=c.own.raw (k:=(0,2)) (n:=4) (l:=[.int .i64 m.op,.int .i64 m.dst,.int .i64 m.two,.slice a3 m3 k3,.int .i32 m.imm.v]) (B:=Bi) (e:=T.eV) (by rfl) (i:=3) (by decide)
      simp at y10
      have hma:=zP hvm
      cases b with
      | false=>
        have he:gN s.f s.t pat=none:=by rw[hE];rfl
        refine ab fun y hy=>?_
        simp
        refine aq (z:=.agg fitZ.toArray) (places:=[(0,1),(1,1),(2,1),(3,5)]) (vs:=[]) (cs:=fitZ.toArray) (by kernel_rfl) (by kernel_rfl) (by simp) (by rfl) ?_
        refine c.bh (k:=(0,0)) (n:=7) (l:=fitZ) (by rfl) fR rfl rfl (by kernel_rfl) rfl rfl fun h9 l9 hl9 c9=>?_
        have hall:=c9.all (k:=(0,0)) (n:=7) (l:=l9) (B:=R) (e:=T.aO) (by rfl)
        simp at hall
        simp[hall]
        exact hK _ _ (bJ.of c9 (hl9▸fR) (by rw[he];rfl) fun y e=>by rw[he]at e;cases e)
      | true=>
        have he:gN s.f s.t pat=some ⟨m.args,s.t.args,[],⟨pat-31,nth m.args 0,nth m.args 1,s.t.to,⟨0⟩⟩⟩:=by rw[hE];rfl
        obtain⟨mm1,mm2,-⟩:=hfm rfl
        have hal2:=(hok.all _ mm1).two (by omega)
        have hmost:=(hok.all _ mm1).most
        have r0:=hma.rng (i:=0) (by omega)
        have r1:=hma.rng (i:=1) (by omega)
        have x2':=hma.idx1 (k:=.i64) (i:=0) rfl (by decide) (by omega)
        have x3':=hma.idx1 (k:=.i64) (i:=1) rfl (by decide) (by omega)
        refine ab fun y hy=>?_
        simp
        subst hy
        refine ab fun y hy=>?_
        refine aS (vw h) (View.le_refl _) ?_
        have d2':=hma.int (View.le_trans (by repeat (first | exact View.le_refl _ | assumption | refine View.le_trans ?_ (by assumption))) c.wle) (i:=0) (by omega)
        have d3':=hma.int (View.le_trans (by repeat (first | exact View.le_refl _ | assumption | refine View.le_trans ?_ (by assumption))) c.wle) (i:=1) (by omega)
        have s1h:=ae (View.le_trans (by repeat (first | exact View.le_refl _ | assumption | refine View.le_trans ?_ (by assumption))) c.wle) s1
        have d0h:=hva4.int (View.le_trans (by repeat (first | exact View.le_refl _ | assumption | refine View.le_trans ?_ (by assumption))) c.wle) (i:=0) al
        have hva5:=hva4.mono (by repeat (first | exact View.le_refl _ | assumption | refine View.le_trans ?_ (by assumption)))
        have hto5:=hto.mono (by repeat (first | exact View.le_refl _ | assumption | refine View.le_trans ?_ (by assumption)))
        have hma5:=hma.mono (by repeat (first | exact View.le_refl _ | assumption | refine View.le_trans ?_ (by assumption)))
        have hH:(vw h).le (vw h):=View.le_refl _
        have hr : ∀{X:View} {bA bB:Option Addr} {kA kB:Nat},SlRd X (.slice bA m.args.length kA) m.args->SlRd X (.slice bB s.t.args.length kB) s.t.args->SlRd X (.slice b0 s.t.to.length k0) s.t.to->Rd X (.agg #[.slice bA m.args.length kA,.slice bB s.t.args.length kB,.slice none 0 0,.int .i64 (pat-31),.int .i64 (nth m.args 0),.int .i64 (nth m.args 1),.slice b0 s.t.to.length k0,.int .i32 0]) (⟨m.args,s.t.args,[],⟨pat-31,nth m.args 0,nth m.args 1,s.t.to,⟨0⟩⟩⟩:FitD):=fun q1 q2 q3=>ld (ce:=[_,_,_,_,_]) q1 q2 aI (kF (imm:=⟨0⟩) (by simp;omega) (by simp) q3)
        repeat' (first
          | refine iq ?_ ?_
          | (refine bo fun x hx=>?_
             simp[y10,s1h,x2',x3',d2',d3',ew2]
             first
             | refine aq (t:=T.gg) (z:=.agg #[.int .i64 0,.int .i64 0,.int .i64 0,.slice none 0 0,.int .i32 0]) (places:=[(0,1),(1,1),(2,1),(3,1),(4,1)]) (vs:=[(0,.int .i64 (pat-31)),(1,.int .i64 (nth m.args 0)),(2,.int .i64 (nth m.args 1)),(3,.slice b0 s.t.to.length k0)]) (cs:=#[.int .i64 (pat-31),.int .i64 (nth m.args 0),.int .i64 (nth m.args 1),.slice b0 s.t.to.length k0,.int .i32 0]) (by kernel_rfl) (by kernel_rfl) (by simp) (by simp[Instr.fill,Value.cells]) ?_
             | (refine af (by kernel_rfl) (eC c.wle (hma5.mono (by repeat (first | exact View.le_refl _ | assumption | refine View.le_trans ?_ (by assumption)))) (by omega)) ?_
                rintro uA h ⟨hle,hcA⟩
                have hW:=c.up (h':=h)
                have c:=c.ext hle
                have hcA0:=hcA
                obtain⟨bA,kA,rfl,-⟩:=hcA0)
             | (refine af (by kernel_rfl) (eC c.wle (hva5.mono (by repeat (first | exact View.le_refl _ | assumption | refine View.le_trans ?_ (by assumption)))) (by omega)) ?_
                rintro uB h ⟨hle,hcB⟩
                have hW:=c.up (h':=h)
                have c:=c.ext hle
                have hcB0:=hcB
                obtain⟨bB,kB,rfl,-⟩:=hcB0)
             | refine aq (t:=T.aO) (z:=.agg fitZ.toArray) (places:=[(0,1),(1,1),(2,1),(3,5)]) (vs:=[(0,.slice bA m.args.length kA),(1,.slice bB s.t.args.length kB),(3,.agg #[.int .i64 (pat-31),.int .i64 (nth m.args 0),.int .i64 (nth m.args 1),.slice b0 s.t.to.length k0,.int .i32 0])]) (cs:=#[.slice bA m.args.length kA,.slice bB s.t.args.length kB,.slice none 0 0,.int .i64 (pat-31),.int .i64 (nth m.args 0),.int .i64 (nth m.args 1),.slice b0 s.t.to.length k0,.int .i32 0]) (by kernel_rfl) (by kernel_rfl) (by simp) (by simp[Instr.fill,Value.cells]) ?_
             | refine c.bh (k:=(0,0)) (n:=7) (l:=fitZ) (by rfl) (hr (hcA.mono (by repeat (first | exact View.le_refl _ | assumption | refine View.le_trans ?_ (by assumption)))) (hcB.mono (by repeat (first | exact View.le_refl _ | assumption | refine View.le_trans ?_ (by assumption)))) (hto5.mono (by repeat (first | exact View.le_refl _ | assumption | refine View.le_trans ?_ (by assumption))))) rfl rfl (by kernel_rfl) rfl rfl fun h l9 hl9 c=>?_
             try refine⟨(by repeat (first | exact View.le_refl _ | assumption | refine View.le_trans ?_ (by assumption))),?_⟩
             subst hx))
        all_goals
          simp
          rw[hy]
          have hall:=c.all (k:=(0,0)) (n:=7) (l:=l9) (B:=R) (e:=T.aO) (by rfl)
          simp at hall
          simp[hall]
          exact hK _ _ (bJ.of c (hl9▸hr (hcA.mono (by repeat (first | exact View.le_refl _ | assumption | refine View.le_trans ?_ (by assumption)))) (hcB.mono (by repeat (first | exact View.le_refl _ | assumption | refine View.le_trans ?_ (by assumption)))) (hto5.mono (by repeat (first | exact View.le_refl _ | assumption | refine View.le_trans ?_ (by assumption))))) (by rw[he];rfl) fun y e=>by rw[he]at e;cases e;rfl)
  refine ix (fun ρ h5=>h5=h4/\ρ=[(0,v),(1,.int .i64 pat),(2,ptr S),(4,ptr R),(5,.bool false),(6,ptr Tb),(7,.slice b0 s.t.to.length k0),(13,ut),(16,.slice b0 s.t.to.length k0),(81,.bool false),(83,.bool (inR pat 34 36))]) ?_ ?_
  · intro K2 hK2
    simp
    refine af (by kernel_rfl) je ?_
    rintro _ h4 ⟨rfl,rfl⟩
    by_cases e0:inR pat 34 36=true
    · have e2:¬s.t.kind=2:=fun e=>p5 ⟨by simpa[inR]using e0,e⟩
      simp[e0,z0,e2]
      exact hK2 _ _ ⟨rfl,by rw[e0]⟩
    · have e0:inR pat 34 36=false:=by simpa using e0
      simp[e0]
      exact hK2 _ _ ⟨rfl,by rw[e0]⟩
  rintro _ h4 ⟨rfl,rfl⟩
  subst hy
  refine aV (by simp) ?_
  refine ab fun y hy=>?_
  by_cases p6:pat=37/\s.t.kind=3
  · have he:gN s.f s.t pat=some ⟨s.t.args,[],[],⟨6,nth s.t.args 0,0,s.t.to,⟨0⟩⟩⟩:=by unfold gN;rw[if_neg p1,if_neg p2,if_neg p3,if_neg p4,if_neg p5,if_pos p6]
    have al:=htk.one (by omega)
    have a0:=hva4.rng (i:=0) al
    have x0:=hva4.idx1 (k:=.i64) (i:=0) rfl (by decide) (by omega)
    have d0:=hva4.int (View.le_refl W4) (i:=0) al
    simp[p6.1,z0,p6.2]
    subst hy
    refine aU (by simp) ?_
    refine ab fun y hy=>?_
    refine aS W4 c4.wle ?_
    simp[s1,x0,d0]
    refine⟨?_,?_⟩
    · refine af (by kernel_rfl) (eC c4.wle hva4 (by omega)) ?_
      rintro ucl h5 ⟨hle5,hcl⟩
      have c5:=c4.ext hle5
      have hW5:=c4.up (h':=h5)
      refine⟨View.le_trans hW5 c5.wle,?_⟩
      have hcl0:=hcl
      obtain⟨b1,k1,rfl,-⟩:=hcl0
      generalize grow W4 h4 h5=W5 at *
      refine aq (t:=T.gg) (z:=.agg #[.int .i64 0,.int .i64 0,.int .i64 0,.slice none 0 0,.int .i32 0]) (places:=[(0,1),(1,1),(2,1),(3,1),(4,1)]) (vs:=[(0,.int .i64 6),(1,.int .i64 (nth s.t.args 0)),(3,.slice b0 s.t.to.length k0)]) (cs:=#[.int .i64 6,.int .i64 (nth s.t.args 0),.int .i64 0,.slice b0 s.t.to.length k0,.int .i32 0]) (by kernel_rfl) (by kernel_rfl) (by simp) (by simp[Instr.fill,Value.cells]) ?_
      refine⟨View.le_trans hW5 c5.wle,?_⟩
      refine aq (t:=T.aO) (z:=.agg fitZ.toArray) (places:=[(0,1),(1,1),(2,1),(3,5)]) (vs:=[(0,.slice b1 s.t.args.length k1),(3,.agg #[.int .i64 6,.int .i64 (nth s.t.args 0),.int .i64 0,.slice b0 s.t.to.length k0,.int .i32 0])]) (cs:=#[.slice b1 s.t.args.length k1,.slice none 0 0,.slice none 0 0,.int .i64 6,.int .i64 (nth s.t.args 0),.int .i64 0,.slice b0 s.t.to.length k0,.int .i32 0]) (by kernel_rfl) (by kernel_rfl) (by simp) (by simp[Instr.fill,Value.cells]) ?_
      have hr:Rd W5 (.agg #[.slice b1 s.t.args.length k1,.slice none 0 0,.slice none 0 0,.int .i64 6,.int .i64 (nth s.t.args 0),.int .i64 0,.slice b0 s.t.to.length k0,.int .i32 0]) (⟨s.t.args,[],[],⟨6,nth s.t.args 0,0,s.t.to,⟨0⟩⟩⟩:FitD):=ld (ce:=[_,_,_,_,_]) hcl aI aI (kF (imm:=⟨0⟩) (by simp;omega) (by simp) (hto.mono hW5))
      refine c5.bh (k:=(0,0)) (n:=7) (l:=fitZ) (by rfl) hr rfl rfl (by kernel_rfl) rfl rfl fun h9 l9 hl9 c9=>?_
      subst hy
      have hall:=c9.all (k:=(0,0)) (n:=7) (l:=l9) (B:=R) (e:=T.aO) (by rfl)
      simp at hall
      simp[hall]
      exact hK _ _ (bJ.of c9 (hl9▸hr) (by rw[he];rfl) fun y e=>by rw[he]at e;cases e;rfl)
    · refine aq (t:=T.gg) (z:=.agg #[.int .i64 0,.int .i64 0,.int .i64 0,.slice none 0 0,.int .i32 0]) (places:=[(0,1),(1,1),(2,1),(3,1),(4,1)]) (vs:=[(0,.int .i64 6),(1,.int .i64 (nth s.t.args 0)),(3,.slice b0 s.t.to.length k0)]) (cs:=#[.int .i64 6,.int .i64 (nth s.t.args 0),.int .i64 0,.slice b0 s.t.to.length k0,.int .i32 0]) (by kernel_rfl) (by kernel_rfl) (by simp) (by simp[Instr.fill,Value.cells]) ?_
      refine⟨c4.wle,?_⟩
      refine af (by kernel_rfl) (eC c4.wle hva4 (by omega)) ?_
      rintro ucl h5 ⟨hle5,hcl⟩
      have c5:=c4.ext hle5
      have hW5:=c4.up (h':=h5)
      refine⟨View.le_trans hW5 c5.wle,?_⟩
      have hcl0:=hcl
      obtain⟨b1,k1,rfl,-⟩:=hcl0
      generalize grow W4 h4 h5=W5 at *
      refine aq (t:=T.aO) (z:=.agg fitZ.toArray) (places:=[(0,1),(1,1),(2,1),(3,5)]) (vs:=[(0,.slice b1 s.t.args.length k1),(3,.agg #[.int .i64 6,.int .i64 (nth s.t.args 0),.int .i64 0,.slice b0 s.t.to.length k0,.int .i32 0])]) (cs:=#[.slice b1 s.t.args.length k1,.slice none 0 0,.slice none 0 0,.int .i64 6,.int .i64 (nth s.t.args 0),.int .i64 0,.slice b0 s.t.to.length k0,.int .i32 0]) (by kernel_rfl) (by kernel_rfl) (by simp) (by simp[Instr.fill,Value.cells]) ?_
      have hr:Rd W5 (.agg #[.slice b1 s.t.args.length k1,.slice none 0 0,.slice none 0 0,.int .i64 6,.int .i64 (nth s.t.args 0),.int .i64 0,.slice b0 s.t.to.length k0,.int .i32 0]) (⟨s.t.args,[],[],⟨6,nth s.t.args 0,0,s.t.to,⟨0⟩⟩⟩:FitD):=ld (ce:=[_,_,_,_,_]) hcl aI aI (kF (imm:=⟨0⟩) (by simp;omega) (by simp) (hto.mono hW5))
      refine c5.bh (k:=(0,0)) (n:=7) (l:=fitZ) (by rfl) hr rfl rfl (by kernel_rfl) rfl rfl fun h9 l9 hl9 c9=>?_
      subst hy
      have hall:=c9.all (k:=(0,0)) (n:=7) (l:=l9) (B:=R) (e:=T.aO) (by rfl)
      simp at hall
      simp[hall]
      exact hK _ _ (bJ.of c9 (hl9▸hr) (by rw[he];rfl) fun y e=>by rw[he]at e;cases e;rfl)
  refine ix (fun ρ h5=>h5=h4/\ρ=[(0,v),(1,.int .i64 pat),(2,ptr S),(4,ptr R),(5,.bool false),(6,ptr Tb),(7,.slice b0 s.t.to.length k0),(13,ut),(16,.slice b0 s.t.to.length k0),(83,.bool (inR pat 34 36)),(124,.bool false)]) ?_ ?_
  · intro K2 hK2
    by_cases e0:pat=37
    · have e2:¬s.t.kind=3:=fun e=>p6 ⟨e0,e⟩
      simp[e0,z0,e2]
      exact hK2 _ _ ⟨rfl,by rw[e0]⟩
    · simp[e0,z0]
      exact hK2 _ _ ⟨rfl,rfl⟩
  rintro _ h4 ⟨rfl,rfl⟩
  subst hy
  refine aV (by simp) ?_
  have he:gN s.f s.t pat=none:=by unfold gN;rw[if_neg p1,if_neg p2,if_neg p3,if_neg p4,if_neg p5,if_neg p6]
  simp
  subst hz
  refine ab fun z hz=>?_
  simp
  refine aq (z:=.agg fitZ.toArray) (places:=[(0,1),(1,1),(2,1),(3,5)]) (vs:=[]) (cs:=fitZ.toArray) (by kernel_rfl) (by kernel_rfl) (by simp) (by rfl) ?_
  refine c4.bh (k:=(0,0)) (n:=7) (l:=fitZ) (by rfl) fR rfl rfl (by kernel_rfl) rfl rfl fun h9 l9 hl9 c9=>?_
  subst hz
  have hall:=c9.all (k:=(0,0)) (n:=7) (l:=l9) (B:=R) (e:=T.aO) (by rfl)
  simp at hall
  simp[hall]
  exact hK _ _ (bJ.of c9 (hl9▸fR) (by rw[he];rfl) fun y e=>by rw[he]at e;cases e)
end Go.Proofs.YtnfiilgdjpdlkaaGreatDoor
namespace Go.Proofs.YtnfiilgdjpdlkaaGreatDoor
open Go Go.Lft
theorem Cx.upW{V W W':View}{h0 h h':Heap}{o:Own}(c:Cx V h0 W h o)(hle:(vw h).le (vw h'))(u:Up W h W')(hW:W'.le (vw h')):Cx V h0 W' h' o:=by
 have A : ∀k i b,o k=some i->i.v.ownBlock=some b->W' b=none:=fun k i b hk hb=>by
  have hlt:=c.own.lt hk hb;have hav:=c.own.av k i hk b hb;cases hx:W' b with
  | none=>rfl
  | some x=>rw[u.old b x hlt hx]at hav;cases hav
 exact⟨(c.own.ext' hle).HJ u.le hW A,fun b x hb hx=>c.old b x hb (u.old b x (Nb hb (bW c.le0)) hx),View.le_trans c.le0 hle,c.new⟩
theorem Il{s:bN}{v:Value}{pat:Int}{h:Heap}{W:View}(hW:W.le (vw h))(hv:Rd W v s)(hok:s.term=false->lk s)(htk:s.term=true->lk s/\uV s.t)(hM:s.i.op=15\/s.i.op=16->lI)(hp:I64 pat):
  aw Tryz.prog N.ed #[v,.int .i64 pat] h (fun u h'=>bJ W h h' u (tryS s pat)):=by
 refine ao (args:=[v,.int .i64 pat]) follows F.ed E.ed (Kw (by kernel_rfl)) fun K hK=>?_;dsimp only[L.ed];have c0:=Cx.start hW;refine ab fun z hz=>?_;simp;refine c0.dy rfl hv fun S h1 W1 hW1 c1 at1 hle1=>?_;refine c1.cO (k:=(0,0)) (n:=7) (z:=.agg fitZ.toArray) rfl (by kernel_rfl) rfl (by decide) (by simp[Value.cells,Value.oneCell']) fun R h2 hle2 c2=>?_;subst hz;have tm:=(at1.part bN.nm).bool
 have tm:aj W1 ⟨S,11,none⟩=some (.bool s.term):=by simpa using tm
 have tm:=ae c2.wle tm;obtain⟨us,hus,rus⟩:=at1.ldN rfl (N:=13) rfl;have hus:=hus _ c2.wle;refine ab fun z hz=>?_;cases ht:s.term with
 | true=>
  rw[ht]at tm;obtain⟨hk1,hk2⟩:=htk ht;have e:tryS s pat=gN s.f s.t pat:=by unfold tryS;rw[if_pos ht]
  rw[e]at hK;simp[tm,hus];refine af (by kernel_rfl) (HS c2.wle rus hk1 hk2 hp) ?_;rintro _ h3 ⟨hle3,vf,x,rfl,hvf,hx⟩;have c3:=c2.ext hle3;simp;refine c3.bh (k:=(0,0)) (n:=7) (l:=fitZ) (by rfl) hvf rfl rfl (by kernel_rfl) rfl rfl fun h9 l9 hl9 c9=>?_;have hall:=c9.all (k:=(0,0)) (n:=7) (l:=l9) (B:=R) (e:=T.aO) (by rfl)
  simp at hall;simp[hall];exact hK _ _ (bJ.of c9 (hl9▸hvf) rfl hx)
 | false=>
  rw[ht]at tm;have e:tryS s pat=patS s.f s.i s.temp pat:=by unfold tryS;rw[ht];rfl
  rw[e]at hK;simp[tm];subst hz;refine ab fun z hz=>?_;simp[hus];refine af (by kernel_rfl) (zg c2.wle rus (hok ht) ht hM) ?_;rintro _ h3 ⟨r,W3,rfl,u3,p3,hle3⟩;have c3:=Cx.upW c2 hle3 u3 p3.wle;obtain⟨g,g1,g2,g3⟩:=p3.ex;refine lO (f:=mapE id g) (z:=.nilFunc) (k:=T.int) (e:=T.gl) (d:=.int .i64) (r:=r) (u:=.int .i64 pat) U.cG U.int (by kernel_rfl) rfl rfl fE g1 ?_;simp;subst hz;refine ab fun z hz=>?_;have g2p:=g2 pat
  have g3p:=g3 pat;cases hg:g pat with
  | none=>
   rw[hg]at g2p;have e0:patS s.f s.i s.temp pat=none:=by unfold patS;rw[if_neg];rintro⟨a1,a2,-⟩;simp[nTo]at g2p;omega
   rw[e0]at hK;simp;refine aq (t:=T.aO) (z:=.agg fitZ.toArray) (places:=[(0,1),(1,1),(2,1),(3,5)]) (vs:=[]) (cs:=fitZ.toArray) (by kernel_rfl) (by kernel_rfl) (by simp) (by rfl) ?_;refine c3.bh (k:=(0,0)) (n:=7) (l:=fitZ) (by rfl) fR rfl rfl (by kernel_rfl) rfl rfl fun h9 l9 hl9 c9=>?_;have hall:=c9.all (k:=(0,0)) (n:=7) (l:=l9) (B:=R) (e:=T.aO) (by rfl);simp at hall;simp[hall];exact hK _ _ (bJ.of c9 (hl9▸fR) rfl fun y e=>by cases e)
  | some fv=>
   obtain⟨fn,caps,rfl,hfn,hcall⟩:=(g3p fv hg).ex;simp;subst hz;refine ab fun z hz=>?_;simp;refine bI (ops:=[]) rfl hfn (by simpa using hcall h3 W3 (View.le_refl _) p3.wle) ?_;rintro _ h4 ⟨hle4,vf,x,rfl,hvf,hx⟩;have c4:=c3.ext hle4;simp;refine c4.bh (k:=(0,0)) (n:=7) (l:=fitZ) (by rfl) hvf rfl rfl (by kernel_rfl) rfl rfl fun h9 l9 hl9 c9=>?_;subst hz;have hall:=c9.all (k:=(0,0)) (n:=7) (l:=l9) (B:=R) (e:=T.aO) (by rfl)
   simp at hall;simp[hall];exact hK _ _ (bJ.of c9 (hl9▸hvf) rfl hx)
end Go.Proofs.YtnfiilgdjpdlkaaGreatDoor
