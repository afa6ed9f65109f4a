/- A part of the proof: Rb, Ta, Rc, Rd, Rf, Rg, Rh, Tb, Tc, Td, Th, Ma, Mb, Mc, Md, Me, Mf, Mg, Mh, Mi, Mj, Mk. -/
import Derived.Test.YtnfiilgdjpdlkaaGreatDoorZTTemps4
set_option linter.unusedSimpArgs false
set_option linter.unusedVariables false
namespace Go.Proofs.YtnfiilgdjpdlkaaGreatDoor
open Go Go.Lft
abbrev RSt:=List Bool × List Int
def jA (wo:Int) (to:List Int) (k:Nat) (s:RSt):RSt:=
 if(0<=nth to k/\nth to k<s.1.length)/\nth s.1 (nth to k).toNat=false/\nth to k≠wo then(s.1.set (nth to k).toNat true,s.2++[nth to k]) else s
def uJ (f:ak) (wo:Int) (i:Nat) (s:RSt):RSt:=up (jA wo (nth f.blocks (nth s.2 i).toNat).term.to) (nth f.blocks (nth s.2 i).toNat).term.to.length s
def rchS (f:ak) (wo:Int):Nat->Nat->RSt->RSt
 | 0,_,s=>s
 | n+1,i,s=>if i<s.2.length then rchS f wo n (i+1) (uJ f wo i s) else s
def rch0 (f:ak) (wo:Int):RSt:=if wo≠0/\0<f.blocks.length then((List.replicate f.blocks.length false).set 0 true,[0]) else(List.replicate f.blocks.length false,[])
def eM (f:ak) (wo:Int):List Bool:=(rchS f wo (f.blocks.length+1) 0 (rch0 f wo)).1
structure ROk (n:Nat) (s:RSt):Prop where
 len:s.1.length=n
 cnt:s.2.length+dA s.1<=n
 rng : ∀x∈s.2,0<=x/\x<n
variable{wo:Int}
theorem zI{n:Nat}{to:List Int}{k:Nat}{s:RSt}(h:ROk n s):ROk n (jA wo to k s):=by
 unfold jA;split
 ·rename_i hc;have hf:=jg (t:=s.1) (i:=(nth to k).toNat) (by omega) hc.2.1;refine⟨by simpa using h.len,?_,fun x hx=>?_⟩
  ·have:=h.cnt;simp only[KK,KW];omega
  rcases KD.1 hx with hx | hx
  ·exact h.rng x hx
  rw[KF.1 hx,<-h.len];exact hc.1
 exact h
theorem uR{n:Nat}{to:List Int}{s:RSt}(h:ROk n s)(m:Nat):ROk n (up (jA wo to) m s):=rM (ROk n) (fun k x hx=>zI hx) m s h
theorem xF{f:ak}:ROk f.blocks.length (rch0 f wo):=by
 unfold rch0;have hfa:dA (List.replicate f.blocks.length false)=f.blocks.length:=by simp[dA]
 split
 ·rename_i hc;have hf:=jg (t:=List.replicate f.blocks.length false) (i:=0) (by simpa using hc.2) (by rw[az (by simpa using hc.2)];simp);exact⟨by simp,by simp only[KW];omega,fun x hx=>by rw[KF.1 hx];omega⟩
 exact⟨by simp,by simp only[M8];omega,fun x hx=>by cases hx⟩
theorem BQ {f:ak} {wo:Int} : ∀{m i:Nat} {s:RSt},ROk f.blocks.length s->ROk f.blocks.length (rchS f wo m i s)
 | 0,_,_,h=>h
 | m+1,i,s,h=>by
  rw[rchS];split
  ·exact BQ (uR h _)
  exact h
theorem qv{f:ak}:(eM f wo).length=f.blocks.length:=(BQ xF).len
def pZ (vo vq:Value) (s:RSt):Own:=fun k=>if k=(0,0) then it T.bool vo s.1 else if k=(0,1) then it T.int vq s.2 else none
theorem tT{f:ak}{v:Value}{h:Heap}(hv:Rd (vw h) v f)(hn:f.blocks.length<=1000000):
  aw Tryz.prog N.da #[v,.int .i64 wo] h (fun u h'=>(vw h).le (vw h')/\SlRd (fresh h h') u (eM f wo)):=by
 refine ao (args:=[v,.int .i64 wo]) follows F.da E.da (Kw (by kernel_rfl)) fun K hK=>?_;dsimp only[L.da];refine ab fun z hz=>?_;simp;refine iG rfl hv fun h1 _ hle1 hsz1 hat=>?_;obtain⟨_,vb,cb⟩:=jE hat;generalize h.size=B at cb;subst hz;refine ab fun z hz=>?_;simp[cb.1,cb.2.len];refine mV (α:=Bool) (W:=vw h1) (k:=.i64) (n:=f.blocks.length) (d:=false) El.nu (by simp) (by simp) rfl (by omega) (by omega) fun vo h2 o2 m2 hle2 hb2=>?_;have w2:=(Owns.start (h:=h1) (View.le_refl (vw h1))).add (k:=(0,0)) rfl o2 hle2 (fun b hb=>by rw[hb2]at hb;cases hb;exact Kz _);subst hz;refine ab fun z hz=>?_;simp;refine qE (α:=Int) El.aP fun h3 hle3 hsz3 own3=>?_;have w3:=w2.add (k:=(0,1)) rfl (own3 _) hle3 (fun b hb=>by simp only[Value.ownBlock,Kx]at hb;omega)
 have w3:Owns (vw h1) h3 (pZ vo (.slice (some ⟨h2.size,0,none⟩) 0 0) (List.replicate f.blocks.length false,[])):=w3.congr fun q=>by
  unfold pZ Own.upd;repeat' split
  all_goals first | rfl | simp_all
 generalize Value.slice (some ⟨h2.size,0,none⟩) 0 0=vq at w3;subst hz;refine ab fun z hz=>?_;have cc3:=ae w3.wle cb.1;have cb3:=cb.2.mono w3.wle;have fin : ∀(h4:Heap) (vq:Value) (tl:Env),Owns (vw h1) h4 (pZ vo vq (rch0 f wo))->@LC.wp noPP Tryz.prog z (@dH [.tmp 4] K) ([(0,v),(1,.int .i64 wo),(2,.pointer (some ⟨B,0,none⟩)),(4,.slice none 0 0),(5,vo),(6,vq)]++tl) h4:=by
  intro h4 vq tl w4;subst hz;refine ab fun z hz=>?_;simp;refine iV [1,2,5,6,7] (fun m ρ h5=>∃(i:Nat) (s:RSt) (vq:Value),i<=f.blocks.length/\m=f.blocks.length+1-i/\ρ=[(1,.int .i64 wo),(2,.pointer (some ⟨B,0,none⟩)),(5,vo),(6,vq),(7,.int .i64 i)]/\Owns (vw h1) h5 (pZ vo vq s)/\ROk f.blocks.length s/\
   (rchS f wo m i s).1=eM f wo) (f.blocks.length+1) ⟨0,_,vq,by omega,rfl,by simp[bF,ag],w4,xF,rfl⟩ ?_;rintro m ρ h5 ⟨i,s,vq5,hi,rfl,rfl,w5,hok,hfin⟩ K2 hK2;have no:=w5.now (k:=(0,0)) (v:=vo) (l:=s.1) rfl;have nq:=w5.now (k:=(0,1)) (v:=vq5) (l:=s.2) rfl;have hcnt:=hok.cnt;by_cases hlt:i<s.2.length
  ·have hm:f.blocks.length+1-i=(f.blocks.length-i)+1:=by omega
   rw[hm,rchS,if_pos hlt]at hfin;obtain⟨r0,r1⟩:=hok.rng _ (cj hlt);have cb5:=cb.2.mono w5.wle;obtain⟨w,hw⟩:=xR cb5 (i:=(nth s.2 i).toNat) (by omega);obtain⟨w',hw'⟩:=xR cb.2 (i:=(nth s.2 i).toNat) (by omega);have eww:w'=w:=Option.some.inj ((ae w5.wle hw'.1).symm.trans hw.1);rw[eww]at hw';have hwb:=hw.2.bound;have hrow:uJ f wo i s=up (jA wo (nth f.blocks (nth s.2 i).toNat).term.to) (nth f.blocks (nth s.2 i).toNat).term.to.length s:=rfl;rw[hrow]at hfin;generalize hto:(nth f.blocks (nth s.2 i).toNat).term.to=to at hw hw' hwb hfin;refine ab fun y hy=>?_;simp(disch:=omega)[nq.len,hlt];subst hy;refine ab fun y hy=>?_;refine ab fun x hx=>?_;simp(disch:=omega)[ae w5.wle cb.1,cb5.idxn (N:=6) rfl,nq.idx1 rfl,nq.int (View.le_refl _),hw.1];subst hx;simp;refine dI [1,2,5,6,7,8,9] (fun(q:Value) j=>[.int .i64 wo,.pointer (some ⟨B,0,none⟩),vo,q,.int .i64 i,w,.int .i64 j]) (fun q j h6=>Owns (vw h1) h6 (pZ vo q (up (jA wo to) j s))) to.length vq5
    rfl (by omega) rfl w5 (fun _ _=>rfl) (fun v j h4 hk m=>by simp[hw.2.len]) ?_ ?_
   ·rintro q j h6 hltj w6 K3 hK3;have hst:up (jA wo to) (j+1) s=jA wo to j (up (jA wo to) j s):=rfl;have hok6:=uR (wo:=wo) (to:=to) hok j;generalize up (jA wo to) j s=s6 at w6 hst hok6;have no6:=w6.now (k:=(0,0)) (v:=vo) (l:=s6.1) rfl;have nq6:=w6.now (k:=(0,1)) (v:=q) (l:=s6.2) rfl;have hcnt6:=hok6.cnt;have hlen6:=hok6.len;have hr6:=hw'.2.mono w6.wle;have hrng:=hw'.2.range hltj;rw[jA]at hst;by_cases c1:0<=nth to j/\nth to j<s6.1.length
    ·have c1a:=c1.1;have c1b:=c1.2;cases c2:nth s6.1 (nth to j).toNat with
     | true=>rw[if_neg (by rw[c2];simp)]at hst;simp(disch:=omega)[hr6.idx1 rfl,hr6.int (View.le_refl _),no6.len,no6.idx1 rfl,no6.bool (View.le_refl _),c1a,c1b,c2];exact hK3 q _ _ rfl rfl (by rw[hst];exact w6)
     | false=>
      by_cases c3:nth to j=wo
      ·rw[if_neg (by simp[c3])]at hst;rw[c3]at c1a c1b c2;simp(disch:=omega)[hr6.idx1 rfl,hr6.int (View.le_refl _),no6.len,no6.idx1 rfl,no6.bool (View.le_refl _),c1a,c1b,c2,c3];exact hK3 q _ _ rfl rfl (by rw[hst];exact w6)
      rw[if_pos ⟨c1,c2,c3⟩]at hst;refine ab fun x hx=>?_;simp(disch:=omega)[hr6.idx1 rfl,hr6.int (View.le_refl _),no6.len,no6.idx1 rfl,no6.bool (View.le_refl _),c1a,c1b,c2,c3];subst hx;simp(disch:=omega)[hr6.idx1 rfl,hr6.int (View.le_refl _),no6.idx1 rfl];refine w6.bh (k:=(0,0)) (α:=Bool) (l:=s6.1) (v:=vo) (i:=(nth to j).toNat) (d:=true) rfl (by kernel_rfl) (by simp[show Rep.n Bool=1 from rfl]) (by simp<;>rfl) (by omega) Iw fun h7 w7 hs7=>?_;have hr7:=hw'.2.mono w7.wle;simp(disch:=omega)[hr7.idx1 rfl,hr7.int (View.le_refl _)];refine w7.jd (k:=(0,1)) (α:=Int) (v:=q) (l:=s6.2) (d:=nth to j) rfl El.aP (by simp<;>rfl) (nY hrng.1 hrng.2) (by omega) (by omega) (fun _=>by simp) (fun _=>by simp) fun u q8 h8 w8 hs8=>?_;refine hK3 q8 _ _ rfl rfl ?_;rw[hst];refine w8.congr fun q=>?_;unfold pZ Own.upd;repeat' split
      all_goals first | rfl | simp_all
    rw[if_neg (fun e=>c1 e.1)]at hst;by_cases c1a:0<=nth to j
    ·have c1b:¬nth to j<s6.1.length:=fun e=>c1 ⟨c1a,e⟩;simp(disch:=omega)[hr6.idx1 rfl,hr6.int (View.le_refl _),no6.len,c1a,c1b];exact hK3 q _ _ rfl rfl (by rw[hst];exact w6)
    simp(disch:=omega)[hr6.idx1 rfl,hr6.int (View.le_refl _),no6.len,c1a];exact hK3 q _ _ rfl rfl (by rw[hst];exact w6)
   rintro q h6 w6;simp;subst hy;simp(disch:=omega);exact hK2 (f.blocks.length+1-(i+1)) _ _ (by omega) ⟨i+1,_,q,by omega,rfl,by simp[bF],w6,uR hok _,by rw[show f.blocks.length+1-(i+1)=f.blocks.length-i by omega];exact hfin⟩
  have hlt':¬(i:Int)<s.2.length:=by omega
  simp(disch:=omega)[L.da.l1,nq.len,hlt];subst hz;simp;have hs1:s.1=eM f wo:=by
   rw[<-hfin];cases f.blocks.length+1-i with
   | zero=>rfl
   | succ m=>rw[rchS,if_neg hlt]
  have ow:=w5.get (k:=(0,0)) (v:=vo) (l:=s.1) rfl;refine hK _ _ ⟨View.le_trans hle1 w5.wle,?_⟩;rw[<-hs1];have ow':OwnT nothing h5 T.bool vo s.1:=ow;refine ow'.fresh (fun _ _ h=>by cases h) fun b hb=>?_;rw[hb2]at hb;cases hb;exact View.cM (View.le_refl _) (by omega)
 by_cases c1:wo=0
 ·have hr0:rch0 f wo=(List.replicate f.blocks.length false,[]):=by rw[rch0,if_neg (fun e=>e.1 c1)]
  rw[hr0]at fin;simp[cc3,cb3.len,c1];rw[c1]at fin;exact fin _ _ _ w3
 by_cases c2:0<f.blocks.length
 ·have hr0:rch0 f wo=((List.replicate f.blocks.length false).set 0 true,[0]):=by rw[rch0,if_pos ⟨c1,c2⟩]
  rw[hr0]at fin;have no:=w3.now (k:=(0,0)) (v:=vo) (l:=List.replicate f.blocks.length false) rfl;refine ab fun y hy=>?_;simp(disch:=omega)[cc3,cb3.len,c1,c2];subst hy;have i0:Bn.ev (.idx 1) vo (.int .i64 0)=some (.pointer (some ((slA vo).add 0))):=no.idx1 rfl (by omega) (by simpa using c2)
  simp(disch:=omega)[i0];refine w3.bh (k:=(0,0)) (α:=Bool) (l:=List.replicate f.blocks.length false) (v:=vo) (i:=0) (d:=true) rfl (by kernel_rfl) (by simp[show Rep.n Bool=1 from rfl]) (by simp<;>rfl) (by simpa using c2) Iw fun h4 w4 hs4=>?_;refine w4.jd (k:=(0,1)) (α:=Int) (v:=vq) (l:=[]) (d:=0) rfl El.aP (by simp<;>rfl) (nY (by omega) (by omega)) (by simp) (by simp) (fun _=>by simp) (fun _=>by simp) fun u q5 h5 w5 hs5=>?_;refine fin _ _ _ (w5.congr fun q=>?_);unfold pZ Own.upd;repeat' split
  all_goals first | rfl | simp_all
 have hr0:rch0 f wo=(List.replicate f.blocks.length false,[]):=by rw[rch0,if_neg (fun e=>c2 e.2)]
 rw[hr0]at fin;simp[cc3,cb3.len,c1,c2];exact fin _ _ _ w3
theorem mR{l:List BlkD}:(ofG l).length=l.length:=by simp[ofG]
theorem qt{l:List BlkD}{a b:Int}:mK (ofG l) a b=true↔(0<=a/\a<l.length/\0<=b/\b<l.length)/\b∈(nth l a.toNat).term.to:=by
 rw[iu,mR];constructor
 ·rintro⟨h,hm⟩;rw[ofG,gm (by omega),rL]at hm;exact⟨h,hm.1⟩
 rintro⟨h,hm⟩;refine⟨h,?_⟩;rw[ofG,gm (by omega),rL];exact⟨hm,h.2.2.1,h.2.2.2⟩
structure Rb (f:ak) (wo:Int) (s:RSt):Prop where
 ok:ROk f.blocks.length s
 seen : ∀b:Nat,b<f.blocks.length->(nth s.1 b=true↔(b:Int)∈s.2)
 sound : ∀x∈s.2,Re (ofG f.blocks) wo x.toNat
theorem JC{f:ak}{a:Int}{k:Nat}{s:RSt}(h:Rb f wo s)(h0:0<=a)(h1:a<f.blocks.length)(ha:Re (ofG f.blocks) wo a.toNat)(hk:k<(nth f.blocks a.toNat).term.to.length):
  Rb f wo (jA wo (nth f.blocks a.toNat).term.to k s)/\s.2 <+: (jA wo (nth f.blocks a.toNat).term.to k s).2/\
   (0<=nth (nth f.blocks a.toNat).term.to k->nth (nth f.blocks a.toNat).term.to k<f.blocks.length->nth (nth f.blocks a.toNat).term.to k≠wo->nth (nth f.blocks a.toNat).term.to k∈(jA wo (nth f.blocks a.toNat).term.to k s).2):=by
 have hok:=zI (wo:=wo) (to:=(nth f.blocks a.toNat).term.to) (k:=k) h.ok;have hm:=cj hk;unfold jA at hok ⊢;generalize hto:(nth f.blocks a.toNat).term.to=to at hm hok ⊢;split
 ·rename_i hc;rw[if_pos hc]at hok;obtain⟨⟨c1,c2⟩,c3,c4⟩:=hc;rw[h.ok.len]at c2;have hb:((nth to k).toNat:Int)=nth to k:=KR c1;refine⟨⟨hok,fun b hb=>?_,fun x hx=>?_⟩,List.prefix_append _ _,fun _ _ _=>LA _ (KF.2 rfl)⟩
  ·rw[KD,KF];by_cases he:b=(nth to k).toNat
   ·subst he;rw[bn (by rw[h.ok.len];omega),if_pos rfl];exact⟨fun _=>.inr (KR c1),fun _=>rfl⟩
   rw[bn (by rw[h.ok.len];exact hb),if_neg (fun e=>he e.symm),h.seen b hb];exact⟨.inl,fun e=>e.resolve_right (by omega)⟩
  rcases KD.1 hx with hx | hx
  ·exact h.sound x hx
  rw[KF.1 hx];refine .step ha ?_ (by rw[hb];exact c4);rw[qt,hb];exact⟨⟨by omega,by omega,c1,c2⟩,by rw[KT,hto];exact hm⟩
 rename_i hc;rw[if_neg hc]at hok;refine⟨h,MF _,fun c1 c2 c4=>?_⟩;have hb:((nth to k).toNat:Int)=nth to k:=KR c1;rw[<-hb,<-h.seen _ (by omega)];cases e:nth s.1 (nth to k).toNat with
 | true=>rfl
 | false=>exact absurd ⟨⟨c1,by rw[h.ok.len];exact c2⟩,e,c4⟩ hc
theorem D2 {f:ak} {wo a:Int} {s:RSt} (h:Rb f wo s) (h0:0<=a) (h1:a<f.blocks.length) (ha:Re (ofG f.blocks) wo a.toNat) : ∀m,m<=(nth f.blocks a.toNat).term.to.length->
  Rb f wo (up (jA wo (nth f.blocks a.toNat).term.to) m s)/\s.2 <+: (up (jA wo (nth f.blocks a.toNat).term.to) m s).2/\
   ∀k,k<m->0<=nth (nth f.blocks a.toNat).term.to k->nth (nth f.blocks a.toNat).term.to k<f.blocks.length->nth (nth f.blocks a.toNat).term.to k≠wo->nth (nth f.blocks a.toNat).term.to k∈(up (jA wo (nth f.blocks a.toNat).term.to) m s).2
 | 0,_=>⟨h,MF _,fun k hk=>by omega⟩
 | m+1,hm=>by
  obtain⟨i1,i2,i3⟩:=D2 h h0 h1 ha m (by omega);obtain⟨j1,j2,j3⟩:=JC (k:=m) i1 h0 h1 ha (by omega);rw[up];refine⟨j1,i2.trans j2,fun k hk c1 c2 c3=>?_⟩;rcases KB k m with hlt | hge
  ·exact j2.subset (i3 k hlt c1 c2 c3)
  have:k=m:=by omega
  subst this;exact j3 c1 c2 c3
structure Rc (f:ak) (wo:Int) (i:Nat) (s:RSt):Prop where
 b:Rb f wo s
 root:wo≠0->0<f.blocks.length->(0:Int)∈s.2
 done : ∀j,j<i->j<s.2.length->∀b:Nat,mK (ofG f.blocks) (nth s.2 j) b=true->(b:Int)≠wo->(b:Int)∈s.2
variable{α:Type}
theorem BD[Inhabited α]{a b:List α}(h:a <+: b){i:Nat}(hi:i<a.length):nth b i=nth a i:=by obtain⟨t,rfl⟩:=h;rw[az (by simp;omega),az hi,M5 hi]
theorem GG{f:ak}{i:Nat}{s:RSt}(h:Rc f wo i s)(hi:i<s.2.length):Rc f wo (i+1) (uJ f wo i s)/\s.2 <+: (uJ f wo i s).2:=by
 have hm:=cj hi;obtain⟨h0,h1⟩:=h.b.ok.rng _ hm;have hre:=h.b.sound _ hm;obtain⟨i1,i2,i3⟩:=D2 h.b h0 h1 hre _ (Kz _);have he:uJ f wo i s=up (jA wo (nth f.blocks (nth s.2 i).toNat).term.to) (nth f.blocks (nth s.2 i).toNat).term.to.length s:=rfl;rw[<-he]at i1 i2 i3;refine⟨⟨i1,fun a b=>i2.subset (h.root a b),fun j hj hjl b hb hne=>?_⟩,i2⟩;rcases KB j i with hlt | hge
 ·rw[BD i2 (by omega)]at hb;exact i2.subset (h.done j hlt (by omega) b hb hne)
 have:j=i:=by omega
 subst this;rw[BD i2 hi,qt]at hb;obtain⟨⟨_,_,q1,q2⟩,hmem⟩:=hb;obtain⟨k,hk,e⟩:=KV hmem;rw[<-az hk]at e;rw[<-e];exact i3 k hk (by omega) (by omega) (by rw[e];exact hne)
theorem Ec {f:ak} {wo:Int} : ∀{m i:Nat} {s:RSt},Rc f wo i s->f.blocks.length<i+m->∃k,Rc f wo k (rchS f wo m i s)/\(rchS f wo m i s).2.length<=k
 | 0,i,s,h,hm=>⟨i,h,by have:=h.b.ok.cnt;rw[rchS];omega⟩
 | m+1,i,s,h,hm=>by
  rw[rchS];split
  ·rename_i hi;exact Ec (GG h hi).1 (by omega)
  rename_i hi;exact⟨i,h,by omega⟩
theorem G3{f:ak}:Rc f wo 0 (rch0 f wo):=by
 have hok:=xF (f:=f) (wo:=wo);unfold rch0 at hok ⊢;split
 ·rename_i hc;rw[if_pos hc]at hok;refine⟨⟨hok,fun b hb=>?_,fun x hx=>?_⟩,fun _ _=>KF.2 rfl,fun j hj=>by omega⟩
  ·rw[bn (by simpa using hb),KF];split
   ·rename_i e;subst e;simp
   rename_i e;rw[az (by simpa using hb)];simp;omega
  rw[KF.1 hx];exact .root (by rw[mR];exact hc.2) hc.1
 rename_i hc;rw[if_neg hc]at hok;refine⟨⟨hok,fun b hb=>?_,fun x hx=>by cases hx⟩,fun a b=>absurd ⟨a,b⟩ hc,fun j hj=>by omega⟩;rw[az (by simpa using hb)];simp
variable{b:Nat}
theorem jH{f:ak}(hb:b<f.blocks.length):nth (eM f wo) b=true↔Re (ofG f.blocks) wo b:=by
 obtain⟨k,h,hk⟩:=Ec (G3 (f:=f) (wo:=wo)) (m:=f.blocks.length+1) (by omega);unfold eM;generalize rchS f wo (f.blocks.length+1) 0 (rch0 f wo)=s at h hk;rw[h.b.seen b hb];constructor
 ·exact fun hm=>by simpa using h.b.sound _ hm
 intro hr;induction hr with
 | root h1 h2=>exact h.root h2 (by rw[<-mR];exact h1)
 | @step a b ha he hne ih=>have hm:=ih (by have:=(qt.1 he).1;omega);obtain⟨j,hj,e⟩:=KV hm;rw[<-az hj]at e;exact h.done j (by omega) hj b (by rw[e];exact he) hne
instance:Rep Th:=Rep.via fun d=>Cat.mk d.blk (Cat.mk d.place (Cat.mk d.mks d.tks))
theorem Th.HD:Part Th Int 0 Th.blk (fun d x=>{ d with blk:=x }):=(Part.fst Part.all).via (fun _=>rfl) fun _ _=>rfl
theorem Th.Jj:Part Th (List Int) 2 Th.mks (fun d x=>{ d with mks:=x }):=(Part.snd (Part.snd (Part.fst Part.all))).via (fun _=>rfl) fun _ _=>rfl
structure ThR where
 blk:Int
 place:Int
 mks:List Int
 tks:Raw
instance:Rep ThR:=Rep.via fun d=>Cat.mk d.blk (Cat.mk d.place (Cat.mk d.mks d.tks))
theorem ThR.HI:Part ThR Raw 3 ThR.tks (fun d x=>{ d with tks:=x }):=(Part.snd (Part.snd (Part.snd Part.all))).via (fun _=>rfl) fun _ _=>rfl
theorem EJ{H:View}{a b:Int}{u q:Value}{m t:List Int}(ha:I64 a)(hb:I64 b)(hm:SlRd H u m)(ht:SlRd H q t):Rd H (.agg #[.int .i64 a,.int .i64 b,u,q]) (Th.mk a b m t):=
 ⟨_,rfl,[.int .i64 a],[.int .i64 b,u,q],rfl,⟨rfl,ha⟩,[.int .i64 b],[u,q],rfl,⟨rfl,hb⟩,[u],[q],rfl,⟨u,rfl,hm⟩,⟨q,rfl,ht⟩⟩
theorem Iv{H:View}{a b:Int}{u q:Value}{m:List Int}(ha:I64 a)(hb:I64 b)(hm:SlRd H u m)(hq:q.oneCell'=true):Rd H (.agg #[.int .i64 a,.int .i64 b,u,q]) (ThR.mk a b m ⟨q⟩):=
 ⟨_,rfl,[.int .i64 a],[.int .i64 b,u,q],rfl,⟨rfl,ha⟩,[.int .i64 b],[u,q],rfl,⟨rfl,hb⟩,[u],[q],rfl,⟨u,rfl,hm⟩,⟨rfl,hq⟩⟩
theorem CV{H:View}{cs:List Value}{d:ThR}(h:Rep.rd H cs d): ∃u,cs=[.int .i64 d.blk,.int .i64 d.place,u,d.tks.v]/\I64 d.blk/\I64 d.place/\SlRd H u d.mks:=by obtain⟨c1,r1,rfl,⟨rfl,h1⟩,c2,r2,rfl,⟨rfl,h2⟩,c3,r3,rfl,⟨u,rfl,h3⟩,rfl,_⟩:=h;exact⟨u,rfl,h1,h2,h3⟩
def nR (vo:Value) (l:List Th):Own:=fun k=>if k=(0,0) then it T.fo vo l else none
def tu (vo:Value) (l:List Th) (D:Nat) (d:ThR) (q:Value) (t:List Int):Own:=fun k=>if k=(0,0) then it T.fo vo l else if k=(1,0) then bx T.fo D d else if k=(1,1) then it T.int q t else none
structure ThS (V:View) (h0:Heap) (vo:Value) (l:List Th) (W:View) (h:Heap):Prop where
 own:Owns W h (nR vo l)
 old:Old V h0 W
 le:(vw h0).le (vw h)
 av:Av (vw h0) vo
theorem ThS.ext {V:View} {h0:Heap} {vo:Value} {l:List Th} {W:View} {h h':Heap} (k:ThS V h0 vo l W h) (hle:(vw h).le (vw h')):ThS V h0 vo l (grow W h h') h':=
 ⟨k.own.ext hle,k.old.grow (bW k.le),View.le_trans k.le hle,k.av⟩
theorem Em{po:OP}{ty:TypeId}{us:List (Nat × Value)}{h:Heap}{K:Value->Heap->Prop}{x y z w:Operand}{a b:Int}{u q:Value}(hx:asg us x = .int .i64 a)(hy:asg us y = .int .i64 b)(hz:asg us z=u)(hw:asg us w=q)(hu:u.cells = #[u])(hq:q.cells = #[q])(hk:K (.agg #[.int .i64 a,.int .i64 b,u,q]) h):
  Lft.step Tryz.prog (.build T.fo #[(0,x),(1,y),(2,z),(3,w)]) ty us h K:=
 aq (z:=.agg #[.int .i64 0,.int .i64 0,.slice none 0 0,.slice none 0 0]) (places:=[(0,1),(1,1),(2,1),(3,1)]) (vs:=[(0,.int .i64 a),(1,.int .i64 b),(2,u),(3,q)]) (cs:=#[.int .i64 a,.int .i64 b,u,q]) (by kernel_rfl) (by kernel_rfl) (by simp[hx,hy,hz,hw])
  (by simp[Instr.fill,hu,hq]) hk
theorem CX{po:OP}{ty:TypeId}{us:List (Nat × Value)}{h:Heap}{K:Value->Heap->Prop}{x y z:Operand}{a b:Int}{u:Value}(hx:asg us x = .int .i64 a)(hy:asg us y = .int .i64 b)(hz:asg us z=u)(hu:u.cells = #[u])(hk:K (.agg #[.int .i64 a,.int .i64 b,u,.slice none 0 0]) h):
  Lft.step Tryz.prog (.build T.fo #[(0,x),(1,y),(2,z)]) ty us h K:=
 aq (z:=.agg #[.int .i64 0,.int .i64 0,.slice none 0 0,.slice none 0 0]) (places:=[(0,1),(1,1),(2,1),(3,1)]) (vs:=[(0,.int .i64 a),(1,.int .i64 b),(2,u)]) (cs:=#[.int .i64 a,.int .i64 b,u,.slice none 0 0]) (by kernel_rfl) (by kernel_rfl) (by simp[hx,hy,hz])
  (by simp[Instr.fill,hu]) hk
theorem Ck{po:OP}{ty:TypeId}{us:List (Nat × Value)}{h:Heap}{K:Value->Heap->Prop}{x y w:Operand}{a b:Int}{q:Value}(hx:asg us x = .int .i64 a)(hy:asg us y = .int .i64 b)(hw:asg us w=q)(hq:q.cells = #[q])(hk:K (.agg #[.int .i64 a,.int .i64 b,.slice none 0 0,q]) h):
  Lft.step Tryz.prog (.build T.fo #[(0,x),(1,y),(3,w)]) ty us h K:=
 aq (z:=.agg #[.int .i64 0,.int .i64 0,.slice none 0 0,.slice none 0 0]) (places:=[(0,1),(1,1),(2,1),(3,1)]) (vs:=[(0,.int .i64 a),(1,.int .i64 b),(3,q)]) (cs:=#[.int .i64 a,.int .i64 b,.slice none 0 0,q]) (by kernel_rfl) (by kernel_rfl) (by simp[hx,hy,hw])
  (by simp[Instr.fill,hq]) hk
theorem xX{f:ak}{v:Value}{V:View}{h:Heap}(hv:Rd V v f)(hV:V.le (vw h))(hsm:SmF f):
  aw Tryz.prog N.cD #[v] h (fun u h'=>(vw h).le (vw h')/\SlRd (grow V h h') u (aF f)):=by
 refine ao (args:=[v]) follows F.cD E.cD (Kw (by kernel_rfl)) fun K hK=>?_;have hn:=hsm.len;dsimp only[L.cD];refine ab fun z hz=>?_;simp;refine dy (v:=v) rfl ?_;have hle1:=bM h (.cells v.cells T.eI)
 have hat1:At (grow V h (h.push (.cells v.cells T.eI))) ⟨h.size,0,none⟩ f:=pM (t:=T.eI) (fz:=(0,0)) (by rw[dw (Kz _)];simp) (hv.mono (bO hV));have hs1:(h.push (.cells v.cells T.eI)).size=h.size+1:=by simp
 generalize h.push (.cells v.cells T.eI)=h1 at hle1 hat1 hs1;have hW1:(grow V h h1).le (vw h1):=kM (View.le_trans hV hle1);have old1:Old V h (grow V h h1):=(Old.refl V h).grow (Kz _);obtain⟨_,vb,cb⟩:=jE hat1;generalize grow V h h1=W1 at cb hW1 old1;generalize h.size=B at cb;subst hz;refine ab fun z hz=>?_;simp;refine qE (α:=Th) El.gK fun h2 hle2 hsz2 own2=>?_;have t2:ThS V h (.slice (some ⟨h1.size,0,none⟩) 0 0) [] W1 h2:=⟨((Owns.start hW1).add (k:=(0,0)) rfl (own2 _) hle2 (fun b hb=>by simp only[Value.ownBlock,Kx]at hb;omega)).congr fun q=>by
   unfold nR Own.upd;repeat' split
   all_goals first | rfl | simp_all,old1,View.le_trans hle1 hle2,fun b hb=>by cases hb;exact View.cM (View.le_refl _) (by show h.size<=h1.size;omega)⟩
 generalize Value.slice (some ⟨h1.size,0,none⟩) 0 0=v0 at t2;subst hz;refine ab fun z hz=>?_;simp;refine dI [1,3,4] (fun(r:Value) b=>[.pointer (some ⟨B,0,none⟩),r,.int .i64 b]) (fun r b h3=>∃W,W1.le W/\ThS V h r (thTo f b) W h3) f.blocks.length v0
  rfl (by omega) rfl ⟨W1,View.le_refl _,t2⟩ (fun _ _=>rfl) (fun v k h3 hk ⟨W,q1,q2⟩=>by simp[ae (View.le_trans q1 q2.own.wle) cb.1,(cb.2.mono (View.le_trans q1 q2.own.wle)).len]) ?_ ?_
 ·rintro r b h3 hltb ⟨W3,hW3,t3⟩ K2 hK2;have hl3:=uH hsm (n:=b) (by omega);have cb3:=cb.2.mono (View.le_trans hW3 t3.own.wle);have cc3:=ae (View.le_trans hW3 t3.own.wle) cb.1;obtain⟨u,hu,hur⟩:=(cb.2.mono hW3).wh rfl (N:=6) rfl hltb;have sb:=hsm.blk b hltb;refine ab fun y hy=>?_;simp(disch:=omega)[cc3,cb3.idxn (N:=6) rfl,hu _ t3.own.wle];refine dX (X:=W3) (z:=.agg #[.slice none 0 0,.slice none 0 0,.int .i64 0,.slice none 0 0,.slice none 0 0,.int .i32 0]) (by kernel_rfl) rfl (by kernel_rfl) hur (fun _=>by simp) (fun _=>by simp) fun h4 hle4 hsz4 hat4=>?_;have t4:=t3.ext hle4
  have hat4':=hat4 (grow W3 h3 h4) (bO t3.own.wle) (dw (Kz _));obtain⟨vp,vi,va,vt,bp,bi,bk,ba,bt⟩:=kl hat4';have hW4:=View.le_trans hW3 (bO (h':=h4) t3.own.wle);generalize grow W3 h3 h4=W4 at t4 bp bi bk ba bt hW4;generalize h3.size=D at bp bi bk ba bt;subst hy;refine ab fun y hy=>?_;simp;have sp:=sb.phis
  refine dI [1,3,4,5,6] (fun(r:Value) i=>[.pointer (some ⟨B,0,none⟩),r,.int .i64 b,.pointer (some ⟨D,0,none⟩),.int .i64 i]) (fun r i h5=>∃W,W4.le W/\ThS V h r (thTo f b++rows (phiT f b) i) W h5) (nth f.blocks b).phis.length r
   rfl (by omega) rfl ⟨W4,View.le_refl _,by simpa using t4⟩ (fun _ _=>rfl) (fun v k h3 hk ⟨W,q1,q2⟩=>by simp[ae (View.le_trans q1 q2.own.wle) bp.1,(bp.2.mono (View.le_trans q1 q2.own.wle)).len]) ?_ ?_
  ·rintro r i h5 hlti ⟨W5,hW5,t5⟩ K3 hK3;have bp5:=bp.2.mono hW5;have bph:=bp5.mono t5.own.wle;have cph:=ae (View.le_trans hW5 t5.own.wle) bp.1;have hap:=(bp5.at hlti);rw[<-az hlti]at hap;have hdst:aj W5 (((slA vp).add (i*2)).add 0)=some (.int .i64 (nth (nth f.blocks b).phis i).dst):=(hap.part PhiD.iN).int;have hdr:=(hap.part PhiD.iN).rng;obtain⟨vq,hvq⟩:=(hap.part PhiD.lV).sl;have hvq1:aj W5 (((slA vp).add (i*2)).add 1)=some vq:=hvq.1;have hvq2:=hvq.2;have hpl:=sb.phi i hlti;have hpt:phiT f b i=⟨b,-1-i,[(nth (nth f.blocks b).phis i).dst],(nth (nth f.blocks b).phis i).ins.map InD.val⟩:=rfl;generalize nth (nth f.blocks b).phis i=x at hdst hdr hvq2 hpl hpt;refine ab fun q hq=>?_;simp(disch:=omega)[cph,bph.idxn (N:=2) rfl,ae t5.own.wle hdst];refine kR (X:=nothing) (ds:=[x.dst]) (vs:=[.int .i64 x.dst]) rfl El.aP (by simp) ⟨bC.2 ⟨rfl,hdr⟩,trivial⟩ bs rfl (by omega) fun u6 h6 hle6 hsz6 hu6 hub6=>?_;have hu6n:=hu6 (vw h6) bs rfl
   refine CX rfl rfl rfl hu6n.cells.1 ?_;simp;refine gS (n:=4) (v:=.agg #[.int .i64 b,.int .i64 (-1-i),u6,.slice none 0 0]) (z:=.agg #[.int .i64 0,.int .i64 0,.slice none 0 0,.slice none 0 0]) (by kernel_rfl) rfl (by kernel_rfl) rfl (by intro c hc;simp at hc;rcases hc with rfl | rfl | rfl | rfl<;>first | rfl | exact hu6n.cells.2) (fun _=>by simp) (fun _=>by simp) fun h7 hle7 hsz7 hb7=>?_;have w6:=t5.own.ext hle6;have w7:=(w6.add (k:=(1,0)) rfl (jB (h:=h7) (d:=ThR.mk b (-1-i) [x.dst] ⟨.slice none 0 0⟩) hb7 (Iv ⟨by omega,by omega⟩ ⟨by omega,by omega⟩ (hu6 _ bs (dw (Kz _))) rfl) (by decide)) hle7 (fun b hb=>by simp only[Value.ownBlock,Kx]at hb;omega)).add (k:=(1,1)) rfl (OwnT.nil (α:=Int) _ h7 T.int) (View.le_refl _) (fun b hb=>by simp[Value.ownBlock]at hb);have w7:Owns (grow W5 h5 h6) h7 (tu r (thTo f b++rows (phiT f b) i) h6.size (ThR.mk b (-1-i) [x.dst] ⟨.slice none 0 0⟩) (.slice none 0 0) []):=w7.congr fun q=>by
    unfold tu nR Own.upd;repeat' split
    all_goals first | rfl | simp_all
   have hW7:=View.le_trans hW5 (bO (h':=h6) t5.own.wle);have old7:=t5.old.grow (h1:=h5) (h2:=h6) (bW t5.le);have hle07:=View.le_trans t5.le (View.le_trans hle6 hle7);have hvq7:=hvq2.mono (bO (h':=h6) t5.own.wle);have cvq7:=ae (bO (h':=h6) t5.own.wle) hvq1;generalize grow W5 h5 h6=W7 at w7 hW7 old7 hvq7 cvq7;have hD7:h.size<=h6.size:=KU (bW t5.le) (bW hle6);generalize h6.size=D7 at w7 hD7;subst hq;refine ab fun q hq=>?_;simp;refine dI [1,3,4,5,6,7,8] (fun(q:Value) j=>[.pointer (some ⟨B,0,none⟩),r,.int .i64 b,.pointer (some ⟨D,0,none⟩),.int .i64 i,.pointer (some ⟨D7,0,none⟩),.int .i64 j])
    (fun q j h8=>Owns W7 h8 (tu r (thTo f b++rows (phiT f b) i) D7 (ThR.mk b (-1-i) [x.dst] ⟨q⟩) q ((x.ins.map InD.val).take j))/\(vw h).le (vw h8)/\Av (vw h) q) x.ins.length (.slice none 0 0)
    rfl (by omega) rfl ⟨w7,hle07,Av.nil _ _ _⟩ (fun _ _=>rfl) (fun v k h8 hk ⟨w8,q2⟩=>by have bp8:=(bp.2.mono hW7).mono w8.wle;simp(disch:=omega)[ae (View.le_trans hW7 w8.wle) bp.1,bp8.idxn (N:=2) rfl,ae w8.wle cvq7,(hvq7.mono w8.wle).len]) ?_ ?_
   ·rintro q8 j h8 hltj ⟨w8,hle08,av8⟩ K4 hK4;have bp8:=(bp.2.mono hW7).mono w8.wle;have hv8:=hvq7.mono w8.wle;have hai:=(hvq7.at hltj);rw[<-az hltj]at hai;have hval:aj W7 (((slA vq).add (j*2)).add 1)=some (.int .i64 (nth x.ins j).val):=(hai.part InD.BY).int;have hvr:=(hai.part InD.BY).rng;have hl8:((x.ins.map InD.val).take j).length=j:=by simp;omega
    have htk:(x.ins.map InD.val).take (j+1)=(x.ins.map InD.val).take j++[(nth x.ins j).val]:=by rw[NT,L8,K6 hltj,az hltj];rfl
    have hq8:aj (vw h8) ⟨D7,3,none⟩=some q8:=by have:=((w8.at (k:=(1,0)) (e:=T.fo) (B:=D7) (d:=ThR.mk b (-1-i) [x.dst] ⟨q8⟩) rfl).part ThR.HI).raw;simpa using this
    refine aS (vw h8) (View.le_refl _) ?_;simp(disch:=omega)[hq8,ae (View.le_trans hW7 w8.wle) bp.1,bp8.idxn (N:=2) rfl,ae w8.wle cvq7,hv8.idxn (N:=2) rfl,ae w8.wle hval];refine mb (α:=Int) (W:=W7) El.aP rfl (bC.2 ⟨rfl,hvr⟩) fun u9 h9 hs9 hle9 hsz9=>⟨hle9,?_⟩;refine(w8.ext' hle9).eu (k:=(1,1)) (α:=Int) (v:=q8) (l:=(x.ins.map InD.val).take j) rfl El.aP rfl rfl hs9 (by simp;omega) (by simp;omega) fun q10 h10 w10 m10=>?_;have hc10:=w10.cells (k:=(1,1)) (Own.an);obtain⟨hX10,av10⟩:=m10.view (View.le_trans hle08 hle9) av8;refine w10.oZ (k:=(1,0)) (e:=T.fo) (B:=D7) (D:=ThR.mk b (-1-i) [x.dst] ⟨q8⟩) ThR.HI (d:=⟨q10⟩) rfl (by kernel_rfl) rfl rfl (lZ.2 ⟨rfl,hc10.2⟩) fun h11 w11 hX11=>?_;refine hK4 q10 _ _ rfl rfl ⟨w11.congr fun p=>?_,hX11 _ hX10 (View.cM (View.le_refl _) hD7),av10⟩;rw[htk];unfold tu Own.upd;repeat' split
    all_goals first | rfl | simp_all
   rintro q8 h8 ⟨w8,hle08,av8⟩;rw[KG (by simp)]at w8;simp;subst hq;obtain⟨cs,hcs,hrd⟩:=w8.atW (k:=(1,0)) (e:=T.fo) (B:=D7) (d:=ThR.mk b (-1-i) [x.dst] ⟨q8⟩) rfl;obtain⟨u9,rfl,i1,i2,hu9⟩:=CV hrd;obtain⟨w9,hq9⟩:=w8.freeze (k:=(1,1)) (v:=q8) (l:=x.ins.map InD.val) rfl;have hpl9:W7.le (W7.plus q8 h8):=jv (w8.av (1,1) _ rfl);have hload:Un.ev (vw h8) (.au 4) (.pointer (some ⟨D7,0,none⟩))=some (.agg #[.int .i64 b,.int .i64 (-1-i),u9,q8]):=by have:=gy hcs 4 0 #[] (by rfl);simp[Un.ev,vP,this]
   have hold9:Old V h (W7.plus q8 h8):=fun c o hc hco=>by
    unfold View.plus at hco;split at hco
    ·rename_i e;have:=av8 c e;simp only[vw]at this;rw[KO hc]at this;cases this
    exact old7 c o hc hco
   have w9:Owns (W7.plus q8 h8) h8 (nR r (thTo f b++rows (phiT f b) i)):=w9.sub fun p x hp=>by
    unfold nR at hp;split at hp
    ·rename_i e;subst e;exact hp
    cases hp
   have hlr:(thTo f b++rows (phiT f b) i).length=(thTo f b).length+i:=by simp
   simp[hload];refine w9.uu (k:=(0,0)) (α:=Th) (v:=r) (l:=thTo f b++rows (phiT f b) i) (d:=phiT f b i) rfl El.gK rfl (by rw[hpt];exact EJ i1 i2 (hu9.mono hpl9) hq9) (by omega) (by omega) (fun _=>rfl) (fun _=>rfl) fun u10 r10 h10 w10 hX10=>?_;obtain⟨g1,g2⟩:=hX10 _ hle08 t5.av;refine hK3 r10 _ _ rfl rfl ⟨W7.plus q8 h8,View.le_trans hW7 hpl9,⟨w10.congr fun p=>?_,hold9,g1,g2⟩⟩;rw[ft,<-List.append_assoc];unfold nR Own.upd;repeat' split
   all_goals first | rfl | simp_all
  rintro r h5 ⟨W5,hW5,t5⟩;simp;subst hy;refine ab fun y hy=>?_;simp;have si:=sb.ins;refine dI [1,3,4,5,9] (fun(r:Value) i=>[.pointer (some ⟨B,0,none⟩),r,.int .i64 b,.pointer (some ⟨D,0,none⟩),.int .i64 i]) (fun r i h6=>∃W,W4.le W/\ThS V h r (thTo f b++rows (phiT f b) (nth f.blocks b).phis.length++rows (insT f b) i) W h6) (nth f.blocks b).ins.length r
   rfl (by omega) rfl ⟨W5,hW5,by simpa using t5⟩ (fun _ _=>rfl) (fun v k h3 hk ⟨W,q1,q2⟩=>by simp[ae (View.le_trans q1 q2.own.wle) bi.1,(bi.2.mono (View.le_trans q1 q2.own.wle)).len]) ?_ ?_
  ·rintro r i h6 hlti ⟨W6,hW6,t6⟩ K3 hK3;have bi6:=bi.2.mono hW6;have bih:=bi6.mono t6.own.wle;have cih:=ae (View.le_trans hW6 t6.own.wle) bi.1;obtain⟨ux,hux,huxr⟩:=bi6.wh rfl (N:=5) rfl hlti;have hap:=(bi6.at hlti);rw[<-az hlti]at hap;obtain⟨vq,hvq⟩:=(hap.part InsD.fj).sl;have hvq1:aj W6 (((slA vi).add (i*5)).add 3)=some vq:=hvq.1;have hvq2:=hvq.2;have hpt:insT f b i=⟨b,i,cQ (nth (nth f.blocks b).ins i),(nth (nth f.blocks b).ins i).args⟩:=rfl;generalize nth (nth f.blocks b).ins i=x at hvq2 huxr hpt;have hlr:(thTo f b++rows (phiT f b) (nth f.blocks b).phis.length++rows (insT f b) i).length=(thTo f b).length+(nth f.blocks b).phis.length+i:=by simp;omega
   refine aS (vw h6) (View.le_refl _) ?_;simp(disch:=omega)[cih,bih.idxn (N:=5) rfl,hux _ t6.own.wle,ae t6.own.wle hvq1];refine af (by kernel_rfl) (nN (huxr.mono t6.own.wle)) ?_;rintro u7 h7 ⟨hle7,hu7,_⟩;refine⟨hle7,?_⟩;have t7:=t6.ext hle7;have hu7':=hu7.mono (jj W6 h6 h7);have hvq7:=hvq2.mono (bO (h':=h7) t6.own.wle);refine Em rfl rfl rfl rfl hu7.cells.1 hvq2.cells.1 ?_;simp;refine t7.own.uu (k:=(0,0)) (α:=Th) (v:=r) (l:=thTo f b++rows (phiT f b) (nth f.blocks b).phis.length++rows (insT f b) i) (d:=insT f b i) rfl El.gK rfl (by rw[hpt];exact EJ ⟨by omega,by omega⟩ ⟨by omega,by omega⟩ hu7' hvq7) (by omega) (by omega) (fun _=>rfl) (fun _=>rfl) fun u10 r10 h10 w10 hX10=>?_;obtain⟨g1,g2⟩:=hX10 _ t7.le t7.av;refine hK3 r10 _ _ rfl rfl ⟨_,View.le_trans hW6 (bO (h':=h7) t6.own.wle),⟨w10.congr fun p=>?_,t7.old,g1,g2⟩⟩;rw[ft,<-List.append_assoc];unfold nR Own.upd;repeat' split
   all_goals first | rfl | simp_all
  rintro r h6 ⟨W6,hW6,t6⟩;simp;subst hy;have hW6h:=View.le_trans hW6 t6.own.wle;have bih:=bi.2.mono hW6h;have cih:=ae hW6h bi.1;have hlr:(thTo f b++rows (phiT f b) (nth f.blocks b).phis.length++rows (insT f b) (nth f.blocks b).ins.length).length=(thTo f b).length+(nth f.blocks b).phis.length+(nth f.blocks b).ins.length:=by simp;omega
  simp[cih,bih.len,ae hW6h ba.1];refine Ck rfl rfl rfl (ba.2.cells.1) ?_;simp;refine t6.own.uu (k:=(0,0)) (α:=Th) (v:=r) (l:=thTo f b++rows (phiT f b) (nth f.blocks b).phis.length++rows (insT f b) (nth f.blocks b).ins.length) (d:=endT f b) rfl El.gK rfl (EJ ⟨by omega,by omega⟩ ⟨by omega,by omega⟩ aI (ba.2.mono hW6)) (by omega) (by omega) (fun _=>rfl) (fun _=>rfl) fun u10 r10 h10 w10 hX10=>?_;obtain⟨g1,g2⟩:=hX10 _ t6.le t6.av;refine hK2 r10 _ _ rfl rfl ⟨_,View.le_trans hW4 hW6,⟨w10.congr fun p=>?_,t6.old,g1,g2⟩⟩;have e:thTo f (b+1)=thTo f b++rows (phiT f b) (nth f.blocks b).phis.length++rows (insT f b) (nth f.blocks b).ins.length++[endT f b]:=by rw[gJ,thB];simp[KL]
  rw[e];unfold nR Own.upd;repeat' split
  all_goals first | rfl | simp_all
 rintro r h3 ⟨W3,hW3,t3⟩;simp;subst hz;simp;exact hK _ _ ⟨t3.le,(t3.own.get (k:=(0,0)) (v:=r) (l:=thTo f f.blocks.length) rfl).rd (t3.old.le t3.own.wle) fun b hb=>by
  have:=t3.av b hb;rw[dw];rcases KB b h.size with hlt | hge
  ·simp[vw,hlt]at this
  exact hge⟩
structure GotD where
 e:Int
 b:Int
 p:Int
instance:Rep GotD:=Rep.via fun d=>Cat.mk d.e (Cat.mk d.b d.p)
abbrev BL:=List Bool
def oR (t:Th) (j:Nat) (m:BL):Except Tr BL:=if nth m (nth t.mks j).toNat then .error (12,t.blk,t.place) else .ok (m.set (nth t.mks j).toNat true)
def gY (f:ak) (t:Th):BlkD:=nth f.blocks t.blk.toNat
def zQ (f:ak) (t:Th):InsD:=nth (gY f t).ins t.place.toNat
def qN (f:ak) (t:Th):Bool:=decide (0<=t.place)&&decide (t.place<(gY f t).ins.length)
def mg (f:ak) (t:Th):Bool:=decide (t.place=(gY f t).ins.length)
def tV (s:InsD):Bool:=decide (s.op<1)||decide (18<s.op)||!xy s.op s.args.length
def ma (f:ak) (n:Int):Bool:=decide (n<f.params)||decide (8191<n)
def tQ (f:ak) (n:Int):Bool:=decide (n<1)||decide ((f.blocks.length:Int)<=n)
def mQ (f:ak) (t:Th):Except Tr BL->Except Tr BL
 | .error e=>.error e
 | .ok m'=>if mg f t&&(gY f t).term.to.any (tQ f) then .error (14,t.blk,t.place) else .ok m'
def iD (f:ak) (t:Th) (m:BL):Except Tr BL:=
 if qN f t&&tV (zQ f t) then .error (10,t.blk,t.place)
 else if mg f t&&!vz (gY f t).term then .error (10,t.blk,t.place)
 else if t.mks.any (ma f) then .error (11,t.blk,t.place)
 else mQ f t (upE (oR t) t.mks.length m)
def jW (f:ak):Except Tr BL:=upE (fun i m=>iD f (nth (aF f) i) m) (aF f).length (List.replicate 8192 false)
def xn {α:Type}:Except Tr α->Tr | .ok _=>(0,0,0) | .error t=>t
def noTh:Th:=⟨-1,0,[],[]⟩
def fP (t:Th) (l:List Th) (n:Int):List Th:=if 0<=n/\n<8192 then l.set n.toNat t else l
def pY (l:List Th) (t:Th):List Th:=t.mks.foldl (fP t) l
def xA (ts:List Th):List Th:=ts.foldl pY (List.replicate 8192 noTh)
variable{n:Int}
theorem na{t:Th}{l:List Th}:(fP t l n).length=l.length:=by unfold fP;split<;>simp
theorem Ax{t:Th}{l:List Th}:(pY l t).length=l.length:=oL (f:=fP t) (fun x:List Th=>x.length=l.length) (fun _ _ h=>na.trans h) _ _ rfl
theorem Be{ts:List Th}:(xA ts).length=8192:=oL (f:=pY) (fun x:List Th=>x.length=8192) (fun _ _ h=>Ax.trans h) _ _ (Ls ..)
def iE (f:ak) (made:List Th) (away:List BL) (v blk place:Int):Bool:=
 if 0<=v/\v<f.params then true
 else if(v<0\/8191<v)\/(nth made v.toNat).blk<0 then false
 else if(nth made v.toNat).blk=blk then decide ((nth made v.toNat).place<0)||decide ((nth made v.toNat).place<place)
 else !nth (nth away (nth made v.toNat).blk.toNat) blk.toNat
def pE (f:ak) (t:Th):PhiD:=nth (gY f t).phis (-1-t.place).toNat
def A5 (f:ak) (b:Int):Int:=((nth f.blocks b.toNat).ins.length:Nat)
def qO (f:ak) (t:Th):Bool:=decide (0<t.blk)&&decide ((pE f t).ins.map InD.frm=cY f t.blk)
def stT (f:ak) (made:List Th) (away:List BL) (t:Th) (x:Int):Bool:=!iE f made away x t.blk t.place
def stP (f:ak) (made:List Th) (away:List BL) (p:InD):Bool:=!iE f made away p.val p.frm (A5 f p.frm)
def gw (f:ak) (made:List Th) (away:List BL) (t:Th):Except Tr Unit:=
 if 0<=t.place then(if t.tks.any (stT f made away t) then .error (13,t.blk,t.place) else .ok ())
 else if !qO f t then .error (16,t.blk,t.place)
 else if(pE f t).ins.any (stP f made away) then .error (13,t.blk,t.place)
 else .ok ()
def iM (f:ak):List Th:=xA (aF f)
def gT (f:ak):List BL:=rows (fun b=>eM f b) f.blocks.length
def vy (f:ak):Nat->Nat
 | 0=>f.blocks.length
 | n+1=>vy f n+(nth f.blocks n).phis.length+(nth f.blocks n).ins.length
def wayE (f:ak):Except Tr Unit:=upE (fun b _=>if nth (eM f (-1)) b=true then .ok () else .error (15,b,0)) f.blocks.length ()
def yO (f:ak):Except Tr Unit:=upE (fun i _=>gw f (iM f) (gT f) (nth (aF f) i)) (aF f).length ()
def Jr:Except Tr Unit->Except Tr Unit->Except Tr Unit
 | .ok _,y=>y
 | .error e,_=>.error e
def vG (f:ak):Tr:=
 if f.params<0\/4<f.params then(1,0,0)
 else if f.blocks.length=0 then(14,0,0)
 else if 512<f.blocks.length\/4096<vy f f.blocks.length then(2,0,0)
 else if(xn (jW f)).1≠0 then xn (jW f)
 else xn (Jr (wayE f) (yO f))
theorem pa {σ ε:Type} {f:Nat->σ->Except ε σ} {s:σ} {t:ε} : ∀{n:Nat},upE f n s = .error t->∃k s',k<n/\upE f k s = .ok s'/\f k s' = .error t
 | n+1,h=>by
  simp only[upE]at h;split at h
  ·rename_i s' hs;exact⟨n,s',Nat.lt_succ_self n,hs,h⟩
  rename_i t' ht;cases h;obtain⟨k,s',h1,h2⟩:=pa ht;exact⟨k,s',Nat.lt_succ_of_lt h1,h2⟩
theorem sy{f:ak}{t:Th}{m:BL}{e:Tr}(h:iD f t m = .error e):(10<=e.1/\e.1<=14)/\e.2.1=t.blk/\e.2.2=t.place:=by
 unfold iD at h;split at h
 ·cases h;simp
 split at h
 ·cases h;simp
 split at h
 ·cases h;simp
 unfold mQ at h;split at h
 ·rename_i e' he;cases h;obtain⟨k,s',_,_,h3⟩:=pa he;unfold oR at h3;split at h3
  ·cases h3;simp
  cases h3
 split at h
 ·cases h;simp
 cases h
theorem Cf(hn:0<=n){ts:List Th}(h : ∀t∈ts,t.blk<n){i:Nat}(hi:i<8192):(nth (xA ts) i).blk<n:=by
 have key : ∀(ts:List Th),(∀t∈ts,t.blk<n)->∀l:List Th,(∀x∈l,x.blk<n)->∀x∈ts.foldl pY l,x.blk<n:=by
  intro ts;induction ts with
  | nil=>exact fun _ l hl=>hl
  | cons t ts ih=>
   intro ht l hl;refine ih (fun x hx=>ht x (KJ _ hx)) _ ?_;refine oL (f:=fP t) (fun l:List Th=>∀x∈l,x.blk<n) (fun l a hl x hx=>?_) _ _ hl;unfold fP at hx;split at hx
   ·rcases MZ hx with h | rfl
    ·exact hl x h
    exact ht _ KI
   exact hl x hx
 refine key ts h _ (fun x hx=>?_) _ (cj (by show i<(xA ts).length;rw[Be];exact hi));rw[(List.mem_replicate.1 hx).2];show(-1:Int)<n;omega
theorem jk{σ ε:Type}{f:σ->α->Except ε σ}{a b:List α}{s:σ}:(a++b).foldlM f s=(match a.foldlM f s with | .ok s'=>b.foldlM f s' | .error e=>.error e):=by rw[NJ];cases a.foldlM f s<;>rfl
theorem pO{σ ε:Type}{f:σ->α->Except ε σ}{a:α}{s:σ}:[a].foldlM f s=f s a:=by rw[LJ];cases f s a<;>rfl
theorem mC {σ α ε:Type} {g:Nat->σ->Except ε σ} {f:σ->α->Except ε σ} {x:Nat->α} {s:σ} : ∀{n:Nat},(∀i s,i<n->g i s=f s (x i))->upE g n s=(rows x n).foldlM f s
 | 0,_=>rfl
 | n+1,h=>by
  have ih:=mC (n:=n) (s:=s) fun i s hi=>h i s (by omega);rw[ft,jk,<-ih];simp only[upE];cases upE g n s with
  | ok s'=>show g n s'=[x n].foldlM f s';rw[pO];exact h n s' (by omega)
  | error e=>rfl
theorem nS{σ ε:Type}[Inhabited α]{f:σ->α->Except ε σ}{l:List α}{s:σ}:upE (fun i s=>f s (nth l i)) l.length s=l.foldlM f s:=by rw[mC (f:=f) (x:=nth l) fun _ _ _=>rfl];congr 1;refine LU (by simp) fun i h1 h2=>?_;simp[rows,az h2]
def ku (f:ak) (m:MW) (t:Th):Except Tr MW:=
 if t.place<0 then allS f.params t.mks t.blk t.place m
 else if t.place<(gY f t).ins.length then insS f.params t.blk (gY f t) t.place.toNat m
 else endS f.blocks.length t.blk (gY f t) m
theorem rA{f:ak}{i:Nat}{m:MW}:ku f m (phiT f b i)=phiS f.params b (nth f.blocks b) i m:=by unfold ku;rw[if_pos (show(phiT f b i).place<0 by show -1-(i:Int)<0;omega)];rfl
theorem rE{f:ak}{i:Nat}{m:MW}(hi:i<(nth f.blocks b).ins.length):ku f m (insT f b i)=insS f.params b (nth f.blocks b) i m:=by unfold ku;rw[if_neg (show ¬(insT f b i).place<0 by show ¬(i:Int)<0;omega),if_pos (show(insT f b i).place<((gY f (insT f b i)).ins.length:Int) by show(i:Int)<((nth f.blocks b).ins.length:Int);omega)];rfl
theorem rR{f:ak}{m:MW}:ku f m (endT f b)=endS f.blocks.length b (nth f.blocks b) m:=by unfold ku;rw[if_neg (show ¬(endT f b).place<0 by show ¬((nth f.blocks b).ins.length:Int)<0;omega),if_neg (show ¬(endT f b).place<((gY f (endT f b)).ins.length:Int) by show ¬((nth f.blocks b).ins.length:Int)<((nth f.blocks b).ins.length:Int);omega)];rfl
theorem EK{f:ak}{m:MW}:blkS f b m=(thB f b).foldlM (ku f) m:=by
 unfold blkS thB;rw[mC (f:=ku f) (x:=phiT f b) (n:=(nth f.blocks b).phis.length) fun i s hi=>rA.symm];rw[jk,jk];cases (rows (phiT f b) (nth f.blocks b).phis.length).foldlM (ku f) m with
 | error e=>rfl
 | ok m1=>
  simp only;rw[mC (f:=ku f) (x:=insT f b) (n:=(nth f.blocks b).ins.length) fun i s hi=>(rE hi).symm];cases (rows (insT f b) (nth f.blocks b).ins.length).foldlM (ku f) m1 with
  | error e=>rfl
  | ok m2=>simp only;rw[pO];exact rR.symm
theorem uS{f:ak}{m:MW}:lf f m=(aF f).foldlM (ku f) m:=by
 have key : ∀n,upE (blkS f) n m=(thTo f n).foldlM (ku f) m:=by
  intro n;induction n with
  | zero=>rfl
  | succ n ih=>
   rw[gJ,jk,<-ih];simp only[upE];cases upE (blkS f) n m with
   | error e=>rfl
   | ok s=>exact EK
 exact key _
theorem px{f:ak}:jW f=(aF f).foldlM (fun m t=>iD f t m) (List.replicate 8192 false):=nS (f:=fun(m:BL) (t:Th)=>iD f t m)
def sI (m:MW) (l:BL):Prop:=l.length=8192/\∀n:Int,0<=n->n<8192->(m n).isSome=nth l n.toNat
def Alike {α β:Type} (R:α->β->Prop):Except Tr α->Except Tr β->Prop
 | .ok a,.ok b=>R a b
 | .error e,.error e'=>e=e'
 | _,_=>False
theorem pT {α β γ:Type} {R:α->β->Prop} {F:α->γ->Except Tr α} {G:β->γ->Except Tr β} : ∀{l:List γ},(∀t∈l,∀a b,R a b->Alike R (F a t) (G b t))->∀{a:α} {b:β},R a b->Alike R (l.foldlM F a) (l.foldlM G b)
 | [],_,a,b,h=>h
 | t::l,hs,a,b,h=>by
  rw[LJ,LJ];have:=hs t KI a b h;cases e1:F a t with
  | error e=>
   cases e2:G b t with
   | error e'=>rw[e1,e2]at this;exact this
   | ok b'=>rw[e1,e2]at this;exact this.elim
  | ok a'=>
   cases e2:G b t with
   | error e'=>rw[e1,e2]at this;exact this.elim
   | ok b'=>rw[e1,e2]at this;exact pT (fun t ht=>hs t (KJ _ ht)) this
theorem Da{f:ak}:cg n f.params 8191=!ma f n:=by rw[K0];simp[cg,ma]
theorem Bj{p:α->Bool}{l:List α}:l.all (fun n=>!p n)=!l.any p:=by
 induction l with
 | nil=>rfl
 | cons a l ih=>simp[ih]
def lM (t:Th) (m:BL) (n:Int):Except Tr BL:=if nth m n.toNat then .error (12,t.blk,t.place) else .ok (m.set n.toNat true)
theorem Dc{f:ak}{t:Th}{m:MW}{l:BL}(h:sI m l)(hp:0<=f.params)(hn : ∀n∈t.mks,ma f n=false):Alike sI (t.mks.foldlM (pn t.blk t.place) m) (upE (oR t) t.mks.length l):=by
 have e:upE (oR t) t.mks.length l=t.mks.foldlM (lM t) l:=nS (f:=lM t);rw[e];refine pT (fun n hnm m l h=>?_) h;have hb:=hn n hnm;simp only[ma,LI,decide_eq_false_iff_not]at hb;have hs:=h.2 n (by omega) (by omega);unfold pn lM;rw[hs];cases hc:nth l n.toNat with
 | true=>exact rfl
 | false=>
  refine⟨by simpa using h.1,fun k h0 h1=>?_⟩;rw[bn (by rw[h.1];omega)];simp only[putM];by_cases hk:k=n
  ·subst hk;simp
  rw[if_neg hk,if_neg (by omega)];exact h.2 k h0 h1
theorem wV{f:ak}{t:Th}{m:MW}{l:BL}(h:sI m l)(hp:0<=f.params):
  Alike sI (allS f.params t.mks t.blk t.place m) (if t.mks.any (ma f) then .error (11,t.blk,t.place) else upE (oR t) t.mks.length l):=by
 unfold allS;have e:(t.mks.all fun n=>cg n f.params 8191)=!t.mks.any (ma f):=by rw[<-Bj];congr 1;funext n;exact Da
 rw[e];cases hb:t.mks.any (ma f)with
 | true=>exact rfl
 | false=>refine Dc h hp fun n hn=>?_;rw[MO];intro e2;rw[MO]at hb;exact hb (Nu.2 ⟨n,hn,e2⟩)
theorem GV{x:InsD}:(cg x.op 1 18&&cg x.args.length (gp x.op).1 (gp x.op).2)=!tV x:=by
 rw[K0];simp only[tV,cg,gp,xy,KE,L7,LI,decide_eq_true_eq,decide_eq_false_iff_not,Bool.not_eq_false'];by_cases h1:x.op=1
 ·simp[h1]
 by_cases h2:x.op=15
 ·simp[h2];omega
 by_cases h3:x.op=17
 ·simp[h3]
 simp only[h1,h2,h3,if_false,decide_eq_true_eq];omega
theorem G0{f:ak}:cg n 1 ((f.blocks.length:Int)-1)=!tQ f n:=by rw[K0];simp[cg,tQ];omega
theorem Ci{t:dm}:nU t=vz t:=by
 unfold nU vz gh;by_cases h1:t.kind=1
 ·rw[K0];simp[putM,h1,cg];omega
 by_cases h2:t.kind=2
 ·rw[K0];simp[putM,h2,cg];omega
 by_cases h3:t.kind=3
 ·rw[K0];simp[putM,h3,cg];omega
 by_cases h4:t.kind=4
 ·rw[K0];simp[putM,h4,cg]
 by_cases h5:t.kind=5
 ·rw[K0];simp[putM,h5,cg]
 simp[putM,h1,h2,h3,h4,h5]
theorem sB{f:ak}{t:Th}{x:Except Tr BL}(h:mg f t=false):mQ f t x=x:=by
 unfold mQ;cases x with
 | error e=>rfl
 | ok m=>simp only[h,N5];rfl
theorem Dh{f:ak}{t:Th}(ht:t∈aF f)(hp:0<=f.params){m:MW}{l:BL}(h:sI m l):Alike sI (ku f m t) (iD f t l):=by
 obtain⟨b,hb,ht⟩:=iT.1 ht;rcases km.1 ht with⟨i,hi,rfl⟩ | ⟨i,hi,rfl⟩ | rfl
 ·have e1:qN f (phiT f b i)=false:=by simp[qN,phiT];omega
  have e2:mg f (phiT f b i)=false:=by show decide (-1-(i:Int)=((nth f.blocks b).ins.length:Int))=false;rw[decide_eq_false_iff_not];omega
  rw[rA,iD,e1,e2,sB e2];exact wV (t:=phiT f b i) h hp
 ·have e1:qN f (insT f b i)=true:=by simp[qN,insT,gY];omega
  have e2:mg f (insT f b i)=false:=by show decide ((i:Int)=((nth f.blocks b).ins.length:Int))=false;rw[decide_eq_false_iff_not];omega
  have e3:zQ f (insT f b i)=nth (nth f.blocks b).ins i:=by simp[zQ,gY,insT]
  rw[rE hi,iD,e1,e2,sB e2,e3,insS,GV];cases hb:tV (nth (nth f.blocks b).ins i)with
  | true=>exact rfl
  | false=>exact wV (t:=insT f b i) h hp
 have e1:qN f (endT f b)=false:=by simp[qN,endT,gY]
 have e2:mg f (endT f b)=true:=by simp[mg,endT,gY]
 have e3:gY f (endT f b)=nth f.blocks b:=by simp[gY,endT]
 rw[rR,iD,e1,e2,e3,endS,Ci];cases hb:vz (nth f.blocks b).term with
 | false=>exact rfl
 | true=>
  have e4:((nth f.blocks b).term.to.all fun t=>cg t 1 ((f.blocks.length:Int)-1))=!(nth f.blocks b).term.to.any (tQ f):=by rw[<-Bj];congr 1;funext n;exact G0
  rw[e4];show Alike sI _ (mQ f (endT f b) (.ok l));unfold mQ;rw[e2,e3];cases (nth f.blocks b).term.to.any (tQ f)with
  | true=>exact rfl
  | false=>exact h
theorem AS{f:ak}(hp:0<=f.params):Alike sI (lf f (fun _=>none)) (jW f):=by rw[uS,px];refine pT (fun t ht m l h=>Dh ht hp h) ⟨Ls ..,fun n h0 h1=>?_⟩;rw[az (by rw[Ls];omega),NZ];rfl
def As (t:Th):Option (Int × Int):=if t.blk<0 then none else some (t.blk,t.place)
structure Site (m:MW) (s:List Th):Prop where
 len:s.length=8192
 inn : ∀n:Int,0<=n->n<8192->m n=As (nth s n.toNat)
 out : ∀n:Int,¬(0<=n/\n<8192)->m n=none
theorem zj {t:Th} (hb:0<=t.blk) : ∀{l:List Int} {m:MW} {s:List Th},Site m s->(∀n∈l,0<=n/\n<8192)->Site (l.foldl (fun m n=>putM m n (t.blk,t.place)) m) (l.foldl (fP t) s)
 | [],m,s,h,_=>h
 | n::l,m,s,h,hl=>by
  rw[K1,K1];have hn:=hl n KI;refine zj hb ⟨na.trans h.len,fun k h0 h1=>?_,fun k hk=>?_⟩ fun k hk=>hl k (KJ _ hk)
  ·unfold fP putM;rw[if_pos hn,bn (by rw[h.len];omega)];by_cases e:k=n
   ·subst e;rw[if_pos rfl,if_pos rfl];unfold As;rw[if_neg (by omega)]
   rw[if_neg e,if_neg (by omega)];exact h.inn k h0 h1
  unfold putM;rw[if_neg (by rintro rfl;exact hk hn)];exact h.out k hk
theorem zp {b p:Int} : ∀{l:List Int} {m m':MW},l.foldlM (pn b p) m = .ok m'->m'=l.foldl (fun m n=>putM m n (b,p)) m
 | [],m,m',h=>by cases h;rfl
 | n::l,m,m',h=>by
  rw[LJ]at h;cases e:pn b p m n with
  | error t=>rw[e]at h;cases h
  | ok m1=>
   rw[e]at h;unfold pn at e;split at e
   ·cases e
   cases e;exact zp (l:=l) (m:=putM m n (b,p)) h
theorem yL{ps b p:Int}{l:List Int}{m m':MW}(h:allS ps l b p m = .ok m'):m'=l.foldl (fun m n=>putM m n (b,p)) m/\∀n∈l,ps<=n/\n<=8191:=by
 unfold allS at h;split at h
 ·rename_i ha;refine⟨zp h,fun n hn=>?_⟩;have:=Lo.1 ha n hn;simpa[cg]using this
 cases h
theorem E7{f:ak}{t:Th}(ht:t∈aF f){m m':MW}(h:ku f m t = .ok m'):(m'=t.mks.foldl (fun m n=>putM m n (t.blk,t.place)) m/\∀n∈t.mks,f.params<=n/\n<=8191)/\0<=t.blk:=by
 obtain⟨b,hb,ht⟩:=iT.1 ht;rcases km.1 ht with⟨i,hi,rfl⟩ | ⟨i,hi,rfl⟩ | rfl
 ·rw[rA]at h;exact⟨yL h,by show 0<=(b:Int);omega⟩
 ·rw[rE hi]at h;unfold insS at h;split at h
  ·exact⟨yL h,by show 0<=(b:Int);omega⟩
  cases h
 rw[rR]at h;unfold endS at h;split at h
 ·split at h
  ·cases h;exact⟨⟨rfl,fun n hn=>by cases hn⟩,by show 0<=(b:Int);omega⟩
  cases h
 cases h
theorem vW {f:ak} (hp:0<=f.params) : ∀{l:List Th},(∀t∈l,t∈aF f)->∀{m m':MW} {s:List Th},Site m s->l.foldlM (ku f) m = .ok m'->Site m' (l.foldl pY s)
 | [],_,m,m',s,h,e=>by cases e;exact h
 | t::l,hl,m,m',s,h,e=>by
  rw[LJ]at e;cases e1:ku f m t with
  | error x=>rw[e1]at e;cases e
  | ok m1=>rw[e1]at e;obtain⟨⟨q1,q2⟩,q3⟩:=E7 (hl t KI) e1;rw[K1];refine vW hp (fun t ht=>hl t (KJ _ ht)) (m:=m1) ?_ e;rw[q1];exact zj q3 h fun n hn=>by have:=q2 n hn;omega
theorem CD{f:ak}(hp:0<=f.params){m:MW}(h:lf f (fun _=>none) = .ok m):Site m (iM f):=by rw[uS]at h;refine vW hp (fun t ht=>ht) ⟨Ls ..,fun n h0 h1=>?_,fun n _=>rfl⟩ h;rw[az (by rw[Ls];omega),NZ];rfl
theorem tY{f:ak}{m:MW}{made:List Th}{away:List BL}{idom:List Int}{v blk place at_ told:Int}(hp:f.params<=8192)(hs:Site m made)(hd : ∀a:Int,0<=a->a<f.blocks.length->eB idom a blk=!nth (nth away a.toNat) blk.toNat)(hm : ∀i,i<8192->(nth made i).blk<f.blocks.length):useS f.params m idom v blk place at_ told=if(!iE f made away v blk at_) then .error (13,told,place) else .ok ():=by
 unfold useS;by_cases c1:0<=v/\v<f.params
 ·have e:iE f made away v blk at_=true:=by unfold iE;rw[if_pos c1]
  rw[if_pos c1,e];rfl
 rw[if_neg c1];by_cases c2:v<0\/8191<v
 ·have e:iE f made away v blk at_=false:=by unfold iE;rw[if_neg c1,if_pos (.inl c2)]
  rw[hs.out v (by omega),e];rfl
 have e:iE f made away v blk at_=if(nth made v.toNat).blk<0 then false else if(nth made v.toNat).blk=blk then decide ((nth made v.toNat).place<0)||decide ((nth made v.toNat).place<at_) else !nth (nth away (nth made v.toNat).blk.toNat) blk.toNat:=by
  unfold iE;rw[if_neg c1];by_cases c3:(nth made v.toNat).blk<0
  ·rw[if_pos (.inr c3),if_pos c3]
  rw[if_neg (by rintro(q | q)<;>contradiction),if_neg c3]
 rw[hs.inn v (by omega) (by omega),e];have hmb:=hm v.toNat (by omega);generalize nth made v.toNat=t at hmb;unfold As;by_cases c3:t.blk<0
 ·rw[if_pos c3,if_pos c3];rfl
 rw[if_neg c3,if_neg c3];have e2:kS (t.blk,t.place) idom blk at_=if t.blk=blk then decide (t.place<0)||decide (t.place<at_) else !nth (nth away t.blk.toNat) blk.toNat:=by
  unfold kS;by_cases c4:t.blk=blk
  ·simp only[c4,decide_true,MB,Bool.not_true,N5,Bool.or_false,if_true];rw[Bool.or_comm]
  simp only[c4,decide_false,N5,Bool.not_false,MB,N6,if_false];exact hd t.blk (by omega) hmb
 simp only[e2];generalize (if t.blk=blk then decide (t.place<0)||decide (t.place<at_) else !nth (nth away t.blk.toNat) blk.toNat)=B;cases B<;>rfl
theorem uZ[Inhabited α]{l:List α}{p:α->Bool}{e:Tr}{g:Nat->Except Tr Unit}(h : ∀j,j<l.length->g j=if p (nth l j) then .error e else .ok ()):uAll g l.length=if l.any p then .error e else .ok ():=by
 have h1:uAll g l.length=l.foldlM (fun(_:Unit) x=>if p x then Except.error e else .ok ()) ():=by
  unfold uAll;rw[<-nS (f:=fun(_:Unit) x=>if p x then Except.error e else .ok ())];have key : ∀n,n<=l.length->upE (fun i (_:Unit)=>g i) n ()=upE (fun i (_:Unit)=>if p (nth l i) then Except.error e else .ok ()) n ():=by
   intro n;induction n with
   | zero=>exact fun _=>rfl
   | succ n ih=>intro hn;simp only[upE];rw[ih (by omega),h n (by omega)]
  exact key _ (Kz _)
 rw[h1];clear h1 h;induction l with
 | nil=>rfl
 | cons a l ih=>
  rw[LJ,List.any_cons];cases hp:p a with
  | true=>rfl
  | false=>rw[N6];exact ih
theorem AL{β:Type}{p q:Nat->Bool}{x:Nat->β}{n:Nat}(h : ∀a,a<n->p a=q a):sift p x n=sift q x n:=by rw[oH,oH];congr 1;exact NV fun a ha=>h a (LQ.1 ha)
theorem Ao{f:ak}(hb:b<f.blocks.length):nth (dE (ofG f.blocks)) b=cY f b:=by rw[yQ,rO,mR,gm hb,cY];refine AL fun a ha=>?_;rw[K0,qt,decide_eq_true_eq,KT];exact⟨fun h=>h.2,fun h=>⟨by omega,h⟩⟩
theorem Ds{f:ak}{i:Nat}(hb:b<f.blocks.length):yN (nth (nth f.blocks b).phis i) (nth (dE (ofG f.blocks)) b) b=qO f (phiT f b i):=by
 have e1:pE f (phiT f b i)=nth (nth f.blocks b).phis i:=by unfold pE gY phiT;simp only[KT];rw[show(-1-(-1-(i:Int))).toNat=i by omega]
 have e2:(phiT f b i).blk=(b:Int):=rfl;unfold yN kr qO;rw[e1,e2,Ao hb];generalize nth (nth f.blocks b).phis i=x;generalize cY f b=row;rw[K0];simp only[KE,decide_eq_true_eq,Bw,xd];constructor
 ·rintro⟨⟨h1,h2⟩,h3⟩;refine⟨by omega,LU (by simp;omega) fun j hj hj2=>?_⟩;have:=h3 j (by simpa using hj);rw[az hj2,az (by simpa using hj)]at this;simpa using this
 rintro⟨h1,h2⟩;have hl:x.ins.length=row.length:=by rw[<-h2,LR]
 refine⟨⟨by omega,by omega⟩,fun j hj=>?_⟩;rw[<-h2,az (l:=List.map InD.frm x.ins) (by rw[LR];exact hj),az hj];simp
theorem uP{f:ak}: ∀i,i<8192->(nth (iM f) i).blk<f.blocks.length:=fun i hi=>Cf (by omega) (fun t ht=>by
 obtain⟨b,hb,ht⟩:=iT.1 ht;rcases km.1 ht with⟨i,hi,rfl⟩ | ⟨i,hi,rfl⟩ | rfl
 ·show(b:Int)<_;omega
 ·show(b:Int)<_;omega
 show(b:Int)<_;omega) hi
section
variable {f:ak} {m:MW} {idom:List Int} (hp0:f.params<=8192) (hs:Site m (iM f)) (hd : ∀a b:Int,0<=a->a<f.blocks.length->0<=b->b<f.blocks.length->eB idom a b=!nth (nth (gT f) a.toNat) b.toNat)
include hp0 hs hd
theorem GF{i:Nat}(hb:b<f.blocks.length)(hi:i<(nth f.blocks b).phis.length):phiU f m idom (dE (ofG f.blocks)) b i=gw f (iM f) (gT f) (phiT f b i):=by
 have hf:=Ds (f:=f) (i:=i) hb;have e1:pE f (phiT f b i)=nth (nth f.blocks b).phis i:=by unfold pE gY phiT;simp only[KT];rw[show(-1-(-1-(i:Int))).toNat=i by omega]
 have e3:gw f (iM f) (gT f) (phiT f b i)=if !qO f (phiT f b i) then .error (16,b,-1-i) else if(nth (nth f.blocks b).phis i).ins.any (stP f (iM f) (gT f)) then .error (13,b,-1-i) else .ok ():=by unfold gw;rw[if_neg (show ¬0<=(phiT f b i).place by show ¬0<=-1-(i:Int);omega),e1];rfl
 rw[e3];unfold phiU;simp only[hf];cases hss:qO f (phiT f b i)with
 | false=>rfl
 | true=>
  rw[if_pos rfl,if_neg (by simp)];refine uZ fun j hj=>?_;have hfr:0<=(nth (nth (nth f.blocks b).phis i).ins j).frm/\(nth (nth (nth f.blocks b).phis i).ins j).frm<f.blocks.length:=by unfold qO at hss;rw[e1]at hss;simp only[KE,decide_eq_true_eq]at hss;have hm:=M3 (f:=InD.frm) (cj hj);rw[hss.2]at hm;obtain⟨a,h1,_,h2⟩:=og.1 hm;omega
  rw[tY hp0 hs (fun a h0 h1=>hd a _ h0 h1 hfr.1 hfr.2) uP];rfl
theorem GZ{i:Nat}(hb:b<f.blocks.length)(hi:i<(nth f.blocks b).ins.length):insU f m idom b i=gw f (iM f) (gT f) (insT f b i):=by
 have e3:gw f (iM f) (gT f) (insT f b i)=if(nth (nth f.blocks b).ins i).args.any (stT f (iM f) (gT f) (insT f b i)) then .error (13,b,i) else .ok ():=by unfold gw;rw[if_pos (show 0<=(insT f b i).place by show 0<=(i:Int);omega)];rfl
 rw[e3];unfold insU;refine uZ fun j hj=>?_;rw[tY hp0 hs (fun a h0 h1=>hd a _ h0 h1 (by omega) (by omega)) uP];rfl
theorem F5(hb:b<f.blocks.length):endU f m idom b=gw f (iM f) (gT f) (endT f b):=by
 have e3:gw f (iM f) (gT f) (endT f b)=if(nth f.blocks b).term.args.any (stT f (iM f) (gT f) (endT f b)) then .error (13,b,(nth f.blocks b).ins.length) else .ok ():=by unfold gw;rw[if_pos (show 0<=(endT f b).place by show 0<=((nth f.blocks b).ins.length:Int);omega)];rfl
 rw[e3];unfold endU;refine uZ fun j hj=>?_;rw[tY hp0 hs (fun a h0 h1=>hd a _ h0 h1 (by omega) (by omega)) uP];rfl
def stF (f:ak) (_:Unit) (t:Th):Except Tr Unit:=gw f (iM f) (gT f) t
theorem Gk(hb:b<f.blocks.length):blkU f m idom (dE (ofG f.blocks)) b=(thB f b).foldlM (stF f) ():=by
 unfold blkU thB uAll;rw[mC (f:=stF f) (x:=phiT f b) (n:=(nth f.blocks b).phis.length) fun i s hi=>GF hp0 hs hd hb hi];rw[mC (f:=stF f) (x:=insT f b) (n:=(nth f.blocks b).ins.length) fun i s hi=>GZ hp0 hs hd hb hi];rw[jk,jk,F5 hp0 hs hd hb];cases (rows (phiT f b) (nth f.blocks b).phis.length).foldlM (stF f) ()with
 | error e=>rfl
 | ok m1=>
  obtain⟨⟩:=m1;cases hI:(rows (insT f b) (nth f.blocks b).ins.length).foldlM (stF f) ()with
  | error e=>simp only[andE,hI]
  | ok m2=>simp only[andE,hI];rw[pO];rfl
theorem Cq:uAll (blkU f m idom (dE (ofG f.blocks))) f.blocks.length=yO f:=by
 have key : ∀n,n<=f.blocks.length->uAll (blkU f m idom (dE (ofG f.blocks))) n=(thTo f n).foldlM (stF f) ():=by
  intro n;induction n with
  | zero=>exact fun _=>rfl
  | succ n ih=>
   intro hn;rw[gJ,jk,<-ih (by omega)];have e:uAll (blkU f m idom (dE (ofG f.blocks))) (n+1)=match uAll (blkU f m idom (dE (ofG f.blocks))) n with | .ok _=>blkU f m idom (dE (ofG f.blocks)) n | .error e=>.error e:=by show upE _ (n+1) ()=_;simp only[upE];unfold uAll;cases upE (fun i (_:Unit)=>blkU f m idom (dE (ofG f.blocks)) i) n ()<;>rfl
   rw[e];cases uAll (blkU f m idom (dE (ofG f.blocks))) n with
   | error e=>rfl
   | ok s=>exact Gk hp0 hs hd (by omega)
 rw[key _ (Kz _)];exact(nS (f:=stF f)).symm
end
theorem wZ {f:ak} : ∀k,manyN f k=(vy f k:Int)
 | 0=>rfl
 | k+1=>by have ih:=wZ (f:=f) k;unfold manyN at ih ⊢;rw[up,ih,vy];omega
theorem wX {σ ε:Type} {f g:Nat->σ->Except ε σ} {s:σ} : ∀{n:Nat},(∀i s,i<n->f i s=g i s)->upE f n s=upE g n s
 | 0,_=>rfl
 | n+1,h=>by
  simp only[upE];rw[wX (n:=n) fun i s hi=>h i s (by omega)];cases upE g n s with
  | ok s'=>exact h n s' (by omega)
  | error e=>rfl
theorem tf {f:Nat->Unit->Except Tr Unit} : ∀{n:Nat},upE f n () = .ok ()->∀i,i<n->f i () = .ok ()
 | n+1,h,i,hi=>by
  simp only[upE]at h;cases e:upE f n ()with
  | error t=>rw[e]at h;cases h
  | ok s=>
   rw[e]at h;rcases KB i n with hlt | hge
   ·exact tf e i hlt
   have:i=n:=by omega
   subst this;exact h
theorem Dw{f:ak}(hn:0<f.blocks.length):uAll (sk f) f.blocks.length=wayE f:=by
 unfold uAll wayE;refine wX fun b s hb=>?_;unfold sk;have e:decide ((b:Int)∈bf (ofG f.blocks))=nth (eM f (-1)) b:=by rw[K0,decide_eq_true_eq,(jG (by rw[mR];exact hn)).mem,jH hb]
 rw[e]
theorem E8{f:ak}(hn:0<f.blocks.length)(hw:wayE f = .ok ())(a b:Int)(h0:0<=a)(h1:a<f.blocks.length)(h2:0<=b)(h3:b<f.blocks.length):
  eB (py (ofG f.blocks)) a b=!nth (nth (gT f) a.toNat) b.toNat:=by
 have hR : ∀x:Nat,x<f.blocks.length->Re (ofG f.blocks) (-1) x:=fun x hx=>by
  have:=tf hw x hx;rw[<-jH hx];split at this
  ·assumption
  cases this
 have hg:0<(ofG f.blocks).length:=by rw[mR];exact hn
 obtain⟨fp,C,l,hl,I⟩:=wA hg;have hi:py (ofG f.blocks)=l:=by unfold py;rw[hl];rfl
 rw[hi];have e:=qM I C (a:=a.toNat) (b:=b.toNat) (by rw[mR];omega) (hR _ (by omega));rw[KR h0,KR h2]at e;rw[e,K0,nO];have ha:nth (gT f) a.toNat=eM f a:=by unfold gT;rw[gm (by omega),KR h0]
 rw[ha];have hr:=jH (f:=f) (wo:=a) (b:=b.toNat) (by omega);have haa:((a.toNat:Nat):Int)=a:=KR h0;rw[haa];cases hc:nth (eM f a) b.toNat with
 | true=>rw[hc]at hr;simp[hr.1 rfl]
 | false=>
  rw[hc]at hr;have hnr:¬Re (ofG f.blocks) a b.toNat:=fun h=>by have:=hr.2 h;cases this
  simp[hnr,hR _ (show a.toNat<f.blocks.length by omega),hR _ (show b.toNat<f.blocks.length by omega)]
theorem Dr(f:ak):kq f=vG f:=by
 unfold kq lD vG;by_cases c1:f.params<0\/4<f.params
 ·have:cg f.params 0 4=false:=by rw[MO];simp[cg];omega
  rw[if_pos this,if_pos c1]
 have hw4:¬cg f.params 0 4=false:=by simp[cg];omega
 rw[if_neg hw4,if_neg c1];by_cases c2:f.blocks.length=0
 ·rw[if_pos c2,if_pos c2]
 rw[if_neg c2,if_neg c2];have hm:Bp f=(vy f f.blocks.length:Int):=wZ _;by_cases c3:512<f.blocks.length\/4096<vy f f.blocks.length
 ·rw[if_pos (by rw[hm];omega),if_pos c3]
 rw[if_neg (by rw[hm];omega),if_neg c3];have hp:0<=f.params:=by omega
 have hsh:=AS hp;cases hS:lf f (fun _=>none)with
 | error e=>
  cases hR:jW f with
  | ok l=>rw[hS,hR]at hsh;exact hsh.elim
  | error e'=>rw[hS,hR]at hsh;have hee:e=e':=hsh;subst hee;obtain⟨k,s',h1,_,h3⟩:=pa hR;have:=(sy h3).1;rw[if_pos (by show e.1≠0;omega)];rfl
 | ok m=>
  cases hR:jW f with
  | error e'=>rw[hS,hR]at hsh;exact hsh.elim
  | ok l=>
   rw[if_neg (by simp[xn])];have hs:=CD hp hS;show(match qy f m (py (ofG f.blocks))with | .ok _=>((0,0,0):Tr) | .error t=>t)=_;unfold qy;rw[Dw (by omega)];cases hW:wayE f with
   | error e=>rfl
   | ok s=>obtain⟨⟩:=s;have:=Cq (f:=f) (m:=m) (idom:=py (ofG f.blocks)) (by omega) hs fun a b h0 h1 h2 h3=>E8 (by omega) hW a b h0 h1 h2 h3;show(match uAll (blkU f m (py (ofG f.blocks)) (dE (ofG f.blocks))) f.blocks.length with | .ok _=>((0,0,0):Tr) | .error t=>t)=xn (yO f);rw[this];cases yO f<;>rfl
def Marks (m:BL) (S:Int->Prop):Prop:=m.length=8192/\∀n:Int,0<=n->n<8192->(nth m n.toNat=true↔S n)
theorem An:Marks (List.replicate 8192 false) (fun _=>False):=⟨Ls,fun n h0 h1=>by rw[aB (by omega)];simp⟩
theorem CP{m:BL}{S:Int->Prop}(h:Marks m S)(h0:0<=n)(h1:n<8192):Marks (m.set n.toNat true) (fun k=>S k\/k=n):=by
 refine⟨by simpa using h.1,fun k k0 k1=>?_⟩;rw[bn (by rw[h.1];omega)];split
 ·rename_i e;exact⟨fun _=>.inr (by omega),fun _=>rfl⟩
 rename_i e;rw[h.2 k k0 k1];exact⟨.inl,fun o=>o.resolve_right (by rintro rfl;exact e rfl)⟩
theorem Marks.congr{m:BL}{S T:Int->Prop}(h:Marks m S)(he : ∀n,S n↔T n):Marks m T:=⟨h.1,fun n a b=>(h.2 n a b).trans (he n)⟩
theorem uE {t:Th} : ∀{l:List Int} {m m':BL} {S:Int->Prop},Marks m S->(∀n∈l,0<=n/\n<8192)->l.foldlM (lM t) m = .ok m'->Marks m' (fun k=>S k\/k∈l)/\l.Nodup/\∀n∈l,¬S n
 | [],m,m',S,h,_,e=>by cases e;exact⟨h.congr fun n=>by simp,N2,fun n hn=>by cases hn⟩
 | a::l,m,m',S,h,hl,e=>by
  rw[LJ]at e;have ha:=hl a KI;unfold lM at e;by_cases hc:nth m a.toNat=true
  ·rw[if_pos hc]at e;cases e
  rw[if_neg hc]at e;obtain⟨g1,g2,g3⟩:=uE (CP h ha.1 ha.2) (fun n hn=>hl n (KJ _ hn)) e;refine⟨g1.congr fun n=>by rw[KP,or_assoc],Ny.2 ⟨fun hm=>g3 a hm (.inr rfl),g2⟩,fun n hn=>?_⟩;rcases KP.1 hn with rfl | hn
  ·exact fun hs=>hc ((h.2 n ha.1 ha.2).2 hs)
  exact fun hs=>g3 n hn (.inl hs)
structure xG (f:ak) (t:Th):Prop where
 op:qN f t=true->tV (zQ f t)=false
 term:mg f t=true->vz (gY f t).term=true
 mks : ∀n∈t.mks,f.params<=n/\n<=8191
 to:mg f t=true->∀n∈(gY f t).term.to,1<=n/\n<f.blocks.length
theorem EL{t:Th}{m:BL}:upE (oR t) t.mks.length m=t.mks.foldlM (lM t) m:=nS (f:=lM t)
theorem any_false{p:α->Bool}{l:List α}:l.any p=false↔∀n∈l,p n=false:=by rw[List.any_eq_false];exact forall_congr' fun n=>forall_congr' fun _=>by simp
theorem Ft{f:ak}:ma f n=false↔f.params<=n/\n<=8191:=by simp[ma]
theorem Gh{f:ak}:tQ f n=false↔1<=n/\n<f.blocks.length:=by simp[tQ]
theorem A1{f:ak}{t:Th}{m m':BL}(h:iD f t m = .ok m'):xG f t/\t.mks.foldlM (lM t) m = .ok m':=by
 unfold iD at h;split at h
 ·cases h
 rename_i c1;split at h
 ·cases h
 rename_i c2;split at h
 ·cases h
 rename_i c3;rw[EL]at h;unfold mQ at h;split at h
 ·cases h
 rename_i m1 e;split at h
 ·cases h
 rename_i c4;cases h;refine⟨⟨fun g=>?_,fun g=>?_,fun n hn=>?_,fun g n hn=>?_⟩,e⟩
 ·simpa[g]using c1
 ·simpa[g]using c2
 ·exact Ft.1 (any_false.1 (by simpa only[Bool.not_eq_true]using c3) n hn)
 refine Gh.1 (any_false.1 (by simpa only[g,MB,Bool.not_eq_true]using c4) n hn)
def D9 (l:List Th):List Int:=l.flatMap Th.mks
theorem sS {f:ak} (hp:0<=f.params) : ∀{l:List Th} {m m':BL} {S:Int->Prop},Marks m S->l.foldlM (fun m t=>iD f t m) m = .ok m'->(∀t∈l,xG f t)/\(D9 l).Nodup/\∀n∈D9 l,¬S n
 | [],m,m',S,h,e=>⟨fun t ht=>(by cases ht),N2,fun n hn=>(by cases hn)⟩
 | t::l,m,m',S,h,e=>by
  rw[LJ]at e;cases e1:iD f t m with
  | error x=>rw[e1]at e;cases e
  | ok m1=>
   rw[e1]at e;obtain⟨g,e2⟩:=A1 e1;obtain⟨k1,k2,k3⟩:=uE h (fun n hn=>by have:=g.mks n hn;omega) e2;obtain⟨i1,i2,i3⟩:=sS hp k1 e;refine⟨fun x hx=>?_,?_,fun n hn=>?_⟩
   ·rcases KP.1 hx with rfl | hx
    ·exact g
    exact i1 x hx
   ·refine L5.2 ⟨k2,i2,fun a ha b hb=>?_⟩;rintro rfl;exact i3 a hb (.inr ha)
   rcases KD.1 hn with hn | hn
   ·exact k3 n hn
   exact fun hs=>i3 n hn (.inl hs)
def xJ (f:ak) (v b p:Int):Prop:=(0<=v/\v<f.params)\/∃t∈aF f,v∈t.mks/\(t.blk=b/\(t.place<0\/t.place<p)\/t.blk≠b/\¬Re (ofG f.blocks) t.blk b.toNat)
structure Dz (ts:List Th) (s:List Th):Prop where
 len:s.length=8192
 is : ∀n:Int,0<=n->n<8192->(nth s n.toNat=noTh/\∀t∈ts,n∉t.mks)\/(nth s n.toNat∈ts/\n∈(nth s n.toNat).mks)
theorem y4 {t:Th} {ts:List Th} : ∀{l:List Int} {s:List Th} {d:List Int},(∀n∈l,n∈t.mks)->(s.length=8192/\∀n:Int,0<=n->n<8192->(nth s n.toNat=noTh/\(∀t∈ts,n∉t.mks)/\n∉d)\/(nth s n.toNat∈ts++[t]/\n∈(nth s n.toNat).mks))->
  ((l.foldl (fP t) s).length=8192/\∀n:Int,0<=n->n<8192->(nth (l.foldl (fP t) s) n.toNat=noTh/\(∀t∈ts,n∉t.mks)/\n∉d++l)\/(nth (l.foldl (fP t) s) n.toNat∈ts++[t]/\n∈(nth (l.foldl (fP t) s) n.toNat).mks))
 | [],s,d,_,h=>by simpa using h
 | a::l,s,d,hl,h=>by
  rw[K1];have:=y4 (t:=t) (ts:=ts) (l:=l) (s:=fP t s a) (d:=d++[a]) (fun n hn=>hl n (KJ _ hn)) ⟨by rw[na];exact h.1,fun n h0 h1=>?_⟩
  ·simpa using this
  unfold fP;split
  ·rw[bn (by rw[h.1];omega)];split
   ·rename_i hc e;have:n=a:=by omega
    subst this;exact .inr ⟨LA _ (KF.2 rfl),hl n KI⟩
   rename_i hc e;rcases h.2 n h0 h1 with⟨a1,a2,a3⟩ | a1
   ·refine .inl ⟨a1,a2,?_⟩;rw[KD,KF];rintro(q | rfl)
    ·exact a3 q
    exact e rfl
   exact .inr a1
  rename_i hc;rcases h.2 n h0 h1 with⟨a1,a2,a3⟩ | a1
  ·refine .inl ⟨a1,a2,?_⟩;rw[KD,KF];rintro(q | rfl)
   ·exact a3 q
   exact hc ⟨h0,h1⟩
  exact .inr a1
theorem yz : ∀{l ts s:List Th},Dz ts s->Dz (ts++l) (l.foldl pY s)
 | [],ts,s,h=>by simpa using h
 | t::l,ts,s,h=>by
  rw[K1];have:=y4 (t:=t) (ts:=ts) (l:=t.mks) (s:=s) (d:=[]) (fun n hn=>hn) ⟨h.len,fun n h0 h1=>(h.is n h0 h1).elim (fun a=>.inl ⟨a.1,a.2,MX⟩) fun a=>.inr ⟨LD _ a.1,a.2⟩⟩;have:=yz (l:=l) (ts:=ts++[t]) (s:=pY s t) ⟨this.1,fun n h0 h1=>(this.2 n h0 h1).elim (fun a=>.inl ⟨a.1,fun x hx=>?_⟩) .inr⟩
  ·simpa using this
  rcases KD.1 hx with hx | hx
  ·exact a.2.1 x hx
  rw[KF.1 hx];simpa using a.2.2
theorem Df{f:ak}:Dz (aF f) (iM f):=
 yz (l:=aF f) (ts:=[]) (s:=List.replicate 8192 noTh) ⟨Ls,fun n h0 h1=>.inl ⟨aB (by omega),fun t ht=>by cases ht⟩⟩
theorem yV{f:ak}{t:Th}(h:t∈aF f):0<=t.blk/\t.blk<f.blocks.length:=by obtain⟨b,hb,ht⟩:=iT.1 h;rcases km.1 ht with⟨i,hi,rfl⟩ | ⟨i,hi,rfl⟩ | rfl<;>exact⟨Int.natCast_nonneg _,Int.ofNat_lt.2 hb⟩
theorem GD{f:ak}{a b:Int}(h0:0<=a)(h1:a<f.blocks.length)(h2:0<=b)(h3:b<f.blocks.length):nth (nth (gT f) a.toNat) b.toNat=true↔Re (ofG f.blocks) a b.toNat:=by unfold gT;rw[gm (by omega),KR h0];exact jH (by omega)
theorem wG{f:ak}{v b p:Int}(hb0:0<=b)(hb1:b<f.blocks.length)(h:iE f (iM f) (gT f) v b p=true):xJ f v b p:=by
 unfold iE at h;split at h
 ·rename_i c;exact .inl c
 split at h
 ·cases h
 rename_i c1 c2;rcases Df.is v (by omega) (by omega)with⟨e,_⟩ | ⟨hm,hv⟩
 ·exact absurd (.inr (by rw[e];decide)) c2
 have hat:=yV hm;refine .inr ⟨_,hm,hv,?_⟩;split at h
 ·rename_i e;exact .inl ⟨e,by simpa using h⟩
 rename_i e;refine .inr ⟨e,fun hr=>?_⟩;rw[(GD hat.1 hat.2 hb0 hb1).2 hr]at h;cases h
structure nC (f:ak):Prop where
 params:0<=f.params/\f.params<=4
 blocks:0<f.blocks.length/\f.blocks.length<=512
 cnt:vy f f.blocks.length<=4096
 good : ∀t∈aF f,xG f t
 nodup:(D9 (aF f)).Nodup
 way : ∀b:Nat,b<f.blocks.length->Re (ofG f.blocks) (-1) b
 takes : ∀t∈aF f,0<=t.place->∀v∈t.tks,xJ f v t.blk t.place
 phi : ∀b i:Nat,b<f.blocks.length->i<(nth f.blocks b).phis.length->0<b/\(nth (nth f.blocks b).phis i).ins.map InD.frm=cY f b/\∀p∈(nth (nth f.blocks b).phis i).ins,xJ f p.val p.frm (A5 f p.frm)
theorem EY{f:ak}{b x:Int}:x∈cY f b↔(0<=x/\x<f.blocks.length)/\b∈(nth f.blocks x.toNat).term.to:=by
 unfold cY;rw[og];constructor
 ·rintro⟨a,ha,hb,rfl⟩;exact⟨⟨by omega,by omega⟩,by simpa using hb⟩
 rintro⟨⟨h0,h1⟩,h⟩;exact⟨x.toNat,by omega,by simpa using h,by omega⟩
theorem yH{f:ak}{t:Th}:gw f (iM f) (gT f) t = .ok ()↔
  (0<=t.place/\∀v∈t.tks,iE f (iM f) (gT f) v t.blk t.place=true)\/(t.place<0/\qO f t=true/\∀p∈(pE f t).ins,iE f (iM f) (gT f) p.val p.frm (A5 f p.frm)=true):=by
 unfold gw;by_cases h0:0<=t.place
 ·rw[if_pos h0];have hn:¬t.place<0:=by omega
  simp only[h0,hn,true_and,false_and,or_false];cases e:t.tks.any (stT f (iM f) (gT f) t)with
  | true=>
   obtain⟨v,hv,hs⟩:=Nu.1 e;constructor
   ·intro h;cases h
   intro h;unfold stT at hs;rw[h v hv]at hs;cases hs
  | false=>
   constructor
   ·intro _ v hv;have:=any_false.1 e v hv;simpa[stT]using this
   intro _;rfl
 rw[if_neg h0];have hn:t.place<0:=by omega
 simp only[h0,hn,true_and,false_and,false_or];cases e1:qO f t with
 | false=>simp
 | true=>
  rw[if_neg (by simp)];cases e:(pE f t).ins.any (stP f (iM f) (gT f))with
  | true=>
   obtain⟨v,hv,hs⟩:=Nu.1 e;constructor
   ·intro h;cases h
   rintro⟨_,h⟩;unfold stP at hs;rw[h v hv]at hs;cases hs
  | false=>
   constructor
   ·intro _;refine⟨rfl,fun v hv=>?_⟩;have:=any_false.1 e v hv;simpa[stP]using this
   intro _;rfl
theorem Fq{f:ak}{i:Nat}:pE f (phiT f b i)=nth (nth f.blocks b).phis i:=by unfold pE gY phiT;dsimp only;rw[KT];congr 1;omega
theorem IK{f:ak}(h:(kq f).1=0):nC f:=by
 rw[Dr]at h;unfold vG at h;split at h
 ·cases h
 rename_i c1;split at h
 ·cases h
 rename_i c2;split at h
 ·cases h
 rename_i c3;cases hs:jW f with
 | error e=>obtain⟨k,s',_,_,h3⟩:=pa (show upE _ _ _=_ from hs);have:=(sy h3).1;rw[hs]at h;rw[if_pos (by show e.1≠0;omega)]at h;have h:e.1=0:=h;omega
 | ok m=>
  rw[hs,if_neg (by simp[xn])]at h;obtain⟨g1,g2,_⟩:=sS (f:=f) (by omega) An (by rw[<-px];exact hs);cases hw:wayE f with
  | error e=>
   rw[hw]at h;obtain⟨k,s',_,_,h3⟩:=pa (show upE _ _ _=_ from hw);split at h3
   ·cases h3
   cases h3;exact absurd (show(15:Int)=0 from h) (by decide)
  | ok u=>
   obtain⟨⟩:=u;rw[hw]at h;cases hu:yO f with
   | error e=>
    rw[hu]at h;obtain⟨k,s',_,_,h3⟩:=pa (show upE _ _ _=_ from hu);have h:e.1=0:=h;unfold gw at h3;repeat' split at h3
    all_goals first | (cases h3;done) | (cases h3;first | exact absurd (show(13:Int)=0 from h) (by decide) | exact absurd (show(16:Int)=0 from h) (by decide))
   | ok u=>
    obtain⟨⟩:=u;have hst : ∀t∈aF f,gw f (iM f) (gT f) t = .ok ():=fun t ht=>by obtain⟨i,hi,e⟩:=KV ht;have:=tf hu i hi;rw[az hi,e]at this;exact this
    refine⟨by omega,by omega,by omega,g1,g2,fun b hb=>?_,fun t ht h0 v hv=>?_,fun b i hb hi=>?_⟩
    ·have:=tf hw b hb;rw[<-jH hb];split at this
     ·assumption
     cases this
    ·have hat:=yV ht;rcases yH.1 (hst t ht)with⟨_,k⟩ | ⟨k,_⟩
     ·exact wG hat.1 hat.2 (k v hv)
     omega
    have ht:phiT f b i∈aF f:=iT.2 ⟨b,hb,km.2 (.inl ⟨i,hi,rfl⟩)⟩;rcases yH.1 (hst _ ht)with⟨k,_⟩ | ⟨_,k1,k2⟩
    ·exact absurd k (by show ¬(0:Int)<=-1-(i:Int);omega)
    unfold qO at k1;rw[Fq]at k1 k2;obtain⟨k3,k4⟩:=(KE _ _).mp k1;have k4:(nth (nth f.blocks b).phis i).ins.map InD.frm=cY f b:=of_decide_eq_true k4;have k3:(0:Int)<b:=of_decide_eq_true k3;refine⟨by omega,k4,fun p hp=>?_⟩;have hm:p.frm∈cY f b:=by rw[<-k4];exact M3 hp
    have:=(EY.1 hm).1;exact wG this.1 this.2 (k2 p hp)
def mkL (vs:Value) (at_:Nat) (ps:Int) (vb:Value) (nx:Int) (vl:Value):List Value:=[vs,.int .i64 at_,.int .i64 ps,vb,.int .i64 nx,vl]
def rawV (s:List Int) (at_:Nat):Int:=if at_<s.length then nth s at_ else 0
def aD (s:List Int) (at_:Nat) (n:Int):Int:=((rawV s at_).tmod n+n).tmod n
theorem dd{s:List Int}{at_:Nat}(hn:0<n):0<=aD s at_ n/\aD s at_ n<n:=by have b1:=Int.lt_tmod_of_pos (rawV s at_) hn;exact⟨Int.tmod_nonneg _ (by omega),Int.tmod_lt_of_pos _ hn⟩
theorem GL{W:View}{h:Heap}{o:Own}{M at_:Nat}{vs vb vl:Value}{ps nx:Int}{s:List Int}(w:Owns W h o)(hk:o (0,0)=bx T.aY M (RawN.mk (n:=5) (mkL vs at_ ps vb nx vl)))(hs:SlRd W vs s)(h1:at_<=1000000000)(hn:0<n)(hn2:n<=1000000000):
  aw Tryz.prog N.cu #[.pointer (some ⟨M,0,none⟩),.int .i64 n] h (fun u h'=>u = .int .i64 (aD s at_ n)/\Owns W h' (o.upd (0,0) (bx T.aY M (RawN.mk (n:=5) (mkL vs (at_+1) ps vb nx vl))))):=by
 refine ao (args:=[.pointer (some ⟨M,0,none⟩),.int .i64 n]) follows F.cu E.cu (Kw (by kernel_rfl)) fun K hK=>?_;have c0:aj (vw h) ⟨M,0,none⟩=some vs:=w.raw hk (i:=0) (by decide);have c1:aj (vw h) ⟨M,1,none⟩=some (.int .i64 at_):=w.raw hk (i:=1) (by decide);dsimp only[L.cu];refine ab fun z hz=>?_;simp;subst hz;refine ab fun z hz=>?_;simp;subst hz;refine ab fun z hz=>?_;have hsl : ∀{Q:View},Un.ev Q .len vs=some (.int .i64 s.length):=fun{Q}=>hs.len
 refine ix (fun ρ h2=>h2=h/\I64 (rawV s at_)/\ρ=[(0,.pointer (some ⟨M,0,none⟩)),(1,.int .i64 n),(4,.int .i64 0),(5,.int .i64 (rawV s at_))]) ?_ ?_
 ·intro K2 hK2;by_cases c:at_<s.length
  ·have hs2:=hs.mono w.wle;have hr:=hs.range (i:=at_) c;have e:rawV s at_=nth s at_:=if_pos c;rw[e]at hK2;simp(disch:=omega)[c0,c1,hsl,c,hs2.idx1 rfl,hs2.int (View.le_refl _)];exact hK2 _ _ ⟨rfl,hr,rfl⟩
  have e:rawV s at_=0:=if_neg c;rw[e]at hK2;simp[c0,c1,hsl,c];exact hK2 _ _ ⟨rfl,⟨by decide,by decide⟩,rfl⟩
 rintro _ h2 ⟨rfl,hx,rfl⟩;subst hz;refine ab fun z hz=>?_;simp(disch:=omega)[c1];refine w.dK (k:=(0,0)) (n:=5) (i:=1) (e:=T.aY) (B:=M) (l:=mkL vs at_ ps vb nx vl) hk (by decide) (by kernel_rfl) rfl rfl rfl fun h3 w3 _=>?_;subst hz;have b1:=Int.lt_tmod_of_pos (rawV s at_) hn;have b2:=Int.tmod_lt_of_pos (rawV s at_) hn;have hw:IntKind.i64.wrap ((rawV s at_).tmod n+n)=(rawV s at_).tmod n+n:=bE (by omega) (by omega);have hne:¬n=0:=by omega
 simp[hw,hne];refine hK _ _ ⟨rfl,w3.congr fun q=>?_⟩;rfl
theorem zd{W:View}{h:Heap}{o:Own}{M at_:Nat}{vs vb vl:Value}{ps nx:Int}(w:Owns W h o)(hk:o (0,0)=bx T.aY M (RawN.mk (n:=5) (mkL vs at_ ps vb nx vl)))(h0:0<=nx)(h1:nx<=1000000000):
  aw Tryz.prog N.bU #[.pointer (some ⟨M,0,none⟩)] h (fun u h'=>u = .int .i64 nx/\Owns W h' (o.upd (0,0) (bx T.aY M (RawN.mk (n:=5) (mkL vs at_ ps vb (nx+1) vl))))/\∀X:View,X.le (vw h)->X M=none->X.le (vw h')):=by
 refine ao (args:=[.pointer (some ⟨M,0,none⟩)]) follows F.bU E.bU (Kw (by kernel_rfl)) fun K hK=>?_;have c4:aj (vw h) ⟨M,4,none⟩=some (.int .i64 nx):=w.raw hk (i:=4) (by decide);dsimp only[L.bU];refine ab fun z hz=>?_;simp;subst hz;refine ab fun z hz=>?_;simp(disch:=omega)[c4];refine w.dK (k:=(0,0)) (n:=5) (i:=4) (e:=T.aY) (B:=M) (l:=mkL vs at_ ps vb nx vl) hk (by decide) (by kernel_rfl) rfl rfl rfl fun h3 w3 hx3=>?_;have w3:Owns W h3 (o.upd (0,0) (bx T.aY M (RawN.mk (n:=5) (mkL vs at_ ps vb (nx+1) vl)))):=w3
 have c5:aj (vw h3) ⟨M,4,none⟩=some (.int .i64 (nx+1)):=w3.raw Own.an (i:=4) (by decide);subst hz;simp(disch:=omega)[c5];exact hK _ _ ⟨by congr 1,w3,hx3⟩
end Go.Proofs.YtnfiilgdjpdlkaaGreatDoor
namespace Go.Lft
open Go
variable {po:OP}
theorem HN {P:Program} {t ty:TypeId} {us:List (Nat × Value)} {h:Heap} {K:Value->Heap->Prop} {x:Operand} {n:Int} (hx:asg us x = .int .i64 n) (hk:K (.int .i64 (IntKind.i64.wrap (-n))) h):step P (.unOp .neg t x) ty us h K:=by refine dq (cr fun w hw=>⟨.int .i64 (IntKind.i64.wrap (-n)),w,?_,Same.refl _,by rw[hw];exact hk⟩);simp only[bD,execOp,hx];simp[Op.unary,Op.intArith]
end Go.Lft
namespace Go.Proofs.YtnfiilgdjpdlkaaGreatDoor
open Go Go.Lft
structure MS where
 at_:Nat
 ps:Int
 blocks:List BlkD
 next:Int
 live:List Int
def MS.took (m:MS):MS:={ m with at_:=m.at_+1 }
def MS.aG (m:MS):MS:={ m with next:=m.next+1 }
structure BlkM where
 phis:Raw
 ins:Raw
 term:dm
instance:Rep BlkM:=Rep.via fun d=>Cat.mk d.phis (Cat.mk d.ins d.term)
instance:Inhabited BlkM:=⟨⟨default,default,default⟩⟩
theorem BlkM.rQ:Part BlkM Raw 0 BlkM.phis (fun d x=>{ d with phis:=x }):=(Part.fst Part.all).via (fun _=>rfl) fun _ _=>rfl
theorem BlkM.lV:Part BlkM Raw 1 BlkM.ins (fun d x=>{ d with ins:=x }):=(Part.snd (Part.fst Part.all)).via (fun _=>rfl) fun _ _=>rfl
theorem BlkM.nm:Part BlkM dm 2 BlkM.term (fun d x=>{ d with term:=x }):=(Part.snd (Part.snd Part.all)).via (fun _=>rfl) fun _ _=>rfl
theorem Ab {H:View} {cs:List Value} {d:BlkM} {p:List PhiD} {i:List InsD} (h:Rep.rd H cs d) (hp:SlRd H d.phis.v p) (hi:SlRd H d.ins.v i):Rep.rd H cs (BlkD.mk p i d.term):=by obtain⟨c1,r1,e1,⟨h1,_⟩,c2,r2,e2,⟨h2,_⟩,h3⟩:=h;have h1:c1=[d.phis.v]:=h1;have h2:c2=[d.ins.v]:=h2;exact⟨c1,r1,e1,⟨d.phis.v,h1,hp⟩,c2,r2,e2,⟨d.ins.v,h2,hi⟩,h3⟩
structure MkB (M:Nat) (vs:Value) (m:MS) (o:Own) (vb vl:Value) (lb:List BlkM):Prop where
 box:o (0,0)=bx T.aY M (RawN.mk (n:=5) (mkL vs m.at_ m.ps vb m.next vl))
 live:o (0,1)=it T.int vl m.live
 blk:o (0,2)=it T.fq vb lb
 len:lb.length=m.blocks.length
 term : ∀i,i<m.blocks.length->(nth lb i).term=(nth m.blocks i).term
 phis : ∀i,i<m.blocks.length->o (1,i)=it T.ni (nth lb i).phis.v (nth m.blocks i).phis
 ins : ∀i,i<m.blocks.length->o (2,i)=it T.eV (nth lb i).ins.v (nth m.blocks i).ins
structure Mk (s:List Int) (M:Nat) (vs:Value) (W:View) (h:Heap) (o:Own) (m:MS):Prop where
 own:Owns W h o
 src:SlRd W vs s
 box : ∃vb vl lb,MkB M vs m o vb vl lb
def Nx (s:List Int) (M:Nat) (vs:Value) (W:View) (h:Heap) (o:Own) (m:MS):Prop:=∃W' o',W.le W'/\Mk s M vs W' h o' m/\∀k:Key,3<=k.1->o' k=o k
variable {s:List Int} {M:Nat} {vs:Value} {W:View} {h:Heap} {o:Own} {m:MS}
theorem Mk.nx (w:Mk s M vs W h o m):Nx s M vs W h o m:=⟨W,o,View.le_refl _,w,fun _ _=>rfl⟩
theorem Nx.trans {W':View} {o':Own} (hW:W.le W') (ho : ∀k:Key,3<=k.1->o' k=o k) (n:Nx s M vs W' h o' m):Nx s M vs W h o m:=by obtain⟨W2,o2,h1,h2,h3⟩:=n;exact⟨W2,o2,View.le_trans hW h1,h2,fun k hk=>(h3 k hk).trans (ho k hk)⟩
theorem MkB.at {vb vl:Value} {lb:List BlkM} (b:MkB M vs m o vb vl lb) {at_:Nat} {next:Int}:MkB M vs { m with at_:=at_,next:=next } (o.upd (0,0) (bx T.aY M (RawN.mk (n:=5) (mkL vs at_ m.ps vb next vl)))) vb vl lb:=
 ⟨rfl,b.live,b.blk,b.len,b.term,fun i hi=>b.phis i hi,fun i hi=>b.ins i hi⟩
theorem mE {k:Key} {i:Option Lft.Item} (hk:k.1<3) : ∀q:Key,3<=q.1->o.upd k i q=o q:=fun q hq=>Own.ay fun e=>by rw[e]at hq;omega
theorem fD {k:Key} {i j:Option Lft.Item} (q:Key):(o.upd k i).upd k j q=o.upd k j q:=by unfold Own.upd;split<;>rfl
theorem Mk.take (w:Mk s M vs W h o m) {n:Int} (h1:m.at_<=1000000000) (hn:0<n) (hn2:n<=1000000000) :
  aw Tryz.prog N.cu #[.pointer (some ⟨M,0,none⟩),.int .i64 n] h (fun u h'=>u = .int .i64 (aD s m.at_ n)/\∃o',Mk s M vs W h' o' m.took/\∀k:Key,3<=k.1->o' k=o k):=by obtain⟨vb,vl,lb,b⟩:=w.box;refine(GL w.own b.box w.src h1 hn hn2).mono ?_;rintro u h' ⟨rfl,w2⟩;exact⟨rfl,_,⟨w2,w.src,vb,vl,lb,b.at⟩,mE (by decide)⟩
theorem Mk.fresh (w:Mk s M vs W h o m) (h0:0<=m.next) (h1:m.next<=1000000000) :
  aw Tryz.prog N.bU #[.pointer (some ⟨M,0,none⟩)] h (fun u h'=>u = .int .i64 m.next/\∃o',Mk s M vs W h' o' m.aG/\∀k:Key,3<=k.1->o' k=o k):=by obtain⟨vb,vl,lb,b⟩:=w.box;refine(zd w.own b.box h0 h1).mono ?_;rintro u h' ⟨rfl,w2,-⟩;exact⟨rfl,_,⟨w2,w.src,vb,vl,lb,b.at⟩,mE (by decide)⟩
theorem lS {x:Int}:-2147483648<=IntKind.i32.wrap x/\IntKind.i32.wrap x<=2147483647:=by rw[IntKind.wrap_i32];omega
def kz (s:List Int) (m:MS):Int:=
 if aD s (m.at_+1) 8=0 then IntKind.i32.wrap (IntKind.i64.wrap (aD s m.at_ 1048576*4099))
 else if aD s (m.at_+1) 8=1 then IntKind.i32.wrap (IntKind.i64.wrap (-aD s m.at_ 1048576))
 else if aD s (m.at_+1) 8=2 then -2147483648
 else if aD s (m.at_+1) 8=3 then IntKind.i32.wrap ((aD s m.at_ 1048576).tmod 70000)
 else IntKind.i32.wrap (IntKind.i64.wrap ((aD s m.at_ 1048576).tmod 20-4))
theorem oF:-2147483648<=kz s m/\kz s m<=2147483647:=by
 unfold kz;repeat' split
 all_goals first | exact lS | decide
theorem Mk.word (w:Mk s M vs W h o m) (h1:m.at_<=999999990) :
  aw Tryz.prog N.cW #[.pointer (some ⟨M,0,none⟩)] h (fun u h'=>u = .int .i32 (kz s m)/\∃o',Mk s M vs W h' o' m.took.took/\∀k:Key,3<=k.1->o' k=o k):=by
 refine ao (args:=[.pointer (some ⟨M,0,none⟩)]) follows F.cW E.cW (Kw (by kernel_rfl)) fun K hK=>?_;dsimp only[L.cW];refine ab fun z hz=>?_;simp;subst hz;refine ab fun z hz=>?_;simp;refine af (by kernel_rfl) (w.take (by omega) (n:=1048576) (by decide) (by decide)) ?_;rintro _ h2 ⟨rfl,o2,w2,f2⟩;subst hz;refine ab fun z hz=>?_;simp;refine af (by kernel_rfl) (w2.take (show m.at_+1<=_ by omega) (n:=8) (by decide) (by decide)) ?_;rintro _ h3 ⟨rfl,o3,w3,f3⟩;have hx:m.took.at_=m.at_+1:=rfl;rw[hx];have hf : ∀k:Key,3<=k.1->o3 k=o k:=fun k hk=>(f3 k hk).trans (f2 k hk);have hwd:kz s m=_:=kz.eq_1 s m
 generalize kz s m=r at hwd hK;generalize aD s (m.at_+1) 8=q at hwd;generalize aD s m.at_ 1048576=x at hwd;by_cases c0:q=0
 ·rw[if_pos c0]at hwd;simp[c0];exact hK _ _ ⟨by rw[hwd],_,w3,hf⟩
 rw[if_neg c0]at hwd;by_cases c1:q=1
 ·rw[if_pos c1]at hwd;simp[c1];refine HN rfl ?_;simp;exact hK _ _ ⟨by rw[hwd],_,w3,hf⟩
 rw[if_neg c1]at hwd;by_cases c2:q=2
 ·rw[if_pos c2]at hwd;simp[c2];exact hK _ _ ⟨by rw[hwd],_,w3,hf⟩
 rw[if_neg c2]at hwd;by_cases c3:q=3
 ·rw[if_pos c3]at hwd;simp[c3];exact hK _ _ ⟨by rw[hwd],_,w3,hf⟩
 rw[if_neg c3]at hwd;simp[c0,c1,c2,c3];subst hz;simp;exact hK _ _ ⟨by rw[hwd],_,w3,hf⟩
end Go.Proofs.YtnfiilgdjpdlkaaGreatDoor
namespace Go.Proofs.YtnfiilgdjpdlkaaGreatDoor
open Go Go.Lft
def MS.add (m:MS) (b:Nat) (i:InsD):MS:={ m with blocks:=m.blocks.set b { nth m.blocks b with ins:=(nth m.blocks b).ins++[i] },live:=m.live++cQ i }
def conD (v:Int) (n:Int):InsD:=⟨1,v,0,[],⟨n⟩⟩
def MS.constant (m:MS) (b:Nat) (n:Int):MS:=m.aG.add b (conD m.next n)
def wF (s:List Int) (m:MS):Int:=nth m.live (if aD s (m.at_+1) 3=0 then m.live.length-1 else(aD s m.at_ m.live.length).toNat)
def BH (s:List Int) (m:MS) (b:Nat):MS:=(m.took.took).constant b (kz s m)
def aE (s:List Int) (m:MS) (b:Nat):Int × MS:=
 if m.live.length=0 then(m.next,BH s m b)
 else if aD s (m.at_+2) 9=0 then(m.next,BH s m.took.took.took b)
 else(wF s m,m.took.took.took)
def MS.two (m:MS) (b:Nat) (op x y:Int):MS:=m.aG.add b ⟨op,m.next,0,[x,y],⟨0⟩⟩
def binS (s:List Int) (m:MS) (b:Nat) (op:Int):MS:=
 let r1:=aE s m b
 let r2:=aE s r1.2 b
 if aD s r2.2.at_ 3=0 then
  (r2.2.took.took.constant b (IntKind.i32.wrap (IntKind.i64.wrap (aD s (r2.2.at_+1) 40-8)))).two b op r1.1 r2.2.next
 else r2.2.took.two b op r1.1 r2.1
def ltuS (s:List Int) (m:MS) (b:Nat):MS:=
 let r1:=aE s m b
 let r2:=aE s r1.2 b
 r2.2.two b 13 r1.1 r2.1
def divS (s:List Int) (m:MS) (b:Nat):MS:=
 let r1:=aE s m b
 let m2:=r1.2.took.constant b (IntKind.i32.wrap (aD s r1.2.at_ 12))
 if 0<aD s m2.at_ 3 then
  (m2.took.took.constant b (IntKind.i32.wrap (1+IntKind.i32.wrap (aD s (m2.at_+1) 12)))).two b 14 r1.1 m2.next
 else m2.took.two b 14 r1.1 r1.2.next
def wN (s:List Int) (m:MS) (b:Nat):MS:=
 let r1:=aE s m b
 let r2:=aE s r1.2 b
 r2.2.aG.aG.add b ⟨18,r2.2.next,r2.2.next+1,[r1.1,r2.1],⟨0⟩⟩
def ia (s:List Int) (b:Nat):Nat->List Int × MS->List Int × MS:=fun _ x=>(x.1++[(aE s x.2 b).1],(aE s x.2 b).2)
def nD (s:List Int) (m:MS) (b:Nat):MS:=
 let r:=up (ia s b) (aD s m.at_ 5).toNat ([],m.took)
 r.2.aG.took.add b ⟨17,r.2.next,0,r.1,⟨IntKind.i32.wrap (aD s r.2.at_ 5)⟩⟩
def nI (s:List Int) (m:MS) (b:Nat):Int × MS:=
 let m1:=m.took.constant b (IntKind.i32.wrap (aD s m.at_ 9))
 if aD s m1.at_ 3=0 then
  let r:=aE s m1.took b
  let m3:=(r.2.constant b 7).two b 5 r.1 r.2.next
  (m3.next,m3.two b 2 m.next (r.2.next+1))
 else(m.next,m1.took)
def offS (s:List Int) (m:MS):Int × MS:=
 if aD s (m.at_+1) 12=0 then(kz s m.took.took,m.took.took.took.took) else(IntKind.i32.wrap (aD s m.at_ 4),m.took.took)
def ja (s:List Int) (m:MS) (b:Nat) (store:Bool):MS:=
 let a:=nI s m b
 let i:=offS s a.2
 if store then(aE s i.2 b).2.add b ⟨16,0,0,[a.1,(aE s i.2 b).1],⟨i.1⟩⟩
 else i.2.aG.add b ⟨15,i.2.next,0,[a.1],⟨i.1⟩⟩
def opsL:List Int:=[2,2,3,4,5,6,7,8,9,10,12,11]
def aL (s:List Int) (b:Nat) (m:MS):MS:=
 let k:=aD s m.at_ 20
 if k<12 then binS s m.took b (nth opsL k.toNat)
 else if k=12 then ltuS s m.took b
 else if k=13 then divS s m.took b
 else if k<16 then ja s m.took b (decide (k=15))
 else if k=16 then nD s m.took b
 else if k=17 then wN s m.took b
 else m.took.took.took.constant b (kz s m.took)
section
variable{b:Nat}
theorem y6{H:View}{n:Nat}{cs:List Value}(hc:iK H ⟨b,0,none⟩ cs)(hl:cs.length=n):Un.ev H (.au n) (.pointer (some ⟨b,0,none⟩))=some (.agg cs.toArray):=by have:=gy hc n 0 #[] (by omega);simp only[Un.ev,vP,KS];rw[this];simp[<-hl]
theorem CC{H:View}{n:Nat}{cs:Array Value}{t:TypeId}(hb:H b=some (.cells cs t (0,0)))(hl:cs.size=n):Un.ev H (.au n) (.pointer (some ⟨b,0,none⟩))=some (.agg cs):=by have:iK H ⟨b,0,none⟩ cs.toList:=⟨cs,t,(0,0),rfl,hb,by simp[KG]⟩;simpa using y6 this (by simpa using hl)
variable{vs vb vl:Value}{lb:List BlkM}
theorem MkB.H4{s:List Int}{M:Nat}{W:View}{h:Heap}{o:Own}{m:MS}(w:Owns W h o)(b:MkB M vs m o vb vl lb):
  ∃X:View,W.le X/\X.le (vw h)/\(∀i,i<=5->aj X ⟨M,i,none⟩=some ((mkL vs m.at_ m.ps vb m.next vl).getD i undef))/\SlRd X vb lb/\Av X vl/\∀i,i<m.blocks.length->Av X (nth lb i).phis.v/\Av X (nth lb i).ins.v:=by obtain⟨w5,s5⟩:=w.freeze (k:=(0,0)) (v:=.slice (some ⟨M,0,none⟩) 1 1) (l:=[RawN.mk (n:=5) (mkL vs m.at_ m.ps vb m.next vl)]) b.box;have hb2:o.upd (0,0) none (0,2)=it T.fq vb lb:=b.blk;obtain⟨w6,s6⟩:=w5.freeze (k:=(0,2)) (v:=vb) (l:=lb) hb2;have s5:=s5.mono (jv (h:=h) (w5.av (0,2) _ hb2));refine⟨_,View.le_trans (jv (h:=h) (w.av (0,0) _ b.box)) (jv (h:=h) (w5.av (0,2) _ hb2)),w6.wle,fun i hi=>?_,s6,w6.av (0,1) _ b.live,fun i hi=>⟨w6.av (1,i) _ (b.phis i hi),w6.av (2,i) _ (b.ins i hi)⟩⟩;have:=((s5.at (i:=0) (by simp)).part (RawN.p (n:=5) (o:=i) hi)).raw;simpa[slA]using this
variable {s:List Int} {M:Nat} {vs:Value} {W:View} {h:Heap} {o:Own} {m:MS}
theorem MkB.cell(w:Owns W h o)(b:MkB M vs m o vb vl lb){i:Nat}(hi:i<=5):aj (vw h) ⟨M,i,none⟩=some ((mkL vs m.at_ m.ps vb m.next vl).getD i undef):=w.raw b.box hi
theorem MkB.gA(bb:MkB M vs m o vb vl lb)(hb:b<m.blocks.length){x':BlkD}{y':BlkM}{o':Own}(hy:y'.term=x'.term)(h02:o' (0,2)=it T.fq vb (lb.set b y'))(h1:o' (1,b)=it T.ni y'.phis.v x'.phis)(h2:o' (2,b)=it T.eV y'.ins.v x'.ins)(ho : ∀q:Key,q≠(0,2)->q≠(1,b)->q≠(2,b)->o' q=o q):MkB M vs { m with blocks:=m.blocks.set b x' } o' vb vl (lb.set b y'):=by
 have hbl:b<lb.length:=by rw[bb.len];exact hb
 refine⟨(ho _ (by simp) (by simp) (by simp)).trans bb.box,(ho _ (by simp) (by simp) (by simp)).trans bb.live,h02,by simp[bb.len],fun j hj=>?_,fun j hj=>?_,fun j hj=>?_⟩;all_goals
  have hj:j<m.blocks.length:=by simpa using hj
  have hjl:j<lb.length:=by rw[bb.len];exact hj
  show _=_
  simp only[bn hj,bn hjl]
  by_cases e:b=j
  ·subst e
   simp only[if_true]
   assumption
  ·simp only[if_neg e]
   first
    | exact bb.term j hj
    | exact(ho _ (by simp) (fun q=>e (by injection q with _ q;exact q.symm)) (by simp)).trans (bb.phis j hj)
    | exact(ho _ (by simp) (by simp) (fun q=>e (by injection q with _ q;exact q.symm))).trans (bb.ins j hj)
theorem Mk.value(w:Mk s M vs W h o m)(h1:m.at_<=999999990)(hl:m.live.length<=1000000000):
  aw Tryz.prog N.dv #[.pointer (some ⟨M,0,none⟩)] h (fun u h'=>(m.live.length=0/\u = .tuple #[.int .i64 0,.bool false]/\h'=h)\/(m.live.length≠0/\u = .tuple #[.int .i64 (wF s m),.bool true]/\I64 (wF s m)/\∃o',Mk s M vs W h' o' m.took.took/\∀k:Key,3<=k.1->o' k=o k)):=by
 refine ao (args:=[.pointer (some ⟨M,0,none⟩)]) follows F.dv E.dv (Kw (by kernel_rfl)) fun K hK=>?_;obtain⟨vb,vl,lb,b⟩:=w.box;have c5:aj (vw h) ⟨M,5,none⟩=some vl:=b.cell w.own (i:=5) (by decide);have hsl:=w.own.now b.live;dsimp only[L.dv];refine ab fun z hz=>?_;simp;subst hz;refine ab fun z hz=>?_;by_cases h0:m.live.length=0
 ·have h0':m.live=[]:=KN h0;simp[c5,hsl.len,h0];exact hK _ _ (.inl ⟨h0,rfl,rfl⟩)
 have h0':¬(m.live=[]):=fun e=>h0 (by rw[e];rfl);simp[c5,hsl.len,h0'];subst hz;refine ab fun z hz=>?_;simp[c5,hsl.len];refine af (by kernel_rfl) (w.take (by omega) (n:=(m.live.length:Int)) (by omega) (by omega)) ?_;rintro _ h2 ⟨rfl,o2,w2,f2⟩;subst hz;refine ab fun z hz=>?_;simp;refine af (by kernel_rfl) (w2.take (show m.at_+1<=_ by omega) (n:=3) (by decide) (by decide)) ?_;rintro _ h3 ⟨rfl,o3,w3,f3⟩;have hx:m.took.at_=m.at_+1:=rfl
 rw[hx];have hf : ∀k:Key,3<=k.1->o3 k=o k:=fun k hk=>(f3 k hk).trans (f2 k hk);have hv:wF s m=_:=wF.eq_1 s m
 obtain⟨vb3,vl3,lb3,b3⟩:=w3.box;have c53:aj (vw h3) ⟨M,5,none⟩=some vl3:=b3.cell w3.own (i:=5) (by decide);have hsl3:SlRd (vw h3) vl3 m.live:=w3.own.now b3.live;obtain⟨r0,r1⟩:=dd (s:=s) (at_:=m.at_) (n:=(m.live.length:Int)) (by omega);generalize aD s m.at_ m.live.length=x at hv r0 r1;generalize aD s (m.at_+1) 3=q at hv;obtain⟨i,hi,hvi,hii⟩ : ∃i:Nat,i<m.live.length/\wF s m=nth m.live i/\(i:Int)=if q=0 then(m.live.length:Int)-1 else x:=by
  by_cases c:q=0
  ·rw[if_pos c]at hv ⊢;exact⟨m.live.length-1,by omega,hv,by omega⟩
  rw[if_neg c]at hv ⊢;exact⟨x.toNat,by omega,hv,by omega⟩
 have h64:IntKind.i64.wrap ((m.live.length:Int)-1)=(m.live.length:Int)-1:=bE (by omega) (by omega);have fin : ∀ρ:Env,ρ=[(0,.pointer (some ⟨M,0,none⟩)),(2,.int .i64 0),(3,.bool false),(4,.int .i64 i),(17,.int .i64 x),(19,.int .i64 q)]->LC.wp Tryz.prog z (dH [.tmp 2,.tmp 3] K) ρ h3:=by rintro _ rfl;subst hz;refine ab fun z hz=>?_;simp(disch:=omega)[c53,hsl3.idx1 rfl,hsl3.int (View.le_refl _)];subst hz;simp;exact hK _ _ (.inr ⟨h0,by rw[hvi],by rw[hvi];exact hsl3.range hi,o3,w3,hf⟩)
 by_cases c:q=0
 ·rw[if_pos c]at hii;simp[c,c53,hsl3.len,h64];refine fin _ ?_;rw[hii,c]
 rw[if_neg c]at hii;simp[c];refine fin _ ?_;rw[hii]
theorem Mk.add (w:Mk s M vs W h o m) {b:Nat} {i:InsD} {v:Value} (hb:b<m.blocks.length) (hi:Rd W v i) (hn:(nth m.blocks b).ins.length<=100000000) (hl:m.live.length<=100000000) :
    aw Tryz.prog N.dC #[.pointer (some ⟨M,0,none⟩),.int .i64 b,v] h (fun u h'=>Nx s M vs W h' o (m.add b i)):=by
  refine ao (args:=[.pointer (some ⟨M,0,none⟩),.int .i64 b,v]) follows F.dC E.dC (Kw (by kernel_rfl)) fun K hK=>?_
  obtain⟨vb,vl,lb,bb⟩:=w.box
  obtain⟨va,rfl,hir,hia⟩:=Gn hi
  dsimp only[L.dC]
  refine ab fun z hz=>?_
  simp
  refine iG rfl (hi.mono w.own.wle) fun h1 e1 hle1 hs1 hat=>?_
  have w1:=w.own.ext hle1
  have hbx:(grow W h h1) h.size=some (.cells #[.int .i64 i.op,.int .i64 i.dst,.int .i64 i.two,va,.int .i32 i.imm.v] T.eV (0,0)):=by
    rw[dw (Kz _),e1];simp[Value.cells]
  have hi1:=hi.mono (bO (h':=h1) w.own.wle)
  have src1:=w.src.mono (bO (h':=h1) w.own.wle)
  have hW1:=bO (h':=h1) w.own.wle
  clear hat e1
  have hld:=CC hbx (n:=5) rfl
  generalize grow W h h1=W1 at w1 hld hi1 src1 hW1
  generalize h.size=B at hld
  subst hz
  refine ab fun z hz=>?_
  obtain⟨X,hWX,hX,cX,sX,avl,avX⟩:=bb.H4 (s:=s) w1
  have c3:aj X ⟨M,3,none⟩=some vb:=cX 3 (by decide)
  have hbl:b<lb.length:=by rw[bb.len];exact hb
  have a1:=(sX.at hbl).part BlkM.lV
  have hsv:=sX.bound
  have a2:aj X (((slA vb).add (b*6)).add 1)=some (nth lb b).ins.v:=by rw[az hbl];exact a1.raw
  have hldX:Un.ev X (.au 5) (.pointer (some ⟨B,0,none⟩))=some (.agg #[.int .i64 i.op,.int .i64 i.dst,.int .i64 i.two,va,.int .i32 i.imm.v]):=by
    have:=dY (ρ:=fun _=>none) (e:=.un (.au 5) (.con (.pointer (some ⟨B,0,none⟩)))) hWX (by simpa using hld)
    simpa using this
  refine aS X hX ?_
  simp(disch:=omega)[c3,sX.idxn (N:=6) rfl,a2,hldX]
  refine mb (α:=InsD) (W:=W1) (d:=i) El.mD rfl hi1 fun u5 h5 src hle5 hs5=>⟨View.le_trans hX hle5,?_⟩
  refine(w1.ext' hle5).eu (k:=(2,b)) (α:=InsD) (v:=(nth lb b).ins.v) (l:=(nth m.blocks b).ins) (l2:=[i]) (bb.ins b hb) El.mD rfl rfl src (by simp;omega) (by simp;omega) fun v6 h6 w6 m6=>⟨(m6.view (View.le_trans hX hle5) (avX b hb).2).1,?_⟩
  have hv6:=(w6.cells (k:=(2,b)) Own.an).2
  refine w6.oK (k:=(0,2)) (α:=BlkM) BlkM.lV (v:=vb) (l:=lb) (i:=b) (d:=⟨v6⟩) bb.blk (by kernel_rfl) rfl rfl hbl (lZ.2 ⟨rfl,hv6⟩) fun h7 w7 _=>?_
  have b7:=bb.gA hb (x':={ nth m.blocks b with ins:=(nth m.blocks b).ins++[i] }) (y':={ lb[b]with ins:=⟨v6⟩ }) (o':=(o.upd (2,b) (it T.eV v6 ((nth m.blocks b).ins++[i]))).upd (0,2) (it T.fq vb (lb.set b { lb[b]with ins:=⟨v6⟩ }))) (by rw[<-bb.term b hb,az hbl]) Own.an (by rw[<-az hbl];exact bb.phis b hb) ((Own.ay (by simp)).trans Own.an) (fun q h1 h2 h3=>by rw[Own.ay h1,Own.ay h3])
  generalize hm7:({ m with blocks:=m.blocks.set b { nth m.blocks b with ins:=(nth m.blocks b).ins++[i] } }:MS)=m7 at b7
  have hadd:m.add b i={ m7 with live:=m.live++cQ i }:=by rw[<-hm7];rfl
  have hl7:m7.live=m.live:=by rw[<-hm7]
  have hf7 : ∀k:Key,3<=k.1->((o.upd (2,b) (it T.eV v6 ((nth m.blocks b).ins++[i]))).upd (0,2) (it T.fq vb (lb.set b { lb[b]with ins:=⟨v6⟩ }))) k=o k:=fun k hk=>by
    rw[Own.ay (by rintro rfl;simp at hk),Own.ay (by rintro rfl;simp at hk)]
  generalize (o.upd (2,b) (it T.eV v6 ((nth m.blocks b).ins++[i]))).upd (0,2) (it T.fq vb (lb.set b { lb[b]with ins:=⟨v6⟩ }))=o7 at w7 b7 hf7
  generalize lb.set b { lb[b]with ins:=⟨v6⟩ }=lb7 at b7
  clear src avX m6
  subst hz
  refine ab fun z hz=>?_
  have hld7:Un.ev (vw h7) (.au 5) (.pointer (some ⟨B,0,none⟩))=some (.agg #[.int .i64 i.op,.int .i64 i.dst,.int .i64 i.two,va,.int .i32 i.imm.v]):=by
    have:=dY (ρ:=fun _=>none) (e:=.un (.au 5) (.con (.pointer (some ⟨B,0,none⟩)))) w7.wle (by simpa using hld)
    simpa using this
  simp[hld7]
  refine af (by kernel_rfl) (nN (hi1.mono w7.wle)) ?_
  rintro u8 h8 ⟨hle8,hu8,-⟩
  have w8:=w7.ext hle8
  have hu8:SlRd (grow W1 h7 h8) u8 (cQ i):=hu8.mono (tN (Kz _) (View.le_refl _))
  have hW8:=bO (h':=h8) w7.wle
  generalize grow W1 h7 h8=W8 at w8 hu8 hW8
  subst hz
  have c58:aj (vw h8) ⟨M,5,none⟩=some vl:=b7.cell w8 (i:=5) (by decide)
  have hmk:(cQ i).length<=2:=by
                                         unfold cQ;repeat' split
                                         all_goals simp
  simp[c58]
  refine w8.eu (k:=(0,1)) (α:=Int) (v:=vl) (l:=m.live) (l2:=cQ i) (by rw[<-hl7];exact b7.live) El.aP rfl rfl (hu8.src w8.wle) (by omega) (by omega) fun v9 h9 w9 m9=>?_
  have hv9:=(w9.cells (k:=(0,1)) Own.an).2
  have hbx9:(o7.upd (0,1) (it T.int v9 (m.live++cQ i))) (0,0)=bx T.aY M (RawN.mk (n:=5) (mkL vs m7.at_ m7.ps vb m7.next vl)):=b7.box
  refine w9.dK (k:=(0,0)) (n:=5) (i:=5) (e:=T.aY) (B:=M) (l:=mkL vs m7.at_ m7.ps vb m7.next vl) hbx9 (by decide) (by kernel_rfl) rfl rfl hv9 fun h10 w10 _=>?_
  refine hK _ _ ⟨W8,_,View.le_trans hW1 hW8,⟨w10,src1.mono hW8,vb,v9,lb7,?_⟩,fun k hk=>?_⟩
  · rw[hadd]
    exact⟨rfl,rfl,b7.blk,b7.len,b7.term,b7.phis,b7.ins⟩
  · rw[Own.ay (by rintro rfl;simp at hk),Own.ay (by rintro rfl;simp at hk)]
    exact hf7 k hk
end
section
structure MS.ok (c:Nat) (m:MS):Prop where
 at_:m.at_<=c
 n0:0<=m.next
 next:m.next<=c
 live:m.live.length<=c
 ins : ∀i,(nth m.blocks i).ins.length<=c
theorem MS.ok.mono{c d:Nat}{m:MS}(h:m.ok c)(hd:c<=d):m.ok d:=
 ⟨by have:=h.at_;omega,h.n0,by have:=h.next;omega,by have:=h.live;omega,fun i=>by have:=h.ins i;omega⟩
theorem MS.ok.took {c:Nat} {m:MS} (h:m.ok c):m.took.ok (c+1):=
 ⟨by have:=h.at_;show m.at_+1<=_;omega,h.n0,by have:=h.next;show m.next<=_;omega,by have:=h.live;show m.live.length<=_;omega,fun i=>by have:=h.ins i;show(nth m.blocks i).ins.length<=_;omega⟩
theorem MS.ok.aG {c:Nat} {m:MS} (h:m.ok c):m.aG.ok (c+1):=
 ⟨by have:=h.at_;show m.at_<=_;omega,by have:=h.n0;show 0<=m.next+1;omega,by have:=h.next;show m.next+1<=_;omega,by have:=h.live;show m.live.length<=_;omega,fun i=>by have:=h.ins i;show(nth m.blocks i).ins.length<=_;omega⟩
theorem CF{i:InsD}:(cQ i).length<=2:=by
 unfold cQ;repeat' split
 all_goals simp
theorem MS.ok.add {c b:Nat} {m:MS} {i:InsD} (h:m.ok c):(m.add b i).ok (c+2):=by
 refine⟨by have:=h.at_;show m.at_<=_;omega,h.n0,by have:=h.next;show m.next<=_;omega,?_,fun j=>?_⟩
 ·have:=h.live;have:=CF (i:=i);show(m.live++cQ i).length<=_;rw[KK];omega
 show(nth (m.blocks.set b _) j).ins.length<=_;have hj:=h.ins j;rcases KB j m.blocks.length with hl | hl
 ·rw[bn hl];split
  ·rename_i e;subst e;rw[KK,KW];omega
  omega
 rw[de (by simpa using hl)];rw[de hl]at hj;omega
theorem MS.ok.constant {c b:Nat} {m:MS} {n:Int} (h:m.ok c):(m.constant b n).ok (c+3):=h.aG.add
theorem MS.ok.two {c b:Nat} {m:MS} {op x y:Int} (h:m.ok c):(m.two b op x y).ok (c+3):=h.aG.add
variable {s:List Int} {M:Nat} {vs:Value} {W:View} {h:Heap} {o:Own} {m:MS}
theorem MS.ok.aE {c b:Nat} (h:m.ok c):(aE s m b).2.ok (c+10):=by
 unfold Go.Proofs.YtnfiilgdjpdlkaaGreatDoor.aE;repeat' split
 ·exact(h.took.took.constant).mono (by omega)
 ·exact(h.took.took.took.took.took.constant).mono (by omega)
 exact(h.took.took.took).mono (by omega)
variable{b:Nat}
theorem lU{i:InsD}:(m.add b i).blocks.length=m.blocks.length:=by simp[MS.add]
theorem dW:(aE s m b).2.blocks.length=m.blocks.length:=by
 unfold aE;repeat' split
 all_goals simp[BH,MS.constant,lU,MS.took,MS.aG]
theorem Mk.constant (w:Mk s M vs W h o m) {b c:Nat} {n:Int} (hb:b<m.blocks.length) (hm:m.ok c) (hc:c<=1000000) (hn:-2147483648<=n/\n<=2147483647) :
  aw Tryz.prog N.bK #[.pointer (some ⟨M,0,none⟩),.int .i64 b,.int .i32 n] h (fun u h'=>u = .int .i64 m.next/\Nx s M vs W h' o (m.constant b n)):=by
 refine ao (args:=[.pointer (some ⟨M,0,none⟩),.int .i64 b,.int .i32 n]) follows F.bK E.bK (Kw (by kernel_rfl)) fun K hK=>?_;have q1:=hm.next;have q0:=hm.n0;dsimp only[L.bK];refine ab fun z hz=>?_;simp;subst hz;refine ab fun z hz=>?_;simp;refine af (by kernel_rfl) (w.fresh q0 (by omega)) ?_;rintro _ h2 ⟨rfl,o2,w2,f2⟩;subst hz;refine ab fun z hz=>?_;simp;refine aq (z:=.agg #[.int .i64 0,.int .i64 0,.int .i64 0,.slice none 0 0,.int .i32 0]) (places:=[(0,1),(1,1),(2,1),(3,1),(4,1)]) (vs:=[(0,.int .i64 1),(1,.int .i64 m.next),(4,.int .i32 n)]) (cs:=#[.int .i64 1,.int .i64 m.next,.int .i64 0,.slice none 0 0,.int .i32 n]) (by kernel_rfl) (by kernel_rfl) (by simp) (by rfl) ?_;have hm2:=hm.aG
 refine af (by kernel_rfl) (w2.add (i:=conD m.next n) hb (zq (imm:=⟨n⟩) ⟨⟨by decide,by decide⟩,⟨by omega,by omega⟩,⟨by decide,by decide⟩,hn⟩ aI) (by have:=hm2.ins b;omega) (by have:=hm2.live;omega)) ?_;rintro u3 h3 n3;subst hz;simp;exact hK _ _ ⟨rfl,n3.trans (View.le_refl _) f2⟩
theorem BF(w:Mk s M vs W h o m){c:Nat}(hb:b<m.blocks.length)(hm:m.ok c)(hc:c<=999990):
  aw Tryz.prog N.dr #[.pointer (some ⟨M,0,none⟩),.int .i64 b] h (fun u h'=>u = .int .i64 (aE s m b).1/\I64 (aE s m b).1/\Nx s M vs W h' o (aE s m b).2):=by
 refine ao (args:=[.pointer (some ⟨M,0,none⟩),.int .i64 b]) follows F.dr E.dr (Kw (by kernel_rfl)) fun K hK=>?_;have qa:=hm.at_;have ql:=hm.live;have hsd:aE s m b=_:=aE.eq_1 s m b;dsimp only[L.dr];refine ab fun z hz=>?_;simp;subst hz;refine ab fun z hz=>?_;simp;refine af (by kernel_rfl) (w.value (by omega) (by omega)) ?_;rintro u h2 hu;have con : ∀{m2:MS} {o2:Own} {h2:Heap} {ρ:Env} {z:LC},Mk s M vs W h2 o2 m2->(∀k:Key,3<=k.1->o2 k=o k)->m2.ok (c+3)->b<m2.blocks.length->aE s m b=(m2.next,BH s m2 b)->Lft.look ρ 0=some (.pointer (some ⟨M,0,none⟩))->Lft.look ρ 1=some (.int .i64 b)->
   LC.wp Tryz.prog (.seq (.reg false (.loud [19,20,21] [(19,(.tmp 0)),(20,(.tmp 1))] [(21,(.tmp 0))] none [] false (.call ⟨.value (.func N.cW),#[(.tmp 21)],#[T.pB]⟩) 21 (some 22) true
   (.loud [] [] [(19,(.tmp 19)),(20,(.tmp 20)),(22,(.tmp 22))] none [] false (.call ⟨.value (.func N.bK),#[(.tmp 19),(.tmp 20),(.tmp 22)],#[T.pB,3,21]⟩) 3 (some 23) true
    (.fin [4] [(4,(.tmp 23))] [])))) .ret) (eU (LC.wp Tryz.prog z (dH [.tmp 4] K)) (dH [.tmp 4] K)) ρ h2:=by intro m2 o2 h2 ρ z w2 f2 k2 b2 e2 r0 r1;refine ab fun y hy=>?_;simp[r0,r1];refine af (by kernel_rfl) (w2.word (by have:=k2.at_;omega)) ?_;rintro _ h3 ⟨rfl,o3,w3,f3⟩;simp[ag,ah,r0,r1];refine af (by kernel_rfl) (w3.constant (n:=kz s m2) b2 k2.took.took (by omega) oF) ?_;rintro _ h4 ⟨rfl,n4⟩;subst hy;simp[ag,ah];refine hK _ _ ⟨by rw[e2];rfl,by rw[e2];have:=k2.n0;have:=k2.next;exact⟨by show _<=m2.next;omega,by show m2.next<=_;omega⟩,?_⟩;rw[e2];exact n4.trans (View.le_refl _) fun k hk=>(f3 k hk).trans (f2 k hk)
 rcases hu with⟨h0,rfl,rfl⟩ | ⟨h0,rfl,hi64,o2,w2,f2⟩
 ·rw[if_pos h0]at hsd;simp;subst hz;refine ab fun z hz=>?_;refine ab fun y hy=>?_;simp;subst hy;refine aU (by simp) ?_;exact con w (fun _ _=>rfl) (hm.mono (by omega)) hb hsd (by simp[ag,ah]) (by simp[ag,ah])
 rw[if_neg h0]at hsd;simp;subst hz;refine ab fun z hz=>?_;refine ab fun y hy=>?_;simp;have k2:=hm.took.took;refine af (by kernel_rfl) (w2.take (by have:=k2.at_;omega) (n:=9) (by decide) (by decide)) ?_;rintro _ h3 ⟨rfl,o3,w3,f3⟩;have hx:m.took.took.at_=m.at_+2:=rfl;rw[hx];simp;subst hy;by_cases c9:aD s (m.at_+2) 9=0
 ·rw[if_pos c9]at hsd;refine aU (by simp[c9]) ?_;exact con w3 (fun k hk=>(f3 k hk).trans (f2 k hk)) k2.took hb hsd (by simp[ag,ah]) (by simp[ag,ah])
 rw[if_neg c9]at hsd;refine aV (by simp[c9]) ?_;simp;subst hz;simp;refine hK _ _ ⟨by rw[hsd],by rw[hsd];exact hi64,?_⟩;rw[hsd];exact w3.nx.trans (View.le_refl _) fun k hk=>(f3 k hk).trans (f2 k hk)
end
def Nz (s:List Int) (M:Nat) (vs:Value) (W0:View) (h:Heap) (o0:Own) (m:MS) (u:Value) (ds:List Int):Prop:=∃W o,W0.le W/\Mk s M vs W h o m/\(∀k:Key,3<=k.1->o k=o0 k)/\SlRd W u ds
section
variable {s:List Int} {M:Nat} {vs:Value} {W0:View} {h:Heap} {o0:Own} {m:MS} {u:Value} {ds:List Int}
theorem Nx.z(n:Nx s M vs W0 h o0 m):Nz s M vs W0 h o0 m (.slice none 0 0) []:=by obtain⟨W,o,h1,h2,h3⟩:=n;exact⟨W,o,h1,h2,h3,aI⟩
theorem Nz.x(n:Nz s M vs W0 h o0 m u ds):Nx s M vs W0 h o0 m:=by obtain⟨W,o,h1,h2,h3,_⟩:=n;exact⟨W,o,h1,h2,h3⟩
theorem Nz.call{f:FuncId}{args:Array Value}{m':MS}{U:Value->Prop}(hc : ∀{W o},Mk s M vs W h o m->aw Tryz.prog f args h (fun u h'=>U u/\Nx s M vs W h' o m'))(n:Nz s M vs W0 h o0 m u ds):
  aw Tryz.prog f args h (fun v h'=>U v/\Nz s M vs W0 h' o0 m' u ds):=by obtain⟨W,o,h1,h2,h3,h4⟩:=n;refine(hc h2).mono ?_;rintro v h' ⟨hU,W',o',g1,g2,g3⟩;exact⟨hU,W',o',View.le_trans h1 g1,g2,fun k hk=>(g3 k hk).trans (h3 k hk),h4.mono g1⟩
theorem fk(n:Nz s M vs W0 h o0 m u ds){c:Nat}(hm:m.ok c)(hc:c<=1000000){k:Int}(hk:0<k)(hk2:k<=1000000000):
  aw Tryz.prog N.cu #[.pointer (some ⟨M,0,none⟩),.int .i64 k] h (fun v h'=>v = .int .i64 (aD s m.at_ k)/\Nz s M vs W0 h' o0 m.took u ds):=
 n.call (U:=fun v=>v=_) fun w=>((w.take (by have:=hm.at_;omega) hk hk2).mono fun v h' ⟨e,o',w',f'⟩=>⟨e,w'.nx.trans (View.le_refl _) f'⟩)
theorem gB(n:Nz s M vs W0 h o0 m u ds){c:Nat}(hm:m.ok c)(hc:c<=1000000):
  aw Tryz.prog N.bU #[.pointer (some ⟨M,0,none⟩)] h (fun v h'=>v = .int .i64 m.next/\Nz s M vs W0 h' o0 m.aG u ds):=
 n.call (U:=fun v=>v=_) fun w=>((w.fresh hm.n0 (by have:=hm.next;omega)).mono fun v h' ⟨e,o',w',f'⟩=>⟨e,w'.nx.trans (View.le_refl _) f'⟩)
theorem ya(n:Nz s M vs W0 h o0 m u ds){c:Nat}(hm:m.ok c)(hc:c<=1000000):
  aw Tryz.prog N.cW #[.pointer (some ⟨M,0,none⟩)] h (fun v h'=>v = .int .i32 (kz s m)/\Nz s M vs W0 h' o0 m.took.took u ds):=
 n.call (U:=fun v=>v=_) fun w=>((w.word (by have:=hm.at_;omega)).mono fun v h' ⟨e,o',w',f'⟩=>⟨e,w'.nx.trans (View.le_refl _) f'⟩)
variable{b:Nat}
theorem gr(n:Nz s M vs W0 h o0 m u ds){c:Nat}(hb:b<m.blocks.length)(hm:m.ok c)(hc:c<=1000000){k:Int}(hk:-2147483648<=k/\k<=2147483647):
  aw Tryz.prog N.bK #[.pointer (some ⟨M,0,none⟩),.int .i64 b,.int .i32 k] h (fun v h'=>v = .int .i64 m.next/\Nz s M vs W0 h' o0 (m.constant b k) u ds):=
 n.call (U:=fun v=>v=_) fun w=>w.constant hb hm hc hk
theorem iA(n:Nz s M vs W0 h o0 m u ds){c:Nat}(hb:b<m.blocks.length)(hm:m.ok c)(hc:c<=999990):
  aw Tryz.prog N.dr #[.pointer (some ⟨M,0,none⟩),.int .i64 b] h (fun v h'=>(v = .int .i64 (aE s m b).1/\I64 (aE s m b).1)/\Nz s M vs W0 h' o0 (aE s m b).2 u ds):=
 n.call (U:=fun v=>v=_/\_) fun w=>(BF w hb hm hc).mono fun v h' ⟨e1,e2,e3⟩=>⟨⟨e1,e2⟩,e3⟩
variable{op:Int}
theorem kE(n:Nz s M vs W0 h o0 m u ds){c:Nat}{d two imm:Int}(hb:b<m.blocks.length)(hm:m.ok c)(hc:c<=1000000)(h1:I64 op)(h2:I64 d)(h3:I64 two)(h4:-2147483648<=imm/\imm<=2147483647):
  aw Tryz.prog N.dC #[.pointer (some ⟨M,0,none⟩),.int .i64 b,.agg #[.int .i64 op,.int .i64 d,.int .i64 two,u,.int .i32 imm]] h (fun v h'=>Nx s M vs W0 h' o0 (m.add b ⟨op,d,two,ds,⟨imm⟩⟩)):=by obtain⟨W,o,g1,g2,g3,g4⟩:=n;refine(g2.add (i:=⟨op,d,two,ds,⟨imm⟩⟩) hb (zq (imm:=⟨imm⟩) ⟨h1,h2,h3,h4⟩ g4) (by have:=hm.ins b;omega) (by have:=hm.live;omega)).mono ?_;rintro v h' n';exact n'.trans g1 g3
theorem Nz.lit{po:OP}(n:Nz s M vs W0 h o0 m u ds){ty:TypeId}{ps:Array (Nat × Operand)}{us:List (Nat × Value)}{ls:List Int}{k:Nat}{K:Value->Heap->Prop}(hp:ps.map (fun p=>(p.1,asg us p.2))=(((ls.map fun x=>Value.int .i64 x).zipIdx 0).map fun p=>(p.2,p.1)).toArray)(hr : ∀x∈ls,I64 x)(hn:ls.length=k)(hb:k<=16777216)(hk : ∀a n c h',(vw h).le (vw h')->Nz s M vs W0 h' o0 m (.slice a n c) ls->K (.slice a n c) h'):@Lft.step po Tryz.prog (.buildSlice T.aP k ps) ty us h K:=by
 obtain⟨W,o,g1,g2,g3,g4⟩:=n;have hra : ∀l:List Int,(∀x∈l,I64 x)->ov W (l.map fun x=>Value.int .i64 x) l:=by
  intro l;induction l with
  | nil=>intro _;trivial
  | cons a l ih=>intro hl;exact⟨bC.2 ⟨rfl,hl a (by simp)⟩,ih fun x hx=>hl x (by simp[hx])⟩
 refine kR (X:=W) (ds:=ls) (vs:=ls.map fun x=>Value.int .i64 x) rfl El.aP hp (hra ls hr) g2.own.wle hn hb fun v h' hle hs hv _=>?_;have hs2:=hv _ (bO g2.own.wle) (dw (Kz _));obtain⟨a,cp,rfl,_⟩:=id hs2;refine hk _ _ _ h' hle ?_;exact⟨_,o,View.le_trans g1 (bO g2.own.wle),⟨g2.own.ext hle,g2.src.mono (bO g2.own.wle),g2.box⟩,g3,hs2⟩
end
theorem MS.ok.jJ{c:Nat}{m:MS}(h:m.ok c)(hc:c<=1000000):I64 m.next:=by have:=h.n0;have:=h.next;constructor<;>omega
variable{b:Nat}
theorem dM{m:MS}{n:Int}:(m.constant b n).blocks.length=m.blocks.length:=lU
variable{op:Int}
theorem mO{m:MS}{x y:Int}:(m.two b op x y).blocks.length=m.blocks.length:=lU
theorem i64c{x:Int}(h0:-1000<=x:=by decide)(h1:x<=1000:=by decide):I64 x:=⟨by omega,by omega⟩
variable{vs:Value}
theorem Co{s:List Int}{M:Nat}{W0:View}{h:Heap}{o0:Own}{m:MS}(n:Nx s M vs W0 h o0 m){c:Nat}{store:Bool}(hb:b<m.blocks.length)(hm:m.ok c)(hc:c<=900000):
  aw Tryz.prog N.dg #[.pointer (some ⟨M,0,none⟩),.int .i64 b,.bool store] h (fun v h'=>Nx s M vs W0 h' o0 (ja s m b store)):=by
 refine ao (args:=[.pointer (some ⟨M,0,none⟩),.int .i64 b,.bool store]) follows F.dg E.dg (Kw (by kernel_rfl)) fun K hK=>?_;dsimp only[L.dg];have n:=n.z;have hmm:ja s m b store=_:=ja.eq_1 s m b store;refine ab fun z hz=>?_;simp;refine af (by kernel_rfl) (fk n hm (by omega) (k:=9) (by decide) (by decide)) ?_;rintro _ h1 ⟨rfl,n⟩;simp;refine af (by kernel_rfl) (gr n (b:=b) hb hm.took (by omega) (k:=IntKind.i32.wrap (aD s m.at_ 9)) lS) ?_;rintro _ h2 ⟨rfl,n⟩;have q:=hm.took.constant (b:=b) (n:=IntKind.i32.wrap (aD s m.at_ 9))
 have hb1:b<(m.took.constant b (IntKind.i32.wrap (aD s m.at_ 9))).blocks.length:=by rw[dM];exact hb
 obtain⟨m1,hm1⟩ : ∃m1,m1=m.took.constant b (IntKind.i32.wrap (aD s m.at_ 9)):=⟨_,rfl⟩;have had:nI s m b=_:=nI.eq_1 s m b;rw[<-hm1]at n q hb1;simp only[<-hm1]at had;have hnx:I64 m.next:=hm.jJ (by omega);have hnt:m.took.next=m.next:=rfl;rw[hnt];generalize m.next=a0 at had hnx;clear hm1 hm hnt;subst hz;refine ab fun z hz=>?_;have fin : ∀(a:Int) (m2:MS) (h':Heap) (ρ:Env),nI s m b=(a,m2)->I64 a->m2.ok (c+30)->b<m2.blocks.length->Nz s M vs W0 h' o0 m2 (.slice none 0 0) []->Lft.look ρ 0=some (.pointer (some ⟨M,0,none⟩))->Lft.look ρ 1=some (.int .i64 b)->Lft.look ρ 2=some (.bool store)->Lft.look ρ 6=some (.int .i64 a)->LC.wp Tryz.prog z (dH [] K) ρ h':=by
  intro a m2 h' ρ e ha q hb n r0 r1 r2 r6;subst hz;simp only[e]at hmm;refine ab fun z hz=>?_;simp[ag,ah,r0,r1,r2,r6];refine af (by kernel_rfl) (fk n q (by omega) (k:=4) (by decide) (by decide)) ?_;rintro _ h1 ⟨rfl,n⟩;simp[ag,ah,r0,r1,r2,r6];subst hz;refine ab fun z hz=>?_;have fin2 : ∀(i:Int) (m3:MS) (h':Heap) (ρ:Env),offS s m2=(i,m3)->(-2147483648<=i/\i<=2147483647)->m3.ok (c+40)->b<m3.blocks.length->Nz s M vs W0 h' o0 m3 (.slice none 0 0) []->Lft.look ρ 0=some (.pointer (some ⟨M,0,none⟩))->Lft.look ρ 1=some (.int .i64 b)->Lft.look ρ 2=some (.bool store)->Lft.look ρ 6=some (.int .i64 a)->Lft.look ρ 11=some (.int .i32 i)->LC.wp Tryz.prog z (dH [] K) ρ h':=by
   intro i m3 h' ρ e hi q hb n r0 r1 r2 r6 r11;subst hz;simp only[e]at hmm;refine ab fun z hz=>?_;simp[ag,ah,r0,r1,r2,r6,r11];subst hz;cases store with
   | true=>rw[if_pos rfl]at hmm;refine aU (by simp[ag,ah,r2]) ?_;simp[ag,ah,r0,r1,r2,r6,r11];refine af (by kernel_rfl) (iA n hb q (by omega)) ?_;rintro _ h1 ⟨⟨rfl,hs⟩,n⟩;refine n.lit (ls:=[a,(aE s m3 b).1]) (by simp) (by simp[ha,hs]) rfl (by decide) fun ua un uc h2 _ n=>?_;refine aq (z:=.agg #[.int .i64 0,.int .i64 0,.int .i64 0,.slice none 0 0,.int .i32 0]) (places:=[(0,1),(1,1),(2,1),(3,1),(4,1)]) (vs:=[(0,.int .i64 16),(3,.slice ua un uc),(4,.int .i32 i)]) (cs:=#[.int .i64 16,.int .i64 0,.int .i64 0,.slice ua un uc,.int .i32 i]) (by kernel_rfl) (by kernel_rfl) (by simp) (by rfl) ?_;refine af (by kernel_rfl) (kE n (b:=b) (by rw[dW];exact hb) (q.aE (b:=b)) (by omega) i64c i64c i64c hi) ?_;rintro _ h3 n;refine hK _ _ ?_;rw[hmm];exact n
   | false=>rw[if_neg (by simp)]at hmm;refine aV (by simp[ag,ah,r2]) ?_;simp[ag,ah,r0,r1,r2,r6,r11];refine af (by kernel_rfl) (gB n q (by omega)) ?_;rintro _ h1 ⟨rfl,n⟩;refine n.lit (ls:=[a]) (by simp) (by simp[ha]) rfl (by decide) fun ua un uc h2 _ n=>?_;refine aq (z:=.agg #[.int .i64 0,.int .i64 0,.int .i64 0,.slice none 0 0,.int .i32 0]) (places:=[(0,1),(1,1),(2,1),(3,1),(4,1)]) (vs:=[(0,.int .i64 15),(1,.int .i64 m3.next),(3,.slice ua un uc),(4,.int .i32 i)]) (cs:=#[.int .i64 15,.int .i64 m3.next,.int .i64 0,.slice ua un uc,.int .i32 i]) (by kernel_rfl) (by kernel_rfl) (by simp) (by rfl) ?_;refine af (by kernel_rfl) (kE n (b:=b) hb q.aG (by omega) i64c (q.jJ (by omega)) i64c hi) ?_;rintro _ h3 n;refine hK _ _ ?_;rw[hmm];exact n
  have hof:offS s m2=_:=offS.eq_1 s m2;refine ab fun y hy=>?_;simp[ag,ah,r0,r1,r2,r6];refine af (by kernel_rfl) (fk n q.took (by omega) (k:=12) (by decide) (by decide)) ?_;rintro _ h2 ⟨rfl,n⟩;have hx:m2.took.at_=m2.at_+1:=rfl
  rw[hx];simp[ag,ah,r0,r1,r2,r6];subst hy;by_cases c12:aD s (m2.at_+1) 12=0
  ·rw[if_pos c12]at hof;refine aU (by simp[ag,ah,c12]) ?_;simp[ag,ah,r0,r1,r2,r6];refine af (by kernel_rfl) (ya n q.took.took (by omega)) ?_;rintro _ h3 ⟨rfl,n⟩;exact fin2 _ _ h3 _ hof oF (q.took.took.took.took.mono (by omega)) hb n (by simp[ag,ah,r0]) (by simp[ag,ah,r1]) (by simp[ag,ah,r2]) (by simp[ag,ah,r6]) (by simp[ag,ah])
  rw[if_neg c12]at hof;refine aV (by simp[ag,ah,c12]) ?_;simp[ag,ah,r0,r1,r2,r6];exact fin2 _ _ h2 _ hof lS (q.took.took.mono (by omega)) hb n (by simp[ag,ah,r0]) (by simp[ag,ah,r1]) (by simp[ag,ah,r2]) (by simp[ag,ah,r6]) (by simp[ag,ah])
 refine ab fun y hy=>?_;simp;refine af (by kernel_rfl) (fk n q (by omega) (k:=3) (by decide) (by decide)) ?_;rintro _ h3 ⟨rfl,n⟩;simp;subst hy;by_cases c3:aD s m1.at_ 3=0
 ·rw[if_pos c3]at had;refine aU (by simp[c3]) ?_;refine ab fun y hy=>?_;simp;refine af (by kernel_rfl) (iA n (b:=b) hb1 q.took (by omega)) ?_;rintro _ h4 ⟨⟨rfl,hs⟩,n⟩;have q:=q.took.aE (s:=s) (b:=b);have hb2:b<(aE s m1.took b).2.blocks.length:=by rw[dW];exact hb1
  generalize aE s m1.took b=r at had hs n q hb2;subst hy;refine ab fun y hy=>?_;simp;refine af (by kernel_rfl) (gr n (b:=b) hb2 q (by omega) (k:=7) (by decide)) ?_;rintro _ h5 ⟨rfl,n⟩;subst hy;refine ab fun y hy=>?_;simp;have q5:=q.constant (b:=b) (n:=7);refine af (by kernel_rfl) (gB n q5 (by omega)) ?_;rintro _ h6 ⟨rfl,n⟩;have hn5:(r.2.constant b 7).next=r.2.next+1:=rfl;rw[hn5];subst hy;refine ab fun y hy=>?_;simp;have i5:=q5.jJ (by omega)
  rw[hn5]at i5;refine n.lit (ls:=[r.1,r.2.next]) (by simp) (by simp[hs,q.jJ (by omega:c+1+3+1+10<=1000000)]) rfl (by decide) fun ua un uc h7 _ n=>?_;refine aq (z:=.agg #[.int .i64 0,.int .i64 0,.int .i64 0,.slice none 0 0,.int .i32 0]) (places:=[(0,1),(1,1),(2,1),(3,1),(4,1)]) (vs:=[(0,.int .i64 5),(1,.int .i64 (r.2.next+1)),(3,.slice ua un uc)]) (cs:=#[.int .i64 5,.int .i64 (r.2.next+1),.int .i64 0,.slice ua un uc,.int .i32 0]) (by kernel_rfl) (by kernel_rfl) (by simp) (by rfl) ?_;refine af (by kernel_rfl) (kE n (b:=b) (imm:=0) (by rw[show(r.2.constant b 7).aG.blocks=(r.2.constant b 7).blocks from rfl,dM];exact hb2) q5.aG (by omega) i64c i5 i64c (by decide)) ?_;rintro _ h8 n;have n:Nx s M vs W0 h8 o0 ((r.2.constant b 7).two b 5 r.1 r.2.next):=n;have q6:=q5.two (b:=b) (op:=5) (x:=r.1) (y:=r.2.next);have hb3:b<((r.2.constant b 7).two b 5 r.1 r.2.next).blocks.length:=by rw[mO,dM];exact hb2
  generalize (r.2.constant b 7).two b 5 r.1 r.2.next=m3 at had n q6 hb3;have n:=n.z;subst hy;refine ab fun y hy=>?_;simp;refine af (by kernel_rfl) (gB n q6 (by omega)) ?_;rintro _ h9 ⟨rfl,n⟩;subst hy;refine ab fun y hy=>?_;simp;refine n.lit (ls:=[a0,r.2.next+1]) (by simp) (by simp[hnx,i5]) rfl (by decide) fun ua2 un2 uc2 h10 _ n=>?_;refine aq (z:=.agg #[.int .i64 0,.int .i64 0,.int .i64 0,.slice none 0 0,.int .i32 0]) (places:=[(0,1),(1,1),(2,1),(3,1),(4,1)]) (vs:=[(0,.int .i64 2),(1,.int .i64 m3.next),(3,.slice ua2 un2 uc2)]) (cs:=#[.int .i64 2,.int .i64 m3.next,.int .i64 0,.slice ua2 un2 uc2,.int .i32 0]) (by kernel_rfl) (by kernel_rfl) (by simp) (by rfl) ?_;refine af (by kernel_rfl) (kE n (b:=b) (imm:=0) hb3 q6.aG (by omega) i64c (q6.jJ (by omega)) i64c (by decide)) ?_;rintro _ h11 n;subst hy;simp;refine fin m3.next (m3.two b 2 a0 (r.2.next+1)) h11 _ had (q6.jJ (by omega)) (q6.two.mono (by omega)) (by rw[mO];exact hb3) n.z ?_ ?_ ?_ ?_;all_goals simp
 rw[if_neg c3]at had;refine aV (by simp[c3]) ?_;simp;exact fin a0 m1.took h3 _ had hnx (q.took.mono (by omega)) hb1 n (by simp) (by simp) (by simp) (by simp)
section
variable {s:List Int} {M:Nat} {vs:Value} {W0:View} {h:Heap} {o0:Own} {m:MS} {u:Value} {ds:List Int}
theorem Nz.le (n:Nz s M vs W0 h o0 m u ds):W0.le (vw h):=by obtain⟨W,o,h1,h2,_⟩:=n;exact View.le_trans h1 h2.own.wle
theorem Nz.base(n:Nz s M vs W0 h o0 m u ds): ∃W o,Nz s M vs W h o m u ds/\SlRd W u ds/\∀{h' m' u' ds'},Nz s M vs W h' o m' u' ds'->Nz s M vs W0 h' o0 m' u' ds':=by obtain⟨W,o,h1,h2,h3,h4⟩:=n;refine⟨W,o,⟨W,o,View.le_refl _,h2,fun _ _=>rfl,h4⟩,h4,?_⟩;rintro h' m' u' ds' ⟨W',o',g1,g2,g3,g4⟩;exact⟨W',o',View.le_trans h1 g1,g2,fun k hk=>(g3 k hk).trans (h3 k hk),g4⟩
end
theorem EM{H:View}{B n:Nat}{l:List Int}{t:TypeId}(hb:H B=some (.cells (l.map fun x=>Value.int .i64 x).toArray t (0,0)))(hn:l.length=n)(h1:0<n/\n<=1000)(hr : ∀x∈l,I64 x):SlRd H (.slice (some ⟨B,0,none⟩) n n) l:=by
 refine⟨some ⟨B,0,none⟩,n,by rw[hn],by omega,by omega,.inr ⟨⟨B,0,none⟩,rfl,rfl,fun i hi=>?_⟩⟩;have e:(⟨B,0,none⟩:Addr).add (i*Rep.n Int)=⟨B,i,none⟩:=by show(⟨B,0,none⟩:Addr).add (i*1)=_;simp
 rw[e];refine⟨[.int .i64 l[i]],⟨_,t,(0,0),rfl,hb,?_⟩,(bC (v:=.int .i64 l[i]) (H:=H)).2 ⟨rfl,hr _ (Ly hi)⟩ |> fun q=>?_⟩
 ·show((l.map fun x=>Value.int .i64 x).toArray.toList.drop i).take 1=_;rw[List.toList_toArray,KY (by simpa using hi)];simp
 exact⟨rfl,hr _ (Ly hi)⟩
theorem DX: ∀x∈opsL,I64 x:=by
 intro x hx;have : ∀x∈opsL,0<=x/\x<=12:=by decide
 have:=this x hx;exact⟨by omega,by omega⟩
variable{vb vl:Value}{lb:List BlkM}
theorem MkB.frame{M:Nat}{m:MS}{o o':Own}(b:MkB M vs m o vb vl lb)(hf : ∀k:Key,k.1<3->o' k=o k):MkB M vs m o' vb vl lb:=
 ⟨(hf _ (by decide)).trans b.box,(hf _ (by decide)).trans b.live,(hf _ (by decide)).trans b.blk,b.len,b.term,fun i hi=>(hf _ (by show 1<3;decide)).trans (b.phis i hi),fun i hi=>(hf _ (by show 2<3;decide)).trans (b.ins i hi)⟩
theorem yR{s:List Int}{x:List Int × MS}: ∀k,(up (ia s b) k x).2.blocks.length=x.2.blocks.length:=by
 intro k;induction k with
 | zero=>rfl
 | succ k ih=>show(aE s (up (ia s b) k x).2 b).2.blocks.length=_;rw[dW,ih]
theorem Bz{s:List Int}{c:Nat}{x:List Int × MS}(hx:x.2.ok c): ∀k,(up (ia s b) k x).2.ok (c+10*k)/\(up (ia s b) k x).1.length=x.1.length+k/\(up (ia s b) k x).2.blocks.length=x.2.blocks.length:=by
 intro k;induction k with
 | zero=>exact⟨hx,rfl,rfl⟩
 | succ k ih=>
  obtain⟨h1,h2,h3⟩:=ih;refine⟨(h1.aE).mono (by omega),?_,?_⟩
  ·show((up (ia s b) k x).1++[_]).length=_;rw[KK,h2,KW];omega
  show(aE s (up (ia s b) k x).2 b).2.blocks.length=_;rw[dW,h3]
theorem uN{s:List Int}{M:Nat}{W0:View}{h:Heap}{o0:Own}{m:MS}(n:Nx s M vs W0 h o0 m){c:Nat}(hb:b<m.blocks.length)(hm:m.ok c)(hc:c<=800000)(hfree:o0 (9,0)=none):
  aw Tryz.prog N.bc #[.pointer (some ⟨M,0,none⟩),.int .i64 b] h (fun v h'=>Nx s M vs W0 h' o0 (aL s b m)):=by
 refine ao (args:=[.pointer (some ⟨M,0,none⟩),.int .i64 b]) follows F.bc E.bc (Kw (by kernel_rfl)) fun K hK=>?_;dsimp only[L.bc];have n:=n.z;have hmm:aL s b m=_:=aL.eq_1 s b m;refine ab fun z hz=>?_;simp;refine af (by kernel_rfl) (fk n hm (by omega) (k:=20) (by decide) (by decide)) ?_;rintro _ h1 ⟨rfl,n⟩;obtain⟨k0,k1⟩:=dd (s:=s) (at_:=m.at_) (n:=20) (by decide);have q:=hm.took
 have hb1:b<m.took.blocks.length:=hb;subst hz;generalize aD s m.at_ 20=k at hmm k0 k1;generalize hm1:m.took=m1 at hmm n q hb1;have hw:kz s m1=kz s m1:=rfl;simp only[aH];refine ab fun z hz=>?_;simp;subst hz;by_cases c1:k<12
 ·rw[if_pos c1]at hmm;refine aU (by simp[c1]) ?_;obtain⟨kn,rfl⟩ : ∃kn:Nat,k=kn:=⟨k.toNat,by omega⟩;have hkn:kn<12:=by omega
  refine ab fun z hz=>?_;simp;have hcs:(#[.int .i64 2,.int .i64 2,.int .i64 3,.int .i64 4,.int .i64 5,.int .i64 6,.int .i64 7,.int .i64 8,.int .i64 9,.int .i64 10,.int .i64 12,.int .i64 11]:Array Value)=(opsL.map fun x=>Value.int .i64 x).toArray:=rfl;refine aq (z:=.agg #[.int .i64 0,.int .i64 0,.int .i64 0,.int .i64 0,.int .i64 0,.int .i64 0,.int .i64 0,.int .i64 0,.int .i64 0,.int .i64 0,.int .i64 0,.int .i64 0]) (places:=[(0,1),(1,1),(2,1),(3,1),(4,1),(5,1),(6,1),(7,1),(8,1),(9,1),(10,1),(11,1)]) (vs:=[(0,.int .i64 2),(1,.int .i64 2),(2,.int .i64 3),(3,.int .i64 4),(4,.int .i64 5),(5,.int .i64 6),(6,.int .i64 7),(7,.int .i64 8),(8,.int .i64 9),(9,.int .i64 10),(10,.int .i64 12),(11,.int .i64 11)])
   (cs:=#[.int .i64 2,.int .i64 2,.int .i64 3,.int .i64 4,.int .i64 5,.int .i64 6,.int .i64 7,.int .i64 8,.int .i64 9,.int .i64 10,.int .i64 12,.int .i64 11]) (by kernel_rfl) (by kernel_rfl) (by simp) (by rfl) ?_;refine gS (v:=.agg #[.int .i64 2,.int .i64 2,.int .i64 3,.int .i64 4,.int .i64 5,.int .i64 6,.int .i64 7,.int .i64 8,.int .i64 9,.int .i64 10,.int .i64 12,.int .i64 11]) (z:=.agg #[.int .i64 0,.int .i64 0,.int .i64 0,.int .i64 0,.int .i64 0,.int .i64 0,.int .i64 0,.int .i64 0,.int .i64 0,.int .i64 0,.int .i64 0,.int .i64 0]) (n:=12) (by kernel_rfl) rfl (by kernel_rfl) rfl (by simp[Value.cells,Value.oneCell']) (fun _=>by simp) (fun _=>by simp) fun h2 hle2 hs2 hb2=>?_
  have n:Nz s M vs W0 h2 o0 m1 (.slice (some ⟨h1.size,0,none⟩) 12 12) opsL:=by
   obtain⟨W,o,g1,g2,g3,g4⟩:=n;refine⟨_,o,View.le_trans g1 (bO g2.own.wle),⟨g2.own.ext hle2,g2.src.mono (bO g2.own.wle),g2.box⟩,g3,?_⟩;have hg:grow W h1 h2 h1.size=some (.cells (opsL.map fun x=>Value.int .i64 x).toArray T.Ge (0,0)):=by rw[dw (Kz _),hb2];rfl
   exact EM hg rfl (by decide) DX
  generalize h1.size=B at n;subst hz;refine ab fun z hz=>?_;simp;refine af (by kernel_rfl) (iA n hb1 q (by omega)) ?_;rintro _ h3 ⟨⟨rfl,i2⟩,n⟩;have q:=q.aE (s:=s) (b:=b);have hb2:b<(aE s m1 b).2.blocks.length:=by rw[dW];exact hb1
  simp only[binS]at hmm;generalize aE s m1 b=r1 at hmm n q hb2 i2;subst hz;refine ab fun z hz=>?_;simp;refine af (by kernel_rfl) (iA n hb2 q (by omega)) ?_;rintro _ h4 ⟨⟨rfl,i3⟩,n⟩;have q:=q.aE (s:=s) (b:=b);have hb3:b<(aE s r1.2 b).2.blocks.length:=by rw[dW];exact hb2
  generalize aE s r1.2 b=r2 at hmm n q hb3 i3;subst hz;refine ab fun z hz=>?_;have fin : ∀(e:Int) (m3:MS) (h':Heap) (ρ:Env),aL s b m=m3.two b (nth opsL kn) r1.1 e->I64 e->m3.ok (c+60)->b<m3.blocks.length->Nz s M vs W0 h' o0 m3 (.slice (some ⟨B,0,none⟩) 12 12) opsL->Lft.look ρ 0=some (.pointer (some ⟨M,0,none⟩))->Lft.look ρ 1=some (.int .i64 b)->Lft.look ρ 4=some (.int .i64 kn)->Lft.look ρ 5=some (.pointer (some ⟨B,0,none⟩))->Lft.look ρ 6=some (.int .i64 r1.1)->Lft.look ρ 7=some (.int .i64 e)->LC.wp Tryz.prog z (eY 0 (dH [] K)) ρ h':=by
   intro e m3 h' ρ hmm ie q hb n r0 r1' r4 r5 r6 r7;subst hz;obtain⟨W,o,n,sl,back⟩:=n.base;have iop:=sl.range (i:=kn) (by show kn<12;omega);have hop:aj W ⟨B,kn,none⟩=some (.int .i64 (nth opsL kn)):=by have:=sl.int (View.le_refl W) (i:=kn) (by show kn<12;omega);simpa[slA]using this
   have hix:Bn.ev (.aidx 12 1) (.pointer (some ⟨B,0,none⟩)) (.int .i64 kn)=some (.pointer (some ⟨B,kn,none⟩)):=by simp only[Bn.ev,vP,vI,KS];rw[if_pos ⟨by omega,by omega⟩];simp
   generalize nth opsL kn=op at hmm iop hop;refine aS W n.le ?_;simp[ag,ah,r0,r1',r4,r5,r6,r7,hix,hop];constructor
   ·refine af (by kernel_rfl) (gB n q (by omega)) ?_;rintro _ h4 ⟨rfl,n⟩;refine⟨n.le,?_⟩;refine n.lit (ls:=[r1.1,e]) (by simp) (by simp[i2,ie]) rfl (by decide) fun ua un uc h5 _ n=>⟨n.le,?_⟩;refine aq (z:=.agg #[.int .i64 0,.int .i64 0,.int .i64 0,.slice none 0 0,.int .i32 0]) (places:=[(0,1),(1,1),(2,1),(3,1),(4,1)]) (vs:=[(0,.int .i64 op),(1,.int .i64 m3.next),(3,.slice ua un uc)]) (cs:=#[.int .i64 op,.int .i64 m3.next,.int .i64 0,.slice ua un uc,.int .i32 0]) (by kernel_rfl) (by kernel_rfl) (by simp) (by rfl) ?_;refine af (by kernel_rfl) (kE n (b:=b) hb q.aG (by omega) iop (q.jJ (by omega)) i64c (by decide)) ?_;rintro _ h6 n;exact hK _ _ (by rw[hmm];exact(back n.z).x)
   refine n.lit (ls:=[r1.1,e]) (by simp) (by simp[i2,ie]) rfl (by decide) fun ua un uc h5 _ n=>⟨n.le,?_⟩;refine af (by kernel_rfl) (gB n q (by omega)) ?_;rintro _ h4 ⟨rfl,n⟩;refine⟨n.le,?_⟩;refine aq (z:=.agg #[.int .i64 0,.int .i64 0,.int .i64 0,.slice none 0 0,.int .i32 0]) (places:=[(0,1),(1,1),(2,1),(3,1),(4,1)]) (vs:=[(0,.int .i64 op),(1,.int .i64 m3.next),(3,.slice ua un uc)]) (cs:=#[.int .i64 op,.int .i64 m3.next,.int .i64 0,.slice ua un uc,.int .i32 0]) (by kernel_rfl) (by kernel_rfl) (by simp) (by rfl) ?_;refine af (by kernel_rfl) (kE n (b:=b) hb q.aG (by omega) iop (q.jJ (by omega)) i64c (by decide)) ?_;rintro _ h6 n;exact hK _ _ (by rw[hmm];exact(back n.z).x)
  refine ab fun y hy=>?_;simp;refine af (by kernel_rfl) (fk n q (by omega) (k:=3) (by decide) (by decide)) ?_;rintro _ h5 ⟨rfl,n⟩;simp;subst hy;by_cases c4:aD s r2.2.at_ 3=0
  ·rw[if_pos c4]at hmm;refine aU (by simp[c4]) ?_;simp;refine af (by kernel_rfl) (fk n q.took (by omega) (k:=40) (by decide) (by decide)) ?_;rintro _ h6 ⟨rfl,n⟩;have hx:r2.2.took.at_=r2.2.at_+1:=rfl;rw[hx];simp;refine af (by kernel_rfl) (gr n (b:=b) hb3 q.took.took (by omega) (k:=IntKind.i32.wrap (IntKind.i64.wrap (aD s (r2.2.at_+1) 40-8))) lS) ?_;rintro _ h7 ⟨rfl,n⟩;refine fin r2.2.next _ h7 _ hmm (q.jJ (by omega)) (q.took.took.constant.mono (by omega)) (by rw[dM];exact hb3) n ?_ ?_ ?_ ?_ ?_ ?_;all_goals simp
   rfl
  rw[if_neg c4]at hmm;refine aV (by simp[c4]) ?_;simp;refine fin r2.1 _ h5 _ hmm i3 (q.took.mono (by omega)) hb3 n ?_ ?_ ?_ ?_ ?_ ?_;all_goals simp
 rw[if_neg c1]at hmm;refine aV (by simp[c1]) ?_;refine ab fun z hz=>?_;simp;subst hz;by_cases c2:k=12
 ·rw[if_pos c2]at hmm;refine aU (by simp[c2]) ?_;refine ab fun z hz=>?_;simp;refine af (by kernel_rfl) (iA n hb1 q (by omega)) ?_;rintro _ h2 ⟨⟨rfl,i2⟩,n⟩;have q:=q.aE (s:=s) (b:=b);have hb2:b<(aE s m1 b).2.blocks.length:=by rw[dW];exact hb1
  simp only[ltuS]at hmm;generalize aE s m1 b=r1 at hmm n q hb2 i2;subst hz;refine ab fun z hz=>?_;simp;refine af (by kernel_rfl) (iA n hb2 q (by omega)) ?_;rintro _ h3 ⟨⟨rfl,i3⟩,n⟩;have q:=q.aE (s:=s) (b:=b);have hb3:b<(aE s r1.2 b).2.blocks.length:=by rw[dW];exact hb2
  generalize aE s r1.2 b=r2 at hmm n q hb3 i3;subst hz;simp;refine af (by kernel_rfl) (gB n q (by omega)) ?_;rintro _ h4 ⟨rfl,n⟩;refine n.lit (ls:=[r1.1,r2.1]) (by simp) (by simp[i2,i3]) rfl (by decide) fun ua un uc h5 _ n=>?_;refine aq (z:=.agg #[.int .i64 0,.int .i64 0,.int .i64 0,.slice none 0 0,.int .i32 0]) (places:=[(0,1),(1,1),(2,1),(3,1),(4,1)]) (vs:=[(0,.int .i64 13),(1,.int .i64 r2.2.next),(3,.slice ua un uc)]) (cs:=#[.int .i64 13,.int .i64 r2.2.next,.int .i64 0,.slice ua un uc,.int .i32 0]) (by kernel_rfl) (by kernel_rfl) (by simp) (by rfl) ?_;refine af (by kernel_rfl) (kE n (b:=b) hb3 q.aG (by omega) i64c (q.jJ (by omega)) i64c (by decide)) ?_;rintro _ h6 n;exact hK _ _ (by rw[hmm];exact n)
 rw[if_neg c2]at hmm;refine aV (by simp[c2]) ?_;refine ab fun z hz=>?_;simp;subst hz;by_cases c3:k=13
 ·rw[if_pos c3]at hmm;refine aU (by simp[c3]) ?_;refine ab fun z hz=>?_;simp;refine af (by kernel_rfl) (iA n hb1 q (by omega)) ?_;rintro _ h2 ⟨⟨rfl,i2⟩,n⟩;have q:=q.aE (s:=s) (b:=b);have hb2:b<(aE s m1 b).2.blocks.length:=by rw[dW];exact hb1
  simp only[divS]at hmm;generalize aE s m1 b=r1 at hmm n q hb2 i2;subst hz;refine ab fun z hz=>?_;simp;refine af (by kernel_rfl) (fk n q (by omega) (k:=12) (by decide) (by decide)) ?_;rintro _ h3 ⟨rfl,n⟩;simp;refine af (by kernel_rfl) (gr n (b:=b) hb2 q.took (by omega) (k:=IntKind.i32.wrap (aD s r1.2.at_ 12)) lS) ?_;rintro _ h4 ⟨rfl,n⟩;have i4:I64 r1.2.took.next:=q.took.jJ (by omega);have q:=q.took.constant (b:=b) (n:=IntKind.i32.wrap (aD s r1.2.at_ 12));have hb3:b<(r1.2.took.constant b (IntKind.i32.wrap (aD s r1.2.at_ 12))).blocks.length:=by rw[dM];exact hb2
  have ht:r1.2.took.next=r1.2.next:=rfl;rw[ht]at i4 ⊢;generalize r1.2.took.constant b (IntKind.i32.wrap (aD s r1.2.at_ 12))=m2 at hmm n q hb3;generalize r1.2.next=d at hmm i4;subst hz;refine ab fun z hz=>?_;have fin : ∀(e:Int) (m3:MS) (h':Heap) (ρ:Env),aL s b m=m3.two b 14 r1.1 e->I64 e->m3.ok (c+60)->b<m3.blocks.length->Nz s M vs W0 h' o0 m3 (.slice none 0 0) []->Lft.look ρ 0=some (.pointer (some ⟨M,0,none⟩))->Lft.look ρ 1=some (.int .i64 b)->Lft.look ρ 10=some (.int .i64 r1.1)->Lft.look ρ 11=some (.int .i64 e)->LC.wp Tryz.prog z (eY 0 (dH [] K)) ρ h':=by intro e m3 h' ρ hmm ie q hb n r0 r1' r10 r11;subst hz;simp[ag,ah,r0,r1',r10,r11];refine af (by kernel_rfl) (gB n q (by omega)) ?_;rintro _ h4 ⟨rfl,n⟩;refine n.lit (ls:=[r1.1,e]) (by simp) (by simp[i2,ie]) rfl (by decide) fun ua un uc h5 _ n=>?_;refine aq (z:=.agg #[.int .i64 0,.int .i64 0,.int .i64 0,.slice none 0 0,.int .i32 0]) (places:=[(0,1),(1,1),(2,1),(3,1),(4,1)]) (vs:=[(0,.int .i64 14),(1,.int .i64 m3.next),(3,.slice ua un uc)]) (cs:=#[.int .i64 14,.int .i64 m3.next,.int .i64 0,.slice ua un uc,.int .i32 0]) (by kernel_rfl) (by kernel_rfl) (by simp) (by rfl) ?_;refine af (by kernel_rfl) (kE n (b:=b) hb q.aG (by omega) i64c (q.jJ (by omega)) i64c (by decide)) ?_;rintro _ h6 n;exact hK _ _ (by rw[hmm];exact n)
  refine ab fun y hy=>?_;simp;refine af (by kernel_rfl) (fk n q (by omega) (k:=3) (by decide) (by decide)) ?_;rintro _ h5 ⟨rfl,n⟩;simp;subst hy;by_cases c4:0<aD s m2.at_ 3
  ·rw[if_pos c4]at hmm;refine aU (by simp[c4]) ?_;simp;refine af (by kernel_rfl) (fk n q.took (by omega) (k:=12) (by decide) (by decide)) ?_;rintro _ h6 ⟨rfl,n⟩;have hx:m2.took.at_=m2.at_+1:=rfl;rw[hx];simp;refine af (by kernel_rfl) (gr n (b:=b) hb3 q.took.took (by omega) (k:=IntKind.i32.wrap (1+IntKind.i32.wrap (aD s (m2.at_+1) 12))) lS) ?_;rintro _ h7 ⟨rfl,n⟩;refine fin m2.next _ h7 _ hmm (q.jJ (by omega)) (q.took.took.constant.mono (by omega)) (by rw[dM];exact hb3) n ?_ ?_ ?_ ?_;all_goals simp
   rfl
  rw[if_neg c4]at hmm;refine aV (by simp[c4]) ?_;simp;refine fin d _ h5 _ hmm i4 (q.took.mono (by omega)) hb3 n ?_ ?_ ?_ ?_;all_goals simp
 rw[if_neg c3]at hmm;refine aV (by simp[c3]) ?_;refine ab fun z hz=>?_;simp;subst hz;by_cases c4:k<16
 ·rw[if_pos c4]at hmm;refine aU (by simp[c4]) ?_;simp;refine af (by kernel_rfl) (Co n.x (store:=decide (k=15)) hb1 q (by omega)) ?_;rintro _ h2 n;exact hK _ _ (by rw[hmm];exact n)
 rw[if_neg c4]at hmm;refine aV (by simp[c4]) ?_;refine ab fun z hz=>?_;simp;subst hz;by_cases c5:k=16
 ·rw[if_pos c5]at hmm;refine aU (by simp[c5]) ?_;refine ab fun z hz=>?_;simp;obtain⟨W,o,g1,w,f,-⟩:=n;have hk9:o (9,0)=none:=(f _ (by decide)).trans hfree;refine w.own.kZ (k:=(9,0)) (α:=Int) hk9 El.aP fun v h2 hle2 hv w2 _=>?_;have w2:Mk s M vs W h2 (o.upd (9,0) (it T.int v ([]:List Int))) m1:=by obtain⟨vb,vl,lb,bb⟩:=w.box;exact⟨w2,w.src,vb,vl,lb,bb.frame fun k hk=>Own.ay (by rintro rfl;simp at hk)⟩
  subst hz;refine ab fun z hz=>?_;simp;refine af (by kernel_rfl) (w2.take (by have:=q.at_;omega) (n:=5) (by decide) (by decide)) ?_;rintro _ h3 ⟨rfl,o3,w3,f3⟩;simp only[nD]at hmm;have q:=q.took;have hb2:b<m1.took.blocks.length:=hb1;obtain⟨t0,t1⟩:=dd (s:=s) (at_:=m1.at_) (n:=5) (by decide);generalize aD s m1.at_ 5=t at hmm t0 t1;obtain⟨tn,rfl⟩ : ∃tn:Nat,t=tn:=⟨t.toNat,by omega⟩;rw[show((tn:Int)).toNat=tn by omega]at hmm;have hup:=Bz (s:=s) (b:=b) (x:=([],m1.took)) q;generalize m1.took=m2 at hmm q hb2 hup w3;subst hz;refine ab fun z hz=>?_;simp;refine dI [0,1,4,12,13,14] (fun(v:Value) i=>[.pointer (some ⟨M,0,none⟩),.int .i64 b,.int .i64 k,v,.int .i64 tn,.int .i64 i]) (fun v i h4=>∃W' o',W0.le W'/\Mk s M vs W' h4 o' (up (ia s b) i ([],m2)).2/\o' (9,0)=it T.int v (up (ia s b) i ([],m2)).1/\∀q:Key,3<=q.1->q≠(9,0)->o' q=o0 q) tn v
   rfl (by omega) rfl ⟨W,o3,g1,w3,(f3 _ (by decide)).trans Own.an,fun q h1 h2=>(f3 q h1).trans ((Own.ay h2).trans (f q h1))⟩ (fun _ _=>rfl) (fun v k h hk m=>by simp) ?_ ?_
  ·rintro v i h4 hlt ⟨W4,o4,g4,w4,e4,f4⟩ K2 hK2;obtain⟨qi,li,bi⟩:=hup i;have e5:up (ia s b) (i+1) ([],m2)=((up (ia s b) i ([],m2)).1++[(aE s (up (ia s b) i ([],m2)).2 b).1],(aE s (up (ia s b) i ([],m2)).2 b).2):=rfl;have hb4:b<(up (ia s b) i ([],m2)).2.blocks.length:=by rw[bi];exact hb2
   generalize up (ia s b) i ([],m2)=x at w4 e4 e5 qi li bi hb4;have li:x.1.length=i:=by simpa using li
   simp;refine af (by kernel_rfl) (BF w4 hb4 qi (by omega)) ?_;rintro _ h5 ⟨rfl,i5,W5,o5,g5,w5,f5⟩;have e6:o5 (9,0)=it T.int v x.1:=(f5 _ (by decide)).trans e4;refine w5.own.jd (k:=(9,0)) (α:=Int) (d:=(aE s x.2 b).1) e6 El.aP rfl (bC.2 ⟨rfl,i5⟩) (by omega) (by omega) (fun _=>rfl) (fun _=>rfl) fun u v' h6 w6 _=>?_;refine hK2 v' _ _ rfl rfl ⟨W5,_,View.le_trans g4 g5,⟨w6,w5.src,?_⟩,?_,?_⟩
   ·obtain⟨vb,vl,lb,bb⟩:=w5.box;rw[e5];exact⟨vb,vl,lb,bb.frame fun k hk=>Own.ay (by rintro rfl;simp at hk)⟩
   ·rw[e5];exact Own.an
   intro q h1 h2;exact(Own.ay h2).trans ((f5 q h1).trans (f4 q h1 h2))
  rintro v h4 ⟨W4,o4,g4,w4,e4,f4⟩;obtain⟨qi,li,bi⟩:=hup tn;have hb4:b<(up (ia s b) tn ([],m2)).2.blocks.length:=by rw[bi];exact hb2
  generalize up (ia s b) tn ([],m2)=x at w4 e4 qi li bi hb4 hmm;obtain⟨w5,sl⟩:=w4.own.freeze e4;have sl2:=sl;obtain⟨ua,uc,rfl,_⟩:=sl2;have hWp:=jv (h:=h4) (w4.own.av _ _ e4);have n:Nz s M vs W0 h4 o0 x.2 (.slice ua x.1.length uc) x.1:=by
   obtain⟨vb,vl,lb,bb⟩:=w4.box;refine⟨_,_,View.le_trans g4 hWp,⟨w5,w4.src.mono hWp,vb,vl,lb,bb.frame fun k hk=>Own.ay (by rintro rfl;simp at hk)⟩,fun q h1=>?_,sl⟩;by_cases e:q=(9,0)
   ·rw[e,Own.an,hfree]
   exact(Own.ay e).trans (f4 q h1 e)
  generalize x.1.length=un at n;simp;subst hz;simp;refine af (by kernel_rfl) (gB n qi (by omega)) ?_;rintro _ h5 ⟨rfl,n⟩;refine af (by kernel_rfl) (fk n qi.aG (by omega) (k:=5) (by decide) (by decide)) ?_;rintro _ h6 ⟨rfl,n⟩;have hx:x.2.aG.at_=x.2.at_:=rfl;rw[hx];simp;refine aq (z:=.agg #[.int .i64 0,.int .i64 0,.int .i64 0,.slice none 0 0,.int .i32 0]) (places:=[(0,1),(1,1),(2,1),(3,1),(4,1)]) (vs:=[(0,.int .i64 17),(1,.int .i64 x.2.next),(3,.slice ua un uc),(4,.int .i32 (IntKind.i32.wrap (aD s x.2.at_ 5)))]) (cs:=#[.int .i64 17,.int .i64 x.2.next,.int .i64 0,.slice ua un uc,.int .i32 (IntKind.i32.wrap (aD s x.2.at_ 5))]) (by kernel_rfl) (by kernel_rfl) (by simp) (by rfl) ?_;refine af (by kernel_rfl) (kE n (b:=b) hb4 qi.aG.took (by omega) i64c (qi.jJ (by omega)) i64c lS) ?_;rintro _ h7 n;exact hK _ _ (by rw[hmm];exact n)
 rw[if_neg c5]at hmm;refine aV (by simp[c5]) ?_;refine ab fun z hz=>?_;simp;subst hz;by_cases c6:k=17
 ·rw[if_pos c6]at hmm;refine aU (by simp[c6]) ?_;refine ab fun z hz=>?_;simp;refine af (by kernel_rfl) (iA n hb1 q (by omega)) ?_;rintro _ h2 ⟨⟨rfl,i2⟩,n⟩;have q:=q.aE (s:=s) (b:=b);have hb2:b<(aE s m1 b).2.blocks.length:=by rw[dW];exact hb1
  simp only[wN]at hmm;generalize aE s m1 b=r1 at hmm n q hb2 i2;subst hz;refine ab fun z hz=>?_;simp;refine af (by kernel_rfl) (iA n hb2 q (by omega)) ?_;rintro _ h3 ⟨⟨rfl,i3⟩,n⟩;have q:=q.aE (s:=s) (b:=b);have hb3:b<(aE s r1.2 b).2.blocks.length:=by rw[dW];exact hb2
  generalize aE s r1.2 b=r2 at hmm n q hb3 i3;subst hz;refine ab fun z hz=>?_;simp;refine af (by kernel_rfl) (gB n q (by omega)) ?_;rintro _ h4 ⟨rfl,n⟩;subst hz;simp;refine af (by kernel_rfl) (gB n q.aG (by omega)) ?_;rintro _ h5 ⟨rfl,n⟩;have hx:r2.2.aG.next=r2.2.next+1:=rfl;rw[hx];have j5:=q.aG.jJ (by omega);rw[hx]at j5;refine n.lit (ls:=[r1.1,r2.1]) (by simp) (by simp[i2,i3]) rfl (by decide) fun ua un uc h5 _ n=>?_;refine aq (z:=.agg #[.int .i64 0,.int .i64 0,.int .i64 0,.slice none 0 0,.int .i32 0]) (places:=[(0,1),(1,1),(2,1),(3,1),(4,1)]) (vs:=[(0,.int .i64 18),(1,.int .i64 r2.2.next),(2,.int .i64 (r2.2.next+1)),(3,.slice ua un uc)]) (cs:=#[.int .i64 18,.int .i64 r2.2.next,.int .i64 (r2.2.next+1),.slice ua un uc,.int .i32 0]) (by kernel_rfl) (by kernel_rfl) (by simp) (by rfl) ?_;refine af (by kernel_rfl) (kE n (b:=b) hb3 q.aG.aG (by omega) i64c (q.jJ (by omega)) j5 (by decide)) ?_;rintro _ h6 n;exact hK _ _ (by rw[hmm];exact n)
 rw[if_neg c6]at hmm;refine aV (by simp[c6]) ?_;simp;refine af (by kernel_rfl) (ya n q (by omega)) ?_;rintro _ h2 ⟨rfl,n⟩;refine af (by kernel_rfl) (gr n (b:=b) hb1 q.took.took (by omega) (k:=kz s m1) oF) ?_;rintro _ h3 ⟨rfl,n⟩;exact hK _ _ (by rw[hmm];exact n.x)
section
variable {s:List Int} {m:MS} {b c:Nat}
theorem mz:m.took.blocks.length=m.blocks.length:=rfl
theorem oc:m.aG.blocks.length=m.blocks.length:=rfl
theorem MS.ok.addr(h:m.ok c):(nI s m b).2.ok (c+30):=by
 unfold nI;simp only;split
 ·exact((((h.took.constant).took.aE).constant).two.two).mono (by omega)
 exact(h.took.constant.took).mono (by omega)
theorem FD:(nI s m b).2.blocks.length=m.blocks.length:=by unfold nI;simp only;split<;>simp[mO,dM,dW,mz]
theorem MS.ok.off(h:m.ok c):(offS s m).2.ok (c+4):=by
 unfold offS;split
 ·exact h.took.took.took.took
 exact h.took.took.mono (by omega)
theorem Gq:(offS s m).2.blocks.length=m.blocks.length:=by unfold offS;split<;>rfl
theorem MS.ok.memory{st:Bool}(h:m.ok c):(ja s m b st).ok (c+60):=by
 unfold ja;simp only;split
 ·exact(((h.addr).off.aE).add).mono (by omega)
 exact(((h.addr).off.aG).add).mono (by omega)
theorem AR{st:Bool}:(ja s m b st).blocks.length=m.blocks.length:=by unfold ja;simp only;split<;>simp[lU,dW,Gq,FD,oc]
theorem MS.ok.bin(h:m.ok c):(binS s m b op).ok (c+60):=by
 unfold binS;simp only;split
 ·exact((h.aE.aE).took.took.constant.two).mono (by omega)
 exact((h.aE.aE).took.two).mono (by omega)
theorem GP:(binS s m b op).blocks.length=m.blocks.length:=by unfold binS;simp only;split<;>simp[mO,dM,dW,mz]
theorem MS.ok.div(h:m.ok c):(divS s m b).ok (c+60):=by
 unfold divS;simp only;split
 ·exact((h.aE).took.constant.took.took.constant.two).mono (by omega)
 exact((h.aE).took.constant.took.two).mono (by omega)
theorem FY:(divS s m b).blocks.length=m.blocks.length:=by unfold divS;simp only;split<;>simp[mO,dM,dW,mz]
theorem MS.ok.nD (h:m.ok c):(nD s m b).ok (c+70):=by unfold Go.Proofs.YtnfiilgdjpdlkaaGreatDoor.nD;simp only;have ht:=dd (s:=s) (at_:=m.at_) (n:=5) (by decide);have:=(Bz (s:=s) (b:=b) (x:=([],m.took)) h.took (aD s m.at_ 5).toNat).1;exact(this.aG.took.add).mono (by omega)
theorem Fc:(nD s m b).blocks.length=m.blocks.length:=by unfold nD;simp only;rw[lU,mz,oc];exact yR (s:=s) (b:=b) (x:=([],m.took)) _
theorem MS.ok.jm(h:m.ok c):(aL s b m).ok (c+80):=by
 unfold aL;simp only;repeat' split
 ·exact h.took.bin.mono (by omega)
 ·unfold ltuS;exact(h.took.aE.aE.two).mono (by omega)
 ·exact h.took.div.mono (by omega)
 ·exact h.took.memory.mono (by omega)
 ·exact h.took.nD.mono (by omega)
 ·unfold wN;exact(h.took.aE.aE.aG.aG.add).mono (by omega)
 exact h.took.took.took.constant.mono (by omega)
theorem nA:(aL s b m).blocks.length=m.blocks.length:=by
 unfold aL;simp only;repeat' split
 all_goals simp[GP,ltuS,FY,AR,Fc,wN,mO,dM,dW,mz,oc,lU]
end
def MS.yo (m:MS) (b:Nat) (t:dm):MS:={ m with blocks:=m.blocks.set b { nth m.blocks b with term:=t } }
def cmpL:List Int:=[11,12,13]
def iz (s:List Int) (to:List Int) (b:Nat) (m:MS):dm × MS:=
 if to.length=0 then
  if aD s m.at_ 8=0 then(⟨5,[],[],⟨IntKind.i32.wrap (aD s (m.at_+1) 200)⟩⟩,m.took.took)
  else if 1<aD s m.at_ 8 then(⟨4,[(aE s m.took b).1],[],⟨0⟩⟩,(aE s m.took b).2)
  else(⟨4,[],[],⟨0⟩⟩,m.took)
 else if to.length=1 then(⟨1,[],to,⟨0⟩⟩,m)
 else if to.length=2 then
  let r:=aE s m b
  if aD s r.2.at_ 2=0 then
   let w:=aE s r.2.took b
   (⟨2,[w.2.next],to,⟨0⟩⟩,w.2.aG.took.add b ⟨nth cmpL (aD s w.2.at_ 3).toNat,w.2.next,0,[r.1,w.1],⟨0⟩⟩)
  else(⟨2,[r.1],to,⟨0⟩⟩,r.2.took)
 else
  let r:=aE s m b
  let m2:=r.2.constant b 7
  (⟨3,[m2.next],to,⟨0⟩⟩,m2.two b 5 r.1 r.2.next)
def nW (s:List Int) (to:List Int) (b:Nat) (m:MS):MS:=(iz s to b m).2.yo b (iz s to b m).1
section
variable {s:List Int} {M:Nat} {vs:Value} {W0:View} {h:Heap} {o0:Own} {m:MS} {u:Value} {ds:List Int}
theorem Nz.dK {po:OP} (n:Nz s M vs W0 h o0 m u ds) {k:Key} {e:TypeId} {B N i:Nat} {l:List Value} {ty t:TypeId} {us:List (Nat × Value)} {x y:Operand} {v:Value} {K:Value->Heap->Prop} (h3:3<=k.1) (hk:o0 k=bx e B (RawN.mk (n:=N) l)) (hi:i<=N) (hsz:dp Tryz.prog t=some 1) (hx:asg us x = .pointer (some ⟨B,i,none⟩)) (hy:asg us y=v) (hv:v.oneCell'=true)
  (hK : ∀h',Nz s M vs W0 h' (o0.upd k (bx e B (RawN.mk (n:=N) (l.set i v)))) m u ds->K undef h'):@Lft.step po Tryz.prog (.store t x y) ty us h K:=by
 obtain⟨W,o,g1,w,f,sl⟩:=n;refine w.own.dK (k:=k) (n:=N) (i:=i) (e:=e) (B:=B) (l:=l) ((f k h3).trans hk) hi hsz hx hy hv fun h' w' _=>hK h' ?_;obtain⟨vb,vl,lb,bb⟩:=w.box;refine⟨W,_,g1,⟨w',w.src,vb,vl,lb,bb.frame fun q hq=>Own.ay (by rintro rfl;omega)⟩,fun q hq=>?_,sl⟩;unfold Own.upd;split
 ·rfl
 exact f q hq
theorem Nz.re(n:Nz s M vs W0 h o0 m u ds){o0':Own}(he : ∀k,o0' k=o0 k):Nz s M vs W0 h o0' m u ds:=by obtain⟨W,o,g1,w,f,sl⟩:=n;exact⟨W,o,g1,w,fun k hk=>(f k hk).trans (he k).symm,sl⟩
theorem Mk.GI{po:OP}{W:View}{o:Own}(w:Mk s M vs W h o m)(bb:MkB M vs m o vb vl lb){t:dm}{v:Value}{ty ty2:TypeId}{us:List (Nat × Value)}{x y:Operand}{K:Value->Heap->Prop}(hb:b<m.blocks.length)(hsz:dp Tryz.prog ty2=some 4)(hx:asg us x = .pointer (some (((slA vb).add (b*6)).add 2)))(hy:asg us y=v)(hr:Rd W v t)(hK : ∀h' o',Mk s M vs W h' o' (m.yo b t)->(∀k:Key,3<=k.1->o' k=o k)->K undef h'):@Lft.step po Tryz.prog (.store ty2 x y) ty us h K:=by
 have hbl:b<lb.length:=by rw[bb.len];exact hb
 refine w.own.oK (k:=(0,2)) (α:=BlkM) BlkM.nm (v:=vb) (l:=lb) (i:=b) (d:=t) bb.blk hsz hx hy hbl hr fun h7 w7 _=>?_;refine hK h7 _ ⟨w7,w.src,vb,vl,_,bb.gA hb (x':={ nth m.blocks b with term:=t }) (y':={ lb[b]with term:=t }) rfl Own.an ?_ ?_ fun q h1 _ _=>Own.ay h1⟩ (mE (by decide))
 ·rw[Own.ay (by simp),bb.phis b hb,az hbl]
 rw[Own.ay (by simp),bb.ins b hb,az hbl]
end
theorem Cz{H:View}{va vt:Value}{a t:List Int}{kd:Int}{imm:I32}(h3:SlRd H va a)(h4:SlRd H vt t)(h5:I64 kd)(h6:-2147483648<=imm.v/\imm.v<=2147483647):Rd H (.agg #[.int .i64 kd,va,vt,.int .i32 imm.v]) (dm.mk kd a t imm):=
 ⟨_,rfl,[.int .i64 kd],_,rfl,⟨rfl,h5⟩,[va],_,rfl,⟨va,rfl,h3⟩,[vt],_,rfl,⟨vt,rfl,h4⟩,rfl,h6⟩
theorem DO: ∀x∈cmpL,I64 x:=by
 intro x hx;have : ∀x∈cmpL,0<=x/\x<=13:=by decide
 have:=this x hx;exact⟨by omega,by omega⟩
theorem Iu{s:List Int}{M:Nat}{W0:View}{h:Heap}{o0:Own}{m:MS}{vt:Value}{to:List Int}(n:Nx s M vs W0 h o0 m){c:Nat}(hb:b<m.blocks.length)(hm:m.ok c)(hc:c<=800000)(hfree:o0 (9,1)=none)(ht:SlRd W0 vt to):
  aw Tryz.prog N.dO #[.pointer (some ⟨M,0,none⟩),.int .i64 b,vt] h (fun v h'=>Nx s M vs W0 h' o0 (nW s to b m)):=by
 refine ao (args:=[.pointer (some ⟨M,0,none⟩),.int .i64 b,vt]) follows F.dO E.dO (Kw (by kernel_rfl)) fun K hK=>?_;dsimp only[L.dO];have hmm:nW s to b m=_:=nW.eq_1 s to b m;have htm:iz s to b m=_:=iz.eq_1 s to b m;obtain⟨Wb,ob,gb,wb,fb⟩:=n;refine ab fun z hz=>?_;simp;refine aq (z:=.agg #[.int .i64 0,.slice none 0 0,.slice none 0 0,.int .i32 0]) (places:=[(0,1),(1,1),(2,1),(3,1)]) (vs:=[]) (cs:=#[.int .i64 0,.slice none 0 0,.slice none 0 0,.int .i32 0]) (by kernel_rfl) (by kernel_rfl) (by simp) (by rfl) ?_;refine wb.own.dZ (k:=(9,1)) (n:=3) (l:=[.int .i64 0,.slice none 0 0,.slice none 0 0,.int .i32 0]) ((fb _ (by decide)).trans hfree) (z:=.agg #[.int .i64 0,.slice none 0 0,.slice none 0 0,.int .i32 0]) (by kernel_rfl) rfl (by kernel_rfl) rfl (by decide) (by simp[Value.oneCell']) (fun _=>by simp) (fun _=>by simp) fun h1 q1 w1=>?_;generalize h.size=B at w1;obtain⟨o1,ho1⟩ : ∃o1,o1=ob.upd (9,1) (bx T.iX B (RawN.mk (n:=3) [.int .i64 0,.slice none 0 0,.slice none 0 0,.int .i32 0])):=⟨_,rfl⟩;have k1:o1 (9,1)=bx T.iX B (RawN.mk (n:=3) [.int .i64 0,.slice none 0 0,.slice none 0 0,.int .i32 0]):=by rw[ho1,Own.an]
 have ht:=ht.mono gb;have n:Nz s M vs Wb h1 o1 m (.slice none 0 0) []:=by obtain⟨vb,vl,lb,bb⟩:=wb.box;rw[ho1];exact⟨Wb,_,View.le_refl _,⟨w1,wb.src,vb,vl,lb,bb.frame fun q hq=>Own.ay (by rintro rfl;simp at hq)⟩,fun _ _=>rfl,aI⟩
 have back : ∀{h':Heap} {W':View} {o':Own} {m':MS} {i:Option Lft.Item},Wb.le W'->Mk s M vs W' h' o' m'->(∀k:Key,3<=k.1->o' k=o1.upd (9,1) i k)->Nx s M vs W0 h' o0 m':=by
  intro h' W' o' m' i g w f;refine⟨W',o'.upd (9,1) none,View.le_trans gb g,⟨w.own.sub fun q j hq=>?_,w.src,?_⟩,fun k hk=>?_⟩
  ·unfold Own.upd at hq;split at hq
   ·cases hq
   exact hq
  ·obtain⟨vb,vl,lb,bb⟩:=w.box;exact⟨vb,vl,lb,bb.frame fun q hq=>Own.ay (by rintro rfl;simp at hq)⟩
  by_cases e:k=(9,1)
  ·rw[e,Own.an,hfree]
  rw[Own.ay e,f k hk,Own.ay e,ho1,Own.ay e,fb k hk]
 clear wb w1 q1;subst hz;refine ab fun z hz=>?_;have fin : ∀(kd:Int) (va vt':Value) (args to':List Int) (im:Int) (m2:MS) (h':Heap) (ρ:Env),iz s to b m=(⟨kd,args,to',⟨im⟩⟩,m2)->I64 kd->(-2147483648<=im/\im<=2147483647)->b<m2.blocks.length->Nz s M vs Wb h' (o1.upd (9,1) (bx T.iX B (RawN.mk (n:=3) [.int .i64 kd,va,vt',.int .i32 im]))) m2 va args->SlRd Wb vt' to'->Lft.look ρ 0=some (.pointer (some ⟨M,0,none⟩))->Lft.look ρ 1=some (.int .i64 b)->Lft.look ρ 6=some (.pointer (some ⟨B,0,none⟩))->LC.wp Tryz.prog z (dH [] K) ρ h':=by
  intro kd va vt' args to' im m2 h' ρ e ikd iim hb n ht' r0 r1 r6;subst hz;rw[e]at hmm;obtain⟨W,o,g1,w,f,sl⟩:=n;obtain⟨vb,vl,lb,bb⟩:=w.box;have hk:o (9,1)=bx T.iX B (RawN.mk (n:=3) [.int .i64 kd,va,vt',.int .i32 im]):=(f _ (by decide)).trans Own.an;have c4:=w.own.uh (k:=(9,1)) (n:=3) hk;have c4:Un.ev (vw h') (.au 4) (.pointer (some ⟨B,0,none⟩))=some (.agg #[.int .i64 kd,va,vt',.int .i32 im]):=c4;have c3:aj (vw h') ⟨M,3,none⟩=some vb:=bb.cell w.own (i:=3) (by decide);have hbl:b<lb.length:=by rw[bb.len];exact hb
  have sb:=w.own.now bb.blk;have sbb:=sb.bound;refine aS (vw h') (View.le_refl _) ?_;simp(disch:=omega)[r0,r1,r6,c3,c4,sb.idxn (N:=6) rfl];refine w.GI bb (b:=b) (t:=⟨kd,args,to',⟨im⟩⟩) hb (by kernel_rfl) rfl rfl (Cz (imm:=⟨im⟩) sl (ht'.mono g1) ikd iim) fun h2 o2 w2 f2=>?_;refine hK _ _ ?_;rw[hmm];exact back g1 w2 fun k hk=>(f2 k hk).trans (f k hk)
 have hlen : ∀{Q:View},Un.ev Q .len vt=some (.int .i64 to.length):=fun{Q}=>ht.len;refine ab fun y hy=>?_;simp[hlen];subst hy;simp only[aH];refine ab fun y hy=>?_;simp;subst hy;by_cases c0:to.length=0
 ·have c0':to=[]:=KN c0;rw[if_pos c0]at htm;refine aU (by simp[c0,c0']) ?_;refine ab fun y hy=>?_;simp;refine n.dK (k:=(9,1)) (i:=0) (by decide) k1 (by decide) (by kernel_rfl) rfl rfl rfl fun h2 n=>?_;subst hy;refine ab fun y hy=>?_;simp;refine af (by kernel_rfl) (fk n hm (by omega) (k:=8) (by decide) (by decide)) ?_;rintro _ h3 ⟨rfl,n⟩;obtain⟨t0,t1⟩:=dd (s:=s) (at_:=m.at_) (n:=8) (by decide);subst hy;refine ab fun y hy=>?_;simp;subst hy;have n:Nz s M vs Wb h3 (o1.upd (9,1) (bx T.iX B (RawN.mk (n:=3) [.int .i64 4,.slice none 0 0,.slice none 0 0,.int .i32 0]))) m.took (.slice none 0 0) []:=n
  by_cases c1:aD s m.at_ 8=0
  ·rw[if_pos c1]at htm;refine aU (by simp[c1]) ?_;refine ab fun y hy=>?_;simp;refine n.dK (k:=(9,1)) (i:=0) (by decide) Own.an (by decide) (by kernel_rfl) rfl rfl rfl fun h4 n=>?_;subst hy;simp;refine af (by kernel_rfl) (fk n hm.took (by omega) (k:=200) (by decide) (by decide)) ?_;rintro _ h5 ⟨rfl,n⟩;have hx:m.took.at_=m.at_+1:=rfl;rw[hx];simp;refine n.dK (k:=(9,1)) (i:=3) (by decide) Own.an (by decide) (by kernel_rfl) rfl rfl rfl fun h6 n=>?_;refine fin 5 (.slice none 0 0) (.slice none 0 0) [] [] _ _ h6 _ htm i64c lS hb ?_ aI ?_ ?_ ?_
   ·exact n.re fun k=>by rw[fD,fD];rfl
   all_goals simp
  rw[if_neg c1]at htm;refine aV (by simp[c1]) ?_;refine ab fun y hy=>?_;simp;subst hy;by_cases c2:1<aD s m.at_ 8
  ·rw[if_pos c2]at htm;refine aU (by simp[c2]) ?_;simp;refine af (by kernel_rfl) (iA n (b:=b) hb hm.took (by omega)) ?_;rintro _ h4 ⟨⟨rfl,i4⟩,n⟩;have hb2:b<(aE s m.took b).2.blocks.length:=by rw[dW];exact hb
   generalize aE s m.took b=r at htm i4 n hb2;refine n.lit (ls:=[r.1]) (by simp) (by simp[i4]) rfl (by decide) fun ua un uc h5 _ n=>?_;refine n.dK (k:=(9,1)) (i:=1) (by decide) Own.an (by decide) (by kernel_rfl) rfl rfl rfl fun h6 n=>?_;refine fin 4 (.slice ua un uc) (.slice none 0 0) [r.1] [] 0 _ h6 _ htm i64c (by decide) hb2 (n.re fun k=>by rw[fD];rfl) aI ?_ ?_ ?_;all_goals simp
  rw[if_neg c2]at htm;refine aV (by simp[c2]) ?_;simp;refine fin 4 (.slice none 0 0) (.slice none 0 0) [] [] 0 _ h3 _ htm i64c (by decide) hb n aI ?_ ?_ ?_;all_goals simp
 rw[if_neg c0]at htm;have c0':¬to=[]:=fun e=>c0 (by rw[e];rfl);have hvt:vt.oneCell'=true:=ht.cells.2
 refine aV (by simp[c0']) ?_;refine ab fun y hy=>?_;simp;subst hy;by_cases c1:to.length=1
 ·rw[if_pos c1]at htm;refine aU (by simp[c1]) ?_;refine ab fun y hy=>?_;simp;refine n.dK (k:=(9,1)) (i:=0) (by decide) k1 (by decide) (by kernel_rfl) rfl rfl rfl fun h2 n=>?_;subst hy;simp;refine n.dK (k:=(9,1)) (i:=2) (by decide) Own.an (by decide) (by kernel_rfl) rfl rfl hvt fun h3 n=>?_;refine fin 1 (.slice none 0 0) vt [] to 0 _ h3 _ htm i64c (by decide) hb (n.re fun k=>by rw[fD];rfl) ht ?_ ?_ ?_;all_goals simp
 rw[if_neg c1]at htm;refine aV (by simp;omega) ?_;refine ab fun y hy=>?_;simp;subst hy;by_cases c2:to.length=2
 ·rw[if_pos c2]at htm;refine aU (by simp[c2]) ?_;refine ab fun y hy=>?_;simp;refine n.dK (k:=(9,1)) (i:=0) (by decide) k1 (by decide) (by kernel_rfl) rfl rfl rfl fun h2 n=>?_;subst hy;refine ab fun y hy=>?_;simp;refine n.dK (k:=(9,1)) (i:=2) (by decide) Own.an (by decide) (by kernel_rfl) rfl rfl hvt fun h3 n=>?_;have n:Nz s M vs Wb h3 (o1.upd (9,1) (bx T.iX B (RawN.mk (n:=3) [.int .i64 2,.slice none 0 0,vt,.int .i32 0]))) m (.slice none 0 0) []:=n.re fun k=>by rw[fD];rfl
  subst hy;refine ab fun y hy=>?_;simp;refine af (by kernel_rfl) (iA n (b:=b) hb hm (by omega)) ?_;rintro _ h4 ⟨⟨rfl,i4⟩,n⟩;have q:=hm.aE (s:=s) (b:=b);have hb2:b<(aE s m b).2.blocks.length:=by rw[dW];exact hb
  simp only at htm;generalize aE s m b=r at htm i4 n hb2 q;subst hy;refine ab fun y hy=>?_;have fin2 : ∀(v:Int) (m3:MS) (h':Heap) (ρ:Env) (u:Value) (ds:List Int),iz s to b m=(⟨2,[v],to,⟨0⟩⟩,m3)->I64 v->b<m3.blocks.length->Nz s M vs Wb h' (o1.upd (9,1) (bx T.iX B (RawN.mk (n:=3) [.int .i64 2,.slice none 0 0,vt,.int .i32 0]))) m3 u ds->Lft.look ρ 0=some (.pointer (some ⟨M,0,none⟩))->Lft.look ρ 1=some (.int .i64 b)->Lft.look ρ 6=some (.pointer (some ⟨B,0,none⟩))->Lft.look ρ 8=some (.int .i64 v)->LC.wp Tryz.prog y (eY 0 (eU (LC.wp Tryz.prog z (dH [] K)) (dH [] K))) ρ h':=by intro v m3 h' ρ u ds e iv hb n r0 r1 r6 r8;subst hy;simp[ag,ah,r0,r1,r6,r8];refine n.lit (ls:=[v]) (by simp) (by simp[iv]) rfl (by decide) fun ua un uc h5 _ n=>?_;refine n.dK (k:=(9,1)) (i:=1) (by decide) Own.an (by decide) (by kernel_rfl) rfl rfl rfl fun h6 n=>?_;refine fin 2 (.slice ua un uc) vt [v] to 0 _ h6 _ e i64c (by decide) hb (n.re fun k=>by rw[fD];rfl) ht ?_ ?_ ?_;all_goals simp[ag,ah,r0,r1,r6,r8]
  refine ab fun x hx=>?_;simp;refine af (by kernel_rfl) (fk n q (by omega) (k:=2) (by decide) (by decide)) ?_;rintro _ h5 ⟨rfl,n⟩;simp;subst hx;by_cases c3:aD s r.2.at_ 2=0
  ·rw[if_pos c3]at htm;refine aU (by simp[c3]) ?_;refine ab fun x hx=>?_;simp;refine aq (z:=.agg #[.int .i64 0,.int .i64 0,.int .i64 0]) (places:=[(0,1),(1,1),(2,1)]) (vs:=[(0,.int .i64 11),(1,.int .i64 12),(2,.int .i64 13)]) (cs:=#[.int .i64 11,.int .i64 12,.int .i64 13]) (by kernel_rfl) (by kernel_rfl) (by simp) (by rfl) ?_;refine gS (v:=.agg #[.int .i64 11,.int .i64 12,.int .i64 13]) (z:=.agg #[.int .i64 0,.int .i64 0,.int .i64 0]) (n:=3) (by kernel_rfl) rfl (by kernel_rfl) rfl (by simp[Value.cells,Value.oneCell']) (fun _=>by simp) (fun _=>by simp) fun h6 hle6 hs6 hb6=>?_;have n:Nz s M vs Wb h6 (o1.upd (9,1) (bx T.iX B (RawN.mk (n:=3) [.int .i64 2,.slice none 0 0,vt,.int .i32 0]))) r.2.took (.slice (some ⟨h5.size,0,none⟩) 3 3) cmpL:=by
    obtain⟨W,o,g1,g2,g3,g4⟩:=n;refine⟨_,o,View.le_trans g1 (bO g2.own.wle),⟨g2.own.ext hle6,g2.src.mono (bO g2.own.wle),g2.box⟩,g3,?_⟩;have hg:grow W h5 h6 h5.size=some (.cells (cmpL.map fun x=>Value.int .i64 x).toArray T.Is (0,0)):=by rw[dw (Kz _),hb6];rfl
    exact EM hg rfl (by decide) DO
   generalize h5.size=C at n;subst hx;refine ab fun x hx=>?_;simp;refine af (by kernel_rfl) (iA n (b:=b) hb2 q.took (by omega)) ?_;rintro _ h7 ⟨⟨rfl,i7⟩,n⟩;have q:=q.took.aE (s:=s) (b:=b);have hb3:b<(aE s r.2.took b).2.blocks.length:=by rw[dW];exact hb2
   generalize aE s r.2.took b=w at htm i7 n hb3 q;subst hx;refine ab fun x hx=>?_;simp;refine af (by kernel_rfl) (gB n q (by omega)) ?_;rintro _ h8 ⟨rfl,n⟩;have iw:=q.jJ (by omega);subst hx;refine ab fun x hx=>?_;simp;refine af (by kernel_rfl) (fk n q.aG (by omega) (k:=3) (by decide) (by decide)) ?_;rintro _ h9 ⟨rfl,n⟩;have hfx:w.2.aG.at_=w.2.at_:=rfl
   rw[hfx];obtain⟨t0,t1⟩:=dd (s:=s) (at_:=w.2.at_) (n:=3) (by decide);generalize aD s w.2.at_ 3=k at htm t0 t1;obtain⟨kn,rfl⟩ : ∃kn:Nat,k=kn:=⟨k.toNat,by omega⟩;rw[show((kn:Int)).toNat=kn by omega]at htm;obtain⟨iop,hop⟩:I64 (nth cmpL kn)/\aj (vw h9) ⟨C,kn,none⟩=some (.int .i64 (nth cmpL kn)):=by obtain⟨W,o,g1,g2,g3,g4⟩:=n;refine⟨g4.range (i:=kn) (by show kn<3;omega),?_⟩;have:=g4.int g2.own.wle (i:=kn) (by show kn<3;omega);simpa[slA]using this
   have hix:Bn.ev (.aidx 3 1) (.pointer (some ⟨C,0,none⟩)) (.int .i64 kn)=some (.pointer (some ⟨C,kn,none⟩)):=by simp only[Bn.ev,vP,vI,KS];rw[if_pos ⟨by omega,by omega⟩];simp
   generalize nth cmpL kn=op at htm iop hop;simp[hix,hop];refine n.lit (ls:=[r.1,w.1]) (by simp) (by simp[i4,i7]) rfl (by decide) fun ua un uc h10 _ n=>?_;refine aq (z:=.agg #[.int .i64 0,.int .i64 0,.int .i64 0,.slice none 0 0,.int .i32 0]) (places:=[(0,1),(1,1),(2,1),(3,1),(4,1)]) (vs:=[(0,.int .i64 op),(1,.int .i64 w.2.next),(3,.slice ua un uc)]) (cs:=#[.int .i64 op,.int .i64 w.2.next,.int .i64 0,.slice ua un uc,.int .i32 0]) (by kernel_rfl) (by kernel_rfl) (by simp) (by rfl) ?_;refine af (by kernel_rfl) (kE n (b:=b) hb3 q.aG.took (by omega) iop iw i64c (by decide)) ?_;rintro _ h11 n;subst hx;simp;refine fin2 w.2.next _ h11 _ _ _ htm iw (by rw[lU];exact hb3) n.z ?_ ?_ ?_ ?_;all_goals simp
  rw[if_neg c3]at htm;refine aV (by simp[c3]) ?_;simp;refine fin2 r.1 _ h5 _ _ _ htm i4 hb2 n ?_ ?_ ?_ ?_;all_goals simp
 rw[if_neg c2]at htm;refine aV (by simp;omega) ?_;refine ab fun y hy=>?_;simp;refine n.dK (k:=(9,1)) (i:=0) (by decide) k1 (by decide) (by kernel_rfl) rfl rfl rfl fun h2 n=>?_;subst hy;refine ab fun y hy=>?_;simp;refine n.dK (k:=(9,1)) (i:=2) (by decide) Own.an (by decide) (by kernel_rfl) rfl rfl hvt fun h3 n=>?_;have n:Nz s M vs Wb h3 (o1.upd (9,1) (bx T.iX B (RawN.mk (n:=3) [.int .i64 3,.slice none 0 0,vt,.int .i32 0]))) m (.slice none 0 0) []:=n.re fun k=>by rw[fD];rfl
 subst hy;refine ab fun y hy=>?_;simp;refine af (by kernel_rfl) (iA n (b:=b) hb hm (by omega)) ?_;rintro _ h4 ⟨⟨rfl,i4⟩,n⟩;have q:=hm.aE (s:=s) (b:=b);have hb2:b<(aE s m b).2.blocks.length:=by rw[dW];exact hb
 simp only at htm;generalize aE s m b=r at htm i4 n hb2 q;subst hy;refine ab fun y hy=>?_;simp;refine af (by kernel_rfl) (gr n (b:=b) hb2 q (by omega) (k:=7) (by decide)) ?_;rintro _ h5 ⟨rfl,n⟩;have i5:=q.jJ (by omega);have q5:=q.constant (b:=b) (n:=7);have hb3:b<(r.2.constant b 7).blocks.length:=by rw[dM];exact hb2
 generalize r.2.constant b 7=m2 at htm n q5 hb3;generalize r.2.next=d at htm i5;subst hy;refine ab fun y hy=>?_;simp;refine af (by kernel_rfl) (gB n q5 (by omega)) ?_;rintro _ h6 ⟨rfl,n⟩;have i6:=q5.jJ (by omega);subst hy;refine ab fun y hy=>?_;simp;refine n.lit (ls:=[r.1,d]) (by simp) (by simp[i4,i5]) rfl (by decide) fun ua un uc h7 _ n=>?_;refine aq (z:=.agg #[.int .i64 0,.int .i64 0,.int .i64 0,.slice none 0 0,.int .i32 0]) (places:=[(0,1),(1,1),(2,1),(3,1),(4,1)]) (vs:=[(0,.int .i64 5),(1,.int .i64 m2.next),(3,.slice ua un uc)]) (cs:=#[.int .i64 5,.int .i64 m2.next,.int .i64 0,.slice ua un uc,.int .i32 0]) (by kernel_rfl) (by kernel_rfl) (by simp) (by rfl) ?_;refine af (by kernel_rfl) (kE n (b:=b) hb3 q5.aG (by omega) i64c i6 i64c (by decide)) ?_;rintro _ h8 n;have n:=n.z
 subst hy;simp;refine n.lit (ls:=[m2.next]) (by simp) (by simp[i6]) rfl (by decide) fun ua un uc h9 _ n=>?_;refine n.dK (k:=(9,1)) (i:=1) (by decide) Own.an (by decide) (by kernel_rfl) rfl rfl rfl fun h10 n=>?_;refine fin 3 (.slice ua un uc) vt [m2.next] to 0 _ h10 _ htm i64c (by decide) (show b<(m2.two b 5 r.1 d).blocks.length by rw[mO];exact hb3) (n.re fun k=>by rw[fD];rfl) ht ?_ ?_ ?_;all_goals simp
def rI (f:ak) (b:Nat) (t:Th):Bool:=decide (t.blk=b)||!nth (eM f t.blk) b
def eS (f:ak) (b:Nat) (out:List Int) (t:Th):List Int:=if rI f b t then out++t.mks else out
def iy (f:ak) (b:Nat):List Int:=(aF f).foldl (eS f b) (rows (fun i=>(i:Int)) f.params.toNat)
def sO (v:Value) (l:List Int):Own:=fun k=>if k=(0,0) then it T.int v l else none
theorem wY{v v':Value}{l l':List Int}(q:Key):sO v' l' q=(sO v l).upd (0,0) (it T.int v' l') q:=by
 unfold sO Own.upd;repeat' split
 all_goals first | rfl | simp_all
theorem wO{l:List Th}{f:ak}{c:Nat}(hl : ∀t∈l,t.mks.length<=c): ∀{out:List Int},(l.foldl (eS f b) out).length<=out.length+c*l.length:=by
 induction l with
 | nil=>intro out;simp
 | cons t l ih=>
  intro out;have h1:=ih (fun t ht=>hl t (by simp[ht])) (out:=eS f b out t);have h2:(eS f b out t).length<=out.length+c:=by
   unfold eS;have:=hl t (by simp);split
   ·rw[KK];omega
   omega
  rw[K1,Lw,ND];omega
theorem Av.Js{V W:View}{v:Value}(hw:Av W v)(h:V.le W):Av V v:=fun b hb=>by
 cases hv:V b with
 | none=>rfl
 | some x=>have:=h b x hv;rw[hw b hb]at this;cases this
theorem zo{W W':View}{h:Heap}{e:TypeId}{v:Value}{l:List Int}(o:OwnT W h e v l):OwnT W' h e v l:=by obtain⟨b,xs,h1,h2⟩:=o;exact⟨b,xs,h1,fun i hi=>h2 i hi⟩
theorem Jl{h:Heap}{v:Value}(ha:Av (vw h) v): ∀b,v.ownBlock=some b->h.size<=b:=fun b hb=>by have:h[b]? = none:=ha b hb;rwa [Array.getElem?_eq_none_iff]at this
theorem zi{f:ak}{v:Value}{h:Heap}(hv:Rd (vw h) v f)(hsm:SmF f)(hp:0<=f.params/\f.params<=1000)(hb:b<f.blocks.length)(hmk : ∀t∈aF f,t.mks.length<=1000)(hth:(aF f).length<=1000000):
  aw Tryz.prog N.cT #[v,.int .i64 b] h (fun u h'=>(vw h).le (vw h')/\(∀b,u.ownBlock=some b->h.size<=b)/\OwnT nothing h' T.int u (iy f b)):=by
 refine ao (args:=[v,.int .i64 b]) follows F.cT E.cT (Kw (by kernel_rfl)) fun K hK=>?_;dsimp only[L.cT];refine ab fun z hz=>?_;simp;refine iG rfl hv fun h1 _ hle1 hs1 hat=>?_;obtain⟨cp,vb,cb⟩:=jE hat;obtain⟨uf,huf,hufr⟩:=hat.au rfl;have huf:Un.ev (vw h1) (.au 2) (.pointer (some ⟨h.size,0,none⟩))=some uf:=huf;generalize h.size=B at cp cb huf;subst hz;refine ab fun z hz=>?_;simp;refine(Owns.start (h:=h1) (View.le_refl (vw h1))).kZ (k:=(0,0)) (α:=Int) rfl El.aP fun vo h2 hle2 hvo w2 _=>?_;have w2:Owns (vw h1) h2 (sO vo []):=w2.congr fun q=>by unfold sO Own.upd;split<;>rfl
 subst hz;refine ab fun z hz=>?_;simp;obtain⟨n,hn⟩ : ∃n:Nat,n=f.params.toNat:=⟨_,rfl⟩;have hpn:f.params=n:=by omega
 rw[hpn]at cp;refine dI [0,1,2,5,6] (fun(vo:Value) i=>[v,.int .i64 b,.pointer (some ⟨B,0,none⟩),vo,.int .i64 i]) (fun vo i h3=>Owns (vw h1) h3 (sO vo (rows (fun i=>(i:Int)) i))) n vo
  rfl (by omega) rfl w2 (fun _ _=>rfl) (fun v k h3 hk m=>by simp[ae m.wle cp]) ?_ ?_
 ·rintro vo i h3 hlt w3 K2 hK2;simp;refine w3.jd (k:=(0,0)) (α:=Int) (v:=vo) (l:=rows (fun i=>(i:Int)) i) (d:=(i:Int)) rfl El.aP rfl (bC.2 ⟨rfl,by constructor<;>omega⟩) (by simp;omega) (by simp;omega) (fun _=>rfl) (fun _=>rfl) fun u v' h4 w4 _=>?_;refine hK2 v' _ _ rfl rfl (w4.congr fun q=>?_);rw[ft];exact wY q
 rintro vo h3 w3;simp;subst hz;refine ab fun z hz=>?_;have huf3:Un.ev (vw h3) (.au 2) (.pointer (some ⟨B,0,none⟩))=some uf:=by have:=dY (ρ:=fun _=>none) (e:=.un (.au 2) (.con (.pointer (some ⟨B,0,none⟩)))) w3.wle (by simpa using huf);simpa using this
 simp[huf3];refine af (by kernel_rfl) (xX hufr w3.wle hsm) ?_;rintro vt h4 ⟨hle4,hst⟩;have w4:=w3.ext hle4;have hW4:=bO (h':=h4) w3.wle;generalize grow (vw h1) h3 h4=W4 at hst w4 hW4;subst hz;refine ab fun z hz=>?_;simp;have hsd:iy f b=(aF f).foldl (eS f b) (rows (fun i=>(i:Int)) n):=by rw[hn];rfl
 have hlen : ∀i,((List.take i (aF f)).foldl (eS f b) (rows (fun i=>(i:Int)) n)).length<=1001001000:=fun i=>by
  have h1:=wO (l:=List.take i (aF f)) (f:=f) (b:=b) (c:=1000) (fun t ht=>hmk t (List.mem_of_mem_take ht)) (out:=rows (fun i=>(i:Int)) n);have h2:(List.take i (aF f)).length<=(aF f).length:=by simp;omega
  rw[mj]at h1;omega
 generalize rows (fun i=>(i:Int)) n=base at w4 hsd hlen;have tb:=hst.bound;refine dI [0,1,2,5,7,8] (fun(vo:Value) i=>[v,.int .i64 b,.pointer (some ⟨B,0,none⟩),vo,vt,.int .i64 i]) (fun vo i h5=>∃W,W4.le W/\Owns W h5 (sO vo ((List.take i (aF f)).foldl (eS f b) base))) (aF f).length vo
  rfl (by omega) rfl ⟨W4,View.le_refl _,w4⟩ (fun _ _=>rfl) (fun v k h5 hk ⟨W,q1,q2⟩=>by simp[hst.len]) ?_ ?_
 ·rintro vo i h5 hlt ⟨W5,hW5,w5⟩ K2 hK2;have hst5:=hst.mono hW5;have hl5:=hlen i;have hsucc:(List.take (i+1) (aF f)).foldl (eS f b) base=eS f b ((List.take i (aF f)).foldl (eS f b) base) (nth (aF f) i):=by rw[KM hlt,MA,az hlt];rfl
  generalize (List.take i (aF f)).foldl (eS f b) base=out at w5 hsucc hl5;have hat5:=hst5.at hlt;rw[<-az hlt]at hat5;have hmt:=hmk _ (cj hlt);generalize nth (aF f) i=t at hat5 hsucc hmt;have hblk:aj W5 (((slA vt).add (i*4)).add 0)=some (.int .i64 t.blk):=(hat5.part Th.HD).int;obtain⟨vm,hvm⟩:=(hat5.part Th.Jj).sl;have hvm1:aj W5 (((slA vt).add (i*4)).add 2)=some vm:=hvm.1;have hvm2:=hvm.2;have h64:=(hat5.part Th.HD).rng;simp only[aH];refine ab fun y hy=>?_;simp;subst hy;refine ab fun y hy=>?_;have fin : ∀(h6:Heap) (ρ:Env) (W6:View),W5.le W6->Owns W6 h6 (sO vo out)->Lft.look ρ 0=some v->Lft.look ρ 1=some (.int .i64 b)->Lft.look ρ 2=some (.pointer (some ⟨B,0,none⟩))->Lft.look ρ 5=some vo->Lft.look ρ 7=some vt->Lft.look ρ 8=some (.int .i64 i)->Lft.look ρ 9=some (.bool (rI f b t))->
    LC.wp Tryz.prog y (eY 3 (eU K2 (eY 2 (eU (LC.wp Tryz.prog z (dH [.tmp 4] K)) (dH [.tmp 4] K))))) ρ h6:=by
   intro h6 ρ W6 hW6 w6 r0 r1 r2 r5 r7 r8 r9;subst hy;refine ab fun y hy=>?_;simp[ag,ah,r9];subst hy;have hsp:eS f b out t=if rI f b t then out++t.mks else out:=rfl;rw[hsp]at hsucc;by_cases ca:rI f b t=true
   ·rw[if_pos ca]at hsucc;refine aU (by simp[ag,ah,ca]) ?_;have hst6:=hst5.mono (View.le_trans hW6 w6.wle);simp(disch:=omega)[ag,ah,r0,r1,r2,r5,r7,r8,hst6.idxn (N:=4) rfl,ae (View.le_trans hW6 w6.wle) hvm1];refine w6.eu (k:=(0,0)) (α:=Int) (v:=vo) (l:=out) (l2:=t.mks) rfl El.aP rfl rfl ((hvm2.mono hW6).src w6.wle) (by omega) (by omega) fun v' h7 w7 _=>?_;refine hK2 v' _ _ ?_ ?_ ⟨W6,View.le_trans hW5 hW6,w7.congr fun q=>?_⟩
    ·simp[ag,ah,r8]
    ·simp[bF,ag,ah,r0,r1,r2,r5,r7,r8]
    rw[hsucc];exact wY q
   rw[if_neg ca]at hsucc;refine aV (by simp[ag,ah,ca]) ?_;simp;refine hK2 vo _ _ ?_ ?_ ⟨W6,View.le_trans hW5 hW6,by rw[hsucc];exact w6⟩
   ·simp[ag,ah,r8]
   simp[bF,ag,ah,r0,r1,r2,r5,r7,r8]
  refine ab fun x hx=>?_;simp(disch:=omega)[(hst5.mono w5.wle).idxn (N:=4) rfl,ae w5.wle hblk];subst hx;by_cases cb:t.blk=b
  ·refine aV (by simp[cb]) ?_;simp;refine fin h5 _ W5 (View.le_refl _) w5 ?_ ?_ ?_ ?_ ?_ ?_ ?_;all_goals simp[rI,cb]
  refine aU (by simp[cb]) ?_;refine ab fun x hx=>?_;have hf5:Rd (vw h5) uf f:=hufr.mono (View.le_trans hW4 (View.le_trans hW5 w5.wle));have huf5:Un.ev (vw h5) (.au 2) (.pointer (some ⟨B,0,none⟩))=some uf:=by have:=dY (ρ:=fun _=>none) (e:=.un (.au 2) (.con (.pointer (some ⟨B,0,none⟩)))) (View.le_trans hW4 (View.le_trans hW5 w5.wle)) (by simpa using huf);simpa using this
  refine aS (vw h5) (View.le_refl _) ?_;simp(disch:=omega)[(hst5.mono w5.wle).idxn (N:=4) rfl,ae w5.wle hblk,huf5];refine af (by kernel_rfl) (tT hf5 (by have:=hsm.len;omega)) ?_;rintro ur h6 ⟨hle6,hur⟩;have w6:=w5.ext hle6;have hW6:=bO (h':=h6) w5.wle;have hur6:SlRd (vw h6) ur (eM f t.blk):=hur.mono (ko h5 h6);have hrl:(eM f t.blk).length=f.blocks.length:=qv;subst hx;simp(disch:=omega)[hur6.idx1 rfl,hur6.bool (View.le_refl _)];refine fin h6 _ _ hW6 w6 ?_ ?_ ?_ ?_ ?_ ?_ ?_;all_goals simp[rI,cb]
 rintro vo h5 ⟨W5,hW5,w5⟩;rw[Lz,<-hsd]at w5;simp;subst hz;simp;have hX:(vw h).le W5:=View.le_trans hle1 (View.le_trans hW4 hW5);exact hK _ _ ⟨View.le_trans hX w5.wle,Jl (Av.Js (w5.av (0,0) _ rfl) hX),zo (w5.get (k:=(0,0)) (v:=vo) rfl)⟩
end Go.Proofs.YtnfiilgdjpdlkaaGreatDoor
namespace Go.Lft
open Go
theorem tI {P:Program} {Q:Post} {ρ:Env} {h:Heap} {a i c:Nat} {ks ks2:List Nat} {ce:E} {body:LC} {σ:Type} (kp:List Nat) (vals:σ->Nat->List Value) (J:σ->Nat->Heap->Prop) (n:Nat) (d:Nat) (s0:σ)
  (hok:sJ kp ks ks2 c i=true) (hn:n+d<=9223372036854775806) (h0:bF kp ρ=kp.zip (vals s0 0)) (hj:J s0 0 h)
  (hi : ∀s k,look (kp.zip (vals s k)) i=some (.int .i64 ((k+d:Nat):Int)))
  (hb : ∀s k h,k<=n->J s k h->ev (look (kp.zip (vals s k))) (vw h) ce=some (.bool (decide (k<n))))
  (round : ∀s k h,k<n->J s k h->∀K:Env->Heap->Prop,(∀s' ρ' h',look ρ' i=some (.int .i64 ((k+d:Nat):Int))->bF kp (setE ρ' i (.int .i64 (((k+d:Nat):Int)+1)))=kp.zip (vals s' (k+1))->J s' (k+1) h'->K ρ' h')->body.wp P (eU K (eY a Q)) (kp.zip (vals s k)) h)
  (done : ∀s h,J s n h->Q .normal (kp.zip (vals s n)) h):LC.wp P (forC a i c ks ks2 ce body) (eY a Q) ρ h:=by
 simp only[sJ,Lo,KE,L7,bne_iff_ne,Lt,beq_iff_eq,ne_eq]at hok;refine iV kp (fun m ρ h=>∃s k,k<=n/\ρ=kp.zip (vals s k)/\m=n-k/\J s k h) n ⟨s0,0,by omega,h0,by omega,hj⟩ ?_;rintro m ρ h ⟨s,k,hk,rfl,rfl,hJ⟩ K hK;have hkill:ck (kp.zip (vals s k)) ks=kp.zip (vals s k):=my fun p hp=>(hok p.1 (zip_fst hp)).1.1;have hne : ∀p∈kp.zip (vals s k),p.1≠c:=fun p hp=>(hok p.1 (zip_fst hp)).1.2
 have hk2 : ∀v,ck (setE (kp.zip (vals s k)) c v) [c]=kp.zip (vals s k):=fun v=>nh hne;have hlk : ∀v,look (setE (kp.zip (vals s k)) c v) c=some v:=fun v=>by rw[ag,if_pos rfl]
 simp only[tg,lT,jt,gE,kv,lL,hb s k h hk hJ,KS,jK,lP,true_and,dD,hkill,fU,mB,nT,hlk,kT,hk2,qP,qG,nj,nf,if_true];refine⟨fun hlt=>?_,fun hge=>?_⟩
 ·have hlt':k<n:=by omega
  rw[lJ];refine round s k h hlt' hJ _ fun s' ρ' h' hl he hJ'=>?_;simp only[lT,jt,gE,kv,lL,kY,nT,hl,lP,true_and,KS,yg,KS,xP,jK,dD,fU,true_and];rw[bE (by omega) (by omega)];refine hK (n-(k+1)) _ _ (by omega) ⟨s',k+1,by omega,?_,rfl,hJ'⟩;rw[<-he];refine mA fun t ht=>?_;rw[ag,ag,ah];split
  ·rfl
  rename_i hti;rcases(hok t ht).2 with e | e
  ·exact absurd e.symm hti
  rw[e];rfl
 have:k=n:=by omega
 subst this;exact done s h hJ
open Classical in
/-- Several of one's own, written no more. -/
theorem Owns.wx {W:View} {h:Heap} {o:Own} (w:Owns W h o) (S:Key->Bool) :
  ∃W':View,W.le W'/\Owns W' h (fun k=>if S k then none else o k)/\∀{k:Key} {α:Type} [r:Rep α] {e:TypeId} {v:Value} {l:List α},S k=true->o k=it e v l->SlRd W' v l:=by
 have hle:W.le (fun b=>if ∃k i,S k=true/\o k=some i/\i.v.ownBlock=some b then h[b]? else W b):=fun b x hb=>by
  show(if _ then _ else _)=_;rw[if_neg]
  ·exact hb
  rintro⟨k,i,_,h2,h3⟩;rw[w.av k i h2 b h3]at hb;cases hb
 refine⟨fun b=>if ∃k i,S k=true/\o k=some i/\i.v.ownBlock=some b then h[b]? else W b,hle,?_,?_⟩
 ·refine⟨fun b x hb=>?_,fun k i hk=>?_,fun k i hk b hb=>?_,fun k k' i i' b hk hk'=>?_⟩
  ·split at hb
   ·exact hb
   exact w.wle b x hb
  ·split at hk
   ·cases hk
   exact @OwnT.mono i.α i.rep _ _ _ _ _ (w.own k i hk) _ hle
  ·split at hk
   ·cases hk
   rename_i hs;show(if _ then _ else _)=_;rw[if_neg]
   ·exact w.av k i hk b hb
   rintro⟨k',i',h1,h2,h3⟩;exact hs (w.dj k k' i i' b hk h2 hb h3▸h1)
  split at hk
  ·cases hk
  split at hk'
  ·cases hk'
  exact w.dj k k' i i' b hk hk'
 intro k α r e v l hs hk;refine(w.get hk).rd hle fun b hb=>?_;rw[if_pos ⟨k,_,hs,hk,hb⟩]
theorem Owns.nils {W:View} {h:Heap} {o o':Own} (w:Owns W h o) (ho : ∀k i,o' k=some i->o k=some i\/(i.v = .slice none 0 0/\@OwnT i.α i.rep W h i.e i.v i.l)):Owns W h o':=by
 have hnb : ∀{i:Item} {b:Nat},i.v = .slice none 0 0->i.v.ownBlock=some b->False:=fun e hb=>by rw[e]at hb;simp[Value.ownBlock]at hb
 refine⟨w.wle,fun k i hk=>?_,fun k i hk b hb=>?_,fun k k' i i' b hk hk' hb hb'=>?_⟩
 ·rcases ho k i hk with h1 | ⟨_,h1⟩
  ·exact w.own k i h1
  exact h1
 ·rcases ho k i hk with h1 | ⟨e,_⟩
  ·exact w.av k i h1 b hb
  exact(hnb e hb).elim
 rcases ho k i hk with h1 | ⟨e,_⟩
 ·rcases ho k' i' hk' with h2 | ⟨e,_⟩
  ·exact w.dj k k' i i' b h1 h2 hb hb'
  exact(hnb e hb').elim
 exact(hnb e hb).elim
end Go.Lft
namespace Go.Proofs.YtnfiilgdjpdlkaaGreatDoor
open Go Go.Lft
abbrev TgS:=List (List Int) × MS
def nE (x:TgS) (p b:Nat) (m:MS):TgS:=(x.1.set p (nth x.1 p++[(b:Int)]),m)
def tgA (s:List Int) (k:Nat) (x:TgS):TgS:=
 if aD s x.2.at_ 3=0 then nE x (aD s (x.2.at_+1) ((k+1:Nat):Int)).toNat (k+1) x.2.took.took
 else nE x k (k+1) x.2.took
def tgI (s:List Int) (n b:Nat) (x:TgS):TgS:=
 let t:=1+aD s x.2.at_ ((n:Int)-1)
 if t<=b then
  if aD s (x.2.at_+1) 2=0 then nE x b (min (b+1) (n-1)) x.2.took.took else nE x b t.toNat x.2.took.took
 else nE x b t.toNat x.2.took
def tgB (s:List Int) (n b:Nat) (x:TgS):TgS:=up (fun _=>tgI s n b) (if 1<n then(aD s x.2.at_ 6-3).toNat else 0) (x.1,x.2.took)
def od (s:List Int) (n:Nat) (m:MS):TgS:=up (tgB s n) n (up (tgA s) (n-1) (List.replicate n [],m))
structure TgO (ri:Own) (o:Own) (vo:Value) (l:List (List Int)) (rv:List Raw):Prop where
 res : ∀k:Key,8<=k.1->o k=ri k
 top:o (3,0)=it T.aP vo rv
 len:rv.length=l.length
 row : ∀i,i<l.length->o (4,i)=it T.int (nth rv i).v (nth l i)
 els : ∀k:Key,3<=k.1->k.1<8->k≠(3,0)->(∀i,i<l.length->k≠(4,i))->o k=none
theorem TgO.put {ri:Own} {o:Own} {vo:Value} {l:List (List Int)} {rv:List Raw} (q:TgO ri o vo l rv) {p:Nat} (hp:p<l.length) {v':Value} {r:List Int}:TgO ri ((o.upd (4,p) (it T.int v' r)).upd (3,0) (it T.aP vo (rv.set p ⟨v'⟩))) vo (l.set p r) (rv.set p ⟨v'⟩):=by
 have hpr:p<rv.length:=by rw[q.len];exact hp
 refine⟨fun k hk=>(Own.ay (by rintro rfl;simp at hk)).trans ((Own.ay (by rintro rfl;simp at hk)).trans (q.res k hk)),Own.an,by simp[q.len],fun i hi=>?_,fun k h1 h8 h2 h3=>?_⟩
 ·have hi:i<l.length:=by simpa using hi
  have hir:i<rv.length:=by rw[q.len];exact hi
  rw[Own.ay (by simp),bn hir,bn hi];by_cases e:p=i
  ·subst e;rw[Own.an,if_pos rfl,if_pos rfl]
  rw[Own.ay (fun e2=>e (by injection e2 with _ e2;exact e2.symm)),if_neg e,if_neg e];exact q.row i hi
 have h3 : ∀i,i<l.length->k≠(4,i):=fun i hi=>h3 i (by simpa using hi);rw[Own.ay h2,Own.ay (h3 p hp)];exact q.els k h1 h8 h2 h3
def Tg (ri:Own) (s:List Int) (M:Nat) (vs:Value) (W:View) (vo:Value) (h:Heap) (x:TgS):Prop:=∃W' o rv,W.le W'/\Mk s M vs W' h o x.2/\TgO ri o vo x.1 rv
section
variable {s:List Int} {M:Nat} {vs:Value} {W:View} {vo:Value} {h:Heap} {x:TgS} {ri:Own}
theorem Tg.take (t:Tg ri s M vs W vo h x) {c:Nat} (hm:x.2.ok c) (hc:c<=1000000) {k:Int} (hk:0<k) (hk2:k<=1000000000) :
  aw Tryz.prog N.cu #[.pointer (some ⟨M,0,none⟩),.int .i64 k] h (fun v h'=>v = .int .i64 (aD s x.2.at_ k)/\Tg ri s M vs W vo h' (x.1,x.2.took)):=by obtain⟨W',o,rv,g,w,q⟩:=t;refine(w.take (by have:=hm.at_;omega) hk hk2).mono ?_;rintro v h' ⟨e,o',w',f⟩;exact⟨e,W',o',rv,g,w',fun k hk=>(f k (by omega)).trans (q.res k hk),(f _ (by decide)).trans q.top,q.len,fun i hi=>(f _ (by show 3<=4;decide)).trans (q.row i hi),fun k h1 h8 h2 h3=>(f _ h1).trans (q.els k h1 h8 h2 h3)⟩
theorem Tg.idx (t:Tg ri s M vs W vo h x) {k:IntKind} {i:Int} (h0:0<=i) (h1:i<x.1.length):Bn.ev (.idx 1) vo (.int k i)=some (.pointer (some ((slA vo).add i.toNat))):=by obtain⟨W',o,rv,g,w,q⟩:=t;exact(w.own.now q.top).idx1 rfl h0 (by rw[q.len];exact h1)
theorem Tg.put {po po2 po3:OP} (t:Tg ri s M vs W vo h x) {p:Nat} (hp:p<x.1.length) (hl:(nth x.1 p).length<=1000000) {b:Nat} (hb:b<=1000000) :
  ∃v:Value,aj (vw h) ((slA vo).add p)=some v/\∀{ty ty2 ty3:TypeId} {a a1 a2:Operand} {c1 c2:Operand} {us:List (Nat × Value)} {us2:Value->List (Nat × Value)} {us3:Value->Value->List (Nat × Value)} {K:Value->Value->Value->Heap->Prop},
   asg us a = .int .i64 b->(∀u,asg (us2 u) a1=v)->(∀u,asg (us2 u) a2=u)->(∀u v',asg (us3 u v') c1 = .pointer (some ((slA vo).add p)))->(∀u v',asg (us3 u v') c2=v')->(∀u v' h',Tg ri s M vs W vo h' (nE x p b x.2)->K u v' undef h')->
   @Lft.step po Tryz.prog (.buildSlice T.aP 1 #[(0,a)]) ty us h fun u h2=>@Lft.step po2 Tryz.prog (.call ⟨.builtin .append,#[a1,a2],#[T.aP,T.aP]⟩) ty2 (us2 u) h2 fun v' h3=>@Lft.step po3 Tryz.prog (.store T.aP c1 c2) ty3 (us3 u v') h3 fun w h4=>K u v' w h4:=by
 obtain⟨W',o,rv,g,w,q⟩:=t;have hpr:p<rv.length:=by rw[q.len];exact hp
 have hcell:=((w.own.now q.top).at hpr).raw;have hn:Rep.n Raw=1:=rfl;rw[hn,Lq,<-az hpr]at hcell;refine⟨_,hcell,fun{ty ty2 ty3 a a1 a2 c1 c2 us us2 us3 K} ha ha1 ha2 hc1 hc2 hK=>?_⟩;refine w.own.jd (k:=(4,p)) (α:=Int) (d:=(b:Int)) (q.row p hp) El.aP ha (bC.2 ⟨rfl,by constructor<;>omega⟩) (by omega) (by omega) ha1 ha2 fun u v' h3 w3 _=>?_;have hv:=(w3.cells (k:=(4,p)) Own.an).2
 refine w3.bh (k:=(3,0)) (α:=Raw) (v:=vo) (l:=rv) (i:=p) (d:=⟨v'⟩) ((Own.ay (by simp)).trans q.top) (by kernel_rfl) (by rw[hc1,hn,Lq]) (hc2 u v') hpr (lZ.2 ⟨rfl,hv⟩) fun h4 w4 _=>hK u v' h4 ?_;obtain⟨vb,vl,lb,bb⟩:=w.box;exact⟨W',_,_,g,⟨w4,w.src,vb,vl,lb,bb.frame fun k hk=>by rw[Own.ay (by rintro rfl;simp at hk),Own.ay (by rintro rfl;simp at hk)]⟩,q.put hp⟩
end
theorem wD {x:TgS} {p b:Nat} {m:MS}:(nE x p b m).1.length=x.1.length:=by simp[nE]
theorem CZ {x:TgS} {p b c:Nat} {m:MS} (h : ∀i,(nth x.1 i).length<=c) : ∀i,(nth (nE x p b m).1 i).length<=c+1:=by
 intro i;have hi:=h i;rcases KB i x.1.length with hl | hl
 ·show(nth (x.1.set p _) i).length<=_;rw[bn hl];split
  ·rename_i e;subst e;rw[KK,KW];omega
  omega
 rw[de (by rw[wD];exact hl)];show 0<=_;omega
structure TgK (n c:Nat) (x:TgS):Prop where
 len:x.1.length=n
 row : ∀i,(nth x.1 i).length<=c
 ok:x.2.ok c
theorem TgK.mono {n c d:Nat} {x:TgS} (h:TgK n c x) (hd:c<=d):TgK n d x:=⟨h.len,fun i=>KU (h.row i) hd,h.ok.mono hd⟩
theorem TgK.put {n c p b:Nat} {x:TgS} {m:MS} (h:TgK n c x) (hm:m.ok (c+2)):TgK n (c+2) (nE x p b m):=⟨wD.trans h.len,fun i=>by have:=CZ (p:=p) (b:=b) (m:=m) h.row i;omega,hm⟩
theorem Im {s:List Int} {n c k:Nat} {x:TgS} (h:TgK n c x):TgK n (c+2) (tgA s k x):=by
 unfold tgA;split
 ·exact h.put h.ok.took.took
 exact h.put (h.ok.took.mono (by omega))
theorem HT {s:List Int} {n c b:Nat} {x:TgS} (h:TgK n c x):TgK n (c+2) (tgI s n b x):=by
 unfold tgI;simp only;repeat' split
 ·exact h.put h.ok.took.took
 ·exact h.put h.ok.took.took
 exact h.put (h.ok.took.mono (by omega))
theorem yt {s:List Int} {n c:Nat} {x:TgS} (h:TgK n c x) : ∀k,TgK n (c+2*k) (up (tgA s) k x)
 | 0=>h
 | k+1=>(Im (yt h k)).mono (by omega)
theorem A0 {s:List Int} {n c b:Nat} {x:TgS} (h:TgK n c x) : ∀k,TgK n (c+2*k) (up (fun _=>tgI s n b) k x)
 | 0=>h
 | k+1=>(HT (A0 h k)).mono (by omega)
theorem IG {s:List Int} {n c b:Nat} {x:TgS} (h:TgK n c x):TgK n (c+10) (tgB s n b x):=by unfold tgB;have ht:=dd (s:=s) (at_:=x.2.at_) (n:=6) (by decide);have h1:TgK n (c+1) (x.1,x.2.took):=⟨h.len,fun i=>by have:=h.row i;show(nth x.1 i).length<=_;omega,h.ok.took⟩;refine(A0 h1 _).mono ?_;split<;>omega
theorem AG {s:List Int} {n c:Nat} {x:TgS} (h:TgK n c x) : ∀k,TgK n (c+10*k) (up (tgB s n) k x)
 | 0=>h
 | k+1=>(IG (AG h k)).mono (by omega)
theorem AE {s:List Int} {M:Nat} {vs:Value} {W:View} {h:Heap} {o:Own} {m:MS} {ri:Own} (w:Mk s M vs W h o m) (hres : ∀k:Key,8<=k.1->o k=ri k) (ho : ∀k:Key,3<=k.1->k.1<8->o k=none) {n c:Nat} (hm:m.ok c) (hc:c<=1000) (hn1:1<=n) (hn2:n<=100) :
  aw Tryz.prog N.aX #[.pointer (some ⟨M,0,none⟩),.int .i64 n] h (fun u h'=>∃W' o',W.le W'/\Mk s M vs W' h' o' (od s n m).2/\(∀k:Key,8<=k.1->o' k=ri k)/\(∀k:Key,3<=k.1->k.1<8->o' k=none)/\SlRd W' u (od s n m).1):=by
 refine ao (args:=[.pointer (some ⟨M,0,none⟩),.int .i64 n]) follows F.aX E.aX (Kw (by kernel_rfl)) fun K hK=>?_;have htd:od s n m=_:=rfl;dsimp only[L.aX];refine ab fun z hz=>?_;simp;subst hz;refine ab fun z hz=>?_;simp;refine mV (α:=Raw) (W:=W) (k:=.i64) (n:=n) (d:=⟨.slice none 0 0⟩) El.jy (by rfl) (by rfl) ⟨rfl,rfl⟩ (by omega) (by omega) fun vo h1 o1 m1 hle1 hb1=>?_;have t1:Tg ri s M vs W vo h1 (List.replicate n [],m):=by
  have w1:=w.own.add (k:=(3,0)) (ho _ (by decide) (by decide)) o1 hle1 (fun b hb=>by rw[hb1]at hb;cases hb;exact Kz _);have w2:=w1.nils (o':=fun k=>if k.1=4/\k.2<n then it T.int (.slice none 0 0) ([]:List Int) else o.upd (3,0) (it T.aP vo (List.replicate n (Raw.mk (.slice none 0 0)))) k) fun k i hk=>by
   split at hk
   ·cases hk;exact .inr ⟨rfl,OwnT.nil (α:=Int) W h1 T.int⟩
   exact .inl hk
  obtain⟨vb,vl,lb,bb⟩:=w.box;refine⟨W,_,List.replicate n ⟨.slice none 0 0⟩,View.le_refl _,⟨w2,w.src,vb,vl,lb,bb.frame fun k hk=>?_⟩,?_,rfl,by simp,fun i hi=>?_,fun k h1 h8 h2 h3=>?_⟩
  ·have h4:¬(k.1=4/\k.2<n):=by omega
   show(if _ then _ else _)=_;rw[if_neg h4,Own.ay (by rintro rfl;simp at hk)]
  ·intro k hk;show(if _ then _ else _)=_;rw[if_neg (by omega),Own.ay (by rintro rfl;simp at hk),hres k hk]
  ·have hi:i<n:=by simpa using hi
   show(if _ then _ else _)=_;rw[if_pos ⟨rfl,hi⟩,aB hi,aB hi]
  show(if _ then _ else _)=_;rw[if_neg,Own.ay h2,ho k h1 h8];rintro⟨e1,e2⟩;refine h3 k.2 (by simpa using e2) ?_;rw[<-e1]
 have k1:TgK n c (List.replicate n [],m):=⟨by simp,fun i=>by
  rcases KB i n with hi | hi
  ·rw[aB hi];show 0<=_;omega
  rw[de (by simpa using hi)];show 0<=_;omega,hm⟩;clear m1 o1 w ho;obtain⟨x0,hx0⟩ : ∃x0:TgS,x0=(List.replicate n [],m):=⟨_,rfl⟩;rw[<-hx0]at t1 k1;have htd:od s n m=up (tgB s n) n (up (tgA s) (n-1) x0):=by rw[hx0];rfl
 clear hx0;subst hz;refine ab fun z hz=>?_;simp;refine tI [0,1,5,6] (fun(_:Unit) k=>[.pointer (some ⟨M,0,none⟩),.int .i64 n,vo,.int .i64 ((k+1:Nat):Int)]) (fun _ k h2=>Tg ri s M vs W vo h2 (up (tgA s) k x0)) (n-1) 1 ()
  rfl (by omega) rfl t1 (fun _ _=>rfl) (fun v k h2 hk m=>by simp;omega) ?_ ?_
 ·rintro _ k h2 hlt t2 K2 hK2;have kx:=yt (s:=s) k1 k;have e2:up (tgA s) (k+1) x0=tgA s k (up (tgA s) k x0):=rfl;rw[e2]at hK2;generalize up (tgA s) k x0=x at t2 kx hK2;have hxl:=kx.len;simp only[aH];refine ab fun y hy=>?_;simp;rw[show IntKind.i64.wrap (k:Int)=k from bE (by omega) (by omega)];subst hy;refine ab fun y hy=>?_;have fin : ∀(p:Nat) (m':MS) (h':Heap) (ρ:Env),tgA s k x=nE x p (k+1) m'->p<n->Tg ri s M vs W vo h' (x.1,m')->Lft.look ρ 0=some (.pointer (some ⟨M,0,none⟩))->Lft.look ρ 1=some (.int .i64 n)->Lft.look ρ 5=some vo->Lft.look ρ 6=some (.int .i64 ((k+1:Nat):Int))->Lft.look ρ 7=some (.int .i64 p)->
    LC.wp Tryz.prog y (eY 1 (eU K2 (eY 0 (eU (LC.wp Tryz.prog z (dH [.tmp 4] K)) (dH [.tmp 4] K))))) ρ h':=by
   intro p m' h' ρ e hp t r0 r1 r5 r6 r7;subst hy;obtain⟨vr,hvr,put⟩:=t.put (p:=p) (b:=k+1) (by show p<x.1.length;omega) (by have:=kx.row p;show(nth x.1 p).length<=_;omega) (by omega);have hix:=t.idx (k:=.i64) (i:=p) (by omega) (by show(p:Int)<x.1.length;omega);simp only[KT]at hix;simp[ag,ah,r0,r1,r5,r6,r7,hix,hvr];refine put (by simp) (fun _=>by simp) (fun _=>by simp) (fun _ _=>by simp) (fun _ _=>by simp) fun u v' h3 t3=>?_;refine hK2 () _ _ ?_ ?_ (by rw[e];exact t3)
   ·simp[ag,ah,r6]
   simp[bF,ag,ah,r0,r1,r5]
  have had:tgA s k x=_:=tgA.eq_1 s k x;refine ab fun w hw=>?_;simp;refine af (by kernel_rfl) (t2.take kx.ok (by omega) (k:=3) (by decide) (by decide)) ?_;rintro _ h3 ⟨rfl,t3⟩;simp;subst hw;by_cases c3:aD s x.2.at_ 3=0
  ·rw[if_pos c3]at had;refine aU (by simp[c3]) ?_;simp;refine af (by kernel_rfl) (t3.take kx.ok.took (by omega) (k:=((k+1:Nat):Int)) (by omega) (by omega)) ?_;rintro _ h4 ⟨rfl,t4⟩;have hx:(x.1,x.2.took).2.at_=x.2.at_+1:=rfl;rw[hx];obtain⟨u0,u1⟩:=dd (s:=s) (at_:=x.2.at_+1) (n:=((k+1:Nat):Int)) (by omega);generalize aD s (x.2.at_+1) ((k+1:Nat):Int)=q at had u0 u1;refine fin q.toNat _ h4 _ had (by omega) t4 ?_ ?_ ?_ ?_ ?_;all_goals simp
   omega
  rw[if_neg c3]at had;refine aV (by simp[c3]) ?_;simp;refine fin k _ h3 _ had (by omega) t3 ?_ ?_ ?_ ?_ ?_;all_goals simp
 rintro _ h2 t2;have k2:=yt (s:=s) k1 (n-1);generalize up (tgA s) (n-1) x0=x1 at t2 k2 htd;simp;subst hz;refine ab fun z hz=>?_;simp;refine dI [0,1,5,8] (fun(_:Unit) k=>[.pointer (some ⟨M,0,none⟩),.int .i64 n,vo,.int .i64 k]) (fun _ k h3=>Tg ri s M vs W vo h3 (up (tgB s n) k x1)) n ()
  rfl (by omega) rfl t2 (fun _ _=>rfl) (fun v k h3 hk m=>by simp) ?_ ?_
 ·rintro _ b h3 hlt t3 K2 hK2;have kx:=(AG (s:=s) k2 b).mono (d:=3000) (by omega);have e3:up (tgB s n) (b+1) x1=tgB s n b (up (tgB s n) b x1):=rfl;rw[e3]at hK2;generalize up (tgB s n) b x1=x at t3 kx hK2;simp only[aH];refine ab fun y hy=>?_;simp;refine af (by kernel_rfl) (t3.take kx.ok (by omega) (k:=6) (by decide) (by decide)) ?_;rintro _ h4 ⟨rfl,t4⟩;have hbd:tgB s n b x=_:=tgB.eq_1 s n b x
  obtain⟨r0,r1⟩:=dd (s:=s) (at_:=x.2.at_) (n:=6) (by decide);generalize aD s x.2.at_ 6=r at hbd r0 r1;have kx1:TgK n 3001 (x.1,x.2.took):=⟨kx.len,fun i=>by have:=kx.row i;show(nth x.1 i).length<=_;omega,kx.ok.took⟩;obtain⟨cnt,hcnt⟩ : ∃cnt:Nat,cnt=if 1<n then(r-3).toNat else 0:=⟨_,rfl⟩;have hc3:cnt<=3:=by rw[hcnt];split<;>omega
  rw[<-hcnt]at hbd;generalize (x.1,x.2.took)=x2 at t4 kx1 hbd;subst hy;refine ab fun y hy=>?_;simp;subst hy;simp only[aH];have hw3:IntKind.i64.wrap (r-3)=r-3:=bE (by omega) (by omega);refine D1 [0,1,5,8,9,10] (fun(_:Unit) k=>[.pointer (some ⟨M,0,none⟩),.int .i64 n,vo,.int .i64 b,.int .i64 r,.int .i64 k]) (fun _ k h5=>Tg ri s M vs W vo h5 (up (fun _=>tgI s n b) k x2)) cnt ()
   rfl (by omega) rfl t4 (fun _ _=>rfl) (fun v k h5 hk m=>by
    by_cases hn:1<n
    ·rw[if_pos hn]at hcnt;by_cases hk2:k<cnt
     ·have e1:(k:Int)<r-3:=by omega
      simp[hw3,e1,hk2];omega
     have e1:¬(k:Int)<r-3:=by omega
     simp[hw3,e1,hk2]
    rw[if_neg hn]at hcnt;have e2:¬k<cnt:=by omega
    by_cases e1:(k:Int)<r-3
    ·simp[hw3,e1,e2];omega
    simp[hw3,e1,e2]) ?_ ?_
  ·rintro _ k h5 hltk t5 K3 hK3;have hn2:1<n:=by
    rw[hcnt]at hltk;split at hltk
    ·assumption
    omega
   have kx3:=(A0 (s:=s) (b:=b) kx1 k).mono (d:=4000) (by omega);have e5:up (fun _=>tgI s n b) (k+1) x2=tgI s n b (up (fun _=>tgI s n b) k x2):=rfl;rw[e5]at hK3;generalize up (fun _=>tgI s n b) k x2=x at t5 kx3 hK3;have hxl:=kx3.len;have hid:tgI s n b x=_:=tgI.eq_1 s n b x;have hwn:IntKind.i64.wrap ((n:Int)-1)=(n:Int)-1:=bE (by omega) (by omega);simp only[aH];refine ab fun y hy=>?_;simp[hwn];refine af (by kernel_rfl) (t5.take kx3.ok (by omega) (k:=(n:Int)-1) (by omega) (by omega)) ?_;rintro _ h6 ⟨rfl,t6⟩;obtain⟨q0,q1⟩:=dd (s:=s) (at_:=x.2.at_) (n:=(n:Int)-1) (by omega);generalize aD s x.2.at_ ((n:Int)-1)=q at hid q0 q1;have hwq:IntKind.i64.wrap (1+q)=1+q:=bE (by omega) (by omega)
   simp[hwq];subst hy;refine ab fun y hy=>?_;refine ix (fun ρ h'=>∃(t:Nat) (m':MS) (v0 v:Value),tgI s n b x=nE x b t m'/\t<=1000/\Tg ri s M vs W vo h' (x.1,m')/\ρ=[(0,.pointer (some ⟨M,0,none⟩)),(1,.int .i64 n),(5,vo),(8,.int .i64 b),(9,.int .i64 r),(10,.int .i64 k),(11,.int .i64 t),(57,.int .i64 q),(62,v0),(64,v)]) ?_ ?_
   ·intro K4 hK4;refine ab fun w hw=>?_;by_cases c1:1+q<=b
    ·rw[if_pos c1]at hid;simp[c1];refine af (by kernel_rfl) (t6.take kx3.ok.took (by omega) (k:=2) (by decide) (by decide)) ?_;rintro _ h7 ⟨rfl,t7⟩;have hx:(x.1,x.2.took).2.at_=x.2.at_+1:=rfl;rw[hx];simp;subst hw;by_cases c2:aD s (x.2.at_+1) 2=0
     ·rw[if_pos c2]at hid;refine aU (by simp[c2]) ?_;simp;refine hK4 _ _ ⟨min (b+1) (n-1),_,.bool true,.int .i64 (aD s (x.2.at_+1) 2),hid,by omega,t7,?_⟩;rw[hwn,show IntKind.i64.wrap ((b:Int)+1)=(b:Int)+1 from bE (by omega) (by omega)];rw[show(if(n:Int)-1<(b:Int)+1 then(n:Int)-1 else(b:Int)+1)=((min (b+1) (n-1):Nat):Int) by split<;>omega]
     rw[if_neg c2]at hid;refine aV (by simp[c2]) ?_;simp;refine hK4 _ _ ⟨(1+q).toNat,_,.bool true,.int .i64 (aD s (x.2.at_+1) 2),hid,by omega,t7,?_⟩;rw[show(((1+q).toNat:Nat):Int)=1+q by omega]
    rw[if_neg c1]at hid;simp[c1];subst hw;refine aV (by simp) ?_;simp;refine hK4 _ _ ⟨(1+q).toNat,_,.bool false,undef,hid,by omega,t6,?_⟩;rw[show(((1+q).toNat:Nat):Int)=1+q by omega]
   rintro _ h7 ⟨t,m',v0,v,e,ht,t7,rfl⟩;subst hy;obtain⟨vr,hvr,put⟩:=t7.put (p:=b) (b:=t) (by show b<x.1.length;omega) (by have:=kx3.row b;show(nth x.1 b).length<=_;omega) (by omega);have hix:=t7.idx (k:=.i64) (i:=b) (by omega) (by show(b:Int)<x.1.length;omega);simp only[KT]at hix;simp[hix,hvr];refine put rfl (fun _=>rfl) (fun _=>rfl) (fun _ _=>rfl) (fun _ _=>rfl) fun u v' h8 t8=>?_;exact hK3 () _ _ rfl rfl (by rw[e];exact t8)
  rintro _ h5 t5;simp;refine hK2 () _ _ rfl rfl (by rw[hbd];exact t5)
 rintro _ h3 t3;rw[<-htd]at t3;simp;subst hz;simp;refine hK _ _ ?_;obtain⟨W',o,rv,g,w,q⟩:=t3;obtain⟨W2,g2,w2,fr⟩:=w.own.wx (fun k=>decide (3<=k.1)&&decide (k.1<8));obtain⟨vb,vl,lb,bb⟩:=w.box;refine⟨W2,_,View.le_trans g g2,⟨w2,w.src.mono g2,vb,vl,lb,bb.frame fun k hk=>?_⟩,?_,fun k hk h8=>by simp[hk,h8],?_⟩
 ·have:¬3<=k.1:=by omega
  simp[this]
 ·intro k hk;have h1:3<=k.1:=by omega
  have h2:¬k.1<8:=by omega
  simp[h2];exact q.res k hk
 refine xI (fr (k:=(3,0)) (by decide) q.top) rfl q.len fun i h1 h2 cs hr=>?_;obtain⟨e,_⟩:cs=[(rv[i]).v]/\_:=hr;refine⟨_,e,?_⟩;have:=fr (k:=(4,i)) (by simp) (q.row i h2);rwa [az h1,az h2]at this
end Go.Proofs.YtnfiilgdjpdlkaaGreatDoor
