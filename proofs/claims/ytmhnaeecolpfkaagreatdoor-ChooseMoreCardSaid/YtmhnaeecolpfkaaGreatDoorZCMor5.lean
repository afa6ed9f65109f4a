/- A part of the proof: Mi, Mj, Mk, Ml, Mm, Mn, Mo, Mp, Mq, Mr, Ms, Mt, Mu, Mv, Mw, Mx, My, Mz, Na, Va. -/
import Derived.Test.YtmhnaeecolpfkaaGreatDoorZCMor4
set_option linter.unusedSimpArgs false
set_option linter.unusedVariables false
open Go.Value renaming int->VB,slice->VG,pointer->VH
open Go.IntKind renaming i64->VC,i32->VD
open Option renaming some->VE,none->VF
open Bool renaming true->VI,false->VJ
open Go.Proofs.Tryz renaming prog->VK
open Go.Proofs
namespace Go.Lft
def MS.fB (m:MS) (b:Nat) (t:de):MS:={ m with blocks:=m.blocks.set b { nth m.blocks b with term:=t } }
def cmpL:List Int:=[11,12,13]
def e9 (s:List Int) (to:List Int) (b:Nat) (m:MS):de × MS:=
 if to.length=0 then
  if aH s m.at_ 8=0 then(⟨5,[],[],⟨IntKind.i32.wrap (aH s (m.at_+1) 200)⟩⟩,m.took.took)
  else if 1<aH s m.at_ 8 then(⟨4,[(aI s m.took b).1],[],⟨0⟩⟩,(aI s m.took b).2)
  else(⟨4,[],[],⟨0⟩⟩,m.took)
 else if to.length=1 then(⟨1,[],to,⟨0⟩⟩,m)
 else if to.length=2 then
  let r:=aI s m b
  if aH s r.2.at_ 2=0 then
   let w:=aI s r.2.took b
   (⟨2,[w.2.next],to,⟨0⟩⟩,w.2.aV.took.add b ⟨nth cmpL (aH s w.2.at_ 3).toNat,w.2.next,0,[r.1,w.1],⟨0⟩⟩)
  else(⟨2,[r.1],to,⟨0⟩⟩,r.2.took)
 else
  let r:=aI s m b
  let m2:=r.2.constant b 7
  (⟨3,[m2.next],to,⟨0⟩⟩,m2.two b 5 r.1 r.2.next)
def py (s:List Int) (to:List Int) (b:Nat) (m:MS):MS:=(e9 s to b m).2.fB b (e9 s to b m).1
section
variable {s:List Int} {M:Nat} {vs:Value} {W0:View} {h:Heap} {o0:Own} {m:MS} {u:Value} {ds:List Int}
theorem Nz.dS {po:OP} (n:Nz s M vs W0 h o0 m u ds) {k:Key} {e:TypeId} {B N i:Nat} {l:List Value} {ty t:TypeId} {us:List (Nat × Value)} {x y:Operand} {v:Value} {K:Value->Heap->Prop} (h3:3<=k.1) (hk:o0 k=bx e B (RawN.mk (n:=N) l)) (hi:i<=N) (hsz:cW VK t=VE 1) (hx:asg us x = VH (VE ⟨B,i,VF⟩)) (hy:asg us y=v) (hv:v.oneCell'=VI)
  (hK : ∀h',Nz s M vs W0 h' (o0.upd k (bx e B (RawN.mk (n:=N) (l.set i v)))) m u ds->K undef h'):@Lft.step po VK (.store t x y) ty us h K:=by
 obtain⟨W,o,g1,w,f,sl⟩:=n;refine w.own.dS (k:=k) (n:=N) (i:=i) (e:=e) (B:=B) (l:=l) ((f k h3).trans hk) hi hsz hx hy hv λh' w' _=>hK h' ?_;obtain⟨vb,vl,lb,bb⟩:=w.box;refine⟨W,_,g1,⟨w',w.src,vb,vl,lb,bb.frame λq hq=>Own.aB (by rintro rfl;omega)⟩,λq hq=>?_,sl⟩;unfold Own.upd;split
 ·rfl
 exact f q hq
theorem Nz.re(n:Nz s M vs W0 h o0 m u ds){o0':Own}(he : ∀k,o0' k=o0 k):Nz s M vs W0 h o0' m u ds:=by obtain⟨W,o,g1,w,f,sl⟩:=n;exact⟨W,o,g1,w,λk hk=>(f k hk).trans (he k).symm,sl⟩
theorem Mk.Nh{po:OP}{W:View}{o:Own}(w:Mk s M vs W h o m){vb vl:Value}{lb:List BlkM}(bb:MkB M vs m o vb vl lb){b:Nat}{t:de}{v:Value}{ty ty2:TypeId}{us:List (Nat × Value)}{x y:Operand}{K:Value->Heap->Prop}(hb:b<m.blocks.length)(hsz:cW VK ty2=VE 4)(hx:asg us x = VH (VE (((slA vb).add (b*6)).add 2)))(hy:asg us y=v)(hr:Rd W v t)(hK : ∀h' o',Mk s M vs W h' o' (m.fB b t)->(∀k:Key,3<=k.1->o' k=o k)->K undef h'):@Lft.step po VK (.store ty2 x y) ty us h K:=by
 have hbl:b<lb.length:=by rw[bb.len];exact hb
 refine w.own.qy (k:=(0,2)) (α:=BlkM) BlkM.mV (v:=vb) (l:=lb) (i:=b) (d:=t) bb.blk hsz hx hy hbl hr λh7 w7 _=>?_;refine hK h7 _ ⟨w7,w.src,vb,vl,_,bb.iz hb (x':={ nth m.blocks b with term:=t }) (y':={ lb[b]with term:=t }) rfl Own.an ?_ ?_ λq h1 _ _=>Own.aB h1⟩ (pP V6)
 ·rw[Own.aB V5,bb.phis b hb,ay hbl]
 rw[Own.aB V5,bb.ins b hb,ay hbl]
end
theorem Iu{H:View}{va vt:Value}{a t:List Int}{kd:Int}{imm:I32}(h3:SlRd H va a)(h4:SlRd H vt t)(h5:I64 kd)(h6:-2147483648<=imm.v/\imm.v<=2147483647):Rd H (.agg #[VB VC kd,va,vt,VB VD imm.v]) (de.mk kd a t imm):=
 ⟨_,rfl,[VB VC kd],_,rfl,⟨rfl,h5⟩,[va],_,rfl,⟨va,rfl,h3⟩,[vt],_,rfl,⟨vt,rfl,h4⟩,rfl,h6⟩
theorem LB: ∀x∈cmpL,I64 x:=by
 intro x hx;have : ∀x∈cmpL,0<=x/\x<=13:=by decide
 have:=this x hx;exact V9
theorem Pz{s:List Int}{M:Nat}{vs:Value}{W0:View}{h:Heap}{o0:Own}{m:MS}{vt:Value}{to:List Int}(n:Nx s M vs W0 h o0 m){b c:Nat}(hb:b<m.blocks.length)(hm:m.ok c)(hc:c<=800000)(hfree:o0 (9,1)=VF)(ht:SlRd W0 vt to):
  az VK 41 #[ptz M,VB VC b,vt] h (λv h'=>Nx s M vs W0 h' o0 (py s to b m)):=by
 refine aq (args:=[ptz M,VB VC b,vt]) follows Tryz.func41 E.kz Vw λK hK=>?_;dsimp only[L.kz,lkF,lkG];have hmm:py s to b m=_:=py.eq_1 s to b m;have htm:e9 s to b m=_:=e9.eq_1 s to b m;obtain⟨Wb,ob,gb,wb,fb⟩:=n;refine aa λz hz=>?_;simp;refine aA (z:=zz9) (places:=zpe) (vs:=[]) (cs:=#[VB VC 0,VG VF 0 0,VG VF 0 0,VB VD 0]) V0 V0 V5 V0 ?_;refine wb.own.ey (k:=(9,1)) (n:=3) (l:=[VB VC 0,VG VF 0 0,VG VF 0 0,VB VD 0]) ((fb _ V6).trans hfree) (z:=zz9) V0 rfl V0 rfl V6 Vt V8 V8 λh1 q1 w1=>?_;generalize h.size=B at w1;obtain⟨o1,ho1⟩ : ∃o1,o1=ob.upd (9,1) (bx T.j9 B (RawN.mk (n:=3) [VB VC 0,VG VF 0 0,VG VF 0 0,VB VD 0])):=⟨_,rfl⟩;have k1:o1 (9,1)=bx T.j9 B (RawN.mk (n:=3) [VB VC 0,VG VF 0 0,VG VF 0 0,VB VD 0]):=by rw[ho1,Own.an]
 have ht:=ht.mono gb;have n:Nz s M vs Wb h1 o1 m (VG VF 0 0) []:=by obtain⟨vb,vl,lb,bb⟩:=wb.box;rw[ho1];exact⟨Wb,_,View.le_refl _,⟨w1,wb.src,vb,vl,lb,bb.frame λq hq=>Own.aB (by rintro rfl;simp at hq)⟩,λ_ _=>rfl,aO⟩
 have back : ∀{h':Heap} {W':View} {o':Own} {m':MS} {i:Option Lft.Item},Wb.le W'->Mk s M vs W' h' o' m'->(∀k:Key,3<=k.1->o' k=o1.upd (9,1) i k)->Nx s M vs W0 h' o0 m':=by
  intro h' W' o' m' i g w f;refine⟨W',o'.upd (9,1) VF,Vz gb g,⟨w.own.sub λq j hq=>?_,w.src,?_⟩,λk hk=>?_⟩
  ·unfold Own.upd at hq;split at hq
   ·cases hq
   exact hq
  ·obtain⟨vb,vl,lb,bb⟩:=w.box;exact⟨vb,vl,lb,bb.frame λq hq=>Own.aB (by rintro rfl;simp at hq)⟩
  by_cases e:k=(9,1)
  ·rw[e,Own.an,hfree]
  rw[Own.aB e,f k hk,Own.aB e,ho1,Own.aB e,fb k hk]
 clear wb w1 q1;subst hz;refine aa λz hz=>?_;have fin : ∀(kd:Int) (va vt':Value) (args to':List Int) (im:Int) (m2:MS) (h':Heap) (ρ:Env),e9 s to b m=(⟨kd,args,to',⟨im⟩⟩,m2)->I64 kd->(-2147483648<=im/\im<=2147483647)->b<m2.blocks.length->Nz s M vs Wb h' (o1.upd (9,1) (bx T.j9 B (RawN.mk (n:=3) [VB VC kd,va,vt',VB VD im]))) m2 va args->SlRd Wb vt' to'->Lft.look ρ 0=VE (ptz M)->Lft.look ρ 1=VE (VB VC b)->Lft.look ρ 6=VE (ptz B)->LC.wp VK z (dT [] K) ρ h':=by
  intro kd va vt' args to' im m2 h' ρ e ikd iim hb n ht' r0 r1 r6;subst hz;rw[e]at hmm;obtain⟨W,o,g1,w,f,sl⟩:=n;obtain⟨vb,vl,lb,bb⟩:=w.box;have hk:o (9,1)=bx T.j9 B (RawN.mk (n:=3) [VB VC kd,va,vt',VB VD im]):=(f _ V6).trans Own.an;have c4:=w.own.CG (k:=(9,1)) (n:=3) hk;have c4:Un.ev (vw h') (.bM 4) (ptz B)=VE (.agg #[VB VC kd,va,vt',VB VD im]):=c4;have c3:ao (vw h') ⟨M,3,VF⟩=VE vb:=bb.cell w.own (i:=3) V6;have hbl:b<lb.length:=by rw[bb.len];exact hb
  have sb:=w.own.now bb.blk;have sbb:=sb.bound;refine aQ (vw h') Vy ?_;simp(disch:=omega)[r0,r1,r6,c3,c4,sb.idxn (N:=6) rfl];refine w.Nh bb (b:=b) (t:=⟨kd,args,to',⟨im⟩⟩) hb V0 rfl rfl (Iu (imm:=⟨im⟩) sl (ht'.mono g1) ikd iim) λh2 o2 w2 f2=>?_;refine hK _ _ ?_;rw[hmm];exact back g1 w2 λk hk=>(f2 k hk).trans (f k hk)
 have hlen : ∀{Q:View},Un.ev Q .len vt=VE (VB VC to.length):=fun{Q}=>ht.len;refine aa λy hy=>?_;simp[hlen];subst hy;simp only[aW];refine aa λy hy=>?_;simp;subst hy;by_cases c0:to.length=0
 ·have c0':to=[]:=Sj c0;rw[if_pos c0]at htm;refine aT (by simp[c0,c0']) ?_;refine aa λy hy=>?_;simp;refine n.dS (k:=(9,1)) (i:=0) V6 k1 V6 V0 rfl rfl rfl λh2 n=>?_;subst hy;refine aa λy hy=>?_;simp;refine ah V0 (fA n hm V4 (k:=8) V6 V6) ?_;rintro _ h3 ⟨rfl,n⟩;obtain⟨t0,t1⟩:=bT (s:=s) (at_:=m.at_) (n:=8) V6;subst hy;refine aa λy hy=>?_;simp;subst hy;have n:Nz s M vs Wb h3 (o1.upd (9,1) (bx T.j9 B (RawN.mk (n:=3) [VB VC 4,VG VF 0 0,VG VF 0 0,VB VD 0]))) m.took (VG VF 0 0) []:=n;by_cases c1:aH s m.at_ 8=0
  ·rw[if_pos c1]at htm;refine aT (by simp[c1]) ?_;refine aa λy hy=>?_;simp;refine n.dS (k:=(9,1)) (i:=0) V6 Own.an V6 V0 rfl rfl rfl λh4 n=>?_;subst hy;simp;refine ah V0 (fA n hm.took V4 (k:=200) V6 V6) ?_;rintro _ h5 ⟨rfl,n⟩;have hx:m.took.at_=m.at_+1:=rfl;rw[hx];simp;refine n.dS (k:=(9,1)) (i:=3) V6 Own.an V6 V0 rfl rfl rfl λh6 n=>?_;refine fin 5 (VG VF 0 0) (VG VF 0 0) [] [] _ _ h6 _ htm i64c oY hb ?_ aO ?_ ?_ ?_
   ·exact n.re λk=>by rw[fy,fy];rfl
   all_goals simp
  rw[if_neg c1]at htm;refine bf (by simp[c1]) ?_;refine aa λy hy=>?_;simp;subst hy;by_cases c2:1<aH s m.at_ 8
  ·rw[if_pos c2]at htm;refine aT (by simp[c2]) ?_;simp;refine ah V0 (jL n (b:=b) hb hm.took V4) ?_;rintro _ h4 ⟨⟨rfl,i4⟩,n⟩;have hb2:b<(aI s m.took b).2.blocks.length:=by rw[ed];exact hb
   generalize aI s m.took b=r at htm i4 n hb2;refine n.lit (ls:=[r.1]) V5 (by simp[i4]) rfl V6 λua un uc h5 _ n=>?_;refine n.dS (k:=(9,1)) (i:=1) V6 Own.an V6 V0 rfl rfl rfl λh6 n=>?_;refine fin 4 (.slice ua un uc) (VG VF 0 0) [r.1] [] 0 _ h6 _ htm i64c V6 hb2 (n.re λk=>by rw[fy];rfl) aO ?_ ?_ ?_;all_goals simp
  rw[if_neg c2]at htm;refine bf (by simp[c2]) ?_;simp;refine fin 4 (VG VF 0 0) (VG VF 0 0) [] [] 0 _ h3 _ htm i64c V6 hb n aO ?_ ?_ ?_;all_goals simp
 rw[if_neg c0]at htm;have c0':¬to=[]:=λe=>c0 (by rw[e];rfl);have hvt:vt.oneCell'=true:=ht.cells.2;refine bf (by simp[c0']) ?_;refine aa λy hy=>?_;simp;subst hy;by_cases c1:to.length=1
 ·rw[if_pos c1]at htm;refine aT (by simp[c1]) ?_;refine aa λy hy=>?_;simp;refine n.dS (k:=(9,1)) (i:=0) V6 k1 V6 V0 rfl rfl rfl λh2 n=>?_;subst hy;simp;refine n.dS (k:=(9,1)) (i:=2) V6 Own.an V6 V0 rfl rfl hvt λh3 n=>?_;refine fin 1 (VG VF 0 0) vt [] to 0 _ h3 _ htm i64c V6 hb (n.re λk=>by rw[fy];rfl) ht ?_ ?_ ?_;all_goals simp
 rw[if_neg c1]at htm;refine bf Vv ?_;refine aa λy hy=>?_;simp;subst hy;by_cases c2:to.length=2
 ·rw[if_pos c2]at htm;refine aT (by simp[c2]) ?_;refine aa λy hy=>?_;simp;refine n.dS (k:=(9,1)) (i:=0) V6 k1 V6 V0 rfl rfl rfl λh2 n=>?_;subst hy;refine aa λy hy=>?_;simp;refine n.dS (k:=(9,1)) (i:=2) V6 Own.an V6 V0 rfl rfl hvt λh3 n=>?_;have n:Nz s M vs Wb h3 (o1.upd (9,1) (bx T.j9 B (RawN.mk (n:=3) [VB VC 2,VG VF 0 0,vt,VB VD 0]))) m (VG VF 0 0) []:=n.re λk=>by rw[fy];rfl
  subst hy;refine aa λy hy=>?_;simp;refine ah V0 (jL n (b:=b) hb hm V4) ?_;rintro _ h4 ⟨⟨rfl,i4⟩,n⟩;have q:=hm.aI (s:=s) (b:=b);have hb2:b<(aI s m b).2.blocks.length:=by rw[ed];exact hb
  simp only at htm;generalize aI s m b=r at htm i4 n hb2 q;subst hy;refine aa λy hy=>?_;have fin2 : ∀(v:Int) (m3:MS) (h':Heap) (ρ:Env) (u:Value) (ds:List Int),e9 s to b m=(⟨2,[v],to,⟨0⟩⟩,m3)->I64 v->b<m3.blocks.length->Nz s M vs Wb h' (o1.upd (9,1) (bx T.j9 B (RawN.mk (n:=3) [VB VC 2,VG VF 0 0,vt,VB VD 0]))) m3 u ds->Lft.look ρ 0=VE (ptz M)->Lft.look ρ 1=VE (VB VC b)->Lft.look ρ 6=VE (ptz B)->Lft.look ρ 8=VE (VB VC v)->LC.wp VK y (eZ 0 (fM (LC.wp VK z (dT [] K)) (dT [] K))) ρ h':=by intro v m3 h' ρ u ds e iv hb n r0 r1 r6 r8;subst hy;simp[af,ag,r0,r1,r6,r8];refine n.lit (ls:=[v]) V5 (by simp[iv]) rfl V6 λua un uc h5 _ n=>?_;refine n.dS (k:=(9,1)) (i:=1) V6 Own.an V6 V0 rfl rfl rfl λh6 n=>?_;refine fin 2 (.slice ua un uc) vt [v] to 0 _ h6 _ e i64c V6 hb (n.re λk=>by rw[fy];rfl) ht ?_ ?_ ?_;all_goals simp[af,ag,r0,r1,r6,r8]
  refine aa λx hx=>?_;simp;refine ah V0 (fA n q V4 (k:=2) V6 V6) ?_;rintro _ h5 ⟨rfl,n⟩;simp;subst hx;by_cases c3:aH s r.2.at_ 2=0
  ·rw[if_pos c3]at htm;refine aT (by simp[c3]) ?_;refine aa λx hx=>?_;simp;refine aA (z:=zz0) (places:=[(0,1),(1,1),(2,1)]) (vs:=[(0,VB VC 11),(1,VB VC 12),(2,VB VC 13)]) (cs:=#[VB VC 11,VB VC 12,VB VC 13]) V0 V0 V5 V0 ?_;refine fZ (v:=.agg #[VB VC 11,VB VC 12,VB VC 13]) (z:=.agg #[VB VC 0,VB VC 0,VB VC 0]) (n:=3) V0 rfl V0 rfl Vu V8 V8 λh6 hle6 hs6 hb6=>?_;have n:Nz s M vs Wb h6 (o1.upd (9,1) (bx T.j9 B (RawN.mk (n:=3) [VB VC 2,VG VF 0 0,vt,VB VD 0]))) r.2.took (VG (VE ⟨h5.size,0,VF⟩) 3 3) cmpL:=by
    obtain⟨W,o,g1,g2,g3,g4⟩:=n;refine⟨_,o,Vz g1 (bz g2.own.wle),⟨g2.own.ext hle6,g2.src.mono (bz g2.own.wle),g2.box⟩,g3,?_⟩;have hg:grow W h5 h6 h5.size=VE (.cells (cmpL.map λx=>VB VC x).toArray T.zK (0,0)):=by rw[b8 (RQ _),hb6];rfl
    exact Kh hg rfl V6 LB
   generalize h5.size=C at n;subst hx;refine aa λx hx=>?_;simp;refine ah V0 (jL n (b:=b) hb2 q.took V4) ?_;rintro _ h7 ⟨⟨rfl,i7⟩,n⟩;have q:=q.took.aI (s:=s) (b:=b);have hb3:b<(aI s r.2.took b).2.blocks.length:=by rw[ed];exact hb2
   generalize aI s r.2.took b=w at htm i7 n hb3 q;subst hx;refine aa λx hx=>?_;simp;refine ah V0 (iP n q V4) ?_;rintro _ h8 ⟨rfl,n⟩;have iw:=q.lk V4;subst hx;refine aa λx hx=>?_;simp;refine ah V0 (fA n q.aV V4 (k:=3) V6 V6) ?_;rintro _ h9 ⟨rfl,n⟩;have hfx:w.2.aV.at_=w.2.at_:=rfl;rw[hfx];obtain⟨t0,t1⟩:=bT (s:=s) (at_:=w.2.at_) (n:=3) V6;generalize aH s w.2.at_ 3=k at htm t0 t1;obtain⟨kn,rfl⟩ : ∃kn:Nat,k=kn:=⟨k.toNat,by omega⟩;rw[show((kn:Int)).toNat=kn by omega]at htm;obtain⟨iop,hop⟩:I64 (nth cmpL kn)/\ao (vw h9) ⟨C,kn,VF⟩=VE (VB VC (nth cmpL kn)):=by obtain⟨W,o,g1,g2,g3,g4⟩:=n;refine⟨g4.range (i:=kn) (by show kn<3;omega),?_⟩;have:=g4.int g2.own.wle (i:=kn) (by show kn<3;omega);simpa[slA]using this
   have hix:Bn.ev (.aidx 3 1) (ptz C) (VB VC kn)=VE (VH (VE ⟨C,kn,VF⟩)):=by simp only[Bn.ev,vP,vI,St];rw[if_pos V9];simp
   generalize nth cmpL kn=op at htm iop hop;simp[hix,hop];refine n.lit (ls:=[r.1,w.1]) V5 (by simp[i4,i7]) rfl V6 λua un uc h10 _ n=>?_;refine aA (z:=zz5) (places:=zpa) (vs:=[(0,VB VC op),(1,VB VC w.2.next),(3,.slice ua un uc)]) (cs:=#[VB VC op,VB VC w.2.next,VB VC 0,.slice ua un uc,VB VD 0]) V0 V0 V5 V0 ?_;refine ah V0 (mT n (b:=b) hb3 q.aV.took V4 iop iw i64c V6) ?_;rintro _ h11 n;subst hx;simp;refine fin2 w.2.next _ h11 _ _ _ htm iw (by rw[mC];exact hb3) n.z ?_ ?_ ?_ ?_;all_goals simp
  rw[if_neg c3]at htm;refine bf (by simp[c3]) ?_;simp;refine fin2 r.1 _ h5 _ _ _ htm i4 hb2 n ?_ ?_ ?_ ?_;all_goals simp
 rw[if_neg c2]at htm;refine bf Vv ?_;refine aa λy hy=>?_;simp;refine n.dS (k:=(9,1)) (i:=0) V6 k1 V6 V0 rfl rfl rfl λh2 n=>?_;subst hy;refine aa λy hy=>?_;simp;refine n.dS (k:=(9,1)) (i:=2) V6 Own.an V6 V0 rfl rfl hvt λh3 n=>?_;have n:Nz s M vs Wb h3 (o1.upd (9,1) (bx T.j9 B (RawN.mk (n:=3) [VB VC 3,VG VF 0 0,vt,VB VD 0]))) m (VG VF 0 0) []:=n.re λk=>by rw[fy];rfl
 subst hy;refine aa λy hy=>?_;simp;refine ah V0 (jL n (b:=b) hb hm V4) ?_;rintro _ h4 ⟨⟨rfl,i4⟩,n⟩;have q:=hm.aI (s:=s) (b:=b);have hb2:b<(aI s m b).2.blocks.length:=by rw[ed];exact hb
 simp only at htm;generalize aI s m b=r at htm i4 n hb2 q;subst hy;refine aa λy hy=>?_;simp;refine ah V0 (ic n (b:=b) hb2 q V4 (k:=7) V6) ?_;rintro _ h5 ⟨rfl,n⟩;have i5:=q.lk V4;have q5:=q.constant (b:=b) (n:=7);have hb3:b<(r.2.constant b 7).blocks.length:=by rw[dW];exact hb2
 generalize r.2.constant b 7=m2 at htm n q5 hb3;generalize r.2.next=d at htm i5;subst hy;refine aa λy hy=>?_;simp;refine ah V0 (iP n q5 V4) ?_;rintro _ h6 ⟨rfl,n⟩;have i6:=q5.lk V4;subst hy;refine aa λy hy=>?_;simp;refine n.lit (ls:=[r.1,d]) V5 (by simp[i4,i5]) rfl V6 λua un uc h7 _ n=>?_;refine aA (z:=zz5) (places:=zpa) (vs:=[(0,VB VC 5),(1,VB VC m2.next),(3,.slice ua un uc)]) (cs:=#[VB VC 5,VB VC m2.next,VB VC 0,.slice ua un uc,VB VD 0]) V0 V0 V5 V0 ?_;refine ah V0 (mT n (b:=b) hb3 q5.aV V4 i64c i6 i64c V6) ?_;rintro _ h8 n;have n:=n.z;subst hy;simp;refine n.lit (ls:=[m2.next]) V5 (by simp[i6]) rfl V6 λua un uc h9 _ n=>?_;refine n.dS (k:=(9,1)) (i:=1) V6 Own.an V6 V0 rfl rfl rfl λh10 n=>?_;refine fin 3 (.slice ua un uc) vt [m2.next] to 0 _ h10 _ htm i64c V6 (show b<(m2.two b 5 r.1 d).blocks.length by rw[qm];exact hb3) (n.re λk=>by rw[fy];rfl) ht ?_ ?_ ?_;all_goals simp
def uZ (f:ak) (b:Nat) (t:Th):Bool:=decide (t.blk=b)||!nth (eY f t.blk) b
def eB (f:ak) (b:Nat) (out:List Int) (t:Th):List Int:=if uZ f b t then out++t.mks else out
def gX (f:ak) (b:Nat):List Int:=(aC f).foldl (eB f b) (rows (λi=>(i:Int)) f.params.toNat)
def ye (v:Value) (l:List Int):Own:=λk=>if k=(0,0) then it T.int v l else VF
theorem Bu{v v':Value}{l l':List Int}(q:Key):ye v' l' q=(ye v l).upd (0,0) (it T.int v' l') q:=by
 unfold ye Own.upd;repeat' split
 all_goals first | rfl | simp_all
theorem AZ{l:List Th}{f:ak}{b c:Nat}(hl : ∀t∈l,t.mks.length<=c): ∀{out:List Int},(l.foldl (eB f b) out).length<=out.length+c*l.length:=by
 induction l with
 | nil=>intro out;simp
 | cons t l ih=>
  intro out;have h1:=ih (λt ht=>hl t (by simp[ht])) (out:=eB f b out t);have h2:(eB f b out t).length<=out.length+c:=by
   unfold eB;have:=hl t V5;split
   ·rw[RZ];omega
   omega
  rw[Su,SP,Ug];omega
theorem Av.Qy{V W:View}{v:Value}(hw:Av W v)(h:V.le W):Av V v:=λb hb=>by
 cases hv:V b with
 | none=>rfl
 | some x=>have:=h b x hv;rw[hw b hb]at this;cases this
theorem EO{W W':View}{h:Heap}{e:TypeId}{v:Value}{l:List Int}(o:OwnT W h e v l):OwnT W' h e v l:=by obtain⟨b,xs,h1,h2⟩:=o;exact⟨b,xs,h1,λi hi=>h2 i hi⟩
theorem QO{h:Heap}{v:Value}(ha:Av (vw h) v): ∀b,v.ownBlock=VE b->h.size<=b:=λb hb=>by have:h[b]? = none:=ha b hb;rwa [Array.getElem?_eq_none_iff]at this
theorem DP{f:ak}{b:Nat}{v:Value}{h:Heap}(hv:Rd (vw h) v f)(hsm:SmF f)(hp:0<=f.params/\f.params<=1000)(hb:b<f.blocks.length)(hmk : ∀t∈aC f,t.mks.length<=1000)(hth:(aC f).length<=1000000):
  az VK 42 #[v,VB VC b] h (λu h'=>(vw h).le (vw h')/\(∀b,u.ownBlock=VE b->h.size<=b)/\OwnT nothing h' T.int u (gX f b)):=by
 refine aq (args:=[v,VB VC b]) follows Tryz.func42 E.cC Vw λK hK=>?_;dsimp only[L.cC,lkF,lkG];refine aa λz hz=>?_;simp;refine gP rfl hv λh1 _ hle1 hs1 hat=>?_;obtain⟨cp,vb,cb⟩:=fw hat;obtain⟨uf,huf,hufr⟩:=hat.bM rfl;have huf:Un.ev (vw h1) (.bM 2) (ptz h.size)=VE uf:=huf;generalize h.size=B at cp cb huf;subst hz;refine aa λz hz=>?_;simp;refine(Owns.start (h:=h1) (View.le_refl (vw h1))).kf (k:=(0,0)) (α:=Int) rfl El.aY λvo h2 hle2 hvo w2 _=>?_;have w2:Owns (vw h1) h2 (ye vo []):=w2.congr λq=>by unfold ye Own.upd;split<;>rfl
 subst hz;refine aa λz hz=>?_;simp;obtain⟨n,hn⟩ : ∃n:Nat,n=f.params.toNat:=⟨_,rfl⟩;have hpn:f.params=n:=by omega
 rw[hpn]at cp;refine dQ [0,1,2,5,6] (fun(vo:Value) i=>[v,VB VC b,ptz B,vo,VB VC i]) (λvo i h3=>Owns (vw h1) h3 (ye vo (rows (λi=>(i:Int)) i))) n vo
  rfl V4 rfl w2 (λ_ _=>rfl) (λv k h3 hk m=>by simp[ae m.wle cp]) ?_ ?_
 ·rintro vo i h3 hlt w3 K2 hK2;simp;refine w3.gu (k:=(0,0)) (α:=Int) (v:=vo) (l:=rows (λi=>(i:Int)) i) (d:=(i:Int)) rfl El.aY rfl (bw.2 ⟨rfl,by constructor<;>omega⟩) Vv Vv (λ_=>rfl) (λ_=>rfl) λu v' h4 w4 _=>?_;refine hK2 v' _ _ rfl rfl (w4.congr λq=>?_);rw[fK];exact Bu q
 rintro vo h3 w3;simp;subst hz;refine aa λz hz=>?_;have huf3:Un.ev (vw h3) (.bM 2) (ptz B)=VE uf:=by have:=dV (ρ:=λ_=>VF) (e:=.un (.bM 2) (.con (ptz B))) w3.wle (by simpa using huf);simpa using this
 simp[huf3];refine ah V0 (C8 hufr w3.wle hsm) ?_;rintro vt h4 ⟨hle4,hst⟩;have w4:=w3.ext hle4;have hW4:=bz (h':=h4) w3.wle;generalize grow (vw h1) h3 h4=W4 at hst w4 hW4;subst hz;refine aa λz hz=>?_;simp;have hsd:gX f b=(aC f).foldl (eB f b) (rows (λi=>(i:Int)) n):=by rw[hn];rfl
 have hlen : ∀i,((List.take i (aC f)).foldl (eB f b) (rows (λi=>(i:Int)) n)).length<=1001001000:=λi=>by
  have h1:=AZ (l:=List.take i (aC f)) (f:=f) (b:=b) (c:=1000) (λt ht=>hmk t (List.mem_of_mem_take ht)) (out:=rows (λi=>(i:Int)) n);have h2:(List.take i (aC f)).length<=(aC f).length:=by simp;omega
  rw[qd]at h1;omega
 generalize rows (λi=>(i:Int)) n=base at w4 hsd hlen;have tb:=hst.bound;refine dQ [0,1,2,5,7,8] (fun(vo:Value) i=>[v,VB VC b,ptz B,vo,vt,VB VC i]) (λvo i h5=>∃W,W4.le W/\Owns W h5 (ye vo ((List.take i (aC f)).foldl (eB f b) base))) (aC f).length vo
  rfl V4 rfl ⟨W4,View.le_refl _,w4⟩ (λ_ _=>rfl) (λv k h5 hk ⟨W,q1,q2⟩=>by simp[hst.len]) ?_ ?_
 ·rintro vo i h5 hlt ⟨W5,hW5,w5⟩ K2 hK2;have hst5:=hst.mono hW5;have hl5:=hlen i;have hsucc:(List.take (i+1) (aC f)).foldl (eB f b) base=eB f b ((List.take i (aC f)).foldl (eB f b) base) (nth (aC f) i):=by rw[Se hlt,S3,ay hlt];rfl
  generalize (List.take i (aC f)).foldl (eB f b) base=out at w5 hsucc hl5;have hat5:=hst5.at hlt;rw[<-ay hlt]at hat5;have hmt:=hmk _ (aX hlt);generalize nth (aC f) i=t at hat5 hsucc hmt;have hblk:ao W5 (((slA vt).add (i*4)).add 0)=VE (VB VC t.blk):=(hat5.part Th.Oa).int;obtain⟨vm,hvm⟩:=(hat5.part Th.Qs).sl;have hvm1:ao W5 (((slA vt).add (i*4)).add 2)=VE vm:=hvm.1;have hvm2:=hvm.2;have h64:=(hat5.part Th.Oa).rng;simp only[aW];refine aa λy hy=>?_;simp;subst hy;refine aa λy hy=>?_;have fin : ∀(h6:Heap) (ρ:Env) (W6:View),W5.le W6->Owns W6 h6 (ye vo out)->Lft.look ρ 0=VE v->Lft.look ρ 1=VE (VB VC b)->Lft.look ρ 2=VE (ptz B)->Lft.look ρ 5=VE vo->Lft.look ρ 7=VE vt->Lft.look ρ 8=VE (VB VC i)->Lft.look ρ 9=VE (.bool (uZ f b t))->
    LC.wp VK y (eZ 3 (fM K2 (eZ 2 (fM (LC.wp VK z (dT [.tmp 4] K)) (dT [.tmp 4] K))))) ρ h6:=by
   intro h6 ρ W6 hW6 w6 r0 r1 r2 r5 r7 r8 r9;subst hy;refine aa λy hy=>?_;simp[af,ag,r9];subst hy;have hsp:eB f b out t=if uZ f b t then out++t.mks else out:=rfl;rw[hsp]at hsucc;by_cases ca:uZ f b t=VI
   ·rw[if_pos ca]at hsucc;refine aT (by simp[af,ag,ca]) ?_;have hst6:=hst5.mono (Vz hW6 w6.wle);simp(disch:=omega)[af,ag,r0,r1,r2,r5,r7,r8,hst6.idxn (N:=4) rfl,ae (Vz hW6 w6.wle) hvm1];refine w6.dd (k:=(0,0)) (α:=Int) (v:=vo) (l:=out) (l2:=t.mks) rfl El.aY rfl rfl ((hvm2.mono hW6).src w6.wle) V4 V4 λv' h7 w7 _=>?_;refine hK2 v' _ _ ?_ ?_ ⟨W6,Vz hW5 hW6,w7.congr λq=>?_⟩
    ·simp[af,ag,r8]
    ·simp[bh,af,ag,r0,r1,r2,r5,r7,r8]
    rw[hsucc];exact Bu q
   rw[if_neg ca]at hsucc;refine bf (by simp[af,ag,ca]) ?_;simp;refine hK2 vo _ _ ?_ ?_ ⟨W6,Vz hW5 hW6,by rw[hsucc];exact w6⟩
   ·simp[af,ag,r8]
   simp[bh,af,ag,r0,r1,r2,r5,r7,r8]
  refine aa λx hx=>?_;simp(disch:=omega)[(hst5.mono w5.wle).idxn (N:=4) rfl,ae w5.wle hblk];subst hx;by_cases cb:t.blk=b
  ·refine bf (by simp[cb]) ?_;simp;refine fin h5 _ W5 Vy w5 ?_ ?_ ?_ ?_ ?_ ?_ ?_;all_goals simp[uZ,cb]
  refine aT (by simp[cb]) ?_;refine aa λx hx=>?_;have hf5:Rd (vw h5) uf f:=hufr.mono (Vz hW4 (Vz hW5 w5.wle));have huf5:Un.ev (vw h5) (.bM 2) (ptz B)=VE uf:=by have:=dV (ρ:=λ_=>VF) (e:=.un (.bM 2) (.con (ptz B))) (Vz hW4 (Vz hW5 w5.wle)) (by simpa using huf);simpa using this
  refine aQ (vw h5) Vy ?_;simp(disch:=omega)[(hst5.mono w5.wle).idxn (N:=4) rfl,ae w5.wle hblk,huf5];refine ah V0 (zA hf5 (by have:=hsm.len;omega)) ?_;rintro ur h6 ⟨hle6,hur⟩;have w6:=w5.ext hle6;have hW6:=bz (h':=h6) w5.wle;have hur6:SlRd (vw h6) ur (eY f t.blk):=hur.mono (mO h5 h6);have hrl:(eY f t.blk).length=f.blocks.length:=wz;subst hx;simp(disch:=omega)[hur6.idx1 rfl,hur6.bool Vy];refine fin h6 _ _ hW6 w6 ?_ ?_ ?_ ?_ ?_ ?_ ?_;all_goals simp[uZ,cb]
 rintro vo h5 ⟨W5,hW5,w5⟩;rw[SD,<-hsd]at w5;simp;subst hz;simp;have hX:(vw h).le W5:=Vz hle1 (Vz hW4 hW5);exact hK _ _ ⟨Vz hX w5.wle,QO (Av.Qy (w5.av (0,0) _ rfl) hX),EO (w5.get (k:=(0,0)) (v:=vo) rfl)⟩
theorem zX {P:Program} {Q:Post} {ρ:Env} {h:Heap} {a i c:Nat} {ks ks2:List Nat} {ce:E} {body:LC} {σ:Type} (kp:List Nat) (vals:σ->Nat->List Value) (J:σ->Nat->Heap->Prop) (n:Nat) (d:Nat) (s0:σ)
  (hok:yh kp ks ks2 c i=VI) (hn:n+d<=9223372036854775806) (h0:bh kp ρ=kp.zip (vals s0 0)) (hj:J s0 0 h)
  (hi : ∀s k,look (kp.zip (vals s k)) i=VE (VB VC ((k+d:Nat):Int)))
  (hb : ∀s k h,k<=n->J s k h->ev (look (kp.zip (vals s k))) (vw h) ce=VE (.bool (decide (k<n))))
  (round : ∀s k h,k<n->J s k h->∀K:Env->Heap->Prop,(∀s' ρ' h',look ρ' i=VE (VB VC ((k+d:Nat):Int))->bh kp (setE ρ' i (VB VC (((k+d:Nat):Int)+1)))=kp.zip (vals s' (k+1))->J s' (k+1) h'->K ρ' h')->body.wp P (fM K (eZ a Q)) (kp.zip (vals s k)) h)
  (done : ∀s h,J s n h->Q .normal (kp.zip (vals s n)) h):LC.wp P (forC a i c ks ks2 ce body) (eZ a Q) ρ h:=by
 simp only[yh,SF,RV,SK,bne_iff_ne,SU,beq_iff_eq,ne_eq]at hok;refine jv kp (λm ρ h=>∃s k,k<=n/\ρ=kp.zip (vals s k)/\m=n-k/\J s k h) n ⟨s0,0,by omega,h0,by omega,hj⟩ ?_;rintro m ρ h ⟨s,k,hk,rfl,rfl,hJ⟩ K hK;have hkill:cI (kp.zip (vals s k)) ks=kp.zip (vals s k):=oh λp hp=>(hok p.1 (zip_fst hp)).1.1;have hne : ∀p∈kp.zip (vals s k),p.1≠c:=λp hp=>(hok p.1 (zip_fst hp)).1.2;have hk2 : ∀v,cI (setE (kp.zip (vals s k)) c v) [c]=kp.zip (vals s k):=λv=>ou hne;have hlk : ∀v,look (setE (kp.zip (vals s k)) c v) c=VE v:=λv=>by rw[af,if_pos rfl]
 simp only[vU,nD,kZ,iX,mM,oI,hb s k h hk hJ,St,lD,oE,true_and,dC,hkill,gk,n8,rG,hlk,nw,hk2,wA,vG,qI,qG,if_true];refine⟨λhlt=>?_,λhge=>?_⟩
 ·have hlt':k<n:=by omega
  rw[oT];refine round s k h hlt' hJ _ λs' ρ' h' hl he hJ'=>?_;simp only[nD,kZ,iX,mM,oI,nG,rG,hl,oE,true_and,St,Cj,St,C5,lD,dC,gk,true_and];rw[aZ V4 V4];refine hK (n-(k+1)) _ _ V4 ⟨s',k+1,by omega,?_,rfl,hJ'⟩;rw[<-he];refine pH λt ht=>?_;rw[af,af,ag];split
  ·rfl
  rename_i hti;rcases(hok t ht).2 with e | e
  ·exact absurd e.symm hti
  rw[e];rfl
 have:k=n:=by omega
 subst this;exact done s h hJ
open Classical in
/-- Several of one's own, written no more. -/
theorem Owns.BH {W:View} {h:Heap} {o:Own} (w:Owns W h o) (S:Key->Bool) :
  ∃W':View,W.le W'/\Owns W' h (λk=>if S k then VF else o k)/\∀{k:Key} {α:Type} [r:Rep α] {e:TypeId} {v:Value} {l:List α},S k=VI->o k=it e v l->SlRd W' v l:=by
 have hle:W.le (λb=>if ∃k i,S k=VI/\o k=VE i/\i.v.ownBlock=VE b then h[b]? else W b):=λb x hb=>by
  show(if _ then _ else _)=_;rw[if_neg]
  ·exact hb
  rintro⟨k,i,_,h2,h3⟩;rw[w.av k i h2 b h3]at hb;cases hb
 refine⟨λb=>if ∃k i,S k=VI/\o k=VE i/\i.v.ownBlock=VE b then h[b]? else W b,hle,?_,?_⟩
 ·refine⟨λb x hb=>?_,λk i hk=>?_,λk i hk b hb=>?_,λk k' i i' b hk hk'=>?_⟩
  ·split at hb
   ·exact hb
   exact w.wle b x hb
  ·split at hk
   ·cases hk
   exact @OwnT.mono i.α i.rep _ _ _ _ _ (w.own k i hk) _ hle
  ·split at hk
   ·cases hk
   rename_i hs;show(if _ then _ else _)=_;rw[if_neg]
   ·exact w.av k i hk b hb
   rintro⟨k',i',h1,h2,h3⟩;exact hs (w.dj k k' i i' b hk h2 hb h3▸h1)
  split at hk
  ·cases hk
  split at hk'
  ·cases hk'
  exact w.dj k k' i i' b hk hk'
 intro k α r e v l hs hk;refine(w.get hk).rd hle λb hb=>?_;rw[if_pos ⟨k,_,hs,hk,hb⟩]
theorem Owns.nils {W:View} {h:Heap} {o o':Own} (w:Owns W h o) (ho : ∀k i,o' k=VE i->o k=VE i\/(i.v = VG VF 0 0/\@OwnT i.α i.rep W h i.e i.v i.l)):Owns W h o':=by
 have hnb : ∀{i:Item} {b:Nat},i.v = VG VF 0 0->i.v.ownBlock=VE b->False:=λe hb=>by rw[e]at hb;simp[Value.ownBlock]at hb
 refine⟨w.wle,λk i hk=>?_,λk i hk b hb=>?_,λk k' i i' b hk hk' hb hb'=>?_⟩
 ·rcases ho k i hk with h1 | ⟨_,h1⟩
  ·exact w.own k i h1
  exact h1
 ·rcases ho k i hk with h1 | ⟨e,_⟩
  ·exact w.av k i h1 b hb
  exact(hnb e hb).elim
 rcases ho k i hk with h1 | ⟨e,_⟩
 ·rcases ho k' i' hk' with h2 | ⟨e,_⟩
  ·exact w.dj k k' i i' b h1 h2 hb hb'
  exact(hnb e hb').elim
 exact(hnb e hb).elim
abbrev TgS:=List (List Int) × MS
def nf (x:TgS) (p b:Nat) (m:MS):TgS:=(x.1.set p (nth x.1 p++[(b:Int)]),m)
def tgA (s:List Int) (k:Nat) (x:TgS):TgS:=
 if aH s x.2.at_ 3=0 then nf x (aH s (x.2.at_+1) ((k+1:Nat):Int)).toNat (k+1) x.2.took.took
 else nf x k (k+1) x.2.took
def tgI (s:List Int) (n b:Nat) (x:TgS):TgS:=
 let t:=1+aH s x.2.at_ ((n:Int)-1)
 if t<=b then
  if aH s (x.2.at_+1) 2=0 then nf x b (min (b+1) (n-1)) x.2.took.took else nf x b t.toNat x.2.took.took
 else nf x b t.toNat x.2.took
def tgB (s:List Int) (n b:Nat) (x:TgS):TgS:=up (λ_=>tgI s n b) (if 1<n then(aH s x.2.at_ 6-3).toNat else 0) (x.1,x.2.took)
def rC (s:List Int) (n:Nat) (m:MS):TgS:=up (tgB s n) n (up (tgA s) (n-1) (List.replicate n [],m))
structure TgO (ri:Own) (o:Own) (vo:Value) (l:List (List Int)) (rv:List Raw):Prop where
 res : ∀k:Key,8<=k.1->o k=ri k
 top:o (3,0)=it T.aY vo rv
 len:rv.length=l.length
 row : ∀i,i<l.length->o (4,i)=it T.int (nth rv i).v (nth l i)
 els : ∀k:Key,3<=k.1->k.1<8->k≠(3,0)->(∀i,i<l.length->k≠(4,i))->o k=VF
theorem TgO.put {ri:Own} {o:Own} {vo:Value} {l:List (List Int)} {rv:List Raw} (q:TgO ri o vo l rv) {p:Nat} (hp:p<l.length) {v':Value} {r:List Int}:TgO ri ((o.upd (4,p) (it T.int v' r)).upd (3,0) (it T.aY vo (rv.set p ⟨v'⟩))) vo (l.set p r) (rv.set p ⟨v'⟩):=by
 have hpr:p<rv.length:=by rw[q.len];exact hp
 refine⟨λk hk=>(Own.aB (by rintro rfl;simp at hk)).trans ((Own.aB (by rintro rfl;simp at hk)).trans (q.res k hk)),Own.an,by simp[q.len],λi hi=>?_,λk h1 h8 h2 h3=>?_⟩
 ·have hi:i<l.length:=by simpa using hi
  have hir:i<rv.length:=by rw[q.len];exact hi
  rw[Own.aB V5,bj hir,bj hi];by_cases e:p=i
  ·subst e;rw[Own.an,if_pos rfl,if_pos rfl]
  rw[Own.aB (λe2=>e (by injection e2 with _ e2;exact e2.symm)),if_neg e,if_neg e];exact q.row i hi
 have h3 : ∀i,i<l.length->k≠(4,i):=λi hi=>h3 i (by simpa using hi);rw[Own.aB h2,Own.aB (h3 p hp)];exact q.els k h1 h8 h2 h3
def Tg (ri:Own) (s:List Int) (M:Nat) (vs:Value) (W:View) (vo:Value) (h:Heap) (x:TgS):Prop:=∃W' o rv,W.le W'/\Mk s M vs W' h o x.2/\TgO ri o vo x.1 rv
section
variable {s:List Int} {M:Nat} {vs:Value} {W:View} {vo:Value} {h:Heap} {x:TgS} {ri:Own}
theorem Tg.take (t:Tg ri s M vs W vo h x) {c:Nat} (hm:x.2.ok c) (hc:c<=1000000) {k:Int} (hk:0<k) (hk2:k<=1000000000) :
  az VK 34 #[ptz M,VB VC k] h (λv h'=>v = VB VC (aH s x.2.at_ k)/\Tg ri s M vs W vo h' (x.1,x.2.took)):=by obtain⟨W',o,rv,g,w,q⟩:=t;refine(w.take (by have:=hm.at_;omega) hk hk2).mono ?_;rintro v h' ⟨e,o',w',f⟩;exact⟨e,W',o',rv,g,w',λk hk=>(f k V4).trans (q.res k hk),(f _ V6).trans q.top,q.len,λi hi=>(f _ (by show 3<=4;decide)).trans (q.row i hi),λk h1 h8 h2 h3=>(f _ h1).trans (q.els k h1 h8 h2 h3)⟩
theorem Tg.idx (t:Tg ri s M vs W vo h x) {k:IntKind} {i:Int} (h0:0<=i) (h1:i<x.1.length):Bn.ev (.idx 1) vo (.int k i)=VE (VH (VE ((slA vo).add i.toNat))):=by obtain⟨W',o,rv,g,w,q⟩:=t;exact(w.own.now q.top).idx1 rfl h0 (by rw[q.len];exact h1)
theorem Tg.put {po po2 po3:OP} (t:Tg ri s M vs W vo h x) {p:Nat} (hp:p<x.1.length) (hl:(nth x.1 p).length<=1000000) {b:Nat} (hb:b<=1000000) :
  ∃v:Value,ao (vw h) ((slA vo).add p)=VE v/\∀{ty ty2 ty3:TypeId} {a a1 a2:Operand} {c1 c2:Operand} {us:List (Nat × Value)} {us2:Value->List (Nat × Value)} {us3:Value->Value->List (Nat × Value)} {K:Value->Value->Value->Heap->Prop},
   asg us a = VB VC b->(∀u,asg (us2 u) a1=v)->(∀u,asg (us2 u) a2=u)->(∀u v',asg (us3 u v') c1 = VH (VE ((slA vo).add p)))->(∀u v',asg (us3 u v') c2=v')->(∀u v' h',Tg ri s M vs W vo h' (nf x p b x.2)->K u v' undef h')->
   @Lft.step po VK (.buildSlice T.aY 1 #[(0,a)]) ty us h λu h2=>@Lft.step po2 VK (.call ⟨.builtin .append,#[a1,a2],#[T.aY,T.aY]⟩) ty2 (us2 u) h2 λv' h3=>@Lft.step po3 VK (.store T.aY c1 c2) ty3 (us3 u v') h3 λw h4=>K u v' w h4:=by
 obtain⟨W',o,rv,g,w,q⟩:=t;have hpr:p<rv.length:=by rw[q.len];exact hp
 have hcell:=((w.own.now q.top).at hpr).raw;have hn:Rep.n Raw=1:=rfl;rw[hn,SR,<-ay hpr]at hcell;refine⟨_,hcell,fun{ty ty2 ty3 a a1 a2 c1 c2 us us2 us3 K} ha ha1 ha2 hc1 hc2 hK=>?_⟩;refine w.own.gu (k:=(4,p)) (α:=Int) (d:=(b:Int)) (q.row p hp) El.aY ha (bw.2 ⟨rfl,by constructor<;>omega⟩) V4 V4 ha1 ha2 λu v' h3 w3 _=>?_;have hv:=(w3.cells (k:=(4,p)) Own.an).2;refine w3.bI (k:=(3,0)) (α:=Raw) (v:=vo) (l:=rv) (i:=p) (d:=⟨v'⟩) ((Own.aB V5).trans q.top) V0 (by rw[hc1,hn,SR]) (hc2 u v') hpr (iZ.2 ⟨rfl,hv⟩) λh4 w4 _=>hK u v' h4 ?_;obtain⟨vb,vl,lb,bb⟩:=w.box;exact⟨W',_,_,g,⟨w4,w.src,vb,vl,lb,bb.frame λk hk=>by rw[Own.aB (by rintro rfl;simp at hk),Own.aB (by rintro rfl;simp at hk)]⟩,q.put hp⟩
end
theorem wQ {x:TgS} {p b:Nat} {m:MS}:(nf x p b m).1.length=x.1.length:=by simp[nf]
theorem IE {x:TgS} {p b c:Nat} {m:MS} (h : ∀i,(nth x.1 i).length<=c) : ∀i,(nth (nf x p b m).1 i).length<=c+1:=by
 intro i;have hi:=h i;rcases RX i x.1.length with hl | hl
 ·show(nth (x.1.set p _) i).length<=_;rw[bj hl];split
  ·rename_i e;subst e;rw[RZ,Sp];omega
  omega
 rw[bH (by rw[wQ];exact hl)];show 0<=_;omega
structure TgK (n c:Nat) (x:TgS):Prop where
 len:x.1.length=n
 row : ∀i,(nth x.1 i).length<=c
 ok:x.2.ok c
theorem TgK.mono {n c d:Nat} {x:TgS} (h:TgK n c x) (hd:c<=d):TgK n d x:=⟨h.len,λi=>Sk (h.row i) hd,h.ok.mono hd⟩
theorem TgK.put {n c p b:Nat} {x:TgS} {m:MS} (h:TgK n c x) (hm:m.ok (c+2)):TgK n (c+2) (nf x p b m):=⟨wQ.trans h.len,λi=>by have:=IE (p:=p) (b:=b) (m:=m) h.row i;omega,hm⟩
theorem PG {s:List Int} {n c k:Nat} {x:TgS} (h:TgK n c x):TgK n (c+2) (tgA s k x):=by
 unfold tgA;split
 ·exact h.put h.ok.took.took
 exact h.put (h.ok.took.mono V4)
theorem Pj {s:List Int} {n c b:Nat} {x:TgS} (h:TgK n c x):TgK n (c+2) (tgI s n b x):=by
 unfold tgI;simp only;repeat' split
 ·exact h.put h.ok.took.took
 ·exact h.put h.ok.took.took
 exact h.put (h.ok.took.mono V4)
theorem CV {s:List Int} {n c:Nat} {x:TgS} (h:TgK n c x) : ∀k,TgK n (c+2*k) (up (tgA s) k x)
 | 0=>h
 | k+1=>(PG (CV h k)).mono V4
theorem GJ {s:List Int} {n c b:Nat} {x:TgS} (h:TgK n c x) : ∀k,TgK n (c+2*k) (up (λ_=>tgI s n b) k x)
 | 0=>h
 | k+1=>(Pj (GJ h k)).mono V4
theorem Py {s:List Int} {n c b:Nat} {x:TgS} (h:TgK n c x):TgK n (c+10) (tgB s n b x):=by unfold tgB;have ht:=bT (s:=s) (at_:=x.2.at_) (n:=6) V6;have h1:TgK n (c+1) (x.1,x.2.took):=⟨h.len,λi=>by have:=h.row i;show(nth x.1 i).length<=_;omega,h.ok.took⟩;refine(GJ h1 _).mono ?_;split<;>omega
theorem GK {s:List Int} {n c:Nat} {x:TgS} (h:TgK n c x) : ∀k,TgK n (c+10*k) (up (tgB s n) k x)
 | 0=>h
 | k+1=>(Py (GK h k)).mono V4
theorem FZ {s:List Int} {M:Nat} {vs:Value} {W:View} {h:Heap} {o:Own} {m:MS} {ri:Own} (w:Mk s M vs W h o m) (hres : ∀k:Key,8<=k.1->o k=ri k) (ho : ∀k:Key,3<=k.1->k.1<8->o k=VF) {n c:Nat} (hm:m.ok c) (hc:c<=1000) (hn1:1<=n) (hn2:n<=100) :
  az VK 35 #[ptz M,VB VC n] h (λu h'=>∃W' o',W.le W'/\Mk s M vs W' h' o' (rC s n m).2/\(∀k:Key,8<=k.1->o' k=ri k)/\(∀k:Key,3<=k.1->k.1<8->o' k=VF)/\SlRd W' u (rC s n m).1):=by
 refine aq (args:=[ptz M,VB VC n]) follows Tryz.func35 E.aP Vw λK hK=>?_;have htd:rC s n m=_:=rfl;dsimp only[L.aP,lkF,lkG];refine aa λz hz=>?_;simp;subst hz;refine aa λz hz=>?_;simp;refine pb (α:=Raw) (W:=W) (k:=.i64) (n:=n) (d:=⟨VG VF 0 0⟩) El.lI V7 V7 ⟨rfl,rfl⟩ V4 V4 λvo h1 o1 m1 hle1 hb1=>?_;have t1:Tg ri s M vs W vo h1 (List.replicate n [],m):=by
  have w1:=w.own.add (k:=(3,0)) (ho _ V6 V6) o1 hle1 (λb hb=>by rw[hb1]at hb;cases hb;exact RQ _);have w2:=w1.nils (o':=λk=>if k.1=4/\k.2<n then it T.int (VG VF 0 0) ([]:List Int) else o.upd (3,0) (it T.aY vo (List.replicate n (Raw.mk (VG VF 0 0)))) k) λk i hk=>by
   split at hk
   ·cases hk;exact .inr ⟨rfl,OwnT.nil (α:=Int) W h1 T.int⟩
   exact .inl hk
  obtain⟨vb,vl,lb,bb⟩:=w.box;refine⟨W,_,List.replicate n ⟨VG VF 0 0⟩,View.le_refl _,⟨w2,w.src,vb,vl,lb,bb.frame λk hk=>?_⟩,?_,rfl,by simp,λi hi=>?_,λk h1 h8 h2 h3=>?_⟩
  ·have h4:¬(k.1=4/\k.2<n):=by omega
   show(if _ then _ else _)=_;rw[if_neg h4,Own.aB (by rintro rfl;simp at hk)]
  ·intro k hk;show(if _ then _ else _)=_;rw[if_neg V4,Own.aB (by rintro rfl;simp at hk),hres k hk]
  ·have hi:i<n:=by simpa using hi
   show(if _ then _ else _)=_;rw[if_pos ⟨rfl,hi⟩,aD hi,aD hi]
  show(if _ then _ else _)=_;rw[if_neg,Own.aB h2,ho k h1 h8];rintro⟨e1,e2⟩;refine h3 k.2 (by simpa using e2) ?_;rw[<-e1]
 have k1:TgK n c (List.replicate n [],m):=⟨by simp,λi=>by
  rcases RX i n with hi | hi
  ·rw[aD hi];show 0<=_;omega
  rw[bH (by simpa using hi)];show 0<=_;omega,hm⟩;clear m1 o1 w ho;obtain⟨x0,hx0⟩ : ∃x0:TgS,x0=(List.replicate n [],m):=⟨_,rfl⟩;rw[<-hx0]at t1 k1;have htd:rC s n m=up (tgB s n) n (up (tgA s) (n-1) x0):=by rw[hx0];rfl
 clear hx0;subst hz;refine aa λz hz=>?_;simp;refine zX [0,1,5,6] (fun(_:Unit) k=>[ptz M,VB VC n,vo,VB VC ((k+1:Nat):Int)]) (λ_ k h2=>Tg ri s M vs W vo h2 (up (tgA s) k x0)) (n-1) 1 ()
  rfl V4 rfl t1 (λ_ _=>rfl) (λv k h2 hk m=>by simp;omega) ?_ ?_
 ·rintro _ k h2 hlt t2 K2 hK2;have kx:=CV (s:=s) k1 k;have e2:up (tgA s) (k+1) x0=tgA s k (up (tgA s) k x0):=rfl;rw[e2]at hK2;generalize up (tgA s) k x0=x at t2 kx hK2;have hxl:=kx.len;simp only[aW];refine aa λy hy=>?_;simp;rw[show IntKind.i64.wrap (k:Int)=k from aZ V4 V4];subst hy;refine aa λy hy=>?_;have fin : ∀(p:Nat) (m':MS) (h':Heap) (ρ:Env),tgA s k x=nf x p (k+1) m'->p<n->Tg ri s M vs W vo h' (x.1,m')->Lft.look ρ 0=VE (ptz M)->Lft.look ρ 1=VE (VB VC n)->Lft.look ρ 5=VE vo->Lft.look ρ 6=VE (VB VC ((k+1:Nat):Int))->Lft.look ρ 7=VE (VB VC p)->
    LC.wp VK y (eZ 1 (fM K2 (eZ 0 (fM (LC.wp VK z (dT [.tmp 4] K)) (dT [.tmp 4] K))))) ρ h':=by
   intro p m' h' ρ e hp t r0 r1 r5 r6 r7;subst hy;obtain⟨vr,hvr,put⟩:=t.put (p:=p) (b:=k+1) (by show p<x.1.length;omega) (by have:=kx.row p;show(nth x.1 p).length<=_;omega) V4;have hix:=t.idx (k:=.i64) (i:=p) V4 (by show(p:Int)<x.1.length;omega);simp only[Si]at hix;simp[af,ag,r0,r1,r5,r6,r7,hix,hvr];refine put V5 V8 V8 (λ_ _=>by simp) (λ_ _=>by simp) λu v' h3 t3=>?_;refine hK2 () _ _ ?_ ?_ (by rw[e];exact t3)
   ·simp[af,ag,r6]
   simp[bh,af,ag,r0,r1,r5]
  have had:tgA s k x=_:=tgA.eq_1 s k x;refine aa λw hw=>?_;simp;refine ah V0 (t2.take kx.ok V4 (k:=3) V6 V6) ?_;rintro _ h3 ⟨rfl,t3⟩;simp;subst hw;by_cases c3:aH s x.2.at_ 3=0
  ·rw[if_pos c3]at had;refine aT (by simp[c3]) ?_;simp;refine ah V0 (t3.take kx.ok.took V4 (k:=((k+1:Nat):Int)) V4 V4) ?_;rintro _ h4 ⟨rfl,t4⟩;have hx:(x.1,x.2.took).2.at_=x.2.at_+1:=rfl;rw[hx];obtain⟨u0,u1⟩:=bT (s:=s) (at_:=x.2.at_+1) (n:=((k+1:Nat):Int)) V4;generalize aH s (x.2.at_+1) ((k+1:Nat):Int)=q at had u0 u1;refine fin q.toNat _ h4 _ had V4 t4 ?_ ?_ ?_ ?_ ?_;all_goals simp
   omega
  rw[if_neg c3]at had;refine bf (by simp[c3]) ?_;simp;refine fin k _ h3 _ had V4 t3 ?_ ?_ ?_ ?_ ?_;all_goals simp
 rintro _ h2 t2;have k2:=CV (s:=s) k1 (n-1);generalize up (tgA s) (n-1) x0=x1 at t2 k2 htd;simp;subst hz;refine aa λz hz=>?_;simp;refine dQ [0,1,5,8] (fun(_:Unit) k=>[ptz M,VB VC n,vo,VB VC k]) (λ_ k h3=>Tg ri s M vs W vo h3 (up (tgB s n) k x1)) n ()
  rfl V4 rfl t2 (λ_ _=>rfl) (λv k h3 hk m=>by simp) ?_ ?_
 ·rintro _ b h3 hlt t3 K2 hK2;have kx:=(GK (s:=s) k2 b).mono (d:=3000) V4;have e3:up (tgB s n) (b+1) x1=tgB s n b (up (tgB s n) b x1):=rfl;rw[e3]at hK2;generalize up (tgB s n) b x1=x at t3 kx hK2;simp only[aW];refine aa λy hy=>?_;simp;refine ah V0 (t3.take kx.ok V4 (k:=6) V6 V6) ?_;rintro _ h4 ⟨rfl,t4⟩;have hbd:tgB s n b x=_:=tgB.eq_1 s n b x;obtain⟨r0,r1⟩:=bT (s:=s) (at_:=x.2.at_) (n:=6) V6;generalize aH s x.2.at_ 6=r at hbd r0 r1;have kx1:TgK n 3001 (x.1,x.2.took):=⟨kx.len,λi=>by have:=kx.row i;show(nth x.1 i).length<=_;omega,kx.ok.took⟩;obtain⟨cnt,hcnt⟩ : ∃cnt:Nat,cnt=if 1<n then(r-3).toNat else 0:=⟨_,rfl⟩;have hc3:cnt<=3:=by rw[hcnt];split<;>omega
  rw[<-hcnt]at hbd;generalize (x.1,x.2.took)=x2 at t4 kx1 hbd;subst hy;refine aa λy hy=>?_;simp;subst hy;simp only[aW];have hw3:IntKind.i64.wrap (r-3)=r-3:=aZ V4 V4;refine JB [0,1,5,8,9,10] (fun(_:Unit) k=>[ptz M,VB VC n,vo,VB VC b,VB VC r,VB VC k]) (λ_ k h5=>Tg ri s M vs W vo h5 (up (λ_=>tgI s n b) k x2)) cnt ()
   rfl V4 rfl t4 (λ_ _=>rfl) (λv k h5 hk m=>by
    by_cases hn:1<n
    ·rw[if_pos hn]at hcnt;by_cases hk2:k<cnt
     ·have e1:(k:Int)<r-3:=by omega
      simp[hw3,e1,hk2];omega
     have e1:¬(k:Int)<r-3:=by omega
     simp[hw3,e1,hk2]
    rw[if_neg hn]at hcnt;have e2:¬k<cnt:=by omega
    by_cases e1:(k:Int)<r-3
    ·simp[hw3,e1,e2];omega
    simp[hw3,e1,e2]) ?_ ?_
  ·rintro _ k h5 hltk t5 K3 hK3;have hn2:1<n:=by
    rw[hcnt]at hltk;split at hltk
    ·assumption
    omega
   have kx3:=(GJ (s:=s) (b:=b) kx1 k).mono (d:=4000) V4;have e5:up (λ_=>tgI s n b) (k+1) x2=tgI s n b (up (λ_=>tgI s n b) k x2):=rfl;rw[e5]at hK3;generalize up (λ_=>tgI s n b) k x2=x at t5 kx3 hK3;have hxl:=kx3.len;have hid:tgI s n b x=_:=tgI.eq_1 s n b x;have hwn:IntKind.i64.wrap ((n:Int)-1)=(n:Int)-1:=aZ V4 V4;simp only[aW];refine aa λy hy=>?_;simp[hwn];refine ah V0 (t5.take kx3.ok V4 (k:=(n:Int)-1) V4 V4) ?_;rintro _ h6 ⟨rfl,t6⟩;obtain⟨q0,q1⟩:=bT (s:=s) (at_:=x.2.at_) (n:=(n:Int)-1) V4;generalize aH s x.2.at_ ((n:Int)-1)=q at hid q0 q1;have hwq:IntKind.i64.wrap (1+q)=1+q:=aZ V4 V4;simp[hwq];subst hy;refine aa λy hy=>?_;refine gO (λρ h'=>∃(t:Nat) (m':MS) (v0 v:Value),tgI s n b x=nf x b t m'/\t<=1000/\Tg ri s M vs W vo h' (x.1,m')/\ρ=[(0,ptz M),(1,VB VC n),(5,vo),(8,VB VC b),(9,VB VC r),(10,VB VC k),(11,VB VC t),(57,VB VC q),(62,v0),(64,v)]) ?_ ?_
   ·intro K4 hK4;refine aa λw hw=>?_;by_cases c1:1+q<=b
    ·rw[if_pos c1]at hid;simp[c1];refine ah V0 (t6.take kx3.ok.took V4 (k:=2) V6 V6) ?_;rintro _ h7 ⟨rfl,t7⟩;have hx:(x.1,x.2.took).2.at_=x.2.at_+1:=rfl;rw[hx];simp;subst hw;by_cases c2:aH s (x.2.at_+1) 2=0
     ·rw[if_pos c2]at hid;refine aT (by simp[c2]) ?_;simp;refine hK4 _ _ ⟨min (b+1) (n-1),_,.bool VI,VB VC (aH s (x.2.at_+1) 2),hid,by omega,t7,?_⟩;rw[hwn,show IntKind.i64.wrap ((b:Int)+1)=(b:Int)+1 from aZ V4 V4];rw[show(if(n:Int)-1<(b:Int)+1 then(n:Int)-1 else(b:Int)+1)=((min (b+1) (n-1):Nat):Int) by split<;>omega]
     rw[if_neg c2]at hid;refine bf (by simp[c2]) ?_;simp;refine hK4 _ _ ⟨(1+q).toNat,_,.bool VI,VB VC (aH s (x.2.at_+1) 2),hid,by omega,t7,?_⟩;rw[show(((1+q).toNat:Nat):Int)=1+q by omega]
    rw[if_neg c1]at hid;simp[c1];subst hw;refine bf V5 ?_;simp;refine hK4 _ _ ⟨(1+q).toNat,_,.bool VJ,undef,hid,by omega,t6,?_⟩;rw[show(((1+q).toNat:Nat):Int)=1+q by omega]
   rintro _ h7 ⟨t,m',v0,v,e,ht,t7,rfl⟩;subst hy;obtain⟨vr,hvr,put⟩:=t7.put (p:=b) (b:=t) (by show b<x.1.length;omega) (by have:=kx3.row b;show(nth x.1 b).length<=_;omega) V4;have hix:=t7.idx (k:=.i64) (i:=b) V4 (by show(b:Int)<x.1.length;omega);simp only[Si]at hix;simp[hix,hvr];refine put rfl (λ_=>rfl) (λ_=>rfl) (λ_ _=>rfl) (λ_ _=>rfl) λu v' h8 t8=>?_;exact hK3 () _ _ rfl rfl (by rw[e];exact t8)
  rintro _ h5 t5;simp;refine hK2 () _ _ rfl rfl (by rw[hbd];exact t5)
 rintro _ h3 t3;rw[<-htd]at t3;simp;subst hz;simp;refine hK _ _ ?_;obtain⟨W',o,rv,g,w,q⟩:=t3;obtain⟨W2,g2,w2,fr⟩:=w.own.BH (λk=>decide (3<=k.1)&&decide (k.1<8));obtain⟨vb,vl,lb,bb⟩:=w.box;refine⟨W2,_,Vz g g2,⟨w2,w.src.mono g2,vb,vl,lb,bb.frame λk hk=>?_⟩,?_,λk hk h8=>by simp[hk,h8],?_⟩
 ·have:¬3<=k.1:=by omega
  simp[this]
 ·intro k hk;have h1:3<=k.1:=by omega
  have h2:¬k.1<8:=by omega
  simp[h2];exact q.res k hk
 refine CL (fr (k:=(3,0)) V6 q.top) rfl q.len λi h1 h2 cs hr=>?_;obtain⟨e,_⟩:cs=[(rv[i]).v]/\_:=hr;refine⟨_,e,?_⟩;have:=fr (k:=(4,i)) V5 (q.row i h2);rwa [ay h1,ay h2]at this
section
structure Grw (b k:Nat) (m m':MS):Prop where
 at0:m.at_<=m'.at_
 at1:m'.at_<=m.at_+k
 n0:m.next<=m'.next
 n1:m'.next<=m.next+k
 ps:m'.ps=m.ps
 live:m'.live.length<=m.live.length+k
 len:m'.blocks.length=m.blocks.length
 els : ∀i,i≠b->nth m'.blocks i=nth m.blocks i
 ins:(nth m'.blocks b).ins.length<=(nth m.blocks b).ins.length+k
 phis:(nth m'.blocks b).phis=(nth m.blocks b).phis
 term:(nth m'.blocks b).term=(nth m.blocks b).term
variable {s:List Int} {m m' m2:MS} {b c k l:Nat}
theorem Grw.refl:Grw b 0 m m:=⟨RQ _,RQ _,SW _,by omega,rfl,RQ _,rfl,λ_ _=>rfl,RQ _,rfl,rfl⟩
theorem Grw.trans (g:Grw b k m m') (h:Grw b l m' m2):Grw b (k+l) m m2:=
 ⟨Sk g.at0 h.at0,by have:=g.at1;have:=h.at1;omega,Vj g.n0 h.n0,by have:=g.n1;have:=h.n1;omega,h.ps.trans g.ps,by have:=g.live;have:=h.live;omega,h.len.trans g.len,λi hi=>(h.els i hi).trans (g.els i hi),by have:=g.ins;have:=h.ins;omega,h.phis.trans g.phis,h.term.trans g.term⟩
theorem Grw.mono(g:Grw b k m m')(h:k<=l):Grw b l m m':=
 ⟨g.at0,by have:=g.at1;omega,g.n0,by have:=g.n1;omega,g.ps,by have:=g.live;omega,g.len,g.els,by have:=g.ins;omega,g.phis,g.term⟩
theorem Grw.took (g:Grw b k m m'):Grw b (k+1) m m'.took:=g.trans ⟨by show _<=m'.at_+1;omega,RQ _,SW _,by show m'.next<=_;omega,rfl,by show m'.live.length<=_;omega,rfl,λ_ _=>rfl,by show(nth m'.blocks b).ins.length<=_;omega,rfl,rfl⟩
theorem Grw.aV (g:Grw b k m m'):Grw b (k+1) m m'.aV:=g.trans ⟨RQ _,by show m'.at_<=_;omega,by show _<=m'.next+1;omega,SW _,rfl,by show m'.live.length<=_;omega,rfl,λ_ _=>rfl,by show(nth m'.blocks b).ins.length<=_;omega,rfl,rfl⟩
theorem Grw.add {i:InsD} (hb:b<m.blocks.length) (g:Grw b k m m'):Grw b (k+2) m (m'.add b i):=by
 have hb':b<m'.blocks.length:=by rw[g.len];exact hb
 have e:nth (m'.add b i).blocks b={ nth m'.blocks b with ins:=(nth m'.blocks b).ins++[i] }:=by show nth (m'.blocks.set b _) b=_;rw[bj hb',if_pos rfl]
 refine g.trans ⟨RQ _,by show m'.at_<=_;omega,SW _,by show m'.next<=_;omega,rfl,?_,mC,λj hj=>?_,?_,by rw[e],by rw[e]⟩
 ·show(m'.live++bg i).length<=_;have h2:(bg i).length<=2:=by
   unfold bg;repeat' split
   all_goals simp
  rw[RZ];omega
 ·show nth (m'.blocks.set b _) j=_;rcases RX j m'.blocks.length with hl | hl
  ·rw[bj hl,if_neg (λe=>hj e.symm)]
  rw[bH (by simpa using hl),bH hl]
 rw[e];show((nth m'.blocks b).ins++[i]).length<=_;rw[RZ,Sp];omega
theorem Grw.constant {n:Int} (hb:b<m.blocks.length) (g:Grw b k m m'):Grw b (k+3) m (m'.constant b n):=g.aV.add hb
theorem Grw.two {op x y:Int} (hb:b<m.blocks.length) (g:Grw b k m m'):Grw b (k+3) m (m'.two b op x y):=g.aV.add hb
theorem Grw.fo(hb:b<m.blocks.length)(g:Grw b k m m'):Grw b (k+10) m (aI s m' b).2:=by
 unfold aI;repeat' split
 ·exact(g.took.took.constant hb).mono V4
 ·exact(g.took.took.took.took.took.constant hb).mono V4
 exact(g.took.took.took).mono V4
theorem Grw.addr(hb:b<m.blocks.length)(g:Grw b k m m'):Grw b (k+30) m (jQ s m' b).2:=by
 unfold jQ;simp only;split
 ·exact(((((g.took.constant hb).took.fo hb).constant hb).two hb).two hb).mono V4
 exact((g.took.constant hb).took).mono V4
theorem Grw.off(g:Grw b k m m'):Grw b (k+4) m (offS s m').2:=by
 unfold offS;split
 ·exact g.took.took.took.took
 exact g.took.took.mono V4
theorem Grw.memory{st:Bool}(hb:b<m.blocks.length)(g:Grw b k m m'):Grw b (k+60) m (jd s m' b st):=by
 unfold jd;simp only;split
 ·exact((((g.addr hb).off.fo hb)).add hb).mono V4
 exact(((g.addr hb).off.aV).add hb).mono V4
variable{op:Int}
theorem Grw.bin(hb:b<m.blocks.length)(g:Grw b k m m'):Grw b (k+60) m (binS s m' b op):=by
 unfold binS;simp only;split
 ·exact((((g.fo hb).fo hb).took.took.constant hb).two hb).mono V4
 exact(((g.fo hb).fo hb).took.two hb).mono V4
theorem Grw.div(hb:b<m.blocks.length)(g:Grw b k m m'):Grw b (k+60) m (divS s m' b):=by
 unfold divS;simp only;split
 ·exact((((g.fo hb).took.constant hb).took.took.constant hb).two hb).mono V4
 exact(((g.fo hb).took.constant hb).took.two hb).mono V4
theorem Grw.args (hb:b<m.blocks.length) {x:List Int × MS} (g:Grw b k m x.2) : ∀n,Grw b (k+10*n) m (up (fQ s b) n x).2
 | 0=>g
 | n+1=>((Grw.args hb g n).fo hb).mono V4
theorem Grw.call(hb:b<m.blocks.length)(g:Grw b k m m'):Grw b (k+70) m (oR s m' b):=by unfold oR;simp only;have ht:=bT (s:=s) (at_:=m'.at_) (n:=5) V6;have g2:=Grw.args (s:=s) hb (x:=([],m'.took)) g.took (aH s m'.at_ 5).toNat;exact(g2.aV.took.add hb).mono V4
theorem Grw.ij(hb:b<m.blocks.length)(g:Grw b k m m'):Grw b (k+80) m (aN s b m'):=by
 unfold aN;simp only;repeat' split
 ·exact(g.took.bin hb).mono V4
 ·unfold ltuS;exact(((g.took.fo hb).fo hb).two hb).mono V4
 ·exact(g.took.div hb).mono V4
 ·exact(g.took.memory hb).mono V4
 ·exact(g.took.call hb).mono V4
 ·unfold vW;exact(((g.took.fo hb).fo hb).aV.aV.add hb).mono V4
 exact(g.took.took.took.constant hb).mono V4
theorem Grw.eV (hb:b<m.blocks.length) (g:Grw b k m m') : ∀n,Grw b (k+80*n) m (up (λ_=>aN s b) n m')
 | 0=>g
 | n+1=>((Grw.eV hb g n).ij hb).mono V4
theorem Grw.Ky{to:List Int}(hb:b<m.blocks.length)(g:Grw b k m m'):Grw b (k+40) m (e9 s to b m').2:=by
 unfold e9;simp only;repeat' split
 ·exact g.took.took.mono V4
 ·exact(g.took.fo hb).mono V4
 ·exact g.took.mono V4
 ·exact g.mono V4
 ·exact((((g.fo hb).took.fo hb)).aV.took.add hb).mono V4
 ·exact(g.fo hb).took.mono V4
 exact(((g.fo hb).constant hb).two hb).mono V4
def MS.f (m:MS):ak:=⟨m.ps,m.blocks⟩
def MS.jZ (m:MS) (b:Nat) (l:List Int):MS:={ m with blocks:=m.blocks.set b { nth m.blocks b with term:={ (nth m.blocks b).term with to:=l } } }
def iu (s:List Int) (m:MS) (b:Nat):Int:=
 if 1<(aJ m.f b).length then aH s m.at_ 4 else if aH s m.at_ 6=0 then 1 else 0
def dD (b:Nat) (m:MS):MS:={ m.aV with blocks:=m.blocks.set b { nth m.blocks b with phis:=(nth m.blocks b).phis++[⟨m.next,[]⟩] } }
def dL (s:List Int) (k:Nat) (x:List Int × MS):List Int × MS:=
 (x.1.set (k+1) (iu s x.2 (k+1)),up (λ_=>dD (k+1)) (iu s x.2 (k+1)).toNat x.2.took)
def kS (f:ak) (n:Nat):List BL:=rows (λa=>eY f (a:Int)) n
def qO (dn:BL) (away:List BL) (b n:Nat):Bool:=up (λa r=>r&&(decide (a=b)||nth dn a||nth (nth away a) b)) n (!nth dn b)
def gTq (m:MS) (dn:BL) (away:List BL) (b:Nat) (a:Nat) (l:List Int):List Int:=
 if decide (a≠b)&&(!nth dn a||nth (nth away a) b) then l
 else l++(nth m.blocks a).phis.map PhiD.dst++(nth m.blocks a).ins.flatMap bg
def nh (m:MS) (dn:BL) (away:List BL) (b n:Nat):List Int:=up (gTq m dn away b) n (rows (λi=>(i:Int)) m.ps.toNat)
def jJ (s:List Int) (to:List (List Int)) (n:Nat) (dn:BL) (away:List BL) (b:Nat) (m:MS):MS:=
 let m1:MS:={ m with live:=nh m dn away b n }
 py s (nth to b) b (up (λ_=>aN s b) (aH s m1.at_ 7).toNat m1.took)
def bo (s:List Int) (to:List (List Int)) (n:Nat) (b:Nat) (x:BL × MS):BL × MS:=
 if qO x.1 (kS x.2.f n) b n then(x.1.set b VI,jJ s to n (x.1.set b VI) (kS x.2.f n) b x.2) else x
def cL (s:List Int) (p:List Int) (k:Nat) (x:List InD × MS):List InD × MS:=
 let b:=(nth p k).toNat
 let l:=gX x.2.f b
 let r:List Int × MS:=if l.length=0 then([x.2.next],x.2.took.took.constant b (jY s x.2)) else(l,x.2)
 (x.1++[⟨nth p k,nth r.1 (aH s r.2.at_ r.1.length).toNat⟩],r.2.took)
def MS.jT (m:MS) (b i:Nat) (l:List InD):MS:={ m with blocks:=m.blocks.set b { nth m.blocks b with phis:=(nth m.blocks b).phis.set i { nth (nth m.blocks b).phis i with ins:=l } } }
def phi3 (s:List Int) (b:Nat) (p:List Int) (i:Nat) (m:MS):MS:=(up (cL s p) p.length ([],m)).2.jT b i (up (cL s p) p.length ([],m)).1
def blk3 (s:List Int) (phis:List Int) (k:Nat) (m:MS):MS:=up (phi3 s (k+1) (aJ m.f ((k+1:Nat):Int))) (nth phis (k+1)).toNat m
def yi (s:List Int):MS:=⟨2,aH s 0 5,[],aH s 0 5,[]⟩
def aS (s:List Int):Nat:=(1+aH s 1 9).toNat
def ft (s:List Int):TgS:=rC s (aS s) (yi s)
def rY:BlkD:=⟨[],[],⟨0,[],[],⟨0⟩⟩⟩
def ni (s:List Int):MS:=up (λb m=>m.jZ b (nth (ft s).1 b)) (aS s) { (ft s).2 with blocks:=List.replicate (aS s) rY }
def gJ (s:List Int):List Int × MS:=up (dL s) (aS s-1) (List.replicate (aS s) 0,ni s)
def pG (s:List Int):BL × MS:=up (λ_=>up (bo s (ft s).1 (aS s)) (aS s)) (aS s) (List.replicate (aS s) VJ,(gJ s).2)
def fP (s:List Int):MS:=up (blk3 s (gJ s).1) (aS s-1) (pG s).2
def iq (s:List Int):ak:=(fP s).f
end
section
variable {s:List Int} {M:Nat} {vs:Value} {W0:View} {h:Heap} {o0:Own} {m:MS} {u:Value} {ds:List Int}
structure Reads (M:Nat) (m:MS) (h:Heap) (vb vl:Value):Prop where
 ps:ao (vw h) ⟨M,2,VF⟩=VE (VB VC m.ps)
 nx:ao (vw h) ⟨M,4,VF⟩=VE (VB VC m.next)
 cb:ao (vw h) ⟨M,3,VF⟩=VE vb
 cl:ao (vw h) ⟨M,5,VF⟩=VE vl
 f:Un.ev (vw h) (.bM 2) (VH (VE ⟨M,2,VF⟩))=VE (.agg #[VB VC m.ps,vb])
 blk:SlRd (vw h) vb m.blocks
 live:SlRd (vw h) vl m.live
variable{vb vl:Value}
theorem Reads.rd(r:Reads M m h vb vl)(hp:I64 m.ps):Rd (vw h) (.agg #[VB VC m.ps,vb]) m.f:=⟨_,rfl,[VB VC m.ps],[vb],rfl,⟨rfl,hp⟩,vb,rfl,r.blk⟩
variable{W:View}
theorem Mk.reads{o:Own}(w:Mk s M vs W h o m){lb:List BlkM}(bb:MkB M vs m o vb vl lb):Reads M m h vb vl:=by
 have c2:ao (vw h) ⟨M,2,VF⟩=VE (VB VC m.ps):=bb.cell w.own (i:=2) V6;have c3:ao (vw h) ⟨M,3,VF⟩=VE vb:=bb.cell w.own (i:=3) V6;refine⟨c2,bb.cell w.own (i:=4) V6,c3,bb.cell w.own (i:=5) V6,?_,?_,w.own.now bb.live⟩
 ·have hat:=w.own.CG bb.box;obtain⟨cs,⟨cur,e,fz,g1,g2,g3⟩,he,_⟩:=w.own.atW bb.box;have:gN (vw h) ⟨M,2,VF⟩ [VB VC m.ps,vb]:=⟨cur,e,fz,rfl,g2,by
   have g3:(cur.toList.drop 0).take cs.length=cs:=g3;have he:cs=mkL vs m.at_ m.ps vb m.next vl:=he;rw[TU]at g3;have hd:cs.drop 2=(cur.toList.drop 2).take (cs.length-2):=by have:=congrArg (List.drop 2) g3;rw[Ts]at this;exact this.symm
   have hl:cs.length=6:=by rw[he];rfl
   have h2:(cs.drop 2).take 2=(cur.toList.drop 2).take 2:=by rw[hd,hl,Tu];rfl
   show(cur.toList.drop 2).take 2=_;rw[<-h2,he];rfl⟩;have:=gj this 2 0 #[] rfl;simp only[Un.ev,vP,St];rw[this];simp
 refine CL (w.own.now bb.blk) rfl bb.len λi h1 h2 cs hr=>?_;have:=Dx hr (p:=(nth m.blocks i).phis) (i:=(nth m.blocks i).ins) (by have:=w.own.now (bb.phis i h2);rwa [ay h1]at this) (by have:=w.own.now (bb.ins i h2);rwa [ay h1]at this);have ht:=bb.term i h2;rw[ay h1]at ht;rw[ht]at this;rw[<-ay h2];exact this
theorem Nz.reads (n:Nz s M vs W0 h o0 m u ds) : ∃vb vl,Reads M m h vb vl:=by obtain⟨W,o,g,w,f,sl⟩:=n;obtain⟨vb,vl,lb,bb⟩:=w.box;exact⟨vb,vl,w.reads bb⟩
variable{α:Type}
theorem Nz.at[Rep α](n:Nz s M vs W0 h o0 m u ds){k:Key}(h3:3<=k.1){e:TypeId}{v:Value}{l:List α}(hk:o0 k=it e v l):SlRd (vw h) v l:=by obtain⟨W,o,g,w,f,sl⟩:=n;exact w.own.now ((f k h3).trans hk)
end
theorem BlkM.Dd:Part BlkM (List Int) 4 (λd=>d.term.to) (λd x=>{ d with term:={ d.term with to:=x } }):=(Part.snd (Part.snd ((Part.snd (Part.snd (Part.fst Part.all))).via (α:=Cat Int (Cat (List Int) (Cat (List Int) I32))) (f:=λd:de=>Cat.mk d.kind (Cat.mk d.args (Cat.mk d.to d.imm))) (g':=de.to) (s':=λd x=>{ d with to:=x }) (λ_=>rfl) λ_ _=>rfl))).via (λ_=>rfl) λ_ _=>rfl
section
variable {s:List Int} {M:Nat} {vs:Value} {W0:View} {h:Heap} {o0:Own} {m:MS} {u:Value} {ds:List Int}
variable{po:OP}{α:Type}{ty:TypeId}{us:List (Nat × Value)}
theorem Nz.MJ[r:Rep α](n:Nz s M vs W0 h o0 m u ds){k:Key}{e:TypeId}{i:Nat}{v:Value}{l:List α}{t:TypeId}{x y:Operand}{d:α}{w:Value}{K:Value->Heap->Prop}(h3:3<=k.1)(hk:o0 k=it e v l)(hi:i<l.length)(hsz:cW VK t=VE (Rep.n α))(hx:asg us x = VH (VE ((slA v).add (i*Rep.n α))))(hy:asg us y=w)(hr : ∀W,Rd W w d)(hK : ∀h',Nz s M vs W0 h' (o0.upd k (it e v (l.set i d))) m u ds->K undef h'):@Lft.step po VK (.store t x y) ty us h K:=by
 obtain⟨W,o,g1,wk,f,sl⟩:=n;refine wk.own.bI (k:=k) (v:=v) (l:=l) (i:=i) (d:=d) ((f k h3).trans hk) hsz hx hy hi (hr W) λh' w' _=>hK h' ?_;obtain⟨vb,vl,lb,bb⟩:=wk.box;refine⟨W,_,g1,⟨w',wk.src,vb,vl,lb,bb.frame λq hq=>Own.aB (by rintro rfl;omega)⟩,λq hq=>?_,sl⟩;unfold Own.upd;split
 ·rfl
 exact f q hq
variable{W:View}{vb vl:Value}{b:Nat}{ty2:TypeId}
theorem Mk.QT{o:Own}(w:Mk s M vs W h o m){lb:List BlkM}(bb:MkB M vs m o vb vl lb){l:List Int}{v:Value}{x y:Operand}{K:Value->Heap->Prop}(hb:b<m.blocks.length)(hsz:cW VK ty2=VE 1)(hx:asg us x = VH (VE (((slA vb).add (b*6)).add 4)))(hy:asg us y=v)(hr:SlRd W v l)(hK : ∀h' o',Mk s M vs W h' o' (m.jZ b l)->(∀k:Key,3<=k.1->o' k=o k)->K undef h'):@Lft.step po VK (.store ty2 x y) ty us h K:=by
 have hbl:b<lb.length:=by rw[bb.len];exact hb
 refine w.own.qy (k:=(0,2)) (α:=BlkM) BlkM.Dd (v:=vb) (l:=lb) (i:=b) (d:=l) bb.blk hsz hx hy hbl (dx.2 hr) λh7 w7 _=>?_;have ht:=bb.term b hb;rw[ay hbl]at ht;refine hK h7 _ ⟨w7,w.src,vb,vl,_,bb.iz hb (x':={ nth m.blocks b with term:={ (nth m.blocks b).term with to:=l } }) (y':={ lb[b]with term:={ lb[b].term with to:=l } }) (by rw[<-ht]) Own.an ?_ ?_ λq h1 _ _=>Own.aB h1⟩ (pP V6)
 ·rw[Own.aB V5,bb.phis b hb,ay hbl]
 rw[Own.aB V5,bb.ins b hb,ay hbl]
end
theorem vQ {to:List (List Int)} {m:MS} : ∀k,(up (λb m=>MS.jZ m b (nth to b)) k m).blocks.length=m.blocks.length
 | 0=>rfl
 | k+1=>by show(List.set _ _ _).length=_;rw[Sv];exact vQ k
variable{M n:Nat}{vs vt vr:Value}{W0:View}{o0:Own}{to:List (List Int)}{Q:Post}{ρ:Env}
theorem Nl{s:List Int}{h:Heap}{m:MS}(hto:SlRd W0 vt to)(hn:to.length=n)(x:Nx s M vs W0 h o0 m)(hlen:m.blocks.length=n)(hn2:n<=100)(h0:bh [2,3,4,5,6] ρ=[(2,vr),(3,ptz M),(4,VB VC n),(5,vt),(6,VB VC 0)])(hQ : ∀h',Nx s M vs W0 h' o0 (up (λb m=>m.jZ b (nth to b)) n m)->Q .normal [(2,vr),(3,ptz M),(4,VB VC n),(5,vt),(6,VB VC n)] h'):
  LC.wp VK (.block 0 (.loop L.au.l1)) Q ρ h:=by
 simp only[aW];refine dQ [2,3,4,5,6] (fun(_:Unit) k=>[vr,ptz M,VB VC n,vt,VB VC k]) (λ_ k h2=>Nx s M vs W0 h2 o0 (up (λb m=>m.jZ b (nth to b)) k m)) n ()
  rfl V4 h0 x (λ_ _=>rfl) (λv k h2 hk m=>by simp) ?_ ?_
 ·rintro _ b h2 hlt x2 K2 hK2;have hlb:(up (λb m=>MS.jZ m b (nth to b)) b m).blocks.length=n:=(vQ b).trans hlen;have e2:up (λb m=>MS.jZ m b (nth to b)) (b+1) m=(up (λb m=>MS.jZ m b (nth to b)) b m).jZ b (nth to b):=rfl;rw[e2]at hK2;generalize up (λb m=>MS.jZ m b (nth to b)) b m=m2 at x2 hK2 hlb;obtain⟨rv,hrv⟩:=hto.rows;obtain⟨hr1,hr2⟩:=hrv b V4;obtain⟨W,o,g,w,f⟩:=x2;obtain⟨vb,vl,lb,bb⟩:=w.box;have rd:=w.reads bb;have ito:=(hto.mono g).mono w.own.wle;simp only[aW];refine aQ (vw h2) Vy ?_;simp(disch:=omega)[rd.cb,rd.blk.idxn (N:=6) rfl,ito.idx1 rfl,hr1 _ (Vz g w.own.wle)];refine w.QT bb (b:=b) (l:=nth to b) V4 V0 rfl rfl (hr2.mono g) λh3 o3 w3 f3=>?_;exact hK2 () _ _ rfl rfl ⟨W,o3,g,w3,λk hk=>(f3 k hk).trans (f k hk)⟩
 rintro _ h2 x2;exact hQ h2 x2
theorem sub_le{H K L:View}(h:H.sub K)(k:K.le L):H.sub L:=λb o hb=>by obtain⟨o',h1,h2⟩:=h b o hb;exact⟨o',k _ _ h1,h2⟩
variable{W:View}
theorem Owns.KA{h:Heap}{o:Own}{k:Key}{B:Nat}{e:TypeId}{l:List Value}(w:Owns W h o)(hk:o k=bx e B (RawN.mk (n:=n) l)): ∃cur,h[B]? = VE (.cells cur e (0,0))/\∃r,cur.toList=l++r:=by
 obtain⟨hb,xs,⟨hl,hown⟩,hel⟩:=w.get (k:=k) (v:=VG (VE ⟨B,0,VF⟩) 1 1) (l:=[RawN.mk (n:=n) l]) hk;have h0:=hel 0 V5;simp only[Ul,TU,TN,Sp,U7]at h0 hl;rw[Sg V4]at h0;obtain⟨h0,_,_⟩:xs=l/\_:=h0;subst h0;rcases hown with⟨h1,_⟩ | ⟨g,cap,cur,h1,h2,h3,h4,h5,h6⟩
 ·cases h1
 simp only[Value.slice.injEq,RP,Addr.mk.injEq]at h1;obtain⟨⟨rfl,_⟩,_⟩:=h1;refine⟨cur,h2,cur.toList.drop (1*Rep.n (RawN n)),?_⟩;have h6:cur.toList.take (1*Rep.n (RawN n))=xs:=by simpa using h6
 rw[<-h6,TW]
section
variable {s:List Int} {M:Nat} {vs:Value} {W:View} {h:Heap} {o:Own} {m:MS} {vb vl:Value} {lb:List BlkM}
theorem MkB.LI(w:Owns W h o)(bb:MkB M vs m o vb vl lb): ∃H:View,H.sub (vw h)/\ao H ⟨M,3,VF⟩=VE vb/\SlRd H vb lb/\
  ∀h2 o2,Owns W h2 o2->MkB M vs m.aV o2 vb vl lb->(∀X:View,X.le (vw h)->X M=VF->X.le (vw h2))->∃X:View,H.sub X/\W.le X/\X.le (vw h2)/\SlRd X vb lb/\∀i,i<m.blocks.length->Av X (nth lb i).phis.v:=by
 obtain⟨cur,hM,r,hr⟩:=Owns.KA w bb.box;have aM:=w.av (0,0) _ bb.box;have aM:W M=none:=aM M rfl;have avb:=w.av (0,2) _ bb.blk;have hne : ∀b,vb.ownBlock=VE b->b≠M:=λb hb e=>by have:=w.dj (0,2) (0,0) _ _ b bb.blk bb.box hb (by rw[e];rfl);simp at this
 obtain⟨w6,s6⟩:=w.freeze bb.blk;have hYM:(W.plus vb h) M=none:=by unfold View.plus;rw[if_neg (λe=>hne M e rfl)];exact aM
 have hYle:(W.plus vb h).le (vw h):=w6.wle;let P:Obj:=.cells #[vs,VB VC m.at_,VB VC m.ps,vb] T.bC (0,0);have hpre : ∀{c:Array Value} {r:List Value} {nx:Int},c.toList=mkL vs m.at_ m.ps vb nx vl++r->(Obj.cells c T.bC (0,0)=P\/∃c1 c2 t fz,P = .cells c1 t fz/\Obj.cells c T.bC (0,0) = .cells c2 t fz/\∃r:List Value,c2.toList=c1.toList++r):=fun{c r nx} hc=>.inr ⟨_,c,_,_,rfl,rfl,[VB VC nx,vl]++r,by rw[hc];rfl⟩;refine⟨λb=>if b=M then VE P else(W.plus vb h) b,λb x hb=>?_,?_,?_,λh2 o2 w2 b2 keep=>?_⟩
 ·dsimp only at hb;split at hb
  ·rename_i e;cases hb;subst e;exact⟨_,hM,hpre hr⟩
  exact⟨x,hYle b x hb,.inl rfl⟩
 ·simp[ao,P]
 ·refine s6.mono λb x hb=>?_;show(if b=M then VE P else(W.plus vb h) b)=_;rw[if_neg]
  ·exact hb
  rintro rfl;rw[hYM]at hb;cases hb
 obtain⟨cur2,hM2,r2,hr2⟩:=Owns.KA w2 b2.box;have hY2:=keep _ hYle hYM;refine⟨λb=>if b=M then h2[M]? else(W.plus vb h) b,λb x hb=>?_,λb x hb=>?_,λb x hb=>?_,s6.mono λb x hb=>?_,λi hi b hb=>?_⟩
 ·dsimp only at hb;split at hb
  ·rename_i e;cases hb;subst e;exact⟨_,by simp[hM2],hpre hr2⟩
  rename_i e;exact⟨x,by simpa[e]using hb,.inl rfl⟩
 ·have e:b≠M:=by rintro rfl;rw[aM]at hb;cases hb
  show(if b=M then h2[M]? else(W.plus vb h) b)=_;rw[if_neg e];exact iI avb b x hb
 ·dsimp only at hb;split at hb
  ·rename_i e;subst e;exact hb
  exact hY2 b x hb
 ·have e:b≠M:=by rintro rfl;rw[hYM]at hb;cases hb
  show(if b=M then h2[M]? else(W.plus vb h) b)=_;rw[if_neg e];exact hb
 have e:b≠M:=λe=>by have:=w.dj (1,i) (0,0) _ _ b (bb.phis i hi) bb.box hb (by rw[e];rfl);simp at this
 show(if b=M then h2[M]? else(W.plus vb h) b)=_;rw[if_neg e];exact w6.av (1,i) _ ((Own.aB V5).trans (bb.phis i hi)) b hb
theorem Mk.Pn(w:Mk s M vs W h o m)(bb:MkB M vs m o vb vl lb)(h0:0<=m.next)(h1:m.next<=1000000000):
  az VK 37 #[ptz M] h (λu h'=>u = VB VC m.next/\∃o',Mk s M vs W h' o' m.aV/\MkB M vs m.aV o' vb vl lb/\(∀k:Key,3<=k.1->o' k=o k)/\∀X:View,X.le (vw h)->X M=VF->X.le (vw h')):=by refine(DV w.own bb.box h0 h1).mono ?_;rintro u h' ⟨rfl,w2,keep⟩;exact⟨rfl,_,⟨w2,w.src,vb,vl,lb,bb.at⟩,bb.at,pP V6,keep⟩
end
theorem Nz.ext{s:List Int}{M:Nat}{vs:Value}{W0:View}{h h':Heap}{o0:Own}{m:MS}{u:Value}{ds:List Int}(n:Nz s M vs W0 h o0 m u ds)(hle:(vw h).le (vw h')):Nz s M vs W0 h' o0 m u ds:=by obtain⟨W,o,g,w,f,sl⟩:=n;exact⟨W,o,g,⟨w.own.ext' hle,w.src,w.box⟩,f,sl⟩
structure Sz (n a p i:Nat) (m:MS):Prop where
 at_:m.at_<=a
 n0:0<=m.next
 next:m.next<=a
 live:m.live.length<=a
 ps0:0<=m.ps
 ps1:m.ps<=4
 len:m.blocks.length=n
 phis : ∀j,(nth m.blocks j).phis.length<=p
 ins : ∀j,(nth m.blocks j).ins.length<=i
theorem Sz.mono{n a p i a' p' i':Nat}{m:MS}(z:Sz n a p i m)(h1:a<=a')(h2:p<=p')(h3:i<=i'):Sz n a' p' i' m:=
 ⟨Sk z.at_ h1,z.n0,by have:=z.next;omega,Sk z.live h1,z.ps0,z.ps1,z.len,λj=>Sk (z.phis j) h2,λj=>Sk (z.ins j) h3⟩
theorem Sz.ok {n a p i:Nat} {m:MS} (z:Sz n a p i m) (h:i<=a):m.ok a:=⟨z.at_,z.n0,z.next,z.live,λj=>Sk (z.ins j) h⟩
theorem Sz.took {n a p i:Nat} {m:MS} (z:Sz n a p i m):Sz n (a+1) p i m.took:=⟨by have:=z.at_;show m.at_+1<=_;omega,z.n0,by have:=z.next;show m.next<=_;omega,by have:=z.live;show m.live.length<=_;omega,z.ps0,z.ps1,z.len,z.phis,z.ins⟩
variable{b:Nat}
theorem Sz.iz{a p i:Nat}{m:MS}(z:Sz n a p i m){x:BlkD}(h1:x.phis.length<=p)(h2:x.ins.length<=i):Sz n a p i { m with blocks:=m.blocks.set b x }:=by
 refine⟨z.at_,z.n0,z.next,z.live,z.ps0,z.ps1,by show(m.blocks.set b x).length=_;rw[Sv];exact z.len,λj=>?_,λj=>?_⟩;all_goals
  show List.length (α:=_) _<=_
  rcases RX j m.blocks.length with hl | hl
  ·simp only[bj hl]
   split
   ·assumption
   ·first | exact z.phis j | exact z.ins j
  ·first
    | (have:=z.phis j;rw[bH hl]at this;rw[bH (by simpa using hl)];exact this)
    | (have:=z.ins j;rw[bH hl]at this;rw[bH (by simpa using hl)];exact this)
theorem Sz.dD {n a p i b:Nat} {m:MS} (z:Sz n a p i m):Sz n (a+1) (p+1) i (dD b m):=by have h1:Sz n (a+1) (p+1) i m.aV:=⟨by have:=z.at_;show m.at_<=_;omega,by have:=z.n0;show 0<=m.next+1;omega,by have:=z.next;show m.next+1<=_;omega,by have:=z.live;show m.live.length<=_;omega,z.ps0,z.ps1,z.len,λj=>by have:=z.phis j;show(nth m.blocks j).phis.length<=_;omega,z.ins⟩;exact h1.iz (b:=b) (x:={ nth m.blocks b with phis:=(nth m.blocks b).phis++[⟨m.next,[]⟩] }) (by have:=z.phis b;show((nth m.blocks b).phis++[_]).length<=_;rw[RZ,Sp];omega) (z.ins b)
theorem Sz.nk {n a p i b:Nat} {m:MS} (z:Sz n a p i m) : ∀k,Sz n (a+k) (p+k) i (up (λ_=>Go.Lft.dD b) k m)
 | 0=>z
 | k+1=>(Sz.nk z k).dD
section
variable {s:List Int} {M:Nat} {vs:Value} {W0:View} {h:Heap} {o0:Own} {m:MS}
variable{vp:Value}{lp:List Int}
theorem Nq{a p i cnt:Nat}{vq:Value}(x:Nx s M vs W0 h o0 m)(hk:o0 (5,0)=it T.int vp lp)(z:Sz n a p i m)(hb:b<n)(hlp:lp.length=n)(hcnt:nth lp b=cnt)(hc:cnt<=10)(hn:n<=100)(ha:a<=100000)(hp:p<=100000)(h0:bh [2,3,4,5,7,8,9,10] ρ=[(2,vr),(3,ptz M),(4,VB VC n),(5,vt),(7,vp),(8,VB VC b),(9,vq),(10,VB VC 0)])(hQ : ∀h',Nx s M vs W0 h' o0 (up (λ_=>dD b) cnt m)->Q .normal [(2,vr),(3,ptz M),(4,VB VC n),(5,vt),(7,vp),(8,VB VC b),(9,vq),(10,VB VC cnt)] h'):
  LC.wp VK (.block 4 (.loop L.au.l3)) Q ρ h:=by
 simp only[aW];refine dQ [2,3,4,5,7,8,9,10] (fun(_:Unit) k=>[vr,ptz M,VB VC n,vt,vp,VB VC b,vq,VB VC k]) (λ_ k h2=>Nx s M vs W0 h2 o0 (up (λ_=>dD b) k m)) cnt ()
  rfl V4 h0 x (λ_ _=>rfl) (λv k h2 hk2 m=>by have sp:=m.z.at V6 hk;have e:=sp.int Vy (i:=b) V4;rw[hcnt]at e;simp(disch:=omega)[sp.idx1 rfl,e]) ?_ ?_
 ·rintro _ k h2 hlt x2 K2 hK2;have z2:=z.nk (b:=b) k;have e2:up (λ_=>dD b) (k+1) m=dD b (up (λ_=>dD b) k m):=rfl;rw[e2]at hK2;generalize up (λ_=>dD b) k m=m2 at x2 hK2 z2;have hbl:b<m2.blocks.length:=by rw[z2.len];exact hb
  obtain⟨W,o,g,w,f⟩:=x2;obtain⟨vb,vl,lb,bb⟩:=w.box;have hbb:b<lb.length:=by rw[bb.len];exact hbl
  obtain⟨H,hH,c3,sH,LI⟩:=bb.LI w.own;have a1:=(sH.at hbb).part BlkM.uE;have a2:ao H (((slA vb).add (b*6)).add 0)=VE (nth lb b).phis.v:=by rw[ay hbb];exact a1.raw
  have sb:=sH.bound;simp only[aW];refine ID H hH ?_;simp(disch:=omega)[c3,sH.idxn (N:=6) rfl,a2];refine ah V0 (w.Pn bb z2.n0 (by have:=z2.next;omega)) ?_;rintro _ h3 ⟨rfl,o3,w3,b3,f3,keep⟩;obtain⟨X,hHX,hWX,hX,sX,avX⟩:=LI h3 o3 w3.own b3 keep;refine⟨sub_le hHX hX,?_⟩;refine aA (z:=zz4) (places:=zpd) (vs:=[(0,VB VC m2.next)]) (cs:=#[VB VC m2.next,VG VF 0 0]) V0 V0 V5 V0 ?_;refine⟨sub_le hHX hX,?_⟩;have i64:I64 m2.next:=by have:=z2.n0;have:=z2.next;constructor<;>omega
  have hph:=z2.phis b;refine lT (α:=PhiD) (W:=W) (d:=⟨m2.next,[]⟩) El.nF rfl (JX i64 aO) λu5 h5 src hle5 hs5=>⟨sub_le hHX (Vz hX hle5),?_⟩;refine(w3.own.ext' hle5).dd (k:=(1,b)) (α:=PhiD) (v:=(nth lb b).phis.v) (l:=(nth m2.blocks b).phis) (l2:=[⟨m2.next,[]⟩]) (b3.phis b hbl) El.nF rfl rfl src Vv Vv λv6 h6 w6 m6=>⟨sub_le hHX (m6.view (Vz hX hle5) (avX b hbl)).1,?_⟩;have hv6:=(w6.cells (k:=(1,b)) Own.an).2;refine w6.qy (k:=(0,2)) (α:=BlkM) BlkM.uE (v:=vb) (l:=lb) (i:=b) (d:=⟨v6⟩) b3.blk V0 rfl rfl hbb (iZ.2 ⟨rfl,hv6⟩) λh7 w7 _=>?_;have b7:=b3.iz (b:=b) hbl (x':={ nth m2.blocks b with phis:=(nth m2.blocks b).phis++[⟨m2.next,[]⟩] }) (y':={ lb[b]with phis:=⟨v6⟩ }) (o':=(o3.upd (1,b) (it T.ja v6 ((nth m2.blocks b).phis++[⟨m2.next,[]⟩]))).upd (0,2) (it T.fg vb (lb.set b { lb[b]with phis:=⟨v6⟩ }))) (by rw[<-bb.term b hbl,ay hbb]) Own.an ((Own.aB V5).trans Own.an) (by rw[Own.aB V5,Own.aB V5,b3.ins b hbl,ay hbb];rfl) (λq h1 h2 h3=>by rw[Own.aB h1,Own.aB h2]);refine hK2 () _ _ rfl rfl ⟨W,_,g,⟨w7,w.src,vb,vl,_,b7⟩,λk hk=>?_⟩;rw[Own.aB (by rintro rfl;simp at hk),Own.aB (by rintro rfl;simp at hk)];exact(f3 k hk).trans (f k hk)
 rintro _ h2 x2;exact hQ h2 x2
end
variable{po:OP}{α:Type}{ty:TypeId}{us:List (Nat × Value)}
theorem Nz.Ag{s:List Int}{h:Heap}{m:MS}{u:Value}{ds:List Int}[r:Rep α](n:Nz s M vs W0 h o0 m u ds){k:Key}{e:TypeId}{i:Nat}{v:Value}{l:List α}{t:TypeId}{x y:Operand}{d:α}{w:Value}{K:Value->Heap->Prop}(h1:Rep.n α=1)(h3:3<=k.1)(hk:o0 k=it e v l)(hi:i<l.length)(hsz:cW VK t=VE 1)(hx:asg us x = VH (VE ((slA v).add i)))(hy:asg us y=w)(hr : ∀W,Rd W w d)(hK : ∀h',Nz s M vs W0 h' (o0.upd k (it e v (l.set i d))) m u ds->K undef h'):@Lft.step po VK (.store t x y) ty us h K:=
 n.MJ h3 hk hi (by rw[hsz,h1]) (by rw[hx,h1,SR]) hy hr hK
theorem qW{s:List Int}{m:MS}:0<=iu s m b/\iu s m b<=3:=by
 unfold iu;have:=bT (s:=s) (at_:=m.at_) (n:=4) V6;repeat' split
 all_goals omega
theorem Kv{l:List Int}{i:Nat}{x:Int}(h:nth l i=x)(hi:i<l.length):l.set i x=l:=by rw[<-h,ay hi];exact List.set_getElem_self hi
structure Ph (n a k:Nat) (x:List Int × MS):Prop where
 z:Sz n (a+10*k) (3*k) 0 x.2
 len:x.1.length=n
 zero : ∀j,k<j->nth x.1 j=0
 rng : ∀j,0<=nth x.1 j/\nth x.1 j<=3
theorem yU{s:List Int}{a k:Nat}{x:List Int × MS}(p:Ph n a k x):Ph n a (k+1) (dL s k x):=by
 obtain⟨c0,c1⟩:=qW (s:=s) (m:=x.2) (b:=k+1);have hset : ∀j,nth (x.1.set (k+1) (iu s x.2 (k+1))) j=if k+1=j/\j<x.1.length then iu s x.2 (k+1) else nth x.1 j:=λj=>by
  rcases RX j x.1.length with hl | hl
  ·rw[bj hl];by_cases e:k+1=j
   ·rw[if_pos e,if_pos ⟨e,hl⟩]
   rw[if_neg e,if_neg (λq=>e q.1)]
  rw[bH (by simpa using hl),if_neg V4,bH hl]
 refine⟨?_,?_,λj hj=>?_,λj=>?_⟩
 ·have:=(p.z.took).nk (b:=k+1) (iu s x.2 (k+1)).toNat;exact this.mono V4 V4 (RQ _)
 ·show(x.1.set _ _).length=_;rw[Sv];exact p.len
 ·show nth (x.1.set _ _) j=_;rw[hset,if_neg V4];exact p.zero j V4
 show 0<=nth (x.1.set _ _) j/\nth (x.1.set _ _) j<=3;rw[hset];split
 ·exact⟨c0,c1⟩
 exact p.rng j
theorem Dh {s:List Int} {n a:Nat} {x:List Int × MS} (p:Ph n a 0 x) : ∀k,Ph n a k (up (dL s) k x)
 | 0=>p
 | k+1=>yU (Dh p k)
variable{vp:Value}
theorem Mt{s:List Int}{h:Heap}{a:Nat}{x0:List Int × MS}(x:Nx s M vs W0 h (o0.upd (5,0) (it T.int vp x0.1)) x0.2)(p0:Ph n a 0 x0)(hn1:1<=n)(hn:n<=100)(ha:a<=10000)(h0:bh [2,3,4,5,7,8] ρ=[(2,vr),(3,ptz M),(4,VB VC n),(5,vt),(7,vp),(8,VB VC 1)])(hQ : ∀h',Nx s M vs W0 h' (o0.upd (5,0) (it T.int vp (up (dL s) (n-1) x0).1)) (up (dL s) (n-1) x0).2->Q .normal [(2,vr),(3,ptz M),(4,VB VC n),(5,vt),(7,vp),(8,VB VC n)] h'):
  LC.wp VK (.block 2 (.loop L.au.l2)) Q ρ h:=by
 simp only[aW];refine zX [2,3,4,5,7,8] (fun(_:Unit) k=>[vr,ptz M,VB VC n,vt,vp,VB VC ((k+1:Nat):Int)]) (λ_ k h2=>Nx s M vs W0 h2 (o0.upd (5,0) (it T.int vp (up (dL s) k x0).1)) (up (dL s) k x0).2) (n-1) 1 ()
  rfl V4 h0 x (λ_ _=>rfl) (λv k h2 hk2 m=>by simp;omega) ?_ ?_
 ·rintro _ k h2 hlt x2 K2 hK2;have p2:=Dh (s:=s) p0 k;have e2:up (dL s) (k+1) x0=dL s k (up (dL s) k x0):=rfl;have p3:=yU (s:=s) p2;rw[e2]at hK2;generalize up (dL s) k x0=y at x2 hK2 p2 p3;obtain⟨lp,m⟩:=y;have z:Sz n (a+10*k) (3*k) 0 m:=p2.z;have x2:Nx s M vs W0 h2 (o0.upd (5,0) (it T.int vp lp)) m:=x2;have q:m.ok (a+10*k):=z.ok V4;have hlen:lp.length=n:=p2.len;simp only[aW];refine aa λy hy=>?_;obtain⟨vb,vl,rd⟩:=x2.z.reads;simp[rd.f];refine ah V0 (xZ (b:=((k+1:Nat):Int)) (rd.rd ⟨by have:=z.ps0;show _<=m.ps;omega,by have:=z.ps1;show m.ps<=_;omega⟩) (by show m.blocks.length<=_;rw[z.len];omega)) ?_;rintro vq h3 ⟨hle3,hq⟩;have n3:=x2.z.ext hle3;have hcd:iu s m (k+1)=_:=iu.eq_1 s m (k+1);obtain⟨pl,hpl⟩ : ∃pl:Nat,pl=(aJ m.f ((k+1:Nat):Int)).length:=⟨_,rfl⟩;have hql : ∀{Q:View},Un.ev Q .len vq=VE (VB VC pl):=fun{Q}=>by rw[hpl];exact hq.len
  rw[<-hpl]at hcd;clear hq x2 rd hpl;subst hy;refine aa λy hy=>?_;have fin : ∀(h':Heap) (ρ:Env),Nz s M vs W0 h' (o0.upd (5,0) (it T.int vp (lp.set (k+1) (iu s m (k+1))))) m.took (VG VF 0 0) []->Lft.look ρ 2=VE vr->Lft.look ρ 3=VE (ptz M)->Lft.look ρ 4=VE (VB VC n)->Lft.look ρ 5=VE vt->Lft.look ρ 7=VE vp->Lft.look ρ 8=VE (VB VC ((k+1:Nat):Int))->Lft.look ρ 9=VE vq->
    LC.wp VK y (eZ 3 (fM K2 (eZ 2 Q))) ρ h':=by
   intro h' ρ n' r2 r3 r4 r5 r7 r8 r9;subst hy;refine aa λy hy=>?_;simp;subst hy;obtain⟨c0,c1⟩:=qW (s:=s) (m:=m) (b:=k+1);refine Nq (vr:=vr) (vt:=vt) (b:=k+1) (cnt:=(iu s m (k+1)).toNat) (vq:=vq) n'.x Own.an z.took V4 (by rw[Sv];exact hlen) (by rw[bj V4,if_pos rfl];omega) V4 hn V4 V4 ?_ λh4 x4=>?_
   ·simp[bh,af,ag,r2,r3,r4,r5,r7,r8,r9]
   simp;exact hK2 () _ _ rfl rfl x4
  refine aa λw hw=>?_;simp[hql];subst hw;by_cases c1:1<pl
  ·rw[if_pos c1]at hcd;refine aT Vv ?_;simp;refine ah V0 (fA n3 q V4 (k:=4) V6 V6) ?_;rintro _ h4 ⟨rfl,n4⟩;have sp:=n4.at (k:=(5,0)) V6 Own.an;simp(disch:=omega)[sp.idx1 rfl];refine n4.Ag (k:=(5,0)) (α:=Int) (i:=k+1) (d:=aH s m.at_ 4) rfl V6 Own.an V4 V0 rfl rfl (λW=>bw.2 ⟨rfl,by have:=bT (s:=s) (at_:=m.at_) (n:=4) V6;constructor<;>omega⟩) λh5 n5=>?_;refine fin h5 _ (n5.re λq=>by rw[fy,hcd]) ?_ ?_ ?_ ?_ ?_ ?_ ?_;all_goals simp
  rw[if_neg c1]at hcd;refine bf Vv ?_;refine aa λw hw=>?_;simp;refine ah V0 (fA n3 q V4 (k:=6) V6 V6) ?_;rintro _ h4 ⟨rfl,n4⟩;simp;subst hw;by_cases c2:aH s m.at_ 6=0
  ·rw[if_pos c2]at hcd;refine aT (by simp[c2]) ?_;have sp:=n4.at (k:=(5,0)) V6 Own.an;simp(disch:=omega)[sp.idx1 rfl];refine n4.Ag (k:=(5,0)) (α:=Int) (i:=k+1) (d:=1) rfl V6 Own.an V4 V0 rfl rfl (λW=>bw.2 ⟨rfl,by decide,by decide⟩) λh5 n5=>?_;refine fin h5 _ (n5.re λq=>by rw[fy,hcd]) ?_ ?_ ?_ ?_ ?_ ?_ ?_;all_goals simp
  rw[if_neg c2]at hcd;refine bf (by simp[c2]) ?_;simp;have e:lp.set (k+1) (iu s m (k+1))=lp:=by rw[hcd];exact Kv (p2.zero (k+1) V4) V4
  refine fin h4 _ (n4.re λq=>by rw[e]) ?_ ?_ ?_ ?_ ?_ ?_ ?_;all_goals simp
 rintro _ h2 x2;have e:n-1+1=n:=by omega
 have:=hQ h2 x2;simpa[e]using this
section
variable {s:List Int} {M:Nat} {vs:Value} {W0:View} {h:Heap} {o0:Own} {m:MS}
theorem K8{a p i:Nat}(z:Sz n a p i m):I64 m.ps:=by have:=z.ps0;have:=z.ps1;constructor<;>omega
variable{vd va:Value}
theorem Mr{a p i:Nat}{r:Bool}{t:Nat}(x:Nx s M vs W0 h (o0.upd (7,0) (it T.qS va ([]:List BL))) m)(hfree:o0 (7,0)=VF)(z:Sz n a p i m)(hn:n<=100)(h0:bh [2,3,4,5,7,11,12,13,14,15,16] ρ=[(2,vr),(3,ptz M),(4,VB VC n),(5,vt),(7,vp),(11,vd),(12,VB VC t),(13,VB VC b),(14,.bool r),(15,va),(16,VB VC 0)])(hQ : ∀h' W' va,W0.le W'->Nx s M vs W' h' o0 m->SlRd W' va (kS m.f n)->Q .normal [(2,vr),(3,ptz M),(4,VB VC n),(5,vt),(7,vp),(11,vd),(12,VB VC t),(13,VB VC b),(14,.bool r),(15,va),(16,VB VC n)] h'):
  LC.wp VK (.block 10 (.loop L.au.l6)) Q ρ h:=by
 simp only[aW];refine dQ [2,3,4,5,7,11,12,13,14,15,16] (fun(va:Value) k=>[vr,ptz M,VB VC n,vt,vp,vd,VB VC t,VB VC b,.bool r,va,VB VC k]) (λva k h2=>Nx s M vs W0 h2 (o0.upd (7,0) (it T.qS va (rows (λa=>eY m.f (a:Int)) k))) m) n va
  rfl V4 h0 x (λ_ _=>rfl) (λv k h2 hk2 m=>by simp) ?_ ?_
 ·rintro va k h2 hlt x2 K2 hK2;simp only[aW];obtain⟨vb,vl,rd⟩:=x2.z.reads;simp[rd.f];refine ah V0 (zA (wo:=(k:Int)) (rd.rd (K8 z)) (by show m.blocks.length<=_;rw[z.len];omega)) ?_;rintro ur h3 ⟨hle3,hur⟩;obtain⟨W,o,g,w,f⟩:=x2;have w3:=w.own.ext hle3;have hW3:=bz (h':=h3) w.own.wle;have hur:=hur.mono (kI W h2 h3);generalize grow W h2 h3=W3 at w3 hW3 hur;refine w3.gu (k:=(7,0)) (α:=BL) (d:=eY m.f (k:Int)) ((f _ V6).trans Own.an) El.yn rfl (dx.2 hur) Vv Vv (λ_=>rfl) (λ_=>rfl) λu v' h4 w4 _=>?_;obtain⟨vb,vl,lb,bb⟩:=w.box;refine hK2 v' _ _ rfl rfl ⟨W3,_,Vz g hW3,⟨w4,w.src.mono hW3,vb,vl,lb,bb.frame λq hq=>Own.aB (by rintro rfl;simp at hq)⟩,λq hq=>?_⟩;rw[fK];unfold Own.upd;split
  ·rfl
  rename_i e;rw[f q hq,Own.aB e]
 rintro va h2 ⟨W,o,g,w,f⟩;have hk:=(f (7,0) V6).trans Own.an;obtain⟨w2,sl⟩:=w.own.freeze hk;have hWp:=iI (h:=h2) (w.own.av _ _ hk);obtain⟨vb,vl,lb,bb⟩:=w.box;refine hQ h2 _ va (Vz g hWp) ⟨_,_,View.le_refl _,⟨w2,w.src.mono hWp,vb,vl,lb,bb.frame λq hq=>Own.aB (by rintro rfl;simp at hq)⟩,λq hq=>?_⟩ sl;by_cases e:q=(7,0)
 ·rw[e,Own.an,hfree]
 rw[Own.aB e,f q hq,Own.aB e]
variable{dn:BL}{away:List BL}
theorem ML{r:Bool}{t:Nat}(sd:SlRd (vw h) vd dn)(sa:SlRd (vw h) va away)(hb:b<n)(hdn:dn.length=n)(hal:away.length=n)(har : ∀i,i<n->(nth away i).length=n)(hn:n<=100)(h0:bh [2,3,4,5,7,11,12,13,14,15,17] ρ=[(2,vr),(3,ptz M),(4,VB VC n),(5,vt),(7,vp),(11,vd),(12,VB VC t),(13,VB VC b),(14,.bool r),(15,va),(17,VB VC 0)])(hQ:Q .normal [(2,vr),(3,ptz M),(4,VB VC n),(5,vt),(7,vp),(11,vd),(12,VB VC t),(13,VB VC b),(14,.bool (up (λa r=>r&&(decide (a=b)||nth dn a||nth (nth away a) b)) n r)),(15,va),(17,VB VC n)] h):
  LC.wp VK (.block 12 (.loop L.au.l7)) Q ρ h:=by
 simp only[aW];refine dQ [2,3,4,5,7,11,12,13,14,15,17] (fun(r:Bool) k=>[vr,ptz M,VB VC n,vt,vp,vd,VB VC t,VB VC b,.bool r,va,VB VC k]) (λr2 k h2=>h2=h/\r2=up (λa r=>r&&(decide (a=b)||nth dn a||nth (nth away a) b)) k r) n r
  rfl V4 h0 ⟨rfl,rfl⟩ (λ_ _=>rfl) (λv k h2 hk2 m=>by simp) ?_ ?_
 ·rintro r2 k h2 hlt ⟨rfl,hr2⟩ K2 hK2;have e:up (λa r=>r&&(decide (a=b)||nth dn a||nth (nth away a) b)) (k+1) r=(r2&&(decide (k=b)||nth dn k||nth (nth away k) b)):=by rw[hr2];rfl
  rw[e]at hK2;clear e hr2;obtain⟨rv,hrv⟩:=sa.rows;obtain⟨ha1,ha2⟩:=hrv k V4;have hl:=har k hlt;have hkb : ∀{A:Type},True:=trivial;simp only[aW];cases r2 with
  | false=>simp;exact hK2 VJ _ _ rfl rfl ⟨rfl,rfl⟩
  | true=>
   by_cases c:k=b
   ·subst c;simp;exact hK2 VI _ _ rfl rfl ⟨rfl,by simp⟩
   have c':¬((k:Int)=(b:Int)):=by omega
   cases hd:nth dn k with
   | true=>simp(disch:=omega)[c,c',sd.idx1 rfl,sd.bool Vy,hd];exact hK2 VI _ _ rfl rfl ⟨rfl,by simp[hd]⟩
   | false=>simp(disch:=omega)[c,c',sd.idx1 rfl,sd.bool Vy,hd,sa.idx1 rfl,ha1 _ Vy,ha2.idx1 rfl,ha2.bool Vy];exact hK2 _ _ _ rfl rfl ⟨rfl,by simp[hd,c]⟩
 rintro r2 h2 ⟨rfl,rfl⟩;exact hQ
end
def MS.dv (m:MS) (l:List Int):MS:={ m with live:=l }
section
variable {s:List Int} {M:Nat} {vs:Value} {W0:View} {h:Heap} {o0:Own} {m:MS}
variable{vb vl:Value}{ty2:TypeId}
theorem Mk.Cf{po2:OP}{o:Own}(w:Mk s M vs W h o m){lb:List BlkM}(bb:MkB M vs m o vb vl lb){l2:List Int}{u:Value}{x y c1 c2:Operand}{us2:Value->List (Nat × Value)}{K:Value->Value->Heap->Prop}(src:SrcT (vw h) W u l2)(hl:m.live.length+l2.length<=1000000)(hx:asg us x=vl)(hy:asg us y=u)(hc1 : ∀v,asg (us2 v) c1 = VH (VE ⟨M,5,VF⟩))(hc2 : ∀v,asg (us2 v) c2=v)(hK : ∀v h' o',Mk s M vs W h' o' (m.dv (m.live++l2))->(∀k:Key,3<=k.1->o' k=o k)->K v undef h'):
  @Lft.step po VK (.call ⟨.builtin .append,#[x,y],#[T.aY,T.aY]⟩) ty us h λv h2=>@Lft.step po2 VK (.store T.aY c1 c2) ty2 (us2 v) h2 λw h3=>K v w h3:=by
 refine w.own.dd (k:=(0,1)) (α:=Int) (v:=vl) (l:=m.live) (l2:=l2) bb.live El.aY hx hy src V4 V4 λv h2 w2 _=>?_;have hv:=(w2.cells (k:=(0,1)) Own.an).2;refine w2.dS (k:=(0,0)) (n:=5) (i:=5) (e:=T.bC) (B:=M) (l:=mkL vs m.at_ m.ps vb m.next vl) ((Own.aB V5).trans bb.box) V6 V0 (hc1 v) (hc2 v) hv λh3 w3 _=>?_;refine hK v h3 _ ⟨w3,w.src,vb,v,lb,⟨rfl,rfl,(Own.aB V5).trans ((Own.aB V5).trans bb.blk),bb.len,bb.term,λi hi=>?_,λi hi=>?_⟩⟩ λk hk=>?_
 ·exact(Own.aB V5).trans ((Own.aB V5).trans (bb.phis i hi))
 ·exact(Own.aB V5).trans ((Own.aB V5).trans (bb.ins i hi))
 rw[Own.aB (by rintro rfl;simp at hk),Own.aB (by rintro rfl;simp at hk)]
variable{vd va:Value}
theorem Mi{a p i c:Nat}{r:Bool}{t:Nat}(x:Nx s M vs W0 h o0 (m.dv []))(z:Sz n a p i m)(hc:m.ps=c)(h0:bh [2,3,4,5,7,11,12,13,15,18] ρ=[(2,vr),(3,ptz M),(4,VB VC n),(5,vt),(7,vp),(11,vd),(12,VB VC t),(13,VB VC b),(15,va),(18,VB VC 0)])(hQ : ∀h',Nx s M vs W0 h' o0 (m.dv (rows (λi=>(i:Int)) c))->Q .normal [(2,vr),(3,ptz M),(4,VB VC n),(5,vt),(7,vp),(11,vd),(12,VB VC t),(13,VB VC b),(15,va),(18,VB VC c)] h'):
  LC.wp VK (.block 14 (.loop L.au.l8)) Q ρ h:=by
 have hc4:c<=4:=by have:=z.ps1;omega
 simp only[aW];refine dQ [2,3,4,5,7,11,12,13,15,18] (fun(_:Unit) k=>[vr,ptz M,VB VC n,vt,vp,vd,VB VC t,VB VC b,va,VB VC k]) (λ_ k h2=>Nx s M vs W0 h2 o0 (m.dv (rows (λi=>(i:Int)) k))) c ()
  rfl V4 h0 x (λ_ _=>rfl) (λv k h2 hk2 x2=>by obtain⟨vb,vl,rd⟩:=x2.z.reads;have e:(m.dv (rows (λi=>(i:Int)) k)).ps=c:=hc;simp[rd.ps,e]) ?_ ?_
 ·rintro _ k h2 hlt x2 K2 hK2;obtain⟨W,o,g,w,f⟩:=x2;obtain⟨vb,vl,lb,bb⟩:=w.box;have rd:=w.reads bb;simp only[aW];simp[rd.cl];refine lT (α:=Int) (W:=W) (d:=(k:Int)) El.aY rfl (bw.2 ⟨rfl,by constructor<;>omega⟩) λu5 h5 src hle5 hs5=>?_;have w5:Mk s M vs W h5 o (m.dv (rows (λi=>(i:Int)) k)):=⟨w.own.ext' hle5,w.src,w.box⟩;refine w5.Cf bb src (by show(rows _ k).length+1<=_;simp;omega) rfl rfl (λ_=>rfl) (λ_=>rfl) λv h6 o6 w6 f6=>?_;refine hK2 () _ _ rfl rfl ⟨W,o6,g,?_,λk hk=>(f6 k hk).trans (f k hk)⟩;rw[fK];exact w6
 rintro _ h2 x2;exact hQ h2 x2
theorem JM{a p i ai:Nat}{t:Nat}{lv:List Int}(x:Nx s M vs W0 h o0 (m.dv lv))(z:Sz n a p i m)(hai:ai<n)(hn:n<=100)(hl:lv.length<=100000)(hp:p<=100000)(h0:bh [2,3,4,5,7,11,12,13,15,19,20] ρ=[(2,vr),(3,ptz M),(4,VB VC n),(5,vt),(7,vp),(11,vd),(12,VB VC t),(13,VB VC b),(15,va),(19,VB VC ai),(20,VB VC 0)])(hQ : ∀h':Heap,Nx s M vs W0 h' o0 (m.dv (lv++(nth m.blocks ai).phis.map PhiD.dst))->Q .normal [(2,vr),(3,ptz M),(4,VB VC n),(5,vt),(7,vp),(11,vd),(12,VB VC t),(13,VB VC b),(15,va),(19,VB VC ai),(20,VB VC (nth m.blocks ai).phis.length)] h'):
  LC.wp VK (.block 18 (.loop L.au.l10)) Q ρ h:=by
 have hpl:=z.phis ai;have hlen:ai<m.blocks.length:=by rw[z.len];exact hai
 simp only[aW];have read : ∀{h2:Heap} {lv2:List Int} {vb vl:Value},Reads M (m.dv lv2) h2 vb vl->∃vph,ao (vw h2) (((slA vb).add (ai*6)).add 0)=VE vph/\SlRd (vw h2) vph (nth m.blocks ai).phis/\Bn.ev (.idx 6) vb (VB VC ai)=VE (VH (VE ((slA vb).add (ai*6)))):=by intro h2 lv2 vb vl rd;have hb:=rd.blk;have hl2:ai<(m.dv lv2).blocks.length:=hlen;obtain⟨vph,h1⟩:=((hb.at hl2).part BlkD.uE).sl;have h2:=h1.2;have e:(m.dv lv2).blocks[ai]=nth m.blocks ai:=(ay hl2).symm;rw[e]at h2;exact⟨vph,h1.1,h2,by have:=hb.idxn (N:=6) rfl (k:=.i64) (i:=ai) V4 V4;simpa using this⟩
 refine dQ [2,3,4,5,7,11,12,13,15,19,20] (fun(_:Unit) k=>[vr,ptz M,VB VC n,vt,vp,vd,VB VC t,VB VC b,va,VB VC ai,VB VC k]) (λ_ k h2=>Nx s M vs W0 h2 o0 (m.dv (lv++((nth m.blocks ai).phis.take k).map PhiD.dst))) (nth m.blocks ai).phis.length ()
  rfl V4 h0 (by simpa using x) (λ_ _=>rfl) (λv k h2 hk2 x2=>by obtain⟨vb,vl,rd⟩:=x2.z.reads;obtain⟨vph,r1,r2,r3⟩:=read rd;simp[rd.cb,r3,r1,r2.len]) ?_ ?_
 ·rintro _ k h2 hlt x2 K2 hK2;obtain⟨W,o,g,w,f⟩:=x2;obtain⟨vb,vl,lb,bb⟩:=w.box;have rd:=w.reads bb;obtain⟨vph,r1,r2,r3⟩:=read rd;have r4:ao (vw h2) (((slA vph).add (k*2)).add 0)=VE (VB VC (nth m.blocks ai).phis[k].dst):=((r2.at hlt).part PhiD.iT).int;have i64:=((r2.at hlt).part PhiD.iT).rng;have r5:Bn.ev (.idx 2) vph (VB VC k)=VE (VH (VE ((slA vph).add (k*2)))):=by have:=r2.idxn (N:=2) rfl (k:=.i64) (i:=k) V4 V4;simpa using this
  simp only[aW];refine aQ (vw h2) Vy ?_;simp[rd.cl,rd.cb,r3,r1,r4,r5];refine lT (α:=Int) (W:=W) (d:=(nth m.blocks ai).phis[k].dst) El.aY rfl (bw.2 ⟨rfl,i64⟩) λu5 h5 src hle5 hs5=>⟨hle5,?_⟩;have w5:Mk s M vs W h5 o (m.dv (lv++((nth m.blocks ai).phis.take k).map PhiD.dst)):=⟨w.own.ext' hle5,w.src,w.box⟩;refine w5.Cf bb src (by show(lv++_).length+1<=_;simp;omega) rfl rfl (λ_=>rfl) (λ_=>rfl) λv h6 o6 w6 f6=>?_;refine hK2 () _ _ rfl rfl ⟨W,o6,g,?_,λk hk=>(f6 k hk).trans (f k hk)⟩;rw[Se hlt,Tw,<-List.append_assoc];exact w6
 rintro _ h2 x2;rw[SD]at x2;exact hQ h2 x2
end
theorem Ex{l:List InsD}:(l.flatMap bg).length<=2*l.length:=by
 induction l with
 | nil=>simp
 | cons a l ih=>
  have:(bg a).length<=2:=by
   unfold bg;repeat' split
   all_goals simp
  simp only[TC,RZ,SP];omega
section
variable {s:List Int} {M:Nat} {vs:Value} {W0:View} {h:Heap} {o0:Own} {m:MS}
variable{vd va:Value}
theorem Kk{a p i ai:Nat}{t:Nat}{lv:List Int}(x:Nx s M vs W0 h o0 (m.dv lv))(z:Sz n a p i m)(hai:ai<n)(hn:n<=100)(hl:lv.length<=100000)(hi:i<=100000)(h0:bh [2,3,4,5,7,11,12,13,15,19,21] ρ=[(2,vr),(3,ptz M),(4,VB VC n),(5,vt),(7,vp),(11,vd),(12,VB VC t),(13,VB VC b),(15,va),(19,VB VC ai),(21,VB VC 0)])(hQ : ∀h':Heap,Nx s M vs W0 h' o0 (m.dv (lv++(nth m.blocks ai).ins.flatMap bg))->Q .normal [(2,vr),(3,ptz M),(4,VB VC n),(5,vt),(7,vp),(11,vd),(12,VB VC t),(13,VB VC b),(15,va),(19,VB VC ai),(21,VB VC (nth m.blocks ai).ins.length)] h'):
  LC.wp VK (.block 20 (.loop L.au.l11)) Q ρ h:=by
 have hil:=z.ins ai;have hlen:ai<m.blocks.length:=by rw[z.len];exact hai
 simp only[aW];have read : ∀{h2:Heap} {lv2:List Int} {vb vl:Value},Reads M (m.dv lv2) h2 vb vl->∃vi,ao (vw h2) (((slA vb).add (ai*6)).add 1)=VE vi/\SlRd (vw h2) vi (nth m.blocks ai).ins/\Bn.ev (.idx 6) vb (VB VC ai)=VE (VH (VE ((slA vb).add (ai*6)))):=by intro h2 lv2 vb vl rd;have hb:=rd.blk;have hl2:ai<(m.dv lv2).blocks.length:=hlen;obtain⟨vi,h1⟩:=((hb.at hl2).part BlkD.jS).sl;have h2:=h1.2;have e:(m.dv lv2).blocks[ai]=nth m.blocks ai:=(ay hl2).symm;rw[e]at h2;exact⟨vi,h1.1,h2,by have:=hb.idxn (N:=6) rfl (k:=.i64) (i:=ai) V4 V4;simpa using this⟩
 refine dQ [2,3,4,5,7,11,12,13,15,19,21] (fun(_:Unit) k=>[vr,ptz M,VB VC n,vt,vp,vd,VB VC t,VB VC b,va,VB VC ai,VB VC k]) (λ_ k h2=>Nx s M vs W0 h2 o0 (m.dv (lv++((nth m.blocks ai).ins.take k).flatMap bg))) (nth m.blocks ai).ins.length ()
  rfl V4 h0 (by simpa using x) (λ_ _=>rfl) (λv k h2 hk2 x2=>by obtain⟨vb,vl,rd⟩:=x2.z.reads;obtain⟨vi,r1,r2,r3⟩:=read rd;simp[rd.cb,r3,r1,r2.len]) ?_ ?_
 ·rintro _ k h2 hlt x2 K2 hK2;obtain⟨vb,vl,rd⟩:=x2.z.reads;obtain⟨vi,r1,r2,r3⟩:=read rd;obtain⟨ux,hux,huxr⟩:=r2.wh rfl (N:=5) rfl hlt;have r5:Bn.ev (.idx 5) vi (VB VC k)=VE (VH (VE ((slA vi).add (k*5)))):=by have:=r2.idxn (N:=5) rfl (k:=.i64) (i:=k) V4 V4;simpa using this
  simp only[aW];refine aa λy hy=>?_;simp[rd.cb,r3,r1,r5,hux _ Vy];refine ah V0 (rS huxr) ?_;rintro um h3 ⟨hle3,hum,-⟩;clear rd r1 r2 r3 r5 hux;obtain⟨W,o,g,w,f⟩:=x2;have w3:=w.own.ext hle3;have hW3:=bz (h':=h3) w.own.wle;have hum:=hum.mono (kI W h2 h3);generalize grow W h2 h3=W3 at w3 hW3 hum;have w4:Mk s M vs W3 h3 o (m.dv (lv++((nth m.blocks ai).ins.take k).flatMap bg)):=⟨w3,w.src.mono hW3,w.box⟩;obtain⟨vb,vl,lb,bb⟩:=w4.box;have rd:=w4.reads bb;subst hy;simp[rd.cl];have hfl:=Ex (l:=(nth m.blocks ai).ins.take k);have hml:(bg (nth (nth m.blocks ai).ins k)).length<=2:=by
   unfold bg;repeat' split
   all_goals simp
  refine w4.Cf bb (hum.src w3.wle) (by show(lv++_).length+_<=_;simp at hfl ⊢;omega) rfl rfl (λ_=>rfl) (λ_=>rfl) λv h6 o6 w6 f6=>?_;refine hK2 () _ _ rfl rfl ⟨W3,o6,Vz g hW3,?_,λk hk=>(f6 k hk).trans (f k hk)⟩;rw[Se hlt,Tm,List.flatMap_singleton,<-List.append_assoc,<-ay hlt];exact w6
 rintro _ h2 x2;rw[SD]at x2;exact hQ h2 x2
variable{dn:BL}{away:List BL}
theorem Ie{a p i:Nat}(z:Sz n a p i m){ai:Nat}{l:List Int}:(gTq m dn away b ai l).length<=l.length+p+2*i:=by
 unfold gTq;split
 ·omega
 have h1:=z.phis ai;have h2:=z.ins ai;have h3:=Ex (l:=(nth m.blocks ai).ins);simp only[RZ,TF];omega
theorem qF {n a p i:Nat} (z:Sz n a p i m) {dn:BL} {away:List BL} {b:Nat} {l:List Int} : ∀k,(up (gTq m dn away b) k l).length<=l.length+(p+2*i)*k
 | 0=>RQ _
 | k+1=>by have:=qF z (dn:=dn) (away:=away) (b:=b) (l:=l) k;have h2:=Ie z (dn:=dn) (away:=away) (b:=b) (ai:=k) (l:=up (gTq m dn away b) k l);show(gTq m dn away b k (up (gTq m dn away b) k l)).length<=_;rw[Ug];omega
theorem NI{a p i:Nat}{t:Nat}{l0:List Int}(x:Nx s M vs W0 h o0 (m.dv l0))(z:Sz n a p i m)(hd:o0 (6,0)=it T.bool vd dn)(sa:SlRd W0 va away)(hb:b<n)(hdn:dn.length=n)(hal:away.length=n)(har : ∀i,i<n->(nth away i).length=n)(hn:n<=10)(hl:l0.length<=10)(hp:p<=1000)(hi:i<=3000)(h0:bh [2,3,4,5,7,11,12,13,15,19] ρ=[(2,vr),(3,ptz M),(4,VB VC n),(5,vt),(7,vp),(11,vd),(12,VB VC t),(13,VB VC b),(15,va),(19,VB VC 0)])(hQ : ∀h':Heap,Nx s M vs W0 h' o0 (m.dv (up (gTq m dn away b) n l0))->Q .normal [(2,vr),(3,ptz M),(4,VB VC n),(5,vt),(7,vp),(11,vd),(12,VB VC t),(13,VB VC b),(15,va),(19,VB VC n)] h'):
  LC.wp VK (.block 16 (.loop L.au.l9)) Q ρ h:=by
 simp only[aW];refine dQ [2,3,4,5,7,11,12,13,15,19] (fun(_:Unit) k=>[vr,ptz M,VB VC n,vt,vp,vd,VB VC t,VB VC b,va,VB VC k]) (λ_ k h2=>Nx s M vs W0 h2 o0 (m.dv (up (gTq m dn away b) k l0))) n ()
  rfl V4 h0 x (λ_ _=>rfl) (λv k h2 hk2 x2=>by simp) ?_ ?_
 ·rintro _ k h2 hlt x2 K2 hK2;have e2:up (gTq m dn away b) (k+1) l0=gTq m dn away b k (up (gTq m dn away b) k l0):=rfl;rw[e2]at hK2;have hll:=qF z (dn:=dn) (away:=away) (b:=b) (l:=l0) k;have hll:(up (gTq m dn away b) k l0).length<=80000:=by have:(p+2*i)*k<=7000*10:=T7 V4 V4;omega
  generalize up (gTq m dn away b) k l0=lv at x2 hK2 hll;have hla:gTq m dn away b k lv=_:=gTq.eq_1 m dn away b k lv;have sd:=x2.z.at V6 hd;have sa2:=sa.mono x2.z.le;obtain⟨rv,hrv⟩:=sa2.rows;obtain⟨ha1,ha2⟩:=hrv k V4;have hal2:=har k hlt;simp only[aW];refine aa λy hy=>?_;have fin : ∀ρ,Lft.look ρ 2=VE vr->Lft.look ρ 3=VE (ptz M)->Lft.look ρ 4=VE (VB VC n)->Lft.look ρ 5=VE vt->Lft.look ρ 7=VE vp->Lft.look ρ 11=VE vd->Lft.look ρ 12=VE (VB VC t)->Lft.look ρ 13=VE (VB VC b)->Lft.look ρ 15=VE va->Lft.look ρ 19=VE (VB VC k)->(decide (k≠b)&&(!nth dn k||nth (nth away k) b))=VJ->
    LC.wp VK y (eZ 17 (fM K2 (eZ 16 Q))) ρ h2:=by
   intro ρ r2 r3 r4 r5 r7 r11 r12 r13 r15 r19 hc;subst hy;rw[if_neg (by rw[hc];simp)]at hla;refine aa λy hy=>?_;refine aa λw hw=>?_;simp;subst hw;refine JM (vr:=vr) (vt:=vt) (vp:=vp) (vd:=vd) (va:=va) (t:=t) (b:=b) (ai:=k) x2 z hlt V4 V4 V4 ?_ λh3 x3=>?_
   ·simp[bh,af,ag,r2,r3,r4,r5,r7,r11,r12,r13,r15,r19]
   simp;subst hy;refine aa λw hw=>?_;simp;subst hw;have hph:=z.phis k;refine Kk (vr:=vr) (vt:=vt) (vp:=vp) (vd:=vd) (va:=va) (t:=t) (b:=b) (ai:=k) x3 z hlt V4 Vv V4 ?_ λh4 x4=>?_
   ·simp[bh,af,ag]
   simp;refine hK2 () _ _ rfl rfl (by rw[hla];exact x4)
  refine aa λw hw=>?_;by_cases c:k=b
  ·subst c;simp;subst hw;refine bf V5 ?_;simp;refine fin _ ?_ ?_ ?_ ?_ ?_ ?_ ?_ ?_ ?_ ?_ V5;all_goals simp
  have c':¬((k:Int)=(b:Int)):=by omega
  cases hd2:nth dn k with
  | false=>simp(disch:=omega)[c,c',sd.idx1 rfl,sd.bool Vy,hd2];subst hw;refine aT V5 ?_;simp;refine hK2 () _ _ rfl rfl ?_;rw[if_pos (by simp[c,hd2])]at hla;rw[hla];exact x2
  | true=>
   simp(disch:=omega)[c,c',sd.idx1 rfl,sd.bool Vy,hd2,sa2.idx1 rfl,ha1 _ Vy,ha2.idx1 rfl,ha2.bool Vy];subst hw;cases hw2:nth (nth away k) b with
   | true=>refine aT (by simp[hw2]) ?_;simp;refine hK2 () _ _ rfl rfl ?_;rw[if_pos (by simp[c,hd2,hw2])]at hla;rw[hla];exact x2
   | false=>refine bf (by simp[hw2]) ?_;simp;refine fin _ ?_ ?_ ?_ ?_ ?_ ?_ ?_ ?_ ?_ ?_ (by simp[c,hd2,hw2]);all_goals simp
 rintro _ h2 x2;exact hQ h2 x2
end
structure B2 (n a p:Nat) (x:BL × MS):Prop where
 z:Sz n a p 700 x.2
 len:x.1.length=n
 none : ∀j,j<n->nth x.1 j=VJ->(nth x.2.blocks j).ins.length=0
variable{dn:BL}{away:List BL}
theorem A0{a p:Nat}{m:MS}(z:Sz n a p 700 m)(hn:n<=10)(hp:p<=100):(nh m dn away b n).length<=15100:=by have:=qF z (dn:=dn) (away:=away) (b:=b) (l:=rows (λi=>(i:Int)) m.ps.toNat) n;rw[qd]at this;have h2:(p+2*700)*n<=1500*10:=T7 V4 hn;have:=z.ps1;unfold nh;omega
theorem sB{m:MS}{j:Nat}{t:de}(hb:b<m.blocks.length):nth (m.fB b t).blocks j=if b=j then{ nth m.blocks b with term:=t } else nth m.blocks j:=by
 show nth (m.blocks.set b _) j=_;rcases RX j m.blocks.length with hl | hl
 ·rw[bj hl]
 rw[bH (by simpa using hl),bH hl,if_neg V4]
theorem GG{s:List Int}{a p:Nat}{m:MS}(z:Sz n a p 700 m)(hb:b<n)(h0:(nth m.blocks b).ins.length=0)(hn:n<=10)(hp:p<=100)(ha:16000<=a):
  Sz n (a+600) p 700 (jJ s to n dn away b m)/\∀j,j≠b->(nth (jJ s to n dn away b m).blocks j).ins=(nth m.blocks j).ins:=by
 have hll:=A0 (dn:=dn) (away:=away) (b:=b) z hn hp;have ht:=bT (s:=s) (at_:=m.at_) (n:=7) V6;have hbl:b<m.blocks.length:=by rw[z.len];exact hb
 obtain⟨m1,hm1⟩ : ∃m1:MS,m1=MS.took { m with live:=nh m dn away b n }:=⟨_,rfl⟩;have z1:Sz n (a+1) p 700 m1:=by rw[hm1];exact Sz.took ⟨z.at_,z.n0,z.next,by show(nh m dn away b n).length<=_;omega,z.ps0,z.ps1,z.len,z.phis,z.ins⟩
 have hl1:m1.live.length<=15100:=by rw[hm1];exact hll
 have e1 : ∀j,nth m1.blocks j=nth m.blocks j:=λj=>by rw[hm1];rfl
 have hb1:b<m1.blocks.length:=by rw[z1.len];exact hb
 have g:=((Grw.refl (b:=b) (m:=m1)).eV (s:=s) hb1 (aH s m.at_ 7).toNat).Ky (s:=s) (to:=nth to b) hb1;have g:=g.mono (l:=520) V4;have e:jJ s to n dn away b m=py s (nth to b) b (up (λ_=>aN s b) (aH s m.at_ 7).toNat m1):=by rw[hm1];rfl
 rw[e];unfold py;generalize e9 s (nth to b) b (up (λ_=>aN s b) (aH s m.at_ 7).toNat m1)=r at g;have hbr:b<r.2.blocks.length:=by rw[g.len];exact hb1
 have hown:=g.ins;rw[e1,h0]at hown;refine⟨⟨?_,?_,?_,?_,?_,?_,?_,λj=>?_,λj=>?_⟩,λj hj=>?_⟩
 ·show r.2.at_<=_;have:=g.at1;have:=z1.at_;omega
 ·show 0<=r.2.next;have:=g.n0;have:=z1.n0;omega
 ·show r.2.next<=_;have:=g.n1;have:=z1.next;omega
 ·show r.2.live.length<=_;have:=g.live;omega
 ·show 0<=r.2.ps;rw[g.ps];exact z1.ps0
 ·show r.2.ps<=4;rw[g.ps];exact z1.ps1
 ·show(r.2.blocks.set b _).length=n;rw[Sv,g.len];exact z1.len
 ·rw[sB hbr];split
  ·rename_i e;subst e;show(nth r.2.blocks b).phis.length<=_;rw[g.phis];exact z1.phis b
  rename_i e;rw[g.els j (λq=>e q.symm)];exact z1.phis j
 ·rw[sB hbr];split
  ·rename_i e;subst e;show(nth r.2.blocks b).ins.length<=_;omega
  rename_i e;rw[g.els j (λq=>e q.symm)];exact z1.ins j
 rw[sB hbr,if_neg (λq=>hj q.symm),g.els j hj,e1]
theorem uk{s:List Int}{a p:Nat}{x:BL × MS}(q:B2 n a p x)(hb:b<n)(hn:n<=10)(hp:p<=100)(ha:16000<=a)(h0:qO x.1 (kS x.2.f n) b n=VI->nth x.1 b=VJ):B2 n (a+600) p (bo s to n b x):=by
 unfold bo;split
 ·rename_i hr;obtain⟨z2,e2⟩:=GG (s:=s) (to:=to) (dn:=x.1.set b VI) (away:=kS x.2.f n) q.z hb (q.none b hb (h0 hr)) hn hp ha;refine⟨z2,by show(x.1.set b VI).length=n;rw[Sv];exact q.len,λj hj h=>?_⟩;have h:nth (x.1.set b VI) j=false:=h;rw[bj (by rw[q.len];exact hj)]at h;split at h
  ·cases h
  rename_i e;show(nth (jJ _ _ _ _ _ _ _).blocks j).ins.length=0;rw[e2 j (λr=>e r.symm)];exact q.none j hj h
 exact⟨q.z.mono V4 (RQ _) (RQ _),q.len,q.none⟩
theorem KQ {f:Nat->Bool} : ∀(n:Nat) (r:Bool),up (λa r=>r&&f a) n r=VI->r=VI
 | 0,r,h=>h
 | n+1,r,h=>by have h:(up (λa r=>r&&f a) n r&&f n)=true:=h;simp only[RV]at h;exact KQ n r h.1
theorem pE(h:qO dn away b n=VI):nth dn b=false:=by unfold qO at h;have:=KQ _ _ h;simpa using this
section
variable {s:List Int} {M:Nat} {vs:Value} {W0:View} {h:Heap} {o0:Own} {m:MS}
variable{vd va:Value}
theorem Jz{k c:Nat}{t:Nat}(x:Nx s M vs W0 h o0 m)(hfree:o0 (9,0)=VF)(hm:m.ok c)(hc:c<=100000)(hk:k<=100)(hb:b<m.blocks.length)(h0:bh [2,3,4,5,7,11,12,13,15,23,24] ρ=[(2,vr),(3,ptz M),(4,VB VC n),(5,vt),(7,vp),(11,vd),(12,VB VC t),(13,VB VC b),(15,va),(23,VB VC k),(24,VB VC 0)])(hQ : ∀h':Heap,Nx s M vs W0 h' o0 (up (λ_=>aN s b) k m)->Q .normal [(2,vr),(3,ptz M),(4,VB VC n),(5,vt),(7,vp),(11,vd),(12,VB VC t),(13,VB VC b),(15,va),(23,VB VC k),(24,VB VC k)] h'):
  LC.wp VK (.block 22 (.loop L.au.l12)) Q ρ h:=by
 have oks : ∀j,(up (λ_=>aN s b) j m).ok (c+80*j)/\(up (λ_=>aN s b) j m).blocks.length=m.blocks.length:=by
  intro j;induction j with
  | zero=>exact⟨hm,rfl⟩
  | succ j ih=>exact⟨(ih.1.ij (s:=s) (b:=b)).mono V4,(qZ (s:=s) (b:=b)).trans ih.2⟩
 simp only[aW];refine dQ [2,3,4,5,7,11,12,13,15,23,24] (fun(_:Unit) j=>[vr,ptz M,VB VC n,vt,vp,vd,VB VC t,VB VC b,va,VB VC k,VB VC j]) (λ_ j h2=>Nx s M vs W0 h2 o0 (up (λ_=>aN s b) j m)) k ()
  rfl V4 h0 x (λ_ _=>rfl) (λv k h2 hk2 x2=>by simp) ?_ ?_
 ·rintro _ j h2 hlt x2 K2 hK2;obtain⟨q1,q2⟩:=oks j;have e2:up (λ_=>aN s b) (j+1) m=aN s b (up (λ_=>aN s b) j m):=rfl;rw[e2]at hK2;generalize up (λ_=>aN s b) j m=m2 at x2 hK2 q1 q2;simp only[aW];simp;refine ah V0 (An x2 (b:=b) V4 q1 V4 hfree) ?_;rintro _ h3 x3;exact hK2 () _ _ rfl rfl x3
 rintro _ h2 x2;exact hQ h2 x2
end
theorem Nx.up{s:List Int}{h:Heap}{m:MS}(x:Nx s M vs W h o0 m)(hW:W0.le W):Nx s M vs W0 h o0 m:=by obtain⟨W',o,g,w,f⟩:=x;exact⟨W',o,Vz hW g,w,f⟩
theorem Nx.re{s:List Int}{h:Heap}{o0':Own}{m:MS}(x:Nx s M vs W h o0 m)(he : ∀k,o0' k=o0 k):Nx s M vs W h o0' m:=by obtain⟨W',o,g,w,f⟩:=x;exact⟨W',o,g,w,λk hk=>(f k hk).trans (he k).symm⟩
theorem Nx.kf {po:OP} {s:List Int} {M:Nat} {vs:Value} {W0:View} {h:Heap} {o0:Own} {m:MS} {α:Type} [r:Rep α] {ty e t:TypeId} {us:List (Nat × Value)} {k:Key} {bytes:Nat} {z:Value} {K:Value->Heap->Prop} (x:Nx s M vs W0 h o0 m) (h3:3<=k.1) (hk:o0 k=VF) (hT:eS VK t e (Rep.n α) bytes z)
  (hK : ∀v h',v.oneCell'=VI->Nx s M vs W0 h' (o0.upd k (it e v ([]:List α))) m->K v h'):@Lft.step po VK (.buildSlice t 0 #[]) ty us h K:=by
 obtain⟨W,o,g,w,f⟩:=x;refine w.own.kf (k:=k) (α:=α) ((f k h3).trans hk) hT λv h2 hle2 hv w2 _=>hK v h2 hv ?_;obtain⟨vb,vl,lb,bb⟩:=w.box;refine⟨W,_,g,⟨w2,w.src,vb,vl,lb,bb.frame λq hq=>Own.aB (by rintro rfl;omega)⟩,λq hq=>?_⟩;unfold Own.upd;split
 ·rfl
 exact f q hq
variable{ty2:TypeId}
theorem Nx.KT{po2:OP}{s:List Int}{h:Heap}{m:MS}{us2:Value->List (Nat × Value)}{c1 c2:Operand}{K:Value->Value->Heap->Prop}(x:Nx s M vs W0 h o0 m)(hc1 : ∀v,asg (us2 v) c1 = VH (VE ⟨M,5,VF⟩))(hc2 : ∀v,asg (us2 v) c2=v)(hK : ∀v h',Nx s M vs W0 h' o0 (m.dv [])->K v undef h'):@Lft.step po VK (.buildSlice T.aY 0 #[]) ty us h λv h2=>@Lft.step po2 VK (.store T.aY c1 c2) ty2 (us2 v) h2 λw h3=>K v w h3:=by
 obtain⟨W,o,g,w,f⟩:=x;obtain⟨vb,vl,lb,bb⟩:=w.box;have w1:=w.own.sub (o':=o.upd (0,1) VF) λj i hj=>by
  unfold Own.upd at hj;split at hj
  ·cases hj
  exact hj
 refine w1.kf (k:=(0,1)) (α:=Int) Own.an El.aY λv h2 hle2 hv w2 _=>?_;have w2:=w2.congr (o':=o.upd (0,1) (it T.int v ([]:List Int))) λq=>by unfold Own.upd;split<;>rfl
 refine w2.dS (k:=(0,0)) (n:=5) (i:=5) (e:=T.bC) (B:=M) (l:=mkL vs m.at_ m.ps vb m.next vl) ((Own.aB V5).trans bb.box) V6 V0 (hc1 v) (hc2 v) hv λh3 w3 _=>?_;refine hK v h3 ⟨W,_,g,⟨w3,w.src,vb,v,lb,⟨rfl,rfl,(Own.aB V5).trans ((Own.aB V5).trans bb.blk),bb.len,bb.term,λi hi=>?_,λi hi=>?_⟩⟩,λk hk=>?_⟩
 ·exact(Own.aB V5).trans ((Own.aB V5).trans (bb.phis i hi))
 ·exact(Own.aB V5).trans ((Own.aB V5).trans (bb.ins i hi))
 rw[Own.aB (by rintro rfl;simp at hk),Own.aB (by rintro rfl;simp at hk)];exact f k hk
section
variable {s:List Int} {M:Nat} {vs:Value} {W0:View} {h:Heap} {o0:Own} {m:MS}
variable{vd:Value}
theorem My{a p:Nat}{t:Nat}{x0:BL × MS}(x:Nx s M vs W0 h (o0.upd (6,0) (it T.bool vd x0.1)) x0.2)(hto:SlRd W0 vt to)(htl:to.length=n)(f7:o0 (7,0)=VF)(f90:o0 (9,0)=VF)(f91:o0 (9,1)=VF)(q:B2 n a p x0)(hn:n<=10)(hp:p<=100)(ha:16000<=a)(ha2:a<=90000)(h0:bh [2,3,4,5,7,11,12,13] ρ=[(2,vr),(3,ptz M),(4,VB VC n),(5,vt),(7,vp),(11,vd),(12,VB VC t),(13,VB VC 0)])(hQ : ∀h':Heap,Nx s M vs W0 h' (o0.upd (6,0) (it T.bool vd (up (bo s to n) n x0).1)) (up (bo s to n) n x0).2->Q .normal [(2,vr),(3,ptz M),(4,VB VC n),(5,vt),(7,vp),(11,vd),(12,VB VC t),(13,VB VC n)] h'):
  LC.wp VK (.block 8 (.loop L.au.l5)) Q ρ h:=by
 have oks : ∀j,j<=n->B2 n (a+600*j) p (up (bo s to n) j x0):=by
  intro j;induction j with
  | zero=>intro _;exact q
  | succ j ih=>intro hj;have:=uk (s:=s) (to:=to) (b:=j) (ih V4) V4 hn hp V4 λh=>pE h;exact⟨this.z.mono V4 (RQ _) (RQ _),this.len,this.none⟩
 simp only[aW];refine dQ [2,3,4,5,7,11,12,13] (fun(_:Unit) j=>[vr,ptz M,VB VC n,vt,vp,vd,VB VC t,VB VC j]) (λ_ j h2=>Nx s M vs W0 h2 (o0.upd (6,0) (it T.bool vd (up (bo s to n) j x0).1)) (up (bo s to n) j x0).2) n ()
  rfl V4 h0 x (λ_ _=>rfl) (λv k h2 hk2 x2=>by simp) ?_ ?_
 ·rintro _ b h2 hlt x2 K2 hK2;have q2:=oks b V4;have e2:up (bo s to n) (b+1) x0=bo s to n b (up (bo s to n) b x0):=rfl;rw[e2]at hK2;generalize up (bo s to n) b x0=y at x2 hK2 q2;obtain⟨dn,m⟩:=y;have x2:Nx s M vs W0 h2 (o0.upd (6,0) (it T.bool vd dn)) m:=x2;have z:Sz n (a+600*b) p 700 m:=q2.z;have hdn:dn.length=n:=q2.len;have hbs:bo s to n b (dn,m)=_:=bo.eq_1 s to n b (dn,m);simp only at hbs;have sd:=x2.z.at V6 Own.an;simp only[aW];refine aa λy hy=>?_;simp(disch:=omega)[sd.idx1 rfl,sd.bool Vy];subst hy;refine aa λy hy=>?_;simp;refine x2.kf (k:=(7,0)) (α:=BL) V6 ((Own.aB V5).trans f7) El.yn λva h3 hva x3=>?_;clear sd;subst hy;refine aa λy hy=>?_;refine aa λw hw=>?_;simp;subst hw;refine Mr (vr:=vr) (vt:=vt) (vp:=vp) (vd:=vd) (t:=t) (b:=b) (r:=!nth dn b) x3 ((Own.aB V5).trans f7) z V4 (by simp[bh,af,ag]) λh4 W4 va hW4 x4 sa=>?_;clear x3 hva x2;have hal:(kS m.f n).length=n:=by unfold kS;simp
  have har : ∀i,i<n->(nth (kS m.f n) i).length=n:=λi hi=>by unfold kS;rw[gC hi,wz];exact z.len
  generalize kS m.f n=away at sa hbs hal har;simp;subst hy;refine aa λy hy=>?_;refine aa λw hw=>?_;simp;subst hw;have sd:=x4.z.at V6 Own.an;refine ML (M:=M) (n:=n) (b:=b) (vr:=vr) (vt:=vt) (vp:=vp) (vd:=vd) (va:=va) (t:=t) (r:=!nth dn b) sd (sa.mono x4.z.le) hlt hdn hal har V4 (by simp[bh,af,ag]) ?_;have hrd:up (λa r=>r&&(decide (a=b)||nth dn a||nth (nth away a) b)) n (!nth dn b)=qO dn away b n:=rfl;rw[hrd];simp;subst hy;refine aa λy hy=>?_;refine aa λw hw=>?_;simp;subst hw;cases hr:qO dn away b n with
  | false=>rw[hr]at hbs;rw[if_neg V5]at hbs;refine aT V5 ?_;simp;refine hK2 () _ _ rfl rfl ?_;rw[hbs];exact x4.up hW4
  | true=>
   rw[hr]at hbs;rw[if_pos rfl]at hbs;have hnb:=pE hr;have hib:=q2.none b hlt hnb;refine bf V5 ?_;simp;subst hy;refine aa λy hy=>?_;simp(disch:=omega)[sd.idx1 rfl];refine x4.z.Ag (k:=(6,0)) (α:=Bool) (i:=b) (d:=true) rfl V6 Own.an V4 V0 rfl rfl (λW=>qJ.2 rfl) λh5 n5=>?_;have x5:Nx s M vs W4 h5 (o0.upd (6,0) (it T.bool vd (dn.set b VI))) m:=n5.x.re λq=>by rw[fy]
   clear n5 x4 sd;subst hy;refine aa λy hy=>?_;simp;refine x5.KT (λ_=>rfl) (λ_=>rfl) λv6 h6 x6=>?_;subst hy;obtain⟨c,hc⟩ : ∃c:Nat,m.ps=c:=⟨m.ps.toNat,by have:=z.ps0;omega⟩;have hc4:c<=4:=by have:=z.ps1;omega
   refine aa λy hy=>?_;refine aa λw hw=>?_;simp;subst hw;refine Mi (n:=n) (b:=b) (vr:=vr) (vt:=vt) (vp:=vp) (vd:=vd) (va:=va) (t:=t) (r:=true) x6 z hc (by simp[bh,af,ag]) λh7 x7=>?_;simp;subst hy;refine aa λy hy=>?_;refine aa λw hw=>?_;simp;subst hw;refine NI (n:=n) (b:=b) (vr:=vr) (vt:=vt) (vp:=vp) (vd:=vd) (va:=va) (t:=t) (dn:=dn.set b VI) (away:=away) x7 z Own.an sa hlt (by rw[Sv];exact hdn) hal har hn Vv V4 V4 (by simp[bh,af,ag]) λh8 x8=>?_;have hlv:up (gTq m (dn.set b VI) away b) n (rows (λi=>(i:Int)) c)=nh m (dn.set b VI) away b n:=by unfold nh;rw[hc];rfl
   rw[hlv]at x8;have hll:=A0 (dn:=dn.set b VI) (away:=away) (b:=b) z hn hp;have hdo:jJ s to n (dn.set b VI) away b m=py s (nth to b) b (up (λ_=>aN s b) (aH s m.at_ 7).toNat (MS.took (m.dv (nh m (dn.set b VI) away b n)))):=rfl;rw[hdo]at hbs;obtain⟨m1,hm1⟩ : ∃m1,m1=m.dv (nh m (dn.set b VI) away b n):=⟨_,rfl⟩;have z1:Sz n (a+600*b) p 700 m1:=by rw[hm1];exact⟨z.at_,z.n0,z.next,by show(nh _ _ _ _ _).length<=_;omega,z.ps0,z.ps1,z.len,z.phis,z.ins⟩
   have ea:m.at_=m1.at_:=by rw[hm1];rfl
   rw[<-hm1]at x8 hbs;rw[ea]at hbs;clear hlv hdo hm1 ea x7 x6 x5;simp;subst hy;refine aa λy hy=>?_;simp;refine ah V0 (fA x8.z (z1.ok V4) V4 (k:=7) V6 V6) ?_;rintro _ h9 ⟨rfl,n9⟩;obtain⟨t0,t1⟩:=bT (s:=s) (at_:=m1.at_) (n:=7) V6;generalize aH s m1.at_ 7=kk at hbs t0 t1;obtain⟨k,rfl⟩ : ∃k:Nat,kk=k:=⟨kk.toNat,by omega⟩;rw[show((k:Int)).toNat=k by omega]at hbs;subst hy;refine aa λy hy=>?_;refine aa λw hw=>?_;simp;subst hw;have zok:=(z1.took).ok (show 700<=_ by omega);refine Jz (n:=n) (b:=b) (k:=k) (c:=a+600*b+1) (vr:=vr) (vt:=vt) (vp:=vp) (vd:=vd) (va:=va) (t:=t) n9.x ((Own.aB V5).trans f90) zok V4 V4 (by show b<m1.blocks.length;rw[z1.len];exact hlt) (by simp[bh,af,ag]) λh10 x10=>?_;have oks2 : ∀j,(up (λ_=>aN s b) j m1.took).ok (a+600*b+1+80*j)/\(up (λ_=>aN s b) j m1.took).blocks.length=n:=by
    intro j;induction j with
    | zero=>exact⟨zok,z1.len⟩
    | succ j ih=>exact⟨(ih.1.ij (s:=s) (b:=b)).mono V4,(qZ (s:=s) (b:=b)).trans ih.2⟩
   obtain⟨k1,k2⟩:=oks2 k;generalize up (λ_=>aN s b) k m1.took=m2 at x10 hbs k1 k2;obtain⟨rv,hrv⟩:=hto.rows;obtain⟨hr1,hr2⟩:=hrv b V4;have ito:=(hto.mono hW4).mono x10.z.le;simp;subst hy;simp(disch:=omega)[ito.idx1 rfl,hr1 _ (Vz hW4 x10.z.le)];refine ah V0 (Pz x10 (b:=b) V4 k1 V4 ((Own.aB V5).trans f91) (hr2.mono hW4)) ?_;rintro _ h11 x11;refine hK2 () _ _ rfl rfl ?_;rw[hbs];exact x11.up hW4
 rintro _ h2 x2;exact hQ h2 x2
end
section
structure GdB (x:BlkD):Prop where
 ins : ∀i∈x.ins,i.args.length<=10
 args:x.term.args.length<=10
 to:x.term.to.length<=1000
 phis : ∀p∈x.phis,p.ins.length<=1000
def Gd (m:MS):Prop:=∀j,j<m.blocks.length->GdB (nth m.blocks j)
variable {s:List Int} {m:MS} {b:Nat}
theorem Gd.took (g:Gd m):Gd m.took:=g
theorem Gd.aV (g:Gd m):Gd m.aV:=g
theorem Gd.iz(g:Gd m){x:BlkD}(hx:b<m.blocks.length->GdB x):Gd { m with blocks:=m.blocks.set b x }:=λj hj=>by
 have hj:j<m.blocks.length:=by simpa using hj
 show GdB (nth (m.blocks.set b x) j);rw[bj hj];split
 ·rename_i e;exact hx V4
 exact g j hj
theorem Gd.add (g:Gd m) {i:InsD} (hi:i.args.length<=10):Gd (m.add b i):=by
 have:=g.iz (b:=b) (x:={ nth m.blocks b with ins:=(nth m.blocks b).ins++[i] }) λhb=>⟨λj hj=>by
  rcases RW.1 hj with h | h
  ·exact(g b hb).ins j h
  rw[RR]at h;rw[h];exact hi,(g b hb).args,(g b hb).to,(g b hb).phis⟩;exact this
theorem Gd.constant (g:Gd m) {n:Int}:Gd (m.constant b n):=g.aV.add (by show 0<=10;omega)
theorem Gd.two (g:Gd m) {op x y:Int}:Gd (m.two b op x y):=g.aV.add (by show 2<=10;omega)
theorem Gd.aI (g:Gd m):Gd (aI s m b).2:=by
 unfold Go.Lft.aI;repeat' split
 ·exact g.took.took.constant
 ·exact g.took.took.took.took.took.constant
 exact g.took.took.took
theorem Gd.addr(g:Gd m):Gd (jQ s m b).2:=by
 unfold jQ;simp only;split
 ·exact g.took.constant.took.aI.constant.two.two
 exact g.took.constant.took
theorem Gd.off(g:Gd m):Gd (offS s m).2:=by
 unfold offS;split
 ·exact g.took.took.took.took
 exact g.took.took
theorem Gd.memory(g:Gd m){st:Bool}:Gd (jd s m b st):=by
 unfold jd;simp only;split
 ·exact g.addr.off.aI.add (by show 2<=10;omega)
 exact g.addr.off.aV.add (by show 1<=10;omega)
variable{op:Int}
theorem Gd.bin(g:Gd m):Gd (binS s m b op):=by
 unfold binS;simp only;split
 ·exact g.aI.aI.took.took.constant.two
 exact g.aI.aI.took.two
theorem Gd.div(g:Gd m):Gd (divS s m b):=by
 unfold divS;simp only;split
 ·exact g.aI.took.constant.took.took.constant.two
 exact g.aI.took.constant.took.two
theorem Gd.args {x:List Int × MS} (g:Gd x.2) : ∀n,Gd (up (fQ s b) n x).2/\(up (fQ s b) n x).1.length=x.1.length+n
 | 0=>⟨g,rfl⟩
 | n+1=>⟨(Gd.args g n).1.aI,by show((up (fQ s b) n x).1++[_]).length=_;rw[RZ,(Gd.args g n).2,Sp];omega⟩
theorem Gd.call(g:Gd m):Gd (oR s m b):=by unfold oR;simp only;have ht:=bT (s:=s) (at_:=m.at_) (n:=5) V6;obtain⟨g2,l2⟩:=Gd.args (s:=s) (b:=b) (x:=([],m.took)) g.took (aH s m.at_ 5).toNat;refine g2.aV.took.add ?_;show(up (fQ s b) (aH s m.at_ 5).toNat ([],m.took)).1.length<=10;rw[l2];simp;omega
theorem Gd.ij(g:Gd m):Gd (aN s b m):=by
 unfold aN;simp only;repeat' split
 ·exact g.took.bin
 ·unfold ltuS;exact g.took.aI.aI.two
 ·exact g.took.div
 ·exact g.took.memory
 ·exact g.took.call
 ·unfold vW;exact g.took.aI.aI.aV.aV.add (by show 2<=10;omega)
 exact g.took.took.took.constant
theorem Gd.eV (g:Gd m) : ∀n,Gd (up (λ_=>aN s b) n m)
 | 0=>g
 | n+1=>(Gd.eV g n).ij
theorem Gd.QS(g:Gd m){to:List Int}(ht:to.length<=1000):Gd (py s to b m):=by
 have h:Gd (e9 s to b m).2/\(e9 s to b m).1.args.length<=10/\(e9 s to b m).1.to.length<=1000:=by
  unfold e9;simp only;repeat' split
  ·exact⟨g.took.took,by show 0<=10;omega,by show 0<=1000;omega⟩
  ·exact⟨g.took.aI,by show 1<=10;omega,by show 0<=1000;omega⟩
  ·exact⟨g.took,by show 0<=10;omega,by show 0<=1000;omega⟩
  ·exact⟨g,by show 0<=10;omega,ht⟩
  ·exact⟨g.aI.took.aI.aV.took.add (by show 2<=10;omega),by show 1<=10;omega,ht⟩
  ·exact⟨g.aI.took,by show 1<=10;omega,ht⟩
  exact⟨g.aI.constant.two,by show 1<=10;omega,ht⟩
 obtain⟨h1,h2,h3⟩:=h;exact h1.iz λhb=>⟨(h1 b hb).ins,h2,h3,(h1 b hb).phis⟩
theorem Gd.jZ (g:Gd m) {l:List Int} (hl:l.length<=1000):Gd (m.jZ b l):=g.iz λhb=>⟨(g b hb).ins,(g b hb).args,hl,(g b hb).phis⟩
theorem Gd.dD (g:Gd m):Gd (Go.Lft.dD b m):=by
 have:=g.aV.iz (b:=b) (x:={ nth m.blocks b with phis:=(nth m.blocks b).phis++[⟨m.next,[]⟩] }) λhb=>⟨(g b hb).ins,(g b hb).args,(g b hb).to,λp hp=>by
  rcases RW.1 hp with h | h
  ·exact(g b hb).phis p h
  rw[RR]at h;rw[h];show 0<=1000;omega⟩;exact this
theorem Gd.nk (g:Gd m) : ∀n,Gd (up (λ_=>Go.Lft.dD b) n m)
 | 0=>g
 | n+1=>(Gd.nk g n).dD
theorem Gd.jT (g:Gd m) {i:Nat} {l:List InD} (hl:l.length<=1000):Gd (m.jT b i l):=g.iz λhb=>⟨(g b hb).ins,(g b hb).args,(g b hb).to,λp hp=>by
 rcases T0 hp with h | h
 ·exact(g b hb).phis p h
 rw[h];exact hl⟩
theorem Gd.smF{a p i:Nat}(g:Gd m)(z:Sz n a p i m)(hn:n<=10000)(hp:p<=10000)(hi:i<=10000):SmF m.f:=by refine⟨by show m.blocks.length<=_;rw[z.len];exact hn,λj hj=>?_⟩;have hj:j<m.blocks.length:=hj;have h:=g j hj;have e:nth m.f.blocks j=nth m.blocks j:=rfl;rw[e];exact⟨Sk (z.phis j) hp,Sk (z.ins j) hi,by have:=h.args;omega,by have:=h.to;omega,λk hk=>by have:=h.phis _ (aX hk);omega,λk hk=>by have:=h.ins _ (aX hk);omega⟩
theorem Af {f:ak} : ∀n,∀t∈thTo f n,t.mks.length<=1000
 | 0,t,h=>by cases h
 | n+1,t,h=>by
  rw[fR]at h;rcases RW.1 h with h | h
  ·exact Af n t h
  unfold thB at h;simp only[RW,RR,rows,SV,Tq]at h;rcases h with(⟨i,_,rfl⟩ | ⟨i,_,rfl⟩) | rfl
  ·show 1<=1000;omega
  ·show(bg _).length<=1000;unfold bg;repeat' split
   all_goals simp
  show 0<=1000;omega
theorem EM {n a p i:Nat} (z:Sz n a p i m) : ∀k,(thTo m.f k).length<=(p+i+1)*k
 | 0=>RQ _
 | k+1=>by have h1:=EM z k;have h2:=z.phis k;have h3:=z.ins k;have e:nth m.f.blocks k=nth m.blocks k:=rfl;rw[fR,RZ,Ug];unfold thB;simp only[RZ,qd,Sp,e];omega
theorem vy{a p i:Nat}(z:Sz n a p i m)(hn:n<=10)(hp:p<=1000)(hi:i<=3000):(aC m.f).length<=60000:=by
 have h1:=EM z n;have h2:(p+i+1)*n<=5000*10:=T7 V4 hn;have e:aC m.f=thTo m.f n:=by unfold aC;rw[show m.f.blocks.length=n from z.len]
 rw[e];omega
theorem Ar{a p i:Nat}(z:Sz n a p i m)(hn:n<=10)(hp:p<=1000)(hi:i<=3000):(gX m.f b).length<=70000000:=by
 have h:=AZ (l:=aC m.f) (f:=m.f) (b:=b) (c:=1000) (Af _) (out:=rows (λi=>(i:Int)) m.f.params.toNat);have h2:=vy z hn hp hi;have h3:m.f.params.toNat<=4:=by have:=z.ps1;show m.ps.toNat<=4;omega
 rw[qd]at h;have e:gX m.f b=(aC m.f).foldl (eB m.f b) (rows (λi=>(i:Int)) m.f.params.toNat):=rfl;rw[e];omega
end
structure P3 (n a p i:Nat) (m:MS):Prop where
 z:Sz n a p i m
 g:Gd m
theorem P3.mono {n a p i a' p' i':Nat} {m:MS} (q:P3 n a p i m) (h1:a<=a') (h2:p<=p') (h3:i<=i'):P3 n a' p' i' m:=⟨q.z.mono h1 h2 h3,q.g⟩
theorem Sz.const{a p i:Nat}{m:MS}{k:Int}(z:Sz n a p i m):Sz n (a+3) p (i+1) (m.constant b k):=by have h1:Sz n (a+3) p (i+1) { m.aV with live:=m.live++bg (conD m.next k) }:=⟨by have:=z.at_;show m.at_<=_;omega,by have:=z.n0;show 0<=m.next+1;omega,by have:=z.next;show m.next+1<=_;omega,by have:=z.live;show(m.live++[m.next]).length<=_;rw[RZ,Sp];omega,z.ps0,z.ps1,z.len,z.phis,λj=>by have:=z.ins j;show(nth m.blocks j).ins.length<=_;omega⟩;exact h1.iz (b:=b) (x:={ nth m.blocks b with ins:=(nth m.blocks b).ins++[conD m.next k] }) (z.phis b) (by have:=z.ins b;show((nth m.blocks b).ins++[_]).length<=_;rw[RZ,Sp];omega)
theorem Sz.jT {n a p i b j:Nat} {m:MS} {l:List InD} (z:Sz n a p i m):Sz n a p i (m.jT b j l):=
 z.iz (by show((nth m.blocks b).phis.set j _).length<=_;rw[Sv];exact z.phis b) (z.ins b)
def rowS (s:List Int) (b:Nat) (m:MS):List Int × MS:=if(gX m.f b).length=0 then([m.next],m.took.took.constant b (jY s m)) else(gX m.f b,m)
theorem EZ{s:List Int}{m:MS}:0<(rowS s b m).1.length:=by
 unfold rowS;split
 ·show 0<1;omega
 show 0<(gX m.f b).length;omega
theorem LR{s:List Int}{a p i:Nat}{m:MS}(z:Sz n a p i m)(hn:n<=10)(hp:p<=1000)(hi:i<=3000):(rowS s b m).1.length<=70000000:=by
 unfold rowS;split
 ·show 1<=70000000;omega
 exact Ar z hn hp hi
theorem Hf{s:List Int}{a p i:Nat}{m:MS}(q:P3 n a p i m):P3 n (a+5) p (i+1) (rowS s b m).2:=by
 unfold rowS;split
 ·exact⟨(q.z.took.took.const).mono V4 (RQ _) (RQ _),q.g.took.took.constant⟩
 exact q.mono V4 (RQ _) V4
theorem IL{s:List Int}{p:List Int}{k:Nat}{x:List InD × MS}(h:nth p k=b):cL s p k x=(x.1++[⟨b,nth (rowS s b x.2).1 (aH s (rowS s b x.2).2.at_ (rowS s b x.2).1.length).toNat⟩],(rowS s b x.2).2.took):=by unfold cL;rw[h];rfl
theorem me {s:List Int} {n a p i:Nat} {pl:List Int} {x:List InD × MS} (q:P3 n a p i x.2) : ∀k,P3 n (a+6*k) p (i+k) (up (cL s pl) k x).2/\(up (cL s pl) k x).1.length=x.1.length+k
 | 0=>⟨q,rfl⟩
 | k+1=>by
  obtain⟨h1,h2⟩:=me (pl:=pl) q k;have h3:=Hf (s:=s) (b:=(nth pl k).toNat) h1;refine⟨?_,?_⟩
  ·have e:(up (cL s pl) (k+1) x).2=(rowS s (nth pl k).toNat (up (cL s pl) k x).2).2.took:=rfl;rw[e];exact⟨(h3.z.took).mono V4 (RQ _) V4,h3.g.took⟩
  have e:(up (cL s pl) (k+1) x).1=(up (cL s pl) k x).1++[⟨nth pl k,nth (rowS s (nth pl k).toNat (up (cL s pl) k x).2).1 (aH s (rowS s (nth pl k).toNat (up (cL s pl) k x).2).2.at_ (rowS s (nth pl k).toNat (up (cL s pl) k x).2).1.length).toNat⟩]:=rfl;rw[e,RZ,h2,Sp];omega
variable{pl:List Int}
theorem NQ{s:List Int}{a p i j:Nat}{m:MS}(q:P3 n a p i m)(hp:pl.length<=9):P3 n (a+54) p (i+9) (phi3 s b pl j m):=by obtain⟨h1,h2⟩:=me (s:=s) (pl:=pl) (x:=([],m)) q pl.length;exact⟨(h1.z.jT).mono V4 (RQ _) V4,h1.g.jT (by rw[h2];show 0+_<=_;omega)⟩
theorem qu {s:List Int} {n a p i b:Nat} {pl:List Int} {m:MS} (q:P3 n a p i m) (hp:pl.length<=9) : ∀k,P3 n (a+54*k) p (i+9*k) (up (phi3 s b pl) k m)
 | 0=>q
 | k+1=>(NQ (qu q hp k) hp).mono V4 (RQ _) V4
theorem Pq{H:View}{a b:Int}(ha:I64 a)(hb:I64 b):Rd H (.agg #[VB VC a,VB VC b]) (InD.mk a b):=⟨_,rfl,[VB VC a],[VB VC b],rfl,⟨rfl,ha⟩,rfl,hb⟩
section
variable {s:List Int} {M:Nat} {vs:Value} {W0:View} {h:Heap} {o0:Own} {m:MS}
theorem Nx.NC(x:Nx s M vs W0 h o0 m){h':Heap}{k:Key}{u:Value}{l:List Int}(h3:3<=k.1)(hk:o0 k=VF)(hle:(vw h).le (vw h'))(hb : ∀b,u.ownBlock=VE b->h.size<=b)(ho:OwnT nothing h' T.int u l):Nx s M vs W0 h' (o0.upd k (it T.int u l)) m:=by
 obtain⟨W,o,g,w,f⟩:=x;have w2:=w.own.add (k:=k) ((f k h3).trans hk) (EO (W':=W) ho) hle hb;obtain⟨vb,vl,lb,bb⟩:=w.box;refine⟨W,_,g,⟨w2,w.src,vb,vl,lb,bb.frame λq hq=>Own.aB (by rintro rfl;omega)⟩,λq hq=>?_⟩;unfold Own.upd;split
 ·rfl
 exact f q hq
theorem Nx.freeze {α:Type} [r:Rep α] {k:Key} {e:TypeId} {v:Value} {l:List α} (x:Nx s M vs W0 h (o0.upd k (it e v l)) m) (h3:3<=k.1) (hk:o0 k=VF) : ∃W',W0.le W'/\Nx s M vs W' h o0 m/\SlRd W' v l:=by
 obtain⟨W,o,g,w,f⟩:=x;have hk2:=(f k h3).trans Own.an;obtain⟨w2,sl⟩:=w.own.freeze hk2;have hWp:=iI (h:=h) (w.own.av _ _ hk2);obtain⟨vb,vl,lb,bb⟩:=w.box;refine⟨_,Vz g hWp,⟨_,_,View.le_refl _,⟨w2,w.src.mono hWp,vb,vl,lb,bb.frame λq hq=>Own.aB (by rintro rfl;omega)⟩,λq hq=>?_⟩,sl⟩;by_cases e2:q=k
 ·rw[e2,Own.an,hk]
 rw[Own.aB e2,f q hq,Own.aB e2]
theorem Nx.gu {po po2:OP} {α:Type} [r:Rep α] {k:Key} {e t ty ty2:TypeId} {bytes:Nat} {z:Value} {v:Value} {l:List α} (x:Nx s M vs W0 h o0 m) (h3:3<=k.1) (hk:o0 k=it e v l) {a y y2:Operand} {us:List (Nat × Value)} {us2:Value->List (Nat × Value)} {u:Value} {d:α} {K:Value->Value->Heap->Prop} (hT:eS VK t e (Rep.n α) bytes z) (hx:asg us a=u) (hr : ∀W,Rd W u d)
  (hb:(l.length+1)*bytes<=140737488355328) (hb2:l.length+1<=140737488355328) (hy : ∀u,asg (us2 u) y=v) (hy2 : ∀u,asg (us2 u) y2=u)
  (hK : ∀u v' h',Nx s M vs W0 h' (o0.upd k (it e v' (l++[d]))) m->K u v' h') :
  @Lft.step po VK (.buildSlice t 1 #[(0,a)]) ty us h λu h2=>@Lft.step po2 VK (.call ⟨.builtin .append,#[y,y2],#[t,t]⟩) ty2 (us2 u) h2 λv' h3=>K u v' h3:=by
 obtain⟨W,o,g,w,f⟩:=x;refine w.own.gu (k:=k) (d:=d) ((f k h3).trans hk) hT hx (hr W) hb hb2 hy hy2 λu v' h' w2 _=>hK u v' h' ?_;obtain⟨vb,vl,lb,bb⟩:=w.box;refine⟨W,_,g,⟨w2,w.src,vb,vl,lb,bb.frame λq hq=>Own.aB (by rintro rfl;omega)⟩,λq hq=>?_⟩;unfold Own.upd;split
 ·rfl
 exact f q hq
variable{vd:Value}
theorem Jx{a p i j:Nat}{vq vi:Value}(x:Nx s M vs W0 h (o0.upd (7,2) (it T.uj vi ([]:List InD))) m)(f71:o0 (7,1)=VF)(q:P3 n a p i m)(hn:n<=10)(ha:a<=500000)(hia:i<=a)(hp:p<=100)(hi:i<=2000)(hq:SlRd W0 vq pl)(hpl:pl.length<=9)(hpr : ∀k,k<pl.length->∃c:Nat,nth pl k=c/\c<n)(h0:bh [2,3,4,5,7,11,25,26,27,28,29] ρ=[(2,vr),(3,ptz M),(4,VB VC n),(5,vt),(7,vp),(11,vd),(25,VB VC b),(26,vq),(27,VB VC j),(28,vi),(29,VB VC 0)])(hQ : ∀(h':Heap) vi,Nx s M vs W0 h' (o0.upd (7,2) (it T.uj vi (up (cL s pl) pl.length ([],m)).1)) (up (cL s pl) pl.length ([],m)).2->Q .normal [(2,vr),(3,ptz M),(4,VB VC n),(5,vt),(7,vp),(11,vd),(25,VB VC b),(26,vq),(27,VB VC j),(28,vi),(29,VB VC pl.length)] h'):
  LC.wp VK (.block 28 (.loop L.au.l15)) Q ρ h:=by
 simp only[aW];refine dQ [2,3,4,5,7,11,25,26,27,28,29] (fun(vi:Value) k=>[vr,ptz M,VB VC n,vt,vp,vd,VB VC b,vq,VB VC j,vi,VB VC k]) (λvi k h2=>Nx s M vs W0 h2 (o0.upd (7,2) (it T.uj vi (up (cL s pl) k ([],m)).1)) (up (cL s pl) k ([],m)).2) pl.length vi
  rfl V4 h0 x (λ_ _=>rfl) (λv k h2 hk2 x2=>by simp[hq.len]) ?_ ?_
 ·rintro vi k h2 hlt x2 K2 hK2;obtain⟨q2,hl2⟩:=me (s:=s) (pl:=pl) (x:=([],m)) q k;obtain⟨c,hc,hcn⟩:=hpr k hlt;have e2:up (cL s pl) (k+1) ([],m)=cL s pl k (up (cL s pl) k ([],m)):=rfl;rw[e2,IL hc]at hK2;have hl2:(up (cL s pl) k ([],m)).1.length<=9:=by rw[hl2];simp;omega
  generalize up (cL s pl) k ([],m)=y at x2 hK2 q2 hl2;obtain⟨il,m2⟩:=y;have q2:P3 n (a+54) p (i+9) m2:=P3.mono q2 V4 (RQ _) V4;have hl2:il.length<=9:=hl2;have x2:Nx s M vs W0 h2 (o0.upd (7,2) (it T.uj vi il)) m2:=x2;simp only at hK2;have hcell : ∀{h':Heap},W0.le (vw h')->ao (vw h') ((slA vq).add k)=VE (VB VC c):=λg=>by rw[hq.int g hlt,hc]
  have hcell0:ao W0 ((slA vq).add k)=VE (VB VC c):=by rw[hq.int Vy hlt,hc]
  have hrow:rowS s c m2=_:=rowS.eq_1 s c m2;have hq3:=Hf (s:=s) (b:=c) q2;have hpos:=EZ (s:=s) (b:=c) (m:=m2);have hrl0:=LR (s:=s) (b:=c) q2.z hn V4 V4;simp only[aW];refine aa λy hy=>?_;obtain⟨vb,vl,rd⟩:=x2.z.reads;refine aQ (vw h2) Vy ?_;simp(disch:=omega)[rd.f,(hq.mono x2.z.le).idx1 rfl,hcell x2.z.le];have hth:(aC m2.f).length<=60000:=vy q2.z hn V4 V4;refine ah V0 (DP (b:=c) (rd.rd (K8 q2.z)) (q2.g.smF q2.z V4 V4 V4) ⟨q2.z.ps0,by have:=q2.z.ps1;show m2.ps<=_;omega⟩ (by show c<m2.blocks.length;rw[q2.z.len];exact hcn) (Af _) V4) ?_;rintro u3 h3 ⟨hle3,hb3,ho3⟩;have x3:=x2.NC (k:=(7,1)) V6 ((Own.aB V5).trans f71) hle3 hb3 ho3;clear rd x2 ho3 hb3;generalize gX m2.f c=sl at x3 hrow;subst hy;refine aa λy hy=>?_;have fin : ∀(v30:Value) (h':Heap) (ρ:Env),Nx s M vs W0 h' ((o0.upd (7,2) (it T.uj vi il)).upd (7,1) (it T.int v30 (rowS s c m2).1)) (rowS s c m2).2->Lft.look ρ 2=VE vr->Lft.look ρ 3=VE (ptz M)->Lft.look ρ 4=VE (VB VC n)->Lft.look ρ 5=VE vt->Lft.look ρ 7=VE vp->Lft.look ρ 11=VE vd->Lft.look ρ 25=VE (VB VC b)->Lft.look ρ 26=VE vq->Lft.look ρ 27=VE (VB VC j)->Lft.look ρ 28=VE vi->Lft.look ρ 29=VE (VB VC k)->Lft.look ρ 30=VE v30->
    LC.wp VK y (eZ 29 (fM K2 (eZ 28 Q))) ρ h':=by
   intro v30 h' ρ x4 r2 r3 r4 r5 r7 r11 r25 r26 r27 r28 r29 r30;subst hy;generalize rowS s c m2=r at x4 hK2 hq3 hpos hrl0;obtain⟨W4,hW4,x4,s4⟩:=x4.freeze V6 ((Own.aB V5).trans f71);have hrl:=s4.bound;refine aQ W4 x4.z.le ?_;simp(disch:=omega)[af,ag,r2,r3,r4,r5,r7,r11,r25,r26,r27,r28,r29,r30,(hq.mono hW4).idx1 rfl,ae hW4 hcell0,s4.len];refine ah V0 (fA x4.z (hq3.z.ok V4) V4 (k:=(r.1.length:Int)) V4 V4) ?_;rintro _ h5 ⟨rfl,n5⟩;refine⟨n5.le,?_⟩;obtain⟨t0,t1⟩:=bT (s:=s) (at_:=r.2.at_) (n:=(r.1.length:Int)) V4;generalize aH s r.2.at_ (r.1.length:Int)=tv at t0 t1 hK2;have hrng:=s4.range (i:=tv.toNat) V4;simp(disch:=omega)[af,ag,r2,r3,r4,r5,r7,r11,r25,r26,r27,r28,r29,r30,s4.idx1 rfl,s4.int Vy];refine aA (z:=zz1) (places:=zpd) (vs:=[(0,VB VC c),(1,VB VC (nth r.1 tv.toNat))]) (cs:=#[VB VC c,VB VC (nth r.1 tv.toNat)]) V0 V0 V5 V0 ?_;refine n5.x.gu (k:=(7,2)) (α:=InD) (d:=⟨c,nth r.1 tv.toNat⟩) V6 Own.an El.lC rfl (λW=>Pq V9 hrng) V4 V4 (λ_=>rfl) (λ_=>rfl) λu v' h6 x6=>?_;refine hK2 v' _ _ ?_ ?_ ((x6.re λq=>by rw[fy]).up hW4)
   ·simp[af,ag,r29]
   simp[bh,af,ag,r2,r3,r4,r5,r7,r11,r25,r26,r27,r28,r29]
  have hsl:=(x3.z.at (k:=(7,1)) V6 Own.an).len (K:=vw h3);have hlen3 : ∀{Q:View},Un.ev Q .len u3=VE (VB VC sl.length):=fun{Q}=>(x3.z.at (k:=(7,1)) V6 Own.an).len;refine aa λw hw=>?_;simp[hlen3];subst hw;by_cases c0:sl.length=0
  ·have c0':sl=[]:=Sj c0;rw[if_pos c0]at hrow;refine aT (by simp[c0,c0']) ?_;refine aQ W0 x3.z.le ?_;simp(disch:=omega)[hq.idx1 rfl,hcell0];refine ah V0 (CA x3.z (q2.z.ok V4) V4) ?_;rintro _ h4 ⟨rfl,n4⟩;refine⟨n4.le,?_⟩;refine ah V0 (ic n4 (b:=c) (by show c<m2.blocks.length;rw[q2.z.len];exact hcn) (q2.z.took.took.ok V4) V4 tt) ?_;rintro _ h5 ⟨rfl,n5⟩;have i64:I64 m2.next:=by have:=q2.z.n0;have:=q2.z.next;constructor<;>omega
   subst c0';refine n5.x.gu (k:=(7,1)) (α:=Int) (d:=m2.next) V6 Own.an El.aY rfl (λW=>bw.2 ⟨rfl,i64⟩) V5 V5 (λ_=>rfl) (λ_=>rfl) λu v' h6 x6=>?_;refine fin v' h6 _ ?_ ?_ ?_ ?_ ?_ ?_ ?_ ?_ ?_ ?_ ?_ ?_ ?_
   ·rw[hrow];exact x6.re λq=>by rw[fy];rfl
   all_goals simp
  rw[if_neg c0]at hrow;have c0':¬sl=[]:=λe=>c0 (by rw[e];rfl);refine bf (by simp[c0']) ?_;simp;refine fin u3 h3 _ ?_ ?_ ?_ ?_ ?_ ?_ ?_ ?_ ?_ ?_ ?_ ?_ ?_
  ·rw[hrow];exact x3
  all_goals simp
 rintro vi h2 x2;exact hQ h2 vi x2
end
def Pc (lp:List Int) (m:MS):Prop:=∀j,((nth m.blocks j).phis.length:Int)=nth lp j
variable{lp:List Int}
theorem Pc.grw{m m':MS}{k:Nat}(p:Pc lp m)(g:Grw b k m m'):Pc lp m':=λj=>by
 by_cases e:j=b
 ·subst e;rw[g.phis];exact p j
 rw[g.els j e];exact p j
theorem Pc.iz{m:MS}{x:BlkD}(p:Pc lp m)(hx:x.phis.length=(nth m.blocks b).phis.length):Pc lp { m with blocks:=m.blocks.set b x }:=λj=>by
 show((nth (m.blocks.set b x) j).phis.length:Int)=_;rcases RX j m.blocks.length with hl | hl
 ·rw[bj hl];split
  ·rename_i e;subst e;rw[hx];exact p b
  exact p j
 rw[bH (by simpa using hl)];have:=p j;rwa [bH hl]at this
theorem Pc.jJ {s:List Int} {to:List (List Int)} {n b:Nat} {dn:BL} {away:List BL} {lp:List Int} {m:MS} (p:Pc lp m) (hb:b<m.blocks.length):Pc lp (jJ s to n dn away b m):=by have p1:Pc lp (MS.took { m with live:=nh m dn away b n }):=p;have hb1:b<(MS.took { m with live:=nh m dn away b n }).blocks.length:=hb;have g:=((Grw.refl (b:=b) (m:=MS.took { m with live:=nh m dn away b n })).eV (s:=s) hb1 (aH s m.at_ 7).toNat).Ky (s:=s) (to:=nth to b) hb1;exact(p1.grw g).iz rfl
theorem Pc.bo {s:List Int} {to:List (List Int)} {n b:Nat} {lp:List Int} {x:BL × MS} (p:Pc lp x.2) (hb:b<x.2.blocks.length):Pc lp (bo s to n b x).2:=by
 unfold Go.Lft.bo;split
 ·exact p.jJ hb
 exact p
theorem Pc.rowS {s:List Int} {b:Nat} {lp:List Int} {m:MS} (p:Pc lp m) (hb:b<m.blocks.length):Pc lp (rowS s b m).2:=by
 unfold Go.Lft.rowS;split
 ·have p1:Pc lp m.took.took:=p;exact p1.grw ((Grw.refl (b:=b) (m:=m.took.took)).constant hb)
 exact p
theorem I2{s:List Int}{m:MS}:(rowS s b m).2.blocks.length=m.blocks.length:=by
 unfold rowS;split
 ·exact dW
 rfl
theorem Pc.me {s:List Int} {pl:List Int} {lp:List Int} {x:List InD × MS} (p:Pc lp x.2) (hb : ∀k,k<pl.length->(nth pl k).toNat<x.2.blocks.length) : ∀k,k<=pl.length->Pc lp (up (cL s pl) k x).2/\(up (cL s pl) k x).2.blocks.length=x.2.blocks.length
 | 0,_=>⟨p,rfl⟩
 | k+1,h=>by obtain⟨h1,h2⟩:=Pc.me (s:=s) p hb k V4;have e:(up (cL s pl) (k+1) x).2=(Go.Lft.rowS s (nth pl k).toNat (up (cL s pl) k x).2).2.took:=rfl;rw[e];exact⟨h1.rowS (by rw[h2];exact hb k V4),(pL).trans (I2.trans h2)⟩
theorem Pc.phi3 {s:List Int} {b j:Nat} {pl:List Int} {lp:List Int} {m:MS} (p:Pc lp m) (hb : ∀k,k<pl.length->(nth pl k).toNat<m.blocks.length):Pc lp (phi3 s b pl j m)/\(phi3 s b pl j m).blocks.length=m.blocks.length:=by obtain⟨h1,h2⟩:=Pc.me (s:=s) (pl:=pl) (x:=([],m)) p hb pl.length (RQ _);exact⟨h1.iz V5,by show(List.set _ _ _).length=_;rw[Sv];exact h2⟩
theorem Pc.qu {s:List Int} {b:Nat} {pl:List Int} {lp:List Int} {m:MS} (p:Pc lp m) (hb : ∀k,k<pl.length->(nth pl k).toNat<m.blocks.length) : ∀k,Pc lp (up (Go.Lft.phi3 s b pl) k m)/\(up (Go.Lft.phi3 s b pl) k m).blocks.length=m.blocks.length
 | 0=>⟨p,rfl⟩
 | k+1=>by obtain⟨h1,h2⟩:=Pc.qu (s:=s) (b:=b) p hb k;obtain⟨h3,h4⟩:=Pc.phi3 (s:=s) (b:=b) (j:=k) h1 (λk hk=>by rw[h2];exact hb k hk);exact⟨h3,h4.trans h2⟩
theorem zy {p:Nat->Bool} : ∀(n:Nat) (v:Int),v∈sift p (λa=>(a:Int)) n->∃c:Nat,v=c/\c<n
 | 0,v,h=>by cases h
 | n+1,v,h=>by
  cases hp:p n with
  | true=>
   rw[pN hp]at h;rcases RW.1 h with h | h
   ·obtain⟨c,h1,h2⟩:=zy n v h;exact⟨c,h1,by omega⟩
   rw[RR]at h;exact⟨n,h,by omega⟩
  | false=>rw[nN hp]at h;obtain⟨c,h1,h2⟩:=zy n v h;exact⟨c,h1,by omega⟩
theorem Aa{p:Nat->Bool}(n k:Nat)(hk:k<(sift p (λa=>(a:Int)) n).length): ∃c:Nat,nth (sift p (λa=>(a:Int)) n) k=c/\c<n:=zy n _ (aX hk)
section
variable {s:List Int} {M:Nat} {vs:Value} {W0:View} {h:Heap} {o0:Own} {m:MS}
theorem Nx.QD[r:Rep α](x:Nx s M vs W0 h o0 m){h':Heap}{u:Value}{l:List α}(hle:(vw h).le (vw h'))(hs:SlRd (fresh h h') u l): ∃W',W0.le W'/\Nx s M vs W' h' o0 m/\SlRd W' u l:=by obtain⟨W,o,g,w,f⟩:=x;have hW:=bz (h':=h') w.own.wle;exact⟨_,Vz g hW,⟨_,o,View.le_refl _,⟨w.own.ext hle,w.src.mono hW,w.box⟩,f⟩,hs.mono (kI W h h')⟩
variable{vb vl:Value}
theorem Mk.Qu{o:Own}(w:Mk s M vs W h o m){lb:List BlkM}(bb:MkB M vs m o vb vl lb){i:Nat}{l:List InD}{v:Value}{x y:Operand}{K:Value->Heap->Prop}(hb:b<m.blocks.length)(hi:i<(nth m.blocks b).phis.length)(hsz:cW VK ty2=VE 1)(hx:asg us x = VH (VE (((slA (nth lb b).phis.v).add (i*2)).add 1)))(hy:asg us y=v)(hr:SlRd W v l)(hK : ∀h' o',Mk s M vs W h' o' (m.jT b i l)->(∀k:Key,3<=k.1->o' k=o k)->K undef h'):@Lft.step po VK (.store ty2 x y) ty us h K:=by
 have hbl:b<lb.length:=by rw[bb.len];exact hb
 refine w.own.qy (k:=(1,b)) (α:=PhiD) PhiD.jS (v:=(nth lb b).phis.v) (l:=(nth m.blocks b).phis) (i:=i) (d:=l) (bb.phis b hb) hsz hx hy hi (dx.2 hr) λh7 w7 _=>?_;have hs:lb.set b (nth lb b)=lb:=by rw[ay hbl];exact List.set_getElem_self hbl
 have b7:=bb.iz hb (x':={ nth m.blocks b with phis:=(nth m.blocks b).phis.set i { nth (nth m.blocks b).phis i with ins:=l } }) (y':=nth lb b) (o':=o.upd (1,b) (it T.ja (nth lb b).phis.v ((nth m.blocks b).phis.set i { (nth m.blocks b).phis[i]with ins:=l }))) (bb.term b hb) (by rw[hs,Own.aB V5];exact bb.blk) (by rw[Own.an,ay hi]) (by rw[Own.aB V5];exact bb.ins b hb) (λq h1 h2 h3=>Own.aB h2);rw[hs]at b7;exact hK h7 _ ⟨w7,w.src,vb,vl,lb,b7⟩ λk hk=>Own.aB (by rintro rfl;simp at hk)
end
section
variable {s:List Int} {M:Nat} {vs:Value} {W0:View} {h:Heap} {o0:Own} {m:MS}
variable{vd:Value}
theorem JV{a p i cnt:Nat}{vq:Value}(x:Nx s M vs W0 h o0 m)(h5:o0 (5,0)=it T.int vp lp)(f71:o0 (7,1)=VF)(f72:o0 (7,2)=VF)(q:P3 n a p i m)(pc:Pc lp m)(hlp:lp.length=n)(hb:b<n)(hcnt:nth lp b=cnt)(hc3:cnt<=3)(hn:n<=10)(ha:a<=400000)(hia:i<=a)(hp:p<=100)(hi:i<=1900)(hq:SlRd W0 vq pl)(hpl:pl.length<=9)(hpr : ∀k,k<pl.length->∃c:Nat,nth pl k=c/\c<n)(h0:bh [2,3,4,5,7,11,25,26,27] ρ=[(2,vr),(3,ptz M),(4,VB VC n),(5,vt),(7,vp),(11,vd),(25,VB VC b),(26,vq),(27,VB VC 0)])(hQ : ∀h':Heap,Nx s M vs W0 h' o0 (up (phi3 s b pl) cnt m)->Q .normal [(2,vr),(3,ptz M),(4,VB VC n),(5,vt),(7,vp),(11,vd),(25,VB VC b),(26,vq),(27,VB VC cnt)] h'):
  LC.wp VK (.block 26 (.loop L.au.l14)) Q ρ h:=by
 simp only[aW];refine dQ [2,3,4,5,7,11,25,26,27] (fun(_:Unit) k=>[vr,ptz M,VB VC n,vt,vp,vd,VB VC b,vq,VB VC k]) (λ_ k h2=>Nx s M vs W0 h2 o0 (up (phi3 s b pl) k m)) cnt ()
  rfl V4 h0 x (λ_ _=>rfl) (λv k h2 hk2 x2=>by have sp:=x2.z.at V6 h5;have e:=sp.int Vy (i:=b) V4;rw[hcnt]at e;simp(disch:=omega)[sp.idx1 rfl,e]) ?_ ?_
 ·rintro _ k h2 hlt x2 K2 hK2;have hpn : ∀j,j<pl.length->(nth pl j).toNat<m.blocks.length:=λj hj=>by obtain⟨c,h1,h2⟩:=hpr j hj;rw[h1,q.z.len];simpa using h2
  have q2:=(qu (s:=s) (b:=b) q hpl k).mono (a':=a+200) (p':=p) (i':=i+30) V4 (RQ _) V4;obtain⟨pc2,hlen2⟩:=Pc.qu (s:=s) (b:=b) pc hpn k;have e2:up (phi3 s b pl) (k+1) m=phi3 s b pl k (up (phi3 s b pl) k m):=rfl;rw[e2]at hK2;generalize up (phi3 s b pl) k m=m2 at x2 hK2 q2 pc2 hlen2;have hpn2 : ∀j,j<pl.length->(nth pl j).toNat<m2.blocks.length:=λj hj=>by rw[hlen2];exact hpn j hj
  obtain⟨pc3,hlen3⟩:=Pc.me (s:=s) (pl:=pl) (x:=([],m2)) pc2 hpn2 pl.length (RQ _);simp only[aW];refine aa λy hy=>?_;simp;refine x2.kf (k:=(7,2)) (α:=InD) V6 f72 El.lC λvi h3 hvi x3=>?_;subst hy;refine aa λy hy=>?_;refine aa λw hw=>?_;simp;subst hw;refine Jx (vr:=vr) (vt:=vt) (vp:=vp) (vd:=vd) (vq:=vq) (vi:=vi) (b:=b) (j:=k) x3 f71 q2 hn V4 V4 hp V4 hq hpl hpr (by simp[bh,af,ag]) λh4 vi x4=>?_;obtain⟨W4,hW4,x4,s4⟩:=x4.freeze V6 f72;have e3:phi3 s b pl k m2=(up (cL s pl) pl.length ([],m2)).2.jT b k (up (cL s pl) pl.length ([],m2)).1:=rfl;rw[e3]at hK2;have hb4:b<(up (cL s pl) pl.length ([],m2)).2.blocks.length:=by rw[hlen3];show b<m2.blocks.length;rw[hlen2,q.z.len];exact hb
  have hph:((nth (up (cL s pl) pl.length ([],m2)).2.blocks b).phis.length:Int)=cnt:=(pc3 b).trans hcnt;generalize up (cL s pl) pl.length ([],m2)=r at x4 hK2 s4 hb4 hph;obtain⟨W,o,g,w,f⟩:=x4;obtain⟨vb,vl,lb,bb⟩:=w.box;have rd:=w.reads bb;have hbb:b<lb.length:=by rw[bb.len];exact hb4
  have sb:=w.own.now bb.blk;have sbb:=sb.bound;have c1:ao (vw h4) (((slA vb).add (b*6)).add 0)=VE (nth lb b).phis.v:=by have:=((sb.at hbb).part BlkM.uE).raw;rw[ay hbb];exact this
  have sph:=w.own.now (bb.phis b hb4);simp;subst hy;have r5:Bn.ev (.idx 2) (nth lb b).phis.v (VB VC k)=VE (VH (VE ((slA (nth lb b).phis.v).add (k*2)))):=by have:=sph.idxn (N:=2) rfl (k:=.i64) (i:=k) V4 V4;simpa using this
  simp(disch:=omega)[rd.cb,sb.idxn (N:=6) rfl,c1,r5];refine w.Qu bb (b:=b) (i:=k) (l:=r.1) hb4 V4 V0 rfl rfl (s4.mono g) λh5 o5 w5 f5=>?_;refine hK2 () _ _ rfl rfl ?_;exact⟨W,o5,Vz hW4 g,w5,λq hq=>(f5 q hq).trans (f q hq)⟩
 rintro _ h2 x2;exact hQ h2 x2
theorem NW{a p i k:Nat}{m:MS}(q:P3 n a p i m)(pc:Pc lp m)(hr : ∀j,nth lp j<=3)(hn:n<=9):P3 n (a+162) p (i+27) (blk3 s lp k m)/\Pc lp (blk3 s lp k m):=by
 have hpl:(aJ m.f ((k+1:Nat):Int)).length<=n:=by have:=pU (p:=λa=>decide (((k+1:Nat):Int)∈(nth m.f.blocks a).term.to)) (x:=λa=>(a:Int)) m.f.blocks.length;rw[show m.f.blocks.length=n from q.z.len]at this;unfold aJ;rw[show m.f.blocks.length=n from q.z.len];exact this
 have hpn : ∀j,j<(aJ m.f ((k+1:Nat):Int)).length->(nth (aJ m.f ((k+1:Nat):Int)) j).toNat<m.blocks.length:=λj hj=>by obtain⟨c,h1,h2⟩:=Aa _ j hj;have h1:nth (aJ m.f ((k+1:Nat):Int)) j=c:=h1;rw[h1];have h2:c<m.blocks.length:=h2;simpa using h2
 have h3:=hr (k+1);unfold blk3;exact⟨(qu q V4 _).mono V4 (RQ _) V4,(Pc.qu pc hpn _).1⟩
theorem Cq {n a p i:Nat} {lp:List Int} {m:MS} (q:P3 n a p i m) (pc:Pc lp m) (hr : ∀j,nth lp j<=3) (hn:n<=9) : ∀k,P3 n (a+162*k) p (i+27*k) (up (blk3 s lp) k m)/\Pc lp (up (blk3 s lp) k m)
 | 0=>⟨q,pc⟩
 | k+1=>by obtain⟨h1,h2⟩:=Cq q pc hr hn k;obtain⟨h3,h4⟩:=NW (s:=s) (k:=k) h1 h2 hr hn;exact⟨h3.mono V4 (RQ _) V4,h4⟩
theorem Ko{a p i:Nat}(x:Nx s M vs W0 h o0 m)(h5:o0 (5,0)=it T.int vp lp)(f71:o0 (7,1)=VF)(f72:o0 (7,2)=VF)(q:P3 n a p i m)(pc:Pc lp m)(hlp:lp.length=n)(hr : ∀j,0<=nth lp j/\nth lp j<=3)(hn1:1<=n)(hn:n<=9)(ha:a<=300000)(hia:i<=a)(hp:p<=100)(hi:i<=1000)(h0:bh [2,3,4,5,7,11,25] ρ=[(2,vr),(3,ptz M),(4,VB VC n),(5,vt),(7,vp),(11,vd),(25,VB VC 1)])(hQ : ∀h':Heap,Nx s M vs W0 h' o0 (up (blk3 s lp) (n-1) m)->Q .normal [(2,vr),(3,ptz M),(4,VB VC n),(5,vt),(7,vp),(11,vd),(25,VB VC n)] h'):
  LC.wp VK (.block 24 (.loop L.au.l13)) Q ρ h:=by
 simp only[aW];refine zX [2,3,4,5,7,11,25] (fun(_:Unit) k=>[vr,ptz M,VB VC n,vt,vp,vd,VB VC ((k+1:Nat):Int)]) (λ_ k h2=>Nx s M vs W0 h2 o0 (up (blk3 s lp) k m)) (n-1) 1 ()
  rfl V4 h0 x (λ_ _=>rfl) (λv k h2 hk2 m=>by simp;omega) ?_ ?_
 ·rintro _ k h2 hlt x2 K2 hK2;obtain⟨q2,pc2⟩:=Cq (s:=s) q pc (λj=>(hr j).2) hn k;have e2:up (blk3 s lp) (k+1) m=blk3 s lp k (up (blk3 s lp) k m):=rfl;rw[e2]at hK2;generalize up (blk3 s lp) k m=m2 at x2 hK2 q2 pc2;have hb2:blk3 s lp k m2=_:=blk3.eq_1 s lp k m2;rw[hb2]at hK2;simp only[aW];refine aa λy hy=>?_;obtain⟨vb,vl,rd⟩:=x2.z.reads;simp[rd.f];refine ah V0 (xZ (b:=((k+1:Nat):Int)) (rd.rd (K8 q2.z)) (by show m2.blocks.length<=_;rw[q2.z.len];omega)) ?_;rintro vq h3 ⟨hle3,hq⟩;obtain⟨W3,hW3,x3,sq⟩:=x2.QD hle3 hq;clear rd hq;have hpl:(aJ m2.f ((k+1:Nat):Int)).length<=n:=by have:=pU (p:=λa=>decide (((k+1:Nat):Int)∈(nth m2.f.blocks a).term.to)) (x:=λa=>(a:Int)) m2.f.blocks.length;unfold aJ;rw[show m2.f.blocks.length=n from q2.z.len]at this ⊢;exact this
  have hpr : ∀j,j<(aJ m2.f ((k+1:Nat):Int)).length->∃c:Nat,nth (aJ m2.f ((k+1:Nat):Int)) j=c/\c<n:=λj hj=>by obtain⟨c,h1,h2⟩:=Aa _ j hj;exact⟨c,h1,by rw[show m2.f.blocks.length=n from q2.z.len]at h2;exact h2⟩
  generalize aJ m2.f ((k+1:Nat):Int)=pl at sq hpl hpr hK2;obtain⟨r0,r1⟩:=hr (k+1);subst hy;refine aa λy hy=>?_;simp;subst hy;refine JV (vr:=vr) (vt:=vt) (vp:=vp) (vd:=vd) (vq:=vq) (b:=k+1) (cnt:=(nth lp (k+1)).toNat) x3 h5 f71 f72 q2 pc2 hlp V4 V4 V4 V4 V4 V4 hp V4 sq V4 hpr (by simp[bh,af,ag]) λh4 x4=>?_;simp;refine hK2 () _ _ rfl rfl (x4.up hW3)
 rintro _ h2 x2;have e:n-1+1=n:=by omega
 have:=hQ h2 x2;simpa[e]using this
theorem GM{a p:Nat}{x0:BL × MS}(q:B2 n a p x0)(hn:n<=10)(hp:p<=100)(ha:16000<=a): ∀j,j<=n->B2 n (a+600*j) p (up (bo s to n) j x0):=by
 intro j;induction j with
 | zero=>intro _;exact q
 | succ j ih=>intro hj;have:=uk (s:=s) (to:=to) (b:=j) (ih V4) V4 hn hp V4 λh=>pE h;exact⟨this.z.mono V4 (RQ _) (RQ _),this.len,this.none⟩
theorem MX{a p:Nat}{x0:BL × MS}(q:B2 n a p x0)(hn:n<=10)(hp:p<=100)(ha:16000<=a)(j:Nat):B2 n (a+600*n*j) p (up (λ_=>up (bo s to n) n) j x0):=by
 induction j with
 | zero=>exact q
 | succ j ih=>have:=GM (s:=s) (to:=to) ih hn hp V4 n (RQ _);exact⟨this.z.mono (by rw[Ug];omega) (RQ _) (RQ _),this.len,this.none⟩
theorem Mh{a p:Nat}{x0:BL × MS}(x:Nx s M vs W0 h (o0.upd (6,0) (it T.bool vd x0.1)) x0.2)(hto:SlRd W0 vt to)(htl:to.length=n)(f7:o0 (7,0)=VF)(f90:o0 (9,0)=VF)(f91:o0 (9,1)=VF)(q:B2 n a p x0)(hn:n<=9)(hp:p<=100)(ha:16000<=a)(ha2:a<=30000)(h0:bh [2,3,4,5,7,11,12] ρ=[(2,vr),(3,ptz M),(4,VB VC n),(5,vt),(7,vp),(11,vd),(12,VB VC 0)])(hQ : ∀h':Heap,Nx s M vs W0 h' (o0.upd (6,0) (it T.bool vd (up (λ_=>up (bo s to n) n) n x0).1)) (up (λ_=>up (bo s to n) n) n x0).2->Q .normal [(2,vr),(3,ptz M),(4,VB VC n),(5,vt),(7,vp),(11,vd),(12,VB VC n)] h'):
  LC.wp VK (.block 6 (.loop L.au.l4)) Q ρ h:=by
 simp only[aW];refine dQ [2,3,4,5,7,11,12] (fun(_:Unit) j=>[vr,ptz M,VB VC n,vt,vp,vd,VB VC j]) (λ_ j h2=>Nx s M vs W0 h2 (o0.upd (6,0) (it T.bool vd (up (λ_=>up (bo s to n) n) j x0).1)) (up (λ_=>up (bo s to n) n) j x0).2) n ()
  rfl V4 h0 x (λ_ _=>rfl) (λv k h2 hk2 x2=>by simp) ?_ ?_
 ·rintro _ t h2 hlt x2 K2 hK2;have q2:=MX (s:=s) (to:=to) q V4 hp ha t;have hbd:600*n*t<=5400*9:=T7 V4 V4;have e2:up (λ_=>up (bo s to n) n) (t+1) x0=up (bo s to n) n (up (λ_=>up (bo s to n) n) t x0):=rfl;rw[e2]at hK2;generalize up (λ_=>up (bo s to n) n) t x0=y at x2 hK2 q2;simp only[aW];refine aa λy hy=>?_;simp;subst hy;refine My (vr:=vr) (vt:=vt) (vp:=vp) (vd:=vd) (t:=t) x2 hto htl f7 f90 f91 q2 V4 hp V4 V4 (by simp[bh,af,ag]) λh3 x3=>?_;simp;exact hK2 () _ _ rfl rfl x3
 rintro _ h2 x2;exact hQ h2 x2
end
section
variable {s:List Int}
theorem fJ:1<=aS s/\aS s<=9:=by have:=bT (s:=s) (at_:=1) (n:=9) V6;unfold aS;omega
theorem Ig:((aS s:Nat):Int)=1+aH s 1 9:=by have:=bT (s:=s) (at_:=1) (n:=9) V6;unfold aS;omega
theorem E2:(yi s).ok 4:=by have:=bT (s:=s) (at_:=0) (n:=5) V6;refine⟨by show 2<=4;omega,by show 0<=aH s 0 5;omega,by show aH s 0 5<=_;omega,by show 0<=4;omega,λi=>?_⟩;show(nth ([]:List BlkD) i).ins.length<=4;rw[bH V5];show 0<=4;omega
theorem C3:TgK (aS s) 112 (ft s):=by
 obtain⟨h1,h2⟩:=fJ (s:=s);have k1:TgK (aS s) 4 (List.replicate (aS s) [],yi s):=⟨by simp,λi=>by
  rcases RX i (aS s)with hi | hi
  ·rw[aD hi];show 0<=4;omega
  rw[bH (by simpa using hi)];show 0<=4;omega,E2⟩;exact(GK (s:=s) (CV (s:=s) k1 (aS s-1)) (aS s)).mono V4
def tL (m m':MS):Prop:=m'.ps=m.ps/\m'.blocks=m.blocks/\m'.next=m.next/\m'.live=m.live
theorem KF{m:MS}{k:Nat}{x:TgS}(h:tL m x.2):tL m (tgA s k x).2:=by unfold tgA;split<;>exact h
theorem Kw{m:MS}{x:TgS}(h:tL m x.2):tL m (tgI s n b x).2:=by
 unfold tgI;simp only;repeat' split
 all_goals exact h
theorem LN{m:MS}{x:TgS}(h:tL m x.2):tL m (tgB s n b x).2:=
 xk (λx:TgS=>tL m x.2) (λ_ _ h=>Kw h) _ _ h
theorem uU:tL (yi s) (ft s).2:=
 xk (λx:TgS=>tL (yi s) x.2) (λ_ _ h=>LN h) _ _ (xk (λx:TgS=>tL (yi s) x.2) (λ_ _ h=>KF h) _ _ ⟨rfl,rfl,rfl,rfl⟩)
theorem Dv {m:MS} {a n:Nat} {to:List (List Int)} (z:Sz n a 0 0 m) (g:Gd m) (pc : ∀j,(nth m.blocks j).phis.length=0) (ht : ∀j,(nth to j).length<=1000) : ∀k,Sz n a 0 0 (up (λb m=>MS.jZ m b (nth to b)) k m)/\Gd (up (λb m=>MS.jZ m b (nth to b)) k m)
 | 0=>⟨z,g⟩
 | k+1=>by obtain⟨h1,h2⟩:=Dv z g pc ht k;exact⟨h1.iz (h1.phis k) (h1.ins k),h2.jZ (ht k)⟩
theorem wZ{j:Nat}:(nth (List.replicate n rY) j).phis.length=0/\(nth (List.replicate n rY) j).ins.length=0:=by
 rcases RX j n with hj | hj
 ·rw[aD hj];exact⟨rfl,rfl⟩
 rw[bH (by simpa using hj)];exact⟨rfl,rfl⟩
theorem E6:Sz (aS s) 200 0 0 (ni s)/\Gd (ni s):=by
 have k:=C3 (s:=s);have e:=uU (s:=s);have t:=bT (s:=s) (at_:=0) (n:=5) V6;refine Dv ⟨?_,?_,?_,?_,?_,?_,?_,λj=>?_,λj=>?_⟩ (λj hj=>?_) (λj=>(wZ).1) (λj=>by have:=k.row j;omega) _
 ·show(ft s).2.at_<=200;have:=k.ok.at_;omega
 ·exact k.ok.n0
 ·show(ft s).2.next<=_;have:=k.ok.next;omega
 ·show(ft s).2.live.length<=200;have:=k.ok.live;omega
 ·show 0<=(ft s).2.ps;rw[e.1];show 0<=aH s 0 5;omega
 ·show(ft s).2.ps<=4;rw[e.1];show aH s 0 5<=4;omega
 ·show(List.replicate (aS s) rY).length=_;simp
 ·show(nth (List.replicate (aS s) rY) j).phis.length<=0;rw[(wZ).1];omega
 ·show(nth (List.replicate (aS s) rY) j).ins.length<=0;rw[(wZ).2];omega
 have hj:j<aS s:=by simpa using hj
 show GdB (nth (List.replicate (aS s) rY) j);rw[aD hj];exact⟨λi h=>(by cases h),by show 0<=10;omega,by show 0<=1000;omega,λi h=>(by cases h)⟩
theorem sQ {m:MS} {b:Nat} (hb:b<m.blocks.length) : ∀c j,(nth (up (λ_=>dD b) c m).blocks j).phis.length=(nth m.blocks j).phis.length+(if j=b then c else 0)/\(up (λ_=>dD b) c m).blocks.length=m.blocks.length
 | 0,j=>⟨by show(nth m.blocks j).phis.length=_;split<;>omega,rfl⟩
 | c+1,j=>by
  obtain⟨h1,h2⟩:=sQ hb c j;obtain⟨h3,_⟩:=sQ hb c b;have e:(up (λ_=>dD b) (c+1) m).blocks=(up (λ_=>dD b) c m).blocks.set b { nth (up (λ_=>dD b) c m).blocks b with phis:=(nth (up (λ_=>dD b) c m).blocks b).phis++[⟨(up (λ_=>dD b) c m).next,[]⟩] }:=rfl;rw[e];refine⟨?_,by rw[Sv];exact h2⟩;rcases RX j m.blocks.length with hl | hl
  ·rw[bj (by rw[h2];exact hl)];by_cases ej:b=j
   ·subst ej;rw[if_pos rfl,if_pos rfl];rw[if_pos rfl]at h3;show(_++[_]).length=_;rw[RZ,h3,Sp];omega
   rw[if_neg ej,if_neg (λq=>ej q.symm)];rw[if_neg (λq=>ej q.symm)]at h1;exact h1
  rw[bH (by rw[Sv,h2];exact hl),bH hl,if_neg V4];rfl
theorem Bd {n a:Nat} {x:List Int × MS} (p:Ph n a 0 x) (pc:Pc x.1 x.2) (g:Gd x.2) : ∀k,k<n->Pc (up (dL s) k x).1 (up (dL s) k x).2/\Gd (up (dL s) k x).2
 | 0,_=>⟨pc,g⟩
 | k+1,hk=>by
  obtain⟨h1,h2⟩:=Bd p pc g k V4;have q:=Dh (s:=s) p k;have e:up (dL s) (k+1) x=dL s k (up (dL s) k x):=rfl;rw[e];generalize up (dL s) k x=y at h1 h2 q;obtain⟨c0,c1⟩:=qW (s:=s) (m:=y.2) (b:=k+1);have hb:k+1<y.2.took.blocks.length:=by show k+1<y.2.blocks.length;rw[q.z.len];exact hk
  refine⟨λj=>?_,h2.took.nk _⟩;have h3:=(sQ hb (iu s y.2 (k+1)).toNat j).1;show((nth (up (λ_=>dD (k+1)) (iu s y.2 (k+1)).toNat y.2.took).blocks j).phis.length:Int)=nth (y.1.set (k+1) (iu s y.2 (k+1))) j;rw[h3];have h4:=h1 j;have h5:nth y.2.took.blocks j=nth y.2.blocks j:=rfl;rw[h5];rcases RX j y.1.length with hl | hl
  ·rw[bj hl];by_cases ej:k+1=j
   ·subst ej;rw[if_pos rfl,if_pos rfl];rw[q.zero (k+1) V4]at h4;omega
   rw[if_neg ej,if_neg (λr=>ej r.symm)];omega
  have e1:nth (y.1.set (k+1) (iu s y.2 (k+1))) j=default:=bH (by simpa using hl);have e2:nth y.1 j=default:=bH hl;rw[e1];rw[e2]at h4;have:=q.len;rw[if_neg V4];omega
theorem sO:Ph (aS s) 200 (aS s-1) (gJ s)/\Pc (gJ s).1 (gJ s).2/\Gd (gJ s).2:=by
 obtain⟨h1,h2⟩:=fJ (s:=s);obtain⟨z,g⟩:=E6 (s:=s);have hz : ∀j,nth (List.replicate (aS s) (0:Int)) j=0:=λj=>by
  rcases RX j (aS s)with hj | hj
  ·rw[aD hj]
  rw[bH (by simpa using hj)];rfl
 have p0:Ph (aS s) 200 0 (List.replicate (aS s) (0:Int),ni s):=⟨z,by simp,λj _=>hz j,λj=>by rw[hz];omega⟩;have pc:Pc (List.replicate (aS s) (0:Int)) (ni s):=λj=>by have:=z.phis j;rw[hz];omega
 obtain⟨q1,q2⟩:=Bd (s:=s) p0 pc g (aS s-1) V4;exact⟨Dh p0 _,q1,q2⟩
theorem Gd.jJ {to:List (List Int)} {n b:Nat} {dn:BL} {away:List BL} {m:MS} (g:Gd m) (ht:(nth to b).length<=1000):Gd (jJ s to n dn away b m):=by have g1:Gd (MS.took { m with live:=nh m dn away b n }):=g;exact(Gd.eV g1 _).QS ht
theorem Gd.bo {to:List (List Int)} {n b:Nat} {x:BL × MS} (g:Gd x.2) (ht:(nth to b).length<=1000):Gd (bo s to n b x).2:=by
 unfold Go.Lft.bo;split
 ·exact g.jJ ht
 exact g
structure M4 (n a p:Nat) (lp:List Int) (x:BL × MS):Prop where
 b2:B2 n a p x
 gd:Gd x.2
 pc:Pc lp x.2
theorem M4.step{to:List (List Int)}{n a p b:Nat}{lp:List Int}{x:BL × MS}(q:M4 n a p lp x)(hb:b<n)(hn:n<=10)(hp:p<=100)(ha:16000<=a)(ht : ∀j,(nth to j).length<=1000):M4 n (a+600) p lp (bo s to n b x):=
 ⟨uk q.b2 hb hn hp ha λh=>pE h,q.gd.bo (ht b),q.pc.bo (by rw[q.b2.z.len];exact hb)⟩
theorem M4.blk{a p:Nat}{x:BL × MS}(q:M4 n a p lp x)(hn:n<=10)(hp:p<=100)(ha:16000<=a)(ht : ∀j,(nth to j).length<=1000)(k:Nat)(hk:k<=n):M4 n (a+600*k) p lp (up (Go.Lft.bo s to n) k x):=by
 induction k with
 | zero=>exact q
 | succ k ih=>have:=(ih V4).step (s:=s) (to:=to) (b:=k) V4 hn hp V4 ht;exact⟨⟨this.b2.z.mono V4 (RQ _) (RQ _),this.b2.len,this.b2.none⟩,this.gd,this.pc⟩
theorem M4.turn{a p:Nat}{x:BL × MS}(q:M4 n a p lp x)(hn:n<=10)(hp:p<=100)(ha:16000<=a)(ht : ∀j,(nth to j).length<=1000)(k:Nat):M4 n (a+600*n*k) p lp (up (λ_=>up (Go.Lft.bo s to n) n) k x):=by
 induction k with
 | zero=>exact q
 | succ k ih=>have:=ih.blk (s:=s) (to:=to) hn hp V4 ht n (RQ _);exact⟨⟨this.b2.z.mono (by rw[Ug];omega) (RQ _) (RQ _),this.b2.len,this.b2.none⟩,this.gd,this.pc⟩
theorem FE:B2 (aS s) 16000 27 (List.replicate (aS s) VJ,(gJ s).2):=by obtain⟨h1,h2⟩:=fJ (s:=s);obtain⟨p,_,_⟩:=sO (s:=s);refine⟨p.z.mono V4 V4 V4,by simp,λj hj _=>?_⟩;have:=p.z.ins j;show(nth (gJ s).2.blocks j).ins.length=0;omega
theorem y3:P3 (aS s) 70000 27 700 (pG s).2/\Pc (gJ s).1 (pG s).2:=by
 obtain⟨h1,h2⟩:=fJ (s:=s);obtain⟨p,pc,g⟩:=sO (s:=s);have ht : ∀j,(nth (ft s).1 j).length<=1000:=λj=>by have:=(C3 (s:=s)).row j;omega
 have q0:M4 (aS s) 16000 27 (gJ s).1 (List.replicate (aS s) VJ,(gJ s).2):=⟨FE,g,pc⟩;have q:=q0.turn (s:=s) (to:=(ft s).1) V4 V4 V4 ht (aS s);have hbd:600*aS s*aS s<=5400*9:=T7 V4 V4;exact⟨⟨q.b2.z.mono V4 (RQ _) (RQ _),q.gd⟩,q.pc⟩
theorem rQ:P3 (aS s) 72000 27 1000 (fP s):=by obtain⟨h1,h2⟩:=fJ (s:=s);obtain⟨p,_,_⟩:=sO (s:=s);obtain⟨q,pc⟩:=y3 (s:=s);have:=(Cq (s:=s) q pc (λj=>(p.rng j).2) h2 (aS s-1)).1;exact this.mono V4 (RQ _) V4
theorem NT:SmF (iq s):=(rQ (s:=s)).g.smF (rQ (s:=s)).z (by have:=fJ (s:=s);omega) V4 V4
theorem sK:0<=(iq s).params/\(iq s).params<=4:=⟨(rQ (s:=s)).z.ps0,(rQ (s:=s)).z.ps1⟩
end
def mkB (x:BlkD):List Int:=x.phis.map PhiD.dst++x.ins.flatMap bg
def Sd (m:MS) (b p:Nat) (v:Int):Prop:=
 (0<=v/\v<m.ps)\/v∈(nth m.blocks b).phis.map PhiD.dst\/v∈((nth m.blocks b).ins.take p).flatMap bg\/∃a,a<m.blocks.length/\a≠b/\v∈mkB (nth m.blocks a)/\¬Re (ofG m.blocks) a b
structure Ext (m m':MS):Prop where
 ps:m'.ps=m.ps
 len:m'.blocks.length=m.blocks.length
 to : ∀j,(nth m'.blocks j).term.to=(nth m.blocks j).term.to
 phis : ∀j,∀v∈(nth m.blocks j).phis.map PhiD.dst,v∈(nth m'.blocks j).phis.map PhiD.dst
 ins : ∀j,∃l,(nth m'.blocks j).ins=(nth m.blocks j).ins++l
theorem IM{a b:List BlkD}(hl:a.length=b.length)(h : ∀j,(nth a j).term.to=(nth b j).term.to):ofG a=ofG b:=by unfold ofG;rw[hl];exact congrFun (congrArg rows (funext λi=>by rw[h i])) _
section
variable {m m' m2:MS}
theorem Ext.gr(e:Ext m m'):ofG m'.blocks=ofG m.blocks:=IM e.len e.to
theorem Ext.refl:Ext m m:=⟨rfl,rfl,λ_=>rfl,λ_ _ h=>h,λ_=>⟨[],by simp⟩⟩
theorem Ext.trans (e:Ext m m') (f:Ext m' m2):Ext m m2:=⟨f.ps.trans e.ps,f.len.trans e.len,λj=>(f.to j).trans (e.to j),λj v h=>f.phis j v (e.phis j v h),λj=>by obtain⟨l,h⟩:=e.ins j;obtain⟨k,g⟩:=f.ins j;exact⟨l++k,by rw[g,h,Sc]⟩⟩
theorem Ext.mkB (e:Ext m m') {j:Nat} {v:Int} (h:v∈mkB (nth m.blocks j)):v∈mkB (nth m'.blocks j):=by
 obtain⟨l,g⟩:=e.ins j;unfold Go.Lft.mkB at *;rw[g,Tm];rcases RW.1 h with h | h
 ·exact SA _ (e.phis _ _ h)
 exact SE _ (SA _ h)
theorem Ext.le(e:Ext m m')(j:Nat):(nth m.blocks j).ins.length<=(nth m'.blocks j).ins.length:=by obtain⟨l,g⟩:=e.ins j;rw[g,RZ];omega
theorem Sd.ext(e:Ext m m'){b p:Nat}{v:Int}(h:Sd m b p v):Sd m' b p v:=by
 rcases h with h | h | h | ⟨a,h1,h2,h3,h4⟩
 ·exact .inl (by rw[e.ps];exact h)
 ·exact .inr (.inl (e.phis _ _ h))
 ·obtain⟨l,g⟩:=e.ins b;refine .inr (.inr (.inl ?_));rw[g,TH,Tm];exact SA _ h
 exact .inr (.inr (.inr ⟨a,by rw[e.len];exact h1,h2,e.mkB h3,by rw[e.gr];exact h4⟩))
theorem Sd.le{p q:Nat}{v:Int}(h:Sd m b p v)(hpq:p<=q):Sd m b q v:=by
 rcases h with h | h | h | h
 ·exact .inl h
 ·exact .inr (.inl h)
 ·refine .inr (.inr (.inl ?_));obtain⟨i,hi,hv⟩:=SS.1 h;exact SS.2 ⟨i,(List.take_sublist_take_left hpq).subset hi,hv⟩
 exact .inr (.inr (.inr h))
theorem Sd.end(e:Ext m m'){v:Int}(h:Sd m b (nth m.blocks b).ins.length v):Sd m' b (nth m'.blocks b).ins.length v:=(h.ext e).le (e.le b)
def NumI (i:InsD):Prop:=(i.op=16->i.dst=0)/\(i.op≠18->i.two=0)
structure Ok (m:MS):Prop where
 p0:0<=m.ps
 pn:m.ps<=m.next
 op : ∀b,b<m.blocks.length->∀i∈(nth m.blocks b).ins,oO i=VJ/\NumI i
 nd : ∀b,b<m.blocks.length->(mkB (nth m.blocks b)).Nodup
 dj : ∀a b,a<m.blocks.length->b<m.blocks.length->a≠b->∀v∈mkB (nth m.blocks a),v∉mkB (nth m.blocks b)
 rg : ∀b,b<m.blocks.length->∀v∈mkB (nth m.blocks b),m.ps<=v/\v<m.next
 tk : ∀b,b<m.blocks.length->∀i,i<(nth m.blocks b).ins.length->∀v∈(nth (nth m.blocks b).ins i).args,Sd m b i v
 tm : ∀b,b<m.blocks.length->∀v∈(nth m.blocks b).term.args,Sd m b (nth m.blocks b).ins.length v
theorem Ok.at(q:Ok m){a:Nat}{nx:Int}{l:List Int}(h:m.next<=nx):Ok ⟨a,m.ps,m.blocks,nx,l⟩:=
 ⟨q.p0,Vj q.pn h,q.op,q.nd,q.dj,λb hb v hv=>⟨(q.rg b hb v hv).1,Int.lt_of_lt_of_le (q.rg b hb v hv).2 h⟩,q.tk,q.tm⟩
theorem tF{j:Nat}{i:InsD}(hb:b<m.blocks.length):nth (m.add b i).blocks j=if b=j then{ nth m.blocks b with ins:=(nth m.blocks b).ins++[i] } else nth m.blocks j:=by
 show nth (m.blocks.set b _) j=_;rcases RX j m.blocks.length with hl | hl
 ·rw[bj hl]
 rw[bH (by simpa using hl),if_neg V4,bH hl]
theorem CK{i:InsD}(hb:b<m.blocks.length):Ext m (m.add b i):=by
 refine⟨rfl,mC,λj=>?_,λj=>?_,λj=>?_⟩<;>rw[tF hb]<;>split
 ·rename_i e;rw[e]
 ·rfl
 ·rename_i e;rw[e];exact λ_ h=>h
 ·exact λ_ h=>h
 ·rename_i e;rw[e];exact⟨[i],rfl⟩
 exact⟨[],by simp⟩
theorem yF{x:BlkD}{i:InsD}:mkB { x with ins:=x.ins++[i] }=mkB x++bg i:=by unfold mkB;simp
theorem Ok.add (q:Ok m) {b a:Nat} {nx:Int} {i:InsD} {l:List Int} (hb:b<m.blocks.length) (hn:m.next<=nx) (hf : ∀v∈bg i,m.next<=v/\v<nx) (hd:(bg i).Nodup) (ho:oO i=VJ/\NumI i) (ha : ∀v∈i.args,Sd m b (nth m.blocks b).ins.length v) :
  Ok (MS.add ⟨a,m.ps,m.blocks,nx,l⟩ b i):=by
 have q1:=q.pn;have q:=q.at (a:=a) (l:=l) hn;have ha : ∀v∈i.args,Sd ⟨a,m.ps,m.blocks,nx,l⟩ b (nth m.blocks b).ins.length v:=ha;have q0 : ∀b,b<m.blocks.length->∀v∈mkB (nth m.blocks b),v<m.next:=λb hb v hv=>(‹Ok m›.rg b hb v hv).2;have hl:((⟨a,m.ps,m.blocks,nx,l⟩:MS).add b i).blocks.length=m.blocks.length:=mC;have e:=CK (m:=⟨a,m.ps,m.blocks,nx,l⟩) (i:=i) hb;have hnth : ∀j,nth ((⟨a,m.ps,m.blocks,nx,l⟩:MS).add b i).blocks j=if b=j then{ nth m.blocks b with ins:=(nth m.blocks b).ins++[i] } else nth m.blocks j:=λj=>tF hb;refine⟨q.p0,q.pn,λc hc=>?_,λc hc=>?_,λc d hc hd' hcd=>?_,λc hc=>?_,λc hc=>?_,λc hc=>?_⟩<;>rw[hl]at hc
 ·rw[hnth];split
  ·intro x hx;rcases RW.1 hx with hx | hx
   ·exact q.op b hb x hx
   rw[RR.1 hx];exact ho
  exact q.op c hc
 ·rw[hnth];split
  ·rw[yF];refine SX.2 ⟨q.nd b hb,hd,λx hx y hy=>?_⟩;have:=q0 b hb x hx;have:=(hf y hy).1;omega
  exact q.nd c hc
 ·rw[hl]at hd';rw[hnth,hnth];intro v hv hv';split at hv
  ·rename_i e1;subst e1;rw[if_neg hcd]at hv';rw[yF]at hv;rcases RW.1 hv with hv | hv
   ·exact q.dj _ _ hc hd' hcd v hv hv'
   have:=q0 d hd' v hv';have:=(hf v hv).1;omega
  split at hv'
  ·rename_i e1;subst e1;rw[yF]at hv';rcases RW.1 hv' with hv' | hv'
   ·exact q.dj _ _ hc hd' hcd v hv hv'
   have:=q0 c hc v hv;have:=(hf v hv').1;omega
  exact q.dj _ _ hc hd' hcd v hv hv'
 ·rw[hnth];split
  ·intro v hv;rw[yF]at hv;rcases RW.1 hv with hv | hv
   ·exact q.rg b hb v hv
   have h1:=hf v hv;have h2:m.ps<=m.next:=q1;exact⟨by show m.ps<=v;omega,h1.2⟩
  exact q.rg c hc
 ·intro k hk v hv;refine Sd.ext e ?_;rw[hnth]at hk hv;split at hk
  ·rename_i e1;subst e1;rw[if_pos rfl]at hv;rw[show({ nth m.blocks b with ins:=(nth m.blocks b).ins++[i] }:BlkD).ins=(nth m.blocks b).ins++[i] from rfl]at hk hv;rw[RZ,Sp]at hk;rcases RX k (nth m.blocks b).ins.length with h | h
   ·rw[ay Vv,Tv h,<-ay h]at hv;exact q.tk b hb k h v hv
   have:k=(nth m.blocks b).ins.length:=by omega
   subst this;rw[ay V5,Ur (RQ _)]at hv;simp at hv;exact ha v hv
  rename_i e1;rw[if_neg e1]at hv;exact q.tk c hc k hk v hv
 intro v hv;have ht:(nth ((⟨a,m.ps,m.blocks,nx,l⟩:MS).add b i).blocks c).term=(nth m.blocks c).term:=by
  rw[hnth];split
  ·rename_i e1;rw[e1]
  rfl
 rw[ht]at hv;exact(q.tm c hc v hv).end e
theorem JE{a:Nat}{nx:Int}{i:InsD}{l:List Int}(hb:b<m.blocks.length){v:Int}(hv:v∈bg i):Sd (MS.add ⟨a,m.ps,m.blocks,nx,l⟩ b i) b (nth (MS.add ⟨a,m.ps,m.blocks,nx,l⟩ b i).blocks b).ins.length v:=by rw[tF (m:=⟨a,m.ps,m.blocks,nx,l⟩) hb,if_pos rfl];refine .inr (.inr (.inl ?_));rw[tF (m:=⟨a,m.ps,m.blocks,nx,l⟩) hb,if_pos rfl];show v∈((((nth m.blocks b).ins++[i]).take ((nth m.blocks b).ins++[i]).length).flatMap bg);rw[SD,Tm];exact SE _ (by simpa using hv)
structure In (b:Nat) (m:MS):Prop where
 ok:Ok m
 lt:b<m.blocks.length
 live : ∀v∈m.live,Sd m b (nth m.blocks b).ins.length v
structure Wk (b k:Nat) (m m':MS):Prop where
 inn:In b m'
 live : ∀v∈m.live,v∈m'.live
 n0:m.next<=m'.next
 nx:m'.next<=m.next+k
 ins:(nth m'.blocks b).ins.length<=(nth m.blocks b).ins.length+k
 ext:Ext m m'
variable {b c k l:Nat} {s:List Int}
theorem Wk.refl (q:In b m):Wk b 0 m m:=⟨q,λ_ h=>h,SW _,by omega,RQ _,.refl⟩
theorem Wk.trans (g:Wk b k m m') (h:Wk b l m' m2):Wk b (k+l) m m2:=
 ⟨h.inn,λv hv=>h.live v (g.live v hv),Vj g.n0 h.n0,by have:=g.nx;have:=h.nx;omega,by have:=g.ins;have:=h.ins;omega,g.ext.trans h.ext⟩
theorem Wk.mono(g:Wk b k m m')(h:k<=l):Wk b l m m':=⟨g.inn,g.live,g.n0,by have:=g.nx;omega,by have:=g.ins;omega,g.ext⟩
theorem In.took (q:In b m):In b m.took:=⟨q.ok.at (SW _),q.lt,q.live⟩
theorem Ext.same(e:Ext m m'){m2:MS}(h1:m2.ps=m'.ps)(h2:m2.blocks=m'.blocks):Ext m m2:=by obtain⟨a,b,c,d,f⟩:=e;exact⟨by rw[h1];exact a,by rw[h2];exact b,by rw[h2];exact c,by rw[h2];exact d,by rw[h2];exact f⟩
theorem Ext.frm{m2:MS}(e:Ext m2 m')(h1:m2.ps=m.ps)(h2:m2.blocks=m.blocks):Ext m m':=by obtain⟨a,b,c,d,f⟩:=e;rw[h2]at b c d f;exact⟨by rw[<-h1];exact a,b,c,d,f⟩
theorem Wk.took (g:Wk b k m m'):Wk b k m m'.took:=⟨g.inn.took,g.live,g.n0,g.nx,g.ins,g.ext.same rfl rfl⟩
theorem In.add (q:In b m) {a:Nat} {j:Nat} {i:InsD} (hj:j<=2) (hf : ∀v∈bg i,m.next<=v/\v<m.next+j) (hd:(bg i).Nodup) (ho:oO i=VJ/\NumI i) (ha : ∀v∈i.args,v∈m.live) :
  Wk b (max 1 j) m (MS.add ⟨a,m.ps,m.blocks,m.next+j,m.live⟩ b i)/\∀v∈bg i,v∈(MS.add ⟨a,m.ps,m.blocks,m.next+j,m.live⟩ b i).live:=by
 have e:Ext m (MS.add ⟨a,m.ps,m.blocks,m.next+j,m.live⟩ b i):=(CK (m:=⟨a,m.ps,m.blocks,m.next+j,m.live⟩) (i:=i) q.lt).frm rfl rfl;refine⟨⟨⟨q.ok.add q.lt V4 hf hd ho λv hv=>q.live v (ha v hv),by rw[e.len];exact q.lt,λv hv=>?_⟩,λv hv=>SA _ hv,by show m.next<=m.next+j;omega,by show m.next+j<=_;omega,?_,e⟩,λv hv=>SE _ hv⟩
 ·rcases RW.1 (show v∈m.live++bg i from hv)with h | h
  ·exact(q.live v h).end e
  exact JE q.lt h
 rw[tF (m:=⟨a,m.ps,m.blocks,m.next+j,m.live⟩) q.lt,if_pos rfl];show((nth m.blocks b).ins++[i]).length<=_;rw[RZ,Sp];omega
variable{op:Int}
theorem In.one(q:In b m){a:Nat}{x:List Int}{im:I32}(h16:op≠16)(h18:op≠18)(ho:oO ⟨op,m.next,0,x,im⟩=VJ)(ha : ∀v∈x,v∈m.live):
  Wk b 1 m (MS.add ⟨a,m.ps,m.blocks,m.next+1,m.live⟩ b ⟨op,m.next,0,x,im⟩)/\m.next∈(MS.add ⟨a,m.ps,m.blocks,m.next+1,m.live⟩ b ⟨op,m.next,0,x,im⟩).live:=by
 have e:bg ⟨op,m.next,0,x,im⟩=[m.next]:=by unfold bg;rw[if_neg h16,if_neg h18]
 have:=q.add (a:=a) (j:=1) (i:=⟨op,m.next,0,x,im⟩) V4 (by rw[e];intro v hv;rw[RR.1 hv];omega) (by rw[e];simp) ⟨ho,λh=>absurd h h16,λ_=>rfl⟩ ha;exact⟨this.1,this.2 _ (by rw[e];exact RR.2 rfl)⟩
theorem In.constant (q:In b m) {n:Int}:Wk b 1 m (m.constant b n)/\m.next∈(m.constant b n).live:=
 q.one (a:=m.at_) (op:=1) V6 V6 rfl λv hv=>by cases hv
theorem In.two (q:In b m) {op x y:Int} (h1:2<=op) (h2:op<=14) (hx:x∈m.live) (hy:y∈m.live):Wk b 1 m (m.two b op x y)/\m.next∈(m.two b op x y).live:=by
 refine q.one (a:=m.at_) (op:=op) V4 V4 ?_ λv hv=>?_
 ·have e1:¬op<1:=by omega
  have e2:¬18<op:=by omega
  have e3:op≠1:=by omega
  have e4:op≠15:=by omega
  have e5:op≠17:=by omega
  simp[oO,td,e1,e2,e3,e4,e5]
 rcases Sb.1 hv with rfl | hv
 ·exact hx
 rw[RR.1 hv];exact hy
theorem In.fo(q:In b m):Wk b 1 m (aI s m b).2/\(aI s m b).1∈(aI s m b).2.live:=by
 unfold aI;split
 ·obtain⟨h1,h2⟩:=q.took.took.constant (n:=jY s m);exact⟨(Wk.refl q).took.took.trans h1,h2⟩
 split
 ·obtain⟨h1,h2⟩:=q.took.took.took.took.took.constant (n:=jY s m.took.took.took);exact⟨(Wk.refl q).took.took.took.took.took.trans h1,h2⟩
 rename_i h _;refine⟨(Wk.refl q).took.took.took.mono V4,?_⟩;show xY s m∈m.live;have:=bT (s:=s) (at_:=m.at_) (n:=(m.live.length:Int)) V4;unfold xY;refine aX ?_;split<;>omega
theorem In.bin(q:In b m)(h1:2<=op)(h2:op<=14):Wk b 4 m (binS s m b op):=by
 obtain⟨w1,e1⟩:=q.fo (s:=s);obtain⟨w2,e2⟩:=w1.inn.fo (s:=s);unfold binS;simp only;split
 ·obtain⟨w3,e3⟩:=w2.inn.took.took.constant (n:=IntKind.i32.wrap (IntKind.i64.wrap (aH s ((aI s (aI s m b).2 b).2.at_+1) 40-8)));obtain⟨w4,_⟩:=w3.inn.two h1 h2 (w3.live _ (w2.live _ e1)) e3;exact((w1.trans w2).took.took.trans w3).trans w4
 obtain⟨w4,_⟩:=w2.inn.took.two h1 h2 (w2.live _ e1) e2;exact((w1.trans w2).took.trans w4).mono V4
theorem In.ltu(q:In b m):Wk b 3 m (ltuS s m b):=by obtain⟨w1,e1⟩:=q.fo (s:=s);obtain⟨w2,e2⟩:=w1.inn.fo (s:=s);obtain⟨w3,_⟩:=w2.inn.two (op:=13) V6 V6 (w2.live _ e1) e2;exact(w1.trans w2).trans w3
theorem In.div(q:In b m):Wk b 4 m (divS s m b):=by
 obtain⟨w1,e1⟩:=q.fo (s:=s);obtain⟨w2,e2⟩:=w1.inn.took.constant (n:=IntKind.i32.wrap (aH s (aI s m b).2.at_ 12));unfold divS;simp only;split
 ·obtain⟨w3,e3⟩:=w2.inn.took.took.constant (n:=IntKind.i32.wrap (1+IntKind.i32.wrap (aH s (((aI s m b).2.took.constant b (IntKind.i32.wrap (aH s (aI s m b).2.at_ 12))).at_+1) 12)));obtain⟨w4,_⟩:=w3.inn.two (op:=14) V6 V6 (w3.live _ (w2.live _ e1)) e3;exact(((w1.took.trans w2).took.took.trans w3).trans w4)
 obtain⟨w4,_⟩:=w2.inn.took.two (op:=14) V6 V6 (w2.live _ e1) e2;exact((w1.took.trans w2).took.trans w4).mono V4
theorem In.mulw(q:In b m):Wk b 4 m (vW s m b):=by
 obtain⟨w1,e1⟩:=q.fo (s:=s);obtain⟨w2,e2⟩:=w1.inn.fo (s:=s);generalize hr:aI s (aI s m b).2 b=r at w2 e2;have e:bg ⟨18,r.2.next,r.2.next+1,[(aI s m b).1,r.1],⟨0⟩⟩=[r.2.next,r.2.next+1]:=rfl;have:=w2.inn.add (a:=r.2.at_) (j:=2) (i:=⟨18,r.2.next,r.2.next+1,[(aI s m b).1,r.1],⟨0⟩⟩) V4 (by
  rw[e];intro v hv;rcases Sb.1 hv with rfl | hv
  ·omega
  ·rw[RR.1 hv];omega) (by rw[e];simp;omega) ⟨rfl,λh=>absurd h (show(18:Int)≠16 by decide),λh=>absurd rfl h⟩ (λv hv=>by
  rcases Sb.1 hv with rfl | hv
  ·exact w2.live _ e1
  rw[RR.1 hv];exact e2);have h:=(w1.trans w2).trans this.1;have e3:vW s m b=MS.add ⟨r.2.at_,r.2.ps,r.2.blocks,r.2.next+2,r.2.live⟩ b ⟨18,r.2.next,r.2.next+1,[(aI s m b).1,r.1],⟨0⟩⟩:=by unfold vW;simp only[hr];unfold MS.add MS.aV;simp only[MS.mk.injEq,and_true,true_and];omega
 rw[e3];exact h.mono V4
theorem In.args (q:In b m) : ∀n,Wk b n m (up (fQ s b) n ([],m)).2/\(up (fQ s b) n ([],m)).1.length=n/\∀v∈(up (fQ s b) n ([],m)).1,v∈(up (fQ s b) n ([],m)).2.live
 | 0=>⟨.refl q,rfl,λv hv=>by cases hv⟩
 | n+1=>by
  obtain⟨h1,h2,h3⟩:=In.args q n;obtain⟨w,e⟩:=h1.inn.fo (s:=s);refine⟨h1.trans w,?_,λv hv=>?_⟩
  ·show(_++[_]).length=_;rw[RZ,h2];rfl
  rcases RW.1 (show v∈(up (fQ s b) n ([],m)).1++[(aI s (up (fQ s b) n ([],m)).2 b).1] from hv)with h | h
  ·exact w.live _ (h3 v h)
  rw[RR.1 h];exact e
theorem In.call(q:In b m):Wk b 5 m (oR s m b):=by
 unfold oR;simp only;have ht:=bT (s:=s) (at_:=m.at_) (n:=5) V6;obtain⟨h1,h2,h3⟩:=q.took.args (s:=s) (aH s m.at_ 5).toNat;generalize up (fQ s b) (aH s m.at_ 5).toNat ([],m.took)=r at h1 h2 h3;have hl:((r.1.length:Nat):Int)<=4:=by omega
 have w:=h1.inn.one (a:=r.2.at_+1) (op:=17) (x:=r.1) (im:=⟨IntKind.i32.wrap (aH s r.2.at_ 5)⟩) V6 V6 (by simp[oO,td];omega) h3;have h:Wk b 0 m m.took:=(Wk.refl q).took;exact((h.trans h1).trans w.1).mono V4
theorem In.addr(q:In b m):Wk b 5 m (jQ s m b).2/\(jQ s m b).1∈(jQ s m b).2.live:=by
 obtain⟨w1,e1⟩:=q.took.constant (n:=IntKind.i32.wrap (aH s m.at_ 9));have h:Wk b 0 m m.took:=(Wk.refl q).took;have w1:=h.trans w1;have e1:m.next∈_:=e1;unfold jQ;simp only;split
 ·obtain⟨w2,e2⟩:=w1.inn.took.fo (s:=s);obtain⟨w3,e3⟩:=w2.inn.constant (n:=7);obtain⟨w4,e4⟩:=w3.inn.two (op:=5) V6 V6 (w3.live _ e2) e3;obtain⟨w5,e5⟩:=w4.inn.two (op:=2) V6 V6 (w4.live _ (w3.live _ (w2.live _ e1))) e4;exact⟨(((w1.took.trans w2).trans w3).trans w4).trans w5,e5⟩
 exact⟨w1.took.mono V4,e1⟩
theorem In.off(q:In b m):Wk b 0 m (offS s m).2/\(offS s m).2.live=m.live:=by
 unfold offS;split
 ·exact⟨(Wk.refl q).took.took.took.took,rfl⟩
 exact⟨(Wk.refl q).took.took,rfl⟩
theorem In.memory(q:In b m){st:Bool}:Wk b 7 m (jd s m b st):=by
 obtain⟨w1,e1⟩:=q.addr (s:=s);obtain⟨w2,_⟩:=w1.inn.off (s:=s);unfold jd;simp only;split
 ·obtain⟨w3,e3⟩:=w2.inn.fo (s:=s);generalize hr:aI s (offS s (jQ s m b).2).2 b=r at w3 e3;have:=w3.inn.add (a:=r.2.at_) (j:=0) (i:=⟨16,0,0,[(jQ s m b).1,r.1],⟨(offS s (jQ s m b).2).1⟩⟩) V4 (λv hv=>by cases hv) TS ⟨rfl,λ_=>rfl,λ_=>rfl⟩ (λv hv=>by
   rcases Sb.1 hv with rfl | hv
   ·exact w3.live _ (w2.live _ e1)
   rw[RR.1 hv];exact e3);have e:(⟨r.2.at_,r.2.ps,r.2.blocks,r.2.next+((0:Nat):Int),r.2.live⟩:MS)=r.2:=by cases r.2;simp
  rw[e]at this;exact((w1.trans w2).trans w3).trans this.1
 have w:=w2.inn.one (a:=(offS s (jQ s m b).2).2.at_) (op:=15) (x:=[(jQ s m b).1]) (im:=⟨(offS s (jQ s m b).2).1⟩) V6 V6 rfl (λv hv=>by rw[RR.1 hv];exact w2.live _ e1);exact((w1.trans w2).trans w.1).mono V4
theorem In.ij(q:In b m):Wk b 7 m (aN s b m):=by
 have h:Wk b 0 m m.took:=(Wk.refl q).took;have ht:=bT (s:=s) (at_:=m.at_) (n:=20) V6;unfold aN;simp only;split
 ·have h2 : ∀x∈opsL,2<=x/\x<=14:=by decide
  have hl:opsL.length=12:=rfl;have:=h2 _ (aX (l:=opsL) (i:=(aH s m.at_ 20).toNat) V4);exact(h.trans (q.took.bin this.1 this.2)).mono V4
 split
 ·exact(h.trans q.took.ltu).mono V4
 split
 ·exact(h.trans q.took.div).mono V4
 split
 ·exact(h.trans q.took.memory).mono V4
 split
 ·exact(h.trans q.took.call).mono V4
 split
 ·exact(h.trans q.took.mulw).mono V4
 exact((Wk.refl q).took.took.took.trans (q.took.took.took.constant (n:=jY s m.took)).1).mono V4
theorem In.eV (q:In b m) : ∀n,Wk b (7*n) m (up (λ_=>aN s b) n m)
 | 0=>.refl q
 | n+1=>by have h:=In.eV q n;exact(h.trans h.inn.ij).mono V4
theorem In.term(q:In b m){to:List Int}(hl:to.length<=65):Wk b 3 m (e9 s to b m).2/\lh (e9 s to b m).1=VI/\(e9 s to b m).1.to=to/\∀v∈(e9 s to b m).1.args,v∈(e9 s to b m).2.live:=by
 have h:Wk b 0 m m.took:=(Wk.refl q).took;unfold e9;simp only;split
 ·rename_i h0;have hto:to=[]:=List.length_eq_zero_iff.1 h0;split
  ·exact⟨(Wk.refl q).took.took.mono V4,rfl,hto.symm,λv hv=>by cases hv⟩
  split
  ·obtain⟨w,e⟩:=q.took.fo (s:=s);exact⟨(h.trans w).mono V4,rfl,hto.symm,λv hv=>by rw[RR.1 hv];exact e⟩
  exact⟨h.mono V4,rfl,hto.symm,λv hv=>by cases hv⟩
 split
 ·rename_i h1;exact⟨(Wk.refl q).mono V4,by simp[lh,h1],rfl,λv hv=>by cases hv⟩
 split
 ·rename_i h2;obtain⟨w1,e1⟩:=q.fo (s:=s);split
  ·obtain⟨w2,e2⟩:=w1.inn.took.fo (s:=s);generalize aI s (aI s m b).2.took b=r at w2 e2;have hr:=bT (s:=s) (at_:=r.2.at_) (n:=3) V6;have hop : ∀x∈cmpL,11<=x/\x<=13:=by decide
   have hcl:cmpL.length=3:=rfl;have ho:=hop _ (aX (l:=cmpL) (i:=(aH s r.2.at_ 3).toNat) V4);generalize nth cmpL (aH s r.2.at_ 3).toNat=op at ho;have w3:=w2.inn.one (a:=r.2.at_+1) (op:=op) (x:=[(aI s m b).1,r.1]) (im:=⟨0⟩) V4 V4 (by
    have e1:¬op<1:=by omega
    have e2:¬18<op:=by omega
    have e3:op≠1:=by omega
    have e4:op≠15:=by omega
    have e5:op≠17:=by omega
    simp[oO,td,e1,e2,e3,e4,e5]) (λv hv=>by
    rcases Sb.1 hv with rfl | hv
    ·exact w2.live _ e1
    rw[RR.1 hv];exact e2);exact⟨(w1.took.trans w2).trans w3.1,by simp[lh,h2],rfl,λv hv=>by rw[RR.1 hv];exact w3.2⟩
  exact⟨w1.took.mono V4,by simp[lh,h2],rfl,λv hv=>by rw[RR.1 hv];exact e1⟩
 rename_i h0 h1 h2;obtain⟨w1,e1⟩:=q.fo (s:=s);obtain⟨w2,e2⟩:=w1.inn.constant (n:=7);obtain⟨w3,e3⟩:=w2.inn.two (op:=5) V6 V6 (w2.live _ e1) e2;exact⟨(w1.trans w2).trans w3,by simp[lh];omega,rfl,λv hv=>by rw[RR.1 hv];exact e3⟩
end
end Go.Lft
